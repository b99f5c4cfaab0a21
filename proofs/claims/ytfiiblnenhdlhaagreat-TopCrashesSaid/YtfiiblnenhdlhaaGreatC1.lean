/- Part. -/
import Derived.Test.YtfiiblnenhdlhaaGreatC0
set_option linter.unusedVariables false
set_option linter.unusedSimpArgs false
set_option linter.defProp false
set_option maxRecDepth 100000
set_option maxHeartbeats 4000000
namespace Go.Proofs.YtfiiblnenhdlhaaGreat
open Go.RowKit Tryz
variable {Q:Exit->Act->World->Prop}{l7 op:Int}{aBw b base cap fuel g k m n n0 o sz:Nat}{fr:Nat×Nat}{a aA cP:Option Addr}{α β:Type}{F6 e t tc:TypeId}{h2 hd iw ju k2 nA pw rp u xF:Value}{W w w' w1:World}
def oV:List UInt8->List UInt8->Bool:=Op.bytesLess
def akG(a b:UInt8):(a<b)↔a.toNat<b.toNat:=UInt8.lt_iff_toNat_lt
def aaP(a b:UInt8):(a=b)↔a.toNat=b.toNat:=UInt8.toNat_inj.symm
def WV(a b:UInt8)(x y:eg):oV (a::x) (b::y)=(decide (a.toNat<b.toNat)||(decide (a.toNat=b.toNat)&&oV x y)):=by
 show(decide (a<b)||(a==b&&Op.bytesLess x y))=_;have af:decide (a<b)=decide (a.toNat<b.toNat):=by simp[akG]
 have an:(a==b)=decide (a.toNat=b.toNat):=by rw[wP];simp[aaP]
 rw[af,an];rfl
def aaQ(x:eg):oV x []=false:=by cases x<;>rfl
def WW:∀x:eg,oV x x=false
 | []=>rfl
 |a::x=>by rw[WV,WW x];simp
def aaR:∀x y z:eg,oV x y=true->oV y z=true->oV x z=true
 |_,[],_,h,_=>by rw[aaQ]at h;cases h
 |_,_::_,[],_,h=>by rw[aaQ]at h;cases h
 | [],_::_,_::_,_,_=>rfl
 |a::x,b::y,c::z,h,k=>by
  rw[WV]at h k ⊢
  simp only[vK,jS,jT]at h k ⊢
  rcases h with h|⟨h,ta⟩<;>rcases k with k|⟨k,l7⟩
  ·left;omega
  ·left;omega
  ·left;omega
  ·right;exact⟨J,aaR x y z ta l7⟩
def aaS:∀x y:eg,oV x y=false->oV y x=false->x=y
 | [],[],_,_=>rfl
 | [],_::_,h,_=>by cases h
 |_::_,[],_,h=>by cases h
 |a::x,b::y,h,k=>by
  rw[WV]at h k
  simp only[Nk,Bool.and_eq_false_iff,z7]at h k
  have e:a.toNat=b.toNat:=J
  have ta:oV x y=false:=h.2.resolve_left (λn=>n e)
  have l7:oV y x=false:=k.2.resolve_left (λn=>n e.symm)
  rw[aaS x y ta l7,(aaP a b).2 e]
def akH(x y:eg)(h:oV x y=true):oV y x=false:=by
 cases k:oV y x with
 |false=>rfl
 |true=>have:=aaR x y x h k;rw[WW]at this;cases this
def nx(a b:Int):Int:=if a<b then -1 else if b<a then 1 else 0
def Kn(x y:List UInt8):Int:=if oV x y then -1 else if oV y x then 1 else 0
def ov(k n:Int)(s:List UInt8)(l7 fS:Int)(s':List UInt8):Int:=
 if nx k l7≠0 then nx k l7 else if nx n fS≠0 then nx n fS else Kn s s'
def akI{k n:Int}{s:eg}{fS:Int}{s':eg}(h:(nx k l7 !=0)=true):nx k l7=ov k n s l7 fS s':=by
 simp only[bne_iff_ne]at h;rw[ov,bc h]
def akJ{k n:Int}{s:eg}{fS:Int}{s':eg}(g:nx k l7=0)(h:(nx n fS !=0)=true):nx n fS=ov k n s l7 fS s':=by
 simp only[bne_iff_ne]at h;rw[ov,aV (by simp[g]),bc h]
def aaT{k n:Int}{s:eg}{fS:Int}{s':eg}(g:nx k l7=0)(h:nx n fS=0):Kn s s'=ov k n s l7 fS s':=by
 rw[ov,aV (by simp[g]),aV (by simp[h])]
def wQ(k n:Int)(s:List UInt8):Int:=
 if (k=1/\s= [])\/(k=2/\n=0/\s.length<=40)\/(k=3/\(n=0\/n=1)/\s= []) then 0 else 10
def CD(k:Int)(s:List UInt8)(l7:Int)(s':List UInt8):Bool:=
 decide (k=2)&&decide (l7=2)&&s'.isPrefixOf s
def akK(s t:eg):(s.take t.length==t)=t.isPrefixOf s:=by
 rw[wP,F1,List.isPrefixOf_iff_prefix,List.prefix_iff_eq_take];exact eq_comm
def akL(s t:eg)(h:¬t.length<=s.length):false=t.isPrefixOf s:=by
 rw[eq_comm,Bool.eq_false_iff];intro e;rw[List.isPrefixOf_iff_prefix]at e;exact h e.length_le
def akM{k:Int}{s s':eg}(h:k≠2):false=CD k s l7 s':=by
 unfold CD;simp[h]
def akN{k:Int}{s s':eg}(h:l7≠2):false=CD k s l7 s':=by
 unfold CD;simp[h]
def akO{s s':eg}:s'.isPrefixOf s=CD 2 s 2 s':=by
 unfold CD;simp
structure vL where
 k:Int
 n:Int
 s:List UInt8
deriving DecidableEq
def vL.CE(a b:vL):Int:=ov a.k a.n a.s b.k b.n b.s
def vL.RH(a b:vL):Bool:=CD a.k a.s b.k b.s
def vL.ok(a:vL):Prop:=wQ a.k a.n a.s=0
def oW(op n:Int)(wR:Bool):Bool:=
 if op=1 then decide (n=0) else if op=2 then !decide (n=0) else if op=3 then decide (n<0) else if op=4 then decide (n<=0)
 else if op=5 then decide (0<n) else if op=6 then decide (0<=n) else if op=7 then wR else false
def HV(op:Int)(b v:vL):Bool:=if op=8 then true else decide (v.k=b.k)&&oW op (v.CE b) (v.RH b)
def Bg(op:Int)(a:vL)(uU:Int)(b:vL):Bool:=
 if op=1 then HV uU b a
 else if op=3 then decide (uU=3\/uU=4\/uU=2)&&decide (a.CE b<=0)
 else if op=4 then (decide (uU=4)&&decide (a.CE b<=0))||(decide (uU=3\/uU=2)&&decide (a.CE b<0))
 else if op=5 then decide (uU=5\/uU=6\/uU=2)&&decide (0<=a.CE b)
 else if op=6 then (decide (uU=6)&&decide (0<=a.CE b))||(decide (uU=5\/uU=2)&&decide (0<a.CE b))
 else if op=7 then (if uU=7 then a.RH b else if uU=6 then decide (0<=a.CE b) else if uU=5 then decide (0<a.CE b) else if uU=2 then !b.RH a else false)
 else false
def xD(op:Int):Bool:=decide (1<=op/\op<=8)
structure RI where
 nm:List UInt8
 op:Int
 v:vL
deriving DecidableEq
def CF(a b:RI):Bool:=
 decide (a.nm=b.nm)&&xD a.op&&xD b.op&&(decide (a=b)||decide (b.op=8)||(!decide (a.op=8)&&decide (a.v.k=b.v.k)&&Bg a.op a.v b.op b.v))
structure RI.ok (t:RI):Prop where
 op:1<=t.op/\t.op<=8
 v:t.op=8\/t.v.ok
 cN:t.op=7->t.v.k=2
def akP(n:Int)(wR:Bool):oW 1 n wR=decide (n=0):=rfl
def akQ(n:Int)(wR:Bool):oW 2 n wR= !decide (n=0):=rfl
def akR(n:Int)(wR:Bool):oW 3 n wR=decide (n<0):=rfl
def akS(n:Int)(wR:Bool):oW 4 n wR=decide (n<=0):=rfl
def akT(n:Int)(wR:Bool):oW 5 n wR=decide (0<n):=rfl
def akU(n:Int)(wR:Bool):oW 6 n wR=decide (0<=n):=rfl
section
def I{p:Prop}(h:p):aa p:=h
def jk{k:IntKind}{a b:Int}(h:a=b):Ending.returned (.int k a)=.returned (.int k b):=by rw[h]
def jl{a b:Bool}(h:a=b):Ending.returned a=.returned b:=by rw[h]
def yM(s:ByteArray):s.toList.length=s.size:=by rw[CG];simp
def Nl{s t:ByteArray}(h:s.toList=t.toList):s=t:=by
 rw[CG,CG]at h;obtain⟨⟨x⟩⟩:=s;obtain⟨⟨y⟩⟩:=t;simp at h;rw[h]
def WX{a b:Int}(h:(a !=b)=false):a=b:=by simpa using h
def aaU(ad:Below W.heap.size W w1):(∀b o,b<W.heap.size->w1.cell? ⟨b,o,none⟩=W.cell? ⟨b,o,none⟩)/\(∀b o,b<W.heap.size->w1.frozen? ⟨b,o,none⟩=W.frozen? ⟨b,o,none⟩):=
 ⟨λb o h=>ad.cell (p:=(b,o)) h,λb o h=>ad.frozen (p:=(b,o)) h⟩
def Z(w w':World):Prop:=Below w.heap.size w w'
def Z.refl(w:aC):Z w w:=Below.refl _ _
def Z.trans{a b c:aC}(h:Z a b)(k:Z b c):Z a c:=Below.trans h (Below.mono k h.size)
def Z.alloc{a b:aC}(h:Z a b)(o:Obj):Z a (b.alloc o):=Below.alloc h h.size o
def Z.drewN{a b:aC}(h:Z a b)(n:Nat):Z a (b.drewN n):=below_drewN h n
def Z.drew{a b:aC}(h:Z a b):Z a b.drew:=Below.drew h
def Z.setCell{a b:aC}(h:Z a b){p:Addr}(aY:a.heap.size<=p.block)(u:Value):Z a (b.setCell p u):=Below.setCell h aY u
def Z.grown{a w w':aC}{row:Option Nat}(h:Z a w)(bC:w.grownBy w' row)(az:∀k,row=some k->a.heap.size<=k):Z a w':=Below.grown h bC h.size az
def Z.cell(ad:Z W w1):∀b o,b<W.heap.size->w1.cell? ⟨b,o,none⟩=W.cell? ⟨b,o,none⟩:=(aaU ad).1
def Z.frozen(ad:Z W w1):∀b o,b<W.heap.size->w1.frozen? ⟨b,o,none⟩=W.frozen? ⟨b,o,none⟩:=(aaU ad).2
def Z.size(ad:Z W w1):(W:Nat)<=(w1:Nat):=Below.size ad
def Z.block(ad:Z W w1):∀b,b<(W:Nat)->w1.heap[b]? =W.heap[b]? :=Below.block ad
def Ee{w:aC}{a:Addr}{v:Value}(h:w.cell? a=some v):a.block<(w:Nat):=by
 rcases Bh a.block (w:Nat)with ta|ta
 ·exact ta
 ·unfold World.cell? at h;rw[Nn ta]at h;cases h
def Z.ag(ad:Z W w1){a:Addr}{v:Value}(h:W.cell? a=some v):w1.cell? a=some v:=by
 rw[Below.cell ad (Ee h)];exact h
def r0(w:World)(b o:Nat)(cs:List Value):Prop:=∀j v,cs[j]?=some v->w.cell? ⟨b,o+j,none⟩=some v
structure a7 {α:Type} (w:World) (sz:Nat) (c:α->List Value) (a:Option Addr) (n cap:Nat) (xs:List α):Prop where
 neq:n=xs.length
 len:n<=cap
 max:cap<=maxLen
 none:a=.none->cap=0
 bI:∀x,(c x).length=sz
 at_:∀k x,xs[k]?=some x->∃b o,a=some ⟨b,o,.none⟩/\r0 w b (o+k*sz) (c x)
section
variable {α:Type}{w w':World}{sz:Nat}{c:α->List Value}{a:Option Addr}{n cap:Nat}{xs:List α}
def a7.ext(h:a7 w sz c a n cap xs)(X:Z w w'):a7 w' sz c a n cap xs:=
 ⟨h.neq,h.len,h.max,h.none,h.bI,λk x hk=>let ⟨b,o,ak,al⟩:=h.at_ k x hk;⟨b,o,ak,λj v aD=>X.ag (al j v aD)⟩⟩
def a7.nil(w:aC)(hw:∀x,(c x).length=sz):a7 w sz c .none 0 0 ([]:List α):=
 ⟨rfl,bJ _,gz _,λ_=>rfl,hw,λk x hk=>by cases hk⟩
def a7.get(h:a7 w sz c a n cap xs)(k:Nat)(hk:k<xs.length):∃b o,a=some ⟨b,o,.none⟩/\r0 w b (o+k*sz) (c xs[k]):=h.at_ k _ (eK hk)
end
def Ef{α:Type}{p:α->Bool}{xs:List α}(hk:k<xs.length)(h:(xs.take k).any p=false)(he:p xs[k]=false):(xs.take (k+1)).any p=false:=by
 rw[iv hk,List.any_append,h];simp[he]
def WY{α:Type}{p:α->Bool}{xs:List α}(hk:k<xs.length)(he:p xs[k]=true):true=xs.any p:=
 (Bi.2 ⟨xs[k],cT hk,he⟩).symm
def Ko{α:Type}{p:α->Bool}{xs:List α}(h:(xs.take k).any p=false)(hk:¬k<xs.length):false=xs.any p:=by
 rw[iU J]at h;exact h.symm
def qP{α:Type}(p:α->Bool)(xs:List α):Int:=match xs.findIdx? p with|some k=>(k:Int)|none=>-1
def No{α:Type}{p:α->Bool}{xs:List α}(hk:k<xs.length)(h:(xs.take k).any p=false)(he:p xs[k]=true):(k:Int)=qP p xs:=by
 have:xs.findIdx? p=some k:=by
  rw[List.findIdx?_eq_some_iff_getElem];refine⟨hk,he,λj aD=>?_⟩;rw[Kp]at h;have:=h xs[j] (List.mem_take_iff_getElem.2 ⟨j,J,rfl⟩);simpa using this
 unfold qP;rw[this]
def Kq{α:Type}{p:α->Bool}{xs:List α}(h:false=xs.any p):-1=qP p xs:=by
 have:xs.findIdx? p=none:=by
  rw[RJ];intro x X;have:=Kp.1 h.symm x X;simpa using this
 unfold qP;rw[this]
def WZ{α:Type}(p:α->Bool)(xs:List α):decide (0<=qP p xs)=xs.any p:=by
 cases h:xs.any p with
 |false=>rw[<-Kq h.symm];rfl
 |true=>
  unfold qP;cases e:xs.findIdx? p with
  |none=>
   rw[RJ]at e;obtain⟨x,X,aY⟩:=Bi.1 h;rw[e x X]at aY;cases aY
  |some k=>simp
def U{w w':aC}(h:Z w w':=by repeat (first|exact Z.refl _|refine Z.alloc ?_ _|refine Z.drewN ?_ _|refine Z.drew ?_|refine Z.trans ?_ (Hid.out (by assumption)))):Z w w':=h
def qQ{P:Program}{f:FuncId}{a:Array Value}{w:aC}{v:Value}{K:Ending->aC->Prop}(c:Calls P f a w λe w'=>e=.returned v/\Z w w')(k:∀w',aa (Z w w')->K (.returned v) w'):Calls P f a w K:=c.mono λe w' h=>h.1▸k w' h.2
abbrev cU(v:Value)(w:World)(e:Ending)(w':World):Prop:=e=.returned v/\Z w w'
end
section
structure aH {α:Type} (w:World) (base:Nat) (e:TypeId) (sz:Nat) (c:α->List Value) (aA:Option Addr) (n cap:Nat) (ys:List α):Prop where
 row:w.ownsRow base e sz (.slice aA n cap) n (ys.flatMap c)
 neq:n=ys.length
 bI:∀y,(c y).length=sz
section
variable {α:Type}{w w':World}{base:Nat}{e:TypeId}{sz:Nat}{c:α->List Value}{aA:Option Addr}{n cap:Nat}{ys:List α}
def aH.nil(w:aC)(base:Nat)(e:TypeId)(hw:∀y,(c y).length=sz):aH w base e sz c .none 0 0 ([]:List α):=
 ⟨World.ownsRow_nil _ _ _ _,rfl,hw⟩
def aH.lt(h:aH w base e sz c aA n cap ys):∀ai,aA=some ai->base<=ai.block/\ai.block<(w:Nat):=λai ak=>by
 subst ak;exact h.row.lt ai.block rfl
def aH.ag(h:aH w base e sz c aA n cap ys)(ad:∀ai,aA=some ai->w'.heap[ai.block]? =w.heap[ai.block]?):aH w' base e sz c aA n cap ys:=by
 refine⟨⟨h.row.1,?_⟩,h.neq,h.bI⟩;rcases h.row.2 with aq|⟨g,aR,cur,bw,iV,Bj,rest⟩
 ·exact .inl aq
 ·refine .inr ⟨g,aR,cur,bw,iV,?_,rest⟩;simp only[Value.slice.injEq]at bw;obtain⟨rfl,_,_⟩:=bw;rw[ad _ rfl];exact Bj
def aH.ext(h:aH w base e sz c aA n cap ys)(X:Z w w'):aH w' base e sz c aA n cap ys:=
 h.ag λai ak=>X.block _ (h.lt ai ak).2
def RK{c:α->List Value}{sz:Nat}(hw:∀y,(c y).length=sz):∀(ys:List α) (k:Nat) (y:α),ys[k]?=some y->∀j v,(c y)[j]?=some v->(ys.flatMap c)[k*sz+j]?=some v
 | [],_,_,h=>by simp at h
 |x::ys,0,y,h=>by
  intro j v aD
  simp only[RL,Option.some.injEq]at h
  subst h
  rw[ny,Nat.zero_mul,ow,HW (ud.1 aD).1];exact aD
 |x::ys,k+1,y,h=>by
  intro j v aD
  rw[HX]at h
  rw[ny,Kr (by rw[hw,HY];omega),hw,show(k+1)*sz+j - sz=k*sz+j from by rw[HY];omega]
  exact RK hw ys k y h j v aD
def aH.aF(h:aH w base e sz c aA n cap ys):a7 w sz c aA n cap ys:=by
 have aq:=h.neq;rcases h.row.2 with ⟨bw,aZ⟩|⟨g,aR,cur,bw,iV,Bj,hle,vM,sx,Eg⟩
 ·simp only[Value.slice.injEq]at bw;obtain⟨rfl,rfl,rfl⟩:=bw;obtain rfl:ys= []:=Bk J;exact a7.nil _ h.bI
 ·simp only[Value.slice.injEq]at bw;obtain⟨rfl,_,rfl⟩:=bw;refine⟨aq,hle,vM,(λh=>by cases h),h.bI,λk y hk=>⟨g,0,rfl,λj v aD=>?_⟩⟩;have:=h.row.cells (g:=g) rfl _ v (RK h.bI ys k y hk j v aD);rw[show((g,0):Addr).add (k*sz+j)=(g,0+k*sz+j)from by unfold Addr.add;split<;>simp_all]at this;exact this
structure lL (w w':World) (aA:Option Addr) (g:Nat):Prop where
 os:w'.os=w.os
 tape:w'.tape=w.tape
 output:w'.output=w.output
 size:w.heap.size<=w'.heap.size
 block:∀b,b<w.heap.size->(∀ai,aA=some ai->ai.block≠b)->w'.heap[b]? =w.heap[b]?
 at_:(∃ai,aA=some ai/\ai.block=g)\/g=w.heap.size
def lL.ext(h:lL w w' aA g)(aJ:aH w base e sz c aA n cap ys)(fq:(W:Nat)<=base)(X:Z W w):Z W w':=
 Below.trans X ⟨h.os,h.tape,h.output,h.size,λk hk=>h.block k RM (λai ak=>by have:=(aJ.lt ai ak).1;omega)⟩
def ox(aA cP:Option Addr):Prop:=∀x y,aA=some x->cP=some y->x.block≠y.block
def ox.symm{aA:bl}(h:ox aA cP):ox cP aA:=λx y X hy e=>h y x hy X e.symm
def ox.nil(cP:bl):ox .none cP:=λ_ _ h=>by cases h
def lL.bS(h:lL w w' aA g)(aJ:aH w base e sz c cP n cap ys)(aG:ox aA cP):aH w' base e sz c cP n cap ys:=
 aJ.ag λai ak=>h.block _ (aJ.lt ai ak).2 (λx X=>aG x ai X ak)
def lL.gL(h:lL w w' aA g)(aJ:aH w base e sz c cP n cap ys)(aG:ox aA cP):ox (some ⟨g,0,.none⟩) cP:=λx y X hy=>by
 cases X;rcases h.at_ with ⟨ai,ak,bC⟩|bC
 ·show g≠y.block;rw[<-bC];exact aG ai y ak hy
 ·show g≠y.block;have:=(aJ.lt y hy).2;omega
def lL.cell(h:lL w w' aA g){v:Value}(al:w.cell? ⟨b,o,.none⟩=some v)(dj:∀ai,aA=some ai->ai.block≠b):w'.cell? ⟨b,o,.none⟩=some v:=by
 rw[Ks (h.block b (Ee al) dj)];exact al
def hc{P:Program}{ops:Array Oper}{rest:List Oper}{o:Oper}{a:Act}(nz:o.guard=none)(s x:Operand)(t:TypeId)(aM:o.op=.call {callee:=.builtin .append,args:=#[s,x],argTypes:=#[t,t]})(i:TypeInfo)(z:Value)(bytes:Nat)(bm:P.underlying t=some (.slice e))(aK:P.info? e=some i)(bp:i.zero=some z)(yN:i.size=sz)(wS:i.bytes=bytes)(yO:z.cells.size=sz)(fs:0<sz)(hs:a.eval s=.slice aA n cap)(aJ:aH w base e sz c aA n cap ys)(y:α)(H:Nat)(X:a.eval x=.slice (some ⟨H,0,.none⟩) 1 1)(W0:∀j u,(c y)[j]?=some u->w.cell? ⟨H,j,.none⟩=some u)(af:∀u∈c y,u.oneCell'=true)(aq:(n+1)*bytes<=140737488355328)(jt:0<bytes)(CH:base<=(w:Nat))(h:∀g dE w',aH w' base e sz c (some ⟨g,0,.none⟩) (n+1) dE (ys++[y])->lL w w' aA g->
   wpList P ops Q rest (a.put o.dst (.slice (some ⟨g,0,.none⟩) ((n+1:Nat):Nat) dE)) w'):wpList P ops Q (o::rest) a w:=by
 have Eh:∀j,(⟨H,0,.none⟩:Addr).add j=⟨H,j,.none⟩:=λj=>by unfold Addr.add;split<;>simp_all
 refine wpList_append_lies w nz s x t aM base e i z sz bytes bm aK bp yN wS yO fs (ao aA n cap) n (ys.flatMap c) hs aJ.row ⟨H,0,.none⟩ 1 1 (c y) X (by rw[aJ.bI];omega)
  (λj u aD=>by rw[Eh];exact W0 j u aD) af J ?_ aq CH _ rfl ?_
 exact aaV
 ·intro g dE w' pv b2 j1 _
  refine h g dE w' ⟨by rw[vN,Kt];exact pv,by rw[c9,<-aJ.neq];rfl,aJ.bI⟩
   ⟨b2.os,b2.tape,b2.output,b2.size,λb ad dj=>b2.block b ad (λe=>?_),?_⟩
  exact RN;exact RO
end
def fi{H:Nat}{cs:List Value}(hH:H=(W:Nat)):∀j u,cs[j]?=some u->(W.alloc (.cells cs.toArray t)).cell? ⟨H,j,.none⟩=some u:=by
 intro j u h;subst hH;rw[World.cell?_alloc_mark];simpa using h
def Ei{α:Type}(sz:Nat)(c:α->List Value)(xs:List α)(w:World)(e:Ending)(w':World):Prop:=
 ∃aA n cap,e=.returned (.slice aA n cap)/\a7 w' sz c aA n cap xs/\Z w w'
def Ei.mk{α:Type}{sz:Nat}{c:α->List Value}{xs ys:List α}{w w':aC}{aA:bl}{n cap base:Nat}{e:TypeId}(h:aH w' base e sz c aA n cap xs)(X:Z w w')(hy:xs=ys):
  Ei sz c ys w (.returned (ao aA n cap)) w':=by subst hy;exact⟨aA,n,cap,rfl,h.aF,X⟩
end
def RP(a b:Int)(w:aC):
  aS 333 #[a,b] w λe w'=>e=.returned (.int .i64 (nx a b))/\w=w':=by
 go_enter func333,ntmps333;exact aaW
def RQ(a b:Int)(w:aC):
  aS 334 #[a,b] w λe w'=>e=.returned (.int .i64 (nx a b))/\w=w':=by
 go_enter func334,ntmps334;exact aaW
def RR(a b:ByteArray)(w:aC):
  aS 335 #[a,b] w λe w'=>e=.returned (.int .i64 (Kn a.toList b.toList))/\w=w':=by
 have af:=akH a.toList b.toList;have an:=aaS a.toList b.toList;have aO:=WW b.toList;unfold oV at af an aO;have H1:aa _:=af;have dg:aa _:=an;have fO:aa _:=aO;clear af an aO;go_enter func335,ntmps335;go_wp2
 all_goals
  go_ret
  refine⟨jk ?_,rfl⟩
  unfold Kn oV
  replace H1:=H1.out
  replace dg:=dg.out
  replace fO:=fO.out
  simp_all
def Ej(k n:Int)(s:ByteArray)(w:aC):
  aS 245 #[.agg #[k,n,s]] w (cU (.int .i64 (wQ k n s.toList)) w):=by
 go_enter func245,ntmps245;go_wp2;all_goals (go_ret;refine⟨jk ?_,(Z.refl _).alloc _⟩;unfold wQ;rw[yM];simp_all<;>omega)
def F2(k n:Int)(s:ByteArray)(l7 fS:Int)(s':ByteArray)(w:aC):
  aS 317 #[.agg #[k,n,s],.agg #[l7,fS,s']] w λe w'=>
   e=.returned (.int .i64 (ov k n s.toList l7 fS s'.toList))/\Z w w':=by
 go_enter func317,ntmps317;go_wp2_with fail;go_step3;go_wp2_with fail;go_step3;go_wp2_with fail
 go_loopg [5,6,7] 3 (λg at_ st i wr=>∃j:Nat,g+j=3/\i=.int .i64 j/\at_=.int .i64 0/\(1<=j->nx k l7=0)/\(2<=j->nx n fS=0)/\(3<=j->Kn s.toList s'.toList=0)/\wr=(w.alloc (.cells #[.int IntKind.i64 k,.int IntKind.i64 n,s] 74)).alloc
 (.cells #[.int IntKind.i64 l7,.int IntKind.i64 fS,s'] 74))
 case atStart=>exact⟨0,rfl,rfl,rfl,J,J,J,rfl⟩
 case round=>
  obtain⟨j,_,rfl,rfl,af,an,aO,rfl⟩:=hrel;have H:=I (And.intro af (And.intro an aO));clear af an aO;have aD:j=0\/j=1\/j=2\/j=3:=J
  have B:Z w ((w.alloc (.cells #[.int IntKind.i64 k,.int IntKind.i64 n,s] 74)).alloc
   (.cells #[.int IntKind.i64 l7,.int IntKind.i64 fS,s'] 74)):=((Z.refl _).alloc _).alloc _
  rcases aD with rfl|rfl|rfl|rfl
  ·go_wp2_with (first|(go_at_call 333;refine(RP _ _ _).mono ?_;rintro e w'⟨rfl,rfl⟩)|(go_at_call 334;refine(RQ _ _ _).mono ?_;rintro e w'⟨rfl,rfl⟩)|(go_at_call 335;refine(RR _ _ _).mono ?_;rintro e w'⟨rfl,rfl⟩))
   ·rw[pX];go_wp2;go_ret;exact⟨jk (akI ‹_›),B⟩
   ·have e:nx k l7=0:=WX ‹_›;go_roundg 2;case measure=>omega
    case rel=>exact⟨1,J,by go_num,by rw[e],λ_=>e,J,J,rfl⟩
  ·go_wp2_with (first|(go_at_call 333;refine(RP _ _ _).mono ?_;rintro e w'⟨rfl,rfl⟩)|(go_at_call 334;refine(RQ _ _ _).mono ?_;rintro e w'⟨rfl,rfl⟩)|(go_at_call 335;refine(RR _ _ _).mono ?_;rintro e w'⟨rfl,rfl⟩))
   ·rw[pX];go_wp2;go_ret;exact⟨jk (akJ (H.out.1 J) ‹_›),B⟩
   ·have e:nx n fS=0:=WX ‹_›;go_roundg 1;case measure=>omega
    case rel=>exact⟨2,J,by go_num,by rw[e],λ_=>H.out.1 J,λ_=>e,J,rfl⟩
  ·go_wp2_with (first|(go_at_call 333;refine(RP _ _ _).mono ?_;rintro e w'⟨rfl,rfl⟩)|(go_at_call 334;refine(RQ _ _ _).mono ?_;rintro e w'⟨rfl,rfl⟩)|(go_at_call 335;refine(RR _ _ _).mono ?_;rintro e w'⟨rfl,rfl⟩))
   ·rw[pX];go_wp2;go_ret;exact⟨jk (aaT (H.out.1 J) (H.out.2.1 J)),B⟩
   ·have e:Kn s.toList s'.toList=0:=WX ‹_›;go_roundg 0;case measure=>omega
    case rel=>exact⟨3,J,by go_num,by rw[e],λ_=>H.out.1 J,λ_=>H.out.2.1 J,λ_=>e,rfl⟩
  ·go_wp2_with (first|(go_at_call 333;refine(RP _ _ _).mono ?_;rintro e w'⟨rfl,rfl⟩)|(go_at_call 334;refine(RQ _ _ _).mono ?_;rintro e w'⟨rfl,rfl⟩)|(go_at_call 335;refine(RR _ _ _).mono ?_;rintro e w'⟨rfl,rfl⟩));rw[pX];go_wp2;go_ret;exact⟨jk (by rw[<-aaT (H.out.1 J) (H.out.2.1 J),H.out.2.2 J]),B⟩
def akV(n:Int)(w:aC):
  aS 27 #[n] w (cU (.agg #[bo 1,n,.string ⟨#[]⟩]) w):=by
 go_enter func27,ntmps27;go_wp2;exact ke (v:=.agg #[bo 1,n,.string ⟨#[]⟩]) (by simp[results,results27,go_sem]) rfl ⟨rfl,(Z.refl _).alloc _⟩
def akW(s t:ByteArray):((s.extract 0 t.size).toList==t.toList)=t.toList.isPrefixOf s.toList:=by
 rw[<-akK,yM,Lib.extract_toList,CG,CG];simp
def akX(s t:ByteArray)(w:aC):
  aS 350 #[s,t] w λe w'=>e=.returned (.bool (t.toList.isPrefixOf s.toList))/\w=w':=by
 by_cases h:t.size<=s.size
 ·have H:=I (akW s t);exact aaX
 ·have H:=I (akL s.toList t.toList (by rw[yM,yM];exact h));exact aaX
def akY(s t:ByteArray)(w:aC):
  aS 336 #[s,t] w λe w'=>e=.returned (.bool (t.toList.isPrefixOf s.toList))/\w=w':=by
 go_enter func336,ntmps336;go_wp2_with (go_at_call 350;refine(akX _ _ _).mono ?_;rintro e w'⟨rfl,rfl⟩);go_ret;exact⟨rfl,rfl⟩
def aaY(k n:Int)(s:ByteArray)(l7 fS:Int)(s':ByteArray)(w:aC):
  aS 325 #[.agg #[k,n,s],.agg #[l7,fS,s']] w λe w'=>
   e=.returned (.bool (CD k s.toList l7 s'.toList))/\Z w w':=by
 go_enter func325,ntmps325;go_wp2_with (go_at_call 336;refine(akY _ _ _).mono ?_;rintro e w'⟨rfl,rfl⟩);all_goals (go_ret;refine⟨jl ?_,((Z.refl _).alloc _).alloc _⟩)
 ·subst_vars;exact akO
 ·exact akN ‹_›
 ·exact akM ‹_›
structure T where
 nm:ByteArray
 op:Int
 k:Int
 n:Int
 s:ByteArray
def T.cs(t:T):List Value:= [.string t.nm,.int .i64 t.op,.int .i64 t.k,.int .i64 t.n,.string t.s]
structure cI where
 nm:ByteArray
 k:Int
 n:Int
 s:ByteArray
def cI.cs(t:cI):List Value:= [.string t.nm,.int .i64 t.k,.int .i64 t.n,.string t.s]
def RS{x:T}(h:r0 w b o x.cs):
  w.cell? (b,o)=some ↑x.nm/\w.cell? (b,o+1)=some ↑x.op/\w.cell? (b,o+2)=some ↑x.k/\w.cell? (b,o+3)=some ↑x.n/\w.cell? (b,o+4)=some ↑x.s:=
 ⟨h 0 _ rfl,h 1 _ rfl,h 2 _ rfl,h 3 _ rfl,h 4 _ rfl⟩
def Np{x:cI}(h:r0 w b o x.cs):
  w.cell? (b,o)=some ↑x.nm/\w.cell? (b,o+1)=some ↑x.k/\w.cell? (b,o+2)=some ↑x.n/\w.cell? (b,o+3)=some ↑x.s:=
 ⟨h 0 _ rfl,h 1 _ rfl,h 2 _ rfl,h 3 _ rfl⟩
def T.bI(t:T):t.cs.length=5:=rfl
def cI.bI(t:cI):t.cs.length=4:=rfl
def T.cQ(t:T):∀u∈t.cs,u.oneCell'=true:=by
 intro u aj;simp only[T.cs,oy,tb,ue]at aj;rcases aj with rfl|rfl|rfl|rfl|rfl<;>rfl
def cI.cQ(t:cI):∀u∈t.cs,u.oneCell'=true:=by
 intro u aj;simp only[cI.cs,oy,tb,ue]at aj;rcases aj with rfl|rfl|rfl|rfl<;>rfl
def T.v(t:T):vL:=⟨t.k,t.n,t.s.toList⟩
def T.ts(t:T):RI:=⟨t.nm.toList,t.op,t.v⟩
def cI.v(t:cI):vL:=⟨t.k,t.n,t.s.toList⟩
def Z.ay(h:Z W w){o:Obj}(ad:W.heap[b]?=some o):w.heap[b]?=some o:=(h.block _ (lt_of_block ad)).trans ad
def e2{o:Obj}(h:n=(w:Nat)):(w.alloc o).heap[n]?=some o:=by subst h;exact mu _ _
def aaZ{o:Obj}{r:Option Obj}(h:n<(w:Nat))(k:w.heap[n]? =r):(w.alloc o).heap[n]? =r:=by rw[Below.heap_alloc _ _ _ h];exact k
def aL{cs:Array Value}{v:Value}(h:w.heap[b]?=some (.cells cs t fr))(bw:cs[o]?=some v):w.cell? (b,o)=some v:=by
 simp only[World.cell?,h];simpa using bw
def aH.mono{c:α->List Value}{ys:List α}(h:aH w base e sz c aA n cap ys)(ad:aBw<=base):aH w aBw e sz c aA n cap ys:=by
 refine⟨⟨h.row.1,?_⟩,h.neq,h.bI⟩;rcases h.row.2 with aq|⟨g,aR,cur,bw,iV,rest⟩
 ·exact .inl aq
 ·exact .inr ⟨g,aR,cur,bw,ek ad iV,rest⟩
def aH.jD{c:α->List Value}{ys:List α}(h:aH w base e sz c aA n cap ys){p:Addr}(aY:p.block<base)(u:Value):aH (w.setCell p u) base e sz c aA n cap ys:=
 h.ag λai ak=>Below.heap_setCell w p u _ (by have:=(h.lt ai ak).1;omega)
def aH.gT{RT:Nat}{c:α->List Value}{pY:β->List Value}{fS dE:Nat}{ys:List α}{cz:List β}(h:aH w base e sz c aA n cap ys)(k:aH w aBw tc RT pY cP fS dE cz)(dj:e≠tc):ox aA cP:=by
 intro x y X hy he;subst X;subst hy;rcases h.row.2 with ⟨bw,_⟩|⟨g,aR,cur,bw,_,bC,_⟩
 ·cases bw
 rcases k.row.2 with ⟨F3,_⟩|⟨F4,wT,aBx,F3,_,Ek,_⟩
 ·cases F3
 simp only[Value.slice.injEq,Option.some.injEq]at bw F3;obtain⟨rfl,_⟩:=bw;obtain⟨rfl,_⟩:=F3;simp only at he;rw[he,Ek]at bC;injection bC with bC;injection bC with _ bm;exact dj bm.symm
def lL.z8{RT:Nat}{c:α->List Value}{pY:β->List Value}{fS dE:Nat}{ys:List α}{cz:List β}(bC:lL w w' aA g)(h:aH w base e sz c aA n cap ys)(k:aH w aBw tc RT pY cP fS dE cz)(dj:e≠tc):aH w' aBw tc RT pY cP fS dE cz:=bC.bS k (h.gT k dj)
def akZ{l:List Value}(h:w.heap[b]?=some (.cells (List.toArray (h2::iw::l)) t fr)):w.cell? (b,0)=some h2/\w.cell? (b,1)=some iw:=⟨aL h rfl,aL h rfl⟩
def jm{l:List Value}(h:w.heap[b]?=some (.cells (List.toArray (h2::iw::hd::l)) t fr)):w.cell? (b,0)=some h2/\w.cell? (b,1)=some iw/\w.cell? (b,2)=some hd:=⟨aL h rfl,aL h rfl,aL h rfl⟩
def oX{l:List Value}(h:w.heap[b]?=some (.cells (List.toArray (h2::iw::hd::ju::l)) t fr)):w.cell? (b,0)=some h2/\w.cell? (b,1)=some iw/\w.cell? (b,2)=some hd/\w.cell? (b,3)=some ju:=⟨aL h rfl,aL h rfl,aL h rfl,aL h rfl⟩
def Ku{l:List Value}(h:w.heap[b]?=some (.cells (List.toArray (h2::iw::hd::ju::k2::l)) t fr)):w.cell? (b,0)=some h2/\w.cell? (b,1)=some iw/\w.cell? (b,2)=some hd/\w.cell? (b,3)=some ju/\w.cell? (b,4)=some k2:=⟨aL h rfl,aL h rfl,aL h rfl,aL h rfl,aL h rfl⟩
def RU{l:List Value}(h:w.heap[b]?=some (.cells (List.toArray (h2::iw::hd::ju::k2::nA::l)) t fr)):w.cell? (b,0)=some h2/\w.cell? (b,1)=some iw/\w.cell? (b,2)=some hd/\w.cell? (b,3)=some ju/\w.cell? (b,4)=some k2/\w.cell? (b,5)=some nA:=⟨aL h rfl,aL h rfl,aL h rfl,aL h rfl,aL h rfl,aL h rfl⟩
def lM{l:List Value}(h:w.heap[b]?=some (.cells (List.toArray (h2::iw::hd::ju::k2::nA::pw::rp::l)) t fr)):w.cell? (b,0)=some h2/\w.cell? (b,1)=some iw/\w.cell? (b,2)=some hd/\w.cell? (b,3)=some ju/\w.cell? (b,4)=some k2/\w.cell? (b,5)=some nA/\w.cell? (b,6)=some pw/\w.cell? (b,7)=some rp:=⟨aL h rfl,aL h rfl,aL h rfl,aL h rfl,aL h rfl,aL h rfl,aL h rfl,aL h rfl⟩
def xE{l:List Value}(h:w.heap[b]?=some (.cells (List.toArray (h2::iw::hd::ju::k2::nA::pw::rp::xF::l)) t fr)):w.cell? (b,0)=some h2/\w.cell? (b,1)=some iw/\w.cell? (b,2)=some hd/\w.cell? (b,3)=some ju/\w.cell? (b,4)=some k2/\w.cell? (b,5)=some nA/\w.cell? (b,6)=some pw/\w.cell? (b,7)=some rp/\w.cell? (b,8)=some xF:=⟨aL h rfl,aL h rfl,aL h rfl,aL h rfl,aL h rfl,aL h rfl,aL h rfl,aL h rfl,aL h rfl⟩
def Nq{CI CJ CK F5:Value}{l:List Value}(h:w.heap[b]?=some (.cells (List.toArray (h2::iw::hd::ju::k2::nA::pw::rp::xF::CI::CJ::CK::F5::l)) t fr)):w.cell? (b,0)=some h2/\w.cell? (b,1)=some iw/\w.cell? (b,2)=some hd/\w.cell? (b,3)=some ju/\w.cell? (b,4)=some k2/\w.cell? (b,5)=some nA/\w.cell? (b,6)=some pw/\w.cell? (b,7)=some rp/\w.cell? (b,8)=some xF/\w.cell? (b,9)=some CI/\w.cell? (b,10)=some CJ/\w.cell? (b,11)=some CK/\w.cell? (b,12)=some F5:=⟨aL h rfl,aL h rfl,aL h rfl,aL h rfl,aL h rfl,aL h rfl,aL h rfl,aL h rfl,aL h rfl,aL h rfl,aL h rfl,aL h rfl,aL h rfl⟩
def ak0{CI CJ CK F5 Nr:Value}{l:List Value}(h:w.heap[b]?=some (.cells (List.toArray (h2::iw::hd::ju::k2::nA::pw::rp::xF::CI::CJ::CK::F5::Nr::l)) t fr)):w.cell? (b,0)=some h2/\w.cell? (b,1)=some iw/\w.cell? (b,2)=some hd/\w.cell? (b,3)=some ju/\w.cell? (b,4)=some k2/\w.cell? (b,5)=some nA/\w.cell? (b,6)=some pw/\w.cell? (b,7)=some rp/\w.cell? (b,8)=some xF/\w.cell? (b,9)=some CI/\w.cell? (b,10)=some CJ/\w.cell? (b,11)=some CK/\w.cell? (b,12)=some F5/\w.cell? (b,13)=some Nr:=⟨aL h rfl,aL h rfl,aL h rfl,aL h rfl,aL h rfl,aL h rfl,aL h rfl,aL h rfl,aL h rfl,aL h rfl,aL h rfl,aL h rfl,aL h rfl,aL h rfl⟩
def ak1(W:aC)(o ll:Obj):({(W.alloc o)with heap:=(W.alloc o).heap.setIfInBounds W ll}:aC)=W.alloc ll:=by
 have h:(W.heap.push o).setIfInBounds W ll=W.heap.push ll:=by
  apply Array.ext_getElem?;intro i;rw[W1,RV,RV];by_cases h:(W:Nat)=i
  ·subst h;simp
  ·rw[aV h];simp[Ne.symm h]
 show({heap:=(W.heap.push o).setIfInBounds W ll,tape:=W.tape,drawn:=W.drawn,os:=W.os,output:=W.output}:aC)={heap:=W.heap.push ll,tape:=W.tape,drawn:=W.drawn,os:=W.os,output:=W.output};rw[h]
def wU{P:Program}(bm:P.underlying t=some (.map F6 e))(hk:P.underlying F6=some (.int .i64))(W:aC)(b:Nat)(fq:b=(W:Nat))(aX:Array MapEntry)(c:Nat)(k:Int)(v:Value)(bk:Instr.findNow (.int .i64) k aX.toList 0=some none):
  (Instr.mapUpdate t (.map (some b)) k v).run P (W.alloc (.map aX c))=.ok () (W.alloc (.map (aX.push {key:=.int .i64 k,val:=v,born:=c}) (c+1))):=by
 subst fq;have ad:(W.alloc (.map aX c)).heap[(W:Nat)]?=some (.map aX c):=(MapKept.heap_alloc W _).1;simp[Instr.mapUpdate,RW bm,MapKept.run_getObj_map ad,MapKept.run_checkKey hk (k:=.int .i64 k) rfl,MapKept.run_findKey hk bk,MapKept.run_setObj_map _ ad,Result.andThen];exact ak1 _ _ _
def nB{P:Program}(bm:P.underlying t=some (.map F6 e))(hk:P.underlying F6=some (.int .i64)){aX:Array MapEntry}{c:Nat}(ad:W.heap[b]?=some (.map aX c))(k:Int){r:Nat×Value}(bk:Instr.findNow (.int .i64) k aX.toList 0=some (some r)):
  (Instr.lookup t (.map (some b)) k true).run P W=.ok (.tuple #[r.2,.bool true]) W:=by
 simp[Instr.lookup,RW bm,MapKept.run_getObj_map ad,MapKept.run_checkKey hk (k:=.int .i64 k) rfl,MapKept.run_findKey hk bk,Result.andThen]
def ak2{P:Program}(bm:P.underlying t=some (.map F6 e))(hk:P.underlying F6=some (.int .i64)){aX:Array MapEntry}{c:Nat}(ad:W.heap[b]?=some (.map aX c))(k:Int)(bk:Instr.findNow (.int .i64) k aX.toList 0=some none){z:Value}(bp:(zeroValue e).run P W=.ok z W):
  (Instr.lookup t (.map (some b)) k true).run P W=.ok (.tuple #[z,.bool false]) W:=by
 simp[Instr.lookup,RW bm,MapKept.run_getObj_map ad,MapKept.run_checkKey hk (k:=.int .i64 k) rfl,MapKept.run_findKey hk bk,bp,Result.andThen]
def ak3(n:Int)(b:Nat)(w:aC)(h:w.cell? (b,0)=some ↑n):
  aS 318 #[b] w (cU (.bool (oW 1 n false)) w):=by
 go_enter func318,ntmps318;go_wp2;go_ret;exact⟨jl (by rw[akP,wP];simp),Z.refl _⟩
def ak4(n:Int)(b:Nat)(w:aC)(h:w.cell? (b,0)=some ↑n):
  aS 319 #[b] w (cU (.bool (oW 2 n false)) w):=by
 go_enter func319,ntmps319;go_wp2;go_ret;exact⟨jl (by rw[akQ,wP];simp),Z.refl _⟩
def ak5(n:Int)(b:Nat)(w:aC)(h:w.cell? (b,0)=some ↑n):
  aS 320 #[b] w (cU (.bool (oW 3 n false)) w):=by
 go_enter func320,ntmps320;go_wp2;go_ret;exact⟨jl (by rw[akR]),Z.refl _⟩
def ak6(n:Int)(b:Nat)(w:aC)(h:w.cell? (b,0)=some ↑n):
  aS 321 #[b] w (cU (.bool (oW 4 n false)) w):=by
 go_enter func321,ntmps321;go_wp2;go_ret;exact⟨jl (by rw[akS]),Z.refl _⟩
def ak7(n:Int)(b:Nat)(w:aC)(h:w.cell? (b,0)=some ↑n):
  aS 322 #[b] w (cU (.bool (oW 5 n false)) w):=by
 go_enter func322,ntmps322;go_wp2;go_ret;exact⟨jl (by rw[akT]),Z.refl _⟩
def ak8(n:Int)(b:Nat)(w:aC)(h:w.cell? (b,0)=some ↑n):
  aS 323 #[b] w (cU (.bool (oW 6 n false)) w):=by
 go_enter func323,ntmps323;go_wp2;go_ret;exact⟨jl (by rw[akU]),Z.refl _⟩
def ak9(k n:Int)(s:ByteArray)(t:T)(bv Ns:Nat)(w:aC)(aZ:w.cell? (bv,0)=some ↑k)(af:w.cell? (bv,1)=some ↑n)(an:w.cell? (bv,2)=some ↑s)(g2:w.cell? (Ns,2)=some ↑t.k)(g3:w.cell? (Ns,3)=some ↑t.n)(g4:w.cell? (Ns,4)=some ↑t.s):
  aS 324 #[bv,Ns] w (cU (.bool (CD k s.toList t.k t.s.toList)) w):=by
 go_enter func324,ntmps324;go_wp2_with (go_at_call 325;refine(aaY _ _ _ _ _ _ _).mono ?_;rintro e w'⟨rfl,X⟩;change aa _ at X);go_ret;refine⟨rfl,?_⟩;exact U
def ala(k:Int)(h:k<1\/7<k)(v0 v1 v2 v3 v4 v5 v6:Value):Instr.findNow (.int .i64) k [⟨.int .i64 1,v0,0⟩,⟨.int .i64 2,v1,1⟩,⟨.int .i64 3,v2,2⟩,⟨.int .i64 4,v3,3⟩,⟨.int .i64 5,v4,4⟩,⟨.int .i64 6,v5,5⟩,⟨.int .i64 7,v6,6⟩] 0=some none:=by
 have:∀j:Int,1<=j->j<=7->(k==j)=false:=λj af an=>by simp;omega
 simp[Instr.findNow,Instr.sameNow,this]
def alb{n:Int}{wR:Bool}(h:op<1\/7<op):oW op n wR=false:=by
 unfold oW;rw[aV J,aV J,aV J,aV J,aV J,aV J,aV J]
def alc(W:aC):(zeroValue 24).run prog W=.ok .nilFunc W:=bQ
def ald{k n:Int}{s:ByteArray}{t:T}(fG:op≠8):HV op t.v ⟨k,n,s.toList⟩=(decide (k=t.k)&&oW op (ov k n s.toList t.k t.n t.s.toList) (CD k s.toList t.k t.s.toList)):=by
 unfold HV;rw[aV fG];rfl
def aa0(t:T)(k n:Int)(s:ByteArray)(w:aC):
  Calls prog 292 #[.agg #[t.nm,t.op,t.k,t.n,t.s],.agg #[k,n,s]] w λe w'=>e=.returned (.bool (HV t.op t.v ⟨k,n,s.toList⟩))/\Z w w':=by
 have rq:=@run_makeMap prog;go_enter func292,ntmps292;go_wp2_with fail;refine(F2 k n s t.k t.n t.s ((w.alloc (.cells #[t.nm,t.op,t.k,t.n,t.s] 154)).alloc (.cells #[k,n,s] 74))).mono ?_;rintro e w1⟨rfl,br⟩;have BT:((w.alloc (.cells #[t.nm,t.op,t.k,t.n,t.s] 154)).alloc (.cells #[k,n,s] 74)).heap[(w:Nat)]?=some (.cells #[t.nm,t.op,t.k,t.n,t.s] 154):=gA;have gB:((w.alloc (.cells #[t.nm,t.op,t.k,t.n,t.s] 154)).alloc (.cells #[k,n,s] 74)).heap[(w:Nat)+1]?=some (.cells #[k,n,s] 74):=gA;have Kv:=I (br.ay BT);have Nt:=I (br.ay gB);have fj:(w:Nat)+1<(w1:Nat):=lt_of_block Nt;have fa:(w:Nat)<(w1:Nat):=lt_of_block Kv;change aa _ at br;clear BT gB;have ct:=fun(v:Value)=>wU (P:=prog) mK ft (w1.alloc (.cells #[bo (ov k n s.toList t.k t.n t.s.toList)] 3)) (w1.heap.size+1) (by simp) #[] 0 1 v rfl;have i1:=fun(v v0:Value)=>wU (P:=prog) mK ft (w1.alloc (.cells #[bo (ov k n s.toList t.k t.n t.s.toList)] 3)) (w1.heap.size+1) (by simp) #[⟨.int .i64 1,v0,0⟩] 1 2 v rfl;have mv:=fun(v v0 v1:Value)=>wU (P:=prog) mK ft (w1.alloc (.cells #[bo (ov k n s.toList t.k t.n t.s.toList)] 3)) (w1.heap.size+1) (by simp) #[⟨.int .i64 1,v0,0⟩,⟨.int .i64 2,v1,1⟩] 2 3 v rfl;have CL:=fun(v v0 v1 v2:Value)=>wU (P:=prog) mK ft (w1.alloc (.cells #[bo (ov k n s.toList t.k t.n t.s.toList)] 3)) (w1.heap.size+1) (by simp) #[⟨.int .i64 1,v0,0⟩,⟨.int .i64 2,v1,1⟩,⟨.int .i64 3,v2,2⟩] 3 4 v rfl;have Kw:=fun(v v0 v1 v2 v3:Value)=>wU (P:=prog) mK ft (w1.alloc (.cells #[bo (ov k n s.toList t.k t.n t.s.toList)] 3)) (w1.heap.size+1) (by simp) #[⟨.int .i64 1,v0,0⟩,⟨.int .i64 2,v1,1⟩,⟨.int .i64 3,v2,2⟩,⟨.int .i64 4,v3,3⟩] 4 5 v rfl;have ale:=fun(v v0 v1 v2 v3 v4:Value)=>wU (P:=prog) mK ft (w1.alloc (.cells #[bo (ov k n s.toList t.k t.n t.s.toList)] 3)) (w1.heap.size+1) (by simp) #[⟨.int .i64 1,v0,0⟩,⟨.int .i64 2,v1,1⟩,⟨.int .i64 3,v2,2⟩,⟨.int .i64 4,v3,3⟩,⟨.int .i64 5,v4,4⟩] 5 6 v rfl;have alf:=fun(v v0 v1 v2 v3 v4 v5:Value)=>wU (P:=prog) mK ft (w1.alloc (.cells #[bo (ov k n s.toList t.k t.n t.s.toList)] 3)) (w1.heap.size+1) (by simp) #[⟨.int .i64 1,v0,0⟩,⟨.int .i64 2,v1,1⟩,⟨.int .i64 3,v2,2⟩,⟨.int .i64 4,v3,3⟩,⟨.int .i64 5,v4,4⟩,⟨.int .i64 6,v5,5⟩] 6 7 v rfl;have t1:w1.cell? (w,1)=some ↑t.op:=aL Kv rfl;have t2:w1.cell? (w,2)=some ↑t.k:=aL Kv rfl;have v0:w1.cell? (w,1,0)=some ↑k:=aL Nt rfl;go_upto_region 3 with fail;clear ct i1 mv CL Kw ale alf rq;have r1:((w1.alloc (.cells #[bo (ov k n s.toList t.k t.n t.s.toList)] 3)).alloc (Obj.map #[⟨.int .i64 1,(.func (.func 318) #[] #[w1]),0⟩,⟨.int .i64 2,(.func (.func 319) #[] #[w1]),1⟩,⟨.int .i64 3,(.func (.func 320) #[] #[w1]),2⟩,⟨.int .i64 4,(.func (.func 321) #[] #[w1]),3⟩,⟨.int .i64 5,(.func (.func 322) #[] #[w1]),4⟩,⟨.int .i64 6,(.func (.func 323) #[] #[w1]),5⟩,⟨.int .i64 7,(.func (.func 324) #[] #[.pointer (some (w,1,0)),w]),6⟩] 7)).heap[(w1:Nat)+1]?=some (Obj.map #[⟨.int .i64 1,(.func (.func 318) #[] #[w1]),0⟩,⟨.int .i64 2,(.func (.func 319) #[] #[w1]),1⟩,⟨.int .i64 3,(.func (.func 320) #[] #[w1]),2⟩,⟨.int .i64 4,(.func (.func 321) #[] #[w1]),3⟩,⟨.int .i64 5,(.func (.func 322) #[] #[w1]),4⟩,⟨.int .i64 6,(.func (.func 323) #[] #[w1]),5⟩,⟨.int .i64 7,(.func (.func 324) #[] #[.pointer (some (w,1,0)),w]),6⟩] 7):=gA;have Bl:((w1.alloc (.cells #[bo (ov k n s.toList t.k t.n t.s.toList)] 3)).alloc (Obj.map #[⟨.int .i64 1,(.func (.func 318) #[] #[.pointer (some (w1,0))]),0⟩,⟨.int .i64 2,(.func (.func 319) #[] #[.pointer (some (w1,0))]),1⟩,⟨.int .i64 3,(.func (.func 320) #[] #[.pointer (some (w1,0))]),2⟩,⟨.int .i64 4,(.func (.func 321) #[] #[.pointer (some (w1,0))]),3⟩,⟨.int .i64 5,(.func (.func 322) #[] #[.pointer (some (w1,0))]),4⟩,⟨.int .i64 6,(.func (.func 323) #[] #[.pointer (some (w1,0))]),5⟩,⟨.int .i64 7,(.func (.func 324) #[] #[.pointer (some (w.heap.size+1,0)),.pointer (some (w,0))]),6⟩] 7)).cell? (w1,0)=some (.int .i64 (ov k n s.toList t.k t.n t.s.toList)):=aL (t:=3) (fr:=(0,0)) (show((w1.alloc (.cells #[bo (ov k n s.toList t.k t.n t.s.toList)] 3)).alloc (Obj.map #[⟨.int .i64 1,(.func (.func 318) #[] #[.pointer (some (w1,0))]),0⟩,⟨.int .i64 2,(.func (.func 319) #[] #[.pointer (some (w1,0))]),1⟩,⟨.int .i64 3,(.func (.func 320) #[] #[.pointer (some (w1,0))]),2⟩,⟨.int .i64 4,(.func (.func 321) #[] #[.pointer (some (w1,0))]),3⟩,⟨.int .i64 5,(.func (.func 322) #[] #[.pointer (some (w1,0))]),4⟩,⟨.int .i64 6,(.func (.func 323) #[] #[.pointer (some (w1,0))]),5⟩,⟨.int .i64 7,(.func (.func 324) #[] #[.pointer (some (w.heap.size+1,0)),.pointer (some (w,0))]),6⟩] 7)).heap[(w1:Nat)]?=some _ from by(exact HZ)) rfl;change aa _ at Bl r1;by_cases fG:t.op=8
 ·have aa1:(t.op==8)=true:=by simp[fG]
  change aa _ at fG;go_wp2;go_ret;refine⟨jl (by unfold HV;rw[bc fG.out]),?_⟩;exact U
 have aa1:(t.op==8)=false:=by simp[fG]
 have yP:=I (ald (k:=k) (n:=n) (s:=s) (t:=t) fG);clear fG;by_cases eO:t.op<1\/7<t.op
 ·have bT:=ak2 (P:=prog) mK ft r1 t.op (ala _ eO _ _ _ _ _ _ _) (alc _);change aa _ at eO;go_wp2;go_ret;refine⟨jl (by rw[yP.out,alb eO.out,wV]),?_⟩;exact U
 have mw:t.op=1\/t.op=2\/t.op=3\/t.op=4\/t.op=5\/t.op=6\/t.op=7:=J;clear eO aa1;by_cases hk:k=t.k
 ·have uV:(k==t.k)=true:=by simp[hk]
  change aa _ at hk;rcases mw with h|h|h|h|h|h|h
  ·have H:=I h;rw[h]at t1;clear h;have bT:=nB (P:=prog) mK ft r1 1 rfl;dsimp only at bT;go_wp2_with (go_at_call 318;refine(ak3 _ _ _ Bl).mono ?_;rintro e w'⟨rfl,X⟩;change aa _ at X);exact H0
  ·have H:=I h;rw[h]at t1;clear h;have bT:=nB (P:=prog) mK ft r1 2 rfl;dsimp only at bT;go_wp2_with (go_at_call 319;refine(ak4 _ _ _ Bl).mono ?_;rintro e w'⟨rfl,X⟩;change aa _ at X);exact H0
  ·have H:=I h;rw[h]at t1;clear h;have bT:=nB (P:=prog) mK ft r1 3 rfl;dsimp only at bT;go_wp2_with (go_at_call 320;refine(ak5 _ _ _ Bl).mono ?_;rintro e w'⟨rfl,X⟩;change aa _ at X);exact H0
  ·have H:=I h;rw[h]at t1;clear h;have bT:=nB (P:=prog) mK ft r1 4 rfl;dsimp only at bT;go_wp2_with (go_at_call 321;refine(ak6 _ _ _ Bl).mono ?_;rintro e w'⟨rfl,X⟩;change aa _ at X);exact H0
  ·have H:=I h;rw[h]at t1;clear h;have bT:=nB (P:=prog) mK ft r1 5 rfl;dsimp only at bT;go_wp2_with (go_at_call 322;refine(ak7 _ _ _ Bl).mono ?_;rintro e w'⟨rfl,X⟩;change aa _ at X);exact H0
  ·have H:=I h;rw[h]at t1;clear h;have bT:=nB (P:=prog) mK ft r1 6 rfl;dsimp only at bT;go_wp2_with (go_at_call 323;refine(ak8 _ _ _ Bl).mono ?_;rintro e w'⟨rfl,X⟩;change aa _ at X);exact H0
  ·have H:=I h;rw[h]at t1;clear h;have bT:=nB (P:=prog) mK ft r1 7 rfl;dsimp only at bT;go_wp2_with (go_at_call 324;refine(ak9 k n s t _ _ _ ((((Z.refl w1).alloc _).alloc _).ag (aL Nt rfl)) ((((Z.refl w1).alloc _).alloc _).ag (aL Nt rfl)) ((((Z.refl w1).alloc _).alloc _).ag (aL Nt rfl)) ((((Z.refl w1).alloc _).alloc _).ag (aL Kv rfl)) ((((Z.refl w1).alloc _).alloc _).ag (aL Kv rfl)) ((((Z.refl w1).alloc _).alloc _).ag (aL Kv rfl))).mono ?_;rintro e w'⟨rfl,X⟩;change aa _ at X);exact H0
 ·have uV:(k==t.k)=false:=by simp[hk]
  change aa _ at hk;rcases mw with h|h|h|h|h|h|h
  ·rw[h]at t1;clear h;have bT:=nB (P:=prog) mK ft r1 1 rfl;exact H2
  ·rw[h]at t1;clear h;have bT:=nB (P:=prog) mK ft r1 2 rfl;exact H2
  ·rw[h]at t1;clear h;have bT:=nB (P:=prog) mK ft r1 3 rfl;exact H2
  ·rw[h]at t1;clear h;have bT:=nB (P:=prog) mK ft r1 4 rfl;exact H2
  ·rw[h]at t1;clear h;have bT:=nB (P:=prog) mK ft r1 5 rfl;exact H2
  ·rw[h]at t1;clear h;have bT:=nB (P:=prog) mK ft r1 6 rfl;exact H2
  ·rw[h]at t1;clear h;have bT:=nB (P:=prog) mK ft r1 7 rfl;exact H2
def alg(a b:T)(w:aC):aS 359 #[.agg #[a.nm,a.op,a.k,a.n,a.s,b.nm,b.op,b.k,b.n,b.s,bo (ov a.k a.n a.s.toList b.k b.n b.s.toList)]] w (cU (.bool (Bg 3 a.v b.op b.v)) w):=by
 refine Nu ?_;intro H;go_enter func359,ntmps359;exact RX
def alh(a b:T)(w:aC):aS 360 #[.agg #[a.nm,a.op,a.k,a.n,a.s,b.nm,b.op,b.k,b.n,b.s,bo (ov a.k a.n a.s.toList b.k b.n b.s.toList)]] w (cU (.bool (Bg 4 a.v b.op b.v)) w):=by
 refine Nu ?_;intro H;go_enter func360,ntmps360;exact RX
def ali(a b:T)(w:aC):aS 361 #[.agg #[a.nm,a.op,a.k,a.n,a.s,b.nm,b.op,b.k,b.n,b.s,bo (ov a.k a.n a.s.toList b.k b.n b.s.toList)]] w (cU (.bool (Bg 5 a.v b.op b.v)) w):=by
 refine Nu ?_;intro H;go_enter func361,ntmps361;exact RX
def alj(a b:T)(w:aC):aS 362 #[.agg #[a.nm,a.op,a.k,a.n,a.s,b.nm,b.op,b.k,b.n,b.s,bo (ov a.k a.n a.s.toList b.k b.n b.s.toList)]] w (cU (.bool (Bg 6 a.v b.op b.v)) w):=by
 refine Nu ?_;intro H;go_enter func362,ntmps362;exact RX
def alk(a b:T)(w:aC):aS 364 #[.agg #[a.nm,a.op,a.k,a.n,a.s,b.nm,b.op,b.k,b.n,b.s,bo (ov a.k a.n a.s.toList b.k b.n b.s.toList)]] w (cU (.bool false) w):=by
 go_enter func364,ntmps364;go_wp2;go_ret;refine⟨rfl,?_⟩;exact U
def alm(a b:T)(w:aC):aS 358 #[.agg #[a.nm,a.op,a.k,a.n,a.s,b.nm,b.op,b.k,b.n,b.s,bo (ov a.k a.n a.s.toList b.k b.n b.s.toList)]] w (cU (.bool (Bg 1 a.v b.op b.v)) w):=by
 go_enter func358,ntmps358;go_wp2_with (go_at_call 292;refine(aa0 b a.k a.n a.s _).mono ?_;rintro e w'⟨rfl,X⟩;change aa _ at X);go_ret;refine⟨rfl,?_⟩;exact U
def aln(a b:T)(w:aC):aS 363 #[.agg #[a.nm,a.op,a.k,a.n,a.s,b.nm,b.op,b.k,b.n,b.s,bo (ov a.k a.n a.s.toList b.k b.n b.s.toList)]] w (cU (.bool (Bg 7 a.v b.op b.v)) w):=by
 refine Nu ?_;intro H;go_enter func363,ntmps363;go_wp2_with (go_at_call 325;refine(aaY _ _ _ _ _ _ _).mono ?_;rintro e w'⟨rfl,X⟩;change aa _ at X)
 all_goals
  go_ret
  refine⟨jl (by unfold Bg;rw[H.out];simp_all[vL.RH,T.v]),?_⟩
  exact U
def aa2(op:Int)(w:aC):aS 351 #[op] w λe w'=>e=.returned (.bool (xD op))/\w=w':=by
 go_enter func351,ntmps351;go_wp2
 all_goals
  go_ret
  refine⟨jl (by unfold xD;simp_all<;>omega),rfl⟩
def El(op:Int):Nat:=if op=1 then 358 else if op=3 then 359 else if op=4 then 360 else if op=5 then 361 else if op=6 then 362 else if op=7 then 363 else 364
def alo(op:Int)(w:aC):aS 352 #[op] w λe w'=>e=.returned (.func (.func (El op)) #[] #[])/\w=w':=by
 go_enter func352,ntmps352;go_wp2
 all_goals
  go_ret
  refine⟨?_,rfl⟩
  unfold El
  simp_all
def alp(a b:T)(w:aC):
  (binOp .eql 154 (.agg #[a.nm,a.op,a.k,a.n,a.s]) (.agg #[b.nm,b.op,b.k,b.n,b.s])).run prog w=.ok (.bool (decide (a.ts=b.ts))) w:=by
 have e:(a.ts=b.ts)↔(a.nm.toList=b.nm.toList/\a.op=b.op/\a.k=b.k/\a.n=b.n/\a.s.toList=b.s.toList):=by simp[T.ts,T.v]
 have tc:decide (a.ts=b.ts)=decide (a.nm.toList=b.nm.toList/\a.op=b.op/\a.k=b.k/\a.n=b.n/\a.s.toList=b.s.toList):=H3.2 e;rw[tc];by_cases af:a.nm.toList=b.nm.toList
 ·by_cases an:a.op=b.op
  ·by_cases aO:a.k=b.k
   ·by_cases bt:a.n=b.n
    ·by_cases cC:a.s.toList=b.s.toList
     ·simp[af,an,aO,bt,cC,go_sem]
     ·simp[af,an,aO,bt,cC,go_sem]
    ·simp[af,an,aO,bt,go_sem]
   ·simp[af,an,aO,go_sem]
  ·simp[af,an,go_sem]
 ·simp[af,go_sem]
def alq(a b:T):CF a.ts b.ts=(decide (a.nm.toList=b.nm.toList)&&xD a.op&&xD b.op&&(decide (a.ts=b.ts)||decide (b.op=8)||(!decide (a.op=8)&&decide (a.k=b.k)&&Bg a.op a.v b.op b.v))):=rfl
def alr(h:xD op=true)(fG:op≠8):op=1\/op=2\/op=3\/op=4\/op=5\/op=6\/op=7:=by
 unfold xD at h;have:=H4 h;omega
def als(a b:T)(w:aC):aS 339 #[.agg #[a.nm,a.op,a.k,a.n,a.s],.agg #[b.nm,b.op,b.k,b.n,b.s]] w (cU (.bool (CF a.ts b.ts)) w):=by
 have a8:=I (alq a b);have heq:=alp a b;by_cases aq:a.nm.toList=b.nm.toList
 ·cases H5:xD a.op with
  |false=>
   refine H6 ?_;intro _ _;refine⟨jl (by rw[a8.out,H5];simp),?_⟩;exact U
  |true=>
   cases uV:xD b.op with
   |false=>
    refine H6 ?_;intro _ _;refine⟨jl (by rw[a8.out,uV];simp),?_⟩;exact U
   |true=>
    cases b7:decide (a.ts=b.ts)with
    |true=>
     refine H6 ?_;intro _ _;refine⟨jl (by rw[a8.out,H5,uV,b7];simp[aq]),?_⟩;exact U
    |false=>
     by_cases uW:b.op=8
     ·have alu:(b.op==8)=true:=by simp[uW]
      have kJ:=I uW;clear uW;refine H6 ?_;intro _ _;refine⟨jl (by rw[a8.out,H5,uV,b7];simp[aq,kJ.out]),?_⟩;exact U
     ·have alu:(b.op==8)=false:=by simp[uW]
      have kJ:=I uW;clear uW;by_cases H7:a.op=8
      ·have alv:(a.op==8)=true:=by simp[H7]
       have W2:=I H7;clear H7;refine H6 ?_;intro _ _;refine⟨jl (by rw[a8.out,H5,uV,b7];simp[kJ.out,W2.out]),?_⟩;exact U
      ·have alv:(a.op==8)=false:=by simp[H7]
       have W2:=I H7;have W3:=alr H5 H7;clear H7;by_cases pZ:a.k=b.k
       ·have alw:(a.k !=b.k)=false:=by simp[pZ]
        have Aa:=I pZ;have bV:=I (show CF a.ts b.ts=Bg a.op a.v b.op b.v from by rw[a8.out,H5,uV,b7];simp[aq,kJ.out,W2.out,pZ]);clear pZ;replace W3:=I W3;go_enter func339,ntmps339;go_upto_region 8 with (first|(go_at_call 351;refine(aa2 _ _).mono ?_;rintro e w'⟨rfl,rfl⟩)|(go_at_call 352;refine(alo _ _).mono ?_;rintro e w'⟨rfl,rfl⟩));have aa3:((w.alloc (.cells #[a.nm,a.op,a.k,a.n,a.s] 154)).alloc (.cells #[b.nm,b.op,b.k,b.n,b.s] 154)).heap[(w:Nat)]?=some (.cells #[a.nm,a.op,a.k,a.n,a.s] 154):=gA;have px:((w.alloc (.cells #[a.nm,a.op,a.k,a.n,a.s] 154)).alloc (.cells #[b.nm,b.op,b.k,b.n,b.s] 154)).heap[(w:Nat)+1]?=some (.cells #[b.nm,b.op,b.k,b.n,b.s] 154):=gA;replace aa3:=I aa3;replace px:=I px;clear heq;rcases W3 with h|h|h|h|h|h|h
        ·have H:=I h;have ak:El a.op=358:=by rw[h];rfl
         rw[ak];clear h ak
         go_region_held3 (λw'=>w'.cell? (w,0)=some ↑a.nm/\w'.cell? (w,1)=some ↑a.op/\w'.cell? (w,2)=some ↑a.k/\w'.cell? (w,3)=some ↑a.n/\w'.cell? (w,4)=some ↑a.s/\w'.cell? (w,1,0)=some ↑b.nm/\w'.cell? (w,1,1)=some ↑b.op/\w'.cell? (w,1,2)=some ↑b.k/\w'.cell? (w,1,3)=some ↑b.n/\w'.cell? (w,1,4)=some ↑b.s)
          (first|(go_split_ands;refine⟨?_,?_,?_,?_,?_,?_,?_,?_,?_,?_⟩<;>exact(Hid.out hy).ag (by assumption))|go_keep)
          (first|(go_at_call 317;refine(F2 _ _ _ _ _ _ _).mono ?_;rintro e cW⟨rfl,hy⟩;replace hy:=I hy)|(go_at_call 358;refine(alm a b _).mono ?_;rintro e cW⟨rfl,hy⟩;replace hy:=I hy))
         all_goals
          exact Kx
        ·have H:=I h;have ak:El a.op=364:=by rw[h];rfl
         rw[ak];clear h ak
         go_region_held3 (λw'=>w'.cell? (w,0)=some ↑a.nm/\w'.cell? (w,1)=some ↑a.op/\w'.cell? (w,2)=some ↑a.k/\w'.cell? (w,3)=some ↑a.n/\w'.cell? (w,4)=some ↑a.s/\w'.cell? (w,1,0)=some ↑b.nm/\w'.cell? (w,1,1)=some ↑b.op/\w'.cell? (w,1,2)=some ↑b.k/\w'.cell? (w,1,3)=some ↑b.n/\w'.cell? (w,1,4)=some ↑b.s)
          (first|(go_split_ands;refine⟨?_,?_,?_,?_,?_,?_,?_,?_,?_,?_⟩<;>exact(Hid.out hy).ag (by assumption))|go_keep)
          (first|(go_at_call 317;refine(F2 _ _ _ _ _ _ _).mono ?_;rintro e cW⟨rfl,hy⟩;replace hy:=I hy)|(go_at_call 364;refine(alk a b _).mono ?_;rintro e cW⟨rfl,hy⟩;replace hy:=I hy))
         all_goals
          go_wp2
          go_ret
          refine⟨jl (by rw[bV.out,H.out];rfl),?_⟩
          exact U
        ·have H:=I h;have ak:El a.op=359:=by rw[h];rfl
         rw[ak];clear h ak
         go_region_held3 (λw'=>w'.cell? (w,0)=some ↑a.nm/\w'.cell? (w,1)=some ↑a.op/\w'.cell? (w,2)=some ↑a.k/\w'.cell? (w,3)=some ↑a.n/\w'.cell? (w,4)=some ↑a.s/\w'.cell? (w,1,0)=some ↑b.nm/\w'.cell? (w,1,1)=some ↑b.op/\w'.cell? (w,1,2)=some ↑b.k/\w'.cell? (w,1,3)=some ↑b.n/\w'.cell? (w,1,4)=some ↑b.s)
          (first|(go_split_ands;refine⟨?_,?_,?_,?_,?_,?_,?_,?_,?_,?_⟩<;>exact(Hid.out hy).ag (by assumption))|go_keep)
          (first|(go_at_call 317;refine(F2 _ _ _ _ _ _ _).mono ?_;rintro e cW⟨rfl,hy⟩;replace hy:=I hy)|(go_at_call 359;refine(alg a b _).mono ?_;rintro e cW⟨rfl,hy⟩;replace hy:=I hy))
         all_goals
          exact Kx
        ·have H:=I h;have ak:El a.op=360:=by rw[h];rfl
         rw[ak];clear h ak
         go_region_held3 (λw'=>w'.cell? (w,0)=some ↑a.nm/\w'.cell? (w,1)=some ↑a.op/\w'.cell? (w,2)=some ↑a.k/\w'.cell? (w,3)=some ↑a.n/\w'.cell? (w,4)=some ↑a.s/\w'.cell? (w,1,0)=some ↑b.nm/\w'.cell? (w,1,1)=some ↑b.op/\w'.cell? (w,1,2)=some ↑b.k/\w'.cell? (w,1,3)=some ↑b.n/\w'.cell? (w,1,4)=some ↑b.s)
          (first|(go_split_ands;refine⟨?_,?_,?_,?_,?_,?_,?_,?_,?_,?_⟩<;>exact(Hid.out hy).ag (by assumption))|go_keep)
          (first|(go_at_call 317;refine(F2 _ _ _ _ _ _ _).mono ?_;rintro e cW⟨rfl,hy⟩;replace hy:=I hy)|(go_at_call 360;refine(alh a b _).mono ?_;rintro e cW⟨rfl,hy⟩;replace hy:=I hy))
         all_goals
          exact Kx
        ·have H:=I h;have ak:El a.op=361:=by rw[h];rfl
         rw[ak];clear h ak
         go_region_held3 (λw'=>w'.cell? (w,0)=some ↑a.nm/\w'.cell? (w,1)=some ↑a.op/\w'.cell? (w,2)=some ↑a.k/\w'.cell? (w,3)=some ↑a.n/\w'.cell? (w,4)=some ↑a.s/\w'.cell? (w,1,0)=some ↑b.nm/\w'.cell? (w,1,1)=some ↑b.op/\w'.cell? (w,1,2)=some ↑b.k/\w'.cell? (w,1,3)=some ↑b.n/\w'.cell? (w,1,4)=some ↑b.s)
          (first|(go_split_ands;refine⟨?_,?_,?_,?_,?_,?_,?_,?_,?_,?_⟩<;>exact(Hid.out hy).ag (by assumption))|go_keep)
          (first|(go_at_call 317;refine(F2 _ _ _ _ _ _ _).mono ?_;rintro e cW⟨rfl,hy⟩;replace hy:=I hy)|(go_at_call 361;refine(ali a b _).mono ?_;rintro e cW⟨rfl,hy⟩;replace hy:=I hy))
         all_goals
          exact Kx
        ·have H:=I h;have ak:El a.op=362:=by rw[h];rfl
         rw[ak];clear h ak
         go_region_held3 (λw'=>w'.cell? (w,0)=some ↑a.nm/\w'.cell? (w,1)=some ↑a.op/\w'.cell? (w,2)=some ↑a.k/\w'.cell? (w,3)=some ↑a.n/\w'.cell? (w,4)=some ↑a.s/\w'.cell? (w,1,0)=some ↑b.nm/\w'.cell? (w,1,1)=some ↑b.op/\w'.cell? (w,1,2)=some ↑b.k/\w'.cell? (w,1,3)=some ↑b.n/\w'.cell? (w,1,4)=some ↑b.s)
          (first|(go_split_ands;refine⟨?_,?_,?_,?_,?_,?_,?_,?_,?_,?_⟩<;>exact(Hid.out hy).ag (by assumption))|go_keep)
          (first|(go_at_call 317;refine(F2 _ _ _ _ _ _ _).mono ?_;rintro e cW⟨rfl,hy⟩;replace hy:=I hy)|(go_at_call 362;refine(alj a b _).mono ?_;rintro e cW⟨rfl,hy⟩;replace hy:=I hy))
         all_goals
          exact Kx
        ·have H:=I h;have ak:El a.op=363:=by rw[h];rfl
         rw[ak];clear h ak
         go_region_held3 (λw'=>w'.cell? (w,0)=some ↑a.nm/\w'.cell? (w,1)=some ↑a.op/\w'.cell? (w,2)=some ↑a.k/\w'.cell? (w,3)=some ↑a.n/\w'.cell? (w,4)=some ↑a.s/\w'.cell? (w,1,0)=some ↑b.nm/\w'.cell? (w,1,1)=some ↑b.op/\w'.cell? (w,1,2)=some ↑b.k/\w'.cell? (w,1,3)=some ↑b.n/\w'.cell? (w,1,4)=some ↑b.s)
          (first|(go_split_ands;refine⟨?_,?_,?_,?_,?_,?_,?_,?_,?_,?_⟩<;>exact(Hid.out hy).ag (by assumption))|go_keep)
          (first|(go_at_call 317;refine(F2 _ _ _ _ _ _ _).mono ?_;rintro e cW⟨rfl,hy⟩;replace hy:=I hy)|(go_at_call 363;refine(aln a b _).mono ?_;rintro e _⟨rfl,hy⟩;replace hy:=I hy))
         all_goals
          exact Kx
       ·have alw:(a.k !=b.k)=true:=by simp[pZ]
        have Aa:=I pZ;clear pZ;refine H6 ?_;intro _ _;refine⟨jl (by rw[a8.out,H5,uV,b7];simp[kJ.out,Aa.out]),?_⟩;exact U
 ·refine H6 ?_;intro _ _;refine⟨jl (by rw[a8.out];simp[aq]),?_⟩;exact U
def aa4(a:bl)(n cap:Nat)(xs:List T)(p:T->Bool)(fn:Nat)(aR:Addr)(w:aC)(ar:a7 w 5 T.cs a n cap xs)(bk:∀args w,(callFunc fn args).run prog w=.ok (.enter fn args) w)(b8:∀x,x∈xs->∀w',Z w w'->aS fn #[.agg #[x.nm,x.op,x.k,x.n,x.s],.pointer (some aR)] w' λe ey=>e=.returned (.bool (p x))/\Z w' ey):
  aS 337 #[ao a n cap,.func (.func fn) #[] #[.pointer (some aR)]] w (cU (.bool (xs.any p)) w):=by
 obtain rfl:=ar.neq;refine td ?_;intro hm a1;change aa _ at ar b8;go_enter func337,ntmps337;go_wp2_with fail;go_loopg [9] (xs.length) (λg st wr=>∃k:Nat,g+k=xs.length/\st=.int .i64 k/\aa ((xs.take k).any p=false)/\aa (Z w wr));case atStart=>exact⟨0,J,rfl,rfl,Z.refl _⟩
 case round=>
  obtain⟨k,_,rfl,eO,X⟩:=hrel;by_cases hk:k<xs.length
  ·obtain⟨b,o,rfl,al⟩:=ar.get k hk;refine Nv ?_;intro cO c1 c2 cV dF;clear al;refine jU ?_;intro b0 bf;cases he:p xs[k]with
   |true=>
    change aa _ at he;go_wp2_with fail;refine qQ (b8 xs[k] (cT hk) _ (X.alloc _)) λw1 hy=>?_;exact aa5
   |false=>
    change aa _ at he;go_wp2_with fail;refine qQ (b8 xs[k] (cT hk) _ (X.alloc _)) λw1 hy=>?_;exact W4
  exact aa6
def aa7(x t:T)(aR:Nat)(w:aC)(aZ:w.cell? (aR,0)=some ↑t.nm)(af:w.cell? (aR,1)=some ↑t.op)(an:w.cell? (aR,2)=some ↑t.k)(aO:w.cell? (aR,3)=some ↑t.n)(bt:w.cell? (aR,4)=some ↑t.s):
  aS 338 #[.agg #[x.nm,x.op,x.k,x.n,x.s],aR] w (cU (.bool (CF x.ts t.ts)) w):=by
 have eB:=((Z.refl w).alloc (.cells #[x.nm,x.op,x.k,x.n,x.s] 154)).ag aZ;have bH:=((Z.refl w).alloc (.cells #[x.nm,x.op,x.k,x.n,x.s] 154)).ag af;have b1:=((Z.refl w).alloc (.cells #[x.nm,x.op,x.k,x.n,x.s] 154)).ag an;have dJ:=((Z.refl w).alloc (.cells #[x.nm,x.op,x.k,x.n,x.s] 154)).ag aO;have eG:=((Z.refl w).alloc (.cells #[x.nm,x.op,x.k,x.n,x.s] 154)).ag bt;go_enter func338,ntmps338;go_wp2_with (go_at_call 339;refine(als x t _).mono ?_;rintro e w'⟨rfl,X⟩;change aa _ at X);go_ret;refine⟨rfl,?_⟩;exact U
def qo(f g:List T):Bool:=f.all λt=>g.any λb=>CF b.ts t.ts
def alx{f g:List T}(hk:k<f.length)(h:qo (f.take k) g=true)(he:g.any (λb=>CF b.ts f[k].ts)=true):qo (f.take (k+1)) g=true:=by
 unfold qo at*;rw[iv hk,Nw,h];simpa using he
def aly{f g:List T}(hk:k<f.length)(he:g.any (λb=>CF b.ts f[k].ts)=false):false=qo f g:=by
 unfold qo;rw[eq_comm,Ky];exact⟨f[k],cT hk,by rw[he];decide⟩
def RY(eS ef:bl)(RZ Kz eT gc:Nat)(xs ys:List T)(w:aC)(eh:a7 w 5 T.cs eS RZ eT xs)(b9:a7 w 5 T.cs ef Kz gc ys):
  aS 328 #[ao eS RZ eT,ao ef Kz gc] w (cU (.bool (qo xs ys)) w):=by
 obtain rfl:=eh.neq;have hm:=eh.max;have a1:=eh.len;unfold maxLen at hm;change aa _ at eh b9;go_enter func328,ntmps328;go_wp2_with fail;go_loopg [9] (xs.length) (λg st wr=>∃k:Nat,g+k=xs.length/\st=.int .i64 k/\aa (qo (xs.take k) ys=true)/\aa (Z w wr));case atStart=>exact⟨0,J,rfl,rfl,Z.refl _⟩
 case round=>
  obtain⟨k,_,rfl,e3,X⟩:=hrel;by_cases hk:k<xs.length
  ·obtain⟨b,o,rfl,al⟩:=eh.get k hk;refine Nv ?_;intro cO c1 c2 cV dF;obtain⟨dK,hT,eU,k3,kf⟩:=Ku (show(wr.alloc (.cells #[xs[k].nm,xs[k].op,xs[k].k,xs[k].n,xs[k].s] 154)).heap[(wr:Nat)]?=some (.cells #[xs[k].nm,xs[k].op,xs[k].k,xs[k].n,xs[k].s] _ _)from(mu _ _));clear al;refine jU ?_;intro b0 bf;cases he:ys.any (λb=>CF b.ts xs[k].ts)with
   |false=>
    have iW:=I he;clear he;go_wp2_with (go_at_call 337;refine(aa4 _ _ _ ys (λb=>CF b.ts xs[k].ts) _ _ _ (b9.ext U) (λ_ _=>by kernel_rfl) (λx _ w' hw=>aa7 x xs[k] _ w' (hw.ag dK) (hw.ag hT) (hw.ag eU) (hw.ag k3) (hw.ag kf))).mono ?_;rintro e w'⟨he,hy⟩;rw[iW.out]at he;subst he;change aa _ at hy);go_ret;refine⟨jl (aly hk iW),?_⟩;exact U
   |true=>
    have iW:=I he;clear he;go_wp2_with (go_at_call 337;refine(aa4 _ _ _ ys (λb=>CF b.ts xs[k].ts) _ _ _ (b9.ext U) (λ_ _=>by kernel_rfl) (λx _ w' hw=>aa7 x xs[k] _ w' (hw.ag dK) (hw.ag hT) (hw.ag eU) (hw.ag k3) (hw.ag kf))).mono ?_;rintro e w'⟨he,hy⟩;rw[iW.out]at he;subst he;change aa _ at hy);go_roundg (gk - 1);case measure=>omega
    case rel=>exact⟨k+1,J,by go_num,alx hk e3 iW,U⟩
  ·refine sy ?_;intro cb;rw[cb]at e3;clear cb;go_wp2;go_ret;refine⟨jl e3.symm,?_⟩;exact U
def a7.Nx{c:α->List Value}{ai:Addr}{ys:List α}(bj:a7 w sz c (some ai) n cap ys)(fs:0<sz):∀j u,(ys.flatMap c)[j]?=some u->w.cell? (ai.add j)=some u:=by
 intro j u aD;have hlen:(ys.flatMap c).length=n*sz:=by
  rw[bj.neq];have hw:=bj.bI;clear aD bj;induction ys with
  |nil=>simp
  |cons y l cY=>exact R0
 refine aa8 ?_;intro yQ hk b off R1 j2;subst j2;refine aa9 ?_;intro hm KA this;rw[show(Addr.mk b off .none).add j=⟨b,off+j,.none⟩ from by unfold Addr.add;split<;>simp_all,this];exact KA.symm
def a7.W5{c:α->List Value}{ys:List α}(bj:a7 w sz c a n cap ys):(ys.flatMap c).length=n*sz:=by
 rw[bj.neq];have hw:=bj.bI;clear bj;induction ys with
 |nil=>simp
 |cons y l cY=>exact R0
def aH.grown{c:α->List Value}{ys:List α}(aJ:aH w base e sz c aA n cap ys)(bC:w.grownBy w' (Value.ownBlock (ao aA n cap)))(fq:(W:Nat)<=base)(X:Z W w):Z W w':=
 X.grown bC λk hk=>by
  cases aA with
  |none=>cases hk
  |some ai=>simp only[Value.ownBlock,Option.some.injEq]at hk;subst hk;exact ek fq (aJ.lt ai rfl).1
def te{c:α->List Value}{ys0 ys:List α}{P:Program}{o:Oper}{a:Act}{K:Act->aC->Prop}(s x:Operand)(t e:TypeId)(aM:o.op=.call {callee:=.builtin .append,args:=#[s,x],argTypes:=#[t,t]})(i:TypeInfo)(z:Value)(bytes:Nat)(bm:P.underlying t=some (.slice e))(aK:P.info? e=some i)(bp:i.zero=some z)(yN:i.size=sz)(wS:i.bytes=bytes)(yO:z.cells.size=sz)(fs:0<sz){wW:Nat}(hs:a.eval s=.slice aA n0 wW)(W:aC)(fq:Z W w)(aJ:aH w W e sz c aA n0 wW ys0){sa:bl}(X:a.eval x=.slice sa n cap)(bj:a7 w sz c sa n cap ys)(af:∀y,∀u∈c y,u.oneCell'=true)(aq:(n0+n)*bytes<=140737488355328)(jt:0<bytes)(h:∀cP fS dE w',fS=n0+n->aH w' W e sz c cP fS dE (ys0++ys)->Z W w'->w.grownBy w' (Value.ownBlock (ao aA n0 wW))->K (a.put o.dst (ao cP fS dE)) w'):o.wp P a w K Q:=by
 cases sa with
 |none=>
  have al:=bj.none rfl;have a1:=bj.len;obtain rfl:cap=0:=al;obtain rfl:n=0:=J;have hy:ys= []:=Bk bj.neq.symm;subst hy;have mL:=run_append_owned_none (P:=P) (w:=w) W t o.type e i sz bm aK (ao aA n0 wW) n0 _ aJ.row;unfold Oper.wp;simp[execOp,aM,resolve,invoke,builtin,hs,X,mL,Result.andThen];exact h aA n0 wW w rfl (by rw[nc];exact aJ) fq ⟨rfl,rfl,rfl,bJ _,λ_ _ _=>rfl⟩
 |some ai=>
  have hbound:n0+n<=(n0+n)*bytes:=Ny _ jt;refine wp_append_own w s x t aM W e i z sz bytes bm aK bp yN wS yO fs (ao aA n0 wW) n0 _ hs aJ.row ai n cap (ys.flatMap c) X bj.W5 (bj.Nx fs) ?_ (by simp only[maxLen];omega) aq fq.size ?_;exact R2
  ·intro _ w' pv b2 _;rw[<-vN]at pv;have hlen:n0+n=(ys0++ys).length:=by rw[c9,<-aJ.neq,<-bj.neq]
   rcases pv.2 with ⟨rfl,aZ⟩|⟨g,aR,cur,rfl,iV,Bj,W6⟩
   ·rw[aZ]at pv hlen;exact h none 0 0 w' aZ.symm (aH.mk pv hlen bj.bI) (aJ.grown b2 (bJ _) fq) b2
   ·exact h _ _ aR w' rfl (aH.mk pv hlen bj.bI) (aJ.grown b2 (bJ _) fq) b2
def W7{c:α->List Value}{ys0 ys:List α}{P:Program}{ops:Array Oper}{o:Oper}{a:Act}{K:Act->aC->Prop}{E:Prop}(nz:o.guard=none)(s x:Operand)(t e:TypeId)(aM:o.op=.call {callee:=.builtin .append,args:=#[s,x],argTypes:=#[t,t]})(i:TypeInfo)(z:Value)(bytes:Nat)(bm:P.underlying t=some (.slice e))(aK:P.info? e=some i)(bp:i.zero=some z)(yN:i.size=sz)(wS:i.bytes=bytes)(yO:z.cells.size=sz)(fs:0<sz){wW:Nat}(hs:a.eval s=.slice aA n0 wW)(W:aC)(fq:Z W w)(aJ:aH w W e sz c aA n0 wW ys0){sa:bl}(X:a.eval x=.slice sa n cap)(bj:a7 w sz c sa n cap ys)(af:∀y,∀u∈c y,u.oneCell'=true)(aq:(n0+n)*bytes<=140737488355328)(jt:0<bytes)(h:∀cP fS dE w',fS=n0+n->aH w' W e sz c cP fS dE (ys0++ys)->Z W w'->w.grownBy w' (Value.ownBlock (ao aA n0 wW))->K (a.put o.dst (ao cP fS dE)) w'):
  if Region.wanted o (yielded ops a.tmps)=true then Oper.wp P o a w K Q else E:=by
 have hw:Region.wanted o (yielded ops a.tmps)=true:=by simp[Region.wanted,nz]
 rw[bc hw];exact te s x t e aM i z bytes bm aK bp yN wS yO fs hs W fq aJ X bj af aq jt h
def aH.empty{c:α->List Value}{B:Nat}(h:w.heap[B]?=some (.cells #[] e (0,0)))(ad:base<=B)(hw:∀y,(c y).length=sz):aH w base e sz c (some (B,0)) 0 0 ([]:List α):=
 ⟨⟨by simp,.inr ⟨B,0,#[],rfl,ad,h,bJ _,gz _,by simp,by simp⟩⟩,rfl,hw⟩
def R3:(prog.info? 154).map (λi=>(i.zero,i.size,i.bytes))=some (some (.agg #[.string ⟨#[]⟩,av,av,av,.string ⟨#[]⟩]),5,56):=bQ
def qp(e:TypeId)(sz:Nat)(c:α->List Value)(xs:List α)(w:World)(r:Ending)(w':World):Prop:=
 ∃aA n cap,r=.returned (.slice aA n cap)/\aH w' w.heap.size e sz c aA n cap xs/\Z w w'
def alz(a:bl)(n cap:Nat)(xs:List T)(w:aC)(ar:a7 w 5 T.cs a n cap xs)(aq:n<=1000000):
  aS 329 #[ao a n cap] w (qp 154 5 T.cs xs w):=by
 obtain⟨ct,bO,bL,bM,bP⟩:=fB R3;have l8:=I ar.neq;have a1:=ar.len;have hm:=ar.max;unfold maxLen at hm;change aa _ at ar bO bL bM bP;have W8:=@Lib.run_eql_slice_nil prog;cases a with
 |none=>
  have al:=ar.none rfl;obtain rfl:cap=0:=al;obtain rfl:n=0:=J;have X:xs= []:=Bk l8.symm;subst X;go_enter func329,ntmps329;go_wp2;go_ret;exact⟨none,0,0,rfl,aH.nil _ _ _ T.bI,U⟩
 |some ai=>
  go_enter func329,ntmps329;go_wp2_with (at_builtin;refine tf rfl λoz mx=>?_;refine te (c:=T.cs) (ys0:= []) (ys:=xs) _ _ 36 154 rfl ct _ 56 KB bO bL bM bP rfl ah rfl w U (aH.empty gA (by simp) T.bI) rfl (ar.ext U) T.cQ J ah ?_;intro cP da qR _ hA jc X py;refine mx _ _ ?_;have c7:=I jc;have hy:=I X;have fC:=I hA;clear jc X py hA);go_ret;exact⟨cP,da,qR,rfl,c7,hy⟩
structure iF where
 a:Option Addr
 n:Nat
 c:Nat
instance:Coe iF Value:=⟨λs=>.slice s.a s.n s.c⟩
structure lN where
 v:iF
 ts:List T
def lN.cs(x:lN):List Value:= [.slice x.v.a x.v.n x.v.c]
def lN.bI(x:lN):x.cs.length=1:=rfl
def lN.cQ(x:lN):∀u∈x.cs,u.oneCell'=true:=by
 intro u aj;simp only[lN.cs,oy,tb,ue]at aj;rcases aj with rfl;rfl
def R4{x:lN}(h:r0 w b o x.cs):w.cell? (b,o)=some ↑x.v:=h 0 _ rfl
structure Em (w:World) (a:Option Addr) (n c:Nat) (xs:List lN):Prop where
 aF:a7 w 1 lN.cs a n c xs
 ts:∀x,x∈xs->a7 w 5 T.cs x.v.a x.v.n x.v.c x.ts
def Em.ext{c:Nat}{xs:List lN}(h:Em w a n c xs)(X:Z w w'):Em w' a n c xs:=⟨h.aF.ext X,λx hm=>(h.ts x hm).ext X⟩
def tg:List (List T)->List (List T)->List (List T)
 |out,[]=>out
 |out,f::rest=>if (out.any (λg=>qo g f)||rest.any (λg=>qo g f))=true then tg out rest else tg (out++[f]) rest
def alA{out l:List (List T)}(hk:k<l.length):tg out (l.drop k)=if (out.any (λg=>qo g l[k])||(l.drop (k+1)).any (λg=>qo g l[k]))=true then tg out (l.drop (k+1)) else tg (out++[l[k]]) (l.drop (k+1)):=by
 rw[Ab hk];rfl
def aba:(prog.info? 36).map (λi=>(i.zero,i.size,i.bytes))=some (some ↑aP,1,24):=bQ
structure H8 (w:World) (base:Nat) (a:Option Addr) (n c:Nat) (ys:List lN):Prop where
 aF:aH w base 36 1 lN.cs a n c ys
 ts:∀y,y∈ys->aH w base 154 5 T.cs y.v.a y.v.n y.v.c y.ts
def H8.ext{c:Nat}{ys:List lN}(h:H8 w base a n c ys)(X:Z w w'):H8 w' base a n c ys:=⟨h.aF.ext X,λy hy=>(h.ts y hy).ext X⟩
def H8.alB{c:Nat}{ys:List lN}(h:H8 w base a n c ys):Em w a n c ys:=⟨h.aF.aF,λy hy=>(h.ts y hy).aF⟩
def alC(h3:List (List T))(w:World)(e:Ending)(w':World):Prop:=
 ∃aA n c ys,e=.returned (.slice aA n c)/\H8 w' w.heap.size aA n c ys/\ys.map (·.ts)=h3/\Z w w'
def abb{ys:List lN}{f:List T}:(ys.map (·.ts)).any (λg=>qo g f)=ys.any (λy=>qo y.ts f):=by rw[yR];rfl
def alD{ys:List lN}{p:lN->Bool}{j:Nat}(aD:j<ys.length)(h:p ys[j]=true):ys.any p=true:=Bi.2 ⟨_,cT aD,h⟩
def abc{out l R f:List (List T)}{c:Bool}{x:List (List T)}(h:tg out x=R)(aG:tg out x=if c=true then tg out l else tg f l)(al:c=true):tg out l=R:=by
 rw[aG,bc al]at h;exact h
def alE{out l R f:List (List T)}{c:Bool}{x:List (List T)}(h:tg out x=R)(aG:tg out x=if c=true then tg out l else tg f l)(al:c=false):tg f l=R:=by
 rw[aG,aV (by rw[al];decide)]at h;exact h
def alF{l:List (List T)}{f:List T}{j:Nat}(aD:j<l.length)(h:qo l[j] f=true):l.any (λg=>qo g f)=true:=Bi.2 ⟨_,cT aD,h⟩
def alG(er:bl)(fk lc:Nat)(xs:List lN)(w:aC)(bG:Em w er fk lc xs)(aq:fk<=10000)(abd:∀x,x∈xs->x.v.n<=10000):
  aS 303 #[ao er fk lc] w (alC (tg [] (xs.map (·.ts))) w):=by
 obtain⟨ct,bO,bL,bM,bP⟩:=fB aba;obtain rfl:=bG.aF.neq;have hm:=bG.aF.max;have a1:=bG.aF.len;unfold maxLen at hm;change aa _ at bG abd bO bL bM bP;generalize bB:tg [] (xs.map (·.ts))=R;change aa _ at bB;go_enter func303,ntmps303;refine KC ?_;intro _ _
 go_loopg [3,4,5,7,9,12,17,18,19,30,31,32] (xs.length) (λg e4 _ _ _ _ st _ _ _ _ _ _ wr=>∃(k:Nat) (aA:bl) (m aR:Nat) (ys:List lN),g+k=xs.length/\st=.int .i64 k/\e4=.slice aA m aR/\m<=k/\
  aa (H8 wr w aA m aR ys)/\aa (tg (ys.map (·.ts)) ((xs.map (·.ts)).drop k)=R)/\aa (Z w wr))
 case atStart=>exact⟨0,none,0,0,[],J,rfl,rfl,J,⟨aH.nil _ _ _ lN.bI,λy hy=>by cases hy⟩,bB.out,Z.refl _⟩
 case round=>
  obtain⟨k,aA,m,aR,ys,_,rfl,rfl,_,aJ,Nz,X⟩:=hrel;obtain⟨G,_⟩:∃G,G=gk:=⟨_,rfl⟩;have abe:=I aJ.out.aF.neq;have oY:=aJ.out.aF.aF.len;have lO:=aJ.out.aF.aF.max;unfold maxLen at lO;by_cases hk:k<xs.length
  ·obtain⟨b,o,rfl,al⟩:=bG.out.aF.get k hk;have cO:=R4 (w:=wr) (b:=b) (o:=o+k*1) (x:=xs[k]) (λj v aD=>X.out.ag (al j v aD));rw[jd]at cO;have eh:=I (bG.out.ts xs[k] (cT hk));have Ac:k<(xs.map (·.ts)).length:=by rw[cx];exact hk
   have NA:(xs.map (·.ts))[k]=xs[k].ts:=by simp
   have cJ:=I (alA (out:=ys.map (·.ts)) Ac);change aa _ at NA;clear al;refine jU ?_;intro b0 bf;go_wp2_with fail;go_loopg [7,19] (m) (λg _ st wl=>∃j:Nat,g+j=m/\st=.int .i64 j/\aa ((ys.take j).any (λy=>qo y.ts xs[k].ts)=false)/\aa (Z wr wl));case atStart=>exact⟨0,J,rfl,rfl,Z.refl _⟩
   case round=>
    obtain⟨j,_,rfl,eO,hy⟩:=hrel
    rename aC=>wl
    by_cases aD:j<m
    ·have yQ:j<ys.length:=by have:=abe.out;omega
     obtain⟨b',ll,rfl,qS⟩:=aJ.out.aF.aF.get j yQ;have d0:=R4 (w:=wl) (b:=b') (o:=ll+j*1) (x:=ys[j]) (λq v bs=>hy.out.ag (qS q v bs));rw[jd]at d0;clear qS;have dU:(0:Int)<=(j:Int):=J;have cm:(j:Int)<(m:Int):=J;cases he:qo ys[j].ts xs[k].ts with
     |true=>
      have iW:=I he;clear he;go_wp2_with (go_at_call 328;refine(RY _ _ _ _ _ _ ys[j].ts xs[k].ts _ ((aJ.out.ts _ (cT yQ)).aF.ext U) (eh.out.ext U)).mono ?_;rintro e cW⟨he,En⟩;rw[iW.out]at he;subst he;change aa _ at En);go_roundg (G - 1);case measure=>omega
      case rel=>exact⟨k+1,_,m,aR,ys,J,by go_num,rfl,J,aJ.out.ext U,abc Nz.out cJ.out (by rw[NA.out,abb,alD yQ iW.out];rfl),U⟩
     |false=>
      have iW:=I he;clear he;go_wp2_with (go_at_call 328;refine(RY _ _ _ _ _ _ ys[j].ts xs[k].ts _ ((aJ.out.ts _ (cT yQ)).aF.ext U) (eh.out.ext U)).mono ?_;rintro e cW⟨he,En⟩;rw[iW.out]at he;subst he;change aa _ at En);go_roundg (gk - 1);case measure=>omega
      case rel=>exact⟨j+1,J,by go_num,Ef (p:=λy:lN=>qo y.ts xs[k].ts) yQ eO.out iW.out,U⟩
    ·have abf:ys.take j=ys:=iU (by have:=abe.out;omega);rw[abf]at eO;clear abf;by_cases R5:k+1=lc
     ·obtain rfl:k+1=lc:=R5;have b3:xs.length - (k+1)=0:=J;change aa _ at b3;go_wp2_with fail;go_loopg [9,32] (xs.length - (k+1)) (λg _ st qT=>∃eU:Nat,g+eU=xs.length - (k+1)/\st=.int .i64 eU/\aa ((((xs.map (·.ts)).drop (k+1)).take eU).any (λg=>qo g xs[k].ts)=false)/\aa (Z wl qT));case atStart=>exact⟨0,J,rfl,rfl,Z.refl _⟩
      case round=>
       obtain⟨eU,R6,rfl,R7,bp⟩:=hrel
       rename aC=>qT
       by_cases W9:eU<xs.length - (k+1)
       ·exact absurd W9 (by have:=b3.out;omega)
       exact abg
     ·have fH:k+1<lc:=J;go_wp2_with fail;go_loopg [9,32] (xs.length - (k+1)) (λg _ st qT=>∃eU:Nat,g+eU=xs.length - (k+1)/\st=.int .i64 eU/\aa ((((xs.map (·.ts)).drop (k+1)).take eU).any (λg=>qo g xs[k].ts)=false)/\aa (Z wl qT));case atStart=>exact⟨0,J,rfl,rfl,Z.refl _⟩
      case round=>
       obtain⟨eU,_,rfl,R7,_⟩:=hrel
       rename aC=>qT
       by_cases W9:eU<xs.length - (k+1)
       ·have abh:k+1+eU<xs.length:=J;obtain⟨dA,_,iX,F7⟩:=bG.out.aF.get (k+1+eU) abh;simp only[Option.some.injEq,Addr.mk.injEq,H9]at iX;obtain⟨rfl,rfl⟩:=iX;have b7:Z w qT:=U;have d0:=R4 (w:=qT) (b:=b) (o:=o+(k+1+eU)*1) (x:=xs[k+1+eU]) (λq v bs=>b7.ag (F7 q v bs));rw[show o+(k+1+eU)*1=o+(k+1)+eU from by omega]at d0;have nC:=I (bG.out.ts xs[k+1+eU] (cT abh));clear F7 b7;have NB:eU<((xs.map (·.ts)).drop (k+1)).length:=by rw[CM,cx];exact W9
        have Xa:((xs.map (·.ts)).drop (k+1))[eU]=xs[k+1+eU].ts:=by simp
        change aa _ at Xa;have dU:(0:Int)<=(eU:Int):=J;have cm:(eU:Int)<((xs.length - (k+1):Nat):Int):=J;cases he:qo xs[k+1+eU].ts xs[k].ts with
        |true=>
         have iW:=I he;clear he;go_wp2_with (go_at_call 328;refine(RY _ _ _ _ _ _ xs[k+1+eU].ts xs[k].ts _ (nC.out.ext U) (eh.out.ext U)).mono ?_;rintro e cW⟨he,En⟩;rw[iW.out]at he;subst he;change aa _ at En);go_roundg (G - 1);case measure=>omega
         case rel=>exact⟨k+1,_,m,aR,ys,J,by go_num,rfl,J,aJ.out.ext U,abc Nz.out cJ.out (by rw[NA.out,alF NB (by rw[Xa.out];exact iW.out),Bool.or_true]),U⟩
        |false=>
         have iW:=I he;clear he;go_wp2_with (go_at_call 328;refine(RY _ _ _ _ _ _ xs[k+1+eU].ts xs[k].ts _ (nC.out.ext U) (eh.out.ext U)).mono ?_;rintro e cW⟨he,En⟩;rw[iW.out]at he;subst he;change aa _ at En);go_roundg (gk - 1);case measure=>omega
         case rel=>exact⟨eU+1,J,by go_num,Ef (p:=λg:List T=>qo g xs[k].ts) NB R7.out (by rw[Xa.out];exact iW.out),U⟩
       exact abg
  ·have cb:(xs.map (·.ts)).drop k= []:=NC (by rw[cx];omega);rw[cb]at Nz;clear cb;go_wp2;go_ret;exact⟨aA,m,aR,ys,rfl,aJ.out,Nz.out,U⟩
def alH(f:List T):Prop:=∀t,t∈f->t.ts.ok
def abi(a:bl)(n cap:Nat)(xs:List cI)(p:cI->Bool)(fn:Nat)(aR:Addr)(w:aC)(ar:a7 w 4 cI.cs a n cap xs)(bk:∀args w,(callFunc fn args).run prog w=.ok (.enter fn args) w)(b8:∀x,x∈xs->∀w',Z w w'->aS fn #[.agg #[x.nm,x.k,x.n,x.s],.pointer (some aR)] w' λe ey=>e=.returned (.bool (p x))/\Z w' ey):
  aS 316 #[ao a n cap,.func (.func fn) #[] #[.pointer (some aR)]] w (cU (.int .i64 (qP p xs)) w):=by
 obtain rfl:=ar.neq;refine td ?_;intro hm a1;change aa _ at ar b8;go_enter func316,ntmps316;go_wp2_with fail;go_loopg [5,8] (xs.length) (λg _ st wr=>∃k:Nat,g+k=xs.length/\st=.int .i64 k/\aa ((xs.take k).any p=false)/\aa (Z w wr));case atStart=>exact⟨0,J,rfl,rfl,Z.refl _⟩
 case round=>
  obtain⟨k,_,rfl,eO,X⟩:=hrel;by_cases hk:k<xs.length
  ·obtain⟨b,o,rfl,al⟩:=ar.get k hk;refine Xb ?_;intro cO c1 c2 cV;clear al;exact ND
  exact NF
def abj(x:cI)(nm:ByteArray)(aR:Nat)(w:aC)(aZ:w.cell? (aR,0)=some ↑nm):
  aS 315 #[.agg #[x.nm,x.k,x.n,x.s],aR] w (cU (.bool (decide (x.nm.toList=nm.toList))) w):=by
 have eB:=((Z.refl w).alloc (.cells #[x.nm,x.k,x.n,x.s] 77)).ag aZ;go_enter func315,ntmps315;exact abk
def KD(xs:List cI)(nm:List UInt8):Option cI:=xs.find? λx=>decide (x.nm.toList=nm)
def alI{xs:List cI}{nm:eg}:(∃(i:Nat) (aK:i<xs.length),qP (λx:cI=>decide (x.nm.toList=nm)) xs=(i:Int)/\KD xs nm=some xs[i])\/(qP (λx:cI=>decide (x.nm.toList=nm)) xs=-1/\KD xs nm=none):=by
 unfold qP KD;cases h:xs.findIdx? (λx:cI=>decide (x.nm.toList=nm))with
 |none=>
  refine .inr ⟨rfl,?_⟩;rw[List.find?_eq_none];intro x X;rw[RJ]at h;rw[h x X];decide
 |some i=>
  rw[List.findIdx?_eq_some_iff_getElem]at h;obtain⟨aK,af,an⟩:=h;refine .inl ⟨i,aK,rfl,?_⟩;rw[List.find?_eq_some_iff_getElem];refine⟨af,i,aK,rfl,λj aD=>?_⟩;have:=an j aD;simpa using this
def Xc(o:Option cI):Value:=match o with
 |some x=>.tuple #[.agg #[x.k,x.n,x.s],.bool true]
 |none=>.tuple #[.agg #[av,av,.string ⟨#[]⟩],.bool false]
def abl(a:bl)(n cap:Nat)(xs:List cI)(nm:ByteArray)(w:aC)(ar:a7 w 4 cI.cs a n cap xs):
  aS 291 #[ao a n cap,nm] w (cU (Xc (KD xs nm.toList)) w):=by
 obtain rfl:=ar.neq;refine td ?_;intro hm a1;change aa _ at ar;rcases alI (xs:=xs) (nm:=nm.toList)with ⟨i,aK,af,an⟩|⟨af,an⟩
 ·obtain⟨b,o,rfl,cg⟩:=ar.get i aK;change aa _ at cg;have H1:=I af;change aa _ at an;clear af;have b0:(0:Int)<=(i:Int):=J;have bf:(i:Int)<(xs.length:Int):=J;go_enter func291,ntmps291;go_wp2_with (go_at_call 316;refine(abi _ _ _ xs (λx:cI=>decide (x.nm.toList=nm.toList)) _ _ _ (ar.ext U) (λ_ _=>by kernel_rfl) (λx _ w' hw=>abj x nm _ w' (hw.ag (by simp)))).mono ?_;rintro e w'⟨he,X⟩;rw[H1.out]at he;subst he;have b7:Z w w':=Z.trans U X;obtain⟨_,_,_,_⟩:=Np (w:=w') (b:=b) (o:=o+i*4) (x:=xs[i]) (λj v aD=>b7.ag (cg j v aD));have z0:=X.ag (a:=⟨w.heap.size+1,0,none⟩) (v:=.int .i64 0) (by simp);have cZ:=X.ag (a:=⟨w.heap.size+1,1,none⟩) (v:=.int .i64 0) (by simp);have z2:=X.ag (a:=⟨w.heap.size+1,2,none⟩) (v:=.string ⟨#[]⟩) (by simp);have bp:=X.size;have bs:=X.cell;have Xd:=X.frozen;clear b7;change aa _ at X);exact ke (v:=.tuple #[.agg #[xs[i].k,xs[i].n,xs[i].s],.bool true]) (by simp[results,results291,go_sem,z0,cZ,z2]) rfl ⟨by rw[an.out];rfl,Z.setCell (Z.setCell (Z.setCell U (l9 _) _) (l9 _) _) (l9 _) _⟩
 ·have H1:=I af;change aa _ at an;clear af;go_enter func291,ntmps291;go_wp2_with (go_at_call 316;refine(abi _ _ _ xs (λx:cI=>decide (x.nm.toList=nm.toList)) _ _ _ (ar.ext U) (λ_ _=>by kernel_rfl) (λx _ w' hw=>abj x nm _ w' (hw.ag (by simp)))).mono ?_;rintro e w'⟨he,X⟩;rw[H1.out]at he;subst he;have z0:=X.ag (a:=⟨w.heap.size+1,0,none⟩) (v:=.int .i64 0) (by simp);have cZ:=X.ag (a:=⟨w.heap.size+1,1,none⟩) (v:=.int .i64 0) (by simp);have z2:=X.ag (a:=⟨w.heap.size+1,2,none⟩) (v:=.string ⟨#[]⟩) (by simp);have bp:=X.size;have bs:=X.cell;have Xd:=X.frozen;change aa _ at X);exact ke (v:=.tuple #[.agg #[av,av,.string ⟨#[]⟩],.bool false]) (by simp[results,results291,go_sem,z0,cZ,z2]) rfl ⟨by rw[an.out];rfl,Z.setCell (Z.setCell (Z.setCell U (l9 _) _) (l9 _) _) (l9 _) _⟩
def CN(t:T)(xs:List cI):Bool:=match KD xs t.nm.toList with
 |some x=>HV t.op t.v x.v
 |none=>false
def abm(t:T)(a:bl)(n cap:Nat)(xs:List cI)(w:aC)(ar:a7 w 4 cI.cs a n cap xs):
  aS 247 #[.agg #[t.nm,t.op,t.k,t.n,t.s],ao a n cap] w (cU (.bool (CN t xs)) w):=by
 change aa _ at ar;cases bk:KD xs t.nm.toList with
 |none=>
  have eh:=I bk;have oA:=I (show CN t xs=false from by unfold CN;rw[bk]);clear bk;go_enter func247,ntmps247;go_wp2_with (go_at_call 291;refine(abl _ _ _ xs t.nm _ (ar.ext U)).mono ?_;rintro e w'⟨he,X⟩;rw[eh.out]at he;unfold Xc at he;subst he;have t0:w'.cell? (w,0)=some ↑t.nm:=X.ag (by simp);have t1:w'.cell? (w,1)=some ↑t.op:=X.ag (by simp);have t2:w'.cell? (w,2)=some ↑t.k:=X.ag (by simp);have t3:w'.cell? (w,3)=some ↑t.n:=X.ag (by simp);have t4:w'.cell? (w,4)=some ↑t.s:=X.ag (by simp);have bp:(w:Nat)<(w':Nat):=(by have:=X.size;simp at this;omega);change aa _ at X);go_ret;refine⟨jl oA.symm,?_⟩;exact U
 |some x=>
  have eh:=I bk;have oA:=I (show CN t xs=HV t.op t.v x.v from by unfold CN;rw[bk]);clear bk;go_enter func247,ntmps247;go_wp2_with (first|(go_at_call 291;refine(abl _ _ _ xs t.nm _ (ar.ext U)).mono ?_;rintro e w'⟨he,X⟩;rw[eh.out]at he;unfold Xc at he;subst he;have t0:w'.cell? (w,0)=some ↑t.nm:=X.ag (by simp);have t1:w'.cell? (w,1)=some ↑t.op:=X.ag (by simp);have t2:w'.cell? (w,2)=some ↑t.k:=X.ag (by simp);have t3:w'.cell? (w,3)=some ↑t.n:=X.ag (by simp);have t4:w'.cell? (w,4)=some ↑t.s:=X.ag (by simp);have bp:(w:Nat)<(w':Nat):=(by have:=X.size;simp at this;omega);change aa _ at X)|(go_at_call 292;refine(aa0 t x.k x.n x.s _).mono ?_;rintro e _⟨rfl,hy⟩;change aa _ at hy));go_ret;refine⟨jl oA.symm,?_⟩;exact U
def uf(f:List T)(xs:List cI):Bool:=f.all λt=>CN t xs
def abn{p:α->Bool}{xs:List α}(hk:k<xs.length)(h:(xs.take k).all p=true)(he:p xs[k]=true):(xs.take (k+1)).all p=true:=by
 rw[iv hk,Nw,h];simp[he]
def alJ{p:α->Bool}{xs:List α}(hk:k<xs.length)(he:p xs[k]=false):false=xs.all p:=by
 rw[eq_comm,Ky];exact⟨xs[k],cT hk,by rw[he];decide⟩
def abo(eS:bl)(fn eT:Nat)(h3:List T)(a:bl)(n cap:Nat)(xs:List cI)(w:aC)(eh:a7 w 5 T.cs eS fn eT h3)(ar:a7 w 4 cI.cs a n cap xs):
  aS 172 #[ao eS fn eT,ao a n cap] w (cU (.bool (uf h3 xs)) w):=by
 obtain rfl:=eh.neq;have hm:=eh.max;have a1:=eh.len;unfold maxLen at hm;change aa _ at eh ar;go_enter func172,ntmps172;refine KC ?_;intro _ _;go_loopg [5,10] (h3.length) (λg alK st wr=>∃k:Nat,g+k=h3.length/\st=.int .i64 k/\alK=.bool true/\aa ((h3.take k).all (λt=>CN t xs)=true)/\aa (Z w wr));case atStart=>exact⟨0,J,rfl,rfl,rfl,Z.refl _⟩
 case round=>
  obtain⟨k,_,rfl,rfl,e3,X⟩:=hrel;by_cases hk:k<h3.length
  ·obtain⟨b,o,rfl,al⟩:=eh.get k hk;obtain⟨_,_,_,_,_⟩:=RS (w:=wr) (b:=b) (o:=o+k*5) (x:=h3[k]) (λj v aD=>X.ag (al j v aD));clear al;have b0:(0:Int)<=(k:Int):=J;have bf:(k:Int)<(h3.length:Int):=J;cases he:CN h3[k] xs with
   |false=>
    have iW:=I he;clear he;go_wp2_with (go_at_call 247;refine(abm h3[k] _ _ _ xs _ (ar.ext U)).mono ?_;rintro e w'⟨he,hy⟩;rw[iW.out]at he;subst he;change aa _ at hy);first|rw[pX]|skip
    go_ret;refine⟨jl (alJ (p:=λt=>CN t xs) hk iW),?_⟩;exact U
   |true=>
    have iW:=I he;clear he;go_wp2_with (go_at_call 247;refine(abm h3[k] _ _ _ xs _ (ar.ext U)).mono ?_;rintro e w'⟨he,hy⟩;rw[iW.out]at he;subst he;change aa _ at hy);go_roundg (gk - 1);case measure=>omega
    case rel=>exact⟨k+1,J,by go_num,rfl,abn (p:=λt=>CN t xs) hk e3 iW,U⟩
  ·have cb:h3.take k=h3:=iU J;rw[cb]at e3;clear cb;go_wp2;first|rw[pX]|skip
   go_ret;refine⟨jl e3.symm,?_⟩;exact U
def alL(a:bl)(n cap:Nat)(xs:List lN)(p:lN->Bool)(fn:Nat)(aR:Addr)(w:aC)(ar:Em w a n cap xs)(bk:∀args w,(callFunc fn args).run prog w=.ok (.enter fn args) w)(b8:∀x,x∈xs->∀w',Z w w'->aS fn #[x.v,.pointer (some aR)] w' λe ey=>e=.returned (.bool (p x))/\Z w' ey):
  aS 304 #[ao a n cap,.func (.func fn) #[] #[.pointer (some aR)]] w (cU (.bool (xs.any p)) w):=by
 obtain rfl:=ar.aF.neq;have hm:=ar.aF.max;have a1:=ar.aF.len;unfold maxLen at hm;change aa _ at ar b8;go_enter func304,ntmps304;go_wp2_with fail;go_loopg [6,9] (xs.length) (λg _ st wr=>∃k:Nat,g+k=xs.length/\st=.int .i64 k/\aa ((xs.take k).any p=false)/\aa (Z w wr));case atStart=>exact⟨0,J,rfl,rfl,Z.refl _⟩
 case round=>
  obtain⟨k,_,rfl,eO,X⟩:=hrel;by_cases hk:k<xs.length
  ·obtain⟨b,o,rfl,al⟩:=ar.aF.get k hk;have cO:=R4 (w:=wr) (b:=b) (o:=o+k*1) (x:=xs[k]) (λj v aD=>X.ag (al j v aD));rw[jd]at cO;clear al;refine jU ?_;intro b0 bf;cases he:p xs[k]with
   |true=>
    change aa _ at he;go_wp2_with fail;refine KE ?_;intro w1 hy;exact aa5
   |false=>
    change aa _ at he;go_wp2_with fail;refine KE ?_;intro w1 hy;exact W4
  exact aa6
def alM(x:lN)(dL:bl)(eC dO:Nat)(aX:List cI)(aR:Nat)(w:aC)(eh:a7 w 5 T.cs x.v.a x.v.n x.v.c x.ts)(hf:a7 w 4 cI.cs dL eC dO aX)(aZ:w.cell? (aR,0)=some ↑(ao dL eC dO)):
  aS 305 #[x.v,aR] w (cU (.bool (uf x.ts aX)) w):=by
 change aa _ at eh hf;go_enter func305,ntmps305;go_wp2_with (go_at_call 172;refine(abo _ _ _ x.ts _ _ _ aX _ (eh.ext U) (hf.ext U)).mono ?_;rintro e w'⟨rfl,X⟩;change aa _ at X);go_ret;refine⟨rfl,?_⟩;exact U
def alN(a:bl)(n cap:Nat)(xs:List lN)(dL:bl)(eC dO:Nat)(aX:List cI)(w:aC)(ar:Em w a n cap xs)(hf:a7 w 4 cI.cs dL eC dO aX):
  aS 282 #[ao a n cap,ao dL eC dO] w (cU (.bool (xs.any λx=>uf x.ts aX)) w):=by
 change aa _ at ar hf;go_enter func282,ntmps282;go_wp2_with (go_at_call 304;refine(alL _ _ _ xs (λx=>uf x.ts aX) _ _ _ (ar.ext U) (λ_ _=>by kernel_rfl) (λx X w' hw=>alM x dL eC dO aX _ w' ((ar.ts x X).ext (Z.trans U hw)) (hf.ext (Z.trans U hw)) (hw.ag (by simp)))).mono ?_;rintro e w'⟨rfl,X⟩;change aa _ at X);go_ret;refine⟨rfl,?_⟩;exact U
def apart(f g:List T):Prop:=qo f g=false/\qo g f=false
def Xe(p:Prop)(w:World)(e:Ending)(w':World):Prop:=∃b:Bool,e=.returned (.bool b)/\(b=true->p)/\Z w w'
def alO(a:bl)(n cap:Nat)(xs:List T)(w:aC)(ar:a7 w 5 T.cs a n cap xs):
  aS 34 #[ao a n cap] w (Xe (xs.length<=10) w):=by
 obtain rfl:=ar.neq;refine td ?_;intro hm a1;change aa _ at ar;by_cases ad:xs.length<=10
 ·have Xf:(xs.length:Int)<=10:=J;go_enter func34,ntmps34;go_wp2_with fail;go_loopg [3] (xs.length) (λg st wr=>∃k:Nat,g+k=xs.length/\st=.int .i64 k/\aa (Z w wr));case atStart=>exact⟨0,J,rfl,Z.refl _⟩
  case round=>
   obtain⟨k,_,rfl,X⟩:=hrel;by_cases hk:k<xs.length
   ·obtain⟨b,o,rfl,al⟩:=ar.get k hk;refine Nv ?_;intro cO c1 c2 cV dF;clear al;refine jU ?_;intro b0 bf;exact abp
   ·go_wp2;go_ret;exact⟨true,rfl,λ_=>ad,U⟩
 ·have Xf:10<(xs.length:Int):=J;go_enter func34,ntmps34;go_wp2_with fail;(exact Xg)
def alP(a:bl)(n cap:Nat)(xs:List cI)(w:aC)(ar:a7 w 4 cI.cs a n cap xs):
  aS 33 #[ao a n cap] w (Xe (xs.length<=20) w):=by
 obtain rfl:=ar.neq;refine td ?_;intro hm a1;change aa _ at ar;by_cases ad:xs.length<=20
 ·have Xf:(xs.length:Int)<=20:=J;go_enter func33,ntmps33;go_wp2_with fail;go_loopg [3] (xs.length) (λg st wr=>∃k:Nat,g+k=xs.length/\st=.int .i64 k/\aa (Z w wr));case atStart=>exact⟨0,J,rfl,Z.refl _⟩
  case round=>
   obtain⟨k,_,rfl,X⟩:=hrel;by_cases hk:k<xs.length
   ·obtain⟨b,o,rfl,al⟩:=ar.get k hk;refine Xb ?_;intro cO c1 c2 cV;clear al;refine jU ?_;intro b0 bf;exact abp
   ·go_wp2;go_ret;exact⟨true,rfl,λ_=>ad,U⟩
 ·have Xf:20<(xs.length:Int):=J;go_enter func33,ntmps33;go_wp2_with fail;(exact Xg)
def CO(c:UInt8):Bool:=decide ((97<=(c.toNat:Int)/\(c.toNat:Int)<=122)\/(48<=(c.toNat:Int)/\(c.toNat:Int)<=57))
def qU(s:List UInt8):Bool:=decide (1<=s.length/\s.length<=16)&&s.all CO
def alQ(s:ByteArray)(k:Nat)(h:k<s.size):s.data.toList.take (k+1)=s.data.toList.take k++[s[k]]:=by
 rw[iv (by simpa using h)];rfl
def alR{s:ByteArray}(hk:k<s.size)(h:(s.data.toList.take k).all CO=true)(he:CO s[k]=true):(s.data.toList.take (k+1)).all CO=true:=by
 rw[alQ s k hk,Nw,h];simp[he]
def alS{s:ByteArray}(hk:k<s.size)(he:CO s[k]=false):false=qU s.toList:=by
 have hm:s[k]∈s.toList:=by rw[CG];exact cT (by simpa using hk)
 have:s.toList.all CO=false:=Ky.2 ⟨s[k],hm,by rw[he];decide⟩;unfold qU;rw[this,wV]
def alT{s:ByteArray}(af:1<=s.size)(an:s.size<=16)(h:s.data.toList.all CO=true):true=qU s.toList:=by
 unfold qU;rw[yM,CG,h];simp[af,an]
def abq{s:ByteArray}(h:¬(1<=s.size/\s.size<=16)):false=qU s.toList:=by
 unfold qU;rw[yM];simp only[je h,CP]
def NG(s:ByteArray)(w:aC):aS 244 #[s] w λe w'=>e=.returned (.bool (qU s.toList))/\w=w':=by
 by_cases af:1<=s.size
 ·by_cases an:s.size<=16
  ·have i1:(1:Int)<=(s.size:Int):=J;have mv:(s.size:Int)<=16:=J;go_enter func244,ntmps244;go_wp2_with fail;go_loopg [15] (s.size) (λg st wr=>∃k:Nat,g+k=s.size/\st=.int .i64 k/\aa ((s.data.toList.take k).all CO=true)/\w=wr);case atStart=>exact⟨0,J,rfl,rfl,rfl⟩
   case round=>
    obtain⟨k,_,rfl,e3,rfl⟩:=hrel;by_cases hk:k<s.size
    ·have b0:(0:Int)<=(k:Int):=J;have bf:(k:Int)<(s.size:Int):=J;go_wp2_with fail
     all_goals first
      |(go_ret;exact⟨jl (alS hk (by unfold CO;simp;omega)),rfl⟩)
      |(go_roundg (gk - 1);(case measure=>omega);(case rel=>exact⟨k+1,J,by go_num,alR hk e3 (by unfold CO;simp;omega),rfl⟩))
    ·have cb:s.data.toList.take k=s.data.toList:=iU (by simp;omega);rw[cb]at e3;go_wp2;go_ret;exact⟨jl (alT af an e3),rfl⟩
  ·have H:=I (abq (s:=s) J);have mv:(16:Int)<(s.size:Int):=J;exact abr
 ·have H:=I (abq (s:=s) J);have i1:(s.size:Int)<1:=J;exact abr
def nD(t:T):Bool:=qU t.nm.toList&&xD t.op&&(if t.op=8 then decide (t.v=⟨0,0,[]⟩) else decide (wQ t.k t.n t.s.toList=0)&&(!decide (t.op=7)||decide (t.k=2)))
def xG(b:Bool):Int:=if b=true then 0 else 50
def alU{t:T}(h:nD t=true):t.ts.ok:=by
 unfold nD xD at h;simp only[jS,jT]at h;obtain⟨⟨_,an⟩,aO⟩:=h;by_cases fG:t.op=8
 ·exact⟨an,.inl fG,λkv=>by rw[show t.ts.op=t.op from rfl]at kv;omega⟩
 ·rw[aV fG]at aO;simp only[jS,vK,jT,Eo,z7]at aO;exact⟨an,.inr aO.1,λkv=>aO.2.resolve_left (λn=>n kv)⟩
def alV(k n:Int)(s:ByteArray)(w:aC):
  (binOp .eql 74 (.agg #[k,n,s]) (.agg #[av,av,.string ⟨#[]⟩])).run prog w=.ok (.bool (decide ((⟨k,n,s.toList⟩:vL)=⟨0,0,[]⟩))) w:=by
 have tc:decide ((⟨k,n,s.toList⟩:vL)=⟨0,0,[]⟩)=decide (k=0/\n=0/\s.toList= []):=H3.2 (by simp);rw[tc];by_cases aO:k=0
 ·by_cases bt:n=0
  ·by_cases cC:s.toList= []
   ·simp[aO,bt,cC,go_sem]
   ·simp[aO,bt,cC,go_sem]
  ·simp[aO,bt,go_sem]
 ·simp[aO,go_sem]
def abt(t:T)(w:aC):aS 296 #[.agg #[t.nm,t.op,t.k,t.n,t.s]] w (cU (.int .i64 (xG (nD t))) w):=by
 have heq:=alV t.k t.n t.s;go_enter func296,ntmps296;go_wp2_with (first|(go_at_call 244;refine(NG _ _).mono ?_;rintro e w'⟨rfl,rfl⟩)|(go_at_call 245;refine(Ej _ _ _ _).mono ?_;rintro e w'⟨rfl,X⟩;have al:=X.cell;change aa _ at X))
 all_goals
  go_ret
  refine⟨jk ?_,U⟩
  unfold xG nD xD
  simp_all[T.v]
  try omega
  try (intros;simp_all)
def nE(xs:List T):Bool:=decide (xs.length<=8)&&xs.all nD
def alW{xs:List T}(h:nE xs=true):xs.length<=8/\alH xs:=by
 unfold nE at h;simp only[jS,jT,Ad]at h;exact⟨h.1,λt bm=>alU (h.2 t bm)⟩
def alX{xs:List T}(h:¬xs.length<=8):(50:Int)=xG (nE xs):=by unfold nE;rw[je h];rfl
def alY{xs:List T}(hk:k<xs.length)(h:nD xs[k]=false):(50:Int)=xG (nE xs):=by
 have:xs.all nD=false:=Ky.2 ⟨xs[k],cT hk,by rw[h];decide⟩;unfold nE;rw[this,wV];rfl
def alZ{xs:List T}(h:xs.length<=8)(k:xs.all nD=true):(0:Int)=xG (nE xs):=by unfold nE;rw[jf h,k];rfl
def R8(a:bl)(n cap:Nat)(xs:List T)(w:aC)(ar:a7 w 5 T.cs a n cap xs):
  aS 256 #[ao a n cap] w (cU (.int .i64 (xG (nE xs))) w):=by
 obtain rfl:=ar.neq;have hm:=ar.max;unfold maxLen at hm;change aa _ at ar;by_cases fG:xs.length<=8
 ·have Xh:(xs.length:Int)<=8:=J;go_enter func256,ntmps256;go_wp2_with fail;go_loopg [11] (xs.length) (λg st wr=>∃k:Nat,g+k=xs.length/\st=.int .i64 k/\aa ((xs.take k).all nD=true)/\aa (Z w wr));case atStart=>exact⟨0,J,rfl,rfl,Z.refl _⟩
  case round=>
   obtain⟨k,_,rfl,e3,X⟩:=hrel;by_cases hk:k<xs.length
   ·obtain⟨b,o,rfl,al⟩:=ar.get k hk;refine Nv ?_;intro cO c1 c2 cV dF;refine jU ?_;intro b0 bf;cases he:nD xs[k]with
    |false=>
     have iW:=I (show xG (nD xs[k])=50 from by rw[he];rfl);have Xi:=I he;go_wp2_with (go_at_call 296;refine(abt xs[k] _).mono ?_;rintro e w'⟨he,hy⟩;rw[iW.out]at he;subst he;change aa _ at hy);go_ret;refine⟨jk (alY hk Xi),?_⟩;exact U
    |true=>
     have iW:=I (show xG (nD xs[k])=0 from by rw[he];rfl);have Xi:=I he;go_wp2_with (go_at_call 296;refine(abt xs[k] _).mono ?_;rintro e w'⟨he,hy⟩;rw[iW.out]at he;subst he;change aa _ at hy);go_roundg (gk - 1);case measure=>omega
     case rel=>exact⟨k+1,J,by go_num,abn (p:=nD) hk e3 Xi,U⟩
   ·refine sy ?_;intro cb;rw[cb]at e3;go_wp2;go_ret;refine⟨jk (alZ fG e3),?_⟩;exact U
 ·have Xh:(8:Int)<(xs.length:Int):=J;have H:=I (alX fG);go_enter func256,ntmps256;go_wp2;go_ret;refine⟨jk H,?_⟩;exact U
def a7.take{c:α->List Value}{xs:List α}(h:a7 w sz c a n cap xs)(k:Nat)(hk:k<=n):a7 w sz c a k cap (xs.take k):=
 ⟨by rw[nF];have:=h.neq;omega,ek hk h.len,h.max,h.none,h.bI,λj x aD=>by
  rw[List.getElem?_take]at aD;split at aD
  ·exact h.at_ j x aD
  ·cases aD⟩
def a7.drop{c:α->List Value}{xs:List α}(h:a7 w sz c (some ⟨b,o,.none⟩) n cap xs)(k:Nat)(hk:k<=n):a7 w sz c (some ⟨b,o+k*sz,.none⟩) (n - k) (cap - k) (xs.drop k):=
 ⟨by rw[CM];have:=h.neq;omega,by have:=h.len;omega,by have:=h.max;omega,(λh=>by cases h),h.bI,λj x aD=>by
  rw[R9]at aD;obtain⟨_,_,he,al⟩:=h.at_ _ x aD;simp only[Option.some.injEq,Addr.mk.injEq,H9]at he;obtain⟨rfl,rfl⟩:=he
  exact⟨_,_,rfl,by rw[show o+k*sz+j*sz=o+(k+j)*sz from by rw[HY];omega];exact al⟩⟩
def a7.abu{c:α->List Value}{xs:List α}(h:a7 w 1 c (some ⟨b,o,.none⟩) n cap xs)(k:Nat)(hk:k<=n):a7 w 1 c (some ⟨b,o+k,.none⟩) (n - k) (cap - k) (xs.drop k):=by
 have:=h.drop k hk;rw[jd]at this;exact this
def a7.al0{c:α->List Value}(hw:∀x,(c x).length=sz)(hm:cap<=maxLen):a7 w sz c (some ⟨b,o,.none⟩) 0 cap ([]:List α):=
 ⟨rfl,gz _,hm,(λh=>by cases h),hw,λk x hk=>by cases hk⟩
structure fu (w:World) where
 ln:World
 ck:Z w ln
instance (w:World):Inhabited (fu w):=⟨⟨w,Z.refl w⟩⟩
def CQ{P:Program}{id:Nat}{a:Act}{l:List Oper}(hm:P.follows .mixedOrders=true)(bx:Region.lexB .any l.toArray=true)(h:wpQuiet P l.toArray (λw'=>∃p:fu w,w'=p.ln) (λga=>∀w',(∃p:fu w,w'=p.ln)->Q .normal ga w') l a):(Code.region id l.toArray true).wp P Q a w:=
 wp_region_quiet (C:=λw'=>∃p:fu w,w'=p.ln) hm bx ⟨⟨w.drew,Z.drew (Z.refl w)⟩,rfl⟩ (by simpa using h)
def Calls.nX{P:Program}{f:FuncId}{args:Array Value}{p:fu w}{v:Value}(h:Calls P f args p.ln λe w'=>e=.returned u/\Z p.ln w')(bw:u=v):Calls P f args p.ln λe ey=>e=.returned v/\∃q:fu w,ey=q.ln:=
 h.mono λ_ ey ⟨he,X⟩=>⟨by rw[he,bw],⟨ey,Z.trans p.ck X⟩,rfl⟩
def fu.cell{a:Addr}{v:Value}(h:w.cell? a=some v):∀p:fu w,p.ln.cell? a=some v:=λp=>p.ck.ag h
structure ax where
 b:Int
 l:Int
 s:Int
deriving DecidableEq,Inhabited
instance:Coe ax Value:=⟨λx=>.agg #[.int .i64 x.b,.int .u64 x.l,.int .u64 x.s]⟩
instance:Coe ax Obj:=⟨λx=>.cells #[.int .i64 x.b,.int .u64 x.l,.int .u64 x.s] 54⟩
def ax.cs(i:ax):List Value:= [.int .i64 i.b,.int .u64 i.l,.int .u64 i.s]
structure bR where
 k:Int
 id:ax
 c:Int
 u:Int
 f:iF
 e:iF
instance:Coe bR Value:=⟨λx=>.agg #[.int .i64 x.k,.int .i64 x.id.b,.int .u64 x.id.l,.int .u64 x.id.s,.int .i64 x.c,.int .u64 x.u,.slice x.f.a x.f.n x.f.c,.slice x.e.a x.e.n x.e.c]⟩
instance:Coe bR Obj:=⟨λx=>.cells #[.int .i64 x.k,.int .i64 x.id.b,.int .u64 x.id.l,.int .u64 x.id.s,.int .i64 x.c,.int .u64 x.u,.slice x.f.a x.f.n x.f.c,.slice x.e.a x.e.n x.e.c] 66⟩
def bR.cs(x:bR):List Value:= [.int .i64 x.k,.int .i64 x.id.b,.int .u64 x.id.l,.int .u64 x.id.s,.int .i64 x.c,.int .u64 x.u,.slice x.f.a x.f.n x.f.c,.slice x.e.a x.e.n x.e.c]
def bR.bI(x:bR):x.cs.length=8:=rfl
def bR.cQ(x:bR):∀u∈x.cs,u.oneCell'=true:=by
 intro u aj;simp only[bR.cs,oy,tb,ue]at aj;exact Xj
structure eu where
 v:iF
 dt:List cI
def eu.cs(x:eu):List Value:= [.slice x.v.a x.v.n x.v.c]
def eu.bI(x:eu):x.cs.length=1:=rfl
def eu.cQ(x:eu):∀u∈x.cs,u.oneCell'=true:=by
 intro u aj;simp only[eu.cs,oy,tb,ue]at aj;rcases aj with rfl;rfl
structure vO (w:World) (a:Option Addr) (n c:Nat) (xs:List eu):Prop where
 aF:a7 w 1 eu.cs a n c xs
 dt:∀x,x∈xs->a7 w 4 cI.cs x.v.a x.v.n x.v.c x.dt
def vO.ext{c:Nat}{xs:List eu}(h:vO w a n c xs)(X:Z w w'):vO w' a n c xs:=⟨h.aF.ext X,λx hm=>(h.dt x hm).ext X⟩
def Sa(w:World)(a:Option Addr)(n c:Nat)(aX:List (List cI)):Prop:=∃xs:List eu,xs.map (·.dt)=aX/\vO w a n c xs
def Sa.ext{c:Nat}{aX:List (List cI)}(h:Sa w a n c aX)(X:Z w w'):Sa w' a n c aX:=let ⟨xs,e,k⟩:=h;⟨xs,e,k.ext X⟩
structure bb where
 k:Int
 id:ax
 c:Int
 u:Int
 ts:List T
 aX:List (List cI)
structure hK (w:World) (x:bR) (d:bb):Prop where
 k:x.k=d.k
 id:x.id=d.id
 c:x.c=d.c
 u:x.u=d.u
 f:a7 w 5 T.cs x.f.a x.f.n x.f.c d.ts
 e:Sa w x.e.a x.e.n x.e.c d.aX
def hK.ext{x:bR}{d:bb}(h:hK w x d)(X:Z w w'):hK w' x d:=⟨h.k,h.id,h.c,h.u,h.f.ext X,h.e.ext X⟩
structure bU where
 x:bR
 d:bb
def bU.cs(p:bU):List Value:=p.x.cs
def bU.bI(p:bU):p.cs.length=8:=rfl
structure iG (w:World) (a:Option Addr) (n c:Nat) (ps:List bU):Prop where
 aF:a7 w 8 bU.cs a n c ps
 ck:∀p,p∈ps->hK w p.x p.d
def iG.ext{c:Nat}{ps:List bU}(h:iG w a n c ps)(X:Z w w'):iG w' a n c ps:=⟨h.aF.ext X,λp aY=>(h.ck p aY).ext X⟩
def a7.map{c:β->List Value}{xs:List α}(g:α->β)(h:a7 w sz (λx=>c (g x)) a n cap xs)(hw:∀y,(c y).length=sz):a7 w sz c a n cap (xs.map g):=
 ⟨by rw[cx];exact h.neq,h.len,h.max,h.none,hw,λk y hk=>by
  rw[nd]at hk;cases X:xs[k]? with
  |none=>rw[X]at hk;cases hk
  |some x=>rw[X]at hk;cases hk;exact h.at_ k x X⟩
def iG.cD{c:Nat}{ps:List bU}(h:iG w a n c ps):a7 w 8 bR.cs a n c (ps.map (·.x)):=a7.map (λp:bU=>p.x) h.aF bR.bI
structure my (d:bb):Prop where
 ts:d.ts.length<=100
 aX:d.aX.length<=100
 dt:∀e,e∈d.aX->e.length<=100
def Ep{x:eu}(h:r0 w b o x.cs):w.cell? (b,o)=some ↑x.v:=h 0 _ rfl
def al1(nm:ByteArray)(op k n:Int)(s:ByteArray)(w:aC):
  (binOp .neq 154 (.agg #[nm,op,k,n,s]) (.agg #[nm,op,k,n,s])).run prog w=.ok (.bool false) w:=by
 simp[go_sem]
def al2(nm:ByteArray)(k n:Int)(s:ByteArray)(w:aC):
  (binOp .neq 77 (.agg #[nm,k,n,s]) (.agg #[nm,k,n,s])).run prog w=.ok (.bool false) w:=by
 simp[go_sem]
def al3(b l s:Int)(w:aC):
  (binOp .neq 54 (.agg #[b,ae l,ae s]) (.agg #[b,ae l,ae s])).run prog w=.ok (.bool false) w:=by
 simp[go_sem]
def al4(a b:bl)(n m cap dE:Nat)(xs:List T)(w:aC)(ar:a7 w 5 T.cs a n cap xs)(cw:a7 w 5 T.cs b m dE xs):
  aS 80 #[ao a n cap,ao b m dE] w (cU (.bool true) w):=by
 obtain rfl:=ar.neq;obtain rfl:=cw.neq;refine td ?_;intro hm a1;change aa _ at ar cw;go_enter func80,ntmps80;go_wp2_with fail;go_loopg [5] (xs.length) (λg st wr=>∃k:Nat,g+k=xs.length/\st=.int .i64 k/\aa (Z w wr));case atStart=>exact⟨0,J,rfl,Z.refl _⟩
 case round=>
  obtain⟨k,_,rfl,X⟩:=hrel;by_cases hk:k<xs.length
  ·obtain⟨bf,ug,rfl,al⟩:=ar.get k hk;obtain⟨dA,o2,rfl,qS⟩:=cw.get k hk;have af:=RS (w:=wr) (b:=bf) (o:=ug+k*5) (x:=xs[k]) (λj v aD=>X.ag (al j v aD));have an:=RS (w:=wr) (b:=dA) (o:=o2+k*5) (x:=xs[k]) (λj v aD=>X.ag (qS j v aD));clear al qS;refine jU ?_;intro b0 bf;have heq:=al1 xs[k].nm xs[k].op xs[k].k xs[k].n xs[k].s;obtain⟨_,_,_,_,_⟩:=af;obtain⟨_,_,_,_,_⟩:=an;go_wp2_with fail;go_quiet (fail);exact Ia
  exact Xk
def abv(a b:bl)(n m cap dE:Nat)(xs:List cI)(w:aC)(ar:a7 w 4 cI.cs a n cap xs)(cw:a7 w 4 cI.cs b m dE xs):
  aS 64 #[ao a n cap,ao b m dE] w (cU (.bool true) w):=by
 obtain rfl:=ar.neq;obtain rfl:=cw.neq;refine td ?_;intro hm a1;change aa _ at ar cw;go_enter func64,ntmps64;go_wp2_with fail;go_loopg [5] (xs.length) (λg st wr=>∃k:Nat,g+k=xs.length/\st=.int .i64 k/\aa (Z w wr));case atStart=>exact⟨0,J,rfl,Z.refl _⟩
 case round=>
  obtain⟨k,_,rfl,X⟩:=hrel;by_cases hk:k<xs.length
  ·obtain⟨bf,ug,rfl,al⟩:=ar.get k hk;obtain⟨dA,o2,rfl,qS⟩:=cw.get k hk;have af:=Np (w:=wr) (b:=bf) (o:=ug+k*4) (x:=xs[k]) (λj v aD=>X.ag (al j v aD));have an:=Np (w:=wr) (b:=dA) (o:=o2+k*4) (x:=xs[k]) (λj v aD=>X.ag (qS j v aD));clear al qS;refine jU ?_;intro b0 bf;have heq:=al2 xs[k].nm xs[k].k xs[k].n xs[k].s;obtain⟨_,_,_,_⟩:=af;obtain⟨_,_,_,_⟩:=an;go_wp2_with fail;go_quiet (fail);exact Ia
  exact Xk
def cc(i j:ax):Bool:=decide (i.b=j.b)&&decide (i.l=j.l)&&decide (i.s=j.s)
def CR(i j:ax):cc i j=decide (i=j):=by
 obtain⟨a,b,c⟩:=i;obtain⟨x,y,z⟩:=j;rw[wP];simp[cc,and_assoc]
def Bm(b l s b' l' s':Int)(w:aC):
  (binOp .eql 54 (.agg #[b,ae l,ae s]) (.agg #[b',ae l',ae s'])).run prog w=.ok (.bool (cc ⟨b,l,s⟩ ⟨b',l',s'⟩)) w:=abw
def abx(i j:ax):cc i j=cc j i:=by
 rw[CR,CR,wP];simp[eq_comm]
def al5(b l s b' l' s':Int)(w:aC):
  (binOp .eql 54 (.agg #[b,ae l,ae s]) (.agg #[b',ae l',ae s'])).run prog w=.ok (.bool (cc ⟨b',l',s'⟩ ⟨b,l,s⟩)) w:=by
 rw[Bm,abx]
def NH{a b:ax}:cc a b=true↔a=b:=by
 unfold cc;obtain⟨bf,_,_⟩:=a;obtain⟨dA,_,_⟩:=b;simp[and_assoc]
def al6(x y:bR)(d:bb)(w:aC)(eL:hK w x d)(sA:hK w y d):
  aS 47 #[x,y] w (cU (.bool true) w):=by
 obtain⟨cD,uh,jv⟩:=eL.e;obtain⟨F8,Xl,wX⟩:=sA.e;have db:=eL.f;have iH:=sA.f;obtain⟨hl,ma,iI,mb,⟨eS,fn,eT⟩,⟨dL,_,dO⟩⟩:=x;obtain⟨al7,al8,r2,al9,⟨ef,Ae,gc⟩,⟨ak,aq,al⟩⟩:=y;obtain rfl:hl=d.k:=eL.k;obtain rfl:al7=d.k:=sA.k;obtain rfl:ma=d.id:=eL.id;obtain rfl:al8=d.id:=sA.id;obtain rfl:iI=d.c:=eL.c;obtain rfl:r2=d.c:=sA.c;obtain rfl:mb=d.u:=eL.u;obtain rfl:al9=d.u:=sA.u;dsimp only at db iH jv wX ⊢;obtain rfl:=jv.aF.neq;have Af:cD.length=F8.length:=by
  have af:=eH List.length uh;have an:=eH List.length Xl;rw[cx]at af an;omega
 obtain rfl:aq=cD.length:=by have:=wX.aF.neq;omega
 have hm:=jv.aF.max;have a1:=jv.aF.len;unfold maxLen at hm;have ama:aa (∀(k:Nat) (hk:k<cD.length) (cb:k<F8.length),cD[k].dt=F8[k].dt):=λk hk cb=>by
  have af:(cD.map (·.dt))[k]? =(F8.map (·.dt))[k]? :=by rw[uh,Xl]
  rw[nd,nd,eK hk,eK cb]at af;simpa using af
 replace db:=I db;replace iH:=I iH;replace jv:=I jv;replace wX:=I wX;replace Af:=I Af;clear eL sA uh Xl;go_enter func47,ntmps47;go_wp2_with fail;refine(al4 eS ef fn Ae eT gc d.ts _ (db.ext (((Z.refl w).alloc _).alloc _)) (iH.ext (((Z.refl w).alloc _).alloc _))).mono ?_;rintro e w1⟨rfl,br⟩;have h2:w1.cell? (w,0)=some ↑d.k:=br.ag (by simp);have iw:w1.cell? (w,1)=some ↑d.id.b:=br.ag (by simp);have hd:w1.cell? (w,2)=some ↑(ae d.id.l):=br.ag (by simp);have ju:w1.cell? (w,3)=some ↑(ae d.id.s):=br.ag (by simp);have k2:w1.cell? (w,4)=some ↑d.c:=br.ag (by simp);have nA:w1.cell? (w,5)=some ↑(ae d.u):=br.ag (by simp);have rp:w1.cell? (w,7)=some ↑(ao dL cD.length dO):=br.ag (by simp);have cA:w1.cell? (w,1,0)=some ↑d.k:=br.ag (by simp);have cR:w1.cell? (w,1,1)=some ↑d.id.b:=br.ag (by simp);have cS:w1.cell? (w,1,2)=some ↑(ae d.id.l):=br.ag (by simp);have du:w1.cell? (w,1,3)=some ↑(ae d.id.s):=br.ag (by simp);have dw:w1.cell? (w,1,4)=some ↑d.c:=br.ag (by simp);have dx:w1.cell? (w,1,5)=some ↑(ae d.u):=br.ag (by simp);have dy:w1.cell? (w,1,7)=some ↑(ao ak cD.length al):=br.ag (by simp);replace br:=I br;go_wp2_with fail;go_loopg [6,7] (cD.length) (λg st _ wr=>∃k:Nat,g+k=cD.length/\st=.int .i64 k/\aa (Z w1 wr));case atStart=>exact⟨0,J,rfl,Z.refl _⟩
 case round=>
  obtain⟨k,_,rfl,X⟩:=hrel;have t0:=X.ag h2;have t1:=X.ag iw;have t2:=X.ag hd;have t3:=X.ag ju;have t4:=X.ag k2;have t5:=X.ag nA;have t7:=X.ag rp;have u0:=X.ag cA;have u1:=X.ag cR;have u2:=X.ag cS;have u3:=X.ag du;have u4:=X.ag dw;have u5:=X.ag dx;have u7:=X.ag dy;by_cases hk:k<cD.length
  ·have cb:k<F8.length:=by have:=Af.out;omega
   obtain⟨bf,ug,rfl,KF⟩:=jv.aF.get k hk;obtain⟨dA,o2,rfl,F7⟩:=wX.aF.get k cb;have b7:Z w wr:=U;have lP:=Ep (w:=wr) (b:=bf) (o:=ug+k*1) (x:=cD[k]) (λj v aD=>b7.ag (KF j v aD));have jE:=Ep (w:=wr) (b:=dA) (o:=o2+k*1) (x:=F8[k]) (λj v aD=>b7.ag (F7 j v aD));rw[jd]at lP jE;have bV:=I ((jv.dt cD[k] (cT hk)).ext b7);have dW:=I ((wX.dt F8[k] (cT cb)).ext b7);have yS:=I (ama k hk cb);clear KF F7 b7;have dU:(0:Int)<=(k:Int):=J;have cm:(k:Int)<(cD.length:Int):=J;go_wp2_with fail
   go_region_held3 (λw'=>w'.cell? (w,7)=some (.slice (some (bf,ug)) cD.length dO)/\w'.cell? (w,1,7)=some (.slice (some (dA,o2)) cD.length al)/\w'.cell? (bf,ug+k)=some ↑cD[k].v/\w'.cell? (dA,o2+k)=some ↑F8[k].v)
    (first|(go_split_ands;refine⟨?_,?_,?_,?_⟩<;>exact(Hid.out hy).ag (by assumption))|go_keep)
    ((go_at_call 64;refine(abv _ _ _ _ _ _ cD[k].dt _ (bV.ext U) (by rw[yS.out];exact dW.ext U)).mono ?_;rintro e _⟨rfl,hy⟩;replace hy:=I hy))
   all_goals
    exact Ia
  ·have heq:=Bm d.id.b d.id.l d.id.s d.id.b d.id.l d.id.s;have Ag:cc ⟨d.id.b,d.id.l,d.id.s⟩ ⟨d.id.b,d.id.l,d.id.s⟩=true:=NH.2 rfl;go_wp2;go_ret;refine⟨rfl,?_⟩;exact U
structure cu where
 c:Int
 u:Int
 f:iF
 ts:List T
def cu.cs(x:cu):List Value:= [.int .i64 x.c,.int .u64 x.u,.slice x.f.a x.f.n x.f.c]
def cu.bI(x:cu):x.cs.length=3:=rfl
def cu.cQ(x:cu):∀u∈x.cs,u.oneCell'=true:=by
 intro u aj;simp only[cu.cs,oy,tb,ue]at aj;rcases aj with rfl|rfl|rfl<;>rfl
def Sb{x:cu}(h:r0 w b o x.cs):
  w.cell? (b,o)=some ↑x.c/\w.cell? (b,o+1)=some ↑(ae x.u)/\w.cell? (b,o+2)=some ↑x.f:=⟨h 0 _ rfl,h 1 _ rfl,h 2 _ rfl⟩
structure nY where
 c:Int
 u:Int
 ts:List T
def cu.d(x:cu):nY:=⟨x.c,x.u,x.ts⟩
structure th (w:World) (a:Option Addr) (n c:Nat) (xs:List cu):Prop where
 aF:a7 w 3 cu.cs a n c xs
 ts:∀x,x∈xs->a7 w 5 T.cs x.f.a x.f.n x.f.c x.ts
def th.ext{c:Nat}{xs:List cu}(h:th w a n c xs)(X:Z w w'):th w' a n c xs:=⟨h.aF.ext X,λx hm=>(h.ts x hm).ext X⟩
def th.nil(w:aC):th w none 0 0 []:=⟨a7.nil _ cu.bI,λx X=>by cases X⟩
def qV(s:nY)(c u:Int):Int:=if nx s.c c≠0 then nx s.c c else nx s.u u
def yT(l:List nY)(d:bb):List nY:=
 if d.k=2\/d.k=3 then l.filter (λs=>decide (qV s d.c d.u<0))++((if d.k=2 then [⟨d.c,d.u,d.ts⟩] else [])++l.filter (λs=>decide (0<qV s d.c d.u))) else l
def Ib(l:List nY)(cl:List Int):List (List T):=(l.filter (λs=>cl.contains s.c)).map (·.ts)
def Sc(l:List nY)(cl:List Int):List (List T):=tg [] (Ib l cl)
def CS(h3:List (List T))(aX:List (List cI)):List (List cI):=aX.filter (λe=>h3.any (λf=>uf f e))
def nG(l:List nY)(cl:List Int)(d:bb):bb:=if d.k=1 then {d with aX:=CS (Sc l cl) d.aX} else d
def wZ(l:List nY)(c:Int)(d:bb):List (List cI):=if d.k=1 then CS (Ib l [c]) d.aX else []
def Sd:(prog.info? 256).map (λi=>(i.zero,i.size,i.bytes))=some (some (.agg #[av,aw,aP]),3,40):=bQ
def Ic:(prog.info? 34).map (λi=>(i.zero,i.size,i.bytes))=some (some ↑aP,1,24):=bQ
def amb{p:α->Bool}{xs:List α}(hk:k<xs.length)(h:p xs[k]=true):(xs.take (k+1)).filter p=(xs.take k).filter p++[xs[k]]:=by
 rw[iv hk,yU];simp[h]
def amc{p:α->Bool}{xs:List α}(hk:k<xs.length)(h:p xs[k]=false):(xs.take (k+1)).filter p=(xs.take k).filter p:=by
 rw[iv hk,yU];simp[h]
def amd(a:bl)(n cap:Nat)(xs:List cu)(p:cu->Bool)(fn:Nat)(q:Unit)(w:aC)(ar:a7 w 3 cu.cs a n cap xs)(aq:n<=100000)(bk:∀args w,(callFunc fn args).run prog w=.ok (.enter fn args) w)(b8:∀x,x∈xs->∀w',Z w w'->aS fn #[.agg #[x.c,ae x.u,x.f]] w' λe ey=>e=.returned (.bool (p x))/\Z w' ey):
  aS 165 #[ao a n cap,.func (.func fn) #[] #[]] w (qp 256 3 cu.cs (xs.filter p) w):=aby
def NI(a:bl)(n cap:Nat)(xs:List cu)(p:cu->Bool)(fn:Nat)(KG:Addr)(w:aC)(ar:a7 w 3 cu.cs a n cap xs)(aq:n<=100000)(bk:∀args w,(callFunc fn args).run prog w=.ok (.enter fn args) w)(b8:∀x,x∈xs->∀w',Z w w'->aS fn #[.agg #[x.c,ae x.u,x.f],.pointer (some KG)] w' λe ey=>e=.returned (.bool (p x))/\Z w' ey):
  aS 165 #[ao a n cap,.func (.func fn) #[] #[.pointer (some KG)]] w (qp 256 3 cu.cs (xs.filter p) w):=aby
def abz(a:bl)(n cap:Nat)(xs:List eu)(p:eu->Bool)(fn:Nat)(KG:Addr)(w:aC)(ar:a7 w 1 eu.cs a n cap xs)(aq:n<=100000)(gb:Array Value)(w0:gb=#[.pointer (some KG)])(bk:∀args w,(callFunc fn args).run prog w=.ok (.enter fn args) w)(b8:∀x,x∈xs->∀w',Z w w'->aS fn #[x.v,.pointer (some KG)] w' λe ey=>e=.returned (.bool (p x))/\Z w' ey):
  aS 168 #[ao a n cap,.func (.func fn) #[] #[.pointer (some KG)]] w (qp 34 1 eu.cs (xs.filter p) w):=by
 obtain⟨ct,bO,bL,bM,bP⟩:=fB Ic;obtain rfl:=ar.neq;have hm:=ar.max;unfold maxLen at hm;change aa _ at ar b8 bO bL bM bP;go_enter func168,ntmps168;go_wp2_with fail;go_loopg [5,10] (xs.length) (λg e4 st wr=>∃(k:Nat) (aA:bl) (m aR:Nat),g+k=xs.length/\st=.int .i64 k/\e4=.slice aA m aR/\m<=k/\aa (aH wr w 34 1 eu.cs aA m aR ((xs.take k).filter p))/\aa (Z w wr));case atStart=>exact⟨0,none,0,0,J,rfl,rfl,J,aH.nil _ _ _ eu.bI,Z.refl _⟩
 case round=>
  obtain⟨k,aA,m,aR,_,rfl,rfl,_,aJ,X⟩:=hrel;have lO:=aJ.aF.max;unfold maxLen at lO;by_cases hk:k<xs.length
  ·obtain⟨b,o,rfl,al⟩:=ar.get k hk;have cO:=Ep (w:=wr) (b:=b) (o:=o+k*1) (x:=xs[k]) (λj v aD=>X.ag (al j v aD));rw[jd]at cO;clear al;refine jU ?_;intro b0 bf;cases he:p xs[k]with
   |true=>
    change aa _ at he;go_wp2_with fail;refine KE ?_;intro w1 hy;rw[he.out];go_wp2_with (at_builtin;refine hc (ys:=(xs.take k).filter p) rfl (.tmp 17) (.tmp 19) 64 rfl ct _ 24 F9 bO bL bM bP rfl ah rfl (aJ.ext U) xs[k] _ rfl (fi (cs:=eu.cs xs[k]) rfl) (eu.cQ _) J ah (Z.size U) ?_;intro g _ _ gd b2;have cK:=I gd;have b9:=I b2;clear gd b2);exact abA
   |false=>
    change aa _ at he;go_wp2_with fail;refine KE ?_;intro w1 hy;exact abB
  ·refine sy ?_;intro cb;rw[cb]at aJ;clear cb;go_wp2;go_ret;exact⟨aA,m,aR,rfl,aJ,U⟩
section
def Xm{α:Type}{c:α->List Value}{sz:Nat}(hw:∀y,(c y).length=sz)(r3:α)(j:Nat)(v:Value)(aD:j<sz):∀(ys:List α) (k:Nat) (y:α),ys[k]?=some y->c r3=(c y).set j v->(ys.set k r3).flatMap c=(ys.flatMap c).set (k*sz+j) v
 | [],_,_,h,_=>by simp at h
 |x::ys,0,y,h,he=>by
  simp only[RL,Option.some.injEq]at h
  subst h
  rw[oC,ny,ny,he,Nat.zero_mul,ow,List.set_append,bc (by rw[hw];exact aD)]
 |x::ys,k+1,y,h,he=>by
  rw[HX]at h
  rw[oD,ny,ny,List.set_append,aV (by rw[hw,HY];omega),hw,show(k+1)*sz+j - sz=k*sz+j from by rw[HY];omega,Xm hw r3 j v aD ys k y h he]
section
variable {α:Type}{c:α->List Value}{w w':World}{base:Nat}{e:TypeId}{sz g n cap:Nat}{ys:List α}
def aH.ay(h:aH w base e sz c (some ⟨g,0,.none⟩) n cap ys):∃cur,w.heap[g]?=some (.cells cur e (0,0))/\base<=g/\n<=cap/\cap<=maxLen/\cur.size=cap*sz/\cur.toList.take (n*sz)=ys.flatMap c:=by
 rcases h.row.2 with ⟨bw,_⟩|⟨F4,aR,cur,bw,iV,Bj,af,an,aO,bt⟩
 ·cases bw
 ·simp only[Value.slice.injEq,Option.some.injEq,Addr.mk.injEq]at bw;obtain⟨⟨rfl,_⟩,_,rfl⟩:=bw;exact⟨cur,Bj,iV,af,an,aO,bt⟩
def aH.free(h:aH w base e sz c (some ⟨g,0,.none⟩) n cap ys)(o:Nat):w.frozen? ⟨g,o,.none⟩=false:=by
 obtain⟨_,bC,_⟩:=h.ay;simp[World.frozen?,bC]
def aH.abC(aA:bl)(h:aH w base e sz c aA n cap ys)(hk:0<ys.length):∃g,aA=some ⟨g,0,.none⟩:=by
 have aq:=h.neq;rcases h.row.2 with ⟨bw,aZ⟩|⟨F4,aR,cur,bw,_⟩
 ·omega
 ·simp only[Value.slice.injEq]at bw;exact⟨F4,bw.1⟩
def aH.Ie(h:aH w base e sz c (some ⟨g,0,.none⟩) n cap ys)(k:Nat)(hk:k<ys.length):r0 w g (k*sz) (c ys[k]):=by
 obtain⟨b,o,j2,al⟩:=h.aF.get k hk;simp only[Option.some.injEq,Addr.mk.injEq]at j2;obtain⟨rfl,rfl,_⟩:=j2;rw[ow]at al;exact al
def aH.set(h:aH w base e sz c (some ⟨g,0,.none⟩) n cap ys)(k:Nat)(y r3:α)(hk:ys[k]?=some y)(j:Nat)(aD:j<sz)(v:Value)(hy:c r3=(c y).set j v):
  aH (w.setCell ⟨g,k*sz+j,.none⟩ v) base e sz c (some ⟨g,0,.none⟩) n cap (ys.set k r3):=by
 obtain⟨cur,bC,iV,af,an,aO,bt⟩:=h.ay;refine⟨⟨?_,.inr ⟨g,cap,cur.setIfInBounds (k*sz+j) v,rfl,iV,Lib.heap_setCell_same bC v,af,an,by rw[Se];exact aO,?_⟩⟩,by rw[CT];exact h.neq,h.bI⟩
 ·rw[Xm h.bI r3 j v aD ys k y hk hy,CT];exact h.row.1
 ·rw[Xm h.bI r3 j v aD ys k y hk hy,<-bt,Xn,List.take_set]
end
def a7.set{α:Type}{w:aC}{sz:Nat}{c:α->List Value}{n cap:Nat}{xs:List α}(h:a7 w sz c a n cap xs){p:Addr}(aY:∀ai,a=some ai->xs≠ []->ai.block≠p.block)(u:Value):a7 (w.setCell p u) sz c a n cap xs:=
 ⟨h.neq,h.len,h.max,h.none,h.bI,λk x hk=>by
  obtain⟨b,o,ak,al⟩:=h.at_ k x hk;have ad:b≠p.block:=aY _ ak (by rintro rfl;cases hk)
  exact⟨b,o,ak,λj v aD=>(Ks (a:=⟨b,o+k*sz+j,.none⟩) (Below.heap_setCell w p u b ad)).trans (al j v aD)⟩⟩
def Er(w:World)(g:Option Addr)(x:cu):Prop:=a7 w 5 T.cs x.f.a x.f.n x.f.c x.ts/\∀ai Ig,x.f.a=some ai->g=some Ig->x.ts≠ []->ai.block≠Ig.block
def Er.ext{w w':aC}{g:bl}{x:cu}(h:Er w g x)(X:Z w w'):Er w' g x:=⟨h.1.ext X,h.2⟩
def Er.of{w:aC}{e:TypeId}{n cap:Nat}{ys:List cu}(dX:aH w W e 3 cu.cs a n cap ys)(ix:Z W w){x:cu}(h:a7 W 5 T.cs x.f.a x.f.n x.f.c x.ts):Er w a x:=by
 refine⟨h.ext ix,λai Ig ak bC dj he=>?_⟩;have af:=(dX.lt Ig bC).1;have Es:0<x.ts.length:=List.length_pos_iff.2 dj;obtain⟨b,o,j2,al⟩:=h.get 0 Es;rw[ak]at j2;cases j2;have:=Ee (al 0 x.ts[0].nm rfl);simp only at he this;omega
def ame{wr:aC}{e:TypeId}{g n cap:Nat}{cz:List cu}{aR:Nat}(dX:aH wr W e 3 cu.cs (some (g,0)) n cap cz)(hk:k<cz.length)(lo:∀z,z∈cz->Er wr (some (g,0)) z)(X:Z W wr)(af:aH w1 wr tc 5 T.cs aA m aR cz[k].ts)(ad:Z wr w1):
  ∃NJ:List cu,aH (w1.setCell (g,k*3+2) (ao aA m aR)) W e 3 cu.cs (some (g,0)) n cap NJ/\NJ.map cu.d=cz.map cu.d/\(∀z,z∈NJ->Er (w1.setCell (g,k*3+2) (ao aA m aR)) (some (g,0)) z)/\Z W (w1.setCell (g,k*3+2) (ao aA m aR)):=by
 have Xo:=dX.lt _ rfl;refine⟨cz.set k ⟨cz[k].c,cz[k].u,⟨aA,m,aR⟩,cz[k].ts⟩,(dX.ext ad).set k cz[k] _ (eK hk) 2 ah _ rfl,?_,λz bp=>?_,Z.setCell (p:=(g,k*3+2)) (X.trans ad) Xo.1 _⟩
 ·rw[Ga];apply Sf (by simp);intro i an aO;rw[List.getElem_set];split
  ·next h=>subst h;simp[cu.d]
  ·rfl
 ·rcases Gb bp with bp|rfl
  ·have an:=(lo z bp).ext ad;exact⟨an.1.set (p:=(g,k*3+2)) (λai ak dj=>an.2 ai (g,0) ak rfl dj) _,an.2⟩
  ·have aO:∀ai,aA=some ai->ai.block≠g:=λai ak he=>by
    have:=(af.lt ai ak).1;have:=Xo.2;simp only at this;omega
   exact⟨af.aF.set (p:=(g,k*3+2)) (λai ak _=>aO ai ak) _,λai Ig ak bC _=>by cases bC;exact aO ai ak⟩
def abD(a:bl)(n cap:Nat)(xs:List T)(w:aC)(ar:a7 w 5 T.cs a n cap xs)(aq:n<=1000000):
  aS 248 #[ao a n cap] w (qp 154 5 T.cs xs w):=by
 obtain⟨ct,bO,bL,bM,bP⟩:=fB R3;have hm:=ar.max;unfold maxLen at hm;change aa _ at ar bO bL bM bP;go_enter func248,ntmps248;go_wp2_with (at_builtin;refine tf rfl λoz mx=>?_;refine te (c:=T.cs) (ys0:= []) (ys:=xs) _ _ 36 154 rfl ct _ 56 KB bO bL bM bP rfl ah rfl w U (aH.nil _ _ _ T.bI) rfl (ar.ext U) T.cQ J ah ?_;intro cP da qR _ hA jc X py;refine mx _ _ ?_;have c7:=I jc;have hy:=I X;clear jc X py hA);go_ret;exact⟨cP,da,qR,rfl,c7,hy⟩
def Xp(a:bl)(n cap:Nat)(ys:List cu)(W w:aC)(bu:aH w W 256 3 cu.cs a n cap ys)(bG:Z W w)(hF:∀y,y∈ys->a7 W 5 T.cs y.f.a y.f.n y.f.c y.ts)(bg:∀y,y∈ys->y.ts.length<=1000000)(aq:n<=1000000):
  aS 173 #[ao a n cap] w λe w'=>∃cz,e=.returned (ao a n cap)/\th w' a n cap cz/\cz.map cu.d=ys.map cu.d/\Z W w':=by
 have l8:=bu.neq;obtain rfl:=l8;have hm:=bu.aF.max;unfold maxLen at hm;have dG:=I (λy hy=>Er.of bu bG (hF y hy));change aa _ at bu bG bg;clear hF;go_enter func173,ntmps173;go_wp2_with fail;go_loopg [3,6] (ys.length) (λg _ st wr=>∃(k:Nat) (cz:List cu),g+k=ys.length/\st=.int .i64 k/\cz.length=ys.length/\aa (aH wr W 256 3 cu.cs a ys.length cap cz)/\aa (cz.map cu.d=ys.map cu.d)/\aa (∀z,z∈cz->Er wr a z)/\aa (Z W wr));case atStart=>exact⟨0,ys,J,rfl,rfl,bu,rfl,dG,bG⟩
 case round=>
  obtain⟨k,cz,_,rfl,hlen,aJ,kx,lo,X⟩:=hrel;by_cases hk:k<ys.length
  ·have Sg:k<cz.length:=J;obtain⟨_,rfl⟩:=aH.abC a aJ J;obtain⟨_,_,c2⟩:=Sb (x:=cz[k]) (aJ.Ie k Sg);have b0:(0:Int)<=(k:Int):=J;have bf:(k:Int)<(ys.length:Int):=J;have eh:=I (lo cz[k] (cT Sg)).1;have KH:cz[k].f.n<=1000000:=by
    have af:(cz.map cu.d)[k]? =(ys.map cu.d)[k]? :=by rw[kx.out]
    rw[nd,nd,eK Sg,eK hk]at af;simp only[Gc,Option.some.injEq,cu.d,nY.mk.injEq]at af;rw[eh.neq,af.2.2];exact bg _ (cT hk)
   go_wp2_with (go_at_call 248;refine(abD _ _ _ cz[k].ts _ eh KH).mono ?_;rintro e _⟨_,m,_,rfl,jc,ad⟩;have jE:=ad.ag c2;have uX:=(aJ.ext ad).free;have cw:=I (ame aJ Sg lo X jc ad);clear jc ad);obtain⟨NJ,eI,hn,hL,ib⟩:=cw;go_roundg (gk - 1);case measure=>omega
   case rel=>exact⟨k+1,NJ,J,by go_num,by rw[<-cx (f:=cu.d),hn,cx];exact hlen,eI,hn.trans kx,hL,ib⟩
  ·go_wp2;go_ret;exact⟨cz,rfl,⟨aJ.aF,λx X=>(lo x X).1⟩,kx,X⟩
end
section
open Go.RowKit Go.WideShapes Go.ChangeShapes
def abE{α:Type}{Q:Nat->α->Prop}:∀n,(∀i,i<n->∃y,Q i y)->∃ys:List α,ys.length=n/\∀i y,ys[i]?=some y->Q i y
 |0,_=>⟨[],rfl,λi y h=>by simp at h⟩
 |n+1,h=>by
  obtain⟨ys,a1,hy⟩:=abE n (λi aK=>h i J)
  obtain⟨z,bp⟩:=h n J
  refine⟨ys++[z],by simp[a1],λi y aK=>?_⟩
  by_cases Bn:i<ys.length
  ·rw[HW Bn]at aK;exact hy i y aK
  ·rw[Kr J]at aK
   have aZ:i - ys.length=0:=by
    cases hk:i - ys.length with
    |zero=>rfl
    |succ k=>rw[hk]at aK;simp at aK
   rw[aZ]at aK
   simp at aK
   subst aK
   rw[show i=n by omega];exact bp
section
variable {H:Type}{nZ:TypeId×Value->H}{P:Program}{w:World}{base:Nat}{spare:Nat->Bool}{held:Bool}
def yV{h3:Array Field}{cs:List Value}{x:DataW H×List MemPlace}(bm:P.underlying t=some (.struct h3))(h:DataW.trod nZ P w base spare held fuel t cs=some x)(i:Nat)(f:Field)(bk:h3[i]?=some f)(o k:Nat)(hk:P.cellsOf f.type=k)(aM:f.offset=o):∃n y,DataW.trod nZ P w base spare held n f.type ((cs.drop o).take k)=some y:=by
 obtain⟨xs,n,_,_,_,hlen,X⟩:=DataW.trod_struct bm h;have aK:i<xs.length:=by rw[hlen];exact(Et.1 bk).1
 have:=X i f bk;rw[hk,aM,eK aK]at this;exact⟨n,_,this⟩
def Sh{h3:Array Field}{cs:List Value}{x:DataW H×List MemPlace}(bm:P.underlying t=some (.struct h3))(h:DataW.trod nZ P w base spare held fuel t cs=some x):cs.length=P.cellsOf t:=by
 obtain⟨_,n,_,_,a1,_⟩:=DataW.trod_struct bm h;exact a1
def Si{c:α->List Value}{R:α->Prop}{cs:List Value}{x:DataW H×List MemPlace}(bm:P.underlying t=some (.slice e))(al:P.cellsOf e=sz)(fs:0<sz)(hw:∀y,(c y).length=sz)(Xq:∀fuel cs x,DataW.trod nZ P w base spare held fuel e cs=some x->∃y,cs=c y/\R y)(h:DataW.trod nZ P w base spare held fuel t cs=some x):
  ∃a n cap ys,cs= [.slice a n cap]/\a7 w sz c a n cap ys/\∀y,y∈ys->R y:=by
 rcases Go.Deep.open_slice bm h with ⟨rfl,_⟩|⟨a,len,cap,m,n,D,azO,rfl,ad,a1,hm,rq,_,X⟩
 ·exact⟨none,0,0,[],rfl,a7.nil _ hw,λy hy=>by cases hy⟩
 have azP:len<=m:=by rw[rq];split<;>omega
 have each:∀i,i<len->∃y,(∀j v,(c y)[j]?=some v->w.cell? ((a.add (i*sz)).add j)=some v)/\R y:=by
  intro i aK;obtain⟨_,af,an⟩:=X i J;rw[al]at af;obtain⟨_,_,amf⟩:=World.cells?_some af;obtain⟨y,rfl,hy⟩:=Xq _ _ _ an;refine⟨y,λj v aD=>?_,hy⟩;have amg:j<sz:=by rw[<-hw y];exact(ud.1 aD).1
  rw[amf j amg,aD]
 obtain⟨ys,hlen,NK⟩:=abE (Q:=λi y=>(∀j v,(c y)[j]?=some v->w.cell? ((a.add (i*sz)).add j)=some v)/\R y) len each;refine⟨some a,len,cap,ys,rfl,⟨hlen.symm,a1,hm,(λh=>by cases h),hw,λk z hk=>?_⟩,λy hy=>?_⟩
 ·obtain⟨b,o,sp⟩:=a;have cb:k<len:=by rw[<-hlen];exact(ud.1 hk).1
  obtain⟨cA,ui,_⟩:=each 0 J;have bp:0<(c cA).length:=by rw[hw];exact fs
  have aZ:=ui 0 _ (eK bp);have Ih:sp=none:=by
   simp only[Nat.zero_mul,Addr.add,bc,World.cell?]at aZ;cases sp with
   |none=>rfl
   |some q=>simp at aZ;split at aZ<;>simp at aZ
  subst Ih;refine⟨b,o,rfl,λj v aD=>?_⟩;have:=(NK k z hk).1 j v aD;have cm:∀n m:Nat,(Addr.mk b n none).add m=(b,n+m):=by intro n m;unfold Addr.add;split<;>simp_all
  rw[cm,cm]at this;exact this
 ·obtain⟨i,aK,rfl⟩:=List.getElem_of_mem hy;exact(NK i _ (eK aK)).2
end
section
variable {H:Type}{nZ:TypeId×Value->H}{w:World}{base:Nat}{spare:Nat->Bool}{held:Bool}
def dP(i:Int):List Value:= [.int .i64 i]
def amh{cs:List Value}{x:DataW H×List MemPlace}(h:DataW.trod nZ prog w base spare held fuel 3 cs=some x):∃y:Int,cs=dP y:=by
 obtain⟨a0,dU,_,_⟩:=DataW.trod_int ft h;exact⟨a0,dU⟩
def ami{cs:List Value}{x:DataW H×List MemPlace}(h:DataW.trod nZ prog w base spare held fuel 22 cs=some x):∃a n cap ys,cs= [.slice a n cap]/\a7 w 1 dP a n cap ys:=by
 obtain⟨a,n,cap,ys,e,s,_⟩:=Si (c:=dP) (sz:=1) (R:=λ_=>True) yW bQ ah (λ_=>rfl) (λ_ _ _ k=>let ⟨y,e⟩:=amh k;⟨y,e,trivial⟩) h;exact⟨a,n,cap,ys,e,s⟩
def azQ{r:Reach}{b0:Nat}{v:Value}{d:DataW H}{p:List MemPlace}(bw:Value.okWide prog w r b0 22 v)(h:DataW.Trod nZ prog w base spare held 22 v d p):∃a n cap ys,v=.slice a n cap/\a7 w 1 dP a n cap ys:=by
 obtain⟨a,n,_,rfl⟩:=okWide_slice yW bw;obtain⟨_,bk⟩:=h;obtain⟨_,_,_,ys,e,s⟩:=ami bk;exact amj
end
end
def Bo{x:Int}(h:r0 w b o (dP x)):w.cell? (b,o)=some ↑x:=h 0 _ rfl
def amk(x:Int)(w:aC):aS 249 #[x] w (cU (.bool false) w):=by
 go_enter func249,ntmps249;go_wp2;go_ret;refine⟨by simp,?_⟩;exact U
def aml(x:Int)(w:aC):aS 250 #[ae x] w (cU (.bool false) w):=by
 go_enter func250,ntmps250;go_wp2;go_ret;refine⟨by simp,?_⟩;exact U
def amm(x y:Int)(w:aC):aS 177 #[x,y] w (cU (.int .i64 (nx x y)) w):=by
 go_enter func177,ntmps177;go_wp2_with (go_at_call 249;refine(amk _ _).mono ?_;rintro e _⟨rfl,hy⟩;change aa _ at hy);all_goals (go_ret;refine⟨jk Xr,?_⟩;exact U)
def amn(x y:Int)(w:aC):aS 178 #[ae x,ae y] w (cU (.int .i64 (nx x y)) w):=by
 go_enter func178,ntmps178;go_wp2_with (go_at_call 250;refine(aml _ _).mono ?_;rintro e _⟨rfl,hy⟩;change aa _ at hy);all_goals (go_ret;refine⟨jk Xr,?_⟩;exact U)
def Sj(x y:Int):Int:=if x≠0 then x else y
def amo(b:Nat)(x y:Int)(w:aC)(aZ:w.cell? (b,0)=some ↑x)(af:w.cell? (b,1)=some ↑y):
  aS 176 #[.slice (some (b,0)) 2 2] w (cU (.int .i64 (Sj x y)) w):=by
 go_enter func176,ntmps176;go_wp2_with fail;go_loopg [5,8] 2 (λg _ st wr=>∃(k:Nat),g+k=2/\st=.int .i64 k/\(0<k->x=0)/\(1<k->y=0)/\aa (Z w wr));case atStart=>exact⟨0,rfl,rfl,J,J,Z.refl _⟩
 case round=>
  obtain⟨k,_,rfl,k4,Ah,X⟩:=hrel;have cO:=X.ag aZ;have c1:=X.ag af;rcases Bh k 2 with hk|hk
  ·rcases (show k=0\/k=1 by omega)with rfl|rfl
   ·by_cases bp:x=0
    ·subst bp;go_wp2;go_roundg 1;case measure=>omega
     case rel=>exact⟨1,J,by go_num,λ_=>by trivial,J,U⟩
    ·go_wp2;go_ret;refine⟨jk (by simp[Sj,bp]),?_⟩;exact U
   ·obtain rfl:=k4 J;by_cases bp:y=0
    ·subst bp;go_wp2;go_roundg 0;case measure=>omega
     case rel=>exact⟨2,J,by go_num,λ_=>by trivial,λ_=>by trivial,U⟩
    ·go_wp2;go_ret;refine⟨jk (by simp[Sj]),?_⟩;exact U
  ·obtain rfl:k=2:=J;obtain rfl:=k4 J;obtain rfl:=Ah J;go_wp2;go_ret;refine⟨jk (by simp[Sj]),?_⟩;exact U
def amp(a:bl)(n cap:Nat)(xs:List Int)(y:Int)(w:aC)(ar:a7 w 1 dP a n cap xs):
  aS 230 #[ao a n cap,y] w (cU (.int .i64 (qP (λx=>decide (y=x)) xs)) w):=by
 obtain rfl:=ar.neq;refine td ?_;intro hm a1;change aa _ at ar;go_enter func230,ntmps230;go_wp2_with fail;go_loopg [5,8] (xs.length) (λg _ st wr=>∃k:Nat,g+k=xs.length/\st=.int .i64 k/\aa ((xs.take k).any (λx=>decide (y=x))=false)/\aa (Z w wr));case atStart=>exact⟨0,J,rfl,rfl,Z.refl _⟩
 case round=>
  obtain⟨k,_,rfl,eO,X⟩:=hrel;by_cases hk:k<xs.length
  ·obtain⟨b,o,rfl,al⟩:=ar.get k hk;have cO:=Bo (w:=wr) (b:=b) (o:=o+k*1) (x:=xs[k]) (λj v aD=>X.ag (al j v aD));rw[jd]at cO;clear al;refine jU ?_;intro b0 bf;by_cases he:y=xs[k]
   ·have iW:=I (show(λx=>decide (y=x)) xs[k]=true by simpa using he);have bs:(y==xs[k])=true:=by simpa using he
    clear he;go_wp2;go_ret;refine⟨jk (No hk eO iW),?_⟩;exact U
   ·have iW:=I (show(λx=>decide (y=x)) xs[k]=false by simpa using he);have bs:(y==xs[k])=false:=by simpa using he
    clear he;go_wp2;go_roundg (gk - 1);case measure=>omega
    case rel=>exact⟨k+1,J,by go_num,Ef hk eO iW,U⟩
  ·have c3:=I (Ko eO hk);go_wp2;go_ret;refine⟨jk (Kq c3),?_⟩;exact U
def abF(a:bl)(n cap:Nat)(xs:List Int)(y:Int)(w:aC)(ar:a7 w 1 dP a n cap xs):
  aS 156 #[ao a n cap,y] w (cU (.bool (decide (y∈xs))) w):=by
 change aa _ at ar;go_enter func156,ntmps156;go_wp2_with (go_at_call 230;refine(amp _ _ _ xs y _ (ar.ext U)).mono ?_;rintro e _⟨rfl,hy⟩;change aa _ at hy);go_ret;refine⟨jl ?_,?_⟩
 ·rw[WZ,wP];simp
 ·skip;exact U
def amq(x:cu)(fb:Nat)(a:bl)(n cap:Nat)(xs:List Int)(w:aC)(al:w.cell? (fb,0)=some ↑(ao a n cap))(ar:a7 w 1 dP a n cap xs):
  aS 302 #[.agg #[x.c,ae x.u,x.f],fb] w (cU (.bool (decide (x.c∈xs))) w):=by
 change aa _ at ar;have eB:=((Z.refl w).alloc (.cells #[x.c,ae x.u,x.f] 256)).ag al;go_enter func302,ntmps302;go_wp2_with (go_at_call 156;refine(abF _ _ _ xs x.c _ (ar.ext U)).mono ?_;rintro e _⟨rfl,hy⟩;change aa _ at hy);go_ret;refine⟨rfl,?_⟩;exact U
def amr(x:cu)(w:aC):
  aS 174 #[.agg #[x.c,ae x.u,x.f]] w (cU (.bool true) w):=by
 go_enter func174,ntmps174;go_wp2;go_ret;refine⟨rfl,?_⟩;exact U
def ams(x:cu)(oE:Nat)(c u:Int)(w:aC)(bt:w.cell? (oE,4)=some ↑c)(cC:w.cell? (oE,5)=some ↑(ae u)):
  aS 175 #[.agg #[x.c,ae x.u,x.f],oE] w (cU (.int .i64 (qV x.d c u)) w):=by
 refine Xs ?_;intro eG h4;go_enter func175,ntmps175;go_wp2_with fail;go_region_held3 (λw'=>w'.cell? (w,0)=some ↑x.c/\w'.cell? (w,1)=some ↑(ae x.u)/\w'.cell? (oE,4)=some ↑c/\w'.cell? (oE,5)=some ↑(ae u)) (first|(go_split_ands;refine⟨?_,?_,?_,?_⟩<;>exact(Hid.out hy).ag (by assumption))|go_keep) (first|(go_at_call 177;refine(amm _ _ _).mono ?_;rintro e w1⟨rfl,hy⟩;replace hy:=I hy)|(go_at_call 178;refine(amn _ _ _).mono ?_;rintro e w1⟨rfl,hy⟩;replace hy:=I hy)|(go_at_call 176;refine(amo _ (nx x.c c) (nx x.u u) _ (by simp) (by simp)).mono ?_;rintro e _⟨rfl,hy⟩;replace hy:=I hy));go_wp2
 trace_state
 go_ret;refine⟨rfl,?_⟩;exact U
def amt(x:cu)(oE CU:Nat)(c u:Int)(w:aC)(bt:w.cell? (oE,4)=some ↑c)(cC:w.cell? (oE,5)=some ↑(ae u))(hs:w.cell? (CU,0)=some (.func (.func 175) #[] #[oE])):
  aS 179 #[.agg #[x.c,ae x.u,x.f],CU] w (cU (.bool (decide (qV x.d c u<0))) w):=by
 refine Xs ?_;intro eG h4;have e0:=((Z.refl w).alloc (.cells #[x.c,ae x.u,x.f] 256)).ag hs;go_enter func179,ntmps179;exact abG
def abH(x:cu)(oE CU:Nat)(c u:Int)(w:aC)(bt:w.cell? (oE,4)=some ↑c)(cC:w.cell? (oE,5)=some ↑(ae u))(hs:w.cell? (CU,0)=some (.func (.func 175) #[] #[oE])):
  aS 180 #[.agg #[x.c,ae x.u,x.f],CU] w (cU (.bool (decide (0<qV x.d c u))) w):=by
 refine Xs ?_;intro eG h4;have e0:=((Z.refl w).alloc (.cells #[x.c,ae x.u,x.f] 256)).ag hs;go_enter func180,ntmps180;exact abG
def Sk{xs:List cu}(p:nY->Bool):(xs.filter (λs=>p s.d)).map cu.d=(xs.map cu.d).filter p:=by
 rw[KI];rfl
def NL(l:List nY)(w:World)(e:Ending)(w':World):Prop:=∃aA n cap ys,e=.returned (.slice aA n cap)/\th w' aA n cap ys/\ys.map cu.d=l/\Z w w'
def amu(a:bl)(n cap:Nat)(xs:List cu)(x:bR)(d:bb)(w:aC)(ar:th w a n cap xs)(a8:hK w x d)(bg:∀s,s∈xs->s.ts.length<=10000)(aq:n<=10000)(bk:d.ts.length<=10000)(an:d.k≠2)(aO:d.k≠3):
  aS 101 #[ao a n cap,x] w (NL (yT (xs.map cu.d) d) w):=by
 obtain⟨_,bO,bL,bM,bP⟩:=fB Sd;change aa _ at bO bL bM bP;obtain rfl:=ar.aF.neq;have hm:=ar.aF.max;unfold maxLen at hm;change aa _ at ar a8 bg;have jV:x.k≠2:=by rw[a8.k];exact an
 have Ii:x.k≠3:=by rw[a8.k];exact aO
 have amv:=I (show yT (xs.map cu.d) d=xs.map cu.d from by unfold yT;rw[aV J]);have dk:(x.k !=2)=true:=by simp[jV]
 have eP:(x.k !=3)=true:=by simp[Ii]
 clear an aO;go_enter func101,ntmps101;go_wp2_with fail;refine(amd _ _ _ xs (λ_=>true) 174 () _ (ar.aF.ext U) J (λ_ _=>by kernel_rfl) (λs _ w' _=>amr s w')).mono ?_;rintro e w1⟨_,m,_,rfl,bu,hy⟩;rw[Sl.2 (λ_ _=>rfl)]at bu;change aa _ at hy bu;go_wp2_with fail;refine(Xp _ _ _ xs _ w1 bu hy (λy hm=>(ar.ts y hm).ext U) (λy hm=>ek (bg y hm) ah) (by rw[bu.neq];omega)).mono ?_;rintro e _⟨cz,rfl,ec,cJ,lO⟩;change aa _ at lO ec cJ;clear hy;go_wp2;go_ret;refine⟨_,_,_,cz,rfl,ec,by rw[cJ.out,amv.out],?_⟩;exact U
def Xt{xs:List cu}{p:cu->Bool}(h:m=(xs.filter p).length)(aq:xs.length<=n):m<=n:=by rw[h];exact ek (vP _ _) aq
def amw(a:bl)(n cap:Nat)(xs:List cu)(x:bR)(d:bb)(w:aC)(ar:th w a n cap xs)(a8:hK w x d)(bg:∀s,s∈xs->s.ts.length<=10000)(aq:n<=10000)(bk:d.ts.length<=10000)(aG:d.k=2):
  aS 101 #[ao a n cap,x] w (NL (yT (xs.map cu.d) d) w):=by
 obtain⟨ct,bO,bL,bM,bP⟩:=fB Sd;replace bO:=I bO;replace bL:=I bL;replace bM:=I bM;replace bP:=I bP;obtain rfl:=ar.aF.neq;have hm:=ar.aF.max;unfold maxLen at hm;replace ar:=I ar;replace a8:=I a8;replace bg:=I bg;have hk:x.k=2:=by rw[a8.k];exact aG
 go_enter func101,ntmps101;go_upto_region 3 with (fail);go_cut [5] (λv eD=>∃w2,w2=eD/\v=.pointer (some (w,1,0))/\eD.cell? (w,0)=some ↑x.k/\eD.cell? (w,4)=some ↑x.c/\eD.cell? (w,5)=some ↑(ae x.u)/\eD.cell? (w,6)=some ↑x.f/\eD.cell? (w,1,0)=some (.func (.func 175) #[] #[w])/\aa (Z w eD));case first=>
  go_wp2;go_meet;exact⟨_,rfl,rfl,CV,CV,CV,CV,CV,U⟩
 case rest=>
  obtain⟨w2,rfl,rfl,b0,gm,ti,uY,aB,qq⟩:=hcut;go_wp2_with fail;refine abI ?_;intro w1 aA m aR vQ oY bu cO;have dF:=oY.ag gm;have dH:=oY.ag ti;have eJ:=oY.ag uY;go_wp2_with (at_builtin;refine hc (ys:=xs.filter (λs:cu=>decide (qV s.d x.c x.u<0))) rfl (.tmp 25) (.tmp 33) 199 rfl ct _ 40 underlying199 bO bL bM bP rfl ah rfl (bu.ext U) (⟨x.c,x.u,x.f,d.ts⟩:cu) _ rfl (fi (cs:=cu.cs (⟨x.c,x.u,x.f,d.ts⟩:cu)) rfl) (cu.cQ _) J ah (Z.size U) ?_;intro g _ a6 gd b2;have cK:=I gd;have dz:=I (b2.ext (bu.ext U) (bJ _) U);clear gd b2);refine(NI _ _ _ xs (λs:cu=>decide (0<qV s.d x.c x.u)) 180 ⟨w.heap.size+1,0,none⟩ a6 (ar.aF.ext (qq.trans dz)) J (λ_ _=>by kernel_rfl) (λs _ w' hw=>abH s w.heap.size (w.heap.size+1) x.c x.u w' ((dz.trans hw).ag gm) ((dz.trans hw).ag ti) ((dz.trans hw).ag aB))).mono ?_;rintro e _⟨_,_,_,rfl,ed,Eu⟩;have pz:=Xt ed.neq aq;replace Eu:=I Eu;replace ed:=I ed;go_wp2_with (at_builtin;refine tf rfl λoz mx=>?_;refine te (c:=cu.cs) (ys0:=xs.filter (λs:cu=>decide (qV s.d x.c x.u<0))++[(⟨x.c,x.u,x.f,d.ts⟩:cu)]) (ys:=xs.filter (λs:cu=>decide (0<qV s.d x.c x.u))) (.tmp 35) (.tmp 38) 199 256 rfl ct _ 40 underlying199 bO bL bM bP rfl ah rfl w2 (dz.trans Eu) (cK.ext Eu) rfl ed.aF cu.cQ J ah ?_;intro _ _ _ c4 hA jc X py;refine mx _ _ ?_;have k5:=I jc;have ic:=I X;have Xu:=I hA;clear jc X py hA);refine(Xp _ _ _ (xs.filter (λs:cu=>decide (qV s.d x.c x.u<0))++[(⟨x.c,x.u,x.f,d.ts⟩:cu)]++xs.filter (λs:cu=>decide (0<qV s.d x.c x.u))) w2 c4 k5 ic ?hF ?eV (by rw[Xu.out];omega)).mono ?_;case hF=>
   intro y hy;rcases ie.1 hy with hy|hy
   ·rcases ie.1 hy with hy|hy;exact Sm
    ·obtain rfl:=jg.1 hy;exact a8.f.ext qq
   exact Sm
  case eV=>
   intro y hy;rcases ie.1 hy with hy|hy
   ·rcases ie.1 hy with hy|hy;exact Sn
    ·obtain rfl:=jg.1 hy;exact ek bk ah
   exact Sn
  rintro e _⟨cz,rfl,ec,cJ,il⟩;replace ec:=I ec;replace cJ:=I cJ;have ix:=I (qq.trans il);clear il;go_wp2;go_ret;refine⟨_,_,_,cz,rfl,ec,?_,ix⟩;rw[cJ.out,fT,fT,Sk (λs=>decide (qV s x.c x.u<0)),Sk (λs=>decide (0<qV s x.c x.u)),a8.c,a8.u];unfold yT;rw[bc (.inl aG),bc aG,ig];rfl
def amx(a:bl)(n cap:Nat)(xs:List cu)(x:bR)(d:bb)(w:aC)(ar:th w a n cap xs)(a8:hK w x d)(bg:∀s,s∈xs->s.ts.length<=10000)(aq:n<=10000)(bk:d.ts.length<=10000)(aG:d.k=3):
  aS 101 #[ao a n cap,x] w (NL (yT (xs.map cu.d) d) w):=by
 obtain⟨ct,bO,bL,bM,bP⟩:=fB Sd;replace bO:=I bO;replace bL:=I bL;replace bM:=I bM;replace bP:=I bP;obtain rfl:=ar.aF.neq;have hm:=ar.aF.max;unfold maxLen at hm;replace ar:=I ar;replace a8:=I a8;replace bg:=I bg;have hk:x.k=3:=by rw[a8.k];exact aG
 go_enter func101,ntmps101;go_upto_region 3 with (fail);go_cut [5] (λv eD=>∃w2,w2=eD/\v=.pointer (some (w,1,0))/\eD.cell? (w,0)=some ↑x.k/\eD.cell? (w,4)=some ↑x.c/\eD.cell? (w,5)=some ↑(ae x.u)/\eD.cell? (w,6)=some ↑x.f/\eD.cell? (w,1,0)=some (.func (.func 175) #[] #[w])/\aa (Z w eD));case first=>
  go_wp2;go_meet;exact⟨_,rfl,rfl,CV,CV,CV,CV,CV,U⟩
 case rest=>
  obtain⟨w2,rfl,rfl,b0,gm,ti,_,aB,qq⟩:=hcut;go_wp2_with fail;refine abI ?_;intro w1 aA m aR vQ oY bu cO;have dz:=oY;have cK:=bu;go_wp2_with fail;refine(NI _ _ _ xs (λs:cu=>decide (0<qV s.d x.c x.u)) 180 ⟨w.heap.size+1,0,none⟩ w1 (ar.aF.ext (qq.trans dz)) J (λ_ _=>by kernel_rfl) (λs _ w' hw=>abH s w.heap.size (w.heap.size+1) x.c x.u w' ((dz.trans hw).ag gm) ((dz.trans hw).ag ti) ((dz.trans hw).ag aB))).mono ?_;rintro e _⟨_,_,_,rfl,ed,Eu⟩;have pz:=Xt ed.neq aq;replace Eu:=I Eu;replace ed:=I ed;go_wp2_with (at_builtin;refine tf rfl λoz mx=>?_;refine te (c:=cu.cs) (ys0:=xs.filter (λs:cu=>decide (qV s.d x.c x.u<0))) (ys:=xs.filter (λs:cu=>decide (0<qV s.d x.c x.u))) (.tmp 35) (.tmp 38) 199 256 rfl ct _ 40 underlying199 bO bL bM bP rfl ah rfl w2 (dz.trans Eu) (cK.ext Eu) rfl ed.aF cu.cQ J ah ?_;intro _ _ _ c4 hA jc X py;refine mx _ _ ?_;have k5:=I jc;have ic:=I X;have Xu:=I hA;clear jc X py hA);refine(Xp _ _ _ (xs.filter (λs:cu=>decide (qV s.d x.c x.u<0))++xs.filter (λs:cu=>decide (0<qV s.d x.c x.u))) w2 c4 k5 ic ?hF ?eV (by rw[Xu.out];omega)).mono ?_;case hF=>
   intro y hy;rcases ie.1 hy with hy|hy;exact Sm;exact Sm
  case eV=>
   intro y hy;rcases ie.1 hy with hy|hy;exact Sn;exact Sn
  rintro e _⟨cz,rfl,ec,cJ,il⟩;replace ec:=I ec;replace cJ:=I cJ;have ix:=I (qq.trans il);clear il;go_wp2;go_ret;refine⟨_,_,_,cz,rfl,ec,?_,ix⟩;rw[cJ.out,fT,Sk (λs=>decide (qV s x.c x.u<0)),Sk (λs=>decide (0<qV s x.c x.u)),a8.c,a8.u];unfold yT;rw[bc (.inr aG),aV J];rfl
def abJ(a:bl)(n cap:Nat)(xs:List cu)(x:bR)(d:bb)(w:aC)(bj:th w a n cap xs)(eL:hK w x d)(eV:∀s,s∈xs->s.ts.length<=10000)(aq:n<=10000)(bk:d.ts.length<=10000):
  aS 101 #[ao a n cap,x] w (NL (yT (xs.map cu.d) d) w):=by
 by_cases an:d.k=2
 ·exact amw a n cap xs x d w bj eL eV aq bk an
 ·by_cases aO:d.k=3
  ·exact amx a n cap xs x d w bj eL eV aq bk aO
  ·exact amu a n cap xs x d w bj eL eV aq bk an aO
def NM:(prog.info? 77).map (λi=>(i.zero,i.size,i.bytes))=some (some (.agg #[.string ⟨#[]⟩,av,av,.string ⟨#[]⟩]),4,48):=bQ
def abK(l:List (List cI))(w:World)(e:Ending)(w':World):Prop:=∃aA n cap ys,e=.returned (.slice aA n cap)/\aH w' w.heap.size 34 1 eu.cs aA n cap ys/\(∀y,y∈ys->aH w' w.heap.size 77 4 cI.cs y.v.a y.v.n y.v.c y.dt)/\ys.map (·.dt)=l/\Z w w'
def abL(a:bl)(n cap:Nat)(xs:List eu)(w:aC)(ar:vO w a n cap xs)(aq:n<=10000)(dG:∀x,x∈xs->x.dt.length<=10000):
  aS 167 #[ao a n cap] w (abK (xs.map (·.dt)) w):=by
 obtain⟨dK,eY,e5,e6,e7⟩:=fB Ic;obtain⟨eB,lQ,lR,lS,lT⟩:=fB NM;change aa _ at eY e5 e6 e7 lQ lR lS lT;obtain rfl:=ar.aF.neq;have hm:=ar.aF.max;have a1:=ar.aF.len;unfold maxLen at hm;change aa _ at ar dG;go_enter func167,ntmps167;go_wp2_with fail
 go_loopg [3,8] (xs.length) (λg e4 st wr=>∃(k:Nat) (ab:bl) (m aR:Nat) (ys:List eu),g+k=xs.length/\st=.int .i64 k/\e4=.slice ab m aR/\
  aa (aH wr w 34 1 eu.cs ab m aR ys/\ys.map (·.dt)=(xs.take k).map (·.dt)/\∀y,y∈ys->aH wr w 77 4 cI.cs y.v.a y.v.n y.v.c y.dt)/\aa (Z w wr))
 case atStart=>exact abM
 case round=>
  obtain⟨k,ab,m,aR,ys,_,rfl,rfl,aJ,X⟩:=hrel;by_cases hk:k<xs.length
  ·obtain⟨b,o,rfl,al⟩:=ar.out.aF.get k hk;have d0:=Ep (w:=wr) (b:=b) (o:=o+k*1) (x:=xs[k]) (λj v aD=>X.out.ag (al j v aD));rw[jd]at d0;have bV:=I ((ar.out.dt xs[k] (cT hk)).ext X.out);have amy:xs[k].v.n<=10000:=by rw[bV.out.neq];exact dG.out _ (cT hk)
   have ho:m<=10000:=by
    have af:=eH List.length aJ.out.2.1;rw[cx,cx,nF]at af;have an:=aJ.out.1.neq;omega
   have NN:(w:Nat)<=(wr:Nat):=X.out.size;clear al;refine jU ?_;intro b0 bf;go_wp2_with (first|(at_builtin;refine tf rfl λoz mx=>?_;refine te (c:=cI.cs) (ys0:= []) (ys:=xs[k].dt) (.const aP) (.tmp 13) 34 77 rfl eB _ 48 KJ lQ.out lR.out lS.out lT.out rfl ah rfl wr U (aH.nil _ _ _ cI.bI) rfl (bV.out.ext U) cI.cQ J ah ?_;intro cP da qR aN hA jc br py;refine mx _ _ ?_;have cd:=I jc;have bq:=I br;have azR:=I hA;clear jc br py hA)|(at_builtin;refine hc (ys:=ys) rfl (.tmp 12) (.tmp 15) 64 rfl dK _ 24 F9 eY.out e5.out e6.out e7.out rfl ah rfl (aJ.out.1.ext (bq.out.alloc _)) ⟨⟨cP,da,qR⟩,xs[k].dt⟩ _ rfl (fi (cs:=eu.cs ⟨⟨cP,da,qR⟩,xs[k].dt⟩) rfl) (eu.cQ _) J ah (ek NN (bq.out.alloc _).size) ?_;intro g _ _ gd b2;have cK:=I gd;have b9:=I b2;clear gd b2));go_roundg (gk - 1);case measure=>omega
   case rel=>
    have ru:=aJ.out.1.ext (bq.out.alloc (.cells #[ao cP da qR] 34));refine⟨k+1,_,_,_,ys++[⟨⟨cP,da,qR⟩,xs[k].dt⟩],J,by go_num,rfl,⟨cK.out,?_,λy hy=>?_⟩,b9.out.ext ru (bJ _) (Z.trans X.out (bq.out.alloc _))⟩;exact abN
    ·rcases ie.1 hy with hy|hy
     ·have qW:=(aJ.out.2.2 y hy).ext (bq.out.alloc (.cells #[ao cP da qR] 34));exact b9.out.bS qW (ru.gT qW ah)
     ·obtain rfl:=jg.1 hy;have qW:=(cd.out.mono NN).ext ((Z.refl aN).alloc (.cells #[ao cP da qR] 34));exact b9.out.bS qW (ru.gT qW ah)
  ·refine sy ?_;intro cb;rw[cb]at aJ;go_wp2;go_ret;exact⟨ab,m,aR,ys,rfl,aJ.out.1,aJ.out.2.2,aJ.out.2.1,X.out⟩
def amz(h3:List (List T))(w:World)(e:Ending)(w':World):Prop:=∃aA n cap ys,e=.returned (.slice aA n cap)/\Em w' aA n cap ys/\ys.map (·.ts)=h3/\Z w w'
def cu.ng(s:cu):lN:=⟨s.f,s.ts⟩
def amA(xs:List cu)(cl:List Int):((xs.filter (λs:cu=>decide (s.c∈cl))).map cu.ng).map (·.ts)=Ib (xs.map cu.d) cl:=by
 unfold Ib;rw[KI,Ij,Ij];exact abO
def amB(a:bl)(n cap:Nat)(xs:List cu)(oZ:bl)(NO NP:Nat)(cl:List Int)(w:aC)(ar:th w a n cap xs)(cg:a7 w 1 dP oZ NO NP cl)(bg:∀s,s∈xs->s.ts.length<=10000)(aq:n<=10000):
  aS 280 #[ao a n cap,ao oZ NO NP] w (amz (Sc (xs.map cu.d) cl) w):=by
 obtain⟨ct,bO,bL,bM,bP⟩:=fB aba;change aa _ at bO bL bM bP;obtain rfl:=ar.aF.neq;have hm:=ar.aF.max;have a1:=ar.aF.len;unfold maxLen at hm;change aa _ at ar cg bg;go_enter func280,ntmps280;go_wp2_with fail;refine(NI _ _ _ xs (λs:cu=>decide (s.c∈cl)) 302 ⟨w.heap.size,0,none⟩ _ (ar.aF.ext U) J (λ_ _=>by kernel_rfl) (λs _ w' hw=>amq s w.heap.size _ _ _ cl w' (hw.ag (by simp)) ((cg.ext U).ext hw))).mono ?_;rintro e w1⟨cE,_,_,rfl,dX,ad⟩;have mM:∀s,s∈xs.filter (λs:cu=>decide (s.c∈cl))->s∈xs:=λs hs=>(pA.1 hs).1;have hlen:(xs.filter (λs:cu=>decide (s.c∈cl))).length<=xs.length:=vP _ _;have cw:=I (amA xs cl);generalize xs.filter (λs:cu=>decide (s.c∈cl))=L at dX mM hlen cw;obtain rfl:=dX.neq;have vQ:=dX.aF.max;have Bp:=dX.aF.len;unfold maxLen at vQ;have bu:=I dX.aF;refine Sp ?_;intro hy;clear dX ad;go_wp2_with fail;go_loopg [6,14] (L.length) (λg e4 st wr=>∃(k:Nat) (aA:bl) (m aR:Nat),g+k=L.length/\st=.int .i64 k/\e4=.slice aA m aR/\m<=k/\aa (aH wr w1 36 1 lN.cs aA m aR ((L.take k).map cu.ng))/\aa (Z w1 wr));case atStart=>exact⟨0,none,0,0,J,rfl,rfl,J,aH.nil _ _ _ lN.bI,Z.refl _⟩
 case round=>
  obtain⟨k,_,m,_,_,rfl,rfl,_,aJ,X⟩:=hrel;by_cases hk:k<L.length
  ·obtain⟨b,o,rfl,al⟩:=bu.get k hk;obtain⟨_,_,_⟩:=Sb (w:=wr) (b:=b) (o:=o+k*3) (x:=L[k]) (λj v aD=>X.ag (al j v aD));clear al;have b0:(0:Int)<=(k:Int):=J;have bf:(k:Int)<(L.length:Int):=J;go_wp2_with (at_builtin;go_must (refine hc (ys:=(L.take k).map cu.ng) rfl (.tmp 18) (.tmp 21) 350 rfl ct _ 24 underlying350 bO bL bM bP rfl ah rfl (aJ.ext U) L[k].ng _ rfl (fi (cs:=lN.cs L[k].ng) (by simp)) (lN.cQ _) J ah (Z.size U) ?_);intro g _ _ gd b2;have cK:=I gd;have b9:=I b2;clear gd b2);go_roundg (gk - 1);case measure=>omega
   case rel=>exact⟨k+1,_,_,_,J,by go_num,rfl,J,by(rw[iv hk,fT];exact cK),b9.ext (aJ.ext U) (bJ _) U⟩
  ·have cb:L.take k=L:=iU J;rw[cb]at aJ;clear cb;go_wp2_with fail;refine(alG _ _ _ (L.map cu.ng) _ ⟨aJ.aF,λy uZ=>?w3⟩ J (λy uZ=>?CW)).mono ?_;case w3=>
    obtain⟨s,hs,rfl⟩:=lU.1 uZ;exact((ar.ts s (mM s hs)).ext hy).ext X
   case CW=>
    obtain⟨s,hs,rfl⟩:=lU.1 uZ;show s.f.n<=10000;rw[(ar.ts s (mM s hs)).neq];exact bg s (mM s hs)
   rintro e _⟨a4,mz,dF,cz,rfl,eh,bF,eQ⟩;change aa _ at eh bF eQ;go_wp2;go_ret;refine⟨a4,mz,dF,cz,rfl,eh.alB,by rw[bF.out,cw.out];rfl,?_⟩;exact U
def amC(a:bl)(n cap:Nat)(xs:List cu)(p:cu->Bool)(fn:Nat)(aR:Addr)(w:aC)(ar:a7 w 3 cu.cs a n cap xs)(bk:∀args w,(callFunc fn args).run prog w=.ok (.enter fn args) w)(b8:∀x,x∈xs->∀w',Z w w'->aS fn #[.agg #[x.c,ae x.u,x.f],.pointer (some aR)] w' λe ey=>e=.returned (.bool (p x))/\Z w' ey):
  aS 246 #[ao a n cap,.func (.func fn) #[] #[.pointer (some aR)]] w (cU (.int .i64 (qP p xs)) w):=by
 obtain rfl:=ar.neq;refine td ?_;intro hm a1;change aa _ at ar b8;go_enter func246,ntmps246;go_wp2_with fail;go_loopg [5,8] (xs.length) (λg _ st wr=>∃k:Nat,g+k=xs.length/\st=.int .i64 k/\aa ((xs.take k).any p=false)/\aa (Z w wr));case atStart=>exact⟨0,J,rfl,rfl,Z.refl _⟩
 case round=>
  obtain⟨k,_,rfl,eO,X⟩:=hrel;by_cases hk:k<xs.length
  ·obtain⟨b,o,rfl,al⟩:=ar.get k hk;obtain⟨_,_,_⟩:=Sb (w:=wr) (b:=b) (o:=o+k*3) (x:=xs[k]) (λj v aD=>X.ag (al j v aD));clear al;exact ND
  exact NF
def amD(a:bl)(n cap:Nat)(xs:List cu)(p:cu->Bool)(fn:Nat)(aR:Addr)(w:aC)(ar:a7 w 3 cu.cs a n cap xs)(bk:∀args w,(callFunc fn args).run prog w=.ok (.enter fn args) w)(b8:∀x,x∈xs->∀w',Z w w'->aS fn #[.agg #[x.c,ae x.u,x.f],.pointer (some aR)] w' λe ey=>e=.returned (.bool (p x))/\Z w' ey):
  aS 170 #[ao a n cap,.func (.func fn) #[] #[.pointer (some aR)]] w (cU (.bool (xs.any p)) w):=by
 change aa _ at ar b8;go_enter func170,ntmps170;go_wp2_with fail;refine qQ (amC _ _ _ xs p fn aR _ (ar.ext U) bk (λx X w' hw=>b8 x X w' (Z.trans U hw))) λw1 hy=>?_;go_wp2;go_ret;refine⟨jl (WZ p xs),?_⟩;exact U
def amE(x:cu)(fb:Nat)(c:Int)(w:aC)(al:w.cell? (fb,0)=some ↑c):
  aS 166 #[.agg #[x.c,ae x.u,x.f],fb] w (cU (.bool (decide (x.c=c))) w):=by
 have eB:=((Z.refl w).alloc (.cells #[x.c,ae x.u,x.f] 256)).ag al;go_enter func166,ntmps166;exact abk
def amF(x:cu)(fb:Nat)(dL:bl)(eC dO:Nat)(aX:List cI)(w:aC)(eh:a7 w 5 T.cs x.f.a x.f.n x.f.c x.ts)(hf:a7 w 4 cI.cs dL eC dO aX)(al:w.cell? (fb,0)=some ↑(ao dL eC dO)):
  aS 171 #[.agg #[x.c,ae x.u,x.f],fb] w (cU (.bool (uf x.ts aX)) w):=by
 have eB:=((Z.refl w).alloc (.cells #[x.c,ae x.u,x.f] 256)).ag al;change aa _ at eh hf;go_enter func171,ntmps171;go_wp2_with fail;refine qQ (abo _ _ _ x.ts _ _ _ aX _ (eh.ext U) (hf.ext U)) λw1 hy=>?_;go_wp2;go_ret;refine⟨rfl,?_⟩;exact U
def amG(x:eu)(fb:Nat)(a:bl)(n cap:Nat)(xs:List cu)(w:aC)(hf:a7 w 4 cI.cs x.v.a x.v.n x.v.c x.dt)(ar:th w a n cap xs)(al:w.cell? (fb,0)=some ↑(ao a n cap)):
  aS 169 #[x.v,fb] w (cU (.bool (xs.any λs=>uf s.ts x.dt)) w):=by
 have eB:=((Z.refl w).alloc (.cells #[x.v] 34)).ag al;change aa _ at ar hf;go_enter func169,ntmps169;go_wp2_with fail;refine(amD _ _ _ xs (λs=>uf s.ts x.dt) 171 ⟨w.heap.size,0,none⟩ _ (ar.aF.ext U) (λ_ _=>by kernel_rfl) (λs hs w' hw=>amF s w.heap.size _ _ _ x.dt w' (((ar.ts s hs).ext U).ext hw) ((hf.ext U).ext hw) (hw.ag (by simp)))).mono ?_;rintro e _⟨rfl,hy⟩;change aa _ at hy;go_wp2;go_ret;refine⟨rfl,?_⟩;exact U
def amH(xs:List cu)(c:Int)(cD:List eu):(cD.filter (λe=>(xs.filter (λs:cu=>decide (s.c=c))).any λs=>uf s.ts e.dt)).map (·.dt)=CS (Ib (xs.map cu.d) [c]) (cD.map (·.dt)):=by
 unfold CS Ib;rw[KI];congr 1;refine Sq λe _=>?_;show((xs.filter (λs:cu=>decide (s.c=c))).any λs=>uf s.ts e.dt)=((((xs.map cu.d).filter (λs=> [c].contains s.c)).map (·.ts)).any λf=>uf f e.dt);rw[KI,Ij,yR];exact abO
def abP{cD:List eu}{aX:List (List cI)}(h:cD.map (·.dt)=aX)(a1:aX.length<=m)(ak:∀e,e∈aX->e.length<=m):cD.length<=m/\∀x,x∈cD->x.dt.length<=m:=
 ⟨by rw[<-cx (f:=(·.dt)),h];exact a1,λx X=>ak _ (by rw[<-h];exact nH X)⟩
def amI(a:bl)(n cap:Nat)(xs:List cu)(c:Int)(x:bR)(d:bb)(w:aC)(ar:th w a n cap xs)(eL:hK w x d)(aq:n<=10000)(he:d.aX.length<=10000)(ak:∀e,e∈d.aX->e.length<=10000):
  aS 100 #[ao a n cap,c,x] w (abK (wZ (xs.map cu.d) c d) w):=by
 obtain⟨cD,ky,bV⟩:=eL.e;obtain⟨Ik,dG⟩:=abP ky he ak;obtain rfl:=ar.aF.neq;have c3:=bV.aF.neq;have hm:=ar.aF.max;have a1:=ar.aF.len;unfold maxLen at hm;have pZ:=eL.k;change aa _ at ar bV ky dG c3;clear eL he ak;by_cases af:d.k=1
 ·have hk:x.k=1:=by rw[pZ];exact af
  have bn:=I (show wZ (xs.map cu.d) c d=CS (Ib (xs.map cu.d) [c]) d.aX from by unfold wZ;rw[bc af]);clear af pZ;go_enter func100,ntmps100;go_wp2_with fail;refine(NI _ _ _ xs (λs:cu=>decide (s.c=c)) 166 ⟨w.heap.size,0,none⟩ _ (ar.aF.ext U) J (λ_ _=>by kernel_rfl) (λs _ w' hw=>amE s w.heap.size c w' (hw.ag (by simp)))).mono ?_;rintro e w1⟨cE,da,c1,rfl,dX,ad⟩;have eM:w1.cell? (w,1,7)=some ↑x.e:=ad.ag (by simp);have mM:∀s,s∈xs.filter (λs:cu=>decide (s.c=c))->s∈xs:=λs hs=>(pA.1 hs).1;have cw:=I (amH xs c cD);generalize xs.filter (λs:cu=>decide (s.c=c))=L at dX mM cw;have hy:aa (Z w w1):=Z.trans (((Z.refl w).alloc _).alloc _) ad;have bg:aa (th w1 cE da c1 L):=⟨dX.aF,λs hs=>(ar.ts s (mM s hs)).ext hy⟩;clear dX ad;have d7:=((Z.refl w1).alloc (.cells #[ao cE da c1] 199)).ag eM;go_wp2_with fail;refine(abz _ _ _ cD (λe=>L.any λs=>uf s.ts e.dt) 169 ⟨w1.heap.size,0,none⟩ _ (bV.aF.ext U) (by rw[c3.out];omega) _ rfl (λ_ _=>by kernel_rfl) ?aY).mono ?_;case aY=>
   intro e he w' hw;exact amG e (w1:Nat) _ _ _ L w' (((bV.dt e he).ext U).ext hw) ((bg.ext U).ext hw) (hw.ag (by simp))
  rintro e aN⟨ch,_,_,rfl,o0,iX⟩;have lO:aa (Z w1 aN):=Z.trans ((Z.refl w1).alloc _) iX;have cd:=I o0.aF;clear o0 iX;go_wp2_with fail;refine(abL _ _ _ _ _ ⟨cd,λy uZ=>?j1⟩ ?CW ?amJ).mono ?_;case j1=>exact((bV.dt y (pA.1 uZ).1).ext hy).ext lO
  case CW=>exact ek (Nat.le_of_eq cd.neq) (ek (vP _ _) Ik)
  case amJ=>exact λy uZ=>dG y (pA.1 uZ).1
  rintro e _⟨a3,fI,cV,cz,rfl,ec,abQ,bF,amK⟩;change aa _ at ec abQ bF amK;go_wp2;go_ret;refine⟨a3,fI,cV,cz,rfl,ec.mono (by have cZ:=hy.size;have z2:=lO.size;omega),λy uZ=>(abQ y uZ).mono (by have cZ:=hy.size;have z2:=lO.size;omega),by rw[bF.out,cw.out,bn.out,ky.out],?_⟩;exact U
 ·have hk:x.k≠1:=by rw[pZ];exact af
  have q1:(x.k !=1)=true:=by simp[hk]
  have bn:=I (show wZ (xs.map cu.d) c d= []from by unfold wZ;rw[aV af]);clear af pZ;go_enter func100,ntmps100;go_wp2;go_ret;refine⟨none,0,0,[],rfl,aH.nil _ _ _ eu.bI,λy hy=>(by cases hy),by rw[bn.out];rfl,?_⟩;exact U
structure tj (w:World) (b:Nat) (x:bR):Prop where
 at_:r0 w b 0 x.cs
 free:∀j,w.frozen? ⟨b,j,none⟩=false
def tj.lt{x:bR}(h:tj w b x):b<(w:Nat):=Ee (h.at_ 0 _ rfl)
def tj.ext{x:bR}(h:tj w b x)(X:Z w w'):tj w' b x:=
 ⟨λj v aD=>X.ag (h.at_ j v aD),λj=>(X.frozen b j h.lt).trans (h.free j)⟩
def tj.cells{x:bR}(h:tj w b x):
  w.cell? (b,0)=some ↑x.k/\w.cell? (b,1)=some ↑x.id.b/\w.cell? (b,2)=some ↑(ae x.id.l)/\w.cell? (b,3)=some ↑(ae x.id.s)/\w.cell? (b,4)=some ↑x.c/\w.cell? (b,5)=some ↑(ae x.u)/\w.cell? (b,6)=some ↑x.f/\w.cell? (b,7)=some ↑x.e:=
 ⟨h.at_ 0 _ rfl,h.at_ 1 _ rfl,h.at_ 2 _ rfl,h.at_ 3 _ rfl,h.at_ 4 _ rfl,h.at_ 5 _ rfl,h.at_ 6 _ rfl,h.at_ 7 _ rfl⟩
def tj.jD{x:bR}(h:tj w b x){p:Addr}(aY:b≠p.block)(u:Value):tj (w.setCell p u) b x:=
 ⟨λj v aD=>(Ks (a:=⟨b,0+j,.none⟩) (Below.heap_setCell w p u b aY)).trans (h.at_ j v aD),λj=>(World.frozen?_of_block (a:=⟨b,j,.none⟩) (Below.heap_setCell w p u b aY)).trans (h.free j)⟩
def amL{p q:Addr}(h:w.frozen? q=false):(w.setCell p u).frozen? q=false:=by simpa using h
def amM{i:Nat}{cs cs':List Value}(h:r0 w b 0 cs)(aK:i<cs.length)(he:cs'=cs.set i u):r0 (w.setCell (b,i) u) b 0 cs':=by
 intro j v aD;rw[he]at aD;rw[ow];by_cases Xv:i=j
 ·subst Xv;rw[List.getElem?_set_self aK]at aD;cases aD;exact Sr _ _ _ (by have:=h i _ (eK aK);rwa [ow]at this)
 ·rw[List.getElem?_set_ne Xv]at aD;have:=h j v aD;rw[ow]at this;exact(tk _ _ _ _ (by simp[Xv])).trans this
def tj.abR{x:bR}(h:tj w b x)(e:iF):tj (w.setCell (b,7) e) b {x with e:=e}:=
 ⟨amM h.at_ (by rw[bR.bI];decide) rfl,λj=>amL (h.free j)⟩
def tj.new{x:bR}:tj (w.alloc (.cells #[x.k,x.id.b,ae x.id.l,ae x.id.s,x.c,ae x.u,x.f,x.e] t)) w x:=
 ⟨λj v aD=>by rw[ow];exact fi (cs:=x.cs) rfl j v aD,λj=>by simp⟩
def Xw:bR:=⟨0,⟨0,0,0⟩,0,0,⟨none,0,0⟩,⟨none,0,0⟩⟩
end Go.Proofs.YtfiiblnenhdlhaaGreat
