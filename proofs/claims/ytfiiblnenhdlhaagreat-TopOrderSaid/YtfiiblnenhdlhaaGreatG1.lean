/- Part. -/
import Derived.Test.YtfiiblnenhdlhaaGreatG0
set_option linter.unusedVariables false
set_option linter.unusedSimpArgs false
set_option linter.defProp false
set_option maxRecDepth 100000
set_option maxHeartbeats 4000000
namespace Go.Proofs.YtfiiblnenhdlhaaGreat
open Go.RowKit Tryz
variable {Q:Exit->Act->World->Prop}{lV op:Int}{aDn b base cap g k n o sz:Nat}{fr:Nat×Nat}{a aw cK:Option Addr}{P:Program}{α β:Type}{FG e t:TypeId}{gR iF iu ji k0 o7 oq sc xl:Value}{W w w' w1:World}
def pD:List UInt8->List UInt8->Bool:=Op.bytesLess
def am9(a b:UInt8):(a<b)↔a.toNat<b.toNat:=UInt8.lt_iff_toNat_lt
def abP(a b:UInt8):(a=b)↔a.toNat=b.toNat:=UInt8.toNat_inj.symm
def Wl(a b:UInt8)(x y:dR):pD (a::x) (b::y)=(decide (a.toNat<b.toNat)||(decide (a.toNat=b.toNat)&&pD x y)):=by
 show(decide (a<b)||(a==b&&Op.bytesLess x y))=_;have ae:decide (a<b)=decide (a.toNat<b.toNat):=by simp[am9]
 have ak:(a==b)=decide (a.toNat=b.toNat):=by rw[vt];simp[abP]
 rw[ae,ak];rfl
def abQ(x:dR):pD x []=false:=by cases x<;>rfl
def Wm:∀x:dR,pD x x=false
 | []=>rfl
 |a::x=>by rw[Wl,Wm x];simp
def abR:∀x y z:dR,pD x y=true->pD y z=true->pD x z=true
 |_,[],_,h,_=>by rw[abQ]at h;cases h
 |_,_::_,[],_,h=>by rw[abQ]at h;cases h
 | [],_::_,_::_,_,_=>rfl
 |a::x,b::y,c::z,h,k=>by
  rw[Wl]at h k ⊢
  simp only[xh,ke,jQ]at h k ⊢
  rcases h with h|⟨h,sV⟩<;>rcases k with k|⟨k,lV⟩
  ·left;omega
  ·left;omega
  ·left;omega
  ·right;exact⟨J,abR x y z sV lV⟩
def abS:∀x y:dR,pD x y=false->pD y x=false->x=y
 | [],[],_,_=>rfl
 | [],_::_,h,_=>by cases h
 |_::_,[],_,h=>by cases h
 |a::x,b::y,h,k=>by
  rw[Wl]at h k
  simp only[JP,Bool.and_eq_false_iff,zy]at h k
  have e:a.toNat=b.toNat:=J
  have sV:pD x y=false:=h.2.resolve_left (λn=>n e)
  have lV:pD y x=false:=k.2.resolve_left (λn=>n e.symm)
  rw[abS x y sV lV,(abP a b).2 e]
def ana(x y:dR)(h:pD x y=true):pD y x=false:=by
 cases k:pD y x with
 |false=>rfl
 |true=>have:=abR x y x h k;rw[Wm]at this;cases this
def nn(a b:Int):Int:=if a<b then -1 else if b<a then 1 else 0
def JQ(x y:List UInt8):Int:=if pD x y then -1 else if pD y x then 1 else 0
def oj(k n:Int)(s:List UInt8)(lV gE:Int)(s':List UInt8):Int:=
 if nn k lV≠0 then nn k lV else if nn n gE≠0 then nn n gE else JQ s s'
def anb{k n:Int}{s:dR}{gE:Int}{s':dR}(h:(nn k lV !=0)=true):nn k lV=oj k n s lV gE s':=by
 simp only[bne_iff_ne]at h;rw[oj,bm h]
def anc{k n:Int}{s:dR}{gE:Int}{s':dR}(g:nn k lV=0)(h:(nn n gE !=0)=true):nn n gE=oj k n s lV gE s':=by
 simp only[bne_iff_ne]at h;rw[oj,bj (by simp[g]),bm h]
def abT{k n:Int}{s:dR}{gE:Int}{s':dR}(g:nn k lV=0)(h:nn n gE=0):JQ s s'=oj k n s lV gE s':=by
 rw[oj,bj (by simp[g]),bj (by simp[h])]
def wv(k n:Int)(s:List UInt8):Int:=
 if (k=1/\s= [])\/(k=2/\n=0/\s.length<=40)\/(k=3/\(n=0\/n=1)/\s= []) then 0 else 10
def BU(k:Int)(s:List UInt8)(lV:Int)(s':List UInt8):Bool:=
 decide (k=2)&&decide (lV=2)&&s'.isPrefixOf s
def ane(s t:dR):(s.take t.length==t)=t.isPrefixOf s:=by
 rw[vt,beq_iff_eq,List.isPrefixOf_iff_prefix,List.prefix_iff_eq_take];exact eq_comm
def anf(s t:dR)(h:¬t.length<=s.length):false=t.isPrefixOf s:=by
 rw[eq_comm,Bool.eq_false_iff];intro e;rw[List.isPrefixOf_iff_prefix]at e;exact h e.length_le
def ang{k:Int}{s s':dR}(h:k≠2):false=BU k s lV s':=by
 unfold BU;simp[h]
def anh{k:Int}{s s':dR}(h:lV≠2):false=BU k s lV s':=by
 unfold BU;simp[h]
def ani{s s':dR}:s'.isPrefixOf s=BU 2 s 2 s':=by
 unfold BU;simp
structure vu where
 k:Int
 n:Int
 s:List UInt8
deriving DecidableEq
def vu.BV(a b:vu):Int:=oj a.k a.n a.s b.k b.n b.s
def vu.Rb(a b:vu):Bool:=BU a.k a.s b.k b.s
def vu.ok(a:vu):Prop:=wv a.k a.n a.s=0
def nH(op n:Int)(wx:Bool):Bool:=
 if op=1 then decide (n=0) else if op=2 then !decide (n=0) else if op=3 then decide (n<0) else if op=4 then decide (n<=0)
 else if op=5 then decide (0<n) else if op=6 then decide (0<=n) else if op=7 then wx else false
def Ho(op:Int)(b v:vu):Bool:=if op=8 then true else decide (v.k=b.k)&&nH op (v.BV b) (v.Rb b)
def Ay(op:Int)(a:vu)(uG:Int)(b:vu):Bool:=
 if op=1 then Ho uG b a
 else if op=3 then decide (uG=3\/uG=4\/uG=2)&&decide (a.BV b<=0)
 else if op=4 then (decide (uG=4)&&decide (a.BV b<=0))||(decide (uG=3\/uG=2)&&decide (a.BV b<0))
 else if op=5 then decide (uG=5\/uG=6\/uG=2)&&decide (0<=a.BV b)
 else if op=6 then (decide (uG=6)&&decide (0<=a.BV b))||(decide (uG=5\/uG=2)&&decide (0<a.BV b))
 else if op=7 then (if uG=7 then a.Rb b else if uG=6 then decide (0<=a.BV b) else if uG=5 then decide (0<a.BV b) else if uG=2 then !b.Rb a else false)
 else false
def xi(op:Int):Bool:=decide (1<=op/\op<=8)
structure Rc where
 nm:List UInt8
 op:Int
 v:vu
deriving DecidableEq
def BW(a b:Rc):Bool:=
 decide (a.nm=b.nm)&&xi a.op&&xi b.op&&(decide (a=b)||decide (b.op=8)||(!decide (a.op=8)&&decide (a.v.k=b.v.k)&&Ay a.op a.v b.op b.v))
structure Rc.ok (t:Rc):Prop where
 op:1<=t.op/\t.op<=8
 v:t.op=8\/t.v.ok
 cC:t.op=7->t.v.k=2
def anj(n:Int)(wx:Bool):nH 1 n wx=decide (n=0):=rfl
def ank(n:Int)(wx:Bool):nH 2 n wx= !decide (n=0):=rfl
def anl(n:Int)(wx:Bool):nH 3 n wx=decide (n<0):=rfl
def anm(n:Int)(wx:Bool):nH 4 n wx=decide (n<=0):=rfl
def ann(n:Int)(wx:Bool):nH 5 n wx=decide (0<n):=rfl
def ano(n:Int)(wx:Bool):nH 6 n wx=decide (0<=n):=rfl
section
def I{p:Prop}(h:p):Hid p:=h
def jC{k:IntKind}{a b:Int}(h:a=b):Ending.returned (.int k a)=.returned (.int k b):=by rw[h]
def iW{a b:Bool}(h:a=b):Ending.returned a=.returned b:=by rw[h]
def yA(s:ByteArray):s.toList.length=s.size:=by rw[Dk];simp
def MI{s t:ByteArray}(h:s.toList=t.toList):s=t:=by
 rw[Dk,Dk]at h;obtain⟨⟨x⟩⟩:=s;obtain⟨⟨y⟩⟩:=t;simp at h;rw[h]
def Wn{a b:Int}(h:(a !=b)=false):a=b:=by simpa using h
def abU(aa:Below W.heap.size W w1):(∀b o,b<W.heap.size->w1.cell? ⟨b,o,none⟩=W.cell? ⟨b,o,none⟩)/\(∀b o,b<W.heap.size->w1.frozen? ⟨b,o,none⟩=W.frozen? ⟨b,o,none⟩):=
 ⟨λb o h=>aa.cell (p:=(b,o)) h,λb o h=>aa.frozen (p:=(b,o)) h⟩
def Z(w w':World):Prop:=Below w.heap.size w w'
def Z.refl(w:aC):Z w w:=Below.refl _ _
def Z.trans{a b c:aC}(h:Z a b)(k:Z b c):Z a c:=Below.trans h (Below.mono k h.size)
def Z.alloc{a b:aC}(h:Z a b)(o:Obj):Z a (b.alloc o):=Below.alloc h h.size o
def Z.drewN{a b:aC}(h:Z a b)(n:Nat):Z a (b.drewN n):=below_drewN h n
def Z.drew{a b:aC}(h:Z a b):Z a b.drew:=Below.drew h
def Z.setCell{a b:aC}(h:Z a b){p:Addr}(aV:a.heap.size<=p.block)(u:Value):Z a (b.setCell p u):=Below.setCell h aV u
def Z.grown{a w w':aC}{row:Option Nat}(h:Z a w)(bu:w.grownBy w' row)(ax:∀k,row=some k->a.heap.size<=k):Z a w':=Below.grown h bu h.size ax
def Z.cell(aa:Z W w1):∀b o,b<W.heap.size->w1.cell? ⟨b,o,none⟩=W.cell? ⟨b,o,none⟩:=(abU aa).1
def Z.frozen(aa:Z W w1):∀b o,b<W.heap.size->w1.frozen? ⟨b,o,none⟩=W.frozen? ⟨b,o,none⟩:=(abU aa).2
def Z.size(aa:Z W w1):(W:Nat)<=(w1:Nat):=Below.size aa
def Z.block(aa:Z W w1):∀b,b<(W:Nat)->w1.heap[b]? =W.heap[b]? :=Below.block aa
def Dl{w:aC}{a:Addr}{v:Value}(h:w.cell? a=some v):a.block<(w:Nat):=by
 rcases zz a.block (w:Nat)with sV|sV
 ·exact sV
 ·unfold World.cell? at h;rw[Array.getElem?_eq_none sV]at h;cases h
def Z.ah(aa:Z W w1){a:Addr}{v:Value}(h:W.cell? a=some v):w1.cell? a=some v:=by
 rw[Below.cell aa (Dl h)];exact h
def r9(w:World)(b o:Nat)(cs:List Value):Prop:=∀j v,cs[j]?=some v->w.cell? ⟨b,o+j,none⟩=some v
structure a1 {α:Type} (w:World) (sz:Nat) (c:α->List Value) (a:Option Addr) (n cap:Nat) (xs:List α):Prop where
 neq:n=xs.length
 len:n<=cap
 max:cap<=maxLen
 none:a=.none->cap=0
 bH:∀x,(c x).length=sz
 at_:∀k x,xs[k]?=some x->∃b o,a=some ⟨b,o,.none⟩/\r9 w b (o+k*sz) (c x)
section
variable {α:Type}{w w':World}{sz:Nat}{c:α->List Value}{a:Option Addr}{n cap:Nat}{xs:List α}
def a1.ext(h:a1 w sz c a n cap xs)(U:Z w w'):a1 w' sz c a n cap xs:=
 ⟨h.neq,h.len,h.max,h.none,h.bH,λk x hk=>let ⟨b,o,aj,ao⟩:=h.at_ k x hk;⟨b,o,aj,λj v aJ=>U.ah (ao j v aJ)⟩⟩
def a1.nil(w:aC)(hw:∀x,(c x).length=sz):a1 w sz c .none 0 0 ([]:List α):=
 ⟨rfl,bA _,hX _,λ_=>rfl,hw,λk x hk=>by cases hk⟩
def a1.get(h:a1 w sz c a n cap xs)(k:Nat)(hk:k<xs.length):∃b o,a=some ⟨b,o,.none⟩/\r9 w b (o+k*sz) (c xs[k]):=h.at_ k _ (fz hk)
end
def Dm{α:Type}{p:α->Bool}{xs:List α}(hk:k<xs.length)(h:(xs.take k).any p=false)(he:p xs[k]=false):(xs.take (k+1)).any p=false:=by
 rw[iX hk,List.any_append,h];simp[he]
def Wo{α:Type}{p:α->Bool}{xs:List α}(hk:k<xs.length)(he:p xs[k]=true):true=xs.any p:=
 (Az.2 ⟨xs[k],c7 hk,he⟩).symm
def JR{α:Type}{p:α->Bool}{xs:List α}(h:(xs.take k).any p=false)(hk:¬k<xs.length):false=xs.any p:=by
 rw[ir J]at h;exact h.symm
def qz{α:Type}(p:α->Bool)(xs:List α):Int:=match xs.findIdx? p with|some k=>(k:Int)|none=>-1
def MJ{α:Type}{p:α->Bool}{xs:List α}(hk:k<xs.length)(h:(xs.take k).any p=false)(he:p xs[k]=true):(k:Int)=qz p xs:=by
 have:xs.findIdx? p=some k:=by
  rw[List.findIdx?_eq_some_iff_getElem];refine⟨hk,he,λj aJ=>?_⟩;rw[JS]at h;have:=h xs[j] (List.mem_take_iff_getElem.2 ⟨j,J,rfl⟩);simpa using this
 unfold qz;rw[this]
def JT{α:Type}{p:α->Bool}{xs:List α}(h:false=xs.any p):-1=qz p xs:=by
 have:xs.findIdx? p=none:=by
  rw[Re];intro x U;have:=JS.1 h.symm x U;simpa using this
 unfold qz;rw[this]
def Wp{α:Type}(p:α->Bool)(xs:List α):decide (0<=qz p xs)=xs.any p:=by
 cases h:xs.any p with
 |false=>rw[<-JT h.symm];rfl
 |true=>
  unfold qz;cases e:xs.findIdx? p with
  |none=>
   rw[Re]at e;obtain⟨x,U,aV⟩:=Az.1 h;rw[e x U]at aV;cases aV
  |some k=>simp
def X{w w':aC}(h:Z w w':=by repeat (first|exact Z.refl _|refine Z.alloc ?_ _|refine Z.drewN ?_ _|refine Z.drew ?_|refine Z.trans ?_ (Hid.out (by assumption)))):Z w w':=h
def qA{f:FuncId}{a:Array Value}{w:aC}{v:Value}{K:Ending->aC->Prop}(c:Calls P f a w λe w'=>e=.returned v/\Z w w')(k:∀w',Hid (Z w w')->K (.returned v) w'):Calls P f a w K:=c.mono λe w' h=>h.1▸k w' h.2
abbrev cM(v:Value)(w:World)(e:Ending)(w':World):Prop:=e=.returned v/\Z w w'
end
section
structure Own {α:Type} (w:World) (base:Nat) (e:TypeId) (sz:Nat) (c:α->List Value) (aw:Option Addr) (n cap:Nat) (ys:List α):Prop where
 row:w.ownsRow base e sz (.slice aw n cap) n (ys.flatMap c)
 neq:n=ys.length
 bH:∀y,(c y).length=sz
section
variable {α:Type}{w w':World}{base:Nat}{e:TypeId}{sz:Nat}{c:α->List Value}{aw:Option Addr}{n cap:Nat}{ys:List α}
def Own.nil(w:aC)(base:Nat)(e:TypeId)(hw:∀y,(c y).length=sz):Own w base e sz c .none 0 0 ([]:List α):=
 ⟨World.ownsRow_nil _ _ _ _,rfl,hw⟩
def Own.lt(h:Own w base e sz c aw n cap ys):∀ai,aw=some ai->base<=ai.block/\ai.block<(w:Nat):=λai aj=>by
 subst aj;exact h.row.lt ai.block rfl
def Own.ah(h:Own w base e sz c aw n cap ys)(aa:∀ai,aw=some ai->w'.heap[ai.block]? =w.heap[ai.block]?):Own w' base e sz c aw n cap ys:=by
 refine⟨⟨h.row.1,?_⟩,h.neq,h.bH⟩;rcases h.row.2 with an|⟨g,aQ,cur,bo,jH,AA,rest⟩
 ·exact .inl an
 ·refine .inr ⟨g,aQ,cur,bo,jH,?_,rest⟩;simp only[Value.slice.injEq]at bo;obtain⟨rfl,_,_⟩:=bo;rw[aa _ rfl];exact AA
def Own.ext(h:Own w base e sz c aw n cap ys)(U:Z w w'):Own w' base e sz c aw n cap ys:=
 h.ah λai aj=>U.block _ (h.lt ai aj).2
def Rf{c:α->List Value}{sz:Nat}(hw:∀y,(c y).length=sz):∀(ys:List α) (k:Nat) (y:α),ys[k]?=some y->∀j v,(c y)[j]?=some v->(ys.flatMap c)[k*sz+j]?=some v
 | [],_,_,h=>by simp at h
 |x::ys,0,y,h=>by
  intro j v aJ
  simp only[Rg,Option.some.injEq]at h
  subst h
  rw[nI,Nat.zero_mul,om,Hp (vv.1 aJ).1];exact aJ
 |x::ys,k+1,y,h=>by
  intro j v aJ
  rw[Hq]at h
  rw[nI,JU (by rw[hw,Hr];omega),hw,show(k+1)*sz+j - sz=k*sz+j from by rw[Hr];omega]
  exact Rf hw ys k y h j v aJ
def Own.aF(h:Own w base e sz c aw n cap ys):a1 w sz c aw n cap ys:=by
 have an:=h.neq;rcases h.row.2 with ⟨bo,aW⟩|⟨g,aQ,cur,bo,jH,AA,hle,vw,sb,Dn⟩
 ·simp only[Value.slice.injEq]at bo;obtain⟨rfl,rfl,rfl⟩:=bo;obtain rfl:ys= []:=xj J;exact a1.nil _ h.bH
 ·simp only[Value.slice.injEq]at bo;obtain⟨rfl,_,rfl⟩:=bo;refine⟨an,hle,vw,(λh=>by cases h),h.bH,λk y hk=>⟨g,0,rfl,λj v aJ=>?_⟩⟩;have:=h.row.cells (g:=g) rfl _ v (Rf h.bH ys k y hk j v aJ);rw[show((g,0):Addr).add (k*sz+j)=(g,0+k*sz+j)from by unfold Addr.add;split<;>simp_all]at this;exact this
structure lH (w w':World) (aw:Option Addr) (g:Nat):Prop where
 os:w'.os=w.os
 tape:w'.tape=w.tape
 output:w'.output=w.output
 size:w.heap.size<=w'.heap.size
 block:∀b,b<w.heap.size->(∀ai,aw=some ai->ai.block≠b)->w'.heap[b]? =w.heap[b]?
 at_:(∃ai,aw=some ai/\ai.block=g)\/g=w.heap.size
def lH.ext(h:lH w w' aw g)(aE:Own w base e sz c aw n cap ys)(fa:(W:Nat)<=base)(U:Z W w):Z W w':=
 Below.trans U ⟨h.os,h.tape,h.output,h.size,λk hk=>h.block k Rh (λai aj=>by have:=(aE.lt ai aj).1;omega)⟩
def oo(aw cK:Option Addr):Prop:=∀x y,aw=some x->cK=some y->x.block≠y.block
def oo.symm{aw:bk}(h:oo aw cK):oo cK aw:=λx y U hy e=>h y x hy U e.symm
def oo.nil(cK:bk):oo .none cK:=λ_ _ h=>by cases h
def lH.bI(h:lH w w' aw g)(aE:Own w base e sz c cK n cap ys)(aD:oo aw cK):Own w' base e sz c cK n cap ys:=
 aE.ah λai aj=>h.block _ (aE.lt ai aj).2 (λx U=>aD x ai U aj)
def lH.gK(h:lH w w' aw g)(aE:Own w base e sz c cK n cap ys)(aD:oo aw cK):oo (some ⟨g,0,.none⟩) cK:=λx y U hy=>by
 cases U;rcases h.at_ with ⟨ai,aj,bu⟩|bu
 ·show g≠y.block;rw[<-bu];exact aD ai y aj hy
 ·show g≠y.block;have:=(aE.lt y hy).2;omega
def lH.cell(h:lH w w' aw g){v:Value}(ao:w.cell? ⟨b,o,.none⟩=some v)(di:∀ai,aw=some ai->ai.block≠b):w'.cell? ⟨b,o,.none⟩=some v:=by
 rw[JV (h.block b (Dl ao) di)];exact ao
def hf{ops:Array Oper}{rest:List Oper}{o:Oper}{a:Act}(np:o.guard=none)(s x:Operand)(t:TypeId)(aK:o.op=.call {callee:=.builtin .append,args:=#[s,x],argTypes:=#[t,t]})(i:TypeInfo)(z:Value)(bytes:Nat)(a6:P.underlying t=some (.slice e))(aO:P.info? e=some i)(bf:i.zero=some z)(yB:i.size=sz)(wy:i.bytes=bytes)(yC:z.cells.size=sz)(fS:0<sz)(hs:a.eval s=.slice aw n cap)(aE:Own w base e sz c aw n cap ys)(y:α)(H:Nat)(U:a.eval x=.slice (some ⟨H,0,.none⟩) 1 1)(Wq:∀j u,(c y)[j]?=some u->w.cell? ⟨H,j,.none⟩=some u)(ae:∀u∈c y,u.oneCell'=true)(an:(n+1)*bytes<=140737488355328)(j4:0<bytes)(BX:base<=(w:Nat))(h:∀g dL w',Own w' base e sz c (some ⟨g,0,.none⟩) (n+1) dL (ys++[y])->lH w w' aw g->
   wpList P ops Q rest (a.put o.dst (.slice (some ⟨g,0,.none⟩) ((n+1:Nat):Nat) dL)) w'):wpList P ops Q (o::rest) a w:=by
 have Dp:∀j,(⟨H,0,.none⟩:Addr).add j=⟨H,j,.none⟩:=λj=>by unfold Addr.add;split<;>simp_all
 refine wpList_append_lies w np s x t aK base e i z sz bytes a6 aO bf yB wy yC fS (aq aw n cap) n (ys.flatMap c) hs aE.row ⟨H,0,.none⟩ 1 1 (c y) U (by rw[aE.bH];omega)
  (λj u aJ=>by rw[Dp];exact Wq j u aJ) ae J ?_ an BX _ rfl ?_
 exact abV
 ·intro g dL w' o6 bW jR _
  refine h g dL w' ⟨by rw[xk,MK];exact o6,by rw[cH,<-aE.neq];rfl,aE.bH⟩
   ⟨bW.os,bW.tape,bW.output,bW.size,λb aa di=>bW.block b aa (λe=>?_),?_⟩
  exact Ri;exact Rj
end
def fc{H:Nat}{cs:List Value}(hH:H=(W:Nat)):∀j u,cs[j]?=some u->(W.alloc (.cells cs.toArray t)).cell? ⟨H,j,.none⟩=some u:=by
 intro j u h;subst hH;rw[World.cell?_alloc_mark];simpa using h
def Dq{α:Type}(sz:Nat)(c:α->List Value)(xs:List α)(w:World)(e:Ending)(w':World):Prop:=
 ∃aw n cap,e=.returned (.slice aw n cap)/\a1 w' sz c aw n cap xs/\Z w w'
def Dq.mk{α:Type}{sz:Nat}{c:α->List Value}{xs ys:List α}{w w':aC}{aw:bk}{n cap base:Nat}{e:TypeId}(h:Own w' base e sz c aw n cap xs)(U:Z w w')(hy:xs=ys):
  Dq sz c ys w (.returned (aq aw n cap)) w':=by subst hy;exact⟨aw,n,cap,rfl,h.aF,U⟩
end
def Rk(a b:Int)(w:aC):
  aR 333 #[a,b] w λe w'=>e=.returned (.int .i64 (nn a b))/\w=w':=by
 go_enter func333,ntmps333;exact abW
def Rl(a b:Int)(w:aC):
  aR 334 #[a,b] w λe w'=>e=.returned (.int .i64 (nn a b))/\w=w':=by
 go_enter func334,ntmps334;exact abW
def Rm(a b:ByteArray)(w:aC):
  aR 335 #[a,b] w λe w'=>e=.returned (.int .i64 (JQ a.toList b.toList))/\w=w':=by
 have ae:=ana a.toList b.toList;have ak:=abS a.toList b.toList;have aM:=Wm b.toList;unfold pD at ae ak aM;have H1:Hid _:=ae;have dZ:Hid _:=ak;have fK:Hid _:=aM;clear ae ak aM;go_enter func335,ntmps335;go_wp2
 all_goals
  go_ret
  refine⟨jC ?_,rfl⟩
  unfold JQ pD
  replace H1:=H1.out
  replace dZ:=dZ.out
  replace fK:=fK.out
  simp_all
def FB(k n:Int)(s:ByteArray)(w:aC):
  aR 245 #[.agg #[k,n,s]] w (cM (.int .i64 (wv k n s.toList)) w):=by
 go_enter func245,ntmps245;go_wp2;all_goals (go_ret;refine⟨jC ?_,(Z.refl _).alloc _⟩;unfold wv;rw[yA];simp_all<;>omega)
def FC(k n:Int)(s:ByteArray)(lV gE:Int)(s':ByteArray)(w:aC):
  aR 317 #[.agg #[k,n,s],.agg #[lV,gE,s']] w λe w'=>
   e=.returned (.int .i64 (oj k n s.toList lV gE s'.toList))/\Z w w':=by
 go_enter func317,ntmps317;go_wp2_with fail;go_step3;go_wp2_with fail;go_step3;go_wp2_with fail
 go_loopg [5,6,7] 3 (λg at_ st i wr=>∃j:Nat,g+j=3/\i=.int .i64 j/\at_=.int .i64 0/\(1<=j->nn k lV=0)/\(2<=j->nn n gE=0)/\(3<=j->JQ s.toList s'.toList=0)/\wr=(w.alloc (.cells #[.int IntKind.i64 k,.int IntKind.i64 n,s] 74)).alloc
 (.cells #[.int IntKind.i64 lV,.int IntKind.i64 gE,s'] 74))
 case atStart=>exact⟨0,rfl,rfl,rfl,J,J,J,rfl⟩
 case round=>
  obtain⟨j,_,rfl,rfl,ae,ak,aM,rfl⟩:=hrel;have H:=I (And.intro ae (And.intro ak aM));clear ae ak aM;have aJ:j=0\/j=1\/j=2\/j=3:=J
  have B:Z w ((w.alloc (.cells #[.int IntKind.i64 k,.int IntKind.i64 n,s] 74)).alloc
   (.cells #[.int IntKind.i64 lV,.int IntKind.i64 gE,s'] 74)):=((Z.refl _).alloc _).alloc _
  rcases aJ with rfl|rfl|rfl|rfl
  ·go_wp2_with (first|(go_at_call 333;refine(Rk _ _ _).mono ?_;rintro e w'⟨rfl,rfl⟩)|(go_at_call 334;refine(Rl _ _ _).mono ?_;rintro e w'⟨rfl,rfl⟩)|(go_at_call 335;refine(Rm _ _ _).mono ?_;rintro e w'⟨rfl,rfl⟩))
   ·rw[nJ];go_wp2;go_ret;exact⟨jC (anb ‹_›),B⟩
   ·have e:nn k lV=0:=Wn ‹_›;go_roundg 2;case measure=>omega
    case rel=>exact⟨1,J,by go_num,by rw[e],λ_=>e,J,J,rfl⟩
  ·go_wp2_with (first|(go_at_call 333;refine(Rk _ _ _).mono ?_;rintro e w'⟨rfl,rfl⟩)|(go_at_call 334;refine(Rl _ _ _).mono ?_;rintro e w'⟨rfl,rfl⟩)|(go_at_call 335;refine(Rm _ _ _).mono ?_;rintro e w'⟨rfl,rfl⟩))
   ·rw[nJ];go_wp2;go_ret;exact⟨jC (anc (H.out.1 J) ‹_›),B⟩
   ·have e:nn n gE=0:=Wn ‹_›;go_roundg 1;case measure=>omega
    case rel=>exact⟨2,J,by go_num,by rw[e],λ_=>H.out.1 J,λ_=>e,J,rfl⟩
  ·go_wp2_with (first|(go_at_call 333;refine(Rk _ _ _).mono ?_;rintro e w'⟨rfl,rfl⟩)|(go_at_call 334;refine(Rl _ _ _).mono ?_;rintro e w'⟨rfl,rfl⟩)|(go_at_call 335;refine(Rm _ _ _).mono ?_;rintro e w'⟨rfl,rfl⟩))
   ·rw[nJ];go_wp2;go_ret;exact⟨jC (abT (H.out.1 J) (H.out.2.1 J)),B⟩
   ·have e:JQ s.toList s'.toList=0:=Wn ‹_›;go_roundg 0;case measure=>omega
    case rel=>exact⟨3,J,by go_num,by rw[e],λ_=>H.out.1 J,λ_=>H.out.2.1 J,λ_=>e,rfl⟩
  ·go_wp2_with (first|(go_at_call 333;refine(Rk _ _ _).mono ?_;rintro e w'⟨rfl,rfl⟩)|(go_at_call 334;refine(Rl _ _ _).mono ?_;rintro e w'⟨rfl,rfl⟩)|(go_at_call 335;refine(Rm _ _ _).mono ?_;rintro e w'⟨rfl,rfl⟩));rw[nJ];go_wp2;go_ret;exact⟨jC (by rw[<-abT (H.out.1 J) (H.out.2.1 J),H.out.2.2 J]),B⟩
def anp(n:Int)(w:aC):
  aR 27 #[n] w (cM (.agg #[bh 1,n,.string ⟨#[]⟩]) w):=by
 go_enter func27,ntmps27;go_wp2;exact bodyPost_ret (v:=.agg #[bh 1,n,.string ⟨#[]⟩]) (by simp[results,results27,go_sem]) rfl ⟨rfl,(Z.refl _).alloc _⟩
def anq(s t:ByteArray):((s.extract 0 t.size).toList==t.toList)=t.toList.isPrefixOf s.toList:=by
 rw[<-ane,yA,Lib.extract_toList,Dk,Dk];simp
def anr(s t:ByteArray)(w:aC):
  aR 350 #[s,t] w λe w'=>e=.returned (.bool (t.toList.isPrefixOf s.toList))/\w=w':=by
 by_cases h:t.size<=s.size
 ·have H:=I (anq s t);exact abX
 ·have H:=I (anf s.toList t.toList (by rw[yA,yA];exact h));exact abX
def ans(s t:ByteArray)(w:aC):
  aR 336 #[s,t] w λe w'=>e=.returned (.bool (t.toList.isPrefixOf s.toList))/\w=w':=by
 go_enter func336,ntmps336;go_wp2_with (go_at_call 350;refine(anr _ _ _).mono ?_;rintro e w'⟨rfl,rfl⟩);go_ret;exact⟨rfl,rfl⟩
def abY(k n:Int)(s:ByteArray)(lV gE:Int)(s':ByteArray)(w:aC):
  aR 325 #[.agg #[k,n,s],.agg #[lV,gE,s']] w λe w'=>
   e=.returned (.bool (BU k s.toList lV s'.toList))/\Z w w':=by
 go_enter func325,ntmps325;go_wp2_with (go_at_call 336;refine(ans _ _ _).mono ?_;rintro e w'⟨rfl,rfl⟩);all_goals (go_ret;refine⟨iW ?_,((Z.refl _).alloc _).alloc _⟩)
 ·subst_vars;exact ani
 ·exact anh ‹_›
 ·exact ang ‹_›
structure T where
 nm:ByteArray
 op:Int
 k:Int
 n:Int
 s:ByteArray
def T.cs(t:T):List Value:= [.string t.nm,.int .i64 t.op,.int .i64 t.k,.int .i64 t.n,.string t.s]
structure cd where
 nm:ByteArray
 k:Int
 n:Int
 s:ByteArray
def cd.cs(t:cd):List Value:= [.string t.nm,.int .i64 t.k,.int .i64 t.n,.string t.s]
def abZ{x:T}(h:r9 w b o x.cs):
  w.cell? (b,o)=some ↑x.nm/\w.cell? (b,o+1)=some ↑x.op/\w.cell? (b,o+2)=some ↑x.k/\w.cell? (b,o+3)=some ↑x.n/\w.cell? (b,o+4)=some ↑x.s:=
 ⟨h 0 _ rfl,h 1 _ rfl,h 2 _ rfl,h 3 _ rfl,h 4 _ rfl⟩
def Rn{x:cd}(h:r9 w b o x.cs):
  w.cell? (b,o)=some ↑x.nm/\w.cell? (b,o+1)=some ↑x.k/\w.cell? (b,o+2)=some ↑x.n/\w.cell? (b,o+3)=some ↑x.s:=
 ⟨h 0 _ rfl,h 1 _ rfl,h 2 _ rfl,h 3 _ rfl⟩
def T.bH(t:T):t.cs.length=5:=rfl
def cd.bH(t:cd):t.cs.length=4:=rfl
def T.cN(t:T):∀u∈t.cs,u.oneCell'=true:=by
 intro u al;simp only[T.cs,nK,sW,tJ]at al;rcases al with rfl|rfl|rfl|rfl|rfl<;>rfl
def cd.cN(t:cd):∀u∈t.cs,u.oneCell'=true:=by
 intro u al;simp only[cd.cs,nK,sW,tJ]at al;rcases al with rfl|rfl|rfl|rfl<;>rfl
def T.v(t:T):vu:=⟨t.k,t.n,t.s.toList⟩
def T.ts(t:T):Rc:=⟨t.nm.toList,t.op,t.v⟩
def cd.v(t:cd):vu:=⟨t.k,t.n,t.s.toList⟩
def Z.aB(h:Z W w){o:Obj}(aa:W.heap[b]?=some o):w.heap[b]?=some o:=(h.block _ (lt_of_block aa)).trans aa
def fi{o:Obj}(h:n=(w:Nat)):(w.alloc o).heap[n]?=some o:=by subst h;exact heap_alloc_new _ _
def ab0{o:Obj}{r:Option Obj}(h:n<(w:Nat))(k:w.heap[n]? =r):(w.alloc o).heap[n]? =r:=by rw[Below.heap_alloc _ _ _ h];exact k
def aI{cs:Array Value}{v:Value}(h:w.heap[b]?=some (.cells cs t fr))(bo:cs[o]?=some v):w.cell? (b,o)=some v:=by
 simp only[World.cell?,h];simpa using bo
def Own.mono{c:α->List Value}{ys:List α}(h:Own w base e sz c aw n cap ys)(aa:aDn<=base):Own w aDn e sz c aw n cap ys:=by
 refine⟨⟨h.row.1,?_⟩,h.neq,h.bH⟩;rcases h.row.2 with an|⟨g,aQ,cur,bo,jH,rest⟩
 ·exact .inl an
 ·exact .inr ⟨g,aQ,cur,bo,eh aa jH,rest⟩
def Own.jD{c:α->List Value}{ys:List α}(h:Own w base e sz c aw n cap ys){p:Addr}(aV:p.block<base)(u:Value):Own (w.setCell p u) base e sz c aw n cap ys:=
 h.ah λai aj=>Below.heap_setCell w p u _ (by have:=(h.lt ai aj).1;omega)
def Own.gQ{uH:TypeId}{Ro:Nat}{c:α->List Value}{qB:β->List Value}{gE dL:Nat}{ys:List α}{cq:List β}(h:Own w base e sz c aw n cap ys)(k:Own w aDn uH Ro qB cK gE dL cq)(di:e≠uH):oo aw cK:=by
 intro x y U hy he;subst U;subst hy;rcases h.row.2 with ⟨bo,_⟩|⟨g,aQ,cur,bo,_,bu,_⟩
 ·cases bo
 rcases k.row.2 with ⟨FD,_⟩|⟨FE,yD,aDo,FD,_,Dr,_⟩
 ·cases FD
 simp only[Value.slice.injEq,Option.some.injEq]at bo FD;obtain⟨rfl,_⟩:=bo;obtain⟨rfl,_⟩:=FD;simp only at he;rw[he,Dr]at bu;injection bu with bu;injection bu with _ a6;exact di a6.symm
def lH.AB{uH:TypeId}{Ro:Nat}{c:α->List Value}{qB:β->List Value}{gE dL:Nat}{ys:List α}{cq:List β}(bu:lH w w' aw g)(h:Own w base e sz c aw n cap ys)(k:Own w aDn uH Ro qB cK gE dL cq)(di:e≠uH):Own w' aDn uH Ro qB cK gE dL cq:=bu.bI k (h.gQ k di)
def iE{l:List Value}(h:w.heap[b]?=some (.cells (List.toArray (iF::iu::gR::l)) t fr)):w.cell? (b,0)=some iF/\w.cell? (b,1)=some iu/\w.cell? (b,2)=some gR:=⟨aI h rfl,aI h rfl,aI h rfl⟩
def vx{l:List Value}(h:w.heap[b]?=some (.cells (List.toArray (iF::iu::gR::ji::l)) t fr)):w.cell? (b,0)=some iF/\w.cell? (b,1)=some iu/\w.cell? (b,2)=some gR/\w.cell? (b,3)=some ji:=⟨aI h rfl,aI h rfl,aI h rfl,aI h rfl⟩
def ant{l:List Value}(h:w.heap[b]?=some (.cells (List.toArray (iF::iu::gR::ji::k0::l)) t fr)):w.cell? (b,0)=some iF/\w.cell? (b,1)=some iu/\w.cell? (b,2)=some gR/\w.cell? (b,3)=some ji/\w.cell? (b,4)=some k0:=⟨aI h rfl,aI h rfl,aI h rfl,aI h rfl,aI h rfl⟩
def Rp{l:List Value}(h:w.heap[b]?=some (.cells (List.toArray (iF::iu::gR::ji::k0::oq::l)) t fr)):w.cell? (b,0)=some iF/\w.cell? (b,1)=some iu/\w.cell? (b,2)=some gR/\w.cell? (b,3)=some ji/\w.cell? (b,4)=some k0/\w.cell? (b,5)=some oq:=⟨aI h rfl,aI h rfl,aI h rfl,aI h rfl,aI h rfl,aI h rfl⟩
def lI{l:List Value}(h:w.heap[b]?=some (.cells (List.toArray (iF::iu::gR::ji::k0::oq::o7::sc::l)) t fr)):w.cell? (b,0)=some iF/\w.cell? (b,1)=some iu/\w.cell? (b,2)=some gR/\w.cell? (b,3)=some ji/\w.cell? (b,4)=some k0/\w.cell? (b,5)=some oq/\w.cell? (b,6)=some o7/\w.cell? (b,7)=some sc:=⟨aI h rfl,aI h rfl,aI h rfl,aI h rfl,aI h rfl,aI h rfl,aI h rfl,aI h rfl⟩
def vy{l:List Value}(h:w.heap[b]?=some (.cells (List.toArray (iF::iu::gR::ji::k0::oq::o7::sc::xl::l)) t fr)):w.cell? (b,0)=some iF/\w.cell? (b,1)=some iu/\w.cell? (b,2)=some gR/\w.cell? (b,3)=some ji/\w.cell? (b,4)=some k0/\w.cell? (b,5)=some oq/\w.cell? (b,6)=some o7/\w.cell? (b,7)=some sc/\w.cell? (b,8)=some xl:=⟨aI h rfl,aI h rfl,aI h rfl,aI h rfl,aI h rfl,aI h rfl,aI h rfl,aI h rfl,aI h rfl⟩
def ML{BY BZ B0 FF:Value}{l:List Value}(h:w.heap[b]?=some (.cells (List.toArray (iF::iu::gR::ji::k0::oq::o7::sc::xl::BY::BZ::B0::FF::l)) t fr)):w.cell? (b,0)=some iF/\w.cell? (b,1)=some iu/\w.cell? (b,2)=some gR/\w.cell? (b,3)=some ji/\w.cell? (b,4)=some k0/\w.cell? (b,5)=some oq/\w.cell? (b,6)=some o7/\w.cell? (b,7)=some sc/\w.cell? (b,8)=some xl/\w.cell? (b,9)=some BY/\w.cell? (b,10)=some BZ/\w.cell? (b,11)=some B0/\w.cell? (b,12)=some FF:=⟨aI h rfl,aI h rfl,aI h rfl,aI h rfl,aI h rfl,aI h rfl,aI h rfl,aI h rfl,aI h rfl,aI h rfl,aI h rfl,aI h rfl,aI h rfl⟩
def anu{BY BZ B0 FF MM:Value}{l:List Value}(h:w.heap[b]?=some (.cells (List.toArray (iF::iu::gR::ji::k0::oq::o7::sc::xl::BY::BZ::B0::FF::MM::l)) t fr)):w.cell? (b,0)=some iF/\w.cell? (b,1)=some iu/\w.cell? (b,2)=some gR/\w.cell? (b,3)=some ji/\w.cell? (b,4)=some k0/\w.cell? (b,5)=some oq/\w.cell? (b,6)=some o7/\w.cell? (b,7)=some sc/\w.cell? (b,8)=some xl/\w.cell? (b,9)=some BY/\w.cell? (b,10)=some BZ/\w.cell? (b,11)=some B0/\w.cell? (b,12)=some FF/\w.cell? (b,13)=some MM:=⟨aI h rfl,aI h rfl,aI h rfl,aI h rfl,aI h rfl,aI h rfl,aI h rfl,aI h rfl,aI h rfl,aI h rfl,aI h rfl,aI h rfl,aI h rfl,aI h rfl⟩
def anv(W:aC)(o ks:Obj):({(W.alloc o)with heap:=(W.alloc o).heap.setIfInBounds W ks}:aC)=W.alloc ks:=by
 have h:(W.heap.push o).setIfInBounds W ks=W.heap.push ks:=by
  apply Array.ext_getElem?;intro i;rw[Wr,Rq,Rq];by_cases h:(W:Nat)=i
  ·subst h;simp
  ·rw[bj h];simp[Ne.symm h]
 show({heap:=(W.heap.push o).setIfInBounds W ks,tape:=W.tape,drawn:=W.drawn,os:=W.os,output:=W.output}:aC)={heap:=W.heap.push ks,tape:=W.tape,drawn:=W.drawn,os:=W.os,output:=W.output};rw[h]
def wz(a6:P.underlying t=some (.map FG e))(hk:P.underlying FG=some (.int .i64))(W:aC)(b:Nat)(fa:b=(W:Nat))(aS:Array MapEntry)(c:Nat)(k:Int)(v:Value)(bc:Instr.findNow (.int .i64) k aS.toList 0=some none):
  (Instr.mapUpdate t (.map (some b)) k v).run P (W.alloc (.map aS c))=.ok () (W.alloc (.map (aS.push {key:=.int .i64 k,val:=v,born:=c}) (c+1))):=by
 subst fa;have aa:(W.alloc (.map aS c)).heap[(W:Nat)]?=some (.map aS c):=(MapKept.heap_alloc W _).1;simp[Instr.mapUpdate,Rr a6,MapKept.run_getObj_map aa,MapKept.run_checkKey hk (k:=.int .i64 k) rfl,MapKept.run_findKey hk bc,MapKept.run_setObj_map _ aa,Result.andThen];exact anv _ _ _
def nr(a6:P.underlying t=some (.map FG e))(hk:P.underlying FG=some (.int .i64)){aS:Array MapEntry}{c:Nat}(aa:W.heap[b]?=some (.map aS c))(k:Int){r:Nat×Value}(bc:Instr.findNow (.int .i64) k aS.toList 0=some (some r)):
  (Instr.lookup t (.map (some b)) k true).run P W=.ok (.tuple #[r.2,.bool true]) W:=by
 simp[Instr.lookup,Rr a6,MapKept.run_getObj_map aa,MapKept.run_checkKey hk (k:=.int .i64 k) rfl,MapKept.run_findKey hk bc,Result.andThen]
def anw(a6:P.underlying t=some (.map FG e))(hk:P.underlying FG=some (.int .i64)){aS:Array MapEntry}{c:Nat}(aa:W.heap[b]?=some (.map aS c))(k:Int)(bc:Instr.findNow (.int .i64) k aS.toList 0=some none){z:Value}(bf:(zeroValue e).run P W=.ok z W):
  (Instr.lookup t (.map (some b)) k true).run P W=.ok (.tuple #[z,.bool false]) W:=by
 simp[Instr.lookup,Rr a6,MapKept.run_getObj_map aa,MapKept.run_checkKey hk (k:=.int .i64 k) rfl,MapKept.run_findKey hk bc,bf,Result.andThen]
def anx(n:Int)(b:Nat)(w:aC)(h:w.cell? (b,0)=some ↑n):
  aR 318 #[b] w (cM (.bool (nH 1 n false)) w):=by
 go_enter func318,ntmps318;go_wp2;go_ret;exact⟨iW (by rw[anj,vt];simp),Z.refl _⟩
def anz(n:Int)(b:Nat)(w:aC)(h:w.cell? (b,0)=some ↑n):
  aR 319 #[b] w (cM (.bool (nH 2 n false)) w):=by
 go_enter func319,ntmps319;go_wp2;go_ret;exact⟨iW (by rw[ank,vt];simp),Z.refl _⟩
def anA(n:Int)(b:Nat)(w:aC)(h:w.cell? (b,0)=some ↑n):
  aR 320 #[b] w (cM (.bool (nH 3 n false)) w):=by
 go_enter func320,ntmps320;go_wp2;go_ret;exact⟨iW (by rw[anl]),Z.refl _⟩
def anB(n:Int)(b:Nat)(w:aC)(h:w.cell? (b,0)=some ↑n):
  aR 321 #[b] w (cM (.bool (nH 4 n false)) w):=by
 go_enter func321,ntmps321;go_wp2;go_ret;exact⟨iW (by rw[anm]),Z.refl _⟩
def anC(n:Int)(b:Nat)(w:aC)(h:w.cell? (b,0)=some ↑n):
  aR 322 #[b] w (cM (.bool (nH 5 n false)) w):=by
 go_enter func322,ntmps322;go_wp2;go_ret;exact⟨iW (by rw[ann]),Z.refl _⟩
def anD(n:Int)(b:Nat)(w:aC)(h:w.cell? (b,0)=some ↑n):
  aR 323 #[b] w (cM (.bool (nH 6 n false)) w):=by
 go_enter func323,ntmps323;go_wp2;go_ret;exact⟨iW (by rw[ano]),Z.refl _⟩
def anE(k n:Int)(s:ByteArray)(t:T)(bv c8:Nat)(w:aC)(aW:w.cell? (bv,0)=some ↑k)(ae:w.cell? (bv,1)=some ↑n)(ak:w.cell? (bv,2)=some ↑s)(g2:w.cell? (c8,2)=some ↑t.k)(g3:w.cell? (c8,3)=some ↑t.n)(g4:w.cell? (c8,4)=some ↑t.s):
  aR 324 #[bv,c8] w (cM (.bool (BU k s.toList t.k t.s.toList)) w):=by
 go_enter func324,ntmps324;go_wp2_with (go_at_call 325;refine(abY _ _ _ _ _ _ _).mono ?_;rintro e w'⟨rfl,U⟩;change Hid _ at U);go_ret;refine⟨rfl,?_⟩;exact X
def anF(k:Int)(h:k<1\/7<k)(v0 v1 v2 v3 v4 v5 v6:Value):Instr.findNow (.int .i64) k [⟨.int .i64 1,v0,0⟩,⟨.int .i64 2,v1,1⟩,⟨.int .i64 3,v2,2⟩,⟨.int .i64 4,v3,3⟩,⟨.int .i64 5,v4,4⟩,⟨.int .i64 6,v5,5⟩,⟨.int .i64 7,v6,6⟩] 0=some none:=by
 have:∀j:Int,1<=j->j<=7->(k==j)=false:=λj ae ak=>by simp;omega
 simp[Instr.findNow,Instr.sameNow,this]
def anG{n:Int}{wx:Bool}(h:op<1\/7<op):nH op n wx=false:=by
 unfold nH;rw[bj J,bj J,bj J,bj J,bj J,bj J,bj J]
def anH(W:aC):(zeroValue 24).run prog W=.ok .nilFunc W:=bV
def anI{k n:Int}{s:ByteArray}{t:T}(fs:op≠8):Ho op t.v ⟨k,n,s.toList⟩=(decide (k=t.k)&&nH op (oj k n s.toList t.k t.n t.s.toList) (BU k s.toList t.k t.s.toList)):=by
 unfold Ho;rw[if_neg fs];rfl
def ab1(t:T)(k n:Int)(s:ByteArray)(w:aC):
  Calls prog 292 #[.agg #[t.nm,t.op,t.k,t.n,t.s],.agg #[k,n,s]] w λe w'=>e=.returned (.bool (Ho t.op t.v ⟨k,n,s.toList⟩))/\Z w w':=by
 have sd:=@run_makeMap prog;go_enter func292,ntmps292;go_wp2_with fail;refine(FC k n s t.k t.n t.s ((w.alloc (.cells #[t.nm,t.op,t.k,t.n,t.s] 154)).alloc (.cells #[k,n,s] 74))).mono ?_;rintro e w1⟨rfl,bw⟩;have BT:((w.alloc (.cells #[t.nm,t.op,t.k,t.n,t.s] 154)).alloc (.cells #[k,n,s] 74)).heap[(w:Nat)]?=some (.cells #[t.nm,t.op,t.k,t.n,t.s] 154):=hT;have tK:((w.alloc (.cells #[t.nm,t.op,t.k,t.n,t.s] 154)).alloc (.cells #[k,n,s] 74)).heap[(w:Nat)+1]?=some (.cells #[k,n,s] 74):=hT;have JW:=I (bw.aB BT);have MN:=I (bw.aB tK);have ft:(w:Nat)+1<(w1:Nat):=lt_of_block MN;have gg:(w:Nat)<(w1:Nat):=lt_of_block JW;change Hid _ at bw;clear BT tK;have ca:=fun(v:Value)=>wz (P:=prog) underlying227 underlying3 (w1.alloc (.cells #[bh (oj k n s.toList t.k t.n t.s.toList)] 3)) (w1.heap.size+1) (by simp) #[] 0 1 v rfl;have i1:=fun(v v0:Value)=>wz (P:=prog) underlying227 underlying3 (w1.alloc (.cells #[bh (oj k n s.toList t.k t.n t.s.toList)] 3)) (w1.heap.size+1) (by simp) #[⟨.int .i64 1,v0,0⟩] 1 2 v rfl;have ht:=fun(v v0 v1:Value)=>wz (P:=prog) underlying227 underlying3 (w1.alloc (.cells #[bh (oj k n s.toList t.k t.n t.s.toList)] 3)) (w1.heap.size+1) (by simp) #[⟨.int .i64 1,v0,0⟩,⟨.int .i64 2,v1,1⟩] 2 3 v rfl;have wA:=fun(v v0 v1 v2:Value)=>wz (P:=prog) underlying227 underlying3 (w1.alloc (.cells #[bh (oj k n s.toList t.k t.n t.s.toList)] 3)) (w1.heap.size+1) (by simp) #[⟨.int .i64 1,v0,0⟩,⟨.int .i64 2,v1,1⟩,⟨.int .i64 3,v2,2⟩] 3 4 v rfl;have AD:=fun(v v0 v1 v2 v3:Value)=>wz (P:=prog) underlying227 underlying3 (w1.alloc (.cells #[bh (oj k n s.toList t.k t.n t.s.toList)] 3)) (w1.heap.size+1) (by simp) #[⟨.int .i64 1,v0,0⟩,⟨.int .i64 2,v1,1⟩,⟨.int .i64 3,v2,2⟩,⟨.int .i64 4,v3,3⟩] 4 5 v rfl;have JX:=fun(v v0 v1 v2 v3 v4:Value)=>wz (P:=prog) underlying227 underlying3 (w1.alloc (.cells #[bh (oj k n s.toList t.k t.n t.s.toList)] 3)) (w1.heap.size+1) (by simp) #[⟨.int .i64 1,v0,0⟩,⟨.int .i64 2,v1,1⟩,⟨.int .i64 3,v2,2⟩,⟨.int .i64 4,v3,3⟩,⟨.int .i64 5,v4,4⟩] 5 6 v rfl;have Hs:=fun(v v0 v1 v2 v3 v4 v5:Value)=>wz (P:=prog) underlying227 underlying3 (w1.alloc (.cells #[bh (oj k n s.toList t.k t.n t.s.toList)] 3)) (w1.heap.size+1) (by simp) #[⟨.int .i64 1,v0,0⟩,⟨.int .i64 2,v1,1⟩,⟨.int .i64 3,v2,2⟩,⟨.int .i64 4,v3,3⟩,⟨.int .i64 5,v4,4⟩,⟨.int .i64 6,v5,5⟩] 6 7 v rfl;have t1:w1.cell? (w,1)=some ↑t.op:=aI JW rfl;have t2:w1.cell? (w,2)=some ↑t.k:=aI JW rfl;have v0:w1.cell? (w,1,0)=some ↑k:=aI MN rfl;go_upto_region 3 with fail;clear ca i1 ht wA AD JX Hs sd;have rB:((w1.alloc (.cells #[bh (oj k n s.toList t.k t.n t.s.toList)] 3)).alloc (Obj.map #[⟨.int .i64 1,(.func (.func 318) #[] #[w1]),0⟩,⟨.int .i64 2,(.func (.func 319) #[] #[w1]),1⟩,⟨.int .i64 3,(.func (.func 320) #[] #[w1]),2⟩,⟨.int .i64 4,(.func (.func 321) #[] #[w1]),3⟩,⟨.int .i64 5,(.func (.func 322) #[] #[w1]),4⟩,⟨.int .i64 6,(.func (.func 323) #[] #[w1]),5⟩,⟨.int .i64 7,(.func (.func 324) #[] #[.pointer (some (w,1,0)),w]),6⟩] 7)).heap[(w1:Nat)+1]?=some (Obj.map #[⟨.int .i64 1,(.func (.func 318) #[] #[w1]),0⟩,⟨.int .i64 2,(.func (.func 319) #[] #[w1]),1⟩,⟨.int .i64 3,(.func (.func 320) #[] #[w1]),2⟩,⟨.int .i64 4,(.func (.func 321) #[] #[w1]),3⟩,⟨.int .i64 5,(.func (.func 322) #[] #[w1]),4⟩,⟨.int .i64 6,(.func (.func 323) #[] #[w1]),5⟩,⟨.int .i64 7,(.func (.func 324) #[] #[.pointer (some (w,1,0)),w]),6⟩] 7):=hT;have AE:((w1.alloc (.cells #[bh (oj k n s.toList t.k t.n t.s.toList)] 3)).alloc (Obj.map #[⟨.int .i64 1,(.func (.func 318) #[] #[.pointer (some (w1,0))]),0⟩,⟨.int .i64 2,(.func (.func 319) #[] #[.pointer (some (w1,0))]),1⟩,⟨.int .i64 3,(.func (.func 320) #[] #[.pointer (some (w1,0))]),2⟩,⟨.int .i64 4,(.func (.func 321) #[] #[.pointer (some (w1,0))]),3⟩,⟨.int .i64 5,(.func (.func 322) #[] #[.pointer (some (w1,0))]),4⟩,⟨.int .i64 6,(.func (.func 323) #[] #[.pointer (some (w1,0))]),5⟩,⟨.int .i64 7,(.func (.func 324) #[] #[.pointer (some (w.heap.size+1,0)),.pointer (some (w,0))]),6⟩] 7)).cell? (w1,0)=some (.int .i64 (oj k n s.toList t.k t.n t.s.toList)):=aI (t:=3) (fr:=(0,0)) (show((w1.alloc (.cells #[bh (oj k n s.toList t.k t.n t.s.toList)] 3)).alloc (Obj.map #[⟨.int .i64 1,(.func (.func 318) #[] #[.pointer (some (w1,0))]),0⟩,⟨.int .i64 2,(.func (.func 319) #[] #[.pointer (some (w1,0))]),1⟩,⟨.int .i64 3,(.func (.func 320) #[] #[.pointer (some (w1,0))]),2⟩,⟨.int .i64 4,(.func (.func 321) #[] #[.pointer (some (w1,0))]),3⟩,⟨.int .i64 5,(.func (.func 322) #[] #[.pointer (some (w1,0))]),4⟩,⟨.int .i64 6,(.func (.func 323) #[] #[.pointer (some (w1,0))]),5⟩,⟨.int .i64 7,(.func (.func 324) #[] #[.pointer (some (w.heap.size+1,0)),.pointer (some (w,0))]),6⟩] 7)).heap[(w1:Nat)]?=some _ from by(exact Ht)) rfl;change Hid _ at AE rB;by_cases fs:t.op=8
 ·have ab2:(t.op==8)=true:=by simp[fs]
  change Hid _ at fs;go_wp2;go_ret;refine⟨iW (by unfold Ho;rw[if_pos fs.out]),?_⟩;exact X
 have ab2:(t.op==8)=false:=by simp[fs]
 have Ds:=I (anI (k:=k) (n:=n) (s:=s) (t:=t) fs);clear fs;by_cases eO:t.op<1\/7<t.op
 ·have c4:=anw (P:=prog) underlying227 underlying3 rB t.op (anF _ eO _ _ _ _ _ _ _) (anH _);change Hid _ at eO;go_wp2;go_ret;refine⟨iW (by rw[Ds.out,anG eO.out,FH]),?_⟩;exact X
 have mm:t.op=1\/t.op=2\/t.op=3\/t.op=4\/t.op=5\/t.op=6\/t.op=7:=J;clear eO ab2;by_cases hk:k=t.k
 ·have uI:(k==t.k)=true:=by simp[hk]
  change Hid _ at hk;rcases mm with h|h|h|h|h|h|h
  ·have H:=I h;rw[h]at t1;clear h;have c4:=nr (P:=prog) underlying227 underlying3 rB 1 rfl;dsimp only at c4;go_wp2_with (go_at_call 318;refine(anx _ _ _ AE).mono ?_;rintro e w'⟨rfl,U⟩;change Hid _ at U);exact Hu
  ·have H:=I h;rw[h]at t1;clear h;have c4:=nr (P:=prog) underlying227 underlying3 rB 2 rfl;dsimp only at c4;go_wp2_with (go_at_call 319;refine(anz _ _ _ AE).mono ?_;rintro e w'⟨rfl,U⟩;change Hid _ at U);exact Hu
  ·have H:=I h;rw[h]at t1;clear h;have c4:=nr (P:=prog) underlying227 underlying3 rB 3 rfl;dsimp only at c4;go_wp2_with (go_at_call 320;refine(anA _ _ _ AE).mono ?_;rintro e w'⟨rfl,U⟩;change Hid _ at U);exact Hu
  ·have H:=I h;rw[h]at t1;clear h;have c4:=nr (P:=prog) underlying227 underlying3 rB 4 rfl;dsimp only at c4;go_wp2_with (go_at_call 321;refine(anB _ _ _ AE).mono ?_;rintro e w'⟨rfl,U⟩;change Hid _ at U);exact Hu
  ·have H:=I h;rw[h]at t1;clear h;have c4:=nr (P:=prog) underlying227 underlying3 rB 5 rfl;dsimp only at c4;go_wp2_with (go_at_call 322;refine(anC _ _ _ AE).mono ?_;rintro e w'⟨rfl,U⟩;change Hid _ at U);exact Hu
  ·have H:=I h;rw[h]at t1;clear h;have c4:=nr (P:=prog) underlying227 underlying3 rB 6 rfl;dsimp only at c4;go_wp2_with (go_at_call 323;refine(anD _ _ _ AE).mono ?_;rintro e w'⟨rfl,U⟩;change Hid _ at U);exact Hu
  ·have H:=I h;rw[h]at t1;clear h;have c4:=nr (P:=prog) underlying227 underlying3 rB 7 rfl;dsimp only at c4;go_wp2_with (go_at_call 324;refine(anE k n s t _ _ _ ((((Z.refl w1).alloc _).alloc _).ah (aI MN rfl)) ((((Z.refl w1).alloc _).alloc _).ah (aI MN rfl)) ((((Z.refl w1).alloc _).alloc _).ah (aI MN rfl)) ((((Z.refl w1).alloc _).alloc _).ah (aI JW rfl)) ((((Z.refl w1).alloc _).alloc _).ah (aI JW rfl)) ((((Z.refl w1).alloc _).alloc _).ah (aI JW rfl))).mono ?_;rintro e w'⟨rfl,U⟩;change Hid _ at U);exact Hu
 ·have uI:(k==t.k)=false:=by simp[hk]
  change Hid _ at hk;rcases mm with h|h|h|h|h|h|h
  ·rw[h]at t1;clear h;have c4:=nr (P:=prog) underlying227 underlying3 rB 1 rfl;exact Hv
  ·rw[h]at t1;clear h;have c4:=nr (P:=prog) underlying227 underlying3 rB 2 rfl;exact Hv
  ·rw[h]at t1;clear h;have c4:=nr (P:=prog) underlying227 underlying3 rB 3 rfl;exact Hv
  ·rw[h]at t1;clear h;have c4:=nr (P:=prog) underlying227 underlying3 rB 4 rfl;exact Hv
  ·rw[h]at t1;clear h;have c4:=nr (P:=prog) underlying227 underlying3 rB 5 rfl;exact Hv
  ·rw[h]at t1;clear h;have c4:=nr (P:=prog) underlying227 underlying3 rB 6 rfl;exact Hv
  ·rw[h]at t1;clear h;have c4:=nr (P:=prog) underlying227 underlying3 rB 7 rfl;exact Hv
def anJ(a b:T)(w:aC):aR 359 #[.agg #[a.nm,a.op,a.k,a.n,a.s,b.nm,b.op,b.k,b.n,b.s,bh (oj a.k a.n a.s.toList b.k b.n b.s.toList)]] w (cM (.bool (Ay 3 a.v b.op b.v)) w):=by
 refine MO ?_;intro H;go_enter func359,ntmps359;exact Rs
def anK(a b:T)(w:aC):aR 360 #[.agg #[a.nm,a.op,a.k,a.n,a.s,b.nm,b.op,b.k,b.n,b.s,bh (oj a.k a.n a.s.toList b.k b.n b.s.toList)]] w (cM (.bool (Ay 4 a.v b.op b.v)) w):=by
 refine MO ?_;intro H;go_enter func360,ntmps360;exact Rs
def anL(a b:T)(w:aC):aR 361 #[.agg #[a.nm,a.op,a.k,a.n,a.s,b.nm,b.op,b.k,b.n,b.s,bh (oj a.k a.n a.s.toList b.k b.n b.s.toList)]] w (cM (.bool (Ay 5 a.v b.op b.v)) w):=by
 refine MO ?_;intro H;go_enter func361,ntmps361;exact Rs
def anM(a b:T)(w:aC):aR 362 #[.agg #[a.nm,a.op,a.k,a.n,a.s,b.nm,b.op,b.k,b.n,b.s,bh (oj a.k a.n a.s.toList b.k b.n b.s.toList)]] w (cM (.bool (Ay 6 a.v b.op b.v)) w):=by
 refine MO ?_;intro H;go_enter func362,ntmps362;exact Rs
def anN(a b:T)(w:aC):aR 364 #[.agg #[a.nm,a.op,a.k,a.n,a.s,b.nm,b.op,b.k,b.n,b.s,bh (oj a.k a.n a.s.toList b.k b.n b.s.toList)]] w (cM (.bool false) w):=by
 go_enter func364,ntmps364;go_wp2;go_ret;refine⟨rfl,?_⟩;exact X
def anO(a b:T)(w:aC):aR 358 #[.agg #[a.nm,a.op,a.k,a.n,a.s,b.nm,b.op,b.k,b.n,b.s,bh (oj a.k a.n a.s.toList b.k b.n b.s.toList)]] w (cM (.bool (Ay 1 a.v b.op b.v)) w):=by
 go_enter func358,ntmps358;go_wp2_with (go_at_call 292;refine(ab1 b a.k a.n a.s _).mono ?_;rintro e w'⟨rfl,U⟩;change Hid _ at U);go_ret;refine⟨rfl,?_⟩;exact X
def anP(a b:T)(w:aC):aR 363 #[.agg #[a.nm,a.op,a.k,a.n,a.s,b.nm,b.op,b.k,b.n,b.s,bh (oj a.k a.n a.s.toList b.k b.n b.s.toList)]] w (cM (.bool (Ay 7 a.v b.op b.v)) w):=by
 refine MO ?_;intro H;go_enter func363,ntmps363;go_wp2_with (go_at_call 325;refine(abY _ _ _ _ _ _ _).mono ?_;rintro e w'⟨rfl,U⟩;change Hid _ at U)
 all_goals
  go_ret
  refine⟨iW (by unfold Ay;rw[H.out];simp_all[vu.Rb,T.v]),?_⟩
  exact X
def ab3(op:Int)(w:aC):aR 351 #[op] w λe w'=>e=.returned (.bool (xi op))/\w=w':=by
 go_enter func351,ntmps351;go_wp2
 all_goals
  go_ret
  refine⟨iW (by unfold xi;simp_all<;>omega),rfl⟩
def Dt(op:Int):Nat:=if op=1 then 358 else if op=3 then 359 else if op=4 then 360 else if op=5 then 361 else if op=6 then 362 else if op=7 then 363 else 364
def anQ(op:Int)(w:aC):aR 352 #[op] w λe w'=>e=.returned (.func (.func (Dt op)) #[] #[])/\w=w':=by
 go_enter func352,ntmps352;go_wp2
 all_goals
  go_ret
  refine⟨?_,rfl⟩
  unfold Dt
  simp_all
def anR(a b:T)(w:aC):
  (binOp .eql 154 (.agg #[a.nm,a.op,a.k,a.n,a.s]) (.agg #[b.nm,b.op,b.k,b.n,b.s])).run prog w=.ok (.bool (decide (a.ts=b.ts))) w:=by
 have e:(a.ts=b.ts)↔(a.nm.toList=b.nm.toList/\a.op=b.op/\a.k=b.k/\a.n=b.n/\a.s.toList=b.s.toList):=by simp[T.ts,T.v]
 have uH:decide (a.ts=b.ts)=decide (a.nm.toList=b.nm.toList/\a.op=b.op/\a.k=b.k/\a.n=b.n/\a.s.toList=b.s.toList):=FI.2 e;rw[uH];by_cases ae:a.nm.toList=b.nm.toList
 ·by_cases ak:a.op=b.op
  ·by_cases aM:a.k=b.k
   ·by_cases bn:a.n=b.n
    ·by_cases cb:a.s.toList=b.s.toList
     ·simp[ae,ak,aM,bn,cb,go_sem]
     ·simp[ae,ak,aM,bn,cb,go_sem]
    ·simp[ae,ak,aM,bn,go_sem]
   ·simp[ae,ak,aM,go_sem]
  ·simp[ae,ak,go_sem]
 ·simp[ae,go_sem]
def anS(a b:T):BW a.ts b.ts=(decide (a.nm.toList=b.nm.toList)&&xi a.op&&xi b.op&&(decide (a.ts=b.ts)||decide (b.op=8)||(!decide (a.op=8)&&decide (a.k=b.k)&&Ay a.op a.v b.op b.v))):=rfl
def anT(h:xi op=true)(fs:op≠8):op=1\/op=2\/op=3\/op=4\/op=5\/op=6\/op=7:=by
 unfold xi at h;have:=of_decide_eq_true h;omega
def anU(a b:T)(w:aC):aR 339 #[.agg #[a.nm,a.op,a.k,a.n,a.s],.agg #[b.nm,b.op,b.k,b.n,b.s]] w (cM (.bool (BW a.ts b.ts)) w):=by
 have bb:=I (anS a b);have heq:=anR a b;by_cases an:a.nm.toList=b.nm.toList
 ·cases Hw:xi a.op with
  |false=>
   refine Hx ?_;intro _ _;refine⟨iW (by rw[bb.out,Hw];simp),?_⟩;exact X
  |true=>
   cases uI:xi b.op with
   |false=>
    refine Hx ?_;intro _ _;refine⟨iW (by rw[bb.out,uI];simp),?_⟩;exact X
   |true=>
    cases ch:decide (a.ts=b.ts)with
    |true=>
     refine Hx ?_;intro _ _;refine⟨iW (by rw[bb.out,Hw,uI,ch];simp[an]),?_⟩;exact X
    |false=>
     by_cases uJ:b.op=8
     ·have anV:(b.op==8)=true:=by simp[uJ]
      have kM:=I uJ;clear uJ;refine Hx ?_;intro _ _;refine⟨iW (by rw[bb.out,Hw,uI,ch];simp[an,kM.out]),?_⟩;exact X
     ·have anV:(b.op==8)=false:=by simp[uJ]
      have kM:=I uJ;clear uJ;by_cases Hy:a.op=8
      ·have anW:(a.op==8)=true:=by simp[Hy]
       have Ws:=I Hy;clear Hy;refine Hx ?_;intro _ _;refine⟨iW (by rw[bb.out,Hw,uI,ch];simp[kM.out,Ws.out]),?_⟩;exact X
      ·have anW:(a.op==8)=false:=by simp[Hy]
       have Ws:=I Hy;have Wt:=anT Hw Hy;clear Hy;by_cases oK:a.k=b.k
       ·have anX:(a.k !=b.k)=false:=by simp[oK]
        have zA:=I oK;have bN:=I (show BW a.ts b.ts=Ay a.op a.v b.op b.v from by rw[bb.out,Hw,uI,ch];simp[an,kM.out,Ws.out,oK]);clear oK;replace Wt:=I Wt;go_enter func339,ntmps339;go_upto_region 8 with (first|(go_at_call 351;refine(ab3 _ _).mono ?_;rintro e w'⟨rfl,rfl⟩)|(go_at_call 352;refine(anQ _ _).mono ?_;rintro e w'⟨rfl,rfl⟩));have ab4:((w.alloc (.cells #[a.nm,a.op,a.k,a.n,a.s] 154)).alloc (.cells #[b.nm,b.op,b.k,b.n,b.s] 154)).heap[(w:Nat)]?=some (.cells #[a.nm,a.op,a.k,a.n,a.s] 154):=hT;have o8:((w.alloc (.cells #[a.nm,a.op,a.k,a.n,a.s] 154)).alloc (.cells #[b.nm,b.op,b.k,b.n,b.s] 154)).heap[(w:Nat)+1]?=some (.cells #[b.nm,b.op,b.k,b.n,b.s] 154):=hT;replace ab4:=I ab4;replace o8:=I o8;clear heq;rcases Wt with h|h|h|h|h|h|h
        ·have H:=I h;have aj:Dt a.op=358:=by rw[h];rfl
         rw[aj];clear h aj
         go_region_held3 (λw'=>w'.cell? (w,0)=some ↑a.nm/\w'.cell? (w,1)=some ↑a.op/\w'.cell? (w,2)=some ↑a.k/\w'.cell? (w,3)=some ↑a.n/\w'.cell? (w,4)=some ↑a.s/\w'.cell? (w,1,0)=some ↑b.nm/\w'.cell? (w,1,1)=some ↑b.op/\w'.cell? (w,1,2)=some ↑b.k/\w'.cell? (w,1,3)=some ↑b.n/\w'.cell? (w,1,4)=some ↑b.s)
          (first|(go_split_ands;refine⟨?_,?_,?_,?_,?_,?_,?_,?_,?_,?_⟩<;>exact(Hid.out hy).ah (by assumption))|go_keep)
          (first|(go_at_call 317;refine(FC _ _ _ _ _ _ _).mono ?_;rintro e cY⟨rfl,hy⟩;replace hy:=I hy)|(go_at_call 358;refine(anO a b _).mono ?_;rintro e cY⟨rfl,hy⟩;replace hy:=I hy))
         all_goals
          exact JY
        ·have H:=I h;have aj:Dt a.op=364:=by rw[h];rfl
         rw[aj];clear h aj
         go_region_held3 (λw'=>w'.cell? (w,0)=some ↑a.nm/\w'.cell? (w,1)=some ↑a.op/\w'.cell? (w,2)=some ↑a.k/\w'.cell? (w,3)=some ↑a.n/\w'.cell? (w,4)=some ↑a.s/\w'.cell? (w,1,0)=some ↑b.nm/\w'.cell? (w,1,1)=some ↑b.op/\w'.cell? (w,1,2)=some ↑b.k/\w'.cell? (w,1,3)=some ↑b.n/\w'.cell? (w,1,4)=some ↑b.s)
          (first|(go_split_ands;refine⟨?_,?_,?_,?_,?_,?_,?_,?_,?_,?_⟩<;>exact(Hid.out hy).ah (by assumption))|go_keep)
          (first|(go_at_call 317;refine(FC _ _ _ _ _ _ _).mono ?_;rintro e cY⟨rfl,hy⟩;replace hy:=I hy)|(go_at_call 364;refine(anN a b _).mono ?_;rintro e cY⟨rfl,hy⟩;replace hy:=I hy))
         all_goals
          go_wp2
          go_ret
          refine⟨iW (by rw[bN.out,H.out];rfl),?_⟩
          exact X
        ·have H:=I h;have aj:Dt a.op=359:=by rw[h];rfl
         rw[aj];clear h aj
         go_region_held3 (λw'=>w'.cell? (w,0)=some ↑a.nm/\w'.cell? (w,1)=some ↑a.op/\w'.cell? (w,2)=some ↑a.k/\w'.cell? (w,3)=some ↑a.n/\w'.cell? (w,4)=some ↑a.s/\w'.cell? (w,1,0)=some ↑b.nm/\w'.cell? (w,1,1)=some ↑b.op/\w'.cell? (w,1,2)=some ↑b.k/\w'.cell? (w,1,3)=some ↑b.n/\w'.cell? (w,1,4)=some ↑b.s)
          (first|(go_split_ands;refine⟨?_,?_,?_,?_,?_,?_,?_,?_,?_,?_⟩<;>exact(Hid.out hy).ah (by assumption))|go_keep)
          (first|(go_at_call 317;refine(FC _ _ _ _ _ _ _).mono ?_;rintro e cY⟨rfl,hy⟩;replace hy:=I hy)|(go_at_call 359;refine(anJ a b _).mono ?_;rintro e cY⟨rfl,hy⟩;replace hy:=I hy))
         all_goals
          exact JY
        ·have H:=I h;have aj:Dt a.op=360:=by rw[h];rfl
         rw[aj];clear h aj
         go_region_held3 (λw'=>w'.cell? (w,0)=some ↑a.nm/\w'.cell? (w,1)=some ↑a.op/\w'.cell? (w,2)=some ↑a.k/\w'.cell? (w,3)=some ↑a.n/\w'.cell? (w,4)=some ↑a.s/\w'.cell? (w,1,0)=some ↑b.nm/\w'.cell? (w,1,1)=some ↑b.op/\w'.cell? (w,1,2)=some ↑b.k/\w'.cell? (w,1,3)=some ↑b.n/\w'.cell? (w,1,4)=some ↑b.s)
          (first|(go_split_ands;refine⟨?_,?_,?_,?_,?_,?_,?_,?_,?_,?_⟩<;>exact(Hid.out hy).ah (by assumption))|go_keep)
          (first|(go_at_call 317;refine(FC _ _ _ _ _ _ _).mono ?_;rintro e cY⟨rfl,hy⟩;replace hy:=I hy)|(go_at_call 360;refine(anK a b _).mono ?_;rintro e cY⟨rfl,hy⟩;replace hy:=I hy))
         all_goals
          exact JY
        ·have H:=I h;have aj:Dt a.op=361:=by rw[h];rfl
         rw[aj];clear h aj
         go_region_held3 (λw'=>w'.cell? (w,0)=some ↑a.nm/\w'.cell? (w,1)=some ↑a.op/\w'.cell? (w,2)=some ↑a.k/\w'.cell? (w,3)=some ↑a.n/\w'.cell? (w,4)=some ↑a.s/\w'.cell? (w,1,0)=some ↑b.nm/\w'.cell? (w,1,1)=some ↑b.op/\w'.cell? (w,1,2)=some ↑b.k/\w'.cell? (w,1,3)=some ↑b.n/\w'.cell? (w,1,4)=some ↑b.s)
          (first|(go_split_ands;refine⟨?_,?_,?_,?_,?_,?_,?_,?_,?_,?_⟩<;>exact(Hid.out hy).ah (by assumption))|go_keep)
          (first|(go_at_call 317;refine(FC _ _ _ _ _ _ _).mono ?_;rintro e cY⟨rfl,hy⟩;replace hy:=I hy)|(go_at_call 361;refine(anL a b _).mono ?_;rintro e cY⟨rfl,hy⟩;replace hy:=I hy))
         all_goals
          exact JY
        ·have H:=I h;have aj:Dt a.op=362:=by rw[h];rfl
         rw[aj];clear h aj
         go_region_held3 (λw'=>w'.cell? (w,0)=some ↑a.nm/\w'.cell? (w,1)=some ↑a.op/\w'.cell? (w,2)=some ↑a.k/\w'.cell? (w,3)=some ↑a.n/\w'.cell? (w,4)=some ↑a.s/\w'.cell? (w,1,0)=some ↑b.nm/\w'.cell? (w,1,1)=some ↑b.op/\w'.cell? (w,1,2)=some ↑b.k/\w'.cell? (w,1,3)=some ↑b.n/\w'.cell? (w,1,4)=some ↑b.s)
          (first|(go_split_ands;refine⟨?_,?_,?_,?_,?_,?_,?_,?_,?_,?_⟩<;>exact(Hid.out hy).ah (by assumption))|go_keep)
          (first|(go_at_call 317;refine(FC _ _ _ _ _ _ _).mono ?_;rintro e cY⟨rfl,hy⟩;replace hy:=I hy)|(go_at_call 362;refine(anM a b _).mono ?_;rintro e cY⟨rfl,hy⟩;replace hy:=I hy))
         all_goals
          exact JY
        ·have H:=I h;have aj:Dt a.op=363:=by rw[h];rfl
         rw[aj];clear h aj
         go_region_held3 (λw'=>w'.cell? (w,0)=some ↑a.nm/\w'.cell? (w,1)=some ↑a.op/\w'.cell? (w,2)=some ↑a.k/\w'.cell? (w,3)=some ↑a.n/\w'.cell? (w,4)=some ↑a.s/\w'.cell? (w,1,0)=some ↑b.nm/\w'.cell? (w,1,1)=some ↑b.op/\w'.cell? (w,1,2)=some ↑b.k/\w'.cell? (w,1,3)=some ↑b.n/\w'.cell? (w,1,4)=some ↑b.s)
          (first|(go_split_ands;refine⟨?_,?_,?_,?_,?_,?_,?_,?_,?_,?_⟩<;>exact(Hid.out hy).ah (by assumption))|go_keep)
          (first|(go_at_call 317;refine(FC _ _ _ _ _ _ _).mono ?_;rintro e cY⟨rfl,hy⟩;replace hy:=I hy)|(go_at_call 363;refine(anP a b _).mono ?_;rintro e _⟨rfl,hy⟩;replace hy:=I hy))
         all_goals
          exact JY
       ·have anX:(a.k !=b.k)=true:=by simp[oK]
        have zA:=I oK;clear oK;refine Hx ?_;intro _ _;refine⟨iW (by rw[bb.out,Hw,uI,ch];simp[kM.out,zA.out]),?_⟩;exact X
 ·refine Hx ?_;intro _ _;refine⟨iW (by rw[bb.out];simp[an]),?_⟩;exact X
def ab5(a:bk)(n cap:Nat)(xs:List T)(p:T->Bool)(fn:Nat)(aQ:Addr)(w:aC)(av:a1 w 5 T.cs a n cap xs)(bc:∀args w,(callFunc fn args).run prog w=.ok (.enter fn args) w)(cy:∀x,x∈xs->∀w',Z w w'->aR fn #[.agg #[x.nm,x.op,x.k,x.n,x.s],.pointer (some aQ)] w' λe fj=>e=.returned (.bool (p x))/\Z w' fj):
  aR 337 #[aq a n cap,.func (.func fn) #[] #[.pointer (some aQ)]] w (cM (.bool (xs.any p)) w):=by
 obtain rfl:=av.neq;refine wB ?_;intro hm aT;change Hid _ at av cy;go_enter func337,ntmps337;go_wp2_with fail;go_loopg [9] (xs.length) (λg st wr=>∃k:Nat,g+k=xs.length/\st=.int .i64 k/\Hid ((xs.take k).any p=false)/\Hid (Z w wr));case atStart=>exact⟨0,J,rfl,rfl,Z.refl _⟩
 case round=>
  obtain⟨k,_,rfl,eO,U⟩:=hrel;by_cases hk:k<xs.length
  ·obtain⟨b,o,rfl,ao⟩:=av.get k hk;refine Rt ?_;intro cT c1 c2 da dJ;clear ao;refine kt ?_;intro b0 bd;cases he:p xs[k]with
   |true=>
    change Hid _ at he;go_wp2_with fail;refine qA (cy xs[k] (c7 hk) _ (U.alloc _)) λw1 hy=>?_;exact ab6
   |false=>
    change Hid _ at he;go_wp2_with fail;refine qA (cy xs[k] (c7 hk) _ (U.alloc _)) λw1 hy=>?_;exact Wu
  exact ab7
def ab8(x t:T)(aQ:Nat)(w:aC)(aW:w.cell? (aQ,0)=some ↑t.nm)(ae:w.cell? (aQ,1)=some ↑t.op)(ak:w.cell? (aQ,2)=some ↑t.k)(aM:w.cell? (aQ,3)=some ↑t.n)(bn:w.cell? (aQ,4)=some ↑t.s):
  aR 338 #[.agg #[x.nm,x.op,x.k,x.n,x.s],aQ] w (cM (.bool (BW x.ts t.ts)) w):=by
 have eI:=((Z.refl w).alloc (.cells #[x.nm,x.op,x.k,x.n,x.s] 154)).ah aW;have bQ:=((Z.refl w).alloc (.cells #[x.nm,x.op,x.k,x.n,x.s] 154)).ah ae;have bY:=((Z.refl w).alloc (.cells #[x.nm,x.op,x.k,x.n,x.s] 154)).ah ak;have ew:=((Z.refl w).alloc (.cells #[x.nm,x.op,x.k,x.n,x.s] 154)).ah aM;have fm:=((Z.refl w).alloc (.cells #[x.nm,x.op,x.k,x.n,x.s] 154)).ah bn;go_enter func338,ntmps338;go_wp2_with (go_at_call 339;refine(anU x t _).mono ?_;rintro e w'⟨rfl,U⟩;change Hid _ at U);go_ret;refine⟨rfl,?_⟩;exact X
def p2(f g:List T):Bool:=f.all λt=>g.any λb=>BW b.ts t.ts
def anY{f g:List T}(hk:k<f.length)(h:p2 (f.take k) g=true)(he:g.any (λb=>BW b.ts f[k].ts)=true):p2 (f.take (k+1)) g=true:=by
 unfold p2 at*;rw[List.take_succ_eq_append_getElem hk,List.all_append,h];simpa using he
def anZ{f g:List T}(hk:k<f.length)(he:g.any (λb=>BW b.ts f[k].ts)=false):false=p2 f g:=by
 unfold p2;rw[eq_comm,JZ];exact⟨f[k],c7 hk,by rw[he];decide⟩
def Ru(fA ee:bk)(ab9 aca fB gc:Nat)(xs ys:List T)(w:aC)(ef:a1 w 5 T.cs fA ab9 fB xs)(cv:a1 w 5 T.cs ee aca gc ys):
  aR 328 #[aq fA ab9 fB,aq ee aca gc] w (cM (.bool (p2 xs ys)) w):=by
 obtain rfl:=ef.neq;have hm:=ef.max;have aT:=ef.len;unfold maxLen at hm;change Hid _ at ef cv;go_enter func328,ntmps328;go_wp2_with fail;go_loopg [9] (xs.length) (λg st wr=>∃k:Nat,g+k=xs.length/\st=.int .i64 k/\Hid (p2 (xs.take k) ys=true)/\Hid (Z w wr));case atStart=>exact⟨0,J,rfl,rfl,Z.refl _⟩
 case round=>
  obtain⟨k,_,rfl,eU,U⟩:=hrel;by_cases hk:k<xs.length
  ·obtain⟨b,o,rfl,ao⟩:=ef.get k hk;refine Rt ?_;intro cT c1 c2 da dJ;obtain⟨dc,fL,dS,k1,j5⟩:=ant (show(wr.alloc (.cells #[xs[k].nm,xs[k].op,xs[k].k,xs[k].n,xs[k].s] 154)).heap[(wr:Nat)]?=some (.cells #[xs[k].nm,xs[k].op,xs[k].k,xs[k].n,xs[k].s] _ _)from(heap_alloc_new _ _));clear ao;refine kt ?_;intro b0 bd;cases he:ys.any (λb=>BW b.ts xs[k].ts)with
   |false=>
    have iP:=I he;clear he;go_wp2_with (go_at_call 337;refine(ab5 _ _ _ ys (λb=>BW b.ts xs[k].ts) _ _ _ (cv.ext X) (λ_ _=>by kernel_rfl) (λx _ w' hw=>ab8 x xs[k] _ w' (hw.ah dc) (hw.ah fL) (hw.ah dS) (hw.ah k1) (hw.ah j5))).mono ?_;rintro e w'⟨he,hy⟩;rw[iP.out]at he;subst he;change Hid _ at hy);go_ret;refine⟨iW (anZ hk iP),?_⟩;exact X
   |true=>
    have iP:=I he;clear he;go_wp2_with (go_at_call 337;refine(ab5 _ _ _ ys (λb=>BW b.ts xs[k].ts) _ _ _ (cv.ext X) (λ_ _=>by kernel_rfl) (λx _ w' hw=>ab8 x xs[k] _ w' (hw.ah dc) (hw.ah fL) (hw.ah dS) (hw.ah k1) (hw.ah j5))).mono ?_;rintro e w'⟨he,hy⟩;rw[iP.out]at he;subst he;change Hid _ at hy);go_roundg (gk - 1);case measure=>omega
    case rel=>exact⟨k+1,J,by go_num,anY hk eU iP,X⟩
  ·refine se ?_;intro b9;rw[b9]at eU;clear b9;go_wp2;go_ret;refine⟨iW eU.symm,?_⟩;exact X
def a1.MP{c:α->List Value}{ai:Addr}{ys:List α}(a8:a1 w sz c (some ai) n cap ys)(fS:0<sz):∀j u,(ys.flatMap c)[j]?=some u->w.cell? (ai.add j)=some u:=by
 intro j u aJ;have hlen:(ys.flatMap c).length=n*sz:=by
  rw[a8.neq];have hw:=a8.bH;clear aJ a8;induction ys with
  |nil=>simp
  |cons y l cI=>exact Rv
 refine acb ?_;intro yE hk b off Rw jS;subst jS;refine acd ?_;intro hm J0 this;rw[show(Addr.mk b off .none).add j=⟨b,off+j,.none⟩ from by unfold Addr.add;split<;>simp_all,this];exact J0.symm
def a1.Wv{c:α->List Value}{ys:List α}(a8:a1 w sz c a n cap ys):(ys.flatMap c).length=n*sz:=by
 rw[a8.neq];have hw:=a8.bH;clear a8;induction ys with
 |nil=>simp
 |cons y l cI=>exact Rv
def Own.grown{c:α->List Value}{ys:List α}(aE:Own w base e sz c aw n cap ys)(bu:w.grownBy w' (Value.ownBlock (aq aw n cap)))(fa:(W:Nat)<=base)(U:Z W w):Z W w':=
 U.grown bu λk hk=>by
  cases aw with
  |none=>cases hk
  |some ai=>simp only[Value.ownBlock,Option.some.injEq]at hk;subst hk;exact eh fa (aE.lt ai rfl).1
def wC{c:α->List Value}{ys0 ys:List α}{o:Oper}{a:Act}{K:Act->aC->Prop}(s x:Operand)(t e:TypeId)(aK:o.op=.call {callee:=.builtin .append,args:=#[s,x],argTypes:=#[t,t]})(i:TypeInfo)(z:Value)(bytes:Nat)(a6:P.underlying t=some (.slice e))(aO:P.info? e=some i)(bf:i.zero=some z)(yB:i.size=sz)(wy:i.bytes=bytes)(yC:z.cells.size=sz)(fS:0<sz){n0 wD:Nat}(hs:a.eval s=.slice aw n0 wD)(W:aC)(fa:Z W w)(aE:Own w W e sz c aw n0 wD ys0){sa:bk}(U:a.eval x=.slice sa n cap)(a8:a1 w sz c sa n cap ys)(ae:∀y,∀u∈c y,u.oneCell'=true)(an:(n0+n)*bytes<=140737488355328)(j4:0<bytes)(h:∀cK gE dL w',gE=n0+n->Own w' W e sz c cK gE dL (ys0++ys)->Z W w'->w.grownBy w' (Value.ownBlock (aq aw n0 wD))->K (a.put o.dst (aq cK gE dL)) w'):o.wp P a w K Q:=by
 cases sa with
 |none=>
  have ao:=a8.none rfl;have aT:=a8.len;obtain rfl:cap=0:=ao;obtain rfl:n=0:=J;have hy:ys= []:=xj a8.neq.symm;subst hy;have mG:=run_append_owned_none (P:=P) (w:=w) W t o.type e i sz a6 aO (aq aw n0 wD) n0 _ aE.row;unfold Oper.wp;simp[execOp,aK,resolve,invoke,builtin,hs,U,mG,Result.andThen];exact h aw n0 wD w rfl (by rw[mH];exact aE) fa ⟨rfl,rfl,rfl,bA _,λ_ _ _=>rfl⟩
 |some ai=>
  have hbound:n0+n<=(n0+n)*bytes:=MQ _ j4;refine wp_append_own w s x t aK W e i z sz bytes a6 aO bf yB wy yC fS (aq aw n0 wD) n0 _ hs aE.row ai n cap (ys.flatMap c) U a8.Wv (a8.MP fS) ?_ (by simp only[maxLen];omega) an fa.size ?_;exact Rx
  ·intro _ w' o6 bW _;rw[<-xk]at o6;have hlen:n0+n=(ys0++ys).length:=by rw[cH,<-aE.neq,<-a8.neq]
   rcases o6.2 with ⟨rfl,aW⟩|⟨g,aQ,cur,rfl,jH,AA,Ww⟩
   ·rw[aW]at o6 hlen;exact h none 0 0 w' aW.symm (Own.mk o6 hlen a8.bH) (aE.grown bW (bA _) fa) bW
   ·exact h _ _ aQ w' rfl (Own.mk o6 hlen a8.bH) (aE.grown bW (bA _) fa) bW
def Wx{c:α->List Value}{ys0 ys:List α}{ops:Array Oper}{o:Oper}{a:Act}{K:Act->aC->Prop}{E:Prop}(np:o.guard=none)(s x:Operand)(t e:TypeId)(aK:o.op=.call {callee:=.builtin .append,args:=#[s,x],argTypes:=#[t,t]})(i:TypeInfo)(z:Value)(bytes:Nat)(a6:P.underlying t=some (.slice e))(aO:P.info? e=some i)(bf:i.zero=some z)(yB:i.size=sz)(wy:i.bytes=bytes)(yC:z.cells.size=sz)(fS:0<sz){n0 wD:Nat}(hs:a.eval s=.slice aw n0 wD)(W:aC)(fa:Z W w)(aE:Own w W e sz c aw n0 wD ys0){sa:bk}(U:a.eval x=.slice sa n cap)(a8:a1 w sz c sa n cap ys)(ae:∀y,∀u∈c y,u.oneCell'=true)(an:(n0+n)*bytes<=140737488355328)(j4:0<bytes)(h:∀cK gE dL w',gE=n0+n->Own w' W e sz c cK gE dL (ys0++ys)->Z W w'->w.grownBy w' (Value.ownBlock (aq aw n0 wD))->K (a.put o.dst (aq cK gE dL)) w'):
  if Region.wanted o (yielded ops a.tmps)=true then Oper.wp P o a w K Q else E:=by
 have hw:Region.wanted o (yielded ops a.tmps)=true:=by simp[Region.wanted,np]
 rw[bm hw];exact wC s x t e aK i z bytes a6 aO bf yB wy yC fS hs W fa aE U a8 ae an j4 h
def Own.empty{c:α->List Value}{B:Nat}(h:w.heap[B]?=some (.cells #[] e (0,0)))(aa:base<=B)(hw:∀y,(c y).length=sz):Own w base e sz c (some (B,0)) 0 0 ([]:List α):=
 ⟨⟨by simp,.inr ⟨B,0,#[],rfl,aa,h,bA _,hX _,by simp,by simp⟩⟩,rfl,hw⟩
def Ry:(prog.info? 154).map (λi=>(i.zero,i.size,i.bytes))=some (some (.agg #[.string ⟨#[]⟩,ar,ar,ar,.string ⟨#[]⟩]),5,56):=bV
def p3(e:TypeId)(sz:Nat)(c:α->List Value)(xs:List α)(w:World)(r:Ending)(w':World):Prop:=
 ∃aw n cap,r=.returned (.slice aw n cap)/\Own w' w.heap.size e sz c aw n cap xs/\Z w w'
def an0(a:bk)(n cap:Nat)(xs:List T)(w:aC)(av:a1 w 5 T.cs a n cap xs)(an:n<=1000000):
  aR 329 #[aq a n cap] w (p3 154 5 T.cs xs w):=by
 obtain⟨ca,bJ,bF,bG,bK⟩:=info_parts Ry;have lW:=I av.neq;have aT:=av.len;have hm:=av.max;unfold maxLen at hm;change Hid _ at av bJ bF bG bK;have Wy:=@Lib.run_eql_slice_nil prog;cases a with
 |none=>
  have ao:=av.none rfl;obtain rfl:cap=0:=ao;obtain rfl:n=0:=J;have U:xs= []:=xj lW.symm;subst U;go_enter func329,ntmps329;go_wp2;go_ret;exact⟨none,0,0,rfl,Own.nil _ _ _ T.bH,X⟩
 |some ai=>
  go_enter func329,ntmps329;go_wp2_with (at_builtin;refine wpList_plain rfl λoL ns=>?_;refine wC (c:=T.cs) (ys0:= []) (ys:=xs) _ _ 36 154 rfl ca _ 56 underlying36 bJ bF bG bK rfl af rfl w X (Own.empty hT (by simp) T.bH) rfl (av.ext X) T.cN J af ?_;intro cK dv uK _ hY jt U p4;refine ns _ _ ?_;have dn:=I jt;have hy:=I U;have fu:=I hY;clear jt U p4 hY);go_ret;exact⟨cK,dv,uK,rfl,dn,hy⟩
structure iY where
 a:Option Addr
 n:Nat
 c:Nat
instance:Coe iY Value:=⟨λs=>.slice s.a s.n s.c⟩
structure lJ where
 v:iY
 ts:List T
def lJ.cs(x:lJ):List Value:= [.slice x.v.a x.v.n x.v.c]
def lJ.bH(x:lJ):x.cs.length=1:=rfl
def lJ.cN(x:lJ):∀u∈x.cs,u.oneCell'=true:=by
 intro u al;simp only[lJ.cs,nK,sW,tJ]at al;rcases al with rfl;rfl
def Rz{x:lJ}(h:r9 w b o x.cs):w.cell? (b,o)=some ↑x.v:=h 0 _ rfl
structure Du (w:World) (a:Option Addr) (n c:Nat) (xs:List lJ):Prop where
 aF:a1 w 1 lJ.cs a n c xs
 ts:∀x,x∈xs->a1 w 5 T.cs x.v.a x.v.n x.v.c x.ts
def Du.ext{c:Nat}{xs:List lJ}(h:Du w a n c xs)(U:Z w w'):Du w' a n c xs:=⟨h.aF.ext U,λx hm=>(h.ts x hm).ext U⟩
def red:List (List T)->List (List T)->List (List T)
 |out,[]=>out
 |out,f::rest=>if (out.any (λg=>p2 g f)||rest.any (λg=>p2 g f))=true then red out rest else red (out++[f]) rest
def an1{out l:List (List T)}(hk:k<l.length):red out (l.drop k)=if (out.any (λg=>p2 g l[k])||(l.drop (k+1)).any (λg=>p2 g l[k]))=true then red out (l.drop (k+1)) else red (out++[l[k]]) (l.drop (k+1)):=by
 rw[Dv hk];rfl
def ace:(prog.info? 36).map (λi=>(i.zero,i.size,i.bytes))=some (some ↑aH,1,24):=bV
structure Hz (w:World) (base:Nat) (a:Option Addr) (n c:Nat) (ys:List lJ):Prop where
 aF:Own w base 36 1 lJ.cs a n c ys
 ts:∀y,y∈ys->Own w base 154 5 T.cs y.v.a y.v.n y.v.c y.ts
def Hz.ext{c:Nat}{ys:List lJ}(h:Hz w base a n c ys)(U:Z w w'):Hz w' base a n c ys:=⟨h.aF.ext U,λy hy=>(h.ts y hy).ext U⟩
def Hz.an2{c:Nat}{ys:List lJ}(h:Hz w base a n c ys):Du w a n c ys:=⟨h.aF.aF,λy hy=>(h.ts y hy).aF⟩
def an3(hZ:List (List T))(w:World)(e:Ending)(w':World):Prop:=
 ∃aw n c ys,e=.returned (.slice aw n c)/\Hz w' w.heap.size aw n c ys/\ys.map (·.ts)=hZ/\Z w w'
def acf{ys:List lJ}{f:List T}:(ys.map (·.ts)).any (λg=>p2 g f)=ys.any (λy=>p2 y.ts f):=by rw[xm];rfl
def an4{ys:List lJ}{p:lJ->Bool}{j:Nat}(aJ:j<ys.length)(h:p ys[j]=true):ys.any p=true:=Az.2 ⟨_,c7 aJ,h⟩
def acg{out l R f:List (List T)}{c:Bool}{x:List (List T)}(h:red out x=R)(aD:red out x=if c=true then red out l else red f l)(ao:c=true):red out l=R:=by
 rw[aD,bm ao]at h;exact h
def an5{out l R f:List (List T)}{c:Bool}{x:List (List T)}(h:red out x=R)(aD:red out x=if c=true then red out l else red f l)(ao:c=false):red f l=R:=by
 rw[aD,bj (by rw[ao];decide)]at h;exact h
def an6{l:List (List T)}{f:List T}{j:Nat}(aJ:j<l.length)(h:p2 l[j] f=true):l.any (λg=>p2 g f)=true:=Az.2 ⟨_,c7 aJ,h⟩
def an7(fG:bk)(ei lc:Nat)(xs:List lJ)(w:aC)(bU:Du w fG ei lc xs)(an:ei<=10000)(ach:∀x,x∈xs->x.v.n<=10000):
  aR 303 #[aq fG ei lc] w (an3 (red [] (xs.map (·.ts))) w):=by
 obtain⟨ca,bJ,bF,bG,bK⟩:=info_parts ace;obtain rfl:=bU.aF.neq;have hm:=bU.aF.max;have aT:=bU.aF.len;unfold maxLen at hm;change Hid _ at bU ach bJ bF bG bK;generalize bC:red [] (xs.map (·.ts))=R;change Hid _ at bC;go_enter func303,ntmps303;refine J1 ?_;intro _ _
 go_loopg [3,4,5,7,9,12,17,18,19,30,31,32] (xs.length) (λg e1 _ _ _ _ st _ _ _ _ _ _ wr=>∃(k:Nat) (aw:bk) (m aQ:Nat) (ys:List lJ),g+k=xs.length/\st=.int .i64 k/\e1=.slice aw m aQ/\m<=k/\
  Hid (Hz wr w aw m aQ ys)/\Hid (red (ys.map (·.ts)) ((xs.map (·.ts)).drop k)=R)/\Hid (Z w wr))
 case atStart=>exact⟨0,none,0,0,[],J,rfl,rfl,J,⟨Own.nil _ _ _ lJ.bH,λy hy=>by cases hy⟩,bC.out,Z.refl _⟩
 case round=>
  obtain⟨k,aw,m,aQ,ys,_,rfl,rfl,_,aE,MR,U⟩:=hrel;obtain⟨G,_⟩:∃G,G=gk:=⟨_,rfl⟩;have aci:=I aE.out.aF.neq;have oM:=aE.out.aF.aF.len;have lK:=aE.out.aF.aF.max;unfold maxLen at lK;by_cases hk:k<xs.length
  ·obtain⟨b,o,rfl,ao⟩:=bU.out.aF.get k hk;have cT:=Rz (w:=wr) (b:=b) (o:=o+k*1) (x:=xs[k]) (λj v aJ=>U.out.ah (ao j v aJ));rw[jT]at cT;have ef:=I (bU.out.ts xs[k] (c7 hk));have zB:k<(xs.map (·.ts)).length:=by rw[cr];exact hk
   have MS:(xs.map (·.ts))[k]=xs[k].ts:=by simp
   have c5:=I (an1 (out:=ys.map (·.ts)) zB);change Hid _ at MS;clear ao;refine kt ?_;intro b0 bd;go_wp2_with fail;go_loopg [7,19] (m) (λg _ st wl=>∃j:Nat,g+j=m/\st=.int .i64 j/\Hid ((ys.take j).any (λy=>p2 y.ts xs[k].ts)=false)/\Hid (Z wr wl));case atStart=>exact⟨0,J,rfl,rfl,Z.refl _⟩
   case round=>
    obtain⟨j,_,rfl,eO,hy⟩:=hrel
    rename aC=>wl
    by_cases aJ:j<m
    ·have yE:j<ys.length:=by have:=aci.out;omega
     obtain⟨b',ks,rfl,xn⟩:=aE.out.aF.aF.get j yE;have d0:=Rz (w:=wl) (b:=b') (o:=ks+j*1) (x:=ys[j]) (λq v bq=>hy.out.ah (xn q v bq));rw[jT]at d0;clear xn;have dV:(0:Int)<=(j:Int):=J;have bS:(j:Int)<(m:Int):=J;cases he:p2 ys[j].ts xs[k].ts with
     |true=>
      have iP:=I he;clear he;go_wp2_with (go_at_call 328;refine(Ru _ _ _ _ _ _ ys[j].ts xs[k].ts _ ((aE.out.ts _ (c7 yE)).aF.ext X) (ef.out.ext X)).mono ?_;rintro e cY⟨he,Dw⟩;rw[iP.out]at he;subst he;change Hid _ at Dw);go_roundg (G - 1);case measure=>omega
      case rel=>exact⟨k+1,_,m,aQ,ys,J,by go_num,rfl,J,aE.out.ext X,acg MR.out c5.out (by rw[MS.out,acf,an4 yE iP.out];rfl),X⟩
     |false=>
      have iP:=I he;clear he;go_wp2_with (go_at_call 328;refine(Ru _ _ _ _ _ _ ys[j].ts xs[k].ts _ ((aE.out.ts _ (c7 yE)).aF.ext X) (ef.out.ext X)).mono ?_;rintro e cY⟨he,Dw⟩;rw[iP.out]at he;subst he;change Hid _ at Dw);go_roundg (gk - 1);case measure=>omega
      case rel=>exact⟨j+1,J,by go_num,Dm (p:=λy:lJ=>p2 y.ts xs[k].ts) yE eO.out iP.out,X⟩
    ·have acj:ys.take j=ys:=ir (by have:=aci.out;omega);rw[acj]at eO;clear acj;by_cases RA:k+1=lc
     ·obtain rfl:k+1=lc:=RA;have cS:xs.length - (k+1)=0:=J;change Hid _ at cS;go_wp2_with fail;go_loopg [9,32] (xs.length - (k+1)) (λg _ st qC=>∃dS:Nat,g+dS=xs.length - (k+1)/\st=.int .i64 dS/\Hid ((((xs.map (·.ts)).drop (k+1)).take dS).any (λg=>p2 g xs[k].ts)=false)/\Hid (Z wl qC));case atStart=>exact⟨0,J,rfl,rfl,Z.refl _⟩
      case round=>
       obtain⟨dS,RB,rfl,RC,bf⟩:=hrel
       rename aC=>qC
       by_cases Wz:dS<xs.length - (k+1)
       ·exact absurd Wz (by have:=cS.out;omega)
       exact ack
     ·have fM:k+1<lc:=J;go_wp2_with fail;go_loopg [9,32] (xs.length - (k+1)) (λg _ st qC=>∃dS:Nat,g+dS=xs.length - (k+1)/\st=.int .i64 dS/\Hid ((((xs.map (·.ts)).drop (k+1)).take dS).any (λg=>p2 g xs[k].ts)=false)/\Hid (Z wl qC));case atStart=>exact⟨0,J,rfl,rfl,Z.refl _⟩
      case round=>
       obtain⟨dS,_,rfl,RC,_⟩:=hrel
       rename aC=>qC
       by_cases Wz:dS<xs.length - (k+1)
       ·have acm:k+1+dS<xs.length:=J;obtain⟨_,_,ih,acn⟩:=bU.out.aF.get (k+1+dS) acm;simp only[Option.some.injEq,Addr.mk.injEq,FJ]at ih;obtain⟨rfl,rfl⟩:=ih;have ch:Z w qC:=X;have d0:=Rz (w:=qC) (b:=b) (o:=o+(k+1+dS)*1) (x:=xs[k+1+dS]) (λq v bq=>ch.ah (acn q v bq));rw[show o+(k+1+dS)*1=o+(k+1)+dS from by omega]at d0;have rC:=I (bU.out.ts xs[k+1+dS] (c7 acm));clear acn ch;have MT:dS<((xs.map (·.ts)).drop (k+1)).length:=by rw[Dx,cr];exact Wz
        have WA:((xs.map (·.ts)).drop (k+1))[dS]=xs[k+1+dS].ts:=by simp
        change Hid _ at WA;have dV:(0:Int)<=(dS:Int):=J;have bS:(dS:Int)<((xs.length - (k+1):Nat):Int):=J;cases he:p2 xs[k+1+dS].ts xs[k].ts with
        |true=>
         have iP:=I he;clear he;go_wp2_with (go_at_call 328;refine(Ru _ _ _ _ _ _ xs[k+1+dS].ts xs[k].ts _ (rC.out.ext X) (ef.out.ext X)).mono ?_;rintro e cY⟨he,Dw⟩;rw[iP.out]at he;subst he;change Hid _ at Dw);go_roundg (G - 1);case measure=>omega
         case rel=>exact⟨k+1,_,m,aQ,ys,J,by go_num,rfl,J,aE.out.ext X,acg MR.out c5.out (by rw[MS.out,an6 MT (by rw[WA.out];exact iP.out),Bool.or_true]),X⟩
        |false=>
         have iP:=I he;clear he;go_wp2_with (go_at_call 328;refine(Ru _ _ _ _ _ _ xs[k+1+dS].ts xs[k].ts _ (rC.out.ext X) (ef.out.ext X)).mono ?_;rintro e cY⟨he,Dw⟩;rw[iP.out]at he;subst he;change Hid _ at Dw);go_roundg (gk - 1);case measure=>omega
         case rel=>exact⟨dS+1,J,by go_num,Dm (p:=λg:List T=>p2 g xs[k].ts) MT RC.out (by rw[WA.out];exact iP.out),X⟩
       exact ack
  ·have b9:(xs.map (·.ts)).drop k= []:=MU (by rw[cr];omega);rw[b9]at MR;clear b9;go_wp2;go_ret;exact⟨aw,m,aQ,ys,rfl,aE.out,MR.out,X⟩
def an8(f:List T):Prop:=∀t,t∈f->t.ts.ok
def aco(a:bk)(n cap:Nat)(xs:List cd)(p:cd->Bool)(fn:Nat)(aQ:Addr)(w:aC)(av:a1 w 4 cd.cs a n cap xs)(bc:∀args w,(callFunc fn args).run prog w=.ok (.enter fn args) w)(cy:∀x,x∈xs->∀w',Z w w'->aR fn #[.agg #[x.nm,x.k,x.n,x.s],.pointer (some aQ)] w' λe fj=>e=.returned (.bool (p x))/\Z w' fj):
  aR 316 #[aq a n cap,.func (.func fn) #[] #[.pointer (some aQ)]] w (cM (.int .i64 (qz p xs)) w):=by
 obtain rfl:=av.neq;refine wB ?_;intro hm aT;change Hid _ at av cy;go_enter func316,ntmps316;go_wp2_with fail;go_loopg [5,8] (xs.length) (λg _ st wr=>∃k:Nat,g+k=xs.length/\st=.int .i64 k/\Hid ((xs.take k).any p=false)/\Hid (Z w wr));case atStart=>exact⟨0,J,rfl,rfl,Z.refl _⟩
 case round=>
  obtain⟨k,_,rfl,eO,U⟩:=hrel;by_cases hk:k<xs.length
  ·obtain⟨b,o,rfl,ao⟩:=av.get k hk;refine WB ?_;intro cT c1 c2 da;clear ao;exact MV
  exact MW
def acp(x:cd)(nm:ByteArray)(aQ:Nat)(w:aC)(aW:w.cell? (aQ,0)=some ↑nm):
  aR 315 #[.agg #[x.nm,x.k,x.n,x.s],aQ] w (cM (.bool (decide (x.nm.toList=nm.toList))) w):=by
 have eI:=((Z.refl w).alloc (.cells #[x.nm,x.k,x.n,x.s] 77)).ah aW;go_enter func315,ntmps315;exact acq
def J2(xs:List cd)(nm:List UInt8):Option cd:=xs.find? λx=>decide (x.nm.toList=nm)
def an9{xs:List cd}{nm:dR}:(∃(i:Nat) (aO:i<xs.length),qz (λx:cd=>decide (x.nm.toList=nm)) xs=(i:Int)/\J2 xs nm=some xs[i])\/(qz (λx:cd=>decide (x.nm.toList=nm)) xs=-1/\J2 xs nm=none):=by
 unfold qz J2;cases h:xs.findIdx? (λx:cd=>decide (x.nm.toList=nm))with
 |none=>
  refine .inr ⟨rfl,?_⟩;rw[List.find?_eq_none];intro x U;rw[Re]at h;rw[h x U];decide
 |some i=>
  rw[List.findIdx?_eq_some_iff_getElem]at h;obtain⟨aO,ae,ak⟩:=h;refine .inl ⟨i,aO,rfl,?_⟩;rw[List.find?_eq_some_iff_getElem];refine⟨ae,i,aO,rfl,λj aJ=>?_⟩;have:=ak j aJ;simpa using this
def WC(o:Option cd):Value:=match o with
 |some x=>.tuple #[.agg #[x.k,x.n,x.s],.bool true]
 |none=>.tuple #[.agg #[ar,ar,.string ⟨#[]⟩],.bool false]
def acr(a:bk)(n cap:Nat)(xs:List cd)(nm:ByteArray)(w:aC)(av:a1 w 4 cd.cs a n cap xs):
  aR 291 #[aq a n cap,nm] w (cM (WC (J2 xs nm.toList)) w):=by
 obtain rfl:=av.neq;refine wB ?_;intro hm aT;change Hid _ at av;rcases an9 (xs:=xs) (nm:=nm.toList)with ⟨i,aO,ae,ak⟩|⟨ae,ak⟩
 ·obtain⟨b,o,rfl,cn⟩:=av.get i aO;change Hid _ at cn;have H1:=I ae;change Hid _ at ak;clear ae;have b0:(0:Int)<=(i:Int):=J;have bd:(i:Int)<(xs.length:Int):=J;go_enter func291,ntmps291;go_wp2_with (go_at_call 316;refine(aco _ _ _ xs (λx:cd=>decide (x.nm.toList=nm.toList)) _ _ _ (av.ext X) (λ_ _=>by kernel_rfl) (λx _ w' hw=>acp x nm _ w' (hw.ah (by simp)))).mono ?_;rintro e w'⟨he,U⟩;rw[H1.out]at he;subst he;have ch:Z w w':=Z.trans X U;obtain⟨_,_,_,_⟩:=Rn (w:=w') (b:=b) (o:=o+i*4) (x:=xs[i]) (λj v aJ=>ch.ah (cn j v aJ));have z0:=U.ah (a:=⟨w.heap.size+1,0,none⟩) (v:=.int .i64 0) (by simp);have cU:=U.ah (a:=⟨w.heap.size+1,1,none⟩) (v:=.int .i64 0) (by simp);have z2:=U.ah (a:=⟨w.heap.size+1,2,none⟩) (v:=.string ⟨#[]⟩) (by simp);have bf:=U.size;have bq:=U.cell;have WD:=U.frozen;clear ch;change Hid _ at U);exact bodyPost_ret (v:=.tuple #[.agg #[xs[i].k,xs[i].n,xs[i].s],.bool true]) (by simp[results,results291,go_sem,z0,cU,z2]) rfl ⟨by rw[ak.out];rfl,Z.setCell (Z.setCell (Z.setCell X (oN _) _) (oN _) _) (oN _) _⟩
 ·have H1:=I ae;change Hid _ at ak;clear ae;go_enter func291,ntmps291;go_wp2_with (go_at_call 316;refine(aco _ _ _ xs (λx:cd=>decide (x.nm.toList=nm.toList)) _ _ _ (av.ext X) (λ_ _=>by kernel_rfl) (λx _ w' hw=>acp x nm _ w' (hw.ah (by simp)))).mono ?_;rintro e w'⟨he,U⟩;rw[H1.out]at he;subst he;have z0:=U.ah (a:=⟨w.heap.size+1,0,none⟩) (v:=.int .i64 0) (by simp);have cU:=U.ah (a:=⟨w.heap.size+1,1,none⟩) (v:=.int .i64 0) (by simp);have z2:=U.ah (a:=⟨w.heap.size+1,2,none⟩) (v:=.string ⟨#[]⟩) (by simp);have bf:=U.size;have bq:=U.cell;have WD:=U.frozen;change Hid _ at U);exact bodyPost_ret (v:=.tuple #[.agg #[ar,ar,.string ⟨#[]⟩],.bool false]) (by simp[results,results291,go_sem,z0,cU,z2]) rfl ⟨by rw[ak.out];rfl,Z.setCell (Z.setCell (Z.setCell X (oN _) _) (oN _) _) (oN _) _⟩
def B1(t:T)(xs:List cd):Bool:=match J2 xs t.nm.toList with
 |some x=>Ho t.op t.v x.v
 |none=>false
def acs(t:T)(a:bk)(n cap:Nat)(xs:List cd)(w:aC)(av:a1 w 4 cd.cs a n cap xs):
  aR 247 #[.agg #[t.nm,t.op,t.k,t.n,t.s],aq a n cap] w (cM (.bool (B1 t xs)) w):=by
 change Hid _ at av;cases bc:J2 xs t.nm.toList with
 |none=>
  have ef:=I bc;have qD:=I (show B1 t xs=false from by unfold B1;rw[bc]);clear bc;go_enter func247,ntmps247;go_wp2_with (go_at_call 291;refine(acr _ _ _ xs t.nm _ (av.ext X)).mono ?_;rintro e w'⟨he,U⟩;rw[ef.out]at he;unfold WC at he;subst he;have t0:w'.cell? (w,0)=some ↑t.nm:=U.ah (by simp);have t1:w'.cell? (w,1)=some ↑t.op:=U.ah (by simp);have t2:w'.cell? (w,2)=some ↑t.k:=U.ah (by simp);have t3:w'.cell? (w,3)=some ↑t.n:=U.ah (by simp);have t4:w'.cell? (w,4)=some ↑t.s:=U.ah (by simp);have bf:(w:Nat)<(w':Nat):=(by have:=U.size;simp at this;omega);change Hid _ at U);go_ret;refine⟨iW qD.symm,?_⟩;exact X
 |some x=>
  have ef:=I bc;have qD:=I (show B1 t xs=Ho t.op t.v x.v from by unfold B1;rw[bc]);clear bc;go_enter func247,ntmps247;go_wp2_with (first|(go_at_call 291;refine(acr _ _ _ xs t.nm _ (av.ext X)).mono ?_;rintro e w'⟨he,U⟩;rw[ef.out]at he;unfold WC at he;subst he;have t0:w'.cell? (w,0)=some ↑t.nm:=U.ah (by simp);have t1:w'.cell? (w,1)=some ↑t.op:=U.ah (by simp);have t2:w'.cell? (w,2)=some ↑t.k:=U.ah (by simp);have t3:w'.cell? (w,3)=some ↑t.n:=U.ah (by simp);have t4:w'.cell? (w,4)=some ↑t.s:=U.ah (by simp);have bf:(w:Nat)<(w':Nat):=(by have:=U.size;simp at this;omega);change Hid _ at U)|(go_at_call 292;refine(ab1 t x.k x.n x.s _).mono ?_;rintro e _⟨rfl,hy⟩;change Hid _ at hy));go_ret;refine⟨iW qD.symm,?_⟩;exact X
def sX(f:List T)(xs:List cd):Bool:=f.all λt=>B1 t xs
def acu{p:α->Bool}{xs:List α}(hk:k<xs.length)(h:(xs.take k).all p=true)(he:p xs[k]=true):(xs.take (k+1)).all p=true:=by
 rw[iX hk,List.all_append,h];simp[he]
def aoa{p:α->Bool}{xs:List α}(hk:k<xs.length)(he:p xs[k]=false):false=xs.all p:=by
 rw[eq_comm,JZ];exact⟨xs[k],c7 hk,by rw[he];decide⟩
def acv(fA:bk)(fn fB:Nat)(hZ:List T)(a:bk)(n cap:Nat)(xs:List cd)(w:aC)(ef:a1 w 5 T.cs fA fn fB hZ)(av:a1 w 4 cd.cs a n cap xs):
  aR 172 #[aq fA fn fB,aq a n cap] w (cM (.bool (sX hZ xs)) w):=by
 obtain rfl:=ef.neq;have hm:=ef.max;have aT:=ef.len;unfold maxLen at hm;change Hid _ at ef av;go_enter func172,ntmps172;refine J1 ?_;intro _ _;go_loopg [5,10] (hZ.length) (λg WE st wr=>∃k:Nat,g+k=hZ.length/\st=.int .i64 k/\WE=.bool true/\Hid ((hZ.take k).all (λt=>B1 t xs)=true)/\Hid (Z w wr));case atStart=>exact⟨0,J,rfl,rfl,rfl,Z.refl _⟩
 case round=>
  obtain⟨k,_,rfl,rfl,eU,U⟩:=hrel;by_cases hk:k<hZ.length
  ·obtain⟨b,o,rfl,ao⟩:=ef.get k hk;obtain⟨_,_,_,_,_⟩:=abZ (w:=wr) (b:=b) (o:=o+k*5) (x:=hZ[k]) (λj v aJ=>U.ah (ao j v aJ));clear ao;have b0:(0:Int)<=(k:Int):=J;have bd:(k:Int)<(hZ.length:Int):=J;cases he:B1 hZ[k] xs with
   |false=>
    have iP:=I he;clear he;go_wp2_with (go_at_call 247;refine(acs hZ[k] _ _ _ xs _ (av.ext X)).mono ?_;rintro e w'⟨he,hy⟩;rw[iP.out]at he;subst he;change Hid _ at hy);first|rw[nJ]|skip
    go_ret;refine⟨iW (aoa (p:=λt=>B1 t xs) hk iP),?_⟩;exact X
   |true=>
    have iP:=I he;clear he;go_wp2_with (go_at_call 247;refine(acs hZ[k] _ _ _ xs _ (av.ext X)).mono ?_;rintro e w'⟨he,hy⟩;rw[iP.out]at he;subst he;change Hid _ at hy);go_roundg (gk - 1);case measure=>omega
    case rel=>exact⟨k+1,J,by go_num,rfl,acu (p:=λt=>B1 t xs) hk eU iP,X⟩
  ·have b9:hZ.take k=hZ:=ir J;rw[b9]at eU;clear b9;go_wp2;first|rw[nJ]|skip
   go_ret;refine⟨iW eU.symm,?_⟩;exact X
def aob(a:bk)(n cap:Nat)(xs:List lJ)(p:lJ->Bool)(fn:Nat)(aQ:Addr)(w:aC)(av:Du w a n cap xs)(bc:∀args w,(callFunc fn args).run prog w=.ok (.enter fn args) w)(cy:∀x,x∈xs->∀w',Z w w'->aR fn #[x.v,.pointer (some aQ)] w' λe fj=>e=.returned (.bool (p x))/\Z w' fj):
  aR 304 #[aq a n cap,.func (.func fn) #[] #[.pointer (some aQ)]] w (cM (.bool (xs.any p)) w):=by
 obtain rfl:=av.aF.neq;have hm:=av.aF.max;have aT:=av.aF.len;unfold maxLen at hm;change Hid _ at av cy;go_enter func304,ntmps304;go_wp2_with fail;go_loopg [6,9] (xs.length) (λg _ st wr=>∃k:Nat,g+k=xs.length/\st=.int .i64 k/\Hid ((xs.take k).any p=false)/\Hid (Z w wr));case atStart=>exact⟨0,J,rfl,rfl,Z.refl _⟩
 case round=>
  obtain⟨k,_,rfl,eO,U⟩:=hrel;by_cases hk:k<xs.length
  ·obtain⟨b,o,rfl,ao⟩:=av.aF.get k hk;have cT:=Rz (w:=wr) (b:=b) (o:=o+k*1) (x:=xs[k]) (λj v aJ=>U.ah (ao j v aJ));rw[jT]at cT;clear ao;refine kt ?_;intro b0 bd;cases he:p xs[k]with
   |true=>
    change Hid _ at he;go_wp2_with fail;refine J3 ?_;intro w1 hy;exact ab6
   |false=>
    change Hid _ at he;go_wp2_with fail;refine J3 ?_;intro w1 hy;exact Wu
  exact ab7
def aoc(x:lJ)(dK:bk)(eA dM:Nat)(aS:List cd)(aQ:Nat)(w:aC)(ef:a1 w 5 T.cs x.v.a x.v.n x.v.c x.ts)(jI:a1 w 4 cd.cs dK eA dM aS)(aW:w.cell? (aQ,0)=some ↑(aq dK eA dM)):
  aR 305 #[x.v,aQ] w (cM (.bool (sX x.ts aS)) w):=by
 change Hid _ at ef jI;go_enter func305,ntmps305;go_wp2_with (go_at_call 172;refine(acv _ _ _ x.ts _ _ _ aS _ (ef.ext X) (jI.ext X)).mono ?_;rintro e w'⟨rfl,U⟩;change Hid _ at U);go_ret;refine⟨rfl,?_⟩;exact X
def aod(a:bk)(n cap:Nat)(xs:List lJ)(dK:bk)(eA dM:Nat)(aS:List cd)(w:aC)(av:Du w a n cap xs)(jI:a1 w 4 cd.cs dK eA dM aS):
  aR 282 #[aq a n cap,aq dK eA dM] w (cM (.bool (xs.any λx=>sX x.ts aS)) w):=by
 change Hid _ at av jI;go_enter func282,ntmps282;go_wp2_with (go_at_call 304;refine(aob _ _ _ xs (λx=>sX x.ts aS) _ _ _ (av.ext X) (λ_ _=>by kernel_rfl) (λx U w' hw=>aoc x dK eA dM aS _ w' ((av.ts x U).ext (Z.trans X hw)) (jI.ext (Z.trans X hw)) (hw.ah (by simp)))).mono ?_;rintro e w'⟨rfl,U⟩;change Hid _ at U);go_ret;refine⟨rfl,?_⟩;exact X
def apart(f g:List T):Prop:=p2 f g=false/\p2 g f=false
def B2(c:UInt8):Bool:=decide ((97<=(c.toNat:Int)/\(c.toNat:Int)<=122)\/(48<=(c.toNat:Int)/\(c.toNat:Int)<=57))
def qE(s:List UInt8):Bool:=decide (1<=s.length/\s.length<=16)&&s.all B2
def aoe(s:ByteArray)(k:Nat)(h:k<s.size):s.data.toList.take (k+1)=s.data.toList.take k++[s[k]]:=by
 rw[iX (by simpa using h)];rfl
def aof{s:ByteArray}(hk:k<s.size)(h:(s.data.toList.take k).all B2=true)(he:B2 s[k]=true):(s.data.toList.take (k+1)).all B2=true:=by
 rw[aoe s k hk,List.all_append,h];simp[he]
def aog{s:ByteArray}(hk:k<s.size)(he:B2 s[k]=false):false=qE s.toList:=by
 have hm:s[k]∈s.toList:=by rw[Dk];exact c7 (by simpa using hk)
 have:s.toList.all B2=false:=JZ.2 ⟨s[k],hm,by rw[he];decide⟩;unfold qE;rw[this,Bool.and_false]
def aoh{s:ByteArray}(ae:1<=s.size)(ak:s.size<=16)(h:s.data.toList.all B2=true):true=qE s.toList:=by
 unfold qE;rw[yA,Lib.toList_data,h];simp[ae,ak]
def acw{s:ByteArray}(h:¬(1<=s.size/\s.size<=16)):false=qE s.toList:=by
 unfold qE;rw[yA];simp only[decide_eq_false h,Bool.false_and]
def RD(s:ByteArray)(w:aC):aR 244 #[s] w λe w'=>e=.returned (.bool (qE s.toList))/\w=w':=by
 by_cases ae:1<=s.size
 ·by_cases ak:s.size<=16
  ·have i1:(1:Int)<=(s.size:Int):=J;have ht:(s.size:Int)<=16:=J;go_enter func244,ntmps244;go_wp2_with fail;go_loopg [15] (s.size) (λg st wr=>∃k:Nat,g+k=s.size/\st=.int .i64 k/\Hid ((s.data.toList.take k).all B2=true)/\w=wr);case atStart=>exact⟨0,J,rfl,rfl,rfl⟩
   case round=>
    obtain⟨k,_,rfl,eU,rfl⟩:=hrel;by_cases hk:k<s.size
    ·have b0:(0:Int)<=(k:Int):=J;have bd:(k:Int)<(s.size:Int):=J;go_wp2_with fail
     all_goals first
      |(go_ret;exact⟨iW (aog hk (by unfold B2;simp;omega)),rfl⟩)
      |(go_roundg (gk - 1);(case measure=>omega);(case rel=>exact⟨k+1,J,by go_num,aof hk eU (by unfold B2;simp;omega),rfl⟩))
    ·have b9:s.data.toList.take k=s.data.toList:=ir (by simp;omega);rw[b9]at eU;go_wp2;go_ret;exact⟨iW (aoh ae ak eU),rfl⟩
  ·have H:=I (acw (s:=s) J);have ht:(16:Int)<(s.size:Int):=J;exact acx
 ·have H:=I (acw (s:=s) J);have i1:(s.size:Int)<1:=J;exact acx
def nt(t:T):Bool:=qE t.nm.toList&&xi t.op&&(if t.op=8 then decide (t.v=⟨0,0,[]⟩) else decide (wv t.k t.n t.s.toList=0)&&(!decide (t.op=7)||decide (t.k=2)))
def xo(b:Bool):Int:=if b=true then 0 else 50
def aoi{t:T}(h:nt t=true):t.ts.ok:=by
 unfold nt xi at h;simp only[ke,jQ]at h;obtain⟨⟨_,ak⟩,aM⟩:=h;by_cases fs:t.op=8
 ·exact⟨ak,.inl fs,λiZ=>by rw[show t.ts.op=t.op from rfl]at iZ;omega⟩
 ·rw[bj fs]at aM;simp only[ke,xh,jQ,FK,zy]at aM;exact⟨ak,.inr aM.1,λiZ=>aM.2.resolve_left (λn=>n iZ)⟩
def aoj(k n:Int)(s:ByteArray)(w:aC):
  (binOp .eql 74 (.agg #[k,n,s]) (.agg #[ar,ar,.string ⟨#[]⟩])).run prog w=.ok (.bool (decide ((⟨k,n,s.toList⟩:vu)=⟨0,0,[]⟩))) w:=by
 have uH:decide ((⟨k,n,s.toList⟩:vu)=⟨0,0,[]⟩)=decide (k=0/\n=0/\s.toList= []):=FI.2 (by simp);rw[uH];by_cases aM:k=0
 ·by_cases bn:n=0
  ·by_cases cb:s.toList= []
   ·simp[aM,bn,cb,go_sem]
   ·simp[aM,bn,cb,go_sem]
  ·simp[aM,bn,go_sem]
 ·simp[aM,go_sem]
def acy(t:T)(w:aC):aR 296 #[.agg #[t.nm,t.op,t.k,t.n,t.s]] w (cM (.int .i64 (xo (nt t))) w):=by
 have heq:=aoj t.k t.n t.s;go_enter func296,ntmps296;go_wp2_with (first|(go_at_call 244;refine(RD _ _).mono ?_;rintro e w'⟨rfl,rfl⟩)|(go_at_call 245;refine(FB _ _ _ _).mono ?_;rintro e w'⟨rfl,U⟩;have ao:=U.cell;change Hid _ at U))
 all_goals
  go_ret
  refine⟨jC ?_,X⟩
  unfold xo nt xi
  simp_all[T.v]
  try omega
  try (intros;simp_all)
def mY(xs:List T):Bool:=decide (xs.length<=8)&&xs.all nt
def aok{xs:List T}(h:mY xs=true):xs.length<=8/\an8 xs:=by
 unfold mY at h;simp only[ke,jQ,uL]at h;exact⟨h.1,λt a6=>aoi (h.2 t a6)⟩
def aol{xs:List T}(h:¬xs.length<=8):(50:Int)=xo (mY xs):=by unfold mY;rw[decide_eq_false h];rfl
def aom{xs:List T}(hk:k<xs.length)(h:nt xs[k]=false):(50:Int)=xo (mY xs):=by
 have:xs.all nt=false:=JZ.2 ⟨xs[k],c7 hk,by rw[h];decide⟩;unfold mY;rw[this,Bool.and_false];rfl
def aon{xs:List T}(h:xs.length<=8)(k:xs.all nt=true):(0:Int)=xo (mY xs):=by unfold mY;rw[decide_eq_true h,k];rfl
def RE(a:bk)(n cap:Nat)(xs:List T)(w:aC)(av:a1 w 5 T.cs a n cap xs):
  aR 256 #[aq a n cap] w (cM (.int .i64 (xo (mY xs))) w):=by
 obtain rfl:=av.neq;have hm:=av.max;unfold maxLen at hm;change Hid _ at av;by_cases fs:xs.length<=8
 ·have WG:(xs.length:Int)<=8:=J;go_enter func256,ntmps256;go_wp2_with fail;go_loopg [11] (xs.length) (λg st wr=>∃k:Nat,g+k=xs.length/\st=.int .i64 k/\Hid ((xs.take k).all nt=true)/\Hid (Z w wr));case atStart=>exact⟨0,J,rfl,rfl,Z.refl _⟩
  case round=>
   obtain⟨k,_,rfl,eU,U⟩:=hrel;by_cases hk:k<xs.length
   ·obtain⟨b,o,rfl,ao⟩:=av.get k hk;refine Rt ?_;intro cT c1 c2 da dJ;refine kt ?_;intro b0 bd;cases he:nt xs[k]with
    |false=>
     have iP:=I (show xo (nt xs[k])=50 from by rw[he];rfl);have WH:=I he;go_wp2_with (go_at_call 296;refine(acy xs[k] _).mono ?_;rintro e w'⟨he,hy⟩;rw[iP.out]at he;subst he;change Hid _ at hy);go_ret;refine⟨jC (aom hk WH),?_⟩;exact X
    |true=>
     have iP:=I (show xo (nt xs[k])=0 from by rw[he];rfl);have WH:=I he;go_wp2_with (go_at_call 296;refine(acy xs[k] _).mono ?_;rintro e w'⟨he,hy⟩;rw[iP.out]at he;subst he;change Hid _ at hy);go_roundg (gk - 1);case measure=>omega
     case rel=>exact⟨k+1,J,by go_num,acu (p:=nt) hk eU WH,X⟩
   ·refine se ?_;intro b9;rw[b9]at eU;go_wp2;go_ret;refine⟨jC (aon fs eU),?_⟩;exact X
 ·have WG:(8:Int)<(xs.length:Int):=J;have H:=I (aol fs);go_enter func256,ntmps256;go_wp2_with fail;go_ret;refine⟨jC H,?_⟩;exact X
def a1.take{c:α->List Value}{xs:List α}(h:a1 w sz c a n cap xs)(k:Nat)(hk:k<=n):a1 w sz c a k cap (xs.take k):=
 ⟨by rw[o9];have:=h.neq;omega,eh hk h.len,h.max,h.none,h.bH,λj x aJ=>by
  rw[List.getElem?_take]at aJ;split at aJ
  ·exact h.at_ j x aJ
  ·cases aJ⟩
def a1.drop{c:α->List Value}{xs:List α}(h:a1 w sz c (some ⟨b,o,.none⟩) n cap xs)(k:Nat)(hk:k<=n):a1 w sz c (some ⟨b,o+k*sz,.none⟩) (n - k) (cap - k) (xs.drop k):=
 ⟨by rw[Dx];have:=h.neq;omega,by have:=h.len;omega,by have:=h.max;omega,(λh=>by cases h),h.bH,λj x aJ=>by
  rw[RF]at aJ;obtain⟨_,_,he,ao⟩:=h.at_ _ x aJ;simp only[Option.some.injEq,Addr.mk.injEq,FJ]at he;obtain⟨rfl,rfl⟩:=he
  exact⟨_,_,rfl,by rw[show o+k*sz+j*sz=o+(k+j)*sz from by rw[Hr];omega];exact ao⟩⟩
def a1.acz{c:α->List Value}{xs:List α}(h:a1 w 1 c (some ⟨b,o,.none⟩) n cap xs)(k:Nat)(hk:k<=n):a1 w 1 c (some ⟨b,o+k,.none⟩) (n - k) (cap - k) (xs.drop k):=by
 have:=h.drop k hk;rw[jT]at this;exact this
def a1.aoo{c:α->List Value}(hw:∀x,(c x).length=sz)(hm:cap<=maxLen):a1 w sz c (some ⟨b,o,.none⟩) 0 cap ([]:List α):=
 ⟨rfl,hX _,hm,(λh=>by cases h),hw,λk x hk=>by cases hk⟩
structure fo (w:World) where
 mn:World
 ct:Z w mn
instance (w:World):Inhabited (fo w):=⟨⟨w,Z.refl w⟩⟩
def B3{id:Nat}{a:Act}{l:List Oper}(hm:P.follows .mixedOrders=true)(br:Region.lexB .any l.toArray=true)(h:wpQuiet P l.toArray (λw'=>∃p:fo w,w'=p.mn) (λhU=>∀w',(∃p:fo w,w'=p.mn)->Q .normal hU w') l a):(Code.region id l.toArray true).wp P Q a w:=
 wp_region_quiet (C:=λw'=>∃p:fo w,w'=p.mn) hm br ⟨⟨w.drew,Z.drew (Z.refl w)⟩,rfl⟩ (by simpa using h)
def Calls.nL{f:FuncId}{args:Array Value}{p:fo w}{u v:Value}(h:Calls P f args p.mn λe w'=>e=.returned u/\Z p.mn w')(bo:u=v):Calls P f args p.mn λe fj=>e=.returned v/\∃q:fo w,fj=q.mn:=
 h.mono λ_ fj ⟨he,U⟩=>⟨by rw[he,bo],⟨fj,Z.trans p.ct U⟩,rfl⟩
def fo.cell{a:Addr}{v:Value}(h:w.cell? a=some v):∀p:fo w,p.mn.cell? a=some v:=λp=>p.ct.ah h
structure aA where
 b:Int
 l:Int
 s:Int
deriving DecidableEq,Inhabited
instance:Coe aA Value:=⟨λx=>.agg #[.int .i64 x.b,.int .u64 x.l,.int .u64 x.s]⟩
instance:Coe aA Obj:=⟨λx=>.cells #[.int .i64 x.b,.int .u64 x.l,.int .u64 x.s] 54⟩
def aA.cs(i:aA):List Value:= [.int .i64 i.b,.int .u64 i.l,.int .u64 i.s]
structure b1 where
 k:Int
 id:aA
 c:Int
 u:Int
 f:iY
 e:iY
instance:Coe b1 Value:=⟨λx=>.agg #[.int .i64 x.k,.int .i64 x.id.b,.int .u64 x.id.l,.int .u64 x.id.s,.int .i64 x.c,.int .u64 x.u,.slice x.f.a x.f.n x.f.c,.slice x.e.a x.e.n x.e.c]⟩
instance:Coe b1 Obj:=⟨λx=>.cells #[.int .i64 x.k,.int .i64 x.id.b,.int .u64 x.id.l,.int .u64 x.id.s,.int .i64 x.c,.int .u64 x.u,.slice x.f.a x.f.n x.f.c,.slice x.e.a x.e.n x.e.c] 66⟩
def b1.cs(x:b1):List Value:= [.int .i64 x.k,.int .i64 x.id.b,.int .u64 x.id.l,.int .u64 x.id.s,.int .i64 x.c,.int .u64 x.u,.slice x.f.a x.f.n x.f.c,.slice x.e.a x.e.n x.e.c]
def b1.bH(x:b1):x.cs.length=8:=rfl
def b1.cN(x:b1):∀u∈x.cs,u.oneCell'=true:=by
 intro u al;simp only[b1.cs,nK,sW,tJ]at al;exact WI
structure eJ where
 v:iY
 dH:List cd
def eJ.cs(x:eJ):List Value:= [.slice x.v.a x.v.n x.v.c]
def eJ.bH(x:eJ):x.cs.length=1:=rfl
def eJ.cN(x:eJ):∀u∈x.cs,u.oneCell'=true:=by
 intro u al;simp only[eJ.cs,nK,sW,tJ]at al;rcases al with rfl;rfl
structure xp (w:World) (a:Option Addr) (n c:Nat) (xs:List eJ):Prop where
 aF:a1 w 1 eJ.cs a n c xs
 dH:∀x,x∈xs->a1 w 4 cd.cs x.v.a x.v.n x.v.c x.dH
def xp.ext{c:Nat}{xs:List eJ}(h:xp w a n c xs)(U:Z w w'):xp w' a n c xs:=⟨h.aF.ext U,λx hm=>(h.dH x hm).ext U⟩
def RG(w:World)(a:Option Addr)(n c:Nat)(aS:List (List cd)):Prop:=∃xs:List eJ,xs.map (·.dH)=aS/\xp w a n c xs
def RG.ext{c:Nat}{aS:List (List cd)}(h:RG w a n c aS)(U:Z w w'):RG w' a n c aS:=let ⟨xs,e,k⟩:=h;⟨xs,e,k.ext U⟩
structure bg where
 k:Int
 id:aA
 c:Int
 u:Int
 ts:List T
 aS:List (List cd)
structure h0 (w:World) (x:b1) (d:bg):Prop where
 k:x.k=d.k
 id:x.id=d.id
 c:x.c=d.c
 u:x.u=d.u
 f:a1 w 5 T.cs x.f.a x.f.n x.f.c d.ts
 e:RG w x.e.a x.e.n x.e.c d.aS
def h0.ext{x:b1}{d:bg}(h:h0 w x d)(U:Z w w'):h0 w' x d:=⟨h.k,h.id,h.c,h.u,h.f.ext U,h.e.ext U⟩
structure bO where
 x:b1
 d:bg
def bO.cs(p:bO):List Value:=p.x.cs
def bO.bH(p:bO):p.cs.length=8:=rfl
structure ja (w:World) (a:Option Addr) (n c:Nat) (ps:List bO):Prop where
 aF:a1 w 8 bO.cs a n c ps
 ct:∀p,p∈ps->h0 w p.x p.d
def ja.ext{c:Nat}{ps:List bO}(h:ja w a n c ps)(U:Z w w'):ja w' a n c ps:=⟨h.aF.ext U,λp aV=>(h.ct p aV).ext U⟩
def a1.map{c:β->List Value}{xs:List α}(g:α->β)(h:a1 w sz (λx=>c (g x)) a n cap xs)(hw:∀y,(c y).length=sz):a1 w sz c a n cap (xs.map g):=
 ⟨by rw[cr];exact h.neq,h.len,h.max,h.none,hw,λk y hk=>by
  rw[nu]at hk;cases U:xs[k]? with
  |none=>rw[U]at hk;cases hk
  |some x=>rw[U]at hk;cases hk;exact h.at_ k x U⟩
def ja.dz{c:Nat}{ps:List bO}(h:ja w a n c ps):a1 w 8 b1.cs a n c (ps.map (·.x)):=a1.map (λp:bO=>p.x) h.aF b1.bH
structure mo (d:bg):Prop where
 ts:d.ts.length<=100
 aS:d.aS.length<=100
 dH:∀e,e∈d.aS->e.length<=100
def HA{x:eJ}(h:r9 w b o x.cs):w.cell? (b,o)=some ↑x.v:=h 0 _ rfl
end Go.Proofs.YtfiiblnenhdlhaaGreat
