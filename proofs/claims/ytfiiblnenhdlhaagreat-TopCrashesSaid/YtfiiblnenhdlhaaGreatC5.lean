/- Part. -/
import Derived.Test.YtfiiblnenhdlhaaGreatC4
set_option linter.unusedVariables false
set_option linter.unusedSimpArgs false
set_option linter.defProp false
set_option maxRecDepth 100000
set_option maxHeartbeats 4000000
namespace Go.Proofs.YtfiiblnenhdlhaaGreat
open Go.RowKit Tryz
variable {au ps:List bU}{aU:List bb}{base cap dA dE g k n q sz:Nat}{S:Nat->Prop}{fr:Nat×Nat}{a aA:Option Addr}{α:Type}{e t:TypeId}{w w':World}{i:ax}{x:bR}{d:bb}{r:e9}{s:ew}
section
section
variable {P:Program}{ops:Array Oper}{Q:Exit->Act->World->Prop}{md:Region.Mode}{S:World->Prop}{L:Nat}
def reach(md:Region.Mode)(ops:Array Oper):Nat->Nat->Nat->Bool
 |0,_,_=>false
 |n+1,j,i=>match ops[j]? with
  |some o=>o.after.any (λe=>Region.binds md e&&(e.on==i||reach md ops n e.on i))
  |none=>false
def AN(md:Region.Mode)(ops:Array Oper)(l:Array Bool):Bool:=
 (List.range ops.size).all λj=> !l.getD j false||((ops[j]?).map (·.after.all λe=> !Region.binds md e||l.getD e.on false)).getD true
def ae7{l:Array Bool}(h:AN md ops l=true){j:Nat}{o:Oper}(aM:ops[j]?=some o)(a1:l.getD j false=true):∀e∈o.after,Region.binds md e=true->l.getD e.on false=true:=by
 unfold AN at h;rw[Ad]at h;have:=h j (xd.2 (Et.1 aM).1);rw[a1,aM]at this;simp only[Bool.not_true,Bool.false_or,Gc,T4,Array.all_eq_true',vK,Eo]at this;intro e he ad;rcases this e he with k|k
 ·rw[ad]at k;cases k
 ·exact k
def aqU{i:Nat}{l:Array Bool}(az:i∈Region.ready md ops l):l.getD i false=false:=by
 have aZ:=(mem_ready.1 az).1;rcases Bh i l.size with k|k
 ·simpa[k]using aZ
 ·simp[Nn k]at aZ
def ae8{l:Array Bool}(al:AN md ops l=true){i:Nat}(aK:l.getD i false=false):∀(n j:Nat),reach md ops n j i=true->∃o,ops[j]?=some o/\∃e∈o.after,Region.binds md e=true/\l.getD e.on false=false
 |0,_,h=>by cases h
 |n+1,j,h=>by
  unfold reach at h
  cases aM:ops[j]? with
  |none=>rw[aM]at h;cases h
  |some o=>
   rw[aM]at h
   obtain⟨e,he,ad⟩:=Array.any_eq_true'.1 h
   rw[jS,vK,F1]at ad
   obtain⟨ad,hk⟩:=ad
   refine⟨o,rfl,e,he,ad,?_⟩
   rcases hk with hk|hk
   ·rw[hk];exact aK
   ·obtain⟨_,p1,cq,T5,iX,o6⟩:=ae8 al aK n e.on hk
    cases a1:l.getD e.on false with
    |false=>rfl
    |true=>rw[ae7 al p1 a1 cq T5 iX]at o6;cases o6
def ae9{l:Array Bool}(al:AN md ops l=true){n i:Nat}(h:reach md ops n L i=true)(az:i∈Region.ready md ops l):L∉Region.ready md ops l:=λeV=>by
 obtain⟨o,aM,e,he,ad,a1⟩:=ae8 al (aqU az) n L h;obtain⟨_,_,vm,wu⟩:=mem_ready.1 eV;rw[aM]at vm;cases vm;have:=wu e he ad;rw[a1]at this;cases this
def aqV{l:Array Bool}(al:AN md ops l=true){j:Nat}(az:j∈Region.ready md ops l):AN md ops (l.setIfInBounds j true)=true:=by
 have mono:∀k,l.getD k false=true->(l.setIfInBounds j true).getD k false=true:=λk hk=>by
  by_cases e:j=k
  ·subst e;rcases Bh j l.size with z|z
   ·simp[z]
   ·simp[Nn z]at hk
  ·rw[getD_set_ne false e];exact hk
 unfold AN;rw[Ad];intro k _;cases aM:ops[k]? with
 |none=>simp
 |some o=>
  simp only[Gc,T4,vK,Eo,Array.all_eq_true'];by_cases e:j=k
  ·subst e;obtain⟨_,_,vm,wu⟩:=mem_ready.1 az;rw[aM]at vm;cases vm;refine .inr (λx X=>?_);cases ad:Region.binds md x with
   |false=>exact .inl rfl
   |true=>exact .inr (mono _ (wu x X ad))
  ·rw[getD_set_ne false e];cases a1:l.getD k false with
   |false=>exact .inl rfl
   |true=>
    refine .inr (λx X=>?_);cases ad:Region.binds md x with
    |false=>exact .inl rfl
    |true=>exact .inr (mono _ (ae7 al aM a1 x X ad))
def aqW{i:Nat}{gl:Oper}{v:Value}(aK:ops[i]?=some gl)(Pd:∀(j:Nat) (o:Oper) cs b,ops[j]?=some o->o.op≠.select cs b)(iQ:∀c a w,Q (.panic c) (a.put gl.dst v) w->Q (.panic c) a w){m:Nat}(eV:reach md ops m L i=true):
  ∀(n:Nat) (l:Array Bool) (a:Act) (w:aC),AN md ops l=true->
   (∀j uA,ops[j]?=some uA->j≠i->l.getD j true=false->(∀e∈uA.after,Region.binds md e=true->e.on≠i)->gl.apart ops uA=true)->
   i∈Region.ready md ops l->l.getD L true=false->YieldsIf P ops S gl v a->S w->
   qa P md ops Q S L n (l.setIfInBounds i true) (a.put gl.dst v) w->qa P md ops Q S L (n+1) l a w:=by
 intro n;induction n with
 |zero=>
  intro l a w _ _ az BV hy bj H;refine⟨(λh=>by rw[h]at az;cases az),λj aD=>?_⟩;by_cases e:j=i
  ·subst e;exact hy.wpOp aK bj ⟨λ_ _=>bj,H⟩
  ·have:=ready_mono aD e;rw[H.1]at this;cases this
 |succ n cY=>
  intro l a w hv Pe az BV hy bj H;refine⟨(λh=>by rw[h]at az;cases az),λj aD=>?_⟩;by_cases e:j=i
  ·subst e;exact hy.wpOp aK bj ⟨λ_ _=>bj,H⟩
  ·obtain⟨Jb,uA,vm,wu⟩:=mem_ready.1 aD;have eO:∀e∈uA.after,Region.binds md e=true->e.on≠i:=λe he ad k=>Zp az k (wu e he ad);have Pf:=wpOp_putIf vm (Pe j uA vm e Jb eO) (λcs b=>Pd i gl cs b aK) (λcs b=>Pd j uA cs b vm) iQ hy (H.2 j (ready_mono aD e));have LG:j≠L:=λz=>by subst z;exact ae9 hv eV az aD
   have aqX:i≠L:=λz=>by subst z;exact ae9 hv eV az az
   have o6:(l.setIfInBounds i true).getD L true=false:=by rw[getD_set_ne true aqX];exact BV
   refine wpOp_mono (λga w' k=>⟨λ_ _=>k.2.1 o6 LG,cY (l.setIfInBounds j true) ga w' (aqV hv aD) (λm J Zq Pg Zr Ge=>?_) (ready_mono az (Ne.symm e)) (by rw[getD_set_ne true LG];exact BV) k.1 (k.2.1 o6 LG) ?_⟩) Pf
   ·refine Pe m J Zq Pg ?_ Ge;by_cases Pj:j=m
    ·subst Pj;exact Jb
    ·rwa [getD_set_ne true Pj]at Zr
   ·rw[Array.setIfInBounds_comm _ _ e];exact k.2.2
def Zt(i:Nat)(d:Option Tmp){v:Value}{n:Nat}{l:Array Bool}{a:Act}{w:aC}(hs:Region.noSelect ops=true)(bk:Region.free md ops l i=true)(az:(Region.ready md ops l).contains i=true)(eV:reach md ops ops.size L i=true)(al:AN md ops l=true)(BV:l.getD L true=false)(iQ:∀c a w,Q (.panic c) (a.put d v) w->Q (.panic c) a w)(hy:∃gl,ops[i]?=some gl/\gl.dst=d/\YieldsIf P ops S gl v a)(bj:S w)(h:qa P md ops Q S L n (l.setIfInBounds i true) (a.put d v) w):qa P md ops Q S L (n+1) l a w:=by
 obtain⟨gl,aK,rfl,hy⟩:=hy;exact aqW aK (Region.noSelect_spec hs) iQ eV n l a w al (Region.free_spec aK bk) (by simpa using az) BV hy bj h
end
section
variable {P:Program}{ops:Array Oper}{Q:Exit->Act->World->Prop}{md:Region.Mode}{S:World->Prop}{v:Value}{n:Nat}{l:Array Bool}{a:Act}{w:World}{gl:Oper}{q:Prop}{L:Nat}{A:World->Prop}
def dC(i:Nat){d:Nat}(k:q)(bj:S w:=by exact bd)(aM:ops[i]?=some gl:=by rfl)(aG:gl.dst=some d:=by rfl)(hs:Region.noSelect ops=true:=by kernel_rfl)(bk:Region.free md ops l i=true:=by kernel_rfl)(az:(Region.ready md ops l).contains i=true:=by kernel_rfl)(eV:reach md ops ops.size L i=true:=by kernel_rfl)(al:AN md ops l=true:=by kernel_rfl)(BV:l.getD L true=false:=by rfl)(iQ:∀c a w,Q (.panic c) (a.put (some d) v) w->Q (.panic c) a w:=by exact λ_ _ _ h=>h)(hw:Region.wanted gl (yielded ops a.tmps)=true:=by rfl)(hy:∀w,S w->(execOp a.eval gl).run P w=.ok (.value v) w:=by intro w fh;(try dsimp only at fh);go_simp;(first|done|with_reducible rfl))(h:q->qa P md ops Q S L n (l.setIfInBounds i true) (a.put (some d) v) w:=by intro k;(try simp only[Act.put,pf,oC,oD]);exact k):qa P md ops Q S L (n+1) l a w:=
 Zt i (some d) hs bk az eV al BV iQ ⟨_,aM,aG,.inl ⟨hw,hy⟩⟩ bj (h k)
def AO(i:Nat){d:Nat}(f:∀{w},S w->A w)(k:q)(bj:S w:=by exact bd)(aM:ops[i]?=some gl:=by rfl)(aG:gl.dst=some d:=by rfl)(hs:Region.noSelect ops=true:=by kernel_rfl)(bk:Region.free md ops l i=true:=by kernel_rfl)(az:(Region.ready md ops l).contains i=true:=by kernel_rfl)(eV:reach md ops ops.size L i=true:=by kernel_rfl)(al:AN md ops l=true:=by kernel_rfl)(BV:l.getD L true=false:=by rfl)(iQ:∀c a w,Q (.panic c) (a.put (some d) v) w->Q (.panic c) a w:=by exact λ_ _ _ h=>h)(hw:Region.wanted gl (yielded ops a.tmps)=true:=by rfl)(hy:(∀{w},S w->A w)->∀w,S w->(execOp a.eval gl).run P w=.ok (.value v) w:=by intro f w fh;have dU:=f fh;(try dsimp only at dU);go_simp;(first|done|with_reducible rfl))(h:q->qa P md ops Q S L n (l.setIfInBounds i true) (a.put (some d) v) w:=by intro k;(try simp only[Act.put,pf,oC,oD]);exact k):qa P md ops Q S L (n+1) l a w:=
 Zt i (some d) hs bk az eV al BV iQ ⟨_,aM,aG,.inl ⟨hw,hy f⟩⟩ bj (h k)
def kG(i:Nat){d:Nat}(f:∀{w},S w->A w)(k:q)(bj:S w:=by exact bd)(aM:ops[i]?=some gl:=by rfl)(aG:gl.dst=some d:=by rfl)(hs:Region.noSelect ops=true:=by kernel_rfl)(bk:Region.free md ops l i=true:=by kernel_rfl)(az:(Region.ready md ops l).contains i=true:=by kernel_rfl)(eV:reach md ops ops.size L i=true:=by kernel_rfl)(al:AN md ops l=true:=by kernel_rfl)(BV:l.getD L true=false:=by rfl)(iQ:∀c a w,Q (.panic c) (a.put (some d) v) w->Q (.panic c) a w:=by exact λ_ _ _ h=>h)(hw:Region.wanted gl (yielded ops a.tmps)=true:=by rfl)(hy:(∀{w},S w->A w)->∀w,S w->(execOp a.eval gl).run P w=.ok (.value v) w:=by intro f w fh;have bs:=f fh;clear f;(try dsimp only at bs);(try have dU:=aL (o:=0) bs rfl);(try have cm:=aL (o:=1) bs rfl);(try have cq:=aL (o:=2) bs rfl);(try have fo:=aL (o:=3) bs rfl);(try have iM:=aL (o:=4) bs rfl);(try have kB:=aL (o:=5) bs rfl);(try have mi:=aL (o:=6) bs rfl);(try have lA:=aL (o:=7) bs rfl);(try have wq:=aL (o:=8) bs rfl);(try have Dr:=aL (o:=9) bs rfl);(try have Pc:=aL (o:=10) bs rfl);(try have ae1:=aL (o:=11) bs rfl);(try have ae2:=aL (o:=12) bs rfl);(try have ae3:=aL (o:=13) bs rfl);clear bs;go_simp;(first|done|with_reducible rfl))(h:q->qa P md ops Q S L n (l.setIfInBounds i true) (a.put (some d) v) w:=by intro k;(try simp only[Act.put,pf,oC,oD]);exact k):qa P md ops Q S L (n+1) l a w:=
 Zt i (some d) hs bk az eV al BV iQ ⟨_,aM,aG,.inl ⟨hw,hy f⟩⟩ bj (h k)
end
end
def zF{K:Act->aC->Prop}{a:Act}{d zw:Option Tmp}{v:Value}(aG:zw=d)(h:K (a.put d v) w):K (a.put zw v) w:=aG▸h
def fD.Ay{B:Nat}{c:Nat}{cs:Array Value}(h:fD w base a n c ps)(ad:w.heap[B]?=some (.cells cs t fr))(aZ:66≠t)(af:154≠t)(an:34≠t)(aO:77≠t)(aj:aI (λx=>x=B) w w'):fD w' base a n c ps:=
 ⟨aj.bS h.cj (h.cj.eW ad aZ),λp aY=>(h.ck p aY).Ay ad af an aO aj⟩
def Dt{R:Nat}(h:aI S w w')(bB:S R\/(w:Nat)<=R)(v0 v1 v2 v3:Value):aI S w ((((w'.setCell (R,0) v0).setCell (R,1) v1).setCell (R,2) v2).setCell (R,3) v3):=
 (((h.setCell (R,0) bB v0).setCell (R,1) bB v1).setCell (R,2) bB v2).setCell (R,3) bB v3
def LJ{R:Nat}{cO c1 c2 cV:Value}(h:w.heap[R]?=some (.cells #[cO,c1,c2,cV] t fr))(v0 v1 v2 v3:Value):((((w.setCell (R,0) v0).setCell (R,1) v1).setCell (R,2) v2).setCell (R,3) v3).heap[R]?=some (.cells #[v0,v1,v2,v3] t fr):=
 en (en (en (en h 0 v0) 1 v1) 2 v2) 3 v3
def Zu(d:ew)(w:World)(e:Ending)(w':World):Prop:=
 ∃s au ps,e=.returned (.agg #[ae s.cX,s.l,s.p,s.b])/\rI w' w.heap.size s d au ps/\Z w w'
theorem aqY (s:iJ) (d:ew) (au ps:List bU) (w:World) (a8:q6 w s d au ps) (b6:O0 d):
  aS 310 #[s] w (Zu d w):=by
 obtain⟨cX,⟨er,fk,lc⟩,⟨cL,gJ,fv⟩,⟨gv,hU,fP⟩⟩:=s
 dsimp only
 obtain⟨ct,bO,bL,bM,bP⟩:=info_parts Ao
 replace bO:=I bO;replace bL:=I bL;replace bM:=I bM;replace bP:=I bP
 obtain⟨dK,eY,e5,e6,e7⟩:=info_parts yY
 replace eY:=I eY;replace e5:=I e5;replace e6:=I e6;replace e7:=I e7
 have nN:hU<=200000:=by have:=a8.b.neq;have:=b6.bW;dsimp only at*;omega
 have ev:=I (show ∀p,p∈au->my p.d from λp aY=>(b6.au _ (ad4 a8.jI aY)).r8)
 have aqZ:=I (show ∀p,p∈ps->my p.d from λp aY=>(b6.ps _ (ad4 a8.kV aY)).r8)
 have zG:=I (show au.length<=200000 from by rw[<-List.length_map (f:=(·.d)),a8.jI];exact b6.se)
 have Du:=I (show ps.length<=200000 from by rw[<-List.length_map (f:=(·.d)),a8.kV];exact b6.h6)
 have C9:fk=au.length:=a8.l.aF.neq
 have AP:gJ=ps.length:=a8.p.aF.neq
 subst C9 AP
 replace b6:=I b6;replace a8:=I a8
 go_enter func310,ntmps310
 go_upto_region 1 with fail
 go_cut [3] (λv eD=>∃(q:Nat) (cP:Option Addr) (da c1:Nat),v=.pointer (some (q,0))/\Hid (eD.heap[q]?=some (.cells #[ae cX,aP,aP,ao cP da c1] 44))/\(w:Nat)+1<q/\Hid (aH eD w 54 3 ax.cs cP da c1 d.aB)/\Hid (Z ((w.alloc (.cells #[ae cX,ao er au.length lc,ao cL ps.length fv,ao gv hU fP] 44)).alloc lD) eD))
 case first=>
  have dV:((w.alloc (.cells #[ae cX,ao er au.length lc,ao cL ps.length fv,ao gv hU fP] 44)).alloc lD).heap[(w:Nat)]?=some (.cells #[ae cX,ao er au.length lc,ao cL ps.length fv,ao gv hU fP] 44):=gA
  have q1:((w.alloc (.cells #[ae cX,ao er au.length lc,ao cL ps.length fv,ao gv hU fP] 44)).alloc lD).heap[(w:Nat)+1]?=some (lD:Obj):=gA
  have afa:Z w ((w.alloc (.cells #[ae cX,ao er au.length lc,ao cL ps.length fv,ao gv hU fP] 44)).alloc lD):=U
  have nU:((w.alloc (.cells #[ae cX,ao er au.length lc,ao cL ps.length fv,ao gv hU fP] 44)).alloc lD).heap.size=(w:Nat)+1+1:=by simp
  generalize kE:((w.alloc (.cells #[ae cX,ao er au.length lc,ao cL ps.length fv,ao gv hU fP] 44)).alloc lD)=w1 at dV q1 afa nU ⊢
  have pg:=I afa
  replace nU:=I nU
  refine BU 7 (λw'=>w'.heap[(w:Nat)]?=some (.cells #[ae cX,ao er au.length lc,ao cL ps.length fv,ao gv hU fP] 44)) (λbd=>?_) (by(try dsimp only);exact Z.ay (W:=w1) U dV)
  refine gR 0 ?_
  refine l1 1 id ?_
  refine gR 2 ?_
  refine l1 3 id ?_
  refine yf (rs:= [4,6]) bQ (by simp) ?_
  refine Jc rfl (λK aE=>?_) (Jc rfl (λK aE=>?_) LH)
  ·refine W7 (c:=ax.cs) (ys0:= []) (ys:=d.aB) rfl (.const aP) (.tmp 11) 31 54 rfl dK _ 24 underlying31 eY e5 e6 e7 rfl ah rfl w1 U (aH.nil _ _ _ ax.bI) rfl (a8.b.ext U) ax.cQ J ah ?_;intro cP da c1 aN hA jc br py;have c7:=I jc;have bz:=I br;have GZ:hU=da:=J;subst GZ;clear jc br py hA
   refine zF (d:=some 12) rfl ?_
   refine aE _ _ (λ_=>(by(try dsimp only);exact Z.ay (W:=w1) U dV)) λhH=>ej ?_;have bd:=hH ah
   refine gR 5 ?_
   refine kW 6 λK aE=>?_
   go_simp
   refine aE _ _ (λ_=>(by(try dsimp only);exact Z.ay (W:=w1) U dV)) λhH=>ej ?_;have bd:=hH ah
   refine kW 7 λK aE=>?_
   go_simp
   refine aE _ _ (absurd rfl ·) λ_=>ej ?_
   refine Ds bQ ?_ _
   go_wp2_with fail
   go_meet
   exact⟨_,cP,_,c1,rfl,I gA,by have:=bz.size;have:=nU.out;omega,((c7.mono (by have:=nU.out;omega)).ext U),by rw[kE];exact U⟩
  ·go_simp
   refine aE _ _ (λ_=>(by(try dsimp only);exact Z.ay (W:=w1) U dV)) λhH=>ej ?_;have bd:=hH ah
   refine kW 4 λK aE=>?_
   refine W7 (c:=ax.cs) (ys0:= []) (ys:=d.aB) rfl (.const aP) (.tmp 11) 31 54 rfl dK _ 24 underlying31 eY e5 e6 e7 rfl ah rfl _ (Z.refl _) (aH.nil _ _ _ ax.bI) rfl (a8.b.ext U) ax.cQ J ah ?_;intro cP da c1 aN hA jc br py;have c7:=I jc;have bz:=I br;have GZ:hU=da:=J;subst GZ;clear jc br py hA
   have G0:=bz.ay (e2 (w:=w1.drew) (o:=(lD:Obj)) (n:=(w1:Nat)) (by simp))
   obtain⟨aAm,aAn,aAo,aAp,adQ⟩:=C8 G0
   refine zF (d:=some 12) rfl ?_
   refine aE _ _ (λ_=>(by(try dsimp only);exact Z.ay (W:=w1) U dV)) λhH=>ej ?_;have bd:=hH ah
   refine gR 5 ?_
   refine kW 7 λK aE=>?_
   go_simp
   refine aE _ _ (absurd rfl ·) λ_=>ej ?_
   refine Ds bQ ?_ _
   go_wp2_with fail
   go_meet
   have afb:=en (en (en (en G0 0 (ae cX)) 1 aP) 2 aP) 3 (ao cP hU c1)
   refine⟨_,cP,hU,c1,rfl,afb,by have:=nU.out;omega,?_,?_⟩
   ·have aM:=(c7.mono (aBw:=(w:Nat)) (by simp;have:=nU.out;omega))
    exact(((aM.lY G0 ah (j:=0) (ae cX)).lY (en G0 0 _) ah (j:=1) aP).lY (en (en G0 0 _) 1 _) ah (j:=2) aP).lY (en (en (en G0 0 _) 1 _) 2 _) ah (j:=3) (ao cP hU c1)
   ·rw[kE]
    have X:Z w1 aN:=U
    exact(((X.setCell (Nat.le_refl _) _).setCell (Nat.le_refl _) _).setCell (Nat.le_refl _) _).setCell (Nat.le_refl _) _
 case rest=>
  obtain⟨q,cP,da,c1,rfl,bs,fH,aJ,X⟩:=hcut
  have pg:((w.alloc (.cells #[ae cX,ao er au.length lc,ao cL ps.length fv,ao gv hU fP] 44)).alloc lD).heap[(w:Nat)]?=some (.cells #[ae cX,ao er au.length lc,ao cL ps.length fv,ao gv hU fP] 44):=gA
  have hX:((w.alloc (.cells #[ae cX,ao er au.length lc,ao cL ps.length fv,ao gv hU fP] 44)).alloc lD).heap[(w:Nat)+1]?=some (lD:Obj):=gA
  have bz:Z w ((w.alloc (.cells #[ae cX,ao er au.length lc,ao cL ps.length fv,ao gv hU fP] 44)).alloc lD):=U
  have nU:((w.alloc (.cells #[ae cX,ao er au.length lc,ao cL ps.length fv,ao gv hU fP] 44)).alloc lD).heap.size=(w:Nat)+1+1:=by simp
  generalize kE:((w.alloc (.cells #[ae cX,ao er au.length lc,ao cL ps.length fv,ao gv hU fP] 44)).alloc lD)=w1 at pg hX bz nU X
  replace bz:=I bz;replace pg:=I pg;replace hX:=I hX;replace nU:=I nU
  have gn:=X.ay pg
  have eI:=aL (o:=1) gn rfl
  go_wp2_with fail
  go_loopg [17] (au.length) (λg st wr=>∃(k:Nat) (aA:Option Addr) (m aR:Nat) (ys:List bU),g+k=au.length/\st=.int .i64 k/\Hid (wr.heap[q]?=some (.cells #[ae cX,ao aA m aR,aP,ao cP da c1] 44))/\Hid (fD wr w1 aA m aR ys/\ys.map (·.d)=(au.take k).map (·.d))/\Hid (aH wr w 54 3 ax.cs cP da c1 d.aB)/\Hid (Z w1 wr))
  case atStart=>exact⟨0,none,0,0,[],J,rfl,bs,⟨fD.nil _ _,rfl⟩,aJ,X⟩
  case round=>
   obtain⟨k,aA,m,aR,ys,bC,rfl,Pk,b7,LK,mB⟩:=hrel
   by_cases hk:k<au.length
   ·obtain⟨b,o,rfl,al⟩:=a8.l.aF.get k hk
    obtain⟨cO,Zv,c2,cV,dF,dH,eJ,eM⟩:=nh (w:=wr) (b:=b) (o:=o+k*8) (x:=au[k].x) (λj v aD=>mB.ag (bz.ag (al j v aD)))
    have E1:(k:Int)<(au.length:Int):=J
    have sN:(0:Int)<=(k:Int):=J
    have sd:=zG.out
    have bg:=a8.l.aF.len
    replace bg:=I bg
    clear al
    go_wp2_with fail
    have z0:=e2 (w:=wr) (o:=(au[k].x:Obj)) (n:=(wr:Nat)) rfl
    have bq:Z wr (wr.alloc au[k].x):=U
    have lg:(wr.alloc au[k].x).heap.size=(wr:Nat)+1:=by simp
    obtain⟨z,ec⟩:∃z,z=(wr:Nat):=⟨_,rfl⟩
    generalize oQ:(wr.alloc au[k].x)=aN at z0 bq lg ⊢
    rw[<-ec]at z0 lg ⊢
    have dk:=bq.ay Pk
    have uB:=I (show m=k from by have af:=b7.out.1.cj.neq;have an:=congrArg List.length b7.out.2;rw[List.length_map,List.length_map,List.length_take]at an;omega)
    replace ec:=I ec;replace lg:=I lg;replace bq:=I bq
    clear oQ
    refine BU 7 (λw'=>w'.heap[q]?=some (.cells #[ae cX,ao aA m aR,aP,ao cP da c1] 44)/\w'.heap[z]?=some (au[k].x:Obj)) (λbd=>?_) (by(try dsimp only);exact⟨Z.ay (W:=aN) U dk,Z.ay (W:=aN) U z0⟩)
    refine gR 0 ?_
    refine l1 1 (·.1) ?_
    refine l1 2 (·.2) ?_
    refine kW 3 λK aE=>?_
    go_simp
    go_at_call 138
    refine(TB au[k].x au[k].d _ ((a8.l.ck _ (List.getElem_mem hk)).ext U) (ev _ (List.getElem_mem hk))).mono ?_
    rintro e a6⟨cH,rfl,kg,c0⟩
    replace kg:=I kg;replace c0:=I c0
    refine aE _ _ (λ_=>(by(try dsimp only);exact⟨Z.ay (W:=aN) U dk,Z.ay (W:=aN) U z0⟩)) λhH=>ej ?_;have bd:=hH ah
    refine kW 4 λK aE=>?_
    go_simp
    refine aE _ _ (λ_=>(by(try dsimp only);exact⟨Z.ay (W:=aN) U dk,Z.ay (W:=aN) U z0⟩)) λhH=>ej ?_;have bd:=hH ah
    refine kW 5 λK aE=>?_
    refine tq (ys:=ys) (c:=bU.cs) rfl (.tmp 22) (.tmp 25) 42 rfl ct _ 96 underlying42 bO bL bM bP rfl ah rfl (b7.out.1.cj.ext U) ⟨cH,au[k].d⟩ _ rfl (fi (cs:=bU.cs ⟨cH,au[k].d⟩) rfl) (bU.cQ _) (by have:=uB.out;have:=zG.out;omega) ah (Z.size U) ?_
    intro g dE cB ed b9
    have fo:=b7.out.1.ext (w':=a6.alloc cH) U
    have dz:Z aN (a6.alloc cH):=U
    have gV:=b9.ay (dz.ay dk) (λai ak k=>fo.cj.eW (dz.ay dk) ah ai ak k)
    have z4:=b9.ay (dz.ay z0) (λai ak k=>by have:=(b7.out.1.cj.lt ai ak).2;have:=ec.out;omega)
    have sH:=fo.qA b9 ed ((kg.mono (aBw:=(w1:Nat)) (Z.size U)).ext U)
    have xn:=b9.z8 fo.cj (LK.ext (w':=a6.alloc cH) U) ah
    replace sH:=I sH;replace xn:=I xn
    have tK:=I gV
    replace b9:=I b9;replace ed:=I ed
    clear fo
    refine zF (d:=some 26) rfl ?_
    refine aE _ _ (λ_=>(by(try dsimp only);exact⟨gV,z4⟩)) λhH=>ej ?_;have bd:=hH ah
    refine gR 6 ?_
    obtain⟨-,Pl,Pm⟩:=SS gV
    refine kW 7 λK aE=>?_
    go_simp
    refine aE _ _ (absurd rfl ·) λ_=>ej ?_
    refine Ds bQ ?_ _
    go_wp2_with fail
    go_roundg (gk - 1)
    case measure=>omega
    case rel=>
     refine⟨k+1,_,_,_,ys++[⟨cH,au[k].d⟩],J,by go_num,en tK 1 _,⟨sH.ay tK ah ah ah ah 1 _,?_⟩,xn.lY tK ah _,?_⟩
     ·rw[List.map_append,b7.out.2,List.take_succ_eq_append_getElem hk,List.map_append];rfl
     ·exact(b9.ext (b7.out.1.cj.ext (w':=a6.alloc cH) U) (Nat.le_refl _) (show Z w1 _ from U)).setCell (by have:=nU.out;show(w1:Nat)<=q;omega) _
   ·have cb:au.take k=au:=List.take_of_length_le J
    rw[cb]at b7
    clear cb bC
    obtain⟨cE,cm⟩:∃v,v=aA:=⟨_,rfl⟩
    obtain⟨m1,cq⟩:∃v,v=m:=⟨_,rfl⟩
    obtain⟨Ah,fo⟩:∃v,v=aR:=⟨_,rfl⟩
    obtain⟨afc,iM⟩:∃v,v=ys:=⟨_,rfl⟩
    subst cm cq fo iM
    have gn:=mB.ay pg
    have hn:=aL (o:=2) gn rfl
    have aq0:=I b7.out.2
    go_wp2_with fail
    go_loopg [32] (ps.length) (λg st wr=>∃(k:Nat) (aA:Option Addr) (m aR:Nat) (ys:List bU),g+k=ps.length/\st=.int .i64 k/\Hid (wr.heap[q]?=some (.cells #[ae cX,ao cE m1 Ah,ao aA m aR,ao cP da c1] 44))/\Hid ((fD wr w1 cE m1 Ah afc/\ox aA cE)/\fD wr w1 aA m aR ys/\ys.map (·.d)=(ps.take k).map (·.d))/\Hid (aH wr w 54 3 ax.cs cP da c1 d.aB)/\Hid (Z w1 wr))
    case atStart=>exact⟨0,none,0,0,[],J,rfl,Pk,⟨⟨b7.out.1,λx y X _=>by cases X⟩,fD.nil _ _,rfl⟩,LK,mB⟩
    case round=>
     obtain⟨k,aA,m,aR,ys,bC,rfl,Pk,LL,LK,mB⟩:=hrel
     have E2:=I LL.out.1
     have b7:=I LL.out.2
     clear LL
     by_cases hk:k<ps.length
     ·obtain⟨b,o,rfl,al⟩:=a8.p.aF.get k hk
      obtain⟨cO,Zv,c2,cV,dF,dH,eJ,eM⟩:=nh (w:=wr) (b:=b) (o:=o+k*8) (x:=ps[k].x) (λj v aD=>mB.ag (bz.ag (al j v aD)))
      have E1:(k:Int)<(ps.length:Int):=J
      have sN:(0:Int)<=(k:Int):=J
      have sd:=Du.out
      have bg:=a8.p.aF.len
      replace bg:=I bg
      clear al
      go_wp2_with fail
      have z0:=e2 (w:=wr) (o:=(ps[k].x:Obj)) (n:=(wr:Nat)) rfl
      have bq:Z wr (wr.alloc ps[k].x):=U
      have lg:(wr.alloc ps[k].x).heap.size=(wr:Nat)+1:=by simp
      obtain⟨z,ec⟩:∃z,z=(wr:Nat):=⟨_,rfl⟩
      generalize oQ:(wr.alloc ps[k].x)=aN at z0 bq lg ⊢
      rw[<-ec]at z0 lg ⊢
      have dk:=bq.ay Pk
      have uB:=I (show m=k from by have af:=b7.out.1.cj.neq;have an:=congrArg List.length b7.out.2;rw[List.length_map,List.length_map,List.length_take]at an;omega)
      replace ec:=I ec;replace lg:=I lg;replace bq:=I bq
      clear oQ
      refine BU 7 (λw'=>w'.heap[q]?=some (.cells #[ae cX,ao cE m1 Ah,ao aA m aR,ao cP da c1] 44)/\w'.heap[z]?=some (ps[k].x:Obj)) (λbd=>?_) (by(try dsimp only);exact⟨Z.ay (W:=aN) U dk,Z.ay (W:=aN) U z0⟩)
      refine gR 0 ?_
      refine l1 1 (·.1) ?_
      refine l1 2 (·.2) ?_
      refine kW 3 λK aE=>?_
      go_simp
      go_at_call 138
      refine(TB ps[k].x ps[k].d _ ((a8.p.ck _ (List.getElem_mem hk)).ext U) (aqZ _ (List.getElem_mem hk))).mono ?_
      rintro e a6⟨cH,rfl,kg,c0⟩
      replace kg:=I kg;replace c0:=I c0
      refine aE _ _ (λ_=>(by(try dsimp only);exact⟨Z.ay (W:=aN) U dk,Z.ay (W:=aN) U z0⟩)) λhH=>ej ?_;have bd:=hH ah
      refine kW 4 λK aE=>?_
      go_simp
      refine aE _ _ (λ_=>(by(try dsimp only);exact⟨Z.ay (W:=aN) U dk,Z.ay (W:=aN) U z0⟩)) λhH=>ej ?_;have bd:=hH ah
      refine kW 5 λK aE=>?_
      refine tq (ys:=ys) (c:=bU.cs) rfl (.tmp 37) (.tmp 40) 42 rfl ct _ 96 underlying42 bO bL bM bP rfl ah rfl (b7.out.1.cj.ext U) ⟨cH,ps[k].d⟩ _ rfl (fi (cs:=bU.cs ⟨cH,ps[k].d⟩) rfl) (bU.cQ _) (by have:=uB.out;have:=Du.out;omega) ah (Z.size U) ?_
      intro g dE cB ed b9
      have fo:=b7.out.1.ext (w':=a6.alloc cH) U
      have dz:Z aN (a6.alloc cH):=U
      have gV:=b9.ay (dz.ay dk) (λai ak k=>fo.cj.eW (dz.ay dk) ah ai ak k)
      have z4:=b9.ay (dz.ay z0) (λai ak k=>by have:=(b7.out.1.cj.lt ai ak).2;have:=ec.out;omega)
      have d4:=b9.gL (E2.out.1.cj.ext (w':=a6.alloc cH) U) E2.out.2
      have f4:=(E2.out.1.ext (w':=a6.alloc cH) U).grow b9 fo.cj E2.out.2 ah ah ah
      have afd:=I (And.intro f4 d4)
      have sH:=fo.qA b9 ed ((kg.mono (aBw:=(w1:Nat)) (Z.size U)).ext U)
      have xn:=b9.z8 fo.cj (LK.ext (w':=a6.alloc cH) U) ah
      replace sH:=I sH;replace xn:=I xn
      have tK:=I gV
      replace b9:=I b9;replace ed:=I ed
      clear fo d4 f4
      refine zF (d:=some 41) rfl ?_
      refine aE _ _ (λ_=>(by(try dsimp only);exact⟨gV,z4⟩)) λhH=>ej ?_;have bd:=hH ah
      refine gR 6 ?_
      obtain⟨-,-,Pl,Pm⟩:=qu gV
      refine kW 7 λK aE=>?_
      go_simp
      refine aE _ _ (absurd rfl ·) λ_=>ej ?_
      refine Ds bQ ?_ _
      go_wp2_with fail
      go_roundg (gk - 1)
      case measure=>omega
      case rel=>
       refine⟨k+1,_,_,_,ys++[⟨cH,ps[k].d⟩],J,by go_num,en tK 2 _,⟨⟨afd.out.1.ay tK ah ah ah ah 2 _,afd.out.2⟩,sH.ay tK ah ah ah ah 2 _,?_⟩,xn.lY tK ah _,?_⟩
       ·rw[List.map_append,b7.out.2,List.take_succ_eq_append_getElem hk,List.map_append];rfl
       ·exact(b9.ext (b7.out.1.cj.ext (w':=a6.alloc cH) U) (Nat.le_refl _) (show Z w1 _ from U)).setCell (by have:=nU.out;show(w1:Nat)<=q;omega) _
     ·have cb:ps.take k=ps:=List.take_of_length_le J
      rw[cb]at b7
      clear cb bC
      obtain⟨lr,gM,kM,oG⟩:=oX Pk
      have u0:=mB.ay hX
      obtain⟨u1,u2,u3,u4,vn⟩:=C8 u0
      go_wp2_with fail
      have f0:=LJ u0 (ae cX) (ao cE m1 Ah) (ao aA m aR) (ao cP da c1)
      have iz:=Dt (S:=λx=>x=(w:Nat)+1) (aI.refl _ wr) (R:=(w:Nat)+1) (.inl rfl) (ae cX) (ao cE m1 Ah) (ao aA m aR) (ao cP da c1)
      obtain⟨z0,cZ,z2,z3⟩:=oX f0
      have aAq:=nU.out
      refine bodyPost_ret (v:=.agg #[ae cX,ao cE m1 Ah,ao aA m aR,ao cP da c1]) (by simp[results,results310,go_sem,z0,cZ,z2,z3]) rfl ⟨⟨cX,⟨cE,m1,Ah⟩,⟨aA,m,aR⟩,⟨cP,da,c1⟩⟩,afc,ys,rfl,⟨a8.cX,(E2.out.1.Ay u0 ah ah ah ah iz).mono J,?_,(b7.out.1.Ay u0 ah ah ah ah iz).mono J,?_,iz.bS LK (LK.eW u0 ah),λx y X hy e=>E2.out.2 y x hy X e.symm⟩,iz.ext (W:=w) (λb ad=>by subst ad;omega) U⟩
      ·rw[aq0.out];exact a8.jI
      ·rw[b7.out.2];exact a8.kV
section
def Zw{b:Nat}{t:TypeId}{fr:Nat×Nat}:∀(vs:List Value) (o:Nat) (w:aC) (cur:Array Value),w.heap[b]?=some (.cells cur t fr)->
  ∃aBx,(w.setCells b o vs).heap[b]?=some (.cells aBx t fr)/\aBx.size=cur.size/\aBx.toList.take o=cur.toList.take o
 | [],_,_,cur,h=>⟨cur,h,rfl,rfl⟩
 |v::vs,o,w,cur,h=>by
  obtain⟨aBx,af,an,aO⟩:=Zw vs (o+1) (w.setCell (b,o) v) _ (en h o v);refine⟨aBx,af,by rw[an,Se],?_⟩;have e:∀l:List Value,l.take o=(l.take (o+1)).take o:=λl=>by rw[List.take_take];congr 1;omega
  rw[e,aO,<-e,Xn];exact List.take_set_of_le (bJ _)
def aI.setCells{S:eZ}{w:aC}{b:Nat}(ad:S b):∀(vs:List Value) (o:Nat) (w':aC),aI S w w'->aI S w (w'.setCells b o vs)
 | [],_,_,h=>h
 |v::vs,o,_,h=>aI.setCells ad vs (o+1) _ (h.setCell (b,o) (.inl ad) v)
def afe{P:Program}(w:aC)(t e ty:TypeId)(z:Value)(bm:P.underlying t=some (.slice e))(bw:∀w,(zeroValue e).run P w=.ok z w)(af:∀u,u∈z.cells.toList->u.oneCell'=true)(b o n c:Nat)(aq:0<n)(al:∀j,j<n*z.cells.size->(w.cell? (b,o+j)).isSome=true)(bk:∀j,w.frozen? ⟨b,j,none⟩=false):
  (Builtin.clear_ #[t] ty #[.slice (some (b,o)) n c]).run P w=.ok (.tuple #[]) (w.setCells b o (Builtin.zeroCells z.cells n).toList):=by
 have a1:(Builtin.zeroCells z.cells n).toList.length=n*z.cells.size:=by simp[Builtin.zeroCells]
 have dh:=run_storeCells_cells (P:=P) b o (Builtin.zeroCells z.cells n).toList 0 w (by rw[a1];simpa using al) (λj _=>bk _) (λv F3=>by
  unfold Builtin.zeroCells at F3;rw[Array.toList_map,lU]at F3;obtain⟨i,aK,rfl⟩:=F3;rcases C7 z.cells.size with aZ|aZ
  ·rw[aZ,Nat.mul_zero]at aK;simp at aK
  ·have:i % z.cells.size<z.cells.size:=Nat.mod_lt _ aZ;rw[getElem!_pos z.cells _ this]
   exact af _ (by simp))
 simp only[uo]at dh;obtain⟨m,rfl⟩:∃m,n=m+1:=⟨n - 1,J⟩;simp[Builtin.clear_,run_underlying bm,bw,dh]
section
variable {α:Type}{w w':World}{base g:Nat}{e:TypeId}{sz:Nat}{c:α->List Value}{n cap:Nat}{ys:List α}
def aH.Pn(h:aH w base e sz c aA n cap ys)(aq:0<n):∃g,aA=some ⟨g,0,.none⟩:=aH.abC aA h (by rw[<-h.neq];exact aq)
def aff(hw:∀y,(c y).length=sz)(ys:List α):∀k,(ys.flatMap c).take (k*sz)=(ys.take k).flatMap c:=by
 induction ys with
 |nil=>intro k;simp
 |cons y ys cY=>
  intro k;cases k with
  |zero=>simp
  |succ k=>
   rw[ny,List.take_succ_cons,ny,<-cY k,List.take_append,hw y,show(k+1)*sz - sz=k*sz by rw[Nat.succ_mul];omega,iU (by rw[hw y,Nat.succ_mul];omega)]
def aH.afg(h:aH w base e sz c (some ⟨g,0,.none⟩) n cap ys)(k:Nat)(hk:k<=n){aBx:Array Value}(al:∀cur,w.heap[g]?=some (.cells cur e (0,0))->w'.heap[g]?=some (.cells aBx e (0,0))/\aBx.size=cur.size/\aBx.toList.take (k*sz)=cur.toList.take (k*sz)):
  aH w' base e sz c (some ⟨g,0,.none⟩) k cap (ys.take k):=by
 obtain⟨cur,bC,iV,af,an,aO,bt⟩:=h.ay;obtain⟨c1,c2,cV⟩:=al cur bC;have pF:k*sz<=n*sz:=SJ _ hk;have a1:(ys.take k).length=k:=by rw[nF,<-h.neq];omega
 refine⟨⟨?_,.inr ⟨g,cap,aBx,rfl,iV,c1,ek hk af,an,by rw[c2];exact aO,?_⟩⟩,a1.symm,h.bI⟩
 ·have:∀l:List α,(l.flatMap c).length=l.length*sz:=λl=>by
   induction l with
   |nil=>simp
   |cons y l cY=>rw[ny,c9,cY,h.bI,me,Nat.succ_mul];omega
  rw[this,a1]
 ·rw[cV,show cur.toList.take (k*sz)=(cur.toList.take (n*sz)).take (k*sz) by rw[List.take_take];congr 1;omega,bt,aff h.bI]
def aH.sZ(h:aH w base e sz c (some ⟨g,0,.none⟩) n cap ys)(k:Nat){y:α}(r3:α)(hk:ys[k]?=some y)(j:Nat)(aD:j<sz)(v:Value)(hy:c r3=(c y).set j v):
  aH (w.setCell ⟨g,k*sz+j,.none⟩ v) base e sz c (some ⟨g,0,.none⟩) n cap (ys.set k r3)/\(ys.set k r3)[k]?=some r3:=
 ⟨h.set k y r3 hk j aD v hy,by obtain⟨a1,_⟩:=ud.1 hk;exact List.getElem?_set_self a1⟩
end
end
def afh(x:bR)(i:ax)(aR:Nat)(w:aC)(aZ:w.cell? (aR,0)=some ↑i.b)(af:w.cell? (aR,1)=some ↑(ae i.l))(an:w.cell? (aR,2)=some ↑(ae i.s)):
  aS 203 #[x,aR] w (cU (.bool (cc x.id i)) w):=by
 have heq:=Bm x.id.b x.id.l x.id.s i.b i.l i.s;refine Sv ?_;intro eB bH b1;go_enter func203,ntmps203;go_wp2;go_ret;refine⟨rfl,?_⟩;exact U
def aq1{p:α->Bool}{xs:List α}(h:¬xs.any p=false):∃(k:Nat) (hk:k<xs.length),(xs.take k).any p=false/\p xs[k]=true:=by
 simp only[Bool.not_eq_false,Bi]at h;have fH:xs.findIdx p<xs.length:=List.findIdx_lt_length_of_exists h;refine⟨xs.findIdx p,fH,?_,List.findIdx_getElem⟩;rw[Kp];intro x X;obtain⟨j,aD,rfl⟩:=T6.1 X;rw[nF]at aD;rw[List.getElem_take];simpa using List.not_of_lt_findIdx (show j<xs.findIdx p by omega)
def aq2{c:α->List Value}{ys:List α}(h:aH w base e sz c (some ⟨g,0,.none⟩) n cap ys)(o:Nat)(aM:o<n*sz):(w.cell? (g,o)).isSome=true:=by
 obtain⟨cur,bC,_,af,_,aO,_⟩:=h.ay;have:o<cur.size:=by rw[aO];exact fQ aM (SJ _ af)
 simp[World.cell?,bC,this]
def aH.T7{ys:List bU}(h:aH w base 66 8 bU.cs (some ⟨g,0,.none⟩) n cap ys)(k:Nat)(hk:k<ys.length)(y:bU):
  aH ((((((((w.setCell ⟨g,k*8,.none⟩ y.x.k).setCell ⟨g,k*8+1,.none⟩ y.x.id.b).setCell ⟨g,k*8+2,.none⟩ (ae y.x.id.l)).setCell ⟨g,k*8+3,.none⟩ (ae y.x.id.s)).setCell ⟨g,k*8+4,.none⟩ y.x.c).setCell ⟨g,k*8+5,.none⟩ (ae y.x.u)).setCell ⟨g,k*8+6,.none⟩ y.x.f).setCell ⟨g,k*8+7,.none⟩ y.x.e)
   base 66 8 bU.cs (some ⟨g,0,.none⟩) n cap (ys.set k y):=by
 have dU:ys[k]?=some ys[k]:=eK hk;obtain⟨aZ,cm⟩:=h.sZ k ⟨{ys[k].x with k:=y.x.k},y.d⟩ dU 0 ah y.x.k rfl;obtain⟨af,cq⟩:=aZ.sZ k ⟨{ys[k].x with k:=y.x.k,id:={ys[k].x.id with b:=y.x.id.b}},y.d⟩ cm 1 ah y.x.id.b rfl;obtain⟨an,fo⟩:=af.sZ k ⟨{ys[k].x with k:=y.x.k,id:={ys[k].x.id with b:=y.x.id.b,l:=y.x.id.l}},y.d⟩ cq 2 ah (ae y.x.id.l) rfl;obtain⟨aO,iM⟩:=an.sZ k ⟨{ys[k].x with k:=y.x.k,id:=y.x.id},y.d⟩ fo 3 ah (ae y.x.id.s) rfl;obtain⟨bt,kB⟩:=aO.sZ k ⟨{ys[k].x with k:=y.x.k,id:=y.x.id,c:=y.x.c},y.d⟩ iM 4 ah y.x.c rfl;obtain⟨cC,mi⟩:=bt.sZ k ⟨{ys[k].x with k:=y.x.k,id:=y.x.id,c:=y.x.c,u:=y.x.u},y.d⟩ kB 5 ah (ae y.x.u) rfl;obtain⟨fV,lA⟩:=cC.sZ k ⟨{ys[k].x with k:=y.x.k,id:=y.x.id,c:=y.x.c,u:=y.x.u,f:=y.x.f},y.d⟩ mi 6 ah y.x.f rfl;obtain⟨kv,_⟩:=fV.sZ k y lA 7 ah y.x.e rfl;simp only[List.set_set]at kv;exact kv
def T8{R:Nat}(h:aI S w w')(o:Nat)(bB:S R\/(w:Nat)<=R)(v0 v1 v2 v3 v4 v5 v6 hh:Value):aI S w ((((((((w'.setCell (R,o) v0).setCell (R,o+1) v1).setCell (R,o+2) v2).setCell (R,o+3) v3).setCell (R,o+4) v4).setCell (R,o+5) v5).setCell (R,o+6) v6).setCell (R,o+7) hh):=
 (((((((h.setCell (R,o) bB v0).setCell (R,o+1) bB v1).setCell (R,o+2) bB v2).setCell (R,o+3) bB v3).setCell (R,o+4) bB v4).setCell (R,o+5) bB v5).setCell (R,o+6) bB v6).setCell (R,o+7) bB hh
def aq3(w:aC):(zeroValue 66).run prog w=.ok (.agg #[av,av,aw,aw,av,aw,aP,aP]) w:=zeroValue66 w
def aq4(aA:bl)(n cap base:Nat)(xs:List bU)(i:ax)(aR:Nat)(w:aC)(H:aH w base 66 8 bU.cs aA n cap xs)(bn:w.heap[aR]?=some (i:Obj))(yg:∀ai,aA=some ai->¬ai.block=aR)(aq:n<=1000000):
  aS 202 #[ao aA n cap,.func (.func 203) #[] #[aR]] w λe w'=>∃m,e=.returned (ao aA m cap)/\aH w' base 66 8 bU.cs aA m cap (xs.filter (λp=> !cc p.x.id i))/\aI (λb=>∃ai,aA=some ai/\ai.block=b) w w':=by
 have Po:∀args w,(callFunc 203 args).run prog w=.ok (.enter 203 args) w:=λ_ _=>by kernel_rfl
 obtain rfl:=H.neq;replace H:=I H;replace bn:=I bn;replace yg:=I yg;go_enter func202,ntmps202;go_wp2_with fail;refine(abZ aA xs.length cap (xs.map (·.x)) (λx=>cc x.id i) 203 ⟨aR,0,none⟩ _ (H.aF.map (c:=bR.cs) (λp:bU=>p.x) (λ_=>rfl)) Po (λx X w' rO=>afh x i aR w' (aL (o:=0) (rO.ay bn) rfl) (aL (o:=1) (rO.ay bn) rfl) (aL (o:=2) (rO.ay bn) rfl))).mono ?_;rintro e _⟨rfl,bz⟩;replace bz:=I bz;by_cases Ew:(xs.map (·.x)).any (λx=>cc x.id i)=false
 ·have cm:qP (λx:bR=>cc x.id i) (xs.map (·.x))=-1:=(Kq Ew.symm).symm;have eh:aa (xs.filter (λp=> !cc p.x.id i)=xs):=Sl.2 (λp aY=>by rw[Kp]at Ew;have:=Ew p.x (nH aY);simpa using this);clear Ew Po;rw[cm];go_wp2;go_ret;exact⟨xs.length,rfl,by rw[eh.out];exact H.ext bz,aI.of U⟩
 ·obtain⟨eB,sN,AQ,Zx⟩:=aq1 Ew;have cm:qP (λx:bR=>cc x.id i) (xs.map (·.x))=(eB:Int):=(No sN AQ Zx).symm;rw[cx]at sN;have eh:aa ((xs.take eB).filter (λp=> !cc p.x.id i)=xs.take eB):=Sl.2 (λp aY=>by rw[Kp]at AQ;have:=AQ p.x (by rw[<-List.map_take];exact nH aY);simpa using this);have b8:=I (show cc xs[eB].x.id i=true from by simpa using Zx);rw[cm];clear Ew Po AQ Zx cm;go_wp2_with fail;obtain⟨g,aq5⟩:=H.Pn (show 0<xs.length by omega);subst aq5;have H1:=I (H.ext bz);have bE:=I (bz.ay bn);have T9:¬g=aR:=yg.out _ rfl;have aq6:=I T9;have hle:=H1.aF.len;have vM:=H1.aF.max;unfold maxLen at vM;go_loopg [5,6] (xs.length - (eB+1)) (λxa dS aq7 wr=>∃(a j:Nat) (cz:List bU),xa+j=xs.length/\dS=.int .i64 a/\aq7=.int .i64 j/\a<j/\aa (cz.length=xs.length/\cz.take a=(xs.take j).filter (λp=> !cc p.x.id i)/\cz.drop j=xs.drop j)/\aa (aH wr base 66 8 bU.cs (some (g,0)) xs.length cap cz)/\aa (wr.heap[aR]?=some (i:Obj))/\aa (aI (λb=>b=g) w wr));case atStart=>
   refine⟨eB,eB+1,xs,J,rfl,by go_num,J,⟨rfl,?_,rfl⟩,H1,bE,aI.of bz⟩
   ·rw[iv J,yU,eh.out,TE (by simp[b8.out]),LM,nc]
  case round=>
   obtain⟨a,j,cz,_,rfl,rfl,_,bp,aJ,j7,aj⟩:=hrel;by_cases aD:j<xs.length
   ·have afi:j<cz.length:=by have:=bp.out.1;omega
    have Zy:=aD
    have hf:=I (show cz[j]=xs[j]from by
     have:=eH (λl=>l[0]?) bp.out.2.2;simp only[R9,uo,eK afi,eK Zy,Option.some.injEq]at this
     exact this)
    obtain⟨b,o,Ua,al⟩:=aJ.aF.get j afi;simp only[Option.some.injEq,Addr.mk.injEq,H9]at Ua;obtain⟨rfl,rfl⟩:=Ua;obtain⟨cO,c1,c2,cV,dF,dH,eJ,eM⟩:=nh (x:=cz[j].x) al;rw[ow]at cO c1 c2 cV dF dH eJ eM;have d0:(0:Int)<=(j:Int):=J;have lP:(j:Int)<(xs.length:Int):=J;have jE:(0:Int)<=(a:Int):=J;have d3:(a:Int)<(xs.length:Int):=J;clear al;go_wp2_with fail;refine(afh cz[j].x i aR _ (by exact aL (o:=0) ((show Z wr (wr.alloc cz[j].x)from U).ay j7) rfl) (by exact aL (o:=1) ((show Z wr (wr.alloc cz[j].x)from U).ay j7) rfl) (by exact aL (o:=2) ((show Z wr (wr.alloc cz[j].x)from U).ay j7) rfl)).mono ?_;rintro e a6⟨rfl,c0⟩;have z3:=c0.ay (e2 (w:=wr) (o:=(cz[j].x:Obj)) (n:=(wr:Nat)) rfl);have cK:=I (aJ.ext (w':=a6) U);have fc:=I (Z.ay (W:=wr) (w:=a6) U j7);have iY:=I (aj.trans (aI.of (show Z wr a6 from U)));have Xo:g<(wr:Nat):=(aJ.lt _ rfl).2;replace c0:=I c0;cases ad:cc cz[j].x.id i with
    |true=>
     have px:=I ad;go_wp2;go_roundg (gk - 1);case measure=>omega
     case rel=>
      refine⟨a,j+1,cz,J,rfl,by go_num,J,⟨bp.out.1,?_,?_⟩,cK,fc,iY⟩
      ·rw[bp.out.2.1,iv Zy,yU,<-hf.out,TE (by simp[px.out]),LM,nc]
      ·have:=eH (List.drop 1) bp.out.2.2;rw[OU,OU]at this;exact this
    |false=>
     have px:=I ad;have E3:∀q,a6.frozen? ⟨g,q,none⟩=false:=λq=>cK.free q;have Zz:a<cz.length:=by have:=bp.out.1;omega
     have hs:=I (cK.Ie a Zz);obtain⟨_,_,_,_,_,_,_,_⟩:=nh (x:=cz[a].x) hs;obtain⟨dU,cm,cq,fo,iM,kB,mi,lA⟩:=lM z3;clear cO c1 c2 cV dF dH eJ eM z3;go_wp2;go_roundg (gk - 1);case measure=>omega
     case rel=>
      have lX:=cK.T7 a Zz cz[j];refine⟨a+1,j+1,cz.set a cz[j],J,by go_num,by go_num,J,⟨by rw[CT];exact bp.out.1,?_,?_⟩,lX,?_,?_⟩
      ·rw[iv Zy,yU,<-bp.out.2.1,<-hf.out,YX (by simp[px.out]),LM,iv (by rw[CT];exact Zz),List.take_set_of_le (bJ _)];simp
      ·have:=eH (List.drop 1) bp.out.2.2;rw[OU,OU]at this;rw[List.drop_set_of_lt J];exact this
      ·refine afj ?_;intro Pp;exact(Pp.block aR (bZ fc) (λq=>aq6 q.symm)).trans fc
      ·refine afj ?_;intro Pp;exact iY.trans Pp
   ·have hv:=λty=>afe (P:=prog) wr 42 66 ty _ aiM (λw=>aq3 w) (by intro u aj;simp[Value.cells]at aj;exact Xj) g (a*8) (xs.length - a) (cap - a) J (λq bs=>aq2 aJ _ (by have wq:(Value.agg #[av,av,aw,aw,av,aw,aP,aP]).cells.size=8:=rfl;rw[wq]at bs;omega)) (λq=>aJ.free q);have dA:(0:Int)<=(a:Int):=J;have gh:(a:Int)<=(xs.length:Int):=J;have gm:(a:Int)<=(cap:Int):=J;have ti:¬cap=a:=J;go_wp2;go_ret;obtain⟨cur,G1,-⟩:=aJ.ay;obtain⟨aBx,q1,dk,eP⟩:=Zw (b:=g) _ (a*8) wr cur G1;refine⟨a,rfl,?_,(aI.setCells (S:=λb=>b=g) rfl _ _ _ aj).mono (λb _ ad=>⟨_,rfl,ad.symm⟩)⟩
    have al:=aJ.afg (w':=_) a J (aBx:=aBx) (λaq8 an=>by
     rw[G1]at an;injection an with an;injection an with an;subst an
     exact⟨q1,dk,eP⟩)
    rw[bp.out.2.1,iU (show xs.length<=j by omega)]at al;exact al
structure q7 (w:World) (base q:Nat) (s:iJ) (d:ew) (au ps:List bU):Prop where
 box:w.heap[q]?=some (s:Obj)
 st:rI w base s d au ps
 bs:base<=q
def qb(a:Option Addr):Nat->Prop:=λb=>∃ai,a=some ai/\ai.block=b
def Jd(q:Nat)(s:iJ):Nat->Prop:=λb=>b=q\/qb s.l.a b\/qb s.p.a b\/qb s.b.a b
def rI.E4{s:iJ}{d:ew}{cs:Array Value}(h:rI w base s d au ps)(ad:w.heap[q]?=some (.cells cs 44 fr))(aj:aI (λb=>b=q) w w'):rI w' base s d au ps:=
 ⟨h.cX,h.l.Ay ad ah ah ah ah aj,h.jI,h.p.Ay ad ah ah ah ah aj,h.kV,aj.bS h.b (h.b.eW ad ah),h.gL⟩
def LN(w:World)(F eF:Nat->Prop):Prop:=∀b,eF b->F b\/w.heap.size<=b
def q8(base q:Nat)(s:iJ)(zw:ew)(v:Value)(w:World)(e:Ending)(w':World):Prop:=
 e=.returned v/\∃s' oR ns,q7 w' base q s' zw oR ns/\aI (Jd q s) w w'/\LN w (Jd q s) (Jd q s')
theorem q8.cN {base q:Nat}{s:iJ}{d:ew}{v:Value}{w w1 aN:World}{e:Ending} (X:Z w w1) (h:q8 base q s d v w1 e aN):q8 base q s d v w e aN:=
 let ⟨r,s',oR,ns,af,an,aO⟩:=h
 ⟨r,s',oR,ns,af,(aI.of X).trans an,λb ad=>(aO b ad).imp id (λk=>Nat.le_trans X.size k)⟩
def lL.ee(h:lL w w' aA g):aI (qb aA) w w':=⟨h.os,h.tape,h.output,h.size,λb ad aq=>h.block b ad (λai ak k=>aq ⟨ai,ak,k⟩)⟩
def q7.b5{s:iJ}{d:ew}(h:q7 w base q s d au ps):∀b,Jd q s b->base<=b/\b<(w:Nat):=λb ad=>by
 rcases ad with rfl|⟨ai,ak,rfl⟩|⟨ai,ak,rfl⟩|⟨ai,ak,rfl⟩
 ·exact⟨h.bs,bZ h.box⟩
 ·exact h.st.l.cj.lt ai ak
 ·exact h.st.p.cj.lt ai ak
 ·exact h.st.b.lt ai ak
def q7.ext{s:iJ}{d:ew}(h:q7 w base q s d au ps)(X:Z w w'):q7 w' base q s d au ps:=⟨X.ay h.box,h.st.ext X,h.bs⟩
def fU.Pq{c:α->List Value}{ys:List α}(h:fU w base x d)(az:aH w dA e sz c aA n cap ys)(af:e≠154)(an:e≠34)(aO:e≠77)(aj:aI (qb aA) w w'):fU w' base x d:=
 let ⟨ys,q,o,a⟩:=h.e
 ⟨h.k,h.id,h.c,h.u,aj.bS h.f (λai ak ⟨BW,k,z⟩=>az.gT h.f af BW ai k ak z),ys,q,aj.bS o (λai ak ⟨BW,k,z⟩=>az.gT o an BW ai k ak z),λy hy=>aj.bS (a y hy) (λai ak ⟨BW,k,z⟩=>az.gT (a y hy) aO BW ai k ak z)⟩
def fD.Pq{m aR:Nat}{c:α->List Value}{ys:List α}(h:fD w base a m aR ps)(az:aH w dA e sz c aA n cap ys)(aG:ox aA a)(af:e≠154)(an:e≠34)(aO:e≠77)(aj:aI (qb aA) w w'):fD w' base a m aR ps:=
 ⟨aj.bS h.cj (λai ak ⟨BW,k,z⟩=>aG BW ai k ak z),λp aY=>(h.ck p aY).Pq az af an aO aj⟩
def aq9(hm:ps.map (·.d)=aU)(aK:∀p,p∈ps->p.x.id=p.d.id)(i:ax):(ps.filter (λp=> !cc p.x.id i)).map (·.d)=rH aU i:=by
 subst hm;unfold rH;rw[KI];congr 1;exact Sq (λp aY=>by rw[aK p aY];rfl)
def ZA(base q:Nat)(i:ax)(s:iJ)(d:ew)(au ps:List bU)(w:aC)(H:q7 w base q s d au ps)(aq:ps.length<=1000000):
  aS 139 #[q,i] w (q8 base q s {d with ps:=rH d.ps i} (.tuple #[]) w):=by
 have Dg:=aL (o:=2) H.box rfl;have Dv:=H.st.p.cj.neq;have afk:=bZ H.box;change aa _ at H Dv;have b1:(w.alloc i).cell? (q,2)=some ↑s.p:=(show Z w (w.alloc i)from U).ag Dg;go_enter func139,ntmps139;go_wp2_with fail;refine(aq4 s.p.a s.p.n s.p.c base ps i w.heap.size _ (H.st.p.cj.ext U) (e2 rfl) (λai ak k=>by have:=(H.st.p.cj.lt ai ak).2;omega) (by have:=Dv.out;omega)).mono ?_;rintro e w1⟨m,rfl,c7,ih⟩;have pj:Z w (w.alloc i):=U;have ara:∀ai,s.p.a=some ai->¬ai.block=q:=λai ak=>H.st.p.cj.eW H.box ah ai ak;have hX:w1.heap[q]?=some (s:Obj):=(ih.block q (by have:=pj.size;omega) (fun⟨ai,ak,k⟩=>ara ai ak k)).trans (pj.ay H.box);obtain⟨-,-,_,_⟩:=qu hX;change aa _ at c7 ih hX;have bz:=I pj;go_wp2_with fail;go_end0;have lE:=H.st.ext bz;have pO:=aI.setCell (S:=λb=>b=q) (aI.refl _ w1) (q,2) (.inl rfl) (ao s.p.a m s.p.c);have zn:=lE.l.Pq lE.p.cj (λx y X hy e=>lE.gL y x hy X e.symm) ah ah ah ih;have E5:fD w1 base s.p.a m s.p.c (ps.filter (λp=> !cc p.x.id i)):=⟨c7,λp aY=>(lE.p.ck p (pA.1 aY).1).Pq lE.p.cj ah ah ah ih⟩;have qD:=ih.bS lE.b (λai ak ⟨BW,k,z⟩=>lE.p.cj.gT lE.b ah BW ai k ak z);refine⟨rfl,⟨s.cX,s.l,⟨s.p.a,m,s.p.c⟩,s.b⟩,au,ps.filter (λp=> !cc p.x.id i),⟨en hX 2 _,⟨lE.cX,zn.Ay hX ah ah ah ah pO,lE.jI,E5.Ay hX ah ah ah ah pO,aq9 lE.kV (λp aY=>(lE.p.ck p aY).id) i,pO.bS qD (qD.eW hX ah),lE.gL⟩,H.bs⟩,?_,λ_ h=>.inl h⟩;exact((aI.of bz).trans (ih.mono (λb _ ad=>.inr (.inr (.inl ad))))).trans (pO.mono (λb _ ad=>.inl ad))
def q7.arb{s:iJ}{d:ew}{e:bb}(h:q7 w base q s d au ps)(bC:lL w w' s.l.a g)(aM:aH w' base 66 8 bU.cs (some (g,0)) (s.l.n+1) dE (au++[⟨x,e⟩]))(he:fU w base x e)(v:Value):
  q8 base q s {d with au:=d.au++[e]} v w (.returned v) (w'.setCell (q,1) (.slice (some (g,0)) (s.l.n+1) dE)):=by
 have q1:=bC.ay h.box (λai ak k=>h.st.l.cj.eW h.box ah ai ak k);have pO:=aI.setCell (S:=λb=>b=q) (aI.refl _ w') (q,1) (.inl rfl) (.slice (some (g,0)) (s.l.n+1) dE);have AR:rI w' base {s with l:=⟨some (g,0),s.l.n+1,dE⟩} {d with au:=d.au++[e]} (au++[⟨x,e⟩]) ps:=⟨h.st.cX,h.st.l.qA bC aM he,by rw[fT,h.st.jI];rfl,h.st.p.grow bC h.st.l.cj h.st.gL ah ah ah,h.st.kV,bC.z8 h.st.l.cj h.st.b ah,bC.gL h.st.p.cj h.st.gL⟩;refine⟨rfl,_,_,_,⟨en q1 1 _,AR.E4 q1 pO,h.bs⟩,(bC.ee.mono (λb _ ad=>.inr (.inl ad))).trans (pO.mono (λb _ ad=>.inl ad)),λb ad=>?_⟩;rcases ad with ad|⟨ai,ak,rfl⟩|ad|ad
 ·exact .inl (.inl ad)
 ·cases ak;rcases bC.at_ with ⟨ai,bH,b1⟩|k
  ·exact .inl (.inr (.inl ⟨ai,bH,b1⟩))
  ·exact .inr (by show(w:Nat)<=g;omega)
 ·exact .inl (.inr (.inr (.inl ad)))
 ·exact .inl (.inr (.inr (.inr ad)))
def q7.arc{s:iJ}{d:ew}{e:bb}(h:q7 w base q s d au ps)(bC:lL w w' s.p.a g)(aM:aH w' base 66 8 bU.cs (some (g,0)) (s.p.n+1) dE (ps++[⟨x,e⟩]))(he:fU w base x e)(v:Value):
  q8 base q s {d with ps:=d.ps++[e]} v w (.returned v) (w'.setCell (q,2) (.slice (some (g,0)) (s.p.n+1) dE)):=by
 have xK:ox s.p.a s.l.a:=λx y X hy k=>h.st.gL y x hy X k.symm;have q1:=bC.ay h.box (λai ak k=>h.st.p.cj.eW h.box ah ai ak k);have pO:=aI.setCell (S:=λb=>b=q) (aI.refl _ w') (q,2) (.inl rfl) (.slice (some (g,0)) (s.p.n+1) dE);have AR:rI w' base {s with p:=⟨some (g,0),s.p.n+1,dE⟩} {d with ps:=d.ps++[e]} au (ps++[⟨x,e⟩]):=⟨h.st.cX,h.st.l.grow bC h.st.p.cj xK ah ah ah,h.st.jI,h.st.p.qA bC aM he,by rw[fT,h.st.kV];rfl,bC.z8 h.st.p.cj h.st.b ah,λx y X hy k=>bC.gL h.st.l.cj xK y x hy X k.symm⟩;refine⟨rfl,_,_,_,⟨en q1 2 _,AR.E4 q1 pO,h.bs⟩,(bC.ee.mono (λb _ ad=>.inr (.inr (.inl ad)))).trans (pO.mono (λb _ ad=>.inl ad)),λb ad=>?_⟩;rcases ad with ad|ad|⟨ai,ak,rfl⟩|ad
 ·exact .inl (.inl ad)
 ·exact .inl (.inr (.inl ad))
 ·cases ak;rcases bC.at_ with ⟨ai,bH,b1⟩|k
  ·exact .inl (.inr (.inr (.inl ⟨ai,bH,b1⟩)))
  ·exact .inr (by show(w:Nat)<=g;omega)
 ·exact .inl (.inr (.inr (.inr ad)))
def q7.ard{s:iJ}{d:ew}(h:q7 w base q s d au ps)(bC:lL w w' s.b.a g)(aM:aH w' base 54 3 ax.cs (some (g,0)) (s.b.n+1) dE (d.aB++[i]))(v:Value):
  q8 base q s {d with aB:=d.aB++[i]} v w (.returned v) (w'.setCell (q,3) (.slice (some (g,0)) (s.b.n+1) dE)):=by
 have q1:=bC.ay h.box (λai ak k=>h.st.b.eW h.box ah ai ak k);have pO:=aI.setCell (S:=λb=>b=q) (aI.refl _ w') (q,3) (.inl rfl) (.slice (some (g,0)) (s.b.n+1) dE);have AR:rI w' base {s with b:=⟨some (g,0),s.b.n+1,dE⟩} {d with aB:=d.aB++[i]} au ps:=⟨h.st.cX,h.st.l.grow bC h.st.b (h.st.b.gT h.st.l.cj ah) ah ah ah,h.st.jI,h.st.p.grow bC h.st.b (h.st.b.gT h.st.p.cj ah) ah ah ah,h.st.kV,aM,h.st.gL⟩;refine⟨rfl,_,_,_,⟨en q1 3 _,AR.E4 q1 pO,h.bs⟩,(bC.ee.mono (λb _ ad=>.inr (.inr (.inr ad)))).trans (pO.mono (λb _ ad=>.inl ad)),λb ad=>?_⟩;rcases ad with ad|ad|ad|⟨ai,ak,rfl⟩
 ·exact .inl (.inl ad)
 ·exact .inl (.inr (.inl ad))
 ·exact .inl (.inr (.inr (.inl ad)))
 ·cases ak;rcases bC.at_ with ⟨ai,bH,b1⟩|k
  ·exact .inl (.inr (.inr (.inr ⟨ai,bH,b1⟩)))
  ·exact .inr (by show(w:Nat)<=g;omega)
def q7.ep{s:iJ}{d:ew}(h:q7 w base q s d au ps)(X:Z w w')(v:Value):q8 base q s d v w (.returned v) w':=⟨rfl,s,au,ps,h.ext X,aI.of X,λ_ h=>.inl h⟩
def are(base q fx gb:Nat)(s:iJ)(d:ew)(au ps:List bU)(x:bR)(r:e9)(w:aC)(H:q7 w base q s d au ps)(az:w.heap[fx]?=some (.cells #[r.k,ae (r.n:Int),x.k,x.id.b,ae x.id.l,ae x.id.s,x.c,ae x.u,x.f,x.e,r.id.b,ae r.id.l,ae r.id.s] 169))(al:w.heap[gb]?=some (.cells #[q] 173))(hk:r.k=1):
  aS 135 #[fx,gb] w (q8 base q s ((fl d r).getD d) (.bool (fl d r).isSome) w):=by
 have bH:=aL (o:=1) az rfl;have b1:=aL (o:=0) al rfl;obtain⟨_,_⟩:=anZ H.box;have Dw:=H.st.cX;change aa _ at H;by_cases aq:r.n<=d.l
 ·have bu:=I (show fl d r=none from by unfold fl;rw[bc hk,bc aq]);have bf:(r.n:Int)<=s.cX:=J;go_enter func135,ntmps135;go_wp2_with fail;go_quiet (fail);go_wp2;go_ret;rw[bu.out];exact H.ep U _
 ·have bu:=I (show fl d r=some {d with l:=r.n} from by unfold fl;rw[bc hk,aV aq]);have bf:¬(r.n:Int)<=s.cX:=J;go_enter func135,ntmps135;go_wp2_with fail;go_quiet (fail);go_wp2;go_ret;rw[bu.out];have X:Z w (w.drewN nq):=U;have dg:=H.ext X;have pO:=aI.setCell (S:=λb=>b=q) (aI.refl _ (w.drewN nq)) (q,0) (.inl rfl) (ae (r.n:Int));have AR:=dg.st.E4 dg.box pO;exact⟨rfl,{s with cX:=r.n},au,ps,⟨en dg.box 0 _,⟨rfl,AR.l,AR.jI,AR.p,AR.kV,AR.b,AR.gL⟩,dg.bs⟩,(aI.of X).trans (pO.mono (λb _ ad=>.inl ad)),λ_ h=>.inl h⟩
def arf(base q fx gb:Nat)(s:iJ)(d:ew)(au ps:List bU)(x:bR)(r:e9)(w:aC)(H:q7 w base q s d au ps)(cw:w.heap[fx]?=some (.cells #[r.k,ae (r.n:Int),x.k,x.id.b,ae x.id.l,ae x.id.s,x.c,ae x.u,x.f,x.e,r.id.b,ae r.id.l,ae r.id.s] 169))(cg:w.heap[gb]?=some (.cells #[q] 173))(hk:r.k=5)(aq:ps.length<=1000000):
  aS 143 #[gb,fx] w (q8 base q s ((fl d r).getD d) (.bool (fl d r).isSome) w):=by
 obtain⟨-,-,-,-,-,-,-,-,-,-,bH,b1,dJ⟩:=Nq cw;have eG:=aL (o:=0) cg rfl;obtain⟨h4,pN,qE,qF⟩:=oX H.box;replace bH:=fu.cell (w:=w) (a:=(fx,10)) (v:=.int .i64 r.id.b) bH;replace b1:=fu.cell (w:=w) (a:=(fx,11)) (v:=.int .u64 r.id.l) b1;replace dJ:=fu.cell (w:=w) (a:=(fx,12)) (v:=.int .u64 r.id.s) dJ;replace eG:=fu.cell (w:=w) (a:=(gb,0)) (v:=.pointer (some (q,0))) eG;replace h4:=fu.cell (w:=w) (a:=(q,0)) (v:=.int .u64 s.cX) h4;replace pN:=fu.cell (w:=w) (a:=(q,1)) (v:=.slice s.l.a s.l.n s.l.c) pN;replace qE:=fu.cell (w:=w) (a:=(q,2)) (v:=.slice s.p.a s.p.n s.p.c) qE;replace qF:=fu.cell (w:=w) (a:=(q,3)) (v:=.slice s.b.a s.b.n s.b.c) qF;have b8:=I (H.st.p.cj.aF.map (c:=bR.cs) (λp:bU=>p.x) (λ_=>rfl));have q9:=AH H.st.p.sE H.st.kV r.id;replace H:=I H;replace cw:=I cw;replace cg:=I cg;cases ad:iP d.ps r.id with
 |false=>
  have bu:=I (show fl d r=none from by unfold fl;rw[aV J,aV J,aV J,aV J,aV (by rw[ad];exact Bool.false_ne_true)]);refine afl ?_;intro bn _ _ _ _;refine Je ?_;intro cW gK;go_wp2;go_ret;rw[bu.out];exact H.out.ep U _
 |true=>
  have bu:=I (show fl d r=some {d with ps:=rH d.ps r.id} from by unfold fl;rw[aV J,aV J,aV J,aV J,bc ad]);refine afl ?_;intro bn _ _ _ _;refine Je ?_;intro cW gK;have m1:=aL (o:=0) (gK.out.ay cg.out) rfl;obtain⟨-,-,-,-,-,-,-,-,-,-,_,_,_⟩:=Nq (gK.out.ay cw.out);go_wp2_with fail;refine(ZA base q r.id s d au ps _ (H.out.ext U) aq).mono ?_;rintro e _ bB;obtain⟨rfl,dI⟩:=bB;replace dI:=I dI;go_wp2;go_ret;rw[bu.out];obtain⟨s',oR,ns,af,an,aO⟩:=dI.out;exact q8.cN U ⟨rfl,s',oR,ns,af,an,aO⟩
def LN.trans{w1:aC}{F eF Pr:eZ}(h:LN w F eF)(k:LN w1 eF Pr)(hs:(w:Nat)<=(w1:Nat)):LN w F Pr:=λb ad=>(k b ad).elim (h b) (λq=>.inr (ek hs q))
def q8.then{s:iJ}{w1 aN:aC}{v:Value}{e:Ending}{s':iJ}{zw:ew}(aj:aI (Jd q s) w w1)(bk:LN w (Jd q s) (Jd q s'))(h:q8 base q s' zw v w1 e aN):q8 base q s zw v w e aN:=
 let ⟨r,kM,ZB,ZC,af,an,aO⟩:=h
 ⟨r,kM,ZB,ZC,af,aj.xj an bk,bk.trans aO aj.size⟩
def ZD{ns:List bU}(h:ps.map (·.d)=aU)(k:ns.map (·.d)=aU):ns.length=ps.length:=by rw[<-cx (f:=(·.d)),k,<-h,cx]
def arh(base q fx gb:Nat)(s:iJ)(d:ew)(au ps:List bU)(x:bR)(r:e9)(w:aC)(h:q7 w base q s d au ps)(az:w.heap[fx]?=some (.cells #[r.k,ae (r.n:Int),x.k,x.id.b,ae x.id.l,ae x.id.s,x.c,ae x.u,x.f,x.e,r.id.b,ae r.id.l,ae r.id.s] 169))(al:w.heap[gb]?=some (.cells #[q] 173))(Bu:base<=(w:Nat))(hk:r.k=4)(aq:ps.length<=1000000)(nN:s.b.n<=1000000):
  aS 142 #[gb,fx] w (q8 base q s ((fl d r).getD d) (.bool (fl d r).isSome) w):=by
 obtain⟨dK,aD,ui,oY,lO⟩:=fB yY;change aa _ at aD ui oY lO;obtain⟨-,-,-,-,-,-,-,-,-,-,bH,b1,dJ⟩:=Nq az;have eG:=aL (o:=0) al rfl;obtain⟨h4,pN,qE,qF⟩:=oX h.box;replace bH:=fu.cell (w:=w) (a:=(fx,10)) (v:=.int .i64 r.id.b) bH;replace b1:=fu.cell (w:=w) (a:=(fx,11)) (v:=.int .u64 r.id.l) b1;replace dJ:=fu.cell (w:=w) (a:=(fx,12)) (v:=.int .u64 r.id.s) dJ;replace eG:=fu.cell (w:=w) (a:=(gb,0)) (v:=.pointer (some (q,0))) eG;replace h4:=fu.cell (w:=w) (a:=(q,0)) (v:=.int .u64 s.cX) h4;replace pN:=fu.cell (w:=w) (a:=(q,1)) (v:=.slice s.l.a s.l.n s.l.c) pN;replace qE:=fu.cell (w:=w) (a:=(q,2)) (v:=.slice s.p.a s.p.n s.p.c) qE;replace qF:=fu.cell (w:=w) (a:=(q,3)) (v:=.slice s.b.a s.b.n s.b.c) qF;have bg:=I (h.st.l.cj.aF.map (c:=bR.cs) (λp:bU=>p.x) (λ_=>rfl));have tL:=I h.st.b.aF;have q9:=AH h.st.l.sE h.st.jI r.id;have H:=I h;change aa _ at az al;cases gp:iP d.au r.id with
 |true=>
  have bu:=I (show fl d r=none from by unfold fl;rw[aV J,aV J,aV J,bc hk,bc (.inl gp)]);have bE:=I (q9.trans gp);go_enter func142,ntmps142;go_wp2_with fail;refine CQ bQ bQ ?_;repeat (first|go_big_quiet_step (((go_at_call 17;exact Calls.nX (oF s (au.map (·.x)) r.id _ (bg.out.ext (fu.ck _))) (eH Value.bool bE.out))))|quiet_step (((go_at_call 17;exact Calls.nX (oF s (au.map (·.x)) r.id _ (bg.out.ext (fu.ck _))) (eH Value.bool bE.out)))))
  exact G2
 |false=>
  have bE:=I (q9.trans gp);cases iX:kl d.aB r.id with
  |true=>
   have bu:=I (show fl d r=none from by unfold fl;rw[aV J,aV J,aV J,bc hk,bc (.inr iX)]);have fc:aa (d.aB.any (λj=>cc j r.id)=true):=iX;go_enter func142,ntmps142;go_wp2_with fail;refine afm ?_;exact G2
  |false=>
   have bu:=I (show fl d r=some {d with aB:=d.aB++[r.id],ps:=rH d.ps r.id} from by unfold fl;rw[aV J,aV J,aV J,bc hk,aV (by rw[gp,iX];simp)]);have fc:aa (d.aB.any (λj=>cc j r.id)=false):=iX;go_enter func142,ntmps142;go_wp2_with fail;refine afm ?_;refine Ub ?_;intro cW AA;go_wp2_with fail;refine BU 11 (λw'=>w'.heap[gb]?=some (.cells #[q] 173)/\w'.heap[fx]?=some (.cells #[r.k,ae (r.n:Int),x.k,x.id.b,ae x.id.l,ae x.id.s,x.c,ae x.u,x.f,x.e,r.id.b,ae r.id.l,ae r.id.s] 169)/\w'.heap[q]?=some (s:Obj)) (λbd=>?_) G3;refine ZE ?_;intro K aE;refine aE _ _ (λ_=>G3) λhH=>ej ?_;have bd:=hH ah;refine kW 8 λK aE=>?_;have dW:=I (H.out.ext (w':=(cW.alloc r.id).drew) U);refine tq (ys:=d.aB) (c:=ax.cs) rfl (.tmp 21) (.tmp 24) 31 rfl dK _ 24 aiL aD.out ui.out oY.out lO.out rfl ah rfl dW.out.st.b r.id _ rfl (fi (cs:=ax.cs r.id) rfl) (ax.cQ _) J ah (by have:=Z.size (w1:=(cW.alloc r.id).drew) (show Z w _ from U);omega) ?_;intro g dE cB q3 b2;have b9:=I b2;change aa _ at q3;have bm:(cW.alloc r.id).drew.heap[gb]?=some (.cells #[q] 173):=Z.ay (W:=w) U al.out;have aj:(cW.alloc r.id).drew.heap[fx]?=some (.cells #[r.k,ae (r.n:Int),x.k,x.id.b,ae x.id.l,ae x.id.s,x.c,ae x.u,x.f,x.e,r.id.b,ae r.id.l,ae r.id.s] 169):=Z.ay (W:=w) U az.out;have dF:=b2.ay bm (λai ak k=>dW.out.st.b.eW bm ah ai ak k);have ib:=b2.ay aj (λai ak k=>dW.out.st.b.eW aj ah ai ak k);have gV:=b2.ay dW.out.box (λai ak k=>dW.out.st.b.eW dW.out.box ah ai ak k);have sG:=I ib;have G4:=I dF;have tK:=I gV;refine zF (d:=some 25) rfl ?_;refine LO ?_;intro hH bd;refine kW 9 λK aE=>?_;go_simp;refine LO ?_;intro hH bd;refine gR 10 ?_;obtain⟨-,-,-,_,_⟩:=C8 gV;refine kW 11 λK aE=>?_;refine Jf ?_;intro _;have dG:=I (dW.out.ard b9.out q3.out (.bool true));have ra:=aI.setCell (S:=λb=>b=q) (aI.refl _ cB) (q,3) (.inl rfl) (.slice (some (g,0)) (s.b.n+1) dE);have dH:=(ra.block gb (bZ G4.out) (ED G4.out tK.out ah)).trans G4.out;have k6:=(ra.block fx (bZ sG.out) (ED sG.out tK.out ah)).trans sG.out;have m1:=aL (o:=0) dH rfl;obtain⟨-,-,-,-,-,-,-,-,-,-,_,_,_⟩:=Nq k6;go_wp2_with fail;obtain⟨-,s',oR,ns,af,an,aO⟩:=dG.out;refine(ZA base q r.id s' _ oR ns _ af (by rw[ZD H.out.st.kV af.st.kV];exact aq)).mono ?_;rintro e _ bB;obtain⟨rfl,mQ⟩:=bB;change aa _ at mQ an aO;go_wp2;go_ret;rw[bu.out];exact afn
def ari(base q fx gb:Nat)(s:iJ)(d:ew)(au ps:List bU)(x:bR)(r:e9)(w:aC)(h:q7 w base q s d au ps)(az:w.heap[fx]?=some (.cells #[r.k,ae (r.n:Int),x.k,x.id.b,ae x.id.l,ae x.id.s,x.c,ae x.u,x.f,x.e,r.id.b,ae r.id.l,ae r.id.s] 169))(al:w.heap[gb]?=some (.cells #[q] 173))(Bu:base<=(w:Nat))(hk:r.k=3)(X:hK w x r.e)(Bs:my r.e)(aq:ps.length<=1000000)(Ps:s.p.n<=1000000)(sd:s.l.n<=1000000):
  aS 140 #[fx,gb] w (q8 base q s ((fl d r).getD d) (.bool (fl d r).isSome) w):=by
 refine afo ?_;intro ct aK fa fj pB b1 dJ eG bH h4 pN qE qF Jg qz wv xo bg;have b8:=I ((h.st.p.cj.aF.map (c:=bR.cs) (λp:bU=>p.x) (λ_=>rfl)).ext ((Z.refl w).alloc x.id));refine afp ?_;intro tL q9 mw pP H;change aa _ at az al X Bs;clear h;rw[<-pP]at q9 mw;clear b1 dJ eG xo;obtain⟨-,-,-,b1,dJ,eG⟩:=RU az.out;cases gp:iP d.au x.id with
 |true=>
  have bE:=I (q9.trans gp);have bu:=I (show fl d r=none from by unfold fl;rw[aV J,aV J,bc hk,bc (.inl (pP▸gp))]);clear gp q9 mw pP;go_enter func140,ntmps140;go_wp2_with fail;refine afq ?_;exact G2
 |false=>
  have bE:=I (q9.trans gp);cases iX:iP d.ps x.id with
  |true=>
   have fW:=I (mw.trans iX);have bu:=I (show fl d r=none from by unfold fl;rw[aV J,aV J,bc hk,bc (.inr (.inl (pP▸iX)))]);clear gp iX q9 mw pP;go_enter func140,ntmps140;go_wp2_with fail;refine CQ bQ bQ ?_;repeat (first|go_big_quiet_step (((first|(go_at_call 17;exact Calls.nX (oF s (au.map (·.x)) x.id _ (bg.out.ext (fu.ck _))) (eH Value.bool bE.out))|(go_at_call 141;exact Calls.nX (vR s (ps.map (·.x)) x.id _ (b8.out.ext (fu.ck _))) (eH Value.bool fW.out)))))|quiet_step (((first|(go_at_call 17;exact Calls.nX (oF s (au.map (·.x)) x.id _ (bg.out.ext (fu.ck _))) (eH Value.bool bE.out))|(go_at_call 141;exact Calls.nX (vR s (ps.map (·.x)) x.id _ (b8.out.ext (fu.ck _))) (eH Value.bool fW.out))))))
   exact G2
  |false=>
   have fW:=I (mw.trans iX);cases kL:kl d.aB x.id with
   |true=>
    have fc:aa (d.aB.any (λj=>cc j x.id)=true):=kL;have bu:=I (show fl d r=none from by unfold fl;rw[aV J,aV J,bc hk,bc (.inr (.inr (pP▸kL)))]);clear gp iX kL q9 mw pP;go_enter func140,ntmps140;go_wp2_with fail;refine afr ?_;exact G2
   |false=>
    have bu:=I (show fl d r=some {d with ps:=d.ps++[r.e]} from by unfold fl;rw[aV J,aV J,bc hk,aV (by rw[<-pP,gp,iX,kL];simp)]);have fc:aa (d.aB.any (λj=>cc j x.id)=false):=kL;clear gp iX kL q9 mw pP;go_enter func140,ntmps140;go_wp2_with fail;refine afr ?_;refine Ub ?_;intro cW AA;clear b1 dJ eG;clear bH h4 pN qE qF Jg qz wv;go_wp2_with fail;refine BU 12 (λw'=>w'.heap[gb]?=some (.cells #[q] 173)/\w'.heap[fx]?=some (.cells #[r.k,ae (r.n:Int),x.k,x.id.b,ae x.id.l,ae x.id.s,x.c,ae x.u,x.f,x.e,r.id.b,ae r.id.l,ae r.id.s] 169)/\w'.heap[q]?=some (s:Obj)) (λbd=>?_) G3;refine ZE ?_;intro K aE;go_at_call 138;refine(TB x r.e _ (X.out.ext U) Bs.out).mono ?_;rintro e a6⟨cH,rfl,um,ad⟩;change aa _ at um ad;refine aE _ _ (λ_=>G3) λhH=>ej ?_;have bd:=hH ah;refine kW 8 λK aE=>?_;go_simp;refine aE _ _ (λ_=>G3) λhH=>ej ?_;have bd:=hH ah;refine kW 9 λK aE=>?_;have dW:=I (H.out.ext (w':=a6.alloc cH) U);refine tq (ys:=ps) (c:=bU.cs) rfl (.tmp 30) (.tmp 34) 42 rfl ct _ 96 aiM aK.out fa.out fj.out pB.out rfl ah rfl dW.out.st.p.cj ⟨cH,r.e⟩ _ rfl (fi (cs:=bU.cs ⟨cH,r.e⟩) rfl) (bU.cQ _) J ah (by have:=Z.size (w1:=a6.alloc cH) (show Z w _ from U);omega) ?_;intro g dE cB q3 b2;have b9:=I b2;change aa _ at q3;refine afs ?_;intro bm aj bw;have dF:=b2.ay bm (λai ak k=>dW.out.st.p.cj.eW bm ah ai ak k);have ib:=b2.ay aj (λai ak k=>dW.out.st.p.cj.eW aj ah ai ak k);have gV:=b2.ay dW.out.box (λai ak k=>dW.out.st.p.cj.eW dW.out.box ah ai ak k);have v4:=b2.ay bw (λai ak k=>dW.out.st.p.cj.eW bw ah ai ak k);have G4:=I dF;have tK:=I gV;change aa _ at v4;clear b2 bm aj bw;refine zF (d:=some 35) rfl ?_;refine LO ?_;intro hH bd;refine kW 10 λK aE=>?_;go_simp;refine LO ?_;intro hH bd;refine gR 11 ?_;obtain⟨-,-,Pl,Pm⟩:=qu gV;refine kW 12 λK aE=>?_;refine Jf ?_;intro _;have ZF:fU (a6.alloc cH) base cH r.e:=(um.out.mono (by have:=Z.size (w1:=cW) (show Z w _ from U);simp;omega)).ext U;have dG:=I (dW.out.arc b9.out q3.out ZF (.bool true));have ra:=aI.setCell (S:=λb=>b=q) (aI.refl _ cB) (q,2) (.inl rfl) (.slice (some (g,0)) (s.p.n+1) dE);refine aft ?_;intro dH v5;obtain⟨_,_,_⟩:=jm v5;clear gV dF ib Pl Pm bd;go_wp2;go_ret;rw[bu.out];exact q8.cN (show Z w _ from U) dG.out
def arj(base q fx gb:Nat)(s:iJ)(d:ew)(au ps:List bU)(x:bR)(r:e9)(w:aC)(h:q7 w base q s d au ps)(az:w.heap[fx]?=some (.cells #[r.k,ae (r.n:Int),x.k,x.id.b,ae x.id.l,ae x.id.s,x.c,ae x.u,x.f,x.e,r.id.b,ae r.id.l,ae r.id.s] 169))(al:w.heap[gb]?=some (.cells #[q] 173))(Bu:base<=(w:Nat))(hk:r.k=2)(X:hK w x r.e)(Bs:my r.e)(aq:ps.length<=1000000)(Ps:s.p.n<=1000000)(sd:s.l.n<=1000000):
  aS 136 #[fx,gb] w (q8 base q s ((fl d r).getD d) (.bool (fl d r).isSome) w):=by
 refine afo ?_;intro ct aK fa fj pB b1 dJ eG bH h4 pN qE qF Jg qz wv xo bg;refine afp ?_;intro tL q9 mw pP H;change aa _ at az al X Bs;have od:=I pP;clear h;rw[<-pP]at q9 mw;obtain⟨-,-,-,b1,dJ,eG⟩:=RU az.out;have C9:s.l.n=d.au.length:=H.out.st.ck.se;have kE:IntKind.u64.wrap (s.l.n:Int)=(s.l.n:Int):=G5 _ ⟨J,J⟩;by_cases jt:r.n=d.au.length
 ·have afu:((r.n:Int) !=(s.l.n:Int))=false:=by simp;omega
  cases gp:iP d.au x.id with
  |true=>
   have bE:=I (q9.trans gp);have bu:=I (show fl d r=none from by unfold fl;rw[aV J,bc hk,bc (.inr (.inl (pP▸gp)))]);clear jt gp q9 mw pP C9;go_enter func136,ntmps136;go_wp2_with fail;refine afq ?_;exact G2
  |false=>
   have bE:=I (q9.trans gp);cases kL:kl d.aB x.id with
   |true=>
    have fc:aa (d.aB.any (λj=>cc j x.id)=true):=kL;have bu:=I (show fl d r=none from by unfold fl;rw[aV J,bc hk,bc (.inr (.inr (pP▸kL)))]);clear jt gp kL q9 mw pP C9;go_enter func136,ntmps136;go_wp2_with fail;refine afv ?_;exact G2
   |false=>
    have bu:=I (show fl d r=some {d with au:=d.au++[r.e],ps:=rH d.ps r.e.id} from by unfold fl;rw[aV J,bc hk,aV (by rw[<-pP,gp,kL];simp[jt])]);have fc:aa (d.aB.any (λj=>cc j x.id)=false):=kL;clear jt gp kL q9 mw pP C9;go_enter func136,ntmps136;go_wp2_with fail;refine afv ?_;refine Ub ?_;intro cW AA;clear xo afu kE;clear bH b1 dJ eG h4 pN qE qF Jg qz wv;go_wp2_with fail;refine BU 12 (λw'=>w'.heap[gb]?=some (.cells #[q] 173)/\w'.heap[fx]?=some (.cells #[r.k,ae (r.n:Int),x.k,x.id.b,ae x.id.l,ae x.id.s,x.c,ae x.u,x.f,x.e,r.id.b,ae r.id.l,ae r.id.s] 169)/\w'.heap[q]?=some (s:Obj)) (λbd=>?_) G3;refine ZE ?_;intro K aE;go_at_call 138;refine(TB x r.e _ (X.out.ext U) Bs.out).mono ?_;rintro e a6⟨cH,rfl,um,ad⟩;change aa _ at um ad;refine aE _ _ (λ_=>G3) λhH=>ej ?_;have bd:=hH ah;refine kW 8 λK aE=>?_;go_simp;refine aE _ _ (λ_=>G3) λhH=>ej ?_;have bd:=hH ah;refine kW 9 λK aE=>?_;have dW:=I (H.out.ext (w':=a6.alloc cH) U);refine tq (ys:=au) (c:=bU.cs) rfl (.tmp 34) (.tmp 38) 42 rfl ct _ 96 aiM aK.out fa.out fj.out pB.out rfl ah rfl dW.out.st.l.cj ⟨cH,r.e⟩ _ rfl (fi (cs:=bU.cs ⟨cH,r.e⟩) rfl) (bU.cQ _) J ah (by have:=Z.size (w1:=a6.alloc cH) (show Z w _ from U);omega) ?_;intro g dE cB q3 b2;have b9:=I b2;change aa _ at q3;refine afs ?_;intro bm aj bw;have dF:=b2.ay bm (λai ak k=>dW.out.st.l.cj.eW bm ah ai ak k);have ib:=b2.ay aj (λai ak k=>dW.out.st.l.cj.eW aj ah ai ak k);have gV:=b2.ay dW.out.box (λai ak k=>dW.out.st.l.cj.eW dW.out.box ah ai ak k);have v4:=b2.ay bw (λai ak k=>dW.out.st.l.cj.eW bw ah ai ak k);have G4:=I dF;have tK:=I gV;change aa _ at v4;clear b2 bm aj bw;refine zF (d:=some 39) rfl ?_;refine LO ?_;intro hH bd;refine kW 10 λK aE=>?_;go_simp;refine LO ?_;intro hH bd;refine gR 11 ?_;obtain⟨-,Pl,Pm⟩:=SS gV;refine kW 12 λK aE=>?_;refine Jf ?_;intro _;have ZF:fU (a6.alloc cH) base cH r.e:=(um.out.mono (by have:=Z.size (w1:=cW) (show Z w _ from U);simp;omega)).ext U;have dG:=I (dW.out.arb b9.out q3.out ZF (.bool true));have ra:=aI.setCell (S:=λb=>b=q) (aI.refl _ cB) (q,1) (.inl rfl) (.slice (some (g,0)) (s.l.n+1) dE);refine aft ?_;intro dH v5;have m1:=aL (o:=0) dH rfl;obtain⟨m2,m3,m4⟩:=jm v5;clear gV dF ib Pl Pm bd;go_wp2_with fail;obtain⟨-,s',oR,ns,af,an,aO⟩:=dG.out;refine(ZA base q x.id s' _ oR ns _ af (by rw[ZD H.out.st.kV af.st.kV];exact aq)).mono ?_;rintro e _ bB;obtain⟨rfl,mQ⟩:=bB;change aa _ at mQ an aO;clear af m1 m2 m3 m4 dH v5 ra;go_wp2;go_ret;rw[bu.out,<-od.out];exact afn
 ·have afu:((r.n:Int) !=(s.l.n:Int))=true:=by simp;omega
  have bu:=I (show fl d r=none from by unfold fl;rw[aV J,bc hk,bc (.inl jt)]);clear jt q9 mw pP C9;go_enter func136,ntmps136;go_wp2_with fail;refine ZG ?_;exact G2
def ark(h:xX r):r.k=1\/r.k=2\/r.k=3\/r.k=4\/r.k=5:=by
 rcases h with ⟨n,rfl,_⟩|⟨n,d,rfl,_⟩|⟨d,rfl,_⟩|⟨i,rfl,_⟩|⟨i,rfl,_⟩
 ·exact .inl rfl
 ·exact .inr (.inl rfl)
 ·exact .inr (.inr (.inl rfl))
 ·exact .inr (.inr (.inr (.inl rfl)))
 ·exact .inr (.inr (.inr (.inr rfl)))
def afw(h:xX r):my r.e:=by
 rcases h with ⟨n,rfl,_⟩|⟨n,d,rfl,_,aG⟩|⟨d,rfl,aG⟩|⟨i,rfl,_⟩|⟨i,rfl,_⟩;exact ZH
 ·exact aG.r8
 ·exact aG.r8
 exact ZH;exact ZH
def Jh(o:Option ew):Int:=if o.isSome=true then 0 else 160
def afx(base q:Nat)(s:iJ)(d:ew)(au ps:List bU)(x:bR)(r:e9)(w:aC)(H:q7 w base q s d au ps)(Bu:base<=(w:Nat))(bG:hK w x r.e)(ec:r.k≠2/\r.k≠3->x=sL)(cw:xX r)(aq:ps.length<=1000000)(Ps:s.p.n<=1000000)(sd:s.l.n<=1000000)(nN:s.b.n<=1000000):
  aS 78 #[q,.agg #[r.k,ae (r.n:Int),x.k,x.id.b,ae x.id.l,ae x.id.s,x.c,ae x.u,x.f,x.e,r.id.b,ae r.id.l,ae r.id.s]] w (q8 base q s ((fl d r).getD d) (.int .i64 (Jh (fl d r))) w):=by
 have rq:=@run_makeMap prog;change aa _ at H bG ec cw;go_enter func78,ntmps78;go_wp2_with fail;refine(YD x r _ (bG.ext U) ec cw).mono ?_;rintro e w1⟨cE,_,_,rfl,-,gp⟩;have qG:=I (gp.ay (show((w.alloc (.cells #[q] 173)).alloc (.cells #[r.k,ae (r.n:Int),x.k,x.id.b,ae x.id.l,ae x.id.s,x.c,ae x.u,x.f,x.e,r.id.b,ae r.id.l,ae r.id.s] 169)).heap[(w:Nat)]?=some (.cells #[q] 173)from gA));have di:=I (gp.ay (show((w.alloc (.cells #[q] 173)).alloc (.cells #[r.k,ae (r.n:Int),x.k,x.id.b,ae x.id.l,ae x.id.s,x.c,ae x.u,x.f,x.e,r.id.b,ae r.id.l,ae r.id.s] 169)).heap[(w:Nat)+1]?=some (.cells #[r.k,ae (r.n:Int),x.k,x.id.b,ae x.id.l,ae x.id.s,x.c,ae x.u,x.f,x.e,r.id.b,ae r.id.l,ae r.id.s] 169)from gA));refine LP ?_;intro bz;have gn:=aL (o:=0) di rfl;have ct:=fun(v:Value)=>wU (P:=prog) mK ft w1 w1 rfl #[] 0 1 v rfl;have i1:=fun(v v0:Value)=>wU (P:=prog) mK ft w1 w1 rfl #[⟨.int .i64 1,v0,0⟩] 1 2 v rfl;have mv:=fun(v v0 v1:Value)=>wU (P:=prog) mK ft w1 w1 rfl #[⟨.int .i64 1,v0,0⟩,⟨.int .i64 2,v1,1⟩] 2 3 v rfl;have CL:=fun(v v0 v1 v2:Value)=>wU (P:=prog) mK ft w1 w1 rfl #[⟨.int .i64 1,v0,0⟩,⟨.int .i64 2,v1,1⟩,⟨.int .i64 3,v2,2⟩] 3 4 v rfl;have Kw:=fun(v v0 v1 v2 v3:Value)=>wU (P:=prog) mK ft w1 w1 rfl #[⟨.int .i64 1,v0,0⟩,⟨.int .i64 2,v1,1⟩,⟨.int .i64 3,v2,2⟩,⟨.int .i64 4,v3,3⟩] 4 5 v rfl;clear gp;rcases ark cw with hk|hk|hk|hk|hk
 ·refine Pt ?_;intro b6 kF eI;clear gn;have bT:(Instr.lookup 227 (.map (some (w1:Nat))) r.k true).run prog (w1.alloc (Obj.map #[⟨.int .i64 1,.func (.func 135) #[] #[.pointer (some (w,1,0)),w],0⟩,⟨.int .i64 2,.func (.func 136) #[] #[.pointer (some (w,1,0)),w],1⟩,⟨.int .i64 3,.func (.func 140) #[] #[.pointer (some (w,1,0)),w],2⟩,⟨.int .i64 4,.func (.func 142) #[] #[w,.pointer (some (w,1,0))],3⟩,⟨.int .i64 5,.func (.func 143) #[] #[w,.pointer (some (w,1,0))],4⟩] 5))=.ok (.tuple #[.func (.func 135) #[] #[.pointer (some (w,1,0)),w],.bool true]) (w1.alloc (Obj.map #[⟨.int .i64 1,.func (.func 135) #[] #[.pointer (some (w,1,0)),w],0⟩,⟨.int .i64 2,.func (.func 136) #[] #[.pointer (some (w,1,0)),w],1⟩,⟨.int .i64 3,.func (.func 140) #[] #[.pointer (some (w,1,0)),w],2⟩,⟨.int .i64 4,.func (.func 142) #[] #[w,.pointer (some (w,1,0))],3⟩,⟨.int .i64 5,.func (.func 143) #[] #[w,.pointer (some (w,1,0))],4⟩] 5)):=by rw[hk];exact nB (P:=prog) mK ft kF 1 rfl
  clear hk kF;go_wp2_with fail;refine(are base q (w.heap.size+1) w.heap.size s d au ps x r _ (H.ext U) (Z.ay (W:=w1) U di) (Z.ay (W:=w1) U qG) b6).mono ?_;exact Pu
 ·refine Pt ?_;intro b6 kF eI;clear gn;have bT:(Instr.lookup 227 (.map (some (w1:Nat))) r.k true).run prog (w1.alloc (Obj.map #[⟨.int .i64 1,.func (.func 135) #[] #[.pointer (some (w,1,0)),w],0⟩,⟨.int .i64 2,.func (.func 136) #[] #[.pointer (some (w,1,0)),w],1⟩,⟨.int .i64 3,.func (.func 140) #[] #[.pointer (some (w,1,0)),w],2⟩,⟨.int .i64 4,.func (.func 142) #[] #[w,.pointer (some (w,1,0))],3⟩,⟨.int .i64 5,.func (.func 143) #[] #[w,.pointer (some (w,1,0))],4⟩] 5))=.ok (.tuple #[.func (.func 136) #[] #[.pointer (some (w,1,0)),w],.bool true]) (w1.alloc (Obj.map #[⟨.int .i64 1,.func (.func 135) #[] #[.pointer (some (w,1,0)),w],0⟩,⟨.int .i64 2,.func (.func 136) #[] #[.pointer (some (w,1,0)),w],1⟩,⟨.int .i64 3,.func (.func 140) #[] #[.pointer (some (w,1,0)),w],2⟩,⟨.int .i64 4,.func (.func 142) #[] #[w,.pointer (some (w,1,0))],3⟩,⟨.int .i64 5,.func (.func 143) #[] #[w,.pointer (some (w,1,0))],4⟩] 5)):=by rw[hk];exact nB (P:=prog) mK ft kF 2 rfl
  clear hk kF;go_wp2_with fail;refine(arj base q (w.heap.size+1) w.heap.size s d au ps x r _ (H.ext U) (Z.ay (W:=w1) U di) (Z.ay (W:=w1) U qG) (ek Bu (Z.size U)) b6 (bG.ext U) (afw cw) aq Ps sd).mono ?_;exact Pu
 ·refine Pt ?_;intro b6 kF eI;clear gn;have bT:(Instr.lookup 227 (.map (some (w1:Nat))) r.k true).run prog (w1.alloc (Obj.map #[⟨.int .i64 1,.func (.func 135) #[] #[.pointer (some (w,1,0)),w],0⟩,⟨.int .i64 2,.func (.func 136) #[] #[.pointer (some (w,1,0)),w],1⟩,⟨.int .i64 3,.func (.func 140) #[] #[.pointer (some (w,1,0)),w],2⟩,⟨.int .i64 4,.func (.func 142) #[] #[w,.pointer (some (w,1,0))],3⟩,⟨.int .i64 5,.func (.func 143) #[] #[w,.pointer (some (w,1,0))],4⟩] 5))=.ok (.tuple #[.func (.func 140) #[] #[.pointer (some (w,1,0)),w],.bool true]) (w1.alloc (Obj.map #[⟨.int .i64 1,.func (.func 135) #[] #[.pointer (some (w,1,0)),w],0⟩,⟨.int .i64 2,.func (.func 136) #[] #[.pointer (some (w,1,0)),w],1⟩,⟨.int .i64 3,.func (.func 140) #[] #[.pointer (some (w,1,0)),w],2⟩,⟨.int .i64 4,.func (.func 142) #[] #[w,.pointer (some (w,1,0))],3⟩,⟨.int .i64 5,.func (.func 143) #[] #[w,.pointer (some (w,1,0))],4⟩] 5)):=by rw[hk];exact nB (P:=prog) mK ft kF 3 rfl
  clear hk kF;go_wp2_with fail;refine(ari base q (w.heap.size+1) w.heap.size s d au ps x r _ (H.ext U) (Z.ay (W:=w1) U di) (Z.ay (W:=w1) U qG) (ek Bu (Z.size U)) b6 (bG.ext U) (afw cw) aq Ps sd).mono ?_;exact Pu
 ·refine Pt ?_;intro b6 kF eI;clear gn;have bT:(Instr.lookup 227 (.map (some (w1:Nat))) r.k true).run prog (w1.alloc (Obj.map #[⟨.int .i64 1,.func (.func 135) #[] #[.pointer (some (w,1,0)),w],0⟩,⟨.int .i64 2,.func (.func 136) #[] #[.pointer (some (w,1,0)),w],1⟩,⟨.int .i64 3,.func (.func 140) #[] #[.pointer (some (w,1,0)),w],2⟩,⟨.int .i64 4,.func (.func 142) #[] #[w,.pointer (some (w,1,0))],3⟩,⟨.int .i64 5,.func (.func 143) #[] #[w,.pointer (some (w,1,0))],4⟩] 5))=.ok (.tuple #[.func (.func 142) #[] #[w,.pointer (some (w,1,0))],.bool true]) (w1.alloc (Obj.map #[⟨.int .i64 1,.func (.func 135) #[] #[.pointer (some (w,1,0)),w],0⟩,⟨.int .i64 2,.func (.func 136) #[] #[.pointer (some (w,1,0)),w],1⟩,⟨.int .i64 3,.func (.func 140) #[] #[.pointer (some (w,1,0)),w],2⟩,⟨.int .i64 4,.func (.func 142) #[] #[w,.pointer (some (w,1,0))],3⟩,⟨.int .i64 5,.func (.func 143) #[] #[w,.pointer (some (w,1,0))],4⟩] 5)):=by rw[hk];exact nB (P:=prog) mK ft kF 4 rfl
  clear hk kF;go_wp2_with fail;refine(arh base q (w.heap.size+1) w.heap.size s d au ps x r _ (H.ext U) (Z.ay (W:=w1) U di) (Z.ay (W:=w1) U qG) (ek Bu (Z.size U)) b6 aq nN).mono ?_;exact Pu
 ·refine Pt ?_;intro b6 kF eI;clear gn;have bT:(Instr.lookup 227 (.map (some (w1:Nat))) r.k true).run prog (w1.alloc (Obj.map #[⟨.int .i64 1,.func (.func 135) #[] #[.pointer (some (w,1,0)),w],0⟩,⟨.int .i64 2,.func (.func 136) #[] #[.pointer (some (w,1,0)),w],1⟩,⟨.int .i64 3,.func (.func 140) #[] #[.pointer (some (w,1,0)),w],2⟩,⟨.int .i64 4,.func (.func 142) #[] #[w,.pointer (some (w,1,0))],3⟩,⟨.int .i64 5,.func (.func 143) #[] #[w,.pointer (some (w,1,0))],4⟩] 5))=.ok (.tuple #[.func (.func 143) #[] #[w,.pointer (some (w,1,0))],.bool true]) (w1.alloc (Obj.map #[⟨.int .i64 1,.func (.func 135) #[] #[.pointer (some (w,1,0)),w],0⟩,⟨.int .i64 2,.func (.func 136) #[] #[.pointer (some (w,1,0)),w],1⟩,⟨.int .i64 3,.func (.func 140) #[] #[.pointer (some (w,1,0)),w],2⟩,⟨.int .i64 4,.func (.func 142) #[] #[w,.pointer (some (w,1,0))],3⟩,⟨.int .i64 5,.func (.func 143) #[] #[w,.pointer (some (w,1,0))],4⟩] 5)):=by rw[hk];exact nB (P:=prog) mK ft kF 5 rfl
  clear hk kF;go_wp2_with fail;refine(arf base q (w.heap.size+1) w.heap.size s d au ps x r _ (H.ext U) (Z.ay (W:=w1) U di) (Z.ay (W:=w1) U qG) b6 aq).mono ?_;exact Pu
def arl(l:List bb)(i:ax):(rH l i).length<=l.length:=vP _ _
def arn{s':ew}(h:fl s r=some s'):s'.au.length<=s.au.length+1/\s'.ps.length<=s.ps.length+1/\s'.aB.length<=s.aB.length+1:=by
 have aG:=λi=>arl s.ps i;cases O5 h with
 |cX h _=>exact⟨l9 _,l9 _,l9 _⟩
 |entry h _ _ _=>exact⟨by simp,by have:=aG r.e.id;dsimp only;omega,l9 _⟩
 |ux h _ _ _=>exact⟨l9 _,by simp,l9 _⟩
 |rJ h _ _=>exact⟨l9 _,by have:=aG r.id;dsimp only;omega,by simp⟩
 |pd h _=>exact⟨l9 _,by have:=aG r.id;dsimp only;omega,l9 _⟩
def afy{l:List e9}:∀{s s':ew},nT s l=some s'->s'.au.length<=s.au.length+l.length/\s'.ps.length<=s.ps.length+l.length/\s'.aB.length<=s.aB.length+l.length:=by
 induction l with
 |nil=>intro s s' h;injection h with h;subst h;exact⟨bJ _,bJ _,bJ _⟩
 |cons r l cY=>
  intro s _ h;rw[AI]at h;cases aM:fl s r with
  |none=>rw[aM]at h;cases h
  |some gM=>
   rw[aM]at h;have af:=cY h;have an:=arn aM;rw[me];omega
def afz(s:iJ)(d:ew)(au ps:List bU)(x:bR)(r:e9)(w:aC)(a8:q6 w s d au ps)(fK:O0 d)(bG:hK w x r.e)(ec:r.k≠2/\r.k≠3->x=sL)(cw:xX r):
  aS 287 #[.agg #[.int .u64 s.cX,.slice s.l.a s.l.n s.l.c,.slice s.p.a s.p.n s.p.c,.slice s.b.a s.b.n s.b.c],.agg #[.int .i64 r.k,.int .u64 (r.n:Int),.int .i64 x.k,.int .i64 x.id.b,.int .u64 x.id.l,.int .u64 x.id.s,.int .i64 x.c,.int .u64 x.u,.slice x.f.a x.f.n x.f.c,.slice x.e.a x.e.n x.e.c,.int .i64 r.id.b,.int .u64 r.id.l,.int .u64 r.id.s]] w λe w'=>∃s' oR ns,e=.returned (.tuple #[.agg #[.int .u64 s'.cX,.slice s'.l.a s'.l.n s'.l.c,.slice s'.p.a s'.p.n s'.p.c,.slice s'.b.a s'.b.n s'.b.c],.int .i64 (Jh (fl d r))])/\rI w' w s' ((fl d r).getD d) oR ns/\Z w w':=by
 replace a8:=I a8;replace fK:=I fK;replace bG:=I bG;replace ec:=I ec;replace cw:=I cw;go_enter func287,ntmps287;go_wp2_with fail;refine(aqY s d au ps _ (a8.ext U) fK).mono ?_;rintro e w1⟨gM,ZI,ZJ,rfl,iB,bE⟩;have di:=bE.ay (show(((w.alloc s).alloc (.cells #[r.k,ae (r.n:Int),x.k,x.id.b,ae x.id.l,ae x.id.s,x.c,ae x.u,x.f,x.e,r.id.b,ae r.id.l,ae r.id.s] 169)).alloc (.cells #[aw,aP,aP,aP] 44)).heap[(w:Nat)+1]?=some (.cells #[r.k,ae (r.n:Int),x.k,x.id.b,ae x.id.l,ae x.id.s,x.c,ae x.u,x.f,x.e,r.id.b,ae r.id.l,ae r.id.s] 169)from gA);have ih:=bE.ay (show(((w.alloc s).alloc (.cells #[r.k,ae (r.n:Int),x.k,x.id.b,ae x.id.l,ae x.id.s,x.c,ae x.u,x.f,x.e,r.id.b,ae r.id.l,ae r.id.s] 169)).alloc (.cells #[aw,aP,aP,aP] 44)).heap[(w:Nat)+1+1]?=some (.cells #[aw,aP,aP,aP] 44)from gA);have fL:(w:Nat)+1+1+1<=(w1:Nat):=by have:=bE.size;simpa using this
 have a0:=((Z.refl w1).alloc gM).ay di;obtain⟨b0,bf,dA,gh,gm,ti,uY,hG,Ji,qc,ji,afA,aro⟩:=Nq a0;replace iB:=I iB;replace bE:=I bE;replace di:=I di;replace ih:=I ih;replace fL:=I fL;clear a0;go_wp2_with fail;have dG:q7 (w1.alloc gM) (w.heap.size+1+1+1) w1 gM d ZI ZJ:=⟨e2 rfl,(iB.ext U).mono (by simp),fL⟩;have Ik:=ZD (show(ZI).map (·.d)=d.au from iB.jI) a8.jI;have Uc:ZJ.length<=200000:=by rw[<-cx (f:=(·.d)),iB.kV];exact fK.h6
 have Pv:gM.l.n<=200000:=by rw[iB.ck.se];exact fK.se
 have Ud:gM.p.n<=200000:=by rw[iB.ck.h6];exact fK.h6
 have afB:gM.b.n<=200000:=by rw[iB.b.neq];exact fK.bW
 refine(afx (w.heap.size+1+1+1) w1 gM d ZI ZJ x r _ dG (by have:=fL.out;simp;omega) (bG.ext U) ec cw J J J J).mono ?_;rintro e lh bB;obtain⟨rfl,s',oR,ns,lj,iH,qH⟩:=bB;have oM:=dG.b5;have xf:=(iH.block (w.heap.size+1+1) (by have:=fL.out;simp;omega) (λk=>by have:=(oM _ k).1;omega)).trans (((Z.refl w1).alloc gM).ay ih);obtain⟨_,_,_,_,_⟩:=C8 xf;obtain⟨_,_,_,_⟩:=oX lj.box;replace lj:=I lj;replace iH:=I iH;replace xf:=I xf;replace dG:=I dG;clear qH oM b0 bf dA gh gm ti uY hG Ji qc ji afA aro;go_wp2_with fail;have u0:=xf.out;(have f0:=LJ u0 (ae s'.cX) s'.l s'.p s'.b;have iz:=Dt (S:=λx=>x=(w:Nat)+1+1) (aI.refl _ lh) (R:=(w:Nat)+1+1) (.inl rfl) (ae s'.cX) s'.l s'.p s'.b;have z0:=aL (o:=0) f0 rfl;have cZ:=aL (o:=1) f0 rfl;have z2:=aL (o:=2) f0 rfl;have z3:=aL (o:=3) f0 rfl);refine ke (v:=.tuple #[.agg #[.int .u64 s'.cX,.slice s'.l.a s'.l.n s'.l.c,.slice s'.p.a s'.p.n s'.p.c,.slice s'.b.a s'.b.n s'.b.c],.int .i64 (Jh (fl d r))]) (by simp[results,results287,go_sem,z0,cZ,z2,z3]) rfl ⟨s',oR,ns,rfl,(lj.st.E4 u0 iz).mono J,iz.ext (W:=w) (λb ad=>by subst ad;omega) (iH.ext (W:=w) (λb ad=>by have:=(dG.b5 b ad).1;omega) U)⟩
def arp{rs:List e9}{d:ew}(h:nT kU rs=some d)(k:Nat):∃s,nT kU (rs.take k)=some s:=by
 have:rs=rs.take k++rs.drop k:=(NU k rs).symm;rw[this,IX]at h;cases he:nT kU (rs.take k)with
 |none=>rw[he]at h;cases h
 |some s=>exact⟨s,rfl⟩
def arq{rs:List e9}{d:ew}(h:nT kU rs=some d)(hk:k<rs.length)(hs:nT kU (rs.take k)=some s):∃s',fl s rs[k]=some s'/\nT kU (rs.take (k+1))=some s':=by
 obtain⟨_,ta⟩:=arp h (k+1);have an:=ta;rw[iv hk,IX,hs,IZ,AI]at an;cases aM:fl s rs[k]with
 |none=>rw[aM]at an;cases an
 |some gM=>rw[aM]at an;injection an with an;exact⟨gM,rfl,by rw[ta,<-an]⟩
def afC(a:bl)(n c:Nat)(xs:List gN)(rs:List e9)(d:ew)(w:aC)(H:xg w a n c xs)(bF:xs.map (·.aB)=rs.map gi)(cw:∀r,r∈rs->xX r)(Ue:nT kU rs=some d)(r6:∀r,r∈rs->(gi r).length<=4000)(aq:rs.length<=200000):
  aS 44 #[.slice a n c] w λe w'=>∃s' oR ns,e=.returned (.tuple #[.agg #[.int .u64 s'.cX,.slice s'.l.a s'.l.n s'.l.c,.slice s'.p.a s'.p.n s'.p.c,.slice s'.b.a s'.b.n s'.b.c],.int .i64 0])/\rI w' w s' d oR ns/\Z w w':=by
 obtain rfl:=H.aF.neq;have mE:xs.length=rs.length:=by have:=eH List.length bF;rw[cx,cx]at this;exact this
 have Pw:=H.aF.max;unfold maxLen at Pw;replace H:=I H;replace bF:=I bF;replace cw:=I cw;replace Ue:=I Ue;replace r6:=I r6;replace mE:=I mE;go_enter func44,ntmps44;go_wp2_with fail;go_step3;go_wp2_with fail;go_step3;go_wp2_with fail;have hX:((w.alloc (.cells #[aw,aP,aP,aP] 44)).alloc (.cells #[aw,aP,aP,aP] 44)).heap[(w:Nat)+1]?=some (.cells #[aw,aP,aP,aP] 44):=gA;have pg:((w.alloc (.cells #[aw,aP,aP,aP] 44)).alloc (.cells #[aw,aP,aP,aP] 44)).heap[(w:Nat)]?=some (.cells #[aw,aP,aP,aP] 44):=gA;have bq:Z w ((w.alloc (.cells #[aw,aP,aP,aP] 44)).alloc (.cells #[aw,aP,aP,aP] 44)):=U;have lg:((w.alloc (.cells #[aw,aP,aP,aP] 44)).alloc (.cells #[aw,aP,aP,aP] 44)).heap.size=(w:Nat)+1+1:=by simp
 generalize oQ:((w.alloc (.cells #[aw,aP,aP,aP] 44)).alloc (.cells #[aw,aP,aP,aP] 44))=aN at hX pg bq lg ⊢;replace bq:=I bq;replace pg:=I pg;replace hX:=I hX;replace lg:=I lg;clear oQ;go_loopg [5,7,9,12] (xs.length) (λg ng _ _ st wr=>∃(k:Nat) (s:iJ) (kH:ew) (au ps:List bU),g+k=xs.length/\ng=.int .i64 0/\st=.int .i64 k/\aa (nT kU (rs.take k)=some kH)/\aa (q7 wr (w.heap.size+1) (w.heap.size+1) s kH au ps)/\aa (wr.heap[(w:Nat)]?=some (.cells #[aw,aP,aP,aP] 44))/\aa (Z w wr)/\(w:Nat)+1+1<=(wr:Nat));case atStart=>exact⟨0,⟨0,⟨none,0,0⟩,⟨none,0,0⟩,⟨none,0,0⟩⟩,kU,[],[],J,rfl,rfl,rfl,⟨hX,⟨rfl,fD.nil _ _,rfl,fD.nil _ _,rfl,aH.nil _ _ _ ax.bI,λx y X _=>by cases X⟩,bJ _⟩,pg,bq,by rw[lg.out];exact bJ _⟩
 case round=>
  obtain⟨k,s,kH,au,ps,_,rfl,rfl,k7,lo,Gs,X,_⟩:=hrel;by_cases hk:k<xs.length
  ·obtain⟨b,o,rfl,al⟩:=H.aF.get k hk;have cO:wr.cell? (b,o+k)=some ↑xs[k].v:=by have:=X.ag (al 0 _ rfl);rwa [jd,uo]at this
   refine jU ?_;intro b0 bf;have Uf:k<rs.length:=by rw[<-mE.out];exact hk
   have oc:xs[k].aB=gi rs[k]:=by
    have:=eH (λl=>l[k]?) bF;simp only[nd,eK hk,eK Uf,Gc,Option.some.injEq]at this;exact this
   have bj:=H.aB xs[k] (cT hk);rw[oc]at bj;have ar:=I (bj.ext X);have G6:=cw.out rs[k] (cT Uf);have ZK:xs[k].v.n<=100000:=by rw[ar.neq];exact ek (r6 _ (cT Uf)) ah
   obtain⟨zw,bu,cJ⟩:=arq Ue Uf k7;replace bu:=I bu;replace cJ:=I cJ;replace G6:=I G6;clear al oc bj;go_wp2_with fail;refine(aoG xs[k].v.a xs[k].v.n xs[k].v.c rs[k] _ ar G6 ZK).mono ?_;rintro e a6⟨cH,rfl,kg,Dx,fc⟩;replace kg:=I kg;replace Dx:=I Dx;replace fc:=I fc;clear cO;go_wp2_with fail;have hlen:=afy k7;rw[nF]at hlen;have ZL:kU.au.length=0:=rfl;have Bp:kU.ps.length=0:=rfl;have o6:kU.aB.length=0:=rfl;have Uc:ps.length=kH.ps.length:=by rw[<-cx (f:=(·.d)),lo.st.kV]
   have Pv:s.l.n=kH.au.length:=lo.st.ck.se;have Ud:s.p.n=kH.ps.length:=lo.st.ck.h6;have afB:s.b.n=kH.aB.length:=lo.st.b.neq;have Dy:=afx (w.heap.size+1) (w.heap.size+1) s kH au ps cH rs[k] _ (lo.ext (w':=a6.alloc (.cells #[rs[k].k,ae (rs[k].n:Int),cH.k,cH.id.b,ae cH.id.l,ae cH.id.s,cH.c,ae cH.u,cH.f,cH.e,rs[k].id.b,ae rs[k].id.l,ae rs[k].id.s] 169)) U) (by have:=fc.size;simp;omega) (kg.ck.ext U) Dx G6 J J J J;rw[bu.out]at Dy;refine Dy.mono ?_;rintro e cB bB;change q8 _ _ _ zw (.int .i64 0) _ _ _ at bB;obtain⟨rfl,s',oR,ns,lj,fN,qH⟩:=bB;have oM:=(lo.ext (w':=a6.alloc (.cells #[rs[k].k,ae (rs[k].n:Int),cH.k,cH.id.b,ae cH.id.l,ae cH.id.s,cH.c,ae cH.u,cH.f,cH.e,rs[k].id.b,ae rs[k].id.l,ae rs[k].id.s] 169)) U).b5;have tK:=(fN.block w (by have:=fc.size;simp;omega) (λz=>by have:=(oM _ z).1;omega)).trans ((show Z wr (a6.alloc (.cells #[rs[k].k,ae (rs[k].n:Int),cH.k,cH.id.b,ae cH.id.l,ae cH.id.s,cH.c,ae cH.u,cH.f,cH.e,rs[k].id.b,ae rs[k].id.l,ae rs[k].id.s] 169))from U).ay Gs);have eA:Z w cB:=fN.ext (W:=w) (λb ad=>by have:=(oM b ad).1;omega) U;have ars:(w:Nat)+1+1<=(cB:Nat):=by have:=fN.size;have:=fc.size;simp at*;omega
   replace lj:=I lj;replace tK:=I tK;replace eA:=I eA;clear fN qH oM Dy hlen ZL Bp o6 Uc Pv Ud afB;go_wp2;go_roundg (gk - 1);case measure=>omega
   case rel=>exact⟨k+1,s',zw,oR,ns,J,rfl,by go_num,cJ,lj,tK,eA,ars⟩
  ·have pZ:rs.take k=rs:=iU (by have:=mE.out;omega);have Ug:=k7.out;rw[pZ,Ue.out]at Ug;injection Ug with Ug;subst Ug;obtain⟨_,_,_,_⟩:=oX lo.box;obtain⟨_,_,_,_,_⟩:=C8 Gs;clear pZ;go_wp2_with fail;rw[pX];have u0:=Gs.out;have f0:=LJ u0 (ae s.cX) s.l s.p s.b;have iz:=Dt (S:=λx=>x=(w:Nat)) (aI.refl _ wr) (R:=(w:Nat)) (.inl rfl) (ae s.cX) s.l s.p s.b;obtain⟨z0,cZ,z2,z3⟩:=oX f0;refine ke (v:=.tuple #[.agg #[.int .u64 s.cX,.slice s.l.a s.l.n s.l.c,.slice s.p.a s.p.n s.p.c,.slice s.b.a s.b.n s.b.c],.int .i64 0]) (by simp[results,results44,go_sem,z0,cZ,z2,z3]) rfl ⟨s,au,ps,rfl,(lo.st.E4 u0 iz).mono J,iz.ext (W:=w) (λb ad=>by subst ad;omega) X⟩
structure kX where
 x:bR
 r:e9
def kX.cs(p:kX):List Value:= [.int .i64 p.r.k,.int .u64 (p.r.n:Int),.int .i64 p.x.k,.int .i64 p.x.id.b,.int .u64 p.x.id.l,.int .u64 p.x.id.s,.int .i64 p.x.c,.int .u64 p.x.u,.slice p.x.f.a p.x.f.n p.x.f.c,.slice p.x.e.a p.x.e.n p.x.e.c,.int .i64 p.r.id.b,.int .u64 p.r.id.l,.int .u64 p.r.id.s]
def kX.bI(p:kX):p.cs.length=13:=rfl
def kX.cQ(p:kX):∀u∈p.cs,u.oneCell'=true:=by
 intro u aj;simp only[kX.cs,oy,tb,ue]at aj;rcases aj with rfl|rfl|rfl|rfl|rfl|rfl|rfl|rfl|rfl|rfl|rfl|rfl|rfl<;>rfl
def art:(prog.info? 169).map (λi=>(i.zero,i.size,i.bytes))=some (some (.agg #[av,aw,av,av,aw,aw,av,aw,aP,aP,av,aw,aw]),13,136):=bQ
def aru{b o:Nat}{p:kX}(h:r0 w b o p.cs):w.cell? (b,o)=some ↑p.r.k/\w.cell? (b,o+1)=some ↑(ae (p.r.n:Int))/\w.cell? (b,o+2)=some ↑p.x.k/\w.cell? (b,o+3)=some ↑p.x.id.b/\w.cell? (b,o+4)=some ↑(ae p.x.id.l)/\w.cell? (b,o+5)=some ↑(ae p.x.id.s)/\w.cell? (b,o+6)=some ↑p.x.c/\w.cell? (b,o+7)=some ↑(ae p.x.u)/\w.cell? (b,o+8)=some ↑p.x.f/\w.cell? (b,o+9)=some ↑p.x.e/\w.cell? (b,o+10)=some ↑p.r.id.b/\w.cell? (b,o+11)=some ↑(ae p.r.id.l)/\w.cell? (b,o+12)=some ↑(ae p.r.id.s):=
 ⟨h 0 _ rfl,h 1 _ rfl,h 2 _ rfl,h 3 _ rfl,h 4 _ rfl,h 5 _ rfl,h 6 _ rfl,h 7 _ rfl,h 8 _ rfl,h 9 _ rfl,h 10 _ rfl,h 11 _ rfl,h 12 _ rfl⟩
def Jj(w:World)(p:kX):Prop:=hK w p.x p.r.e/\(p.r.k≠2/\p.r.k≠3->p.x=sL)/\xX p.r
def Uh(w:aC):hK w sL Tm:=⟨rfl,rfl,rfl,rfl,a7.nil _ T.bI,[],rfl,a7.nil _ eu.bI,λx X=>by cases X⟩
def Ui{W:aC}{ys:List kX}{p:kX}(h:∀y,y∈ys->Jj W y)(aY:Jj W p):∀y,y∈ys++[p]->Jj W y:=λy hy=>(ie.1 hy).elim (h y) (λk=>by rw[jg.1 k];exact aY)
def arv(au:List bb)(k:Nat)(hk:k<au.length):(au.take (k+1)).mapIdx iA=(au.take k).mapIdx iA++[iA k au[k]]:=by
 rw[iv hk,List.mapIdx_append];simp[Nat.min_eq_left (lu hk)]
def arw(s:iJ)(d:ew)(au ps:List bU)(w:aC)(a8:q6 w s d au ps)(fK:O0 d)(Uj:d.l≠0):
  aS 187 #[s] w λe w'=>∃a n c ys,e=.returned (.tuple #[ao a n c,av])/\sb w' w a n c ys/\ys.map (·.aB)=(q5 d).map gi/\Z w w':=by
 obtain⟨ct,bO,bL,bM,bP⟩:=fB art;replace bO:=I bO;replace bL:=I bL;replace bM:=I bM;replace bP:=I bP;obtain⟨dK,eY,e5,e6,e7⟩:=fB Tq;replace eY:=I eY;replace e5:=I e5;replace e6:=I e6;replace e7:=I e7;have zG:=I (show au.length<=200000 from by rw[<-cx (f:=(·.d)),a8.jI];exact fK.se);have Du:=I (show ps.length<=200000 from by rw[<-cx (f:=(·.d)),a8.kV];exact fK.h6);have Dw:=a8.cX;have Jk:=I a8.jI;have LQ:=I a8.kV;obtain⟨_,⟨er,fk,lc⟩,⟨cL,gJ,fv⟩,⟨gv,hU,fP⟩⟩:=s;dsimp only;have C9:fk=au.length:=a8.l.aF.neq;have AP:gJ=ps.length:=a8.p.aF.neq;have G7:hU=d.aB.length:=a8.b.neq;subst C9 AP G7;dsimp only at Dw;subst Dw;have aAr:((d.l:Int) !=0)=true:=by simp[Uj]
 have BX:=a8.l.aF.len;have xp:=a8.p.aF.len;have mV:=a8.b.len;dsimp only at BX xp mV;replace Uj:=I Uj;replace a8:=I a8;replace fK:=I fK;go_enter func187,ntmps187;go_upto_region 1 with fail;have pg:=e2 (w:=w) (o:=(.cells #[ae (d.l:Int),ao er au.length lc,ao cL ps.length fv,ao gv d.aB.length fP] 44)) (n:=(w:Nat)) rfl;have bz:Z w (w.alloc (.cells #[ae (d.l:Int),ao er au.length lc,ao cL ps.length fv,ao gv d.aB.length fP] 44)):=U;have nU:(w.alloc (.cells #[ae (d.l:Int),ao er au.length lc,ao cL ps.length fv,ao gv d.aB.length fP] 44)).heap.size=(w:Nat)+1:=by simp
 generalize kE:(w.alloc (.cells #[ae (d.l:Int),ao er au.length lc,ao cL ps.length fv,ao gv d.aB.length fP] 44))=w1 at pg bz nU ⊢;have eB:=aL (o:=0) pg rfl;have aJ:aa (aH w1 w1 169 13 kX.cs none 0 0 []/\True/\True):=⟨aH.nil _ _ _ kX.bI,trivial,trivial⟩;obtain⟨ys,NK⟩:∃ys:List kX,ys= []:=⟨_,rfl⟩;rw[<-NK]at aJ;replace pg:=I pg;replace bz:=I bz;replace nU:=I nU;clear kE;go_wp2_with (first|(have sh:aa (0<=600002):=I ah;(at_builtin;refine hc (ys:=ys) (c:=kX.cs) rfl (.tmp 19) (.tmp 23) 333 rfl ct _ 136 underlying333 bO.out bL.out bM.out bP.out rfl ah rfl (aJ.out.1.ext U) ⟨sL,nR d.l⟩ _ rfl (fi (cs:=kX.cs ⟨sL,nR d.l⟩) (by first|rfl|(simp;done))) (kX.cQ _) Uk ah (Z.size U) ?_;intro g9 ij dc ha fy;have b9:=I fy;have jA:=I ha;clear ha fy);have afD:=I (b9.out.ext ((aH.nil (w:=_) (base:=(w1:Nat)) (e:=169) (sz:=13) (c:=kX.cs) kX.bI)) (bJ _) (show Z w1 _ from U));have eI:=aL (o:=1) (afD.out.ay pg.out) rfl)|fail);have Bl:aH dc w1 169 13 kX.cs (some (g9,0)) (0+1) ij (ys++[(⟨sL,nR d.l⟩:kX)])/\(ys++[(⟨sL,nR d.l⟩:kX)]).map (·.r)= [nR d.l]/\∀y,y∈ys++[(⟨sL,nR d.l⟩:kX)]->Jj w y:=by
  subst NK;exact⟨jA.out,rfl,Ui (λy hy=>by cases hy) ⟨Uh w,λ_=>rfl,.inl ⟨d.l,rfl,fK.out.l⟩⟩⟩
 replace Bl:=I Bl;clear eI eB aJ;go_loopg [4,5,28] (au.length) (λg y4 _ st wr=>∃(k:Nat) (ab:bl) (m aR:Nat) (ys:List kX),g+k=au.length/\y4=.slice ab m aR/\st=.int .i64 k/\aa (m=1+k)/\aa (aH wr w1 169 13 kX.cs ab m aR ys/\ys.map (·.r)=([nR d.l]++(d.au.take k).mapIdx iA)/\∀y,y∈ys->Jj w y)/\aa (Z w1 wr));case atStart=>exact⟨0,_,_,_,_,J,rfl,rfl,rfl,Bl,afD⟩
 case round=>
  obtain⟨k,ab,m,aR,ys,bC,rfl,rfl,hm,aJ,X⟩:=hrel;have sh:=I (show m<=600002 from ZM);by_cases hk:k<au.length
  ·obtain⟨b,o,rfl,al⟩:=a8.out.l.aF.get k hk;obtain⟨cO,c1,c2,cV,dF,dH,eJ,eM⟩:=nh (w:=wr) (b:=b) (o:=o+k*8) (x:=au[k].x) (λj v aD=>X.out.ag (bz.out.ag (al j v aD)));have b0:(0:Int)<=(k:Int):=J;have bf:(k:Int)<(au.length:Int):=J;have sd:=zG.out;have zH:IntKind.u64.wrap (k:Int)=(k:Int):=G5 _ ⟨J,J⟩;have k7:k<d.au.length:=by rw[<-Jk.out,cx];exact hk
   have zI:d.au[k]=au[k].d:=by have:=Jk.out;simp only[<-this,E6]
   have xO:=I k7;replace zI:=I zI;clear al;go_wp2_with (at_builtin;refine hc (ys:=ys) (c:=kX.cs) rfl (.tmp 33) (.tmp 38) 333 rfl ct _ 136 underlying333 bO.out bL.out bM.out bP.out rfl ah rfl (aJ.out.1.ext U) ⟨au[k].x,iA k au[k].d⟩ _ rfl (fi (cs:=kX.cs ⟨au[k].x,iA k au[k].d⟩) (by first|rfl|(simp;done))) (kX.cQ _) Uk ah (Z.size U) ?_;intro g9 ij dc ha fy;have b9:=I fy;have jA:=I ha;clear ha fy);go_roundg (gk - 1);case measure=>omega
   case rel=>
    refine⟨k+1,_,_,_,ys++[⟨au[k].x,iA k au[k].d⟩],J,rfl,by go_num,I (by have:=hm.out;omega),⟨jA.out,?_,Ui aJ.out.2.2 ⟨a8.out.l.ck _ (cT hk),λh=>absurd rfl h.1,.inr (.inl ⟨k,_,rfl,by unfold gw;omega,fK.out.au _ (by rw[<-zI.out];exact cT _)⟩)⟩⟩,b9.out.ext (aJ.out.1.ext U) (bJ _) U⟩;rw[fT,aJ.out.2.1,arv d.au k xO.out,zI.out,ig];rfl
  ·have cb:d.au.take k=d.au:=iU (by rw[<-Jk.out,cx];omega);rw[cb]at aJ;have ho:=I (show m=1+au.length from by have:=hm.out;omega);clear cb hm;have hn:=aL (o:=2) (X.out.ay pg.out) rfl;go_wp2_with fail;clear hn;go_loopg [4,44] (ps.length) (λg y4 st wr=>∃(k:Nat) (ab:bl) (m aR:Nat) (ys:List kX),g+k=ps.length/\y4=.slice ab m aR/\st=.int .i64 k/\aa (m=1+au.length+k)/\aa (aH wr w1 169 13 kX.cs ab m aR ys/\ys.map (·.r)=([nR d.l]++d.au.mapIdx iA++(d.ps.take k).map kR)/\∀y,y∈ys->Jj w y)/\aa (Z w1 wr));case atStart=>exact afE
   case round=>
    obtain⟨k,ab,m,aR,ys,bC,rfl,rfl,hm,aJ,X⟩:=hrel;have sh:=I (show m<=600002 from ZM);by_cases hk:k<ps.length
    ·obtain⟨b,o,rfl,al⟩:=a8.out.p.aF.get k hk;obtain⟨cO,c1,c2,cV,dF,dH,eJ,eM⟩:=nh (w:=wr) (b:=b) (o:=o+k*8) (x:=ps[k].x) (λj v aD=>X.out.ag (bz.out.ag (al j v aD)));have b0:(0:Int)<=(k:Int):=J;have bf:(k:Int)<(ps.length:Int):=J;have Ps:=Du.out;have k7:k<d.ps.length:=by rw[<-LQ.out,cx];exact hk
     have zI:d.ps[k]=ps[k].d:=by have:=LQ.out;simp only[<-this,E6]
     have xO:=I k7;replace zI:=I zI;clear al;go_wp2_with (at_builtin;refine hc (ys:=ys) (c:=kX.cs) rfl (.tmp 48) (.tmp 51) 333 rfl ct _ 136 underlying333 bO.out bL.out bM.out bP.out rfl ah rfl (aJ.out.1.ext U) ⟨ps[k].x,kR ps[k].d⟩ _ rfl (fi (cs:=kX.cs ⟨ps[k].x,kR ps[k].d⟩) (by first|rfl|(simp;done))) (kX.cQ _) Uk ah (Z.size U) ?_;intro g9 ij dc ha fy;have b9:=I fy;have jA:=I ha;clear ha fy);go_roundg (gk - 1);case measure=>omega
     case rel=>
      refine⟨k+1,_,_,_,ys++[⟨ps[k].x,kR ps[k].d⟩],J,rfl,by go_num,I (by have:=hm.out;omega),⟨jA.out,?_,Ui aJ.out.2.2 ⟨a8.out.p.ck _ (cT hk),λh=>absurd rfl h.2,.inr (.inr (.inl ⟨_,rfl,fK.out.ps _ (by rw[<-zI.out];exact cT _)⟩))⟩⟩,b9.out.ext (aJ.out.1.ext U) (bJ _) U⟩;rw[fT,aJ.out.2.1,iv xO.out,fT,zI.out,ig];simp
    ·have cb:d.ps.take k=d.ps:=iU (by rw[<-LQ.out,cx];omega);rw[cb]at aJ;have ho:=I (show m=1+au.length+ps.length from by have:=hm.out;omega);clear cb hm;have hn:=aL (o:=3) (X.out.ay pg.out) rfl;go_wp2_with fail;clear hn;go_loopg [4,57] (d.aB.length) (λg y4 st wr=>∃(k:Nat) (ab:bl) (m aR:Nat) (ys:List kX),g+k=d.aB.length/\y4=.slice ab m aR/\st=.int .i64 k/\aa (m=1+au.length+ps.length+k)/\aa (aH wr w1 169 13 kX.cs ab m aR ys/\ys.map (·.r)=([nR d.l]++d.au.mapIdx iA++d.ps.map kR++(d.aB.take k).map mU)/\∀y,y∈ys->Jj w y)/\aa (Z w1 wr));case atStart=>exact afE
     case round=>
      obtain⟨k,_,m,_,ys,bC,rfl,rfl,hm,aJ,X⟩:=hrel;have sh:=I (show m<=600002 from ZM);by_cases hk:k<d.aB.length
      ·obtain⟨b,o,rfl,al⟩:=a8.out.b.get k hk;obtain⟨cO,c1,c2⟩:=Aj (w:=wr) (b:=b) (o:=o+k*3) (x:=d.aB[k]) (λj v aD=>X.out.ag (bz.out.ag (al j v aD)));have b0:(0:Int)<=(k:Int):=J;have bf:(k:Int)<(d.aB.length:Int):=J;have nN:=fK.out.bW;clear al;go_wp2_with (at_builtin;refine hc (ys:=ys) (c:=kX.cs) rfl (.tmp 61) (.tmp 64) 333 rfl ct _ 136 underlying333 bO.out bL.out bM.out bP.out rfl ah rfl (aJ.out.1.ext U) ⟨sL,mU d.aB[k]⟩ _ rfl (fi (cs:=kX.cs ⟨sL,mU d.aB[k]⟩) (by first|rfl|(simp;done))) (kX.cQ _) Uk ah (Z.size U) ?_;intro g9 ij dc ha fy;have b9:=I fy;have jA:=I ha;clear ha fy);go_roundg (gk - 1);case measure=>omega
       case rel=>
        refine⟨k+1,_,_,_,ys++[⟨sL,mU d.aB[k]⟩],J,rfl,by go_num,I (by have:=hm.out;omega),⟨jA.out,?_,Ui aJ.out.2.2 ⟨Uh w,λ_=>rfl,.inr (.inr (.inr (.inl ⟨_,rfl,fK.out.aB _ (cT _)⟩)))⟩⟩,b9.out.ext (aJ.out.1.ext U) (bJ _) U⟩;rw[fT,aJ.out.2.1,iv hk,fT,ig];simp
      ·have cb:d.aB.take k=d.aB:=iU J;rw[cb]at aJ;have ho:m<=600001:=by have:=hm.out;have:=zG.out;have:=Du.out;have:=fK.out.bW;omega
       clear cb hm;obtain⟨rs,iq⟩:∃rs,rs=ys:=⟨_,rfl⟩;subst iq;have Ge:m=rs.length:=aJ.out.1.neq;subst Ge;have Pw:=aJ.out.1.aF.max;unfold maxLen at Pw;have qd:=I aJ.out.1;have Jl:=I aJ.out.2.1;have yh:=I aJ.out.2.2;have Jm:=I X.out;obtain⟨dD,pk⟩:∃v,v=wr:=⟨_,rfl⟩;subst pk;clear aJ X;go_wp2_with fail;go_loopg [2,3,11,14,15,69] (rs.length) (λg _ _ e4 _ _ st wr=>∃(k:Nat) (ac:bl) (xq c2:Nat) (cz:List gN),g+k=rs.length/\e4=.slice ac xq c2/\st=.int .i64 k/\k=xq/\aa (sb wr dD ac xq c2 cz/\cz.map (·.aB)=(rs.take k).map (λp=>gi p.r))/\aa (Z dD wr));case atStart=>exact⟨0,_,0,_,[],J,rfl,rfl,rfl,⟨sb.nil _ _,rfl⟩,Z.refl _⟩
       case round=>
        obtain⟨k,ac,_,c2,cz,_,rfl,rfl,rq,bp,X⟩:=hrel;subst rq;by_cases hk:k<rs.length
        ·obtain⟨b,o,rfl,al⟩:=qd.out.aF.get k hk;obtain⟨_,_,_,_,_,dH,_,_,_,_,_,_,_⟩:=aru (w:=wr) (b:=b) (o:=o+k*13) (p:=rs[k]) (λj v aD=>X.out.ag (al j v aD));have b0:(0:Int)<=(k:Int):=J;have bf:(k:Int)<(rs.length:Int):=J;have G6:=I (yh.out rs[k] (cT hk));clear al;go_wp2_with fail;refine(YD rs[k].x rs[k].r _ (G6.out.1.ext (Z.trans bz.out (Z.trans Jm.out U))) G6.out.2.1 G6.out.2.2).mono ?_;rintro e bA⟨a5,hM,dH,rfl,x0,iy⟩;have hq:=I (x0.mono (aBw:=(dD:Nat)) (by have:=X.out.size;simp;omega));have BI:=I (bp.out.1.ext (Z.trans ((Z.refl wr).alloc (.cells #[rs[k].r.k,ae (rs[k].r.n:Int),rs[k].x.k,rs[k].x.id.b,ae rs[k].x.id.l,ae rs[k].x.id.s,rs[k].x.c,ae rs[k].x.u,rs[k].x.f,rs[k].x.e,rs[k].r.id.b,ae rs[k].r.id.l,ae rs[k].r.id.s] 169)) iy));have hi:=I (Z.trans ((Z.refl wr).alloc (.cells #[rs[k].r.k,ae (rs[k].r.n:Int),rs[k].x.k,rs[k].x.id.b,ae rs[k].x.id.l,ae rs[k].x.id.s,rs[k].x.c,ae rs[k].x.u,rs[k].x.f,rs[k].x.e,rs[k].r.id.b,ae rs[k].r.id.l,ae rs[k].r.id.s] 169)) iy);clear x0 iy;go_wp2_with (at_builtin;refine hc (ys:=cz) (c:=gN.cs) rfl (.tmp 81) (.tmp 83) 114 rfl dK _ 24 OW eY.out e5.out e6.out e7.out rfl ah rfl (BI.out.cj.ext ((Z.refl _).alloc _)) ⟨⟨a5,hM,dH⟩,gi rs[k].r⟩ _ rfl (fi (cs:=gN.cs ⟨⟨a5,hM,dH⟩,gi rs[k].r⟩) rfl) (gN.cQ _) J ah (by have:=Jm.out.size;have:=X.out.size;have:=hi.out.size;simp;omega) ?_;intro _ _ _ ha fy);change aa _ at fy ha;go_wp2;go_roundg (gk - 1);case measure=>omega
         case rel=>
          have ru:=BI.out.cj.ext ((Z.refl bA).alloc (.cells #[ao a5 hM dH] 107));refine⟨k+1,_,_,_,cz++[⟨⟨a5,hM,dH⟩,gi rs[k].r⟩],J,rfl,by go_num,rfl,⟨⟨ha.out,λy hy=>?_⟩,?_⟩,?_⟩;exact YJ
          ·rw[fT,bp.out.2,iv hk,fT];rfl
          ·exact fy.out.ext ru (bJ _) (X.out.trans (hi.out.trans ((Z.refl _).alloc _)))
        ·have cb:rs.take k=rs:=iU J;rw[cb]at bp;clear cb;go_wp2;go_ret2;refine⟨ac,k,c2,cz,rfl,⟨bp.out.1.cj.mono (ek bz.out.size Jm.out.size),λx X=>(bp.out.1.aB x X).mono (ek bz.out.size Jm.out.size)⟩,?_,bz.out.trans (Jm.out.trans X.out)⟩;rw[bp.out.2,show rs.map (λp=>gi p.r)=(rs.map (·.r)).map gi by rw[Ij];rfl,Jl.out];unfold q5;rw[aV Uj.out];simp
section
structure ca where
 x:bR
 e:bb
 a:Bool
def ca.cs(p:ca):List Value:= [.int .i64 p.x.k,.int .i64 p.x.id.b,.int .u64 p.x.id.l,.int .u64 p.x.id.s,.int .i64 p.x.c,.int .u64 p.x.u,.slice p.x.f.a p.x.f.n p.x.f.c,.slice p.x.e.a p.x.e.n p.x.e.c,.bool p.a]
def ca.tx(p:ca):gy:=⟨p.e,p.a⟩
def ca.bI(p:ca):p.cs.length=9:=rfl
def ca.cQ(p:ca):∀u∈p.cs,u.oneCell'=true:=by
 intro u aj;simp only[ca.cs,oy,tb,ue]at aj;exact ZN
def ZO:(prog.info? 191).map (λi=>(i.zero,i.size,i.bytes))=some (some (.agg #[av,av,aw,aw,av,aw,aP,aP,.bool false]),9,104):=bQ
def Jn{w:aC}{b o:Nat}{p:ca}(h:r0 w b o p.cs):w.cell? (b,o)=some ↑p.x.k/\w.cell? (b,o+1)=some ↑p.x.id.b/\w.cell? (b,o+2)=some ↑(ae p.x.id.l)/\w.cell? (b,o+3)=some ↑(ae p.x.id.s)/\w.cell? (b,o+4)=some ↑p.x.c/\w.cell? (b,o+5)=some ↑(ae p.x.u)/\w.cell? (b,o+6)=some ↑p.x.f/\w.cell? (b,o+7)=some ↑p.x.e/\w.cell? (b,o+8)=some ↑p.a:=
 ⟨h 0 _ rfl,h 1 _ rfl,h 2 _ rfl,h 3 _ rfl,h 4 _ rfl,h 5 _ rfl,h 6 _ rfl,h 7 _ rfl,h 8 _ rfl⟩
structure tM (w:World) (a:Option Addr) (n c:Nat) (ts:List ca):Prop where
 aF:a7 w 9 ca.cs a n c ts
 ck:∀p,p∈ts->hK w p.x p.e
def tM.ext{w w':aC}{a:bl}{n c:Nat}{ts:List ca}(h:tM w a n c ts)(X:Z w w'):tM w' a n c ts:=⟨h.aF.ext X,λp aY=>(h.ck p aY).ext X⟩
structure qI (w:World) (base:Nat) (a:Option Addr) (n c:Nat) (ts:List ca):Prop where
 cj:aH w base 191 9 ca.cs a n c ts
 ck:∀p,p∈ts->fU w base p.x p.e
section
variable {w w':World}{base aBw:Nat}{a:Option Addr}{n c:Nat}{ts:List ca}
def qI.ext(h:qI w base a n c ts)(X:Z w w'):qI w' base a n c ts:=⟨h.cj.ext X,λp aY=>(h.ck p aY).ext X⟩
def qI.mono(h:qI w base a n c ts)(ad:aBw<=base):qI w aBw a n c ts:=⟨h.cj.mono ad,λp aY=>(h.ck p aY).mono ad⟩
def qI.nil(w:aC)(base:Nat):qI w base none 0 0 []:=⟨aH.nil _ _ _ ca.bI,λp aY=>by cases aY⟩
def qI.qA{pY:Nat}{p:ca}(h:qI w base a n c ts)(bC:lL w w' a g)(aM:aH w' base 191 9 ca.cs (some (g,0)) (n+1) pY (ts++[p]))(he:fU w base p.x p.e):qI w' base (some (g,0)) (n+1) pY (ts++[p]):=
 ⟨aM,λq bs=>by
  rcases ie.1 bs with bs|bs
  ·exact(h.ck q bs).grow bC h.cj ah ah ah
  ·obtain rfl:=jg.1 bs
   exact he.grow bC h.cj ah ah ah⟩
end
def afF(l:List gy)(w:World)(e:Ending)(w':World):Prop:=∃a n c ts,e=.returned (.slice a n c)/\qI w' w.heap.size a n c ts/\ts.map ca.tx=l/\Z w w'
def wx(r:Int×List gy)(w:World)(e:Ending)(w':World):Prop:=∃a n c ts,e=.returned (.tuple #[ao a n c,r.1])/\qI w' w.heap.size a n c ts/\ts.map ca.tx=r.2/\Z w w'
def arx(a:bl)(n cap:Nat)(xs:List ca)(p:ca->Bool)(fn:Nat)(aR:Addr)(w:aC)(ar:a7 w 9 ca.cs a n cap xs)(bk:∀args w,(callFunc fn args).run prog w=.ok (.enter fn args) w)(b8:∀x,x∈xs->∀w',Z w w'->aS fn #[.agg #[x.x.k,x.x.id.b,ae x.x.id.l,ae x.x.id.s,x.x.c,ae x.x.u,x.x.f,x.x.e,x.a],.pointer (some aR)] w' λe ey=>e=.returned (.bool (p x))/\Z w' ey):
  aS 242 #[ao a n cap,.func (.func fn) #[] #[.pointer (some aR)]] w (cU (.int .i64 (qP p xs)) w):=by
 obtain rfl:=ar.neq;refine td ?_;intro hm a1;change aa _ at ar b8;go_enter func242,ntmps242;go_wp2_with fail;go_loopg [5,8] (xs.length) (λg _ st wr=>∃k:Nat,g+k=xs.length/\st=.int .i64 k/\aa ((xs.take k).any p=false)/\aa (Z (w) wr));case atStart=>exact⟨0,J,rfl,rfl,Z.refl _⟩
 case round=>
  obtain⟨k,_,rfl,eO,X⟩:=hrel;by_cases hk:k<xs.length
  ·obtain⟨b,o,rfl,al⟩:=ar.get k hk;have b7:Z w wr:=X.out;obtain⟨_,_,_,_,_,_,_,_,_⟩:=Jn (w:=wr) (b:=b) (o:=o+k*9) (p:=xs[k]) (λj v aD=>b7.ag (al j v aD));clear al b7;exact ND
  exact NF
def ary(p:ca)(i:ax)(aR:Nat)(w:aC)(ad:w.heap[aR]?=some (i:Obj)):
  aS 243 #[.agg #[p.x.k,p.x.id.b,ae p.x.id.l,ae p.x.id.s,p.x.c,ae p.x.u,p.x.f,p.x.e,p.a],aR] w (cU (.bool (cc p.x.id i)) w):=by
 have heq:=Bm p.x.id.b p.x.id.l p.x.id.s i.b i.l i.s;have eB:=((Z.refl w).alloc (.cells #[p.x.k,p.x.id.b,ae p.x.id.l,ae p.x.id.s,p.x.c,ae p.x.u,p.x.f,p.x.e,p.a] 191)).ag (aL (o:=0) ad rfl);have bH:=((Z.refl w).alloc (.cells #[p.x.k,p.x.id.b,ae p.x.id.l,ae p.x.id.s,p.x.c,ae p.x.u,p.x.f,p.x.e,p.a] 191)).ag (aL (o:=1) ad rfl);have b1:=((Z.refl w).alloc (.cells #[p.x.k,p.x.id.b,ae p.x.id.l,ae p.x.id.s,p.x.c,ae p.x.u,p.x.f,p.x.e,p.a] 191)).ag (aL (o:=2) ad rfl);go_enter func243,ntmps243;go_wp2;go_ret;refine⟨rfl,?_⟩;exact U
def Px(l:List gy)(i:ax):Int:=qP (λt=>cc t.e.id i) l
def arz(ts:List ca)(i:ax)(h:∀p,p∈ts->p.x.id=p.e.id):qP (λp:ca=>cc p.x.id i) ts=Px (ts.map ca.tx) i:=by
 unfold Px qP;have:ts.findIdx? (λp:ca=>cc p.x.id i)=(ts.map ca.tx).findIdx? (λt=>cc t.e.id i):=by
  rw[List.findIdx?_map];induction ts with
  |nil=>rfl
  |cons p ts cY=>
   rw[List.findIdx?_cons,List.findIdx?_cons,cY (λq bs=>h q (ni _ bs))];simp only[Function.comp,ca.tx,h p o1];rfl
 rw[this]
def ZP(l:List gy)(i:ax):Px l i=if jJ l i<l.length then (jJ l i:Int) else -1:=by
 unfold Px qP jJ;cases h:l.findIdx? (λt=>cc t.e.id i)with
 |none=>
  rw[RJ]at h;rw[aV];rw[List.findIdx_eq_length.2 (λx X=>by simpa using h x X)];omega
 |some k=>
  rw[List.findIdx?_eq_some_iff_findIdx_eq]at h;rw[bc J,h.2]
def ZQ(a:bl)(n cap:Nat)(ts:List ca)(i:ax)(w:aC)(H:tM w a n cap ts):
  aS 159 #[ao a n cap,i] w (cU (.int .i64 (Px (ts.map ca.tx) i)) w):=by
 have Po:∀args w,(callFunc 243 args).run prog w=.ok (.enter 243 args) w:=λ_ _=>by kernel_rfl
 change aa _ at H;have bF:=I (arz ts i (λp aY=>(H.ck p aY).id));go_enter func159,ntmps159;go_wp2_with fail;refine(arx a n cap ts (λp=>cc p.x.id i) 243 ⟨w.heap.size,0,none⟩ _ (H.aF.ext U) Po (λx X w' rO=>ary x i w.heap.size w' (rO.ay (e2 rfl)))).mono ?_;rintro e _⟨rfl,bn⟩;change aa _ at bn;rw[bF.out];go_wp2;go_ret;refine⟨rfl,?_⟩;exact U
def E7(l:List gy)(i:ax):Int:=match tF l i with|some _=>(jJ l i:Int)|none=>-1
def ZR(a:bl)(n cap:Nat)(ts:List ca)(i:ax)(w:aC)(H:tM w a n cap ts):
  aS 162 #[ao a n cap,i] w (cU (.int .i64 (E7 (ts.map ca.tx) i)) w):=by
 obtain rfl:=H.aF.neq;have hm:=H.aF.max;unfold maxLen at hm;change aa _ at H;go_enter func162,ntmps162;go_wp2_with fail;refine(ZQ a ts.length cap ts i _ (H.ext U)).mono ?_;rintro e w1⟨rfl,ad⟩;have bn:aa (Z w w1):=Z.trans U ad;clear ad;rw[ZP,cx];by_cases hk:jJ (ts.map ca.tx) i<ts.length
 ·refine arA ?_;intro BY
  have bu:=I (show E7 (ts.map ca.tx) i=if ts[jJ (ts.map ca.tx) i].a=true then -1 else (jJ (ts.map ca.tx) i:Int)from by
   unfold E7 tF;rw[BY];dsimp only[ca.tx]
   split<;>simp_all)
  generalize jJ (ts.map ca.tx) i=k at hk BY bu ⊢;clear BY;obtain⟨b,o,rfl,al⟩:=H.aF.get k hk;have jG:=(Jn (w:=w1) (b:=b) (o:=o+k*9) (p:=ts[k]) (λj v aD=>bn.ag (al j v aD))).2.2.2.2.2.2.2.2;have b0:(0:Int)<=(k:Int):=J;have bf:(k:Int)<(ts.length:Int):=J;cases ak:ts[k].a with
  |true=>
   exact afG
  |false=>
   exact afG
 ·rw[aV hk]
  have bu:=I (show E7 (ts.map ca.tx) i=-1 from by
   unfold E7 tF
   rw[zy (by rw[cx];omega)])
  clear hk;go_wp2;go_ret;exact⟨by rw[bu.out];rfl,U⟩
def afH(x:bR)(d:bb)(w:aC)(a8:hK w x d)(cJ:gZ d):aS 164 #[x] w (cU (.bool (BM d)) w):=by
 change aa _ at a8 cJ;go_enter func164,ntmps164;go_wp2_with fail;refine(Yk x d _ (a8.ext U) cJ).mono ?_;rintro e w1⟨cE,da,_,rfl,aM,ad⟩;have bn:aa (Z w w1):=Z.trans U ad;have c3:=I aM.neq;clear aM ad;go_wp2;go_ret;refine⟨?_,U⟩;unfold BM;rw[<-c3.out];show Ending.returned (.bool (decide ((3000:Int)<(da:Int))))=_;rw[show decide ((3000:Int)<(da:Int))=decide (3000<da)from H3.2 J]
end
def Py(a:bl)(n c:Nat)(ts:List ca)(w:aC)(H:tM w a n c ts)(ev:∀p,p∈ts->my p.e)(aq:n<=1000):
  aS 161 #[ao a n c] w (afF (ts.map ca.tx) w):=by
 obtain⟨t0,BZ,zJ,E8,Jo⟩:=fB ZO;change aa _ at BZ zJ E8 Jo;obtain rfl:=H.aF.neq;have hm:=H.aF.max;have a1:=H.aF.len;unfold maxLen at hm;change aa _ at H ev;go_enter func161,ntmps161;go_wp2_with fail;go_loopg [3,8] (ts.length) (λg e4 st wr=>∃(k:Nat) (aA:bl) (m aR:Nat) (ys:List ca),g+k=ts.length/\e4=.slice aA m aR/\st=.int .i64 k/\aa (qI wr w aA m aR ys/\ys.map ca.tx=(ts.take k).map ca.tx)/\aa (Z w wr));case atStart=>exact⟨0,none,0,0,[],J,rfl,rfl,⟨qI.nil _ _,rfl⟩,Z.refl _⟩
 case round=>
  obtain⟨k,aA,m,aR,ys,_,rfl,rfl,b7,mB⟩:=hrel;by_cases hk:k<ts.length
  ·obtain⟨b,o,rfl,al⟩:=H.aF.get k hk;refine arB ?_;clear al;intro cO c1 c2 cV dF dH eJ eM jG E1 sN uB _ _ z aN z0 ec lg bq bd K aE;refine arC ?_;rintro e a6⟨cH,rfl,kg,c0⟩;change aa _ at kg c0;refine aE _ _ ZS λbd=>ej ?_;refine de 6 ?_;refine h9 7 λK aE=>?_;go_simp;refine aE _ _ ZS λbd=>ej ?_;refine h9 8 λK aE=>?_;refine tq (ys:=ys) (c:=ca.cs) rfl (.tmp 12) (.tmp 19) 156 rfl t0 _ 104 Pz BZ zJ E8 Jo rfl ah rfl (b7.out.1.cj.ext U) ⟨cH,ts[k].e,ts[k].a⟩ _ rfl (fi (cs:=ca.cs ⟨cH,ts[k].e,ts[k].a⟩) rfl) (ca.cQ _) Ul ah (Z.size U) ?_;intro g _ _ ed b9;have z4:=b9.ay (Z.ay (W:=aN) U z0) (λai ak k=>arD);change aa _ at b9 ed;refine zF (d:=some 20) rfl ?_;exact arE
  exact arF
def arG{β:Type}(f:α->β)(l:List α):∀k:Nat,(l.map f).eraseIdx k=(l.eraseIdx k).map f:=aeJ
def afI{b:Nat}{t:TypeId}{fr:Nat×Nat}:∀(vs:List Value) (o:Nat) (w:aC) (cur:Array Value),w.heap[b]?=some (.cells cur t fr)->o+vs.length<=cur.size->
  ∃aBx,(w.setCells b o vs).heap[b]?=some (.cells aBx t fr)/\aBx.size=cur.size/\aBx.toList=cur.toList.take o++vs++cur.toList.drop (o+vs.length)
 | [],o,_,cur,h,_=>⟨cur,h,rfl,by simp⟩
 |v::vs,o,w,cur,h,a1=>by
  rw[me]at a1;obtain⟨aBx,af,an,aO⟩:=afI vs (o+1) (w.setCell (b,o) v) _ (en h o v) (by rw[Se];omega);refine⟨aBx,af,by rw[an,Se],?_⟩;have aM:o<cur.toList.length:=by rw[Array.length_toList];omega
  rw[aO,Xn,iv (by rw[CT];exact aM),List.take_set_of_le (bJ _),List.getElem_set_self,List.drop_set_of_lt J,me,show o+1+vs.length=o+(vs.length+1) by omega];simp
def Um{c:α->List Value}(hw:∀y,(c y).length=sz)(l:List α):(l.flatMap c).length=l.length*sz:=by
 induction l with
 |nil=>simp
 |cons y l cY=>rw[ny,c9,cY,hw,me,Nat.succ_mul];omega
def arH(w:aC):(zeroValue 191).run prog w=.ok (.agg #[av,av,aw,aw,av,aw,aP,aP,.bool false]) w:=zeroValue191 w
def arI(g n cap base:Nat)(ts:List ca)(i:Nat)(w:aC)(h:aH w base 191 9 ca.cs (some (g,0)) n cap ts)(aK:i<n)(aq:n<=1000):
  aS 289 #[.slice (some (g,0)) n cap,(i:Int),bo ((i:Int)+1)] w λe w'=>e=.returned (.slice (some (g,0)) (n - 1) cap)/\aH w' base 191 9 ca.cs (some (g,0)) (n - 1) cap (ts.eraseIdx i)/\aI (λb=>b=g) w w':=by
 obtain⟨t0,BZ,zJ,E8,Jo⟩:=fB ZO;change aa _ at BZ zJ E8 Jo;have oe:=h.neq;have hv:=h.aF.len;have Pw:=h.aF.max;unfold maxLen at Pw;obtain⟨cur,G1,iV,af,an,aO,bt⟩:=h.ay;obtain⟨m,hm⟩:∃m,m+1=n:=⟨n - 1,J⟩;have afJ:i+(n - (i+1))=m:=J;have zG:((ts.drop (i+1)).flatMap ca.cs).length=(n - (i+1))*9:=by rw[Um ca.bI,CM,<-oe]
 have uv:i*9+((ts.drop (i+1)).flatMap ca.cs).length<=cur.size:=by rw[zG,aO];omega
 obtain⟨ZT,qG,c2,cV⟩:=afI (b:=g) ((ts.drop (i+1)).flatMap ca.cs) (i*9) w.drew cur G1 uv
 have Bx:=I (show ∀j u,((ts.drop (i+1)).flatMap ca.cs)[j]?=some u->w.drew.cell? (((g,(i+1)*9):Addr).add j)=some u from λj u aD=>by
  have:=(h.aF.drop (i+1) J).Nx ah j u aD;rw[ow]at this
  exact this)
 obtain⟨iR,fL⟩:∃iR,iR=w.drew.setCells g (i*9) ((ts.drop (i+1)).flatMap ca.cs):=⟨_,rfl⟩;rw[<-fL]at qG;have ih:aI (λb=>b=g) w iR:=by rw[fL];exact aI.setCells (S:=λb=>b=g) rfl _ _ _ (aI.of U)
 have c7:aH iR base 191 9 ca.cs (some (g,0)) m cap (ts.eraseIdx i):=by
  have cm:ts.eraseIdx i=ts.take i++ts.drop (i+1):=List.eraseIdx_eq_take_drop_succ _ _;have cq:(ts.eraseIdx i).length=m:=by rw[List.length_eraseIdx_of_lt J];omega
  refine⟨⟨by rw[Um ca.bI,cq],.inr ⟨g,cap,ZT,rfl,iV,qG,J,an,by rw[c2];exact aO,?_⟩⟩,cq.symm,ca.bI⟩;have fo:cur.toList.take (i*9)=(ts.take i).flatMap ca.cs:=by
   rw[<-aff ca.bI,<-bt,List.take_take];congr 1;omega
  rw[cV,fo,cm,vN,List.take_append_of_le_length (by rw[c9,zG,Um ca.bI,nF];omega),iU (by rw[c9,zG,Um ca.bI,nF];omega)]
 have arJ:∀o,o<cap*9->(iR.cell? (g,o)).isSome=true:=λo aM=>by
  have:o<ZT.size:=by rw[c2,aO];exact aM
  simp[World.cell?,qG,this]
 have Xd:∀o,iR.frozen? ⟨g,o,none⟩=false:=λo=>nM qG;have zK:∀o,w.drew.frozen? ⟨g,o,none⟩=false:=λo=>nM (w:=w.drew) (b:=g) (cs:=cur) (t:=191) G1;have afK:∀o,o<cap*9->(w.drew.cell? (g,o)).isSome=true:=λo aM=>by
  have:o<cur.size:=by rw[aO];exact aM
  have py:w.drew.heap[g]?=some (.cells cur 191):=G1;simp[World.cell?,py,this]
 have aAs:=λty=>afe (P:=prog) iR 156 191 ty _ Pz (λw=>arH w) (by intro u aj;simp[Value.cells]at aj;exact ZN) g (m*9) (n - m) (cap - m) J (λq bs=>arJ _ (by have wq:(Value.agg #[av,av,aw,aw,av,aw,aP,aP,.bool false]).cells.size=9:=rfl;rw[wq]at bs;omega)) Xd;have bF:=I hm;have a0:(0:Int)<=(i:Int):=J;have cE:(i:Int)<=(i:Int)+1:=J;have ch:(i:Int)+1<=(n:Int):=J;have a3:(n:Int)<=(cap:Int):=J;have a4:(i:Int)<=(cap:Int):=J;have a5:(0:Int)<=(i:Int)+1:=J;have r7:((i:Int)+1).toNat=i+1:=J;have nP:((i:Int)==(i:Int)+1)=false:=by simp;omega
 change aa _ at fL ih c7 afK zK zG qG afJ oe;go_enter func289,ntmps289;go_wp2_with fail
 have tN:=I (show ∀u,u∈(ts.drop (i+1)).flatMap ca.cs->u.oneCell'=true from λu aj=>by
  obtain⟨y,_,hy⟩:=SP.1 aj
  exact ca.cQ y u hy)
 have Ge:¬n=m:=by have:=bF.out;omega
 have dU:(0:Int)<=(m:Int):=J;have cm:(m:Int)<=(n:Int):=by have:=bF.out;omega
 have cq:(m:Int)<=(cap:Int):=by have:=bF.out;omega
 have fo:¬cap=m:=by have:=bF.out;omega
 by_cases arK:cap=i+1
 ·have arL:n=i+1:=J;obtain rfl:cap=n:=J;have ZU:=I (show(ts.drop (i+1)).flatMap ca.cs= []from by rw[NC (by rw[<-oe.out];omega)];rfl);have f1:(i:Int)+1=(cap:Int):=J;have f2:(0:Int)<=(cap:Int):=J;have f3:¬cap=0:=J;change aa _ at arK;have arM:=I (show i+0=m from by have:=bF.out;omega);clear arL cE ch a5 r7;refine afL ?_;intro bd K aE;refine step_append_room rfl (.tmp 22) (.tmp 25) 156 rfl 191 t0 9 Pz BZ E8 g 0 i cap rfl (g,0) 0 0 ((ts.drop (i+1)).flatMap ca.cs) rfl (by rw[ZU.out];rfl) (λj u aD=>by rw[ZU.out]at aD;simp at aD) tN J (λj aD=>by rw[ZU.out]at aD;simp at aD) ?_;rw[ow,<-fL.out,arM.out];refine zF (d:=some 26) rfl ?_;refine aE _ _ (by(try dsimp only);(first|done|trivial)) λbd=>ej ?_;refine de 7 ?_;refine og bQ ?_ _;go_wp2;go_ret;have EB:cap - 1=m:=by have:=bF.out;omega
  exact afM
 ·have uY:0<cap:=J;have hG:¬cap=0:=J;refine afL ?_;intro bd K aE;refine step_append_room rfl (.tmp 22) (.tmp 25) 156 rfl 191 t0 9 Pz BZ E8 g 0 i cap rfl (g,(i+1)*9) (n - (i+1)) (cap - (i+1)) _ rfl zG Bx tN J (λj aD=>by rw[ow];exact⟨afK _ (by have:=zG.out;omega),zK _⟩) ?_;rw[ow,<-fL.out,afJ.out];refine zF (d:=some 26) rfl ?_;refine aE _ _ (by(try dsimp only);(first|done|trivial)) λbd=>ej ?_;refine de 7 ?_;refine og bQ ?_ _;go_wp2;go_ret;have EB:n - 1=m:=by have:=bF.out;omega
  exact afM
def fU.ZV{α:Type}{w w':aC}{S:eZ}{base dA g:Nat}{x:bR}{d:bb}{e:TypeId}{sz:Nat}{c:α->List Value}{n cap:Nat}{ys:List α}(h:fU w base x d)(az:aH w dA e sz c (some ⟨g,0,.none⟩) n cap ys)(af:e≠154)(an:e≠34)(aO:e≠77)(aj:aI (λb=>b=g) w w'):fU w' base x d:=
 h.Pq az af an aO (aj.mono (λb _ ad=>⟨_,rfl,ad.symm⟩))
def Un(a:bl)(n c:Nat)(ts:List ca)(i:ax)(w:aC)(H:tM w a n c ts)(ev:∀p,p∈ts->my p.e)(aq:n<=1000):
  aS 240 #[ao a n c,i] w (afF (vf (ts.map ca.tx) i) w):=by
 change aa _ at H ev;have yi:=I H.aF.neq;go_enter func240,ntmps240;go_wp2_with fail;refine(Py a n c ts _ (H.ext U) ev aq).mono ?_;rintro e w1⟨cE,da,c1,ys,rfl,bu,bF,bE⟩;obtain⟨b0,bf,dA⟩:=jm (bE.ay (show(w.alloc i).heap[(w:Nat)]?=some (i:Obj)from e2 rfl));change aa _ at bu bF;have bz:aa (Z w w1):=Z.trans U bE;change aa _ at bE;go_wp2_with fail;refine qQ (ZQ a n c ts i _ (H.ext bz)) λaN bq=>?_;rw[ZP,cx];have Uo:=I (show ys.length=ts.length from by have:=eH List.length bF;rw[cx,cx]at this;exact this);by_cases hk:jJ (ts.map ca.tx) i<ts.length
 ·rw[bc hk];have ar:aa (vf (ts.map ca.tx) i=(ts.map ca.tx).eraseIdx (jJ (ts.map ca.tx) i)):=rfl;generalize jJ (ts.map ca.tx) i=k at hk ar ⊢;have dV:(0:Int)<=(k:Int):=J;have afN:k<da:=by rw[bu.cj.neq,Uo.out];exact hk
  have fC:da=ts.length:=by rw[bu.cj.neq,Uo.out]
  obtain⟨g,bC⟩:=bu.cj.Pn (show 0<da by omega);subst bC;have q1:(k:Int)<=1000:=by have:=yi.out;omega
  change aa _ at afN fC;go_wp2_with fail;refine(arI g da c1 (w.alloc i).heap.size ys k _ (bu.cj.ext bq) afN (by have:=fC.out;have:=yi.out;omega)).mono ?_;rintro e _⟨rfl,cK,iY⟩;change aa _ at cK iY;go_wp2;go_ret;have afO:=bu.ext bq;refine⟨_,_,_,ys.eraseIdx k,rfl,⟨cK.mono (by simp),λp aY=>((afO.ck p ((TN _ _).subset aY)).ZV (S:=λ_=>True) afO.cj ah ah ah iY).mono (by simp)⟩,?_,iY.ext (W:=w) (λb ad=>by subst ad;have:=(bu.cj.lt _ rfl).1;simp at this;omega) (bz.trans bq)⟩;rw[ar.out,<-bF.out,arG]
 ·rw[aV hk];have ar:aa (vf (ts.map ca.tx) i=ts.map ca.tx):=List.eraseIdx_of_length_le (by rw[cx];omega);go_wp2;go_ret;exact⟨cE,da,c1,ys,rfl,(bu.ext bq).mono (by simp),by rw[bF.out,ar.out],bz.trans bq⟩
def arN(l:List gy)(t:gy):sQ (l++[t])=if t.a=true/\(sQ l).length<4 then sQ l++[t.e] else sQ l:=by
 unfold sQ;rw[yU,cx,nF];cases ak:t.a with
 |false=>rw[TE (by simp[ak])];simp
 |true=>
  rw[YX ak,LM,List.take_append];by_cases a1:(l.filter (·.a)).length<4
  ·rw[bc ⟨rfl,J⟩,iU (by omega:(l.filter (·.a)).length<=4)];have:4 - (l.filter (·.a)).length>=1:=J;rw[iU (by simp;omega),fT];rfl
  ·rw[aV (by rintro ⟨_,h⟩;omega),show 4 - (l.filter (·.a)).length=0 by omega,EC,nc]
def arO(a:bl)(n c:Nat)(ts:List ca)(w:aC)(H:tM w a n c ts)(ev:∀p,p∈ts->my p.e)(aq:n<=1000):
  aS 222 #[ao a n c] w (SA (sQ (ts.map ca.tx)) w):=by
 obtain⟨ct,bO,bL,bM,bP⟩:=fB Ao;change aa _ at bO bL bM bP;obtain rfl:=H.aF.neq;have hm:=H.aF.max;unfold maxLen at hm;change aa _ at H ev;go_enter func222,ntmps222;go_wp2_with fail;go_loopg [3,8] (ts.length) (λg e4 st wr=>∃(k:Nat) (aA:bl) (m aR:Nat) (ys:List bU),g+k=ts.length/\e4=.slice aA m aR/\st=.int .i64 k/\aa (fD wr w aA m aR ys/\ys.map (·.d)=sQ ((ts.take k).map ca.tx))/\aa (Z w wr)/\m<=4);case atStart=>exact⟨0,none,0,0,[],J,rfl,rfl,⟨fD.nil _ _,rfl⟩,Z.refl _,J⟩
 case round=>
  obtain⟨k,aA,m,aR,ys,_,rfl,rfl,b7,mB,PA⟩:=hrel;by_cases hk:k<ts.length
  ·obtain⟨b,o,rfl,al⟩:=H.aF.get k hk;obtain⟨_,_,_,_,_,_,_,_,jG⟩:=Jn (w:=wr) (b:=b) (o:=o+k*9) (p:=ts[k]) (λj v aD=>mB.ag (al j v aD));have E1:(k:Int)<(ts.length:Int):=J;have sN:(0:Int)<=(k:Int):=J;have uB:=I (show m=(sQ ((ts.take k).map ca.tx)).length from by rw[<-b7.out.2,cx];exact b7.out.1.cj.neq)
   have hR:=I (show sQ ((ts.take (k+1)).map ca.tx)=if ts[k].a=true/\m<4 then sQ ((ts.take k).map ca.tx)++[ts[k].e] else sQ ((ts.take k).map ca.tx)from by
    rw[iv hk,fT,sf,Lw,arN,<-uB.out];rfl)
   clear al;cases ak:ts[k].a with
   |false=>
    have dG:=I ak;rw[ak]at jG;clear ak;go_wp2;go_roundg (gk - 1);case measure=>omega
    case rel=>exact⟨k+1,_,_,_,ys,J,rfl,by go_num,⟨b7.out.1.ext U,by rw[hR.out,aV (by rw[dG.out];simp)];exact b7.out.2⟩,Z.trans mB U,PA⟩
   |true=>
    have dG:=I ak;rw[ak]at jG;clear ak;by_cases bt:m<4
    ·have N9:(m:Int)<4:=J;go_wp2_with (first|(go_at_call 160;refine(TC ts[k].x ts[k].e _ ((H.ck _ (cT hk)).ext U) (ev _ (cT hk))).mono ?_;rintro e _⟨cH,rfl,kg,c0⟩;change aa _ at kg c0)|(at_builtin;refine hc (ys:=ys) (c:=bU.cs) rfl (.tmp 19) (.tmp 23) 42 rfl ct _ 96 aiM bO bL bM bP rfl ah rfl (b7.out.1.cj.ext U) ⟨cH,ts[k].e⟩ _ rfl (fi (cs:=bU.cs ⟨cH,ts[k].e⟩) rfl) (bU.cQ _) J ah (Z.size U) ?_;intro g _ _ q3 b2;have b9:=I b2;have ed:=I q3;clear q3 b2));go_roundg (gk - 1);case measure=>omega
     case rel=>
      refine⟨k+1,_,_,_,ys++[⟨cH,ts[k].e⟩],J,rfl,by go_num,⟨?_,?_⟩,?_,J⟩
      ·exact(b7.out.1.ext U).qA b9 ed ((kg.mono (aBw:=(w:Nat)) (Z.size U)).ext U)
      ·rw[hR.out,bc ⟨dG.out,bt⟩,fT,b7.out.2];rfl
      ·exact b9.ext (b7.out.1.cj.ext U) (bJ _) U
    ·have N9:¬(m:Int)<4:=J;go_wp2;go_roundg (gk - 1);case measure=>omega
     case rel=>exact⟨k+1,_,_,_,ys,J,rfl,by go_num,⟨b7.out.1.ext U,by rw[hR.out,aV (by rintro ⟨_,q⟩;exact bt q)];exact b7.out.2⟩,Z.trans mB U,PA⟩
  ·have cb:ts.take k=ts:=iU J;rw[cb]at b7;clear cb;go_wp2;go_ret;exact⟨aA,m,aR,ys,rfl,b7.out.1.cj,b7.out.1.ck,b7.out.2,mB⟩
def G8(nk:Int)(l:List gy)(t:gy):Int×List gy:=
 if jJ l t.e.id<l.length then (170,l) else if nk≠0 then (nk,l) else oN l t
def LR{l:List gy}{t:gy}:G8 0 l t=oN l t:=by
 unfold G8 oN;split<;>rfl
def afP(nk:Int)(a:bl)(n c:Nat)(ts:List ca)(t:ca)(w:aC)(H:tM w a n c ts)(ev:∀p,p∈ts->my p.e)(c3:n<=1000)(a8:hK w t.x t.e)(dN:my t.e)(PB:∀w',Z w w'->aS 194 #[t.x] w' λe ey=>e=.returned nk/\Z w' ey)(PC:nk=0->gZ t.e):
  aS 144 #[ao a n c,.agg #[t.x.k,t.x.id.b,ae t.x.id.l,ae t.x.id.s,t.x.c,ae t.x.u,t.x.f,t.x.e,t.a]] w (wx (G8 nk (ts.map ca.tx) t.tx) w):=by
 obtain⟨t0,BZ,zJ,E8,Jo⟩:=fB ZO;change aa _ at BZ zJ E8 Jo;have yi:=I H.aF.neq;have od:=I a8.id;change aa _ at H ev c3 a8 dN PB PC;obtain⟨r,cw⟩:∃r,G8 nk (ts.map ca.tx) t.tx=r:=⟨_,rfl⟩;rw[cw];change aa _ at cw;go_enter func144,ntmps144;go_wp2_with fail;go_step3;go_wp2_with fail;refine(Py a n c ts _ (H.ext U) ev c3).mono ?_;rintro e w1⟨cE,da,c1,ys,rfl,dX,bF,gp⟩;have n9:=gp.ay (show(w.alloc (.cells #[t.x.k,t.x.id.b,ae t.x.id.l,ae t.x.id.s,t.x.c,ae t.x.u,t.x.f,t.x.e,t.a] 191)).heap[(w:Nat)]?=some (.cells #[t.x.k,t.x.id.b,ae t.x.id.l,ae t.x.id.s,t.x.c,ae t.x.u,t.x.f,t.x.e,t.a] 191)from e2 rfl);obtain⟨b0,bf,dA,gh,gm,ti,uY,hG,Ji⟩:=xE n9;have SC:aa (∀ai,cE=some ai->(w:Nat)+1<=ai.block):=λai ak=>by have:=(dX.cj.lt ai ak).1;(try simp at this);omega
 have bu:=I (dX.mono (aBw:=(w:Nat)) (by simp));change aa _ at bF;refine LP ?_;intro bz;change aa _ at n9;clear dX gp;go_wp2_with fail;go_step3;go_wp2_with fail;try (go_step3;go_wp2_with fail)
 refine(ZQ a n c ts t.x.id _ (H.ext U)).mono ?_;rintro e _⟨rfl,bq⟩;have pJ:=bq.ay n9;clear b0 bf dA gh gm ti uY hG Ji;obtain⟨b0,bf,dA,gh,gm,ti,uY,hG,Ji⟩:=xE pJ;change aa _ at pJ bq;rw[ZP,cx];by_cases hk:jJ (ts.map ca.tx) t.x.id<ts.length
 ·rw[bc hk]
  have kO:=I (show r=(170,ts.map ca.tx)from by
   rw[<-cw.out];unfold G8
   rw[bc (by rw[cx];rw[show t.tx.e.id=t.x.id from od.symm];exact hk)])
  generalize jJ (ts.map ca.tx) t.x.id=k at hk ⊢;clear hk;exact Up
 ·rw[aV hk]
  have tO:=I (show ¬jJ (ts.map ca.tx) t.tx.e.id<(ts.map ca.tx).length from by
   rw[cx];rw[show t.tx.e.id=t.x.id from od.symm];exact hk)
  clear hk;go_wp2_with fail;refine(PB _ U).mono ?_;rintro e _⟨rfl,c0⟩;have oJ:=c0.ay pJ;clear b0 bf dA gh gm ti uY hG Ji;obtain⟨b0,bf,dA,gh,gm,ti,uY,hG,Ji⟩:=xE oJ;change aa _ at oJ c0;by_cases ku:nk=0
  ·subst ku;by_cases fG:8<=n
   ·have arP:(8:Int)<=(n:Int):=J
    have kO:=I (show r=(171,ts.map ca.tx)from by
     rw[<-cw.out,LR];unfold oN
     rw[aV tO.out,bc (by rw[cx,<-yi.out];exact fG)])
    exact Up
   ·skip;go_wp2_with fail;refine(afH t.x t.e _ (a8.ext U) (PC trivial)).mono ?_;rintro e cB⟨rfl,eA⟩;have AS:=eA.ay oJ;change aa _ at eA;cases E3:BM t.e with
    |true=>
     have kO:=I (show r=(172,ts.map ca.tx)from by
      rw[<-cw.out,LR];unfold oN
      rw[aV tO.out,aV (by rw[cx,<-yi.out];exact fG),bc (show BM t.tx.e=true from E3)])
     exact Up
    |false=>
     have kO:=I (show r=(0,ts.map ca.tx++[t.tx])from by
      rw[<-cw.out,LR];unfold oN
      rw[aV tO.out,aV (by rw[cx,<-yi.out];exact fG),aV (by rw[show t.tx.e=t.e from rfl,E3];decide)])
     change aa _ at AS;have uB:=I (show da=n from by have af:=bu.cj.neq;have an:=eH List.length bF;rw[cx,cx]at an;have:=yi.out;omega);change aa _ at fG;clear b0 bf dA gh gm ti uY hG Ji E3;go_wp2_with fail;obtain⟨z,ec⟩:∃z,z=(w:Nat):=⟨_,rfl⟩;have PD:=I (show cB.heap[z]?=some (.cells #[t.x.k,t.x.id.b,ae t.x.id.l,ae t.x.id.s,t.x.c,ae t.x.u,t.x.f,t.x.e,t.a] 191)from by rw[ec];exact AS);rw[<-ec];change aa _ at ec;refine sX (λw'=>w'.heap[z]?=some (.cells #[t.x.k,t.x.id.b,ae t.x.id.l,ae t.x.id.s,t.x.c,ae t.x.u,t.x.f,t.x.e,t.a] 191)) (λbd=>?_) ZW;refine de 0 ?_;refine de 1 ?_;refine de 4 ?_;refine l0 2 id ?_;refine l0 5 id ?_;refine h9 3 λK aE=>?_;go_simp;go_at_call 160;refine(TC t.x t.e _ (a8.ext U) dN).mono ?_;rintro e bA⟨cH,rfl,kg,hi⟩;change aa _ at kg hi;refine aE _ _ ZW λbd=>ej ?_;refine de 6 ?_;refine h9 7 λK aE=>?_;go_simp;refine aE _ _ ZW λbd=>ej ?_;refine h9 8 λK aE=>?_;refine tq (ys:=ys) (c:=ca.cs) rfl (.tmp 28) (.tmp 35) 156 rfl t0 _ 104 Pz BZ zJ E8 Jo rfl ah rfl (bu.cj.ext U) ⟨cH,t.e,t.a⟩ _ rfl (fi (cs:=ca.cs ⟨cH,t.e,t.a⟩) rfl) (ca.cQ _) (by have:=uB.out;have:=fG.out;omega) ah (Z.size U) ?_;intro g _ _ k5 b9;have gx:=b9.ay (Z.ay (W:=cB) U PD) (λai ak k=>by have:=SC.out ai ak;have:=ec.out;omega);change aa _ at b9 k5;refine zF (d:=some 36) rfl ?_;refine aE _ _ (by(try dsimp only);exact gx) λbd=>ej ?_;refine de 9 ?_;refine og bQ ?_ _;go_wp2_with fail;rw[pX];go_ret2;refine⟨_,_,_,ys++[⟨cH,t.e,t.a⟩],by rw[kO.out];rfl,?_,?_,?_⟩
     ·exact(bu.ext (w':=bA.alloc (.cells #[cH.k,cH.id.b,ae cH.id.l,ae cH.id.s,cH.c,ae cH.u,cH.f,cH.e,t.a] 191)) U).qA b9 k5 ((kg.mono (aBw:=(w:Nat)) (Z.size U)).ext U)
     ·rw[kO.out,fT,bF.out];rfl
     ·exact b9.ext (bu.cj.ext (w':=bA.alloc (.cells #[cH.k,cH.id.b,ae cH.id.l,ae cH.id.s,cH.c,ae cH.u,cH.f,cH.e,t.a] 191)) U) (bJ _) U
  ·have kO:=I (show r=(nk,ts.map ca.tx)from by
    rw[<-cw.out];unfold G8
    rw[aV tO.out,bc ku])
   exact Up
def yj(i:ax)(cl:Int):bb:=⟨1,i,cl,0,[],[]⟩
def afQ(w:aC)(i:ax)(cl:Int):hK w ⟨1,i,cl,0,⟨none,0,0⟩,⟨none,0,0⟩⟩ (yj i cl):=⟨rfl,rfl,rfl,rfl,a7.nil _ (λ_=>rfl),[],rfl,a7.nil _ (λ_=>rfl),λy hy=>by cases hy⟩
def arQ(a:bl)(n c:Nat)(ts:List ca)(i:ax)(cl:Int)(w:aC)(H:tM w a n c ts)(ev:∀p,p∈ts->my p.e)(c3:n<=1000)(cJ:gZ (yj i cl)):
  aS 94 #[ao a n c,i,cl] w (wx (oN (ts.map ca.tx) ⟨yj i cl,false⟩) w):=by
 change aa _ at H ev c3 cJ;go_enter func94,ntmps94;go_wp2_with fail;refine(afP 0 a n c ts ⟨⟨1,i,cl,0,⟨none,0,0⟩,⟨none,0,0⟩⟩,yj i cl,false⟩ _ (H.ext U) ev c3 (afQ _ _ _) cJ.r8 (λw' rO=>IF _ _ w' (afQ _ _ _) cJ) (λ_=>cJ)).mono ?_;rintro e _⟨cE,da,c1,ys,rfl,bu,bF,bz⟩;change aa _ at bu bF bz;rw[LR]at bF ⊢;go_wp2;go_ret2;exact⟨cE,da,c1,ys,rfl,bu.mono (by simp),bF,U⟩
def afR(nk:Int)(a:bl)(n c:Nat)(ts:List ca)(x:bR)(d:bb)(w:aC)(H:tM w a n c ts)(ev:∀p,p∈ts->my p.e)(c3:n<=1000)(a8:hK w x d)(dN:my d)(PB:∀w',Z w w'->aS 194 #[x] w' λe ey=>e=.returned nk/\Z w' ey)(PC:nk=0->gZ d):
  aS 84 #[ao a n c,x] w (wx (G8 nk (ts.map ca.tx) ⟨d,true⟩) w):=by
 change aa _ at H ev c3 a8 dN PB PC;go_enter func84,ntmps84;go_wp2_with fail;refine(afP nk a n c ts ⟨x,d,true⟩ _ (H.ext U) ev c3 (a8.ext U) dN (λw' rO=>PB w' (Z.trans U rO)) PC).mono ?_;rintro e _⟨cE,da,c1,ys,rfl,bu,bF,bz⟩;change aa _ at bu bF bz;go_wp2;go_ret2;exact⟨cE,da,c1,ys,rfl,bu.mono (by simp),bF,U⟩
def ZX{tx:List gy}{t:gy}(h:tF tx i=some t):tx[jJ tx i]?=some t/\t.a=false:=by
 unfold tF at h;cases bC:tx[jJ tx i]? with
 |none=>rw[bC]at h;cases h
 |some q=>
  rw[bC]at h;dsimp only at h;cases bs:q.a with
  |true=>rw[bs]at h;simp at h
  |false=>rw[bs]at h;simp at h;subst h;exact⟨rfl,bs⟩
def qI.ee{w w':aC}{base g n c:Nat}{ys ZY:List ca}(h:qI w base (some (g,0)) n c ys)(aj:aI (λb=>b=g) w w')(aM:aH w' base 191 9 ca.cs (some (g,0)) n c ZY)(hm:∀p,p∈ZY->(∃q,q∈ys/\q.x=p.x/\q.e=p.e)\/fU w' base p.x p.e):qI w' base (some (g,0)) n c ZY:=
 ⟨aM,λp aY=>by
  rcases hm p aY with ⟨q,bs,cm,cq⟩|bs
  ·rw[<-cm,<-cq];exact(h.ck q bs).ZV (S:=λ_=>True) h.cj ah ah ah aj
  ·exact bs⟩
def ZZ{l:List gy}{t:gy}(h:tF l i=some t):E7 l i=(jJ l i:Int):=by unfold E7;rw[h]
def Z0{l:List gy}(h:tF l i=none):E7 l i=-1:=by unfold E7;rw[h]
def arR(a:bl)(n c:Nat)(ts:List ca)(i:ax)(w:aC)(H:tM w a n c ts)(ev:∀p,p∈ts->my p.e)(c3:n<=1000):
  aS 190 #[ao a n c,i] w (wx (GI (ts.map ca.tx) i) w):=by
 change aa _ at H ev c3;obtain⟨r,cw⟩:∃r,GI (ts.map ca.tx) i=r:=⟨_,rfl⟩;rw[cw];change aa _ at cw;go_enter func190,ntmps190;go_wp2_with fail;refine(ZR a n c ts i _ (H.ext U)).mono ?_;rintro e w1⟨rfl,gp⟩;refine Z1 ?_;intro eI b0 bf dA;refine LP ?_;intro bz;clear gp eI;cases aM:tF (ts.map ca.tx) i with
 |none=>
  have kO:=I (show r=(170,ts.map ca.tx)from by rw[<-cw.out];unfold GI;rw[aM]);rw[Z0 aM];clear aM;go_wp2_with fail;refine(Py a n c ts _ (H.ext U) ev c3).mono ?_;exact afS
 |some t=>
  have kO:=I (show r=(0,vf (ts.map ca.tx) i)from by rw[<-cw.out];unfold GI;rw[aM]);rw[ZZ aM];clear aM;go_wp2_with fail;refine(Un a n c ts i _ (H.ext U) ev c3).mono ?_;exact afS
def arS(a:bl)(n c:Nat)(ts:List ca)(i:ax)(w:aC)(H:tM w a n c ts)(ev:∀p,p∈ts->my p.e)(c3:n<=1000):
  aS 97 #[ao a n c,i] w (wx (GH (ts.map ca.tx) i) w):=by
 change aa _ at H ev c3;obtain⟨r,cw⟩:∃r,GH (ts.map ca.tx) i=r:=⟨_,rfl⟩;rw[cw];change aa _ at cw;go_enter func97,ntmps97;go_wp2_with fail;refine(Py a n c ts _ (H.ext U) ev c3).mono ?_;rintro e w1⟨cE,da,c1,ys,rfl,dX,bF,gp⟩;refine Z1 ?_;intro eI b0 bf dA;have bu:=I (dX.mono (aBw:=(w:Nat)) (by simp));change aa _ at bF;refine LP ?_;intro bz;clear gp eI dX;go_wp2_with fail;refine qQ (ZR a n c ts i _ (H.ext U)) λaN bq=>?_;clear b0 bf dA;cases aM:tF (ts.map ca.tx) i with
 |none=>
  have kO:=I (show r=(170,ts.map ca.tx)from by rw[<-cw.out];unfold GH;rw[aM]);rw[Z0 aM];clear aM;go_wp2;exact afT
 |some t=>
  have kO:=I (show r=(0,(ts.map ca.tx).set (jJ (ts.map ca.tx) i) {t with a:=true})from by rw[<-cw.out];unfold GH;rw[aM]);rw[ZZ aM];have bm:=(ZX aM).1;generalize jJ (ts.map ca.tx) i=k at bm kO ⊢;have oh:k<ys.length:=by
   have:=(ud.1 bm).1;rw[<-bF.out,cx]at this;exact this
  have db:=I (show ys[k].tx=t from by
   rw[<-bF.out,nd,eK oh]at bm
   exact w9 bm)
  have hA:=bu.cj.neq;obtain⟨g,bC⟩:=bu.cj.Pn (show 0<da by omega);subst bC;have qc:(0:Int)<=(k:Int):=J;have ji:(k:Int)<(da:Int):=J;change aa _ at oh;clear aM bm hA;obtain⟨_,c1,_,_,_,_,_,_,_⟩:=Jn ((bu.cj.ext (w':=aN) U).Ie k oh);have Dz:∀o,aN.frozen? ⟨g,o,none⟩=false:=λo=>(bu.cj.ext (w':=aN) U).free o;go_wp2;go_ret2;have o0:=bu.ext (w':=aN) U;have bj:=(o0.cj.sZ k ⟨ys[k].x,ys[k].e,true⟩ (eK oh) 8 ah (.bool true) rfl).1;refine⟨_,_,_,ys.set k ⟨ys[k].x,ys[k].e,true⟩,by rw[kO.out];rfl,o0.ee (aI.setCell (S:=λb=>b=g) (aI.refl _ _) _ (.inl rfl) _) bj (λp aY=>.inl ?_),?_,?_⟩
  ·rcases Gb aY with aY|rfl
   ·exact⟨p,aY,rfl,rfl⟩
   ·exact⟨ys[k],cT _,rfl,rfl⟩
  ·rw[kO.out,<-bF.out,Ga,<-db.out];rfl
  ·exact Z.setCell (show Z w aN from U) (p:=(g,k*9+8)) (bu.cj.lt _ rfl).1 _
def PE{R:Nat}{cO c1 c2 cV dF dH eJ eM:Value}(h:w.heap[R]?=some (.cells #[cO,c1,c2,cV,dF,dH,eJ,eM] t fr))(v0 v1 v2 v3 v4 v5 v6 hh:Value):
  ((((((((w.setCell (R,0) v0).setCell (R,1) v1).setCell (R,2) v2).setCell (R,3) v3).setCell (R,4) v4).setCell (R,5) v5).setCell (R,6) v6).setCell (R,7) hh).heap[R]?=some (.cells #[v0,v1,v2,v3,v4,v5,v6,hh] t fr):=by
 refine arT ?_;intro aZ af an aO bt cC fV kv;rw[kv];simp
def aH.arU{ys:List ca}(h:aH w base 191 9 ca.cs (some ⟨g,0,.none⟩) n cap ys)(k:Nat)(hk:k<ys.length)(x:bR)(d:bb):
  aH ((((((((w.setCell ⟨g,k*9,.none⟩ x.k).setCell ⟨g,k*9+1,.none⟩ x.id.b).setCell ⟨g,k*9+2,.none⟩ (ae x.id.l)).setCell ⟨g,k*9+3,.none⟩ (ae x.id.s)).setCell ⟨g,k*9+4,.none⟩ x.c).setCell ⟨g,k*9+5,.none⟩ (ae x.u)).setCell ⟨g,k*9+6,.none⟩ x.f).setCell ⟨g,k*9+7,.none⟩ x.e)
   base 191 9 ca.cs (some ⟨g,0,.none⟩) n cap (ys.set k ⟨x,d,ys[k].a⟩):=by
 have dU:ys[k]?=some ys[k]:=eK hk;obtain⟨aZ,cm⟩:=h.sZ k ⟨{ys[k].x with k:=x.k},d,ys[k].a⟩ dU 0 ah x.k rfl;obtain⟨af,cq⟩:=aZ.sZ k ⟨{ys[k].x with k:=x.k,id:={ys[k].x.id with b:=x.id.b}},d,ys[k].a⟩ cm 1 ah x.id.b rfl;obtain⟨an,fo⟩:=af.sZ k ⟨{ys[k].x with k:=x.k,id:={ys[k].x.id with b:=x.id.b,l:=x.id.l}},d,ys[k].a⟩ cq 2 ah (ae x.id.l) rfl;obtain⟨aO,iM⟩:=an.sZ k ⟨{ys[k].x with k:=x.k,id:=x.id},d,ys[k].a⟩ fo 3 ah (ae x.id.s) rfl;obtain⟨bt,kB⟩:=aO.sZ k ⟨{ys[k].x with k:=x.k,id:=x.id,c:=x.c},d,ys[k].a⟩ iM 4 ah x.c rfl;obtain⟨cC,mi⟩:=bt.sZ k ⟨{ys[k].x with k:=x.k,id:=x.id,c:=x.c,u:=x.u},d,ys[k].a⟩ kB 5 ah (ae x.u) rfl;obtain⟨fV,lA⟩:=cC.sZ k ⟨{ys[k].x with k:=x.k,id:=x.id,c:=x.c,u:=x.u,f:=x.f},d,ys[k].a⟩ mi 6 ah x.f rfl;obtain⟨kv,_⟩:=fV.sZ k ⟨x,d,ys[k].a⟩ lA 7 ah x.e rfl;simp only[List.set_set]at kv;exact kv
def arV(a dL:bl)(n c eC dO:Nat)(ts:List ca)(i:ax)(xs:List cI)(w:aC)(h:tM w a n c ts)(Bs:∀p,p∈ts->my p.e)(aq:n<=1000)(mw:∀p,p∈ts->p.a=false->p.e.k=1/\gZ p.e)(sJ:a7 w 4 cI.cs dL eC dO xs)(AT:∀y,y∈xs->lx y.n):
  aS 96 #[ao a n c,i,ao dL eC dO] w (wx (GG (ts.map ca.tx) i xs) w):=by
 have H:=I h;have ev:=I Bs;have c3:=I aq;have B0:=I mw;have jv:=I sJ;have arW:=I AT;have yi:=I h.aF.neq;clear h Bs aq mw sJ AT;obtain⟨r,az⟩:∃r,GG (ts.map ca.tx) i xs=r:=⟨_,rfl⟩;rw[az];have cw:=I az;clear az;obtain⟨dK,aD,ui,oY,lO⟩:=fB Ic;obtain⟨eB,hk,nV,br,cn⟩:=fB NM;have eY:=I aD;have e5:=I ui;have e6:=I oY;have e7:=I lO;have lQ:=I hk;have lR:=I nV;have lS:=I br;have lT:=I cn;clear aD ui oY lO hk nV br cn;go_enter func96,ntmps96;go_wp2_with fail;go_step3;go_wp2_with fail;refine(Py a n c ts _ (H.out.ext U) ev.out c3.out).mono ?_;rintro e w1⟨cE,da,_,ys,rfl,dX,fe,gp⟩;refine Z1 ?_;intro eI b0 bf dA;have bu:=I (dX.mono (aBw:=(w:Nat)) (by simp));have bF:=I fe;refine LP ?_;intro bz;clear gp eI dX fe;go_wp2_with fail;try (go_step3;go_wp2_with fail)
 refine(ZR a n c ts i _ (H.out.ext U)).mono ?_;rintro e _⟨rfl,iX⟩;have bq:=I iX;clear iX b0 bf dA;cases aM:tF (ts.map ca.tx) i with
 |none=>
  have kO:=I (show r=(170,ts.map ca.tx)from by rw[<-cw.out];unfold GG;rw[aM]);rw[Z0 aM];clear aM;go_wp2_with fail;try (go_step3;go_wp2_with fail)
  exact Uq
 |some t=>
  rw[ZZ aM];have bm:=(ZX aM).1;have afU:=(ZX aM).2
  have b8:=I (show ∀q,(if vb xs=false then (40,ts.map ca.tx) else if 8<=t.e.aX.length then (171,ts.map ca.tx) else if BM {t.e with aX:=t.e.aX++[xs]}=true then (172,ts.map ca.tx) else (0,(ts.map ca.tx).set (jJ (ts.map ca.tx) i) {t with e:={t.e with aX:=t.e.aX++[xs]}}))=q->r=q from λq bs=>by
   rw[<-cw.out,<-bs];unfold GG;rw[aM])
  generalize jJ (ts.map ca.tx) i=k at bm b8 ⊢;have DC:k<ts.length:=by
   have:=(ud.1 bm).1;rw[cx]at this;exact this
  have Ur:ys.length=ts.length:=by have an:=eH List.length bF.out;rw[cx,cx]at an;exact an
  have Uo:=I Ur;have oh:=I DC;have Z2:ts[k].tx=t:=by
   rw[nd,eK DC]at bm;exact w9 bm
  have Z3:=I (show ts[k].a=false from by rw[<-afU,<-Z2];rfl);have LS:=I (show t=⟨ts[k].e,false⟩ from by rw[<-Z2,<-Z3.out];rfl);have hA:=bu.out.cj.neq;obtain⟨g,bC⟩:=bu.out.cj.Pn (show 0<da by omega);subst bC;have qc:(0:Int)<=(k:Int):=J;have ji:(k:Int)<(da:Int):=J;have afA:(k:Int)<(n:Int):=by have:=yi.out;omega
  clear aM bm afU Z2 DC hA Ur;go_wp2_with fail;try (go_step3;go_wp2_with fail)
  refine(S9 dL eC dO xs _ (jv.out.ext U)).mono ?_;rintro e a6⟨rfl,kL⟩;have c0:=I kL;clear kL;cases al:vb xs with
  |false=>
   have kO:=I (b8.out _ (by rw[bc al]));have Us:EG false=40:=rfl;rw[Us];go_wp2_with fail;exact Uq
  |true=>
   have Us:EG true=0:=rfl;rw[Us];obtain⟨oV,o,Ut,hv⟩:=H.out.aF.get k oh.out;subst Ut;obtain⟨cO,Zv,c2,cV,dF,dH,eJ,eM,jG⟩:=Jn (w:=a6) (b:=oV) (o:=o+k*9) (p:=ts[k]) (λj v aD=>(show Z w a6 from U).ag (hv j v aD));have cg:=I al;clear al hv;go_wp2_with fail;refine(TC ts[k].x ts[k].e _ ((H.out.ck _ (cT oh.out)).ext U) (ev.out _ (cT oh.out))).mono ?_;rintro e cB⟨cH,rfl,um,q0⟩;obtain⟨cz,fj,pB,AB⟩:=um.e;have afV:cH.e.n=ts[k].e.aX.length:=by rw[pB.neq,<-fj,cx]
   have kg:=I um;have nU:=I fj;have lg:=I pB;have EO:=I AB;have Uu:=I afV;have eA:=I q0;clear um fj pB AB afV q0 cO Zv c2 cV dF dH eJ eM jG;by_cases fG:8<=cH.e.n
   ·have arP:(8:Int)<=(cH.e.n:Int):=J;have kO:=I (b8.out _ (by rw[aV (by rw[cg.out];decide),bc (by rw[LS.out,<-Uu.out];exact fG)]));go_wp2_with fail;exact Uq
   ·skip;go_wp2_with fail;have nL:=B0.out _ (cT oh.out) Z3.out
    have fK:=I (show gZ {ts[k].e with aX:=ts[k].e.aX++[xs]} from by
     obtain⟨af,an⟩:=nL;refine⟨an.id,an.c,an.u,?_⟩;rcases an.k with ⟨_,aO,bt,cC,fV⟩|⟨aO,_⟩|⟨aO,_⟩
     ·refine .inl ⟨af,aO,bt,by have:=Uu.out;simp;omega,λe he=>?_⟩;rcases ie.1 he with he|he
      ·exact fV e he
      ·obtain rfl:=jg.1 he;exact⟨cg.out,arW.out⟩
     ·omega
     ·omega)
    have G9:=I fG;have mE:aa (xs.length<=16):=(S6 cg.out).1.2;have z0:=e2 (w:=cB) (o:=(cH:Obj)) (n:=(cB:Nat)) rfl;have hS:aa (Z cB (cB.alloc cH)):=U;obtain⟨B,bx⟩:∃B,B=(cB:Nat):=⟨_,rfl⟩;rw[<-bx]at z0 ⊢;have bn:=I bx;generalize (cB.alloc cH)=bA at z0 hS ⊢;have E9:=I z0;clear z0 bx fG nL Us;refine Ph 7 (S:=(λw'=>w'.heap[B]?=some (cH:Obj))) bQ ?_ (λbd=>?_)
    ·(exact Z4)
    refine gR 0 ?_;refine l1 1 id ?_;refine gR 2 ?_;refine yf (rs:= [3]) bQ (by simp) ?_;refine Jc rfl (λK aE=>?_) LH;refine W7 (c:=cI.cs) (ys0:= []) (ys:=xs) rfl (.const aP) (.tmp 36) 34 77 rfl eB _ 48 KJ lQ.out lR.out lS.out lT.out rfl ah rfl _ (Z.refl _) (aH.nil _ _ _ cI.bI) rfl (jv.out.ext U) cI.cQ (by have:=jv.out.neq;have:=mE.out;omega) ah ?_;intro cP n6 eJ c4 Df mC ic DD;have k5:=I mC;have jr:=I ic;clear Df mC ic DD;refine zF (d:=some 37) rfl ?_;refine aE.out _ _ ?_ (λhH=>?_)
    focus (intro _;exact Z4)
    clear aE K bd;have bd:=hH ah;clear hH;refine ej ?_;refine yf (rs:= [4]) bQ (by simp) ?_;refine Fa ?_;intro K aE;refine aE.out _ _ ?_ (λhH=>?_)
    focus (intro _;exact Z4)
    clear aE K bd;have bd:=hH ah;clear hH;refine ej ?_;refine yf (rs:= [5]) bQ (by simp) ?_;refine Jc rfl (λK aE=>?_) LH;refine tq (ys:=cz) (c:=eu.cs) rfl (.tmp 35) (.tmp 38) 64 rfl dK _ 24 F9 eY.out e5.out e6.out e7.out rfl ah rfl (lg.out.ext U) ⟨⟨cP,n6,eJ⟩,[]++xs⟩ _ rfl (fi (cs:=eu.cs ⟨⟨cP,n6,eJ⟩,[]++xs⟩) rfl) (eu.cQ _) (by have:=G9.out;omega) ah (Z.size U) ?_;intro g2 zL dR LU b2;have b9:=I b2;have ly:=I LU;have bm:(c4.alloc (.cells #[ao cP n6 eJ] 34)).heap[B]?=some (cH:Obj):=Z.ay (W:=bA) U E9.out;have fE:=b2.ay bm (λai ak k=>(lg.out.ext (w':=c4.alloc (.cells #[ao cP n6 eJ] 34)) U).eW bm ah ai ak k);clear LU b2 bm;refine zF (d:=some 39) rfl ?_;refine aE.out _ _ ?_ (λhH=>?_)
    focus (intro _;(try dsimp only);exact fE)
    clear aE K bd;have bd:=hH ah;clear hH;refine ej ?_;refine gR 6 ?_;obtain⟨-,-,-,-,-,-,-,arX,arY⟩:=kr fE;refine yf (rs:= [7]) bQ (by simp) ?_;refine Fa ?_;intro K aE;refine aE.out _ _ (λh=>absurd rfl h) (λ_=>?_);clear aE K;refine ej ?_;refine Ds bQ ?_ _;clear bd arX arY;obtain⟨hd,cn⟩:∃hd:bR,hd={cH with e:=⟨some (g2,0),cH.e.n+1,zL⟩}:=⟨_,rfl⟩;have Az:(dR.setCell (B,7) (.slice (some (g2,0)) (cH.e.n+1) zL)).heap[B]?=some (hd:Obj):=by
     rw[en fE,cn];simp
    have lo:∀{α:Type}{e:TypeId}{sz gO h7:Nat}{c:α->List Value}{aA:bl}{ys:List α},aH cB a6 e sz c aA gO h7 ys->34≠e->e≠66->aH (dR.setCell (B,7) (.slice (some (g2,0)) (cH.e.n+1) zL)) a6 e sz c aA gO h7 ys:=λo af an=>
     (b9.out.z8 (lg.out.ext (w':=c4.alloc (.cells #[ao cP n6 eJ] 34)) U) (o.ext (w':=c4.alloc (.cells #[ao cP n6 eJ] 34)) U) af).lY fE an _
    have R5:aH (dR.setCell (B,7) (.slice (some (g2,0)) (cH.e.n+1) zL)) a6 77 4 cI.cs cP n6 eJ ([]++xs):=
     ((b9.out.z8 (lg.out.ext (w':=c4.alloc (.cells #[ao cP n6 eJ] 34)) U) ((k5.out.ext (w':=c4.alloc (.cells #[ao cP n6 eJ] 34)) U).mono (aBw:=(a6:Nat)) (Z.size (show Z a6 _ from U))) ah).lY fE ah _)
    have Z5:fU (dR.setCell (B,7) (.slice (some (g2,0)) (cH.e.n+1) zL)) a6 hd {ts[k].e with aX:=ts[k].e.aX++[xs]}:=by
     subst cn;refine⟨kg.out.k,kg.out.id,kg.out.c,kg.out.u,lo kg.out.f ah ah,cz++[⟨⟨cP,n6,eJ⟩,[]++xs⟩],by rw[fT,nU.out];rfl,ly.out.lY fE ah _,λy hy=>?_⟩;rcases ie.1 hy with hy|hy
     ·exact lo (EO.out y hy) ah ah
     ·obtain rfl:=jg.1 hy;exact R5
    have hP:Z a6 (dR.setCell (B,7) (.slice (some (g2,0)) (cH.e.n+1) zL)):=
     Z.setCell (b9.out.ext (lg.out.ext (w':=c4.alloc (.cells #[ao cP n6 eJ] 34)) U) (bJ _) U) (by rw[bn.out];exact Z.size U) _
    generalize (dR.setCell (B,7) (.slice (some (g2,0)) (cH.e.n+1) zL))=e1 at Az Z5 hP ⊢;clear R5 lo fE cn;have vo:=I Z5;have l2:=I hP;have arZ:=I Az;obtain⟨z0,cZ,z2,z3,z4,z5,gx,fE⟩:=lM Az;clear Z5 hP Az;go_wp2_with fail;refine(afH hd _ _ vo.out.ck fK.out).mono ?_;rintro e dc⟨rfl,tB⟩;have pn:=I tB;have yk:=I (tB.ay arZ.out);clear tB z0 cZ z2 z3 z4 z5 gx fE;cases E3:BM {ts[k].e with aX:=ts[k].e.aX++[xs]} with
    |true=>
     have kO:=I (b8.out _ (by rw[aV (by rw[cg.out];decide),aV (by rw[LS.out,<-Uu.out];exact G9.out),bc (by rw[LS.out];exact E3)]));go_wp2_with fail;exact Uq
    |false=>
     have kO:=I (b8.out _ (by rw[aV (by rw[cg.out];decide),aV (by rw[LS.out,<-Uu.out];exact G9.out),aV (by rw[LS.out,E3];decide)]));have afW:=I (show k<ys.length from by have:=oh.out;have:=Uo.out;omega);have jA:=I (bu.out.ext (w':=dc) U);obtain⟨_,_,_,_,_,_,_,_,_⟩:=Jn (jA.out.cj.Ie k afW.out);have Dz:∀o,dc.frozen? ⟨g,o,none⟩=false:=λo=>jA.out.cj.free o;have z9:=yk.out;obtain⟨_,_,_,_,_,_,_,_⟩:=lM z9;clear z9 E3;go_wp2_with fail;rw[pX];go_ret2;have jV:k<ys.length:=afW.out;have bj:=jA.out.cj.arU k jV hd {ts[k].e with aX:=ts[k].e.aX++[xs]};have wa:=(jA.out.cj.lt _ rfl).1;have fN:=T8 (S:=λb=>b=g) (aI.refl _ dc) (R:=g) (k*9) (.inl rfl) hd.k hd.id.b (ae hd.id.l) (ae hd.id.s) hd.c (ae hd.u) hd.f hd.e;have ml:Z w dc:=U;have dz:Z w a6:=U;have ix:=fN.ext (W:=w) (λb ad=>by subst ad;exact wa) ml;have ar0:=((vo.out.ext pn.out).mono (aBw:=(w:Nat)) dz.size).ZV (S:=λ_=>True) jA.out.cj ah ah ah fN;refine⟨_,_,_,_,by rw[kO.out];rfl,jA.out.ee fN bj (λp aY=>?_),?_,ix⟩
     ·rcases Gb aY with aY|rfl
      ·exact .inl ⟨p,aY,rfl,rfl⟩
      ·exact .inr ar0
     ·have ak:ys[k].a=false:=by
       have af:=eH (λl=>l[k]?) bF.out;simp only[nd,eK jV,eK oh.out,Gc,Option.some.injEq,ca.tx,gy.mk.injEq]at af;exact af.2.trans Z3.out
      rw[kO.out,<-bF.out,Ga,LS.out];simp only[ca.tx,ak]
structure rb (m:dv):Prop where
 h:gw m.h
 oP:(m.k=1/\m.aX= []/\m.ps= []/\m.aB= []/\m.aU= [])\/(m.k=2/\m.vs= []/\m.dq= [])
 vs:m.vs.length<=16/\∀v,v∈m.vs->dY v.id
 dq:m.dq.length<=16/\∀d,d∈m.dq->gZ d
 aX:m.aX.length<=16/\∀d,d∈m.aX->gZ d
 ps:m.ps.length<=16/\∀d,d∈m.ps->gZ d
 aB:m.aB.length<=16/\∀i,i∈m.aB->dY i
 aU:m.aU.length<=16/\∀i,i∈m.aU->dY i
def xr(w:World)(a:Option Addr)(n c:Nat)(aU:List bb):Prop:=∃ps:List bU,a7 w 8 bU.cs a n c ps/\(∀p,p∈ps->hK w p.x p.d)/\ps.map (·.d)=aU
def xr.ext{c:Nat}(h:xr w a n c aU)(X:Z w w'):xr w' a n c aU:=
 let ⟨ps,af,an,aO⟩:=h;⟨ps,af.ext X,λp aY=>(an p aY).ext X,aO⟩
structure tP (w:World) (x:kz) (m:dv):Prop where
 k:x.k=m.k
 h:x.h=(m.h:Int)
 v:a7 w 4 V.cs x.v.a x.v.n x.v.c m.vs
 q:xr w x.q.a x.q.n x.q.c m.dq
 e:xr w x.e.a x.e.n x.e.c m.aX
 p:xr w x.p.a x.p.n x.p.c m.ps
 b:a7 w 3 ax.cs x.b.a x.b.n x.b.c m.aB
 d:a7 w 3 ax.cs x.d.a x.d.n x.d.c m.aU
def tP.ext{x:kz}{m:dv}(h:tP w x m)(X:Z w w'):tP w' x m:=⟨h.k,h.h,h.v.ext X,h.q.ext X,h.e.ext X,h.p.ext X,h.b.ext X,h.d.ext X⟩
def afX(i:ax)(w:aC)(aZ:0<=i.b/\i.b<16):aS 269 #[i] w (cU (.bool true) w):=by
 go_enter func269,ntmps269;obtain⟨af,an⟩:=aZ;go_wp2;go_ret;refine⟨by simp[af,an],?_⟩;exact U
def ar1(v:V)(w:aC)(aZ:0<=v.id.b/\v.id.b<16):aS 268 #[.agg #[v.id.b,ae v.id.l,ae v.id.s,v.lp]] w (cU (.bool true) w):=by
 go_enter func268,ntmps268;go_wp2_with fail;refine qQ (afX v.id _ aZ) λw1 bn=>?_;go_wp2;go_ret;exact⟨rfl,U⟩
def ar2(x:bR)(d:bb)(w:aC)(a8:hK w x d)(cJ:gZ d):aS 270 #[x] w (cU (.bool true) w):=by
 change aa _ at a8 cJ;go_enter func270,ntmps270;go_wp2_with fail;refine qQ (IF x d _ (a8.ext U) cJ) λw1 bn=>?_;go_wp2;go_ret;exact⟨rfl,U⟩
def Uv(a:bl)(n c:Nat)(xs:List ax)(w:aC)(H:a7 w 3 ax.cs a n c xs)(aq:xs.length<=16)(e3:∀i,i∈xs->dY i):
  aS 273 #[ao a n c,.func (.func 269) #[] #[]] w (cU (.bool true) w):=by
 obtain rfl:=H.neq;have hm:=H.max;unfold maxLen at hm;have n1:¬(16:Int)<(xs.length:Int):=J;change aa _ at H;clear aq;go_enter func273,ntmps273;go_wp2_with fail;go_loopg [4,12] (xs.length) (λg PF st wr=>∃k:Nat,g+k=xs.length/\PF=.bool false/\st=.int .i64 k/\aa (Z w wr));case atStart=>exact⟨0,J,rfl,rfl,U⟩
 case round=>
  obtain⟨k,_,rfl,rfl,mB⟩:=hrel;by_cases hk:k<xs.length
  ·obtain⟨b,o,rfl,al⟩:=H.get k hk;obtain⟨_,_,_⟩:=Aj (w:=wr) (b:=b) (o:=o+k*3) (x:=xs[k]) (λj v aD=>mB.ag (al j v aD));refine jU ?_;intro b0 bf;clear al;go_wp2_with fail;refine qQ (afX _ _ (e3 _ (cT hk)).b) λw1 bn=>?_;exact Z6
  ·go_wp2;go_ret;exact⟨rfl,U⟩
def afY(a:bl)(n c:Nat)(xs:List V)(w:aC)(H:a7 w 4 V.cs a n c xs)(aq:xs.length<=16)(e3:∀v,v∈xs->dY v.id):
  aS 271 #[ao a n c,.func (.func 268) #[] #[]] w (cU (.bool true) w):=by
 obtain rfl:=H.neq;have hm:=H.max;unfold maxLen at hm;have n1:¬(16:Int)<(xs.length:Int):=J;change aa _ at H;clear aq;go_enter func271,ntmps271;go_wp2_with fail;go_loopg [4,12] (xs.length) (λg PF st wr=>∃k:Nat,g+k=xs.length/\PF=.bool false/\st=.int .i64 k/\aa (Z w wr));case atStart=>exact⟨0,J,rfl,rfl,U⟩
 case round=>
  obtain⟨k,_,rfl,rfl,mB⟩:=hrel;by_cases hk:k<xs.length
  ·obtain⟨b,o,rfl,al⟩:=H.get k hk;obtain⟨_,_,_,_⟩:=NS (w:=wr) (b:=b) (o:=o+k*4) (x:=xs[k]) (λj v aD=>mB.ag (al j v aD));refine jU ?_;intro b0 bf;clear al;go_wp2_with fail;refine qQ (ar1 _ _ (e3 _ (cT hk)).b) λw1 bn=>?_;exact Z6
  ·go_wp2;go_ret;exact⟨rfl,U⟩
def LV(a:bl)(n c:Nat)(aU:List bb)(w:aC)(h:xr w a n c aU)(aq:aU.length<=16)(e3:∀d,d∈aU->gZ d):
  aS 272 #[ao a n c,.func (.func 270) #[] #[]] w (cU (.bool true) w):=by
 obtain⟨xs,h,eL,rfl⟩:=h;rw[cx]at aq;change aa _ at eL;obtain rfl:=h.neq;have hm:=h.max;unfold maxLen at hm;have n1:¬(16:Int)<(xs.length:Int):=J;change aa _ at h;clear aq;go_enter func272,ntmps272;go_wp2_with fail;go_loopg [4,12] (xs.length) (λg PF st wr=>∃k:Nat,g+k=xs.length/\PF=.bool false/\st=.int .i64 k/\aa (Z w wr));case atStart=>exact⟨0,J,rfl,rfl,U⟩
 case round=>
  obtain⟨k,_,rfl,rfl,mB⟩:=hrel;by_cases hk:k<xs.length
  ·obtain⟨b,o,rfl,al⟩:=h.out.get k hk;obtain⟨_,_,_,_,_,_,_,_⟩:=nh (w:=wr) (b:=b) (o:=o+k*8) (x:=xs[k].x) (λj v aD=>mB.out.ag (al j v aD));refine jU ?_;intro b0 bf;have b6:=I hk;clear al;go_wp2_with fail;refine qQ (ar2 _ xs[k].d _ ((eL.out _ (cT hk)).ext U) (e3 _ (nH (cT hk)))) λw1 ad=>?_;exact Z6
  ·go_wp2;go_ret;exact⟨rfl,U⟩
def Z7(x:kz)(m:dv)(w:aC)(h:tP w x m)(hm:rb m):aS 210 #[x] w λe w'=>e=.returned av/\Z w w':=by
 obtain⟨_,r4,⟨uC,vp,uD⟩,⟨si,rP,sj⟩,⟨dL,eC,dO⟩,⟨cL,gJ,fv⟩,⟨gv,hU,fP⟩,⟨po,mX,nQ⟩⟩:=x;have bF:=I hm;obtain⟨hk,-,pQ,iQ,b7,lX,bx,jw⟩:=h;dsimp only at hk pQ iQ b7 lX bx jw ⊢;have bw:=pQ.neq;have ad:=bx.neq;have aG:=jw.neq;have bs:rP=m.dq.length:=by obtain⟨ps,af,_,aO⟩:=iQ;rw[<-aO,cx];exact af.neq
 have he:eC=m.aX.length:=by obtain⟨ps,af,_,aO⟩:=b7;rw[<-aO,cx];exact af.neq
 have aY:gJ=m.ps.length:=by obtain⟨ps,af,_,aO⟩:=lX;rw[<-aO,cx];exact af.neq
 have j4:=hm.oP;rcases j4 with ⟨bH,b1,dJ,eG,h4⟩|⟨bH,b1,dJ⟩
 ·rw[bH]at hk;rw[b1]at he;rw[dJ]at aY;rw[eG]at ad;rw[h4]at aG;simp only[pH]at he aY ad aG;subst hk;subst he;subst aY;subst ad;subst aG;clear bw bs;have bV:=I pQ;have fw:=I iQ;have hf:=I b7;have b8:=I lX;have bn:=I bx;have cJ:=I jw;clear pQ iQ b7 lX bx jw hm bH b1 dJ;go_enter func210,ntmps210;go_wp2_with fail;have R:=I (e2 (w:=w) (o:=(.cells #[bo 1,ae r4,ao uC vp uD,ao si rP sj,.slice dL 0 dO,.slice cL 0 fv,.slice gv 0 fP,.slice po 0 nQ] 232)) (n:=(w:Nat)) rfl);refine(afY _ _ _ m.vs _ (bV.ext U) bF.vs.1 bF.vs.2).mono ?_;rintro e w1⟨rfl,bz⟩;have q1:=bz.ay R;have R:=I q1;obtain⟨z0,cZ,z2,z3,z4,z5,gx,fE⟩:=lM q1;replace bz:=I bz;clear q1;go_wp2_with fail;refine(LV _ _ _ m.dq _ (fw.ext U) bF.dq.1 bF.dq.2).mono ?_;rintro e aN⟨rfl,bq⟩;have dk:=bq.ay R;have R:=I dk;obtain⟨z0,cZ,z2,z3,z4,z5,gx,fE⟩:=lM dk;replace bq:=I bq;clear dk;go_wp2_with fail;refine(LV _ _ _ m.aX _ (hf.ext U) bF.aX.1 bF.aX.2).mono ?_;rintro e a6⟨rfl,c0⟩;have eP:=c0.ay R;have R:=I eP;obtain⟨z0,cZ,z2,z3,z4,z5,gx,fE⟩:=lM eP;replace c0:=I c0;clear eP;go_wp2_with fail;refine(LV _ _ _ m.ps _ (b8.ext U) bF.ps.1 bF.ps.2).mono ?_;rintro e cB⟨rfl,eA⟩;have gV:=eA.ay R;have R:=I gV;obtain⟨z0,cZ,z2,z3,z4,z5,gx,fE⟩:=lM gV;replace eA:=I eA;clear gV;go_wp2_with fail;refine(Uv _ _ _ m.aB _ (bn.ext U) bF.aB.1 bF.aB.2).mono ?_;rintro e bA⟨rfl,hi⟩;have mO:=hi.ay R;have R:=I mO;obtain⟨z0,cZ,z2,z3,z4,z5,gx,fE⟩:=lM mO;replace hi:=I hi;clear mO;go_wp2_with fail;refine(Uv _ _ _ m.aU _ (cJ.ext U) bF.aU.1 bF.aU.2).mono ?_;rintro e c4⟨rfl,jr⟩;have vV:=jr.ay R;have R:=I vV;exact afZ
 ·rw[bH]at hk;rw[b1]at bw;rw[dJ]at bs;simp only[pH]at bw bs;subst hk;subst bw;subst bs;clear he aY ad aG;have bV:=I pQ;have fw:=I iQ;have hf:=I b7;have b8:=I lX;have bn:=I bx;have cJ:=I jw;clear pQ iQ b7 lX bx jw hm bH b1 dJ;go_enter func210,ntmps210;go_wp2_with fail;have R:=I (e2 (w:=w) (o:=(.cells #[bo 2,ae r4,.slice uC 0 uD,.slice si 0 sj,ao dL eC dO,ao cL gJ fv,ao gv hU fP,ao po mX nQ] 232)) (n:=(w:Nat)) rfl);refine(afY _ _ _ m.vs _ (bV.ext U) bF.vs.1 bF.vs.2).mono ?_;rintro e _⟨rfl,bz⟩;have q1:=bz.ay R;have R:=I q1;obtain⟨z0,cZ,z2,z3,z4,z5,gx,fE⟩:=lM q1;replace bz:=I bz;clear q1;go_wp2_with fail;refine(LV _ _ _ m.dq _ (fw.ext U) bF.dq.1 bF.dq.2).mono ?_;rintro e _⟨rfl,bq⟩;have dk:=bq.ay R;have R:=I dk;obtain⟨z0,cZ,z2,z3,z4,z5,gx,fE⟩:=lM dk;replace bq:=I bq;clear dk;go_wp2_with fail;refine(LV _ _ _ m.aX _ (hf.ext U) bF.aX.1 bF.aX.2).mono ?_;rintro e _⟨rfl,c0⟩;have eP:=c0.ay R;have R:=I eP;obtain⟨z0,cZ,z2,z3,z4,z5,gx,fE⟩:=lM eP;replace c0:=I c0;clear eP;go_wp2_with fail;refine(LV _ _ _ m.ps _ (b8.ext U) bF.ps.1 bF.ps.2).mono ?_;rintro e _⟨rfl,eA⟩;have gV:=eA.ay R;have R:=I gV;obtain⟨z0,cZ,z2,z3,z4,z5,gx,fE⟩:=lM gV;replace eA:=I eA;clear gV;go_wp2_with fail;refine(Uv _ _ _ m.aB _ (bn.ext U) bF.aB.1 bF.aB.2).mono ?_;rintro e _⟨rfl,hi⟩;have mO:=hi.ay R;have R:=I mO;obtain⟨z0,cZ,z2,z3,z4,z5,gx,fE⟩:=lM mO;replace hi:=I hi;clear mO;go_wp2_with fail;refine(Uv _ _ _ m.aU _ (cJ.ext U) bF.aU.1 bF.aU.2).mono ?_;rintro e _⟨rfl,jr⟩;have vV:=jr.ay R;exact afZ
end Go.Proofs.YtfiiblnenhdlhaaGreat
