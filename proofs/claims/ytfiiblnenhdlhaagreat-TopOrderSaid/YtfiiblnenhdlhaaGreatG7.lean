/- Part. -/
import Derived.Test.YtfiiblnenhdlhaaGreatG1
import Derived.Test.YtfiiblnenhdlhaaGreatG6
set_option linter.unusedVariables false
set_option linter.unusedSimpArgs false
set_option linter.defProp false
set_option maxRecDepth 100000
set_option maxHeartbeats 4000000
namespace Go.Proofs.YtfiiblnenhdlhaaGreat
open Go.RowKit Tryz
variable {rs:List Nat}{ag ps:List bO}{base cap dL g id n q sz:Nat}{fr:Nat×Nat}{aw:Option Addr}{α:Type}{e:TypeId}{w w' w1:World}{x:b1}{r:gJ}{s:lZ}
section
def YJ{P:Program}{ops:Array Oper}{Q:Exit->Act->aC->Prop}{md:Region.Mode}{S:z6}(i:Nat)(d:Option Tmp){v:Value}{fuel:Nat}{listed:Array Bool}{a:Act}{w:aC}(hs:Region.noSelect ops=true)(bc:Region.free md ops listed i=true)(ax:(Region.ready md ops listed).contains i=true)(jz:∀c a w,Q (.panic c) (a.put d v) w->Q (.panic c) a w)(hy:∃gm,ops[i]?=some gm/\gm.dst=d/\YieldsIf P ops S gm v a)(a8:S w)(h:wpAnyH P md ops Q S fuel (listed.setIfInBounds i true) (a.put d v) w):wpAnyH P md ops Q S (fuel+1) listed a w:=by
 obtain⟨gm,aO,rfl,hy⟩:=hy;exact wpAnyH_take aO hs bc ax jz hy a8 h
section
variable {P:Program}{ops:Array Oper}{Q:Exit->Act->World->Prop}{md:Region.Mode}{S:World->Prop}{v:Value}{n:Nat}{l:Array Bool}{a:Act}{w:World}{gm:Oper}{q:Prop}{L:Nat}{A:World->Prop}
def cX(i:Nat){d:Nat}(k:q)(a8:S w:=by exact a7)(aK:ops[i]?=some gm:=by rfl)(aD:gm.dst=some d:=by rfl)(hs:Region.noSelect ops=true:=by kernel_rfl)(bc:Region.free md ops l i=true:=by kernel_rfl)(ax:(Region.ready md ops l).contains i=true:=by kernel_rfl)(jz:∀c a w,Q (.panic c) (a.put (some d) v) w->Q (.panic c) a w:=by exact λ_ _ _ h=>h)(hw:Region.wanted gm (yielded ops a.tmps)=true:=by rfl)(hy:∀w,S w->(execOp a.eval gm).run P w=.ok (.value v) w:=by intro w iA;(try dsimp only at iA);go_simp;(first|done|with_reducible rfl))(h:q->wpAnyH P md ops Q S n (l.setIfInBounds i true) (a.put (some d) v) w:=by intro k;(try simp only[Act.put,List.setIfInBounds_toArray,List.set_cons_zero,List.set_cons_succ]);exact k):wpAnyH P md ops Q S (n+1) l a w:=
 YJ i (some d) hs bc ax jz ⟨_,aK,aD,.inl ⟨hw,hy⟩⟩ a8 (h k)
def Bf(i:Nat){d:Nat}(f:∀{w},S w->A w)(k:q)(a8:S w:=by exact a7)(aK:ops[i]?=some gm:=by rfl)(aD:gm.dst=some d:=by rfl)(hs:Region.noSelect ops=true:=by kernel_rfl)(bc:Region.free md ops l i=true:=by kernel_rfl)(ax:(Region.ready md ops l).contains i=true:=by kernel_rfl)(jz:∀c a w,Q (.panic c) (a.put (some d) v) w->Q (.panic c) a w:=by exact λ_ _ _ h=>h)(hw:Region.wanted gm (yielded ops a.tmps)=true:=by rfl)(hy:(∀{w},S w->A w)->∀w,S w->(execOp a.eval gm).run P w=.ok (.value v) w:=by intro f w iA;have dV:=f iA;(try dsimp only at dV);go_simp;(first|done|with_reducible rfl))(h:q->wpAnyH P md ops Q S n (l.setIfInBounds i true) (a.put (some d) v) w:=by intro k;(try simp only[Act.put,List.setIfInBounds_toArray,List.set_cons_zero,List.set_cons_succ]);exact k):wpAnyH P md ops Q S (n+1) l a w:=
 YJ i (some d) hs bc ax jz ⟨_,aK,aD,.inl ⟨hw,hy f⟩⟩ a8 (h k)
def lA(i:Nat){d:Nat}(f:∀{w},S w->A w)(k:q)(a8:S w:=by exact a7)(aK:ops[i]?=some gm:=by rfl)(aD:gm.dst=some d:=by rfl)(hs:Region.noSelect ops=true:=by kernel_rfl)(bc:Region.free md ops l i=true:=by kernel_rfl)(ax:(Region.ready md ops l).contains i=true:=by kernel_rfl)(jz:∀c a w,Q (.panic c) (a.put (some d) v) w->Q (.panic c) a w:=by exact λ_ _ _ h=>h)(hw:Region.wanted gm (yielded ops a.tmps)=true:=by rfl)(hy:(∀{w},S w->A w)->∀w,S w->(execOp a.eval gm).run P w=.ok (.value v) w:=by intro f w iA;have bq:=f iA;clear f;(try dsimp only at bq);(try have dV:=aI (o:=0) bq rfl);(try have bS:=aI (o:=1) bq rfl);(try have bE:=aI (o:=2) bq rfl);(try have eV:=aI (o:=3) bq rfl);(try have gU:=aI (o:=4) bq rfl);(try have kD:=aI (o:=5) bq rfl);(try have l5:=aI (o:=6) bq rfl);(try have lO:=aI (o:=7) bq rfl);(try have wX:=aI (o:=8) bq rfl);(try have CD:=aI (o:=9) bq rfl);(try have OJ:=aI (o:=10) bq rfl);(try have af6:=aI (o:=11) bq rfl);(try have af7:=aI (o:=12) bq rfl);(try have af8:=aI (o:=13) bq rfl);clear bq;go_simp;(first|done|with_reducible rfl))(h:q->wpAnyH P md ops Q S n (l.setIfInBounds i true) (a.put (some d) v) w:=by intro k;(try simp only[Act.put,List.setIfInBounds_toArray,List.set_cons_zero,List.set_cons_succ]);exact k):wpAnyH P md ops Q S (n+1) l a w:=
 YJ i (some d) hs bc ax jz ⟨_,aK,aD,.inl ⟨hw,hy f⟩⟩ a8 (h k)
end
section
variable {P:Program}{md:Region.Mode}{ops:Array Oper}{Q:Exit->Act->World->Prop}{a:Act}{w:World}
def Bg{p:Prop}(h:p:=by(try dsimp only);exact X):p:=h
def hE{S:z6}(i:Nat){o:Oper}{n:Nat}{l:Array Bool}(h:∀rS:Act->aC->Prop,Shut (∀a w,S w->(S w->wpAnyH P md ops Q S n (l.setIfInBounds i true) a w)->rS a w)->if Region.wanted o (yielded ops a.tmps)=true then Oper.wp P o a w rS Q else rS (a.put o.dst undef) w)(aK:ops[i]?=some o:=by rfl)(ax:Region.ready md ops l= [i]:=by kernel_rfl):wpAnyH P md ops Q S (n+1) l a w:=
 wpAnyH_ready ax (by simp) (AllReadyH.cons aK h AllReadyH.nil)
def sI(S:z6)(h:S w.drew->wpAnyH P .any ops Q S ops.size (Array.replicate ops.size false) a w.drew)(a8:S w.drew:=by(try dsimp only);exact X)(hm:P.follows .mixedOrders=true:=by kernel_rfl):(Code.region id ops true).wp P Q a w:=wp_region_held_drew hm a8 h
end
end
section
section
variable {P:Program}{ops:Array Oper}{Q:Exit->Act->World->Prop}{md:Region.Mode}{S:World->Prop}{L:Nat}
def sJ(P:Program)(md:Region.Mode)(ops:Array Oper)(Q:Exit->Act->World->Prop)(S:World->Prop)(L:Nat):Nat->Array Bool->Act->World->Prop
 |0,l,a,w=>Region.ready md ops l= []/\Q .normal a w
 |n+1,l,a,w=>(Region.ready md ops l= []->Q .normal a w)/\∀i∈Region.ready md ops l,wpOp P ops Q i (λhU w'=>(i≠L->S w')/\sJ P md ops Q S L n (l.setIfInBounds i true) hU w') a w
def af9:∀(n:Nat) (l:Array Bool) (a:Act) (w:aC),sJ P md ops Q S L n l a w->wpAny P md ops Q n l a w
 |0,_,_,_,h=>h
 |n+1,_,_,_,h=>⟨h.1,λi aO=>wpOp_mono (λhU w' k=>af9 n _ hU w' k.2) (h.2 i aO)⟩
def K3(md:Region.Mode)(ops:Array Oper)(L i:Nat):Bool:=
 match ops[L]? with
 |some o=>o.after.any (λe=>Region.binds md e&&e.on==i)
 |none=>false
def aga{i:Nat}{l:Array Bool}(ax:i∈Region.ready md ops l){e:Nat}(he:e=i):¬l.getD e false=true:=by
 subst he;intro h;have aW:=(mem_ready.1 ax).1;rcases zz e l.size with k|k
 ·simp[k]at h aW;rw[aW]at h;cases h
 ·simp[Sh k]at h
def asU{i:Nat}{gm:Oper}{v:Value}(aO:ops[i]?=some gm)(YK:∀(j:Nat) (o:Oper) cs b,ops[j]?=some o->o.op≠.select cs b)(jz:∀c a w,Q (.panic c) (a.put gm.dst v) w->Q (.panic c) a w)(fH:K3 md ops L i=true):
  ∀(n:Nat) (l:Array Bool) (a:Act) (w:aC),
   (∀j wY,ops[j]?=some wY->j≠i->l.getD j true=false->(∀e∈wY.after,Region.binds md e=true->e.on≠i)->gm.apart ops wY=true)->
   i∈Region.ready md ops l->YieldsIf P ops S gm v a->S w->
   sJ P md ops Q S L n (l.setIfInBounds i true) (a.put gm.dst v) w->sJ P md ops Q S L (n+1) l a w:=by
 have asV:∀(l:Array Bool) (j:Nat),i∈Region.ready md ops l->j∈Region.ready md ops l->j≠i->j≠L:=λl j ax aJ _ e=>by
  subst e;obtain⟨_,wY,x2,vX⟩:=mem_ready.1 aJ;exact asW
 intro n;induction n with
 |zero=>
  intro l a w _ ax hy a8 H;refine⟨(λh=>by rw[h]at ax;cases ax),λj aJ=>?_⟩;by_cases e:j=i
  ·subst e;exact hy.wpOp aO a8 ⟨λ_=>a8,H⟩
  exact agb
 |succ n cI=>
  intro l a w YL ax hy a8 H;refine⟨(λh=>by rw[h]at ax;cases ax),λj aJ=>?_⟩;by_cases e:j=i
  ·subst e;exact hy.wpOp aO a8 ⟨λ_=>a8,H⟩
  ·refine agc ?_;intro OK wY x2 vX eO OL;have K4:=asV l j ax aJ e;refine wpOp_mono (λhU w' k=>⟨λ_=>k.2.1 K4,cI (l.setIfInBounds j true) hU w' (λm J agd Th age OM=>?_) (ready_mono ax (Ne.symm e)) k.1 (k.2.1 K4) ?_⟩) OL;exact agf;exact agh
def YM(i:Nat)(d:Option Tmp){v:Value}{n:Nat}{l:Array Bool}{a:Act}{w:aC}(hs:Region.noSelect ops=true)(bc:Region.free md ops l i=true)(ax:(Region.ready md ops l).contains i=true)(fH:K3 md ops L i=true)(jz:∀c a w,Q (.panic c) (a.put d v) w->Q (.panic c) a w)(hy:∃gm,ops[i]?=some gm/\gm.dst=d/\YieldsIf P ops S gm v a)(a8:S w)(h:sJ P md ops Q S L n (l.setIfInBounds i true) (a.put d v) w):sJ P md ops Q S L (n+1) l a w:=by
 obtain⟨gm,aO,rfl,hy⟩:=hy;exact asU aO (Region.noSelect_spec hs) jz fH n l a w (Region.free_spec aO bc) (by simpa using ax) hy a8 h
def Ti(P:Program)(md:Region.Mode)(ops:Array Oper)(Q:Exit->Act->World->Prop)(S:World->Prop)(L n:Nat)(l:Array Bool)(a:Act)(w:World)(rs:List Nat):Prop:=
 ∀i∈rs,wpOp P ops Q i (λhU w'=>(i≠L->S w')/\sJ P md ops Q S L n (l.setIfInBounds i true) hU w') a w
def K5{n:Nat}{l:Array Bool}{a:Act}{w:aC}:Ti P md ops Q S L n l a w []:=λ_ h=>by cases h
def Io{n:Nat}{l:Array Bool}{a:Act}{w:aC}{i:Nat}{o:Oper}(aK:ops[i]?=some o)(h:∀rS:Act->aC->Prop,Shut (∀a w,(i≠L->S w)->((i≠L->S w)->sJ P md ops Q S L n (l.setIfInBounds i true) a w)->rS a w)->if Region.wanted o (yielded ops a.tmps)=true then Oper.wp P o a w rS Q else rS (a.put o.dst undef) w)(hs:Ti P md ops Q S L n l a w rs):Ti P md ops Q S L n l a w (i::rs):=λj aJ=>agi
def x3{n:Nat}{l:Array Bool}{a:Act}{w:aC}(ax:Region.ready md ops l=rs)(di:rs≠ [])(h:Ti P md ops Q S L n l a w rs):sJ P md ops Q S L (n+1) l a w:=⟨λaW=>absurd (ax▸aW) di,ax▸h⟩
def K6{l:Array Bool}{a:Act}{w:aC}(ax:Region.ready md ops l= [])(h:Q .normal a w):∀n,sJ P md ops Q S L n l a w
 |0=>⟨ax,h⟩
 |_+1=>⟨λ_=>h,by rw[ax];simp⟩
def ON(L:Nat){a:Act}{w:aC}(hm:P.follows .mixedOrders=true)(a8:S w.drew)(h:S w.drew->sJ P .any ops Q S L ops.size (Array.replicate ops.size false) a w.drew):(Code.region id ops true).wp P Q a w:=
 wp_region_any hm (af9 _ _ _ _ (h a8))
end
section
variable {P:Program}{ops:Array Oper}{Q:Exit->Act->World->Prop}{md:Region.Mode}{S:World->Prop}{v:Value}{n:Nat}{l:Array Bool}{a:Act}{w:World}{gm:Oper}{q:Prop}{L:Nat}{A:World->Prop}
def gO(i:Nat){d:Nat}(k:q)(a8:S w:=by exact a7)(aK:ops[i]?=some gm:=by rfl)(aD:gm.dst=some d:=by rfl)(hs:Region.noSelect ops=true:=by kernel_rfl)(bc:Region.free md ops l i=true:=by kernel_rfl)(ax:(Region.ready md ops l).contains i=true:=by kernel_rfl)(fH:K3 md ops L i=true:=by kernel_rfl)(jz:∀c a w,Q (.panic c) (a.put (some d) v) w->Q (.panic c) a w:=by exact λ_ _ _ h=>h)(hw:Region.wanted gm (yielded ops a.tmps)=true:=by rfl)(hy:∀w,S w->(execOp a.eval gm).run P w=.ok (.value v) w:=by intro w iA;(try dsimp only at iA);go_simp;(first|done|with_reducible rfl))(h:q->sJ P md ops Q S L n (l.setIfInBounds i true) (a.put (some d) v) w:=by intro k;(try simp only[Act.put,List.setIfInBounds_toArray,List.set_cons_zero,List.set_cons_succ]);exact k):sJ P md ops Q S L (n+1) l a w:=
 YM i (some d) hs bc ax fH jz ⟨_,aK,aD,.inl ⟨hw,hy⟩⟩ a8 (h k)
def asX(i:Nat){d:Nat}(f:∀{w},S w->A w)(k:q)(a8:S w:=by exact a7)(aK:ops[i]?=some gm:=by rfl)(aD:gm.dst=some d:=by rfl)(hs:Region.noSelect ops=true:=by kernel_rfl)(bc:Region.free md ops l i=true:=by kernel_rfl)(ax:(Region.ready md ops l).contains i=true:=by kernel_rfl)(fH:K3 md ops L i=true:=by kernel_rfl)(jz:∀c a w,Q (.panic c) (a.put (some d) v) w->Q (.panic c) a w:=by exact λ_ _ _ h=>h)(hw:Region.wanted gm (yielded ops a.tmps)=true:=by rfl)(hy:(∀{w},S w->A w)->∀w,S w->(execOp a.eval gm).run P w=.ok (.value v) w:=by intro f w iA;have dV:=f iA;(try dsimp only at dV);go_simp;(first|done|with_reducible rfl))(h:q->sJ P md ops Q S L n (l.setIfInBounds i true) (a.put (some d) v) w:=by intro k;(try simp only[Act.put,List.setIfInBounds_toArray,List.set_cons_zero,List.set_cons_succ]);exact k):sJ P md ops Q S L (n+1) l a w:=
 YM i (some d) hs bc ax fH jz ⟨_,aK,aD,.inl ⟨hw,hy f⟩⟩ a8 (h k)
def lQ(i:Nat){d:Nat}(f:∀{w},S w->A w)(k:q)(a8:S w:=by exact a7)(aK:ops[i]?=some gm:=by rfl)(aD:gm.dst=some d:=by rfl)(hs:Region.noSelect ops=true:=by kernel_rfl)(bc:Region.free md ops l i=true:=by kernel_rfl)(ax:(Region.ready md ops l).contains i=true:=by kernel_rfl)(fH:K3 md ops L i=true:=by kernel_rfl)(jz:∀c a w,Q (.panic c) (a.put (some d) v) w->Q (.panic c) a w:=by exact λ_ _ _ h=>h)(hw:Region.wanted gm (yielded ops a.tmps)=true:=by rfl)(hy:(∀{w},S w->A w)->∀w,S w->(execOp a.eval gm).run P w=.ok (.value v) w:=by intro f w iA;have bq:=f iA;clear f;(try dsimp only at bq);(try have dV:=aI (o:=0) bq rfl);(try have bS:=aI (o:=1) bq rfl);(try have bE:=aI (o:=2) bq rfl);(try have eV:=aI (o:=3) bq rfl);(try have gU:=aI (o:=4) bq rfl);(try have kD:=aI (o:=5) bq rfl);(try have l5:=aI (o:=6) bq rfl);(try have lO:=aI (o:=7) bq rfl);(try have wX:=aI (o:=8) bq rfl);(try have CD:=aI (o:=9) bq rfl);(try have OJ:=aI (o:=10) bq rfl);(try have af6:=aI (o:=11) bq rfl);(try have af7:=aI (o:=12) bq rfl);(try have af8:=aI (o:=13) bq rfl);clear bq;go_simp;(first|done|with_reducible rfl))(h:q->sJ P md ops Q S L n (l.setIfInBounds i true) (a.put (some d) v) w:=by intro k;(try simp only[Act.put,List.setIfInBounds_toArray,List.set_cons_zero,List.set_cons_succ]);exact k):sJ P md ops Q S L (n+1) l a w:=
 YM i (some d) hs bc ax fH jz ⟨_,aK,aD,.inl ⟨hw,hy f⟩⟩ a8 (h k)
end
section
variable {P:Program}{md:Region.Mode}{ops:Array Oper}{Q:Exit->Act->World->Prop}{a:Act}{w:World}
def kW{S:z6}{L:Nat}(i:Nat){o:Oper}{n:Nat}{l:Array Bool}(h:∀rS:Act->aC->Prop,Shut (∀a w,(i≠L->S w)->((i≠L->S w)->sJ P md ops Q S L n (l.setIfInBounds i true) a w)->rS a w)->if Region.wanted o (yielded ops a.tmps)=true then Oper.wp P o a w rS Q else rS (a.put o.dst undef) w)(aK:ops[i]?=some o:=by rfl)(ax:Region.ready md ops l= [i]:=by kernel_rfl):sJ P md ops Q S L (n+1) l a w:=
 x3 ax (by simp) (Io aK h K5)
def Bh(L:Nat)(S:z6)(h:S w.drew->sJ P .any ops Q S L ops.size (Array.replicate ops.size false) a w.drew)(a8:S w.drew:=by(try dsimp only);exact X)(hm:P.follows .mixedOrders=true:=by kernel_rfl):(Code.region id ops true).wp P Q a w:=ON L hm a8 h
end
end
section
section
variable {P:Program}{ops:Array Oper}{Q:Exit->Act->World->Prop}{md:Region.Mode}{S:World->Prop}{L:Nat}
def rT(P:Program)(md:Region.Mode)(ops:Array Oper)(Q:Exit->Act->World->Prop)(S:World->Prop)(L:Nat):Nat->Array Bool->Act->World->Prop
 |0,l,a,w=>Region.ready md ops l= []/\Q .normal a w
 |n+1,l,a,w=>(Region.ready md ops l= []->Q .normal a w)/\∀i∈Region.ready md ops l,wpOp P ops Q i (λhU w'=>(l.getD L true=false->i≠L->S w')/\rT P md ops Q S L n (l.setIfInBounds i true) hU w') a w
def agj:∀(n:Nat) (l:Array Bool) (a:Act) (w:aC),rT P md ops Q S L n l a w->wpAny P md ops Q n l a w
 |0,_,_,_,h=>h
 |n+1,_,_,_,h=>⟨h.1,λi aO=>wpOp_mono (λhU w' k=>agj n _ hU w' k.2) (h.2 i aO)⟩
def Tj(P:Program)(md:Region.Mode)(ops:Array Oper)(Q:Exit->Act->World->Prop)(S:World->Prop)(L n:Nat)(l:Array Bool)(a:Act)(w:World)(rs:List Nat):Prop:=
 ∀i∈rs,wpOp P ops Q i (λhU w'=>(l.getD L true=false->i≠L->S w')/\rT P md ops Q S L n (l.setIfInBounds i true) hU w') a w
def asY{l:Array Bool}{a:Act}{w:aC}:Tj P md ops Q S L n l a w []:=λ_ h=>by cases h
def asZ{l:Array Bool}{a:Act}{w:aC}{i:Nat}{o:Oper}(aK:ops[i]?=some o)(h:∀rS:Act->aC->Prop,Shut (∀a w,(l.getD L true=false->i≠L->S w)->((l.getD L true=false->i≠L->S w)->rT P md ops Q S L n (l.setIfInBounds i true) a w)->rS a w)->if Region.wanted o (yielded ops a.tmps)=true then Oper.wp P o a w rS Q else rS (a.put o.dst undef) w)(hs:Tj P md ops Q S L n l a w rs):Tj P md ops Q S L n l a w (i::rs):=λj aJ=>agi
def as0{l:Array Bool}{a:Act}{w:aC}(ax:Region.ready md ops l=rs)(di:rs≠ [])(h:Tj P md ops Q S L n l a w rs):rT P md ops Q S L (n+1) l a w:=⟨λaW=>absurd (ax▸aW) di,ax▸h⟩
def YN{l:Array Bool}{a:Act}{w:aC}(ax:Region.ready md ops l= [])(h:Q .normal a w):∀n,rT P md ops Q S L n l a w
 |0=>⟨ax,h⟩
 |_+1=>⟨λ_=>h,by rw[ax];simp⟩
def as1(L:Nat){a:Act}{w:aC}(hm:P.follows .mixedOrders=true)(a8:S w.drew)(h:S w.drew->rT P .any ops Q S L ops.size (Array.replicate ops.size false) a w.drew):(Code.region id ops true).wp P Q a w:=
 wp_region_any hm (agj _ _ _ _ (h a8))
end
section
variable {P:Program}{md:Region.Mode}{ops:Array Oper}{Q:Exit->Act->World->Prop}{a:Act}{w:World}
def lh{S:z6}{L:Nat}(i:Nat){o:Oper}{l:Array Bool}(h:∀rS:Act->aC->Prop,Shut (∀a w,(l.getD L true=false->i≠L->S w)->((l.getD L true=false->i≠L->S w)->rT P md ops Q S L n (l.setIfInBounds i true) a w)->rS a w)->if Region.wanted o (yielded ops a.tmps)=true then Oper.wp P o a w rS Q else rS (a.put o.dst undef) w)(aK:ops[i]?=some o:=by rfl)(ax:Region.ready md ops l= [i]:=by kernel_rfl):rT P md ops Q S L (n+1) l a w:=
 as0 ax (by simp) (asZ aK h asY)
def uc(L:Nat)(S:z6)(h:S w.drew->rT P .any ops Q S L ops.size (Array.replicate ops.size false) a w.drew)(a8:S w.drew:=by(try dsimp only);exact X)(hm:P.follows .mixedOrders=true:=by kernel_rfl):(Code.region id ops true).wp P Q a w:=as1 L hm a8 h
end
end
section
section
variable {P:Program}{ops:Array Oper}{Q:Exit->Act->World->Prop}{md:Region.Mode}{S:World->Prop}{L:Nat}
def reach(md:Region.Mode)(ops:Array Oper):Nat->Nat->Nat->Bool
 |0,_,_=>false
 |n+1,j,i=>match ops[j]? with
  |some o=>o.after.any (λe=>Region.binds md e&&(e.on==i||reach md ops n e.on i))
  |none=>false
def z7(md:Region.Mode)(ops:Array Oper)(l:Array Bool):Bool:=
 (List.range ops.size).all λj=> !l.getD j false||((ops[j]?).map (·.after.all λe=> !Region.binds md e||l.getD e.on false)).getD true
def agk{l:Array Bool}(h:z7 md ops l=true){j:Nat}{o:Oper}(aK:ops[j]?=some o)(aT:l.getD j false=true):∀e∈o.after,Region.binds md e=true->l.getD e.on false=true:=by
 unfold z7 at h;rw[uL]at h;have:=h j (qI.2 (FM.1 aK).1);rw[aT,aK]at this;simp only[Bool.not_true,K7,FL,K8,Array.all_eq_true',xh,FK]at this;intro e he aa;rcases this e he with k|k
 ·rw[aa]at k;cases k
 ·exact k
def as2{i:Nat}{l:Array Bool}(ax:i∈Region.ready md ops l):l.getD i false=false:=by
 have aW:=(mem_ready.1 ax).1;rcases zz i l.size with k|k
 ·simpa[k]using aW
 ·simp[Sh k]at aW
def agl{l:Array Bool}(ao:z7 md ops l=true){i:Nat}(aO:l.getD i false=false):∀(n j:Nat),reach md ops n j i=true->∃o,ops[j]?=some o/\∃e∈o.after,Region.binds md e=true/\l.getD e.on false=false
 |0,_,h=>by cases h
 |n+1,j,h=>by
  unfold reach at h
  cases aK:ops[j]? with
  |none=>rw[aK]at h;cases h
  |some o=>
   rw[aK]at h
   obtain⟨e,he,aa⟩:=Array.any_eq_true'.1 h
   rw[ke,xh,beq_iff_eq]at aa
   obtain⟨aa,hk⟩:=aa
   refine⟨o,rfl,e,he,aa,?_⟩
   rcases hk with hk|hk
   ·rw[hk];exact aO
   ·obtain⟨_,pI,bE,Tk,ih,ox⟩:=agl ao aO n e.on hk
    cases aT:l.getD e.on false with
    |false=>rfl
    |true=>rw[agk ao pI aT bE Tk ih]at ox;cases ox
def agm{l:Array Bool}(ao:z7 md ops l=true){n i:Nat}(h:reach md ops n L i=true)(ax:i∈Region.ready md ops l):L∉Region.ready md ops l:=λfH=>by
 obtain⟨o,aK,e,he,aa,aT⟩:=agl ao (as2 ax) n L h;obtain⟨_,_,x2,vX⟩:=mem_ready.1 fH;rw[aK]at x2;cases x2;have:=vX e he aa;rw[aT]at this;cases this
def as3{l:Array Bool}(ao:z7 md ops l=true){j:Nat}(ax:j∈Region.ready md ops l):z7 md ops (l.setIfInBounds j true)=true:=by
 have mono:∀k,l.getD k false=true->(l.setIfInBounds j true).getD k false=true:=λk hk=>by
  by_cases e:j=k
  ·subst e;rcases zz j l.size with z|z
   ·simp[z]
   ·simp[Sh z]at hk
  ·rw[getD_set_ne false e];exact hk
 unfold z7;rw[uL];intro k _;cases aK:ops[k]? with
 |none=>simp
 |some o=>
  simp only[FL,K8,xh,FK,Array.all_eq_true'];by_cases e:j=k
  ·subst e;obtain⟨_,_,x2,vX⟩:=mem_ready.1 ax;rw[aK]at x2;cases x2;refine .inr (λx U=>?_);cases aa:Region.binds md x with
   |false=>exact .inl rfl
   |true=>exact .inr (mono _ (vX x U aa))
  ·rw[getD_set_ne false e];cases aT:l.getD k false with
   |false=>exact .inl rfl
   |true=>
    refine .inr (λx U=>?_);cases aa:Region.binds md x with
    |false=>exact .inl rfl
    |true=>exact .inr (mono _ (agk ao aK aT x U aa))
def as4{i:Nat}{gm:Oper}{v:Value}(aO:ops[i]?=some gm)(YK:∀(j:Nat) (o:Oper) cs b,ops[j]?=some o->o.op≠.select cs b)(jz:∀c a w,Q (.panic c) (a.put gm.dst v) w->Q (.panic c) a w){m:Nat}(fH:reach md ops m L i=true):
  ∀(n:Nat) (l:Array Bool) (a:Act) (w:aC),z7 md ops l=true->
   (∀j wY,ops[j]?=some wY->j≠i->l.getD j true=false->(∀e∈wY.after,Region.binds md e=true->e.on≠i)->gm.apart ops wY=true)->
   i∈Region.ready md ops l->l.getD L true=false->YieldsIf P ops S gm v a->S w->
   rT P md ops Q S L n (l.setIfInBounds i true) (a.put gm.dst v) w->rT P md ops Q S L (n+1) l a w:=by
 intro n;induction n with
 |zero=>
  intro l a w _ _ ax Bi hy a8 H;refine⟨(λh=>by rw[h]at ax;cases ax),λj aJ=>?_⟩;by_cases e:j=i
  ·subst e;exact hy.wpOp aO a8 ⟨λ_ _=>a8,H⟩
  ·have:=ready_mono aJ e;rw[H.1]at this;cases this
 |succ n cI=>
  intro l a w gV YL ax Bi hy a8 H;refine⟨(λh=>by rw[h]at ax;cases ax),λj aJ=>?_⟩;by_cases e:j=i
  ·subst e;exact hy.wpOp aO a8 ⟨λ_ _=>a8,H⟩
  ·obtain⟨OK,wY,x2,vX⟩:=mem_ready.1 aJ;have eO:∀e∈wY.after,Region.binds md e=true->e.on≠i:=λe he aa k=>aga ax k (vX e he aa);have OL:=wpOp_putIf x2 (YL j wY x2 e OK eO) (λcs b=>YK i gm cs b aO) (λcs b=>YK j wY cs b x2) jz hy (H.2 j (ready_mono aJ e));have K4:j≠L:=λz=>by subst z;exact agm gV fH ax aJ
   have as5:i≠L:=λz=>by subst z;exact agm gV fH ax ax
   have ox:(l.setIfInBounds i true).getD L true=false:=by rw[getD_set_ne true as5];exact Bi
   refine wpOp_mono (λhU w' k=>⟨λ_ _=>k.2.1 ox K4,cI (l.setIfInBounds j true) hU w' (as3 gV aJ) (λm J agd Th age OM=>?_) (ready_mono ax (Ne.symm e)) (by rw[getD_set_ne true K4];exact Bi) k.1 (k.2.1 ox K4) ?_⟩) OL
   ·refine YL m J agd Th ?_ OM;by_cases am7:j=m
    ·subst am7;exact OK
    ·rwa [getD_set_ne true am7]at age
   ·rw[Array.setIfInBounds_comm _ _ e];exact k.2.2
def YO(i:Nat)(d:Option Tmp){v:Value}{n:Nat}{l:Array Bool}{a:Act}{w:aC}(hs:Region.noSelect ops=true)(bc:Region.free md ops l i=true)(ax:(Region.ready md ops l).contains i=true)(fH:reach md ops ops.size L i=true)(ao:z7 md ops l=true)(Bi:l.getD L true=false)(jz:∀c a w,Q (.panic c) (a.put d v) w->Q (.panic c) a w)(hy:∃gm,ops[i]?=some gm/\gm.dst=d/\YieldsIf P ops S gm v a)(a8:S w)(h:rT P md ops Q S L n (l.setIfInBounds i true) (a.put d v) w):rT P md ops Q S L (n+1) l a w:=by
 obtain⟨gm,aO,rfl,hy⟩:=hy;exact as4 aO (Region.noSelect_spec hs) jz fH n l a w ao (Region.free_spec aO bc) (by simpa using ax) Bi hy a8 h
end
section
variable {P:Program}{ops:Array Oper}{Q:Exit->Act->World->Prop}{md:Region.Mode}{S:World->Prop}{v:Value}{n:Nat}{l:Array Bool}{a:Act}{w:World}{gm:Oper}{q:Prop}{L:Nat}{A:World->Prop}
def ed(i:Nat){d:Nat}(k:q)(a8:S w:=by exact a7)(aK:ops[i]?=some gm:=by rfl)(aD:gm.dst=some d:=by rfl)(hs:Region.noSelect ops=true:=by kernel_rfl)(bc:Region.free md ops l i=true:=by kernel_rfl)(ax:(Region.ready md ops l).contains i=true:=by kernel_rfl)(fH:reach md ops ops.size L i=true:=by kernel_rfl)(ao:z7 md ops l=true:=by kernel_rfl)(Bi:l.getD L true=false:=by rfl)(jz:∀c a w,Q (.panic c) (a.put (some d) v) w->Q (.panic c) a w:=by exact λ_ _ _ h=>h)(hw:Region.wanted gm (yielded ops a.tmps)=true:=by rfl)(hy:∀w,S w->(execOp a.eval gm).run P w=.ok (.value v) w:=by intro w iA;(try dsimp only at iA);go_simp;(first|done|with_reducible rfl))(h:q->rT P md ops Q S L n (l.setIfInBounds i true) (a.put (some d) v) w:=by intro k;(try simp only[Act.put,List.setIfInBounds_toArray,List.set_cons_zero,List.set_cons_succ]);exact k):rT P md ops Q S L (n+1) l a w:=
 YO i (some d) hs bc ax fH ao Bi jz ⟨_,aK,aD,.inl ⟨hw,hy⟩⟩ a8 (h k)
def Ei(i:Nat){d:Nat}(f:∀{w},S w->A w)(k:q)(a8:S w:=by exact a7)(aK:ops[i]?=some gm:=by rfl)(aD:gm.dst=some d:=by rfl)(hs:Region.noSelect ops=true:=by kernel_rfl)(bc:Region.free md ops l i=true:=by kernel_rfl)(ax:(Region.ready md ops l).contains i=true:=by kernel_rfl)(fH:reach md ops ops.size L i=true:=by kernel_rfl)(ao:z7 md ops l=true:=by kernel_rfl)(Bi:l.getD L true=false:=by rfl)(jz:∀c a w,Q (.panic c) (a.put (some d) v) w->Q (.panic c) a w:=by exact λ_ _ _ h=>h)(hw:Region.wanted gm (yielded ops a.tmps)=true:=by rfl)(hy:(∀{w},S w->A w)->∀w,S w->(execOp a.eval gm).run P w=.ok (.value v) w:=by intro f w iA;have dV:=f iA;(try dsimp only at dV);go_simp;(first|done|with_reducible rfl))(h:q->rT P md ops Q S L n (l.setIfInBounds i true) (a.put (some d) v) w:=by intro k;(try simp only[Act.put,List.setIfInBounds_toArray,List.set_cons_zero,List.set_cons_succ]);exact k):rT P md ops Q S L (n+1) l a w:=
 YO i (some d) hs bc ax fH ao Bi jz ⟨_,aK,aD,.inl ⟨hw,hy f⟩⟩ a8 (h k)
def kH(i:Nat){d:Nat}(f:∀{w},S w->A w)(k:q)(a8:S w:=by exact a7)(aK:ops[i]?=some gm:=by rfl)(aD:gm.dst=some d:=by rfl)(hs:Region.noSelect ops=true:=by kernel_rfl)(bc:Region.free md ops l i=true:=by kernel_rfl)(ax:(Region.ready md ops l).contains i=true:=by kernel_rfl)(fH:reach md ops ops.size L i=true:=by kernel_rfl)(ao:z7 md ops l=true:=by kernel_rfl)(Bi:l.getD L true=false:=by rfl)(jz:∀c a w,Q (.panic c) (a.put (some d) v) w->Q (.panic c) a w:=by exact λ_ _ _ h=>h)(hw:Region.wanted gm (yielded ops a.tmps)=true:=by rfl)(hy:(∀{w},S w->A w)->∀w,S w->(execOp a.eval gm).run P w=.ok (.value v) w:=by intro f w iA;have bq:=f iA;clear f;(try dsimp only at bq);(try have dV:=aI (o:=0) bq rfl);(try have bS:=aI (o:=1) bq rfl);(try have bE:=aI (o:=2) bq rfl);(try have eV:=aI (o:=3) bq rfl);(try have gU:=aI (o:=4) bq rfl);(try have kD:=aI (o:=5) bq rfl);(try have l5:=aI (o:=6) bq rfl);(try have lO:=aI (o:=7) bq rfl);(try have wX:=aI (o:=8) bq rfl);(try have CD:=aI (o:=9) bq rfl);(try have OJ:=aI (o:=10) bq rfl);(try have af6:=aI (o:=11) bq rfl);(try have af7:=aI (o:=12) bq rfl);(try have af8:=aI (o:=13) bq rfl);clear bq;go_simp;(first|done|with_reducible rfl))(h:q->rT P md ops Q S L n (l.setIfInBounds i true) (a.put (some d) v) w:=by intro k;(try simp only[Act.put,List.setIfInBounds_toArray,List.set_cons_zero,List.set_cons_succ]);exact k):rT P md ops Q S L (n+1) l a w:=
 YO i (some d) hs bc ax fH ao Bi jz ⟨_,aK,aD,.inl ⟨hw,hy f⟩⟩ a8 (h k)
end
end
def zc{K:Act->aC->Prop}{a:Act}{d y6:Option Tmp}{v:Value}(aD:y6=d)(h:K (a.put d v) w):K (a.put y6 v) w:=aD▸h
def fx.j8{B:Nat}{a:bk}{c:Nat}{cs:Array Value}{t:TypeId}(h:fx w base a n c ps)(aa:w.heap[B]?=some (.cells cs t fr))(aW:66≠t)(ae:154≠t)(ak:34≠t)(aM:77≠t)(al:aG (λx=>x=B) w w'):fx w' base a n c ps:=
 ⟨al.bI h.cg (h.cg.eQ aa aW),λp aV=>(h.ct p aV).j8 aa ae ak aM al⟩
def CE{S:ff}{R:Nat}(h:aG S w w')(bC:S R\/(w:Nat)<=R)(v0 v1 v2 v3:Value):aG S w ((((w'.setCell (R,0) v0).setCell (R,1) v1).setCell (R,2) v2).setCell (R,3) v3):=
 (((h.setCell (R,0) bC v0).setCell (R,1) bC v1).setCell (R,2) bC v2).setCell (R,3) bC v3
def K9{R:Nat}{cT c1 c2 da:Value}{t:TypeId}(h:w.heap[R]?=some (.cells #[cT,c1,c2,da] t fr))(v0 v1 v2 v3:Value):((((w.setCell (R,0) v0).setCell (R,1) v1).setCell (R,2) v2).setCell (R,3) v3).heap[R]?=some (.cells #[v0,v1,v2,v3] t fr):=
 er (er (er (er h 0 v0) 1 v1) 2 v2) 3 v3
def YP(d:eR)(w:World)(e:Ending)(w':World):Prop:=
 ∃s ag ps,e=.returned (.agg #[ad s.cO,s.l,s.p,s.b])/\rf w' w.heap.size s d ag ps/\Z w w'
theorem as6 (s:lZ) (d:eR) (ag ps:List bO) (w:World) (bb:sC w s d ag ps) (b8:Ol d):
  aR 310 #[s] w (YP d w):=by
 obtain⟨cO,⟨fG,ei,lc⟩,⟨cD,eL,fw⟩,⟨ha,h2,gG⟩⟩:=s
 dsimp only
 obtain⟨ca,bJ,bF,bG,bK⟩:=info_parts AM
 replace bJ:=I bJ;replace bF:=I bF;replace bG:=I bG;replace bK:=I bK
 obtain⟨dc,eo,dB,ej,fe⟩:=info_parts zE
 replace eo:=I eo;replace dB:=I dB;replace ej:=I ej;replace fe:=I fe
 have pH:h2<=200000:=by have:=bb.b.neq;have:=b8.cA;dsimp only at*;omega
 have eH:=I (show ∀p,p∈ag->mo p.d from λp aV=>(b8.ag _ (afg bb.j9 aV)).rH)
 have La:=I (show ∀p,p∈ps->mo p.d from λp aV=>(b8.ps _ (afg bb.ma aV)).rH)
 have ze:=I (show ag.length<=200000 from by rw[<-List.length_map (f:=(·.d)),bb.j9];exact b8.xQ)
 have CF:=I (show ps.length<=200000 from by rw[<-List.length_map (f:=(·.d)),bb.ma];exact b8.jE)
 have zL:ei=ag.length:=bb.l.aF.neq
 have z8:eL=ps.length:=bb.p.aF.neq
 subst zL z8
 replace b8:=I b8;replace bb:=I bb
 go_enter func310,ntmps310
 go_upto_region 1 with fail
 go_cut [3] (λv fD=>∃(q:Nat) (cK:Option Addr) (dv c1:Nat),v=.pointer (some (q,0))/\Hid (fD.heap[q]?=some (.cells #[ad cO,aH,aH,aq cK dv c1] 44))/\(w:Nat)+1<q/\Hid (Own fD w 54 3 aA.cs cK dv c1 d.ay)/\Hid (Z ((w.alloc (.cells #[ad cO,aq fG ag.length lc,aq cD ps.length fw,aq ha h2 gG] 44)).alloc lB) fD))
 case first=>
  have gn:((w.alloc (.cells #[ad cO,aq fG ag.length lc,aq cD ps.length fw,aq ha h2 gG] 44)).alloc lB).heap[(w:Nat)]?=some (.cells #[ad cO,aq fG ag.length lc,aq cD ps.length fw,aq ha h2 gG] 44):=hT
  have q1:((w.alloc (.cells #[ad cO,aq fG ag.length lc,aq cD ps.length fw,aq ha h2 gG] 44)).alloc lB).heap[(w:Nat)+1]?=some (lB:Obj):=hT
  have ago:Z w ((w.alloc (.cells #[ad cO,aq fG ag.length lc,aq cD ps.length fw,aq ha h2 gG] 44)).alloc lB):=X
  have n2:((w.alloc (.cells #[ad cO,aq fG ag.length lc,aq cD ps.length fw,aq ha h2 gG] 44)).alloc lB).heap.size=(w:Nat)+1+1:=by simp
  generalize y4:((w.alloc (.cells #[ad cO,aq fG ag.length lc,aq cD ps.length fw,aq ha h2 gG] 44)).alloc lB)=w1 at gn q1 ago n2 ⊢
  have oX:=I ago
  replace n2:=I n2
  refine Bh 7 (λw'=>w'.heap[(w:Nat)]?=some (.cells #[ad cO,aq fG ag.length lc,aq cD ps.length fw,aq ha h2 gG] 44)) (λa7=>?_) (by(try dsimp only);exact Z.aB (W:=w1) X gn)
  refine gO 0 ?_
  refine lQ 1 id ?_
  refine gO 2 ?_
  refine lQ 3 id ?_
  refine x3 (rs:= [4,6]) bV (by simp) ?_
  refine Io rfl (λK aL=>?_) (Io rfl (λK aL=>?_) K5)
  ·refine Wx (c:=aA.cs) (ys0:= []) (ys:=d.ay) rfl (.const aH) (.tmp 11) 31 54 rfl dc _ 24 underlying31 eo dB ej fe rfl af rfl w1 X (Own.nil _ _ _ aA.bH) rfl (bb.b.ext X) aA.cN J af ?_;intro cK dv c1 aN hY jt bw p4;have dn:=I jt;have bx:=I bw;have Gj:h2=dv:=J;subst Gj;clear jt bw p4 hY
   refine zc (d:=some 12) rfl ?_
   refine aL _ _ (λ_=>(by(try dsimp only);exact Z.aB (W:=w1) X gn)) λhH=>eY ?_;have a7:=hH af
   refine gO 5 ?_
   refine kW 6 λK aL=>?_
   go_simp
   refine aL _ _ (λ_=>(by(try dsimp only);exact Z.aB (W:=w1) X gn)) λhH=>eY ?_;have a7:=hH af
   refine kW 7 λK aL=>?_
   go_simp
   refine aL _ _ (absurd rfl ·) λ_=>eY ?_
   refine K6 bV ?_ _
   go_wp2_with fail
   go_meet
   exact⟨_,cK,_,c1,rfl,I hT,by have:=bx.size;have:=n2.out;omega,((dn.mono (by have:=n2.out;omega)).ext X),by rw[y4];exact X⟩
  ·go_simp
   refine aL _ _ (λ_=>(by(try dsimp only);exact Z.aB (W:=w1) X gn)) λhH=>eY ?_;have a7:=hH af
   refine kW 4 λK aL=>?_
   refine Wx (c:=aA.cs) (ys0:= []) (ys:=d.ay) rfl (.const aH) (.tmp 11) 31 54 rfl dc _ 24 underlying31 eo dB ej fe rfl af rfl _ (Z.refl _) (Own.nil _ _ _ aA.bH) rfl (bb.b.ext X) aA.cN J af ?_;intro cK dv c1 aN hY jt bw p4;have dn:=I jt;have bx:=I bw;have Gj:h2=dv:=J;subst Gj;clear jt bw p4 hY
   have mT:=bx.aB (fi (w:=w1.drew) (o:=(lB:Obj)) (n:=(w1:Nat)) (by simp))
   obtain⟨p20,p21,p22,p23,arq⟩:=Ci mT
   refine zc (d:=some 12) rfl ?_
   refine aL _ _ (λ_=>(by(try dsimp only);exact Z.aB (W:=w1) X gn)) λhH=>eY ?_;have a7:=hH af
   refine gO 5 ?_
   refine kW 7 λK aL=>?_
   go_simp
   refine aL _ _ (absurd rfl ·) λ_=>eY ?_
   refine K6 bV ?_ _
   go_wp2_with fail
   go_meet
   have agp:=er (er (er (er mT 0 (ad cO)) 1 aH) 2 aH) 3 (aq cK h2 c1)
   refine⟨_,cK,h2,c1,rfl,agp,by have:=n2.out;omega,?_,?_⟩
   ·have aK:=(dn.mono (aDn:=(w:Nat)) (by simp;have:=n2.out;omega))
    exact(((aK.nh mT af (j:=0) (ad cO)).nh (er mT 0 _) af (j:=1) aH).nh (er (er mT 0 _) 1 _) af (j:=2) aH).nh (er (er (er mT 0 _) 1 _) 2 _) af (j:=3) (aq cK h2 c1)
   ·rw[y4]
    have U:Z w1 aN:=X
    exact(((U.setCell (Nat.le_refl _) _).setCell (Nat.le_refl _) _).setCell (Nat.le_refl _) _).setCell (Nat.le_refl _) _
 case rest=>
  obtain⟨q,cK,dv,c1,rfl,bq,fM,aE,U⟩:=hcut
  have oX:((w.alloc (.cells #[ad cO,aq fG ag.length lc,aq cD ps.length fw,aq ha h2 gG] 44)).alloc lB).heap[(w:Nat)]?=some (.cells #[ad cO,aq fG ag.length lc,aq cD ps.length fw,aq ha h2 gG] 44):=hT
  have hV:((w.alloc (.cells #[ad cO,aq fG ag.length lc,aq cD ps.length fw,aq ha h2 gG] 44)).alloc lB).heap[(w:Nat)+1]?=some (lB:Obj):=hT
  have bx:Z w ((w.alloc (.cells #[ad cO,aq fG ag.length lc,aq cD ps.length fw,aq ha h2 gG] 44)).alloc lB):=X
  have n2:((w.alloc (.cells #[ad cO,aq fG ag.length lc,aq cD ps.length fw,aq ha h2 gG] 44)).alloc lB).heap.size=(w:Nat)+1+1:=by simp
  generalize y4:((w.alloc (.cells #[ad cO,aq fG ag.length lc,aq cD ps.length fw,aq ha h2 gG] 44)).alloc lB)=w1 at oX hV bx n2 U
  replace bx:=I bx;replace oX:=I oX;replace hV:=I hV;replace n2:=I n2
  have gh:=U.aB oX
  have dr:=aI (o:=1) gh rfl
  go_wp2_with fail
  go_loopg [17] (ag.length) (λg st wr=>∃(k:Nat) (aw:Option Addr) (m aQ:Nat) (ys:List bO),g+k=ag.length/\st=.int .i64 k/\Hid (wr.heap[q]?=some (.cells #[ad cO,aq aw m aQ,aH,aq cK dv c1] 44))/\Hid (fx wr w1 aw m aQ ys/\ys.map (·.d)=(ag.take k).map (·.d))/\Hid (Own wr w 54 3 aA.cs cK dv c1 d.ay)/\Hid (Z w1 wr))
  case atStart=>exact⟨0,none,0,0,[],J,rfl,bq,⟨fx.nil _ _,rfl⟩,aE,U⟩
  case round=>
   obtain⟨k,aw,m,aQ,ys,bu,rfl,OO,ch,OP,mw⟩:=hrel
   by_cases hk:k<ag.length
   ·obtain⟨b,o,rfl,ao⟩:=bb.l.aF.get k hk
    obtain⟨cT,agq,c2,da,dJ,dw,eC,eK⟩:=pd (w:=wr) (b:=b) (o:=o+k*8) (x:=ag[k].x) (λj v aJ=>mw.ah (bx.ah (ao j v aJ)))
    have Ej:(k:Int)<(ag.length:Int):=J
    have sx:(0:Int)<=(k:Int):=J
    have sB:=ze.out
    have bL:=bb.l.aF.len
    replace bL:=I bL
    clear ao
    go_wp2_with fail
    have z0:=fi (w:=wr) (o:=(ag[k].x:Obj)) (n:=(wr:Nat)) rfl
    have bz:Z wr (wr.alloc ag[k].x):=X
    have lj:(wr.alloc ag[k].x).heap.size=(wr:Nat)+1:=by simp
    obtain⟨z,eM⟩:∃z,z=(wr:Nat):=⟨_,rfl⟩
    generalize pq:(wr.alloc ag[k].x)=aN at z0 bz lj ⊢
    rw[<-eM]at z0 lj ⊢
    have dP:=bz.aB OO
    have ud:=I (show m=k from by have ae:=ch.out.1.cg.neq;have ak:=congrArg List.length ch.out.2;rw[List.length_map,List.length_map,List.length_take]at ak;omega)
    replace eM:=I eM;replace lj:=I lj;replace bz:=I bz
    clear pq
    refine Bh 7 (λw'=>w'.heap[q]?=some (.cells #[ad cO,aq aw m aQ,aH,aq cK dv c1] 44)/\w'.heap[z]?=some (ag[k].x:Obj)) (λa7=>?_) (by(try dsimp only);exact⟨Z.aB (W:=aN) X dP,Z.aB (W:=aN) X z0⟩)
    refine gO 0 ?_
    refine lQ 1 (·.1) ?_
    refine lQ 2 (·.2) ?_
    refine kW 3 λK aL=>?_
    go_simp
    go_at_call 138
    refine(SX ag[k].x ag[k].d _ ((bb.l.ct _ (List.getElem_mem hk)).ext X) (eH _ (List.getElem_mem hk))).mono ?_
    rintro e aY⟨bX,rfl,ki,c9⟩
    replace ki:=I ki;replace c9:=I c9
    refine aL _ _ (λ_=>(by(try dsimp only);exact⟨Z.aB (W:=aN) X dP,Z.aB (W:=aN) X z0⟩)) λhH=>eY ?_;have a7:=hH af
    refine kW 4 λK aL=>?_
    go_simp
    refine aL _ _ (λ_=>(by(try dsimp only);exact⟨Z.aB (W:=aN) X dP,Z.aB (W:=aN) X z0⟩)) λhH=>eY ?_;have a7:=hH af
    refine kW 5 λK aL=>?_
    refine vE (ys:=ys) (c:=bO.cs) rfl (.tmp 22) (.tmp 25) 42 rfl ca _ 96 underlying42 bJ bF bG bK rfl af rfl (ch.out.1.cg.ext X) ⟨bX,ag[k].d⟩ _ rfl (fc (cs:=bO.cs ⟨bX,ag[k].d⟩) rfl) (bO.cN _) (by have:=ud.out;have:=ze.out;omega) af (Z.size X) ?_
    intro g dL b3 dW cv
    have eV:=ch.out.1.ext (w':=aY.alloc bX) X
    have dE:Z aN (aY.alloc bX):=X
    have iw:=cv.aB (dE.aB dP) (λai aj k=>eV.cg.eQ (dE.aB dP) af ai aj k)
    have z4:=cv.aB (dE.aB z0) (λai aj k=>by have:=(ch.out.1.cg.lt ai aj).2;have:=eM.out;omega)
    have sr:=eV.ri cv dW ((ki.mono (aDn:=(w1:Nat)) (Z.size X)).ext X)
    have wZ:=cv.AB eV.cg (OP.ext (w':=aY.alloc bX) X) af
    replace sr:=I sr;replace wZ:=I wZ
    have rU:=I iw
    replace cv:=I cv;replace dW:=I dW
    clear eV
    refine zc (d:=some 26) rfl ?_
    refine aL _ _ (λ_=>(by(try dsimp only);exact⟨iw,z4⟩)) λhH=>eY ?_;have a7:=hH af
    refine gO 6 ?_
    obtain⟨-,Tm,Tn⟩:=Sj iw
    refine kW 7 λK aL=>?_
    go_simp
    refine aL _ _ (absurd rfl ·) λ_=>eY ?_
    refine K6 bV ?_ _
    go_wp2_with fail
    go_roundg (gk - 1)
    case measure=>omega
    case rel=>
     refine⟨k+1,_,_,_,ys++[⟨bX,ag[k].d⟩],J,by go_num,er rU 1 _,⟨sr.aB rU af af af af 1 _,?_⟩,wZ.nh rU af _,?_⟩
     ·rw[List.map_append,ch.out.2,List.take_succ_eq_append_getElem hk,List.map_append];rfl
     ·exact(cv.ext (ch.out.1.cg.ext (w':=aY.alloc bX) X) (Nat.le_refl _) (show Z w1 _ from X)).setCell (by have:=n2.out;show(w1:Nat)<=q;omega) _
   ·have b9:ag.take k=ag:=List.take_of_length_le J
    rw[b9]at ch
    clear b9 bu
    obtain⟨cL,bS⟩:∃v,v=aw:=⟨_,rfl⟩
    obtain⟨m1,bE⟩:∃v,v=m:=⟨_,rfl⟩
    obtain⟨kf,eV⟩:∃v,v=aQ:=⟨_,rfl⟩
    obtain⟨agu,gU⟩:∃v,v=ys:=⟨_,rfl⟩
    subst bS bE eV gU
    have gh:=mw.aB oX
    have eF:=aI (o:=2) gh rfl
    have as7:=I ch.out.2
    go_wp2_with fail
    go_loopg [32] (ps.length) (λg st wr=>∃(k:Nat) (aw:Option Addr) (m aQ:Nat) (ys:List bO),g+k=ps.length/\st=.int .i64 k/\Hid (wr.heap[q]?=some (.cells #[ad cO,aq cL m1 kf,aq aw m aQ,aq cK dv c1] 44))/\Hid ((fx wr w1 cL m1 kf agu/\oo aw cL)/\fx wr w1 aw m aQ ys/\ys.map (·.d)=(ps.take k).map (·.d))/\Hid (Own wr w 54 3 aA.cs cK dv c1 d.ay)/\Hid (Z w1 wr))
    case atStart=>exact⟨0,none,0,0,[],J,rfl,OO,⟨⟨ch.out.1,λx y U _=>by cases U⟩,fx.nil _ _,rfl⟩,OP,mw⟩
    case round=>
     obtain⟨k,aw,m,aQ,ys,bu,rfl,OO,Ek,OP,mw⟩:=hrel
     have El:=I Ek.out.1
     have ch:=I Ek.out.2
     clear Ek
     by_cases hk:k<ps.length
     ·obtain⟨b,o,rfl,ao⟩:=bb.p.aF.get k hk
      obtain⟨cT,agq,c2,da,dJ,dw,eC,eK⟩:=pd (w:=wr) (b:=b) (o:=o+k*8) (x:=ps[k].x) (λj v aJ=>mw.ah (bx.ah (ao j v aJ)))
      have Ej:(k:Int)<(ps.length:Int):=J
      have sx:(0:Int)<=(k:Int):=J
      have sB:=CF.out
      have bL:=bb.p.aF.len
      replace bL:=I bL
      clear ao
      go_wp2_with fail
      have z0:=fi (w:=wr) (o:=(ps[k].x:Obj)) (n:=(wr:Nat)) rfl
      have bz:Z wr (wr.alloc ps[k].x):=X
      have lj:(wr.alloc ps[k].x).heap.size=(wr:Nat)+1:=by simp
      obtain⟨z,eM⟩:∃z,z=(wr:Nat):=⟨_,rfl⟩
      generalize pq:(wr.alloc ps[k].x)=aN at z0 bz lj ⊢
      rw[<-eM]at z0 lj ⊢
      have dP:=bz.aB OO
      have ud:=I (show m=k from by have ae:=ch.out.1.cg.neq;have ak:=congrArg List.length ch.out.2;rw[List.length_map,List.length_map,List.length_take]at ak;omega)
      replace eM:=I eM;replace lj:=I lj;replace bz:=I bz
      clear pq
      refine Bh 7 (λw'=>w'.heap[q]?=some (.cells #[ad cO,aq cL m1 kf,aq aw m aQ,aq cK dv c1] 44)/\w'.heap[z]?=some (ps[k].x:Obj)) (λa7=>?_) (by(try dsimp only);exact⟨Z.aB (W:=aN) X dP,Z.aB (W:=aN) X z0⟩)
      refine gO 0 ?_
      refine lQ 1 (·.1) ?_
      refine lQ 2 (·.2) ?_
      refine kW 3 λK aL=>?_
      go_simp
      go_at_call 138
      refine(SX ps[k].x ps[k].d _ ((bb.p.ct _ (List.getElem_mem hk)).ext X) (La _ (List.getElem_mem hk))).mono ?_
      rintro e aY⟨bX,rfl,ki,c9⟩
      replace ki:=I ki;replace c9:=I c9
      refine aL _ _ (λ_=>(by(try dsimp only);exact⟨Z.aB (W:=aN) X dP,Z.aB (W:=aN) X z0⟩)) λhH=>eY ?_;have a7:=hH af
      refine kW 4 λK aL=>?_
      go_simp
      refine aL _ _ (λ_=>(by(try dsimp only);exact⟨Z.aB (W:=aN) X dP,Z.aB (W:=aN) X z0⟩)) λhH=>eY ?_;have a7:=hH af
      refine kW 5 λK aL=>?_
      refine vE (ys:=ys) (c:=bO.cs) rfl (.tmp 37) (.tmp 40) 42 rfl ca _ 96 underlying42 bJ bF bG bK rfl af rfl (ch.out.1.cg.ext X) ⟨bX,ps[k].d⟩ _ rfl (fc (cs:=bO.cs ⟨bX,ps[k].d⟩) rfl) (bO.cN _) (by have:=ud.out;have:=CF.out;omega) af (Z.size X) ?_
      intro g dL b3 dW cv
      have eV:=ch.out.1.ext (w':=aY.alloc bX) X
      have dE:Z aN (aY.alloc bX):=X
      have iw:=cv.aB (dE.aB dP) (λai aj k=>eV.cg.eQ (dE.aB dP) af ai aj k)
      have z4:=cv.aB (dE.aB z0) (λai aj k=>by have:=(ch.out.1.cg.lt ai aj).2;have:=eM.out;omega)
      have d4:=cv.gK (El.out.1.cg.ext (w':=aY.alloc bX) X) El.out.2
      have f4:=(El.out.1.ext (w':=aY.alloc bX) X).grow cv eV.cg El.out.2 af af af
      have agv:=I (And.intro f4 d4)
      have sr:=eV.ri cv dW ((ki.mono (aDn:=(w1:Nat)) (Z.size X)).ext X)
      have wZ:=cv.AB eV.cg (OP.ext (w':=aY.alloc bX) X) af
      replace sr:=I sr;replace wZ:=I wZ
      have rU:=I iw
      replace cv:=I cv;replace dW:=I dW
      clear eV d4 f4
      refine zc (d:=some 41) rfl ?_
      refine aL _ _ (λ_=>(by(try dsimp only);exact⟨iw,z4⟩)) λhH=>eY ?_;have a7:=hH af
      refine gO 6 ?_
      obtain⟨-,-,Tm,Tn⟩:=sn iw
      refine kW 7 λK aL=>?_
      go_simp
      refine aL _ _ (absurd rfl ·) λ_=>eY ?_
      refine K6 bV ?_ _
      go_wp2_with fail
      go_roundg (gk - 1)
      case measure=>omega
      case rel=>
       refine⟨k+1,_,_,_,ys++[⟨bX,ps[k].d⟩],J,by go_num,er rU 2 _,⟨⟨agv.out.1.aB rU af af af af 2 _,agv.out.2⟩,sr.aB rU af af af af 2 _,?_⟩,wZ.nh rU af _,?_⟩
       ·rw[List.map_append,ch.out.2,List.take_succ_eq_append_getElem hk,List.map_append];rfl
       ·exact(cv.ext (ch.out.1.cg.ext (w':=aY.alloc bX) X) (Nat.le_refl _) (show Z w1 _ from X)).setCell (by have:=n2.out;show(w1:Nat)<=q;omega) _
     ·have b9:ps.take k=ps:=List.take_of_length_le J
      rw[b9]at ch
      clear b9 bu
      obtain⟨lN,e3,ju,oP⟩:=vx OO
      have u0:=mw.aB hV
      obtain⟨u1,u2,u3,u4,Aw⟩:=Ci u0
      go_wp2_with fail
      have f0:=K9 u0 (ad cO) (aq cL m1 kf) (aq aw m aQ) (aq cK dv c1)
      have iy:=CE (S:=λx=>x=(w:Nat)+1) (aG.refl _ wr) (R:=(w:Nat)+1) (.inl rfl) (ad cO) (aq cL m1 kf) (aq aw m aQ) (aq cK dv c1)
      obtain⟨z0,cU,z2,z3⟩:=vx f0
      have YT:=n2.out
      refine bodyPost_ret (v:=.agg #[ad cO,aq cL m1 kf,aq aw m aQ,aq cK dv c1]) (by simp[results,results310,go_sem,z0,cU,z2,z3]) rfl ⟨⟨cO,⟨cL,m1,kf⟩,⟨aw,m,aQ⟩,⟨cK,dv,c1⟩⟩,agu,ys,rfl,⟨bb.cO,(El.out.1.j8 u0 af af af af iy).mono J,?_,(ch.out.1.j8 u0 af af af af iy).mono J,?_,iy.bI OP (OP.eQ u0 af),λx y U hy e=>El.out.2 y x hy U e.symm⟩,iy.ext (W:=w) (λb aa=>by subst aa;omega) X⟩
      ·rw[as7.out];exact bb.j9
      ·rw[ch.out.2];exact bb.ma
section
def YU{b:Nat}{t:TypeId}{fr:Nat×Nat}:∀(vs:List Value) (o:Nat) (w:aC) (cur:Array Value),w.heap[b]?=some (.cells cur t fr)->
  ∃aDo,(w.setCells b o vs).heap[b]?=some (.cells aDo t fr)/\aDo.size=cur.size/\aDo.toList.take o=cur.toList.take o
 | [],_,_,cur,h=>⟨cur,h,rfl,rfl⟩
 |v::vs,o,w,cur,h=>by
  obtain⟨aDo,ae,ak,aM⟩:=YU vs (o+1) (w.setCell (b,o) v) _ (er h o v);refine⟨aDo,ae,by rw[ak,RJ],?_⟩;have e:∀l:List Value,l.take o=(l.take (o+1)).take o:=λl=>by rw[List.take_take];congr 1;omega
  rw[e,aM,<-e,WK];exact List.take_set_of_le (bA _)
def aG.setCells{S:ff}{w:aC}{b:Nat}(aa:S b):∀(vs:List Value) (o:Nat) (w':aC),aG S w w'->aG S w (w'.setCells b o vs)
 | [],_,_,h=>h
 |v::vs,o,_,h=>aG.setCells aa vs (o+1) _ (h.setCell (b,o) (.inl aa) v)
def agw{P:Program}(w:aC)(t e ty:TypeId)(z:Value)(a6:P.underlying t=some (.slice e))(bo:∀w,(zeroValue e).run P w=.ok z w)(ae:∀u,u∈z.cells.toList->u.oneCell'=true)(b o n c:Nat)(an:0<n)(ao:∀j,j<n*z.cells.size->(w.cell? (b,o+j)).isSome=true)(bc:∀j,w.frozen? ⟨b,j,none⟩=false):
  (Builtin.clear_ #[t] ty #[.slice (some (b,o)) n c]).run P w=.ok (.tuple #[]) (w.setCells b o (Builtin.zeroCells z.cells n).toList):=by
 have aT:(Builtin.zeroCells z.cells n).toList.length=n*z.cells.size:=by simp[Builtin.zeroCells]
 have ec:=run_storeCells_cells (P:=P) b o (Builtin.zeroCells z.cells n).toList 0 w (by rw[aT];simpa using ao) (λj _=>bc _) (λv FD=>by
  unfold Builtin.zeroCells at FD;rw[Array.toList_map,kN]at FD;obtain⟨i,aO,rfl⟩:=FD;rcases yO z.cells.size with aW|aW
  ·rw[aW,Nat.mul_zero]at aO;simp at aO
  ·have:i % z.cells.size<z.cells.size:=Nat.mod_lt _ aW;rw[getElem!_pos z.cells _ this]
   exact ae _ (by simp))
 simp only[uY]at ec;obtain⟨m,rfl⟩:∃m,n=m+1:=⟨n - 1,J⟩;simp[Builtin.clear_,run_underlying a6,bo,ec]
section
variable {α:Type}{w w':World}{base g:Nat}{e:TypeId}{sz:Nat}{c:α->List Value}{n cap:Nat}{ys:List α}
def Own.To(h:Own w base e sz c aw n cap ys)(an:0<n):∃g,aw=some ⟨g,0,.none⟩:=Own.acJ aw h (by rw[<-h.neq];exact an)
def agx(hw:∀y,(c y).length=sz)(ys:List α):∀k,(ys.flatMap c).take (k*sz)=(ys.take k).flatMap c:=by
 induction ys with
 |nil=>intro k;simp
 |cons y ys cI=>
  intro k;cases k with
  |zero=>simp
  |succ k=>
   rw[nI,List.take_succ_cons,nI,<-cI k,List.take_append,hw y,show(k+1)*sz - sz=k*sz by rw[Nat.succ_mul];omega,ir (by rw[hw y,Nat.succ_mul];omega)]
def Own.agy(h:Own w base e sz c (some ⟨g,0,.none⟩) n cap ys)(k:Nat)(hk:k<=n){aDo:Array Value}(ao:∀cur,w.heap[g]?=some (.cells cur e (0,0))->w'.heap[g]?=some (.cells aDo e (0,0))/\aDo.size=cur.size/\aDo.toList.take (k*sz)=cur.toList.take (k*sz)):
  Own w' base e sz c (some ⟨g,0,.none⟩) k cap (ys.take k):=by
 obtain⟨cur,bu,jH,ae,ak,aM,bn⟩:=h.aB;obtain⟨c1,c2,da⟩:=ao cur bu;have kC:k*sz<=n*sz:=R9 _ hk;have aT:(ys.take k).length=k:=by rw[o9,<-h.neq];omega
 refine⟨⟨?_,.inr ⟨g,cap,aDo,rfl,jH,c1,eh hk ae,ak,by rw[c2];exact aM,?_⟩⟩,aT.symm,h.bH⟩
 ·have:∀l:List α,(l.flatMap c).length=l.length*sz:=λl=>by
   induction l with
   |nil=>simp
   |cons y l cI=>rw[nI,cH,cI,h.bH,mv,Nat.succ_mul];omega
  rw[this,aT]
 ·rw[da,show cur.toList.take (k*sz)=(cur.toList.take (n*sz)).take (k*sz) by rw[List.take_take];congr 1;omega,bn,agx h.bH]
def Own.aDq(h:Own w base e sz c (some ⟨g,0,.none⟩) n cap ys)(k:Nat){y:α}(rD:α)(hk:ys[k]?=some y)(j:Nat)(aJ:j<sz)(v:Value)(hy:c rD=(c y).set j v):
  Own (w.setCell ⟨g,k*sz+j,.none⟩ v) base e sz c (some ⟨g,0,.none⟩) n cap (ys.set k rD)/\(ys.set k rD)[k]?=some rD:=
 ⟨h.set k y rD hk j aJ v hy,by obtain⟨aT,_⟩:=vv.1 hk;exact List.getElem?_set_self aT⟩
end
end
def agz(x:b1)(i:aA)(aQ:Nat)(w:aC)(aW:w.cell? (aQ,0)=some ↑i.b)(ae:w.cell? (aQ,1)=some ↑(ad i.l))(ak:w.cell? (aQ,2)=some ↑(ad i.s)):
  aR 203 #[x,aQ] w (cM (.bool (cf x.id i)) w):=by
 have heq:=Dy x.id.b x.id.l x.id.s i.b i.l i.s;refine RW ?_;intro eI bQ bY;go_enter func203,ntmps203;go_wp2;go_ret;refine⟨rfl,?_⟩;exact X
def as8{p:α->Bool}{xs:List α}(h:¬xs.any p=false):∃(k:Nat) (hk:k<xs.length),(xs.take k).any p=false/\p xs[k]=true:=by
 simp only[Bool.not_eq_false,Az]at h;have fM:xs.findIdx p<xs.length:=List.findIdx_lt_length_of_exists h;refine⟨xs.findIdx p,fM,?_,List.findIdx_getElem⟩;rw[JS];intro x U;obtain⟨j,aJ,rfl⟩:=List.mem_iff_getElem.1 U;rw[o9]at aJ;rw[List.getElem_take];simpa using List.not_of_lt_findIdx (show j<xs.findIdx p by omega)
def as9{c:α->List Value}{ys:List α}(h:Own w base e sz c (some ⟨g,0,.none⟩) n cap ys)(o:Nat)(aK:o<n*sz):(w.cell? (g,o)).isSome=true:=by
 obtain⟨cur,bu,_,ae,_,aM,_⟩:=h.aB;have:o<cur.size:=by rw[aM];exact gw aK (R9 _ ae)
 simp[World.cell?,bu,this]
def Own.Tp{ys:List bO}(h:Own w base 66 8 bO.cs (some ⟨g,0,.none⟩) n cap ys)(k:Nat)(hk:k<ys.length)(y:bO):
  Own ((((((((w.setCell ⟨g,k*8,.none⟩ y.x.k).setCell ⟨g,k*8+1,.none⟩ y.x.id.b).setCell ⟨g,k*8+2,.none⟩ (ad y.x.id.l)).setCell ⟨g,k*8+3,.none⟩ (ad y.x.id.s)).setCell ⟨g,k*8+4,.none⟩ y.x.c).setCell ⟨g,k*8+5,.none⟩ (ad y.x.u)).setCell ⟨g,k*8+6,.none⟩ y.x.f).setCell ⟨g,k*8+7,.none⟩ y.x.e)
   base 66 8 bO.cs (some ⟨g,0,.none⟩) n cap (ys.set k y):=by
 have dV:ys[k]?=some ys[k]:=fz hk;obtain⟨aW,bS⟩:=h.aDq k ⟨{ys[k].x with k:=y.x.k},y.d⟩ dV 0 af y.x.k rfl;obtain⟨ae,bE⟩:=aW.aDq k ⟨{ys[k].x with k:=y.x.k,id:={ys[k].x.id with b:=y.x.id.b}},y.d⟩ bS 1 af y.x.id.b rfl;obtain⟨ak,eV⟩:=ae.aDq k ⟨{ys[k].x with k:=y.x.k,id:={ys[k].x.id with b:=y.x.id.b,l:=y.x.id.l}},y.d⟩ bE 2 af (ad y.x.id.l) rfl;obtain⟨aM,gU⟩:=ak.aDq k ⟨{ys[k].x with k:=y.x.k,id:=y.x.id},y.d⟩ eV 3 af (ad y.x.id.s) rfl;obtain⟨bn,kD⟩:=aM.aDq k ⟨{ys[k].x with k:=y.x.k,id:=y.x.id,c:=y.x.c},y.d⟩ gU 4 af y.x.c rfl;obtain⟨cb,l5⟩:=bn.aDq k ⟨{ys[k].x with k:=y.x.k,id:=y.x.id,c:=y.x.c,u:=y.x.u},y.d⟩ kD 5 af (ad y.x.u) rfl;obtain⟨ey,lO⟩:=cb.aDq k ⟨{ys[k].x with k:=y.x.k,id:=y.x.id,c:=y.x.c,u:=y.x.u,f:=y.x.f},y.d⟩ l5 6 af y.x.f rfl;obtain⟨iZ,_⟩:=ey.aDq k y lO 7 af y.x.e rfl;simp only[List.set_set]at iZ;exact iZ
def Tq{S:ff}{R:Nat}(h:aG S w w')(o:Nat)(bC:S R\/(w:Nat)<=R)(v0 v1 v2 v3 v4 v5 v6 gy:Value):aG S w ((((((((w'.setCell (R,o) v0).setCell (R,o+1) v1).setCell (R,o+2) v2).setCell (R,o+3) v3).setCell (R,o+4) v4).setCell (R,o+5) v5).setCell (R,o+6) v6).setCell (R,o+7) gy):=
 (((((((h.setCell (R,o) bC v0).setCell (R,o+1) bC v1).setCell (R,o+2) bC v2).setCell (R,o+3) bC v3).setCell (R,o+4) bC v4).setCell (R,o+5) bC v5).setCell (R,o+6) bC v6).setCell (R,o+7) bC gy
def ata(w:aC):(zeroValue 66).run prog w=.ok (.agg #[ar,ar,au,au,ar,au,aH,aH]) w:=zeroValue66 w
def atb(aw:bk)(n cap base:Nat)(xs:List bO)(i:aA)(aQ:Nat)(w:aC)(H:Own w base 66 8 bO.cs aw n cap xs)(bB:w.heap[aQ]?=some (i:Obj))(Em:∀ai,aw=some ai->¬ai.block=aQ)(an:n<=1000000):
  aR 202 #[aq aw n cap,.func (.func 203) #[] #[aQ]] w λe w'=>∃m,e=.returned (aq aw m cap)/\Own w' base 66 8 bO.cs aw m cap (xs.filter (λp=> !cf p.x.id i))/\aG (λb=>∃ai,aw=some ai/\ai.block=b) w w':=by
 have oY:∀args w,(callFunc 203 args).run prog w=.ok (.enter 203 args) w:=λ_ _=>by kernel_rfl
 obtain rfl:=H.neq;replace H:=I H;replace bB:=I bB;replace Em:=I Em;go_enter func202,ntmps202;go_wp2_with fail;refine(ac9 aw xs.length cap (xs.map (·.x)) (λx=>cf x.id i) 203 ⟨aQ,0,none⟩ _ (H.aF.map (c:=b1.cs) (λp:bO=>p.x) (λ_=>rfl)) oY (λx U w' sK=>agz x i aQ w' (aI (o:=0) (sK.aB bB) rfl) (aI (o:=1) (sK.aB bB) rfl) (aI (o:=2) (sK.aB bB) rfl))).mono ?_;rintro e _⟨rfl,bx⟩;replace bx:=I bx;by_cases DL:(xs.map (·.x)).any (λx=>cf x.id i)=false
 ·have bS:qz (λx:b1=>cf x.id i) (xs.map (·.x))=-1:=(JT DL.symm).symm;have ef:Hid (xs.filter (λp=> !cf p.x.id i)=xs):=DE.2 (λp aV=>by rw[JS]at DL;have:=DL p.x (mJ aV);simpa using this);clear DL oY;rw[bS];go_wp2;go_ret;exact⟨xs.length,rfl,by rw[ef.out];exact H.ext bx,aG.of X⟩
 ·obtain⟨eI,sx,En,YV⟩:=as8 DL;have bS:qz (λx:b1=>cf x.id i) (xs.map (·.x))=(eI:Int):=(MJ sx En YV).symm;rw[cr]at sx;have ef:Hid ((xs.take eI).filter (λp=> !cf p.x.id i)=xs.take eI):=DE.2 (λp aV=>by rw[JS]at En;have:=En p.x (by rw[<-OC];exact mJ aV);simpa using this);have cy:=I (show cf xs[eI].x.id i=true from by simpa using YV);rw[bS];clear DL oY En YV bS;go_wp2_with fail;obtain⟨g,atc⟩:=H.To (show 0<xs.length by omega);subst atc;have H1:=I (H.ext bx);have cm:=I (bx.aB bB);have Tr:¬g=aQ:=Em.out _ rfl;have atd:=I Tr;have hle:=H1.aF.len;have vw:=H1.aF.max;unfold maxLen at vw;go_loopg [5,6] (xs.length - (eI+1)) (λs8 dN ate wr=>∃(a j:Nat) (cq:List bO),s8+j=xs.length/\dN=.int .i64 a/\ate=.int .i64 j/\a<j/\Hid (cq.length=xs.length/\cq.take a=(xs.take j).filter (λp=> !cf p.x.id i)/\cq.drop j=xs.drop j)/\Hid (Own wr base 66 8 bO.cs (some (g,0)) xs.length cap cq)/\Hid (wr.heap[aQ]?=some (i:Obj))/\Hid (aG (λb=>b=g) w wr));case atStart=>
   refine⟨eI,eI+1,xs,J,rfl,by go_num,J,⟨rfl,?_,rfl⟩,H1,cm,aG.of bx⟩
   ·rw[iX J,zC,ef.out,Eo (by simp[cy.out]),Lc,mH]
  case round=>
   obtain⟨a,j,cq,_,rfl,rfl,_,bf,aE,ko,al⟩:=hrel;by_cases aJ:j<xs.length
   ·have agA:j<cq.length:=by have:=bf.out.1;omega
    have YW:=aJ
    have jI:=I (show cq[j]=xs[j]from by
     have:=eP (λl=>l[0]?) bf.out.2.2;simp only[RF,uY,fz agA,fz YW,Option.some.injEq]at this
     exact this)
    obtain⟨b,o,Ts,ao⟩:=aE.aF.get j agA;simp only[Option.some.injEq,Addr.mk.injEq,FJ]at Ts;obtain⟨rfl,rfl⟩:=Ts;obtain⟨cT,c1,c2,da,dJ,dw,eC,eK⟩:=pd (x:=cq[j].x) ao;rw[om]at cT c1 c2 da dJ dw eC eK;have d0:(0:Int)<=(j:Int):=J;have jX:(j:Int)<(xs.length:Int):=J;have ij:(0:Int)<=(a:Int):=J;have d3:(a:Int)<(xs.length:Int):=J;clear ao;go_wp2_with fail;refine(agz cq[j].x i aQ _ (by exact aI (o:=0) ((show Z wr (wr.alloc cq[j].x)from X).aB ko) rfl) (by exact aI (o:=1) ((show Z wr (wr.alloc cq[j].x)from X).aB ko) rfl) (by exact aI (o:=2) ((show Z wr (wr.alloc cq[j].x)from X).aB ko) rfl)).mono ?_;rintro e aY⟨rfl,c9⟩;have z3:=c9.aB (fi (w:=wr) (o:=(cq[j].x:Obj)) (n:=(wr:Nat)) rfl);have cz:=I (aE.ext (w':=aY) X);have fT:=I (Z.aB (W:=wr) (w:=aY) X ko);have iK:=I (al.trans (aG.of (show Z wr aY from X)));have WL:g<(wr:Nat):=(aE.lt _ rfl).2;replace c9:=I c9;cases aa:cf cq[j].x.id i with
    |true=>
     have o8:=I aa;go_wp2_with fail;go_roundg (gk - 1);case measure=>omega
     case rel=>
      refine⟨a,j+1,cq,J,rfl,by go_num,J,⟨bf.out.1,?_,?_⟩,cz,fT,iK⟩
      ·rw[bf.out.2.1,iX YW,zC,<-jI.out,Eo (by simp[o8.out]),Lc,mH]
      ·have:=eP (List.drop 1) bf.out.2.2;rw[Oe,Oe]at this;exact this
    |false=>
     have o8:=I aa;have Ep:∀q,aY.frozen? ⟨g,q,none⟩=false:=λq=>cz.free q;have YX:a<cq.length:=by have:=bf.out.1;omega
     have hs:=I (cz.J7 a YX);obtain⟨_,_,_,_,_,_,_,_⟩:=pd (x:=cq[a].x) hs;obtain⟨dV,bS,bE,eV,gU,kD,l5,lO⟩:=lI z3;clear cT c1 c2 da dJ dw eC eK z3;go_wp2_with fail;go_roundg (gk - 1);case measure=>omega
     case rel=>
      have kz:=cz.Tp a YX cq[j];refine⟨a+1,j+1,cq.set a cq[j],J,by go_num,by go_num,J,⟨by rw[Dz];exact bf.out.1,?_,?_⟩,kz,?_,?_⟩
      ·rw[iX YW,zC,<-bf.out.2.1,<-jI.out,Ip (by simp[o8.out]),Lc,iX (by rw[Dz];exact YX),List.take_set_of_le (bA _)];simp
      ·have:=eP (List.drop 1) bf.out.2.2;rw[Oe,Oe]at this;rw[List.drop_set_of_lt J];exact this
      ·refine agB ?_;intro OQ;exact(OQ.block aQ (bT fT) (λq=>atd q.symm)).trans fT
      ·refine agB ?_;intro OQ;exact iK.trans OQ
   ·have gV:=λty=>agw (P:=prog) wr 42 66 ty _ underlying42 (λw=>ata w) (by intro u al;simp[Value.cells]at al;exact WI) g (a*8) (xs.length - a) (cap - a) J (λq bq=>as9 aE _ (by have wX:(Value.agg #[ar,ar,au,au,ar,au,aH,aH]).cells.size=8:=rfl;rw[wX]at bq;omega)) (λq=>aE.free q);have hv:(0:Int)<=(a:Int):=J;have e6:(a:Int)<=(xs.length:Int):=J;have e2:(a:Int)<=(cap:Int):=J;have wF:¬cap=a:=J;go_wp2_with fail;go_ret;obtain⟨cur,Gk,-⟩:=aE.aB;obtain⟨aDo,q1,dP,fp⟩:=YU (b:=g) _ (a*8) wr cur Gk;refine⟨a,rfl,?_,(aG.setCells (S:=λb=>b=g) rfl _ _ _ al).mono (λb _ aa=>⟨_,rfl,aa.symm⟩)⟩
    have ao:=aE.agy (w':=_) a J (aDo:=aDo) (λatf ak=>by
     rw[Gk]at ak;injection ak with ak;injection ak with ak;subst ak
     exact⟨q1,dP,fp⟩)
    rw[bf.out.2.1,ir (show xs.length<=j by omega)]at ao;exact ao
structure qQ (w:World) (base q:Nat) (s:lZ) (d:eR) (ag ps:List bO):Prop where
 box:w.heap[q]?=some (s:Obj)
 st:rf w base s d ag ps
 bq:base<=q
def pP(a:Option Addr):Nat->Prop:=λb=>∃ai,a=some ai/\ai.block=b
def Iq(q:Nat)(s:lZ):Nat->Prop:=λb=>b=q\/pP s.l.a b\/pP s.p.a b\/pP s.b.a b
def rf.Er{d:eR}{cs:Array Value}(h:rf w base s d ag ps)(aa:w.heap[q]?=some (.cells cs 44 fr))(al:aG (λb=>b=q) w w'):rf w' base s d ag ps:=
 ⟨h.cO,h.l.j8 aa af af af af al,h.j9,h.p.j8 aa af af af af al,h.ma,al.bI h.b (h.b.eQ aa af),h.gK⟩
def Ld(w:World)(F fb:Nat->Prop):Prop:=∀b,fb b->F b\/w.heap.size<=b
def qR(base q:Nat)(s:lZ)(y6:eR)(v:Value)(w:World)(e:Ending)(w':World):Prop:=
 e=.returned v/\∃s' pQ oH,qQ w' base q s' y6 pQ oH/\aG (Iq q s) w w'/\Ld w (Iq q s) (Iq q s')
theorem qR.cC {base q:Nat}{s:lZ}{d:eR}{v:Value}{w w1 aN:World}{e:Ending} (U:Z w w1) (h:qR base q s d v w1 e aN):qR base q s d v w e aN:=
 let ⟨r,s',pQ,oH,ae,ak,aM⟩:=h
 ⟨r,s',pQ,oH,ae,(aG.of U).trans ak,λb aa=>(aM b aa).imp id (λk=>Nat.le_trans U.size k)⟩
def lH.dT(h:lH w w' aw g):aG (pP aw) w w':=⟨h.os,h.tape,h.output,h.size,λb aa an=>h.block b aa (λai aj k=>an ⟨ai,aj,k⟩)⟩
def qQ.cx{d:eR}(h:qQ w base q s d ag ps):∀b,Iq q s b->base<=b/\b<(w:Nat):=λb aa=>by
 rcases aa with rfl|⟨ai,aj,rfl⟩|⟨ai,aj,rfl⟩|⟨ai,aj,rfl⟩
 ·exact⟨h.bq,bT h.box⟩
 ·exact h.st.l.cg.lt ai aj
 ·exact h.st.p.cg.lt ai aj
 ·exact h.st.b.lt ai aj
def qQ.ext{d:eR}(h:qQ w base q s d ag ps)(U:Z w w'):qQ w' base q s d ag ps:=⟨U.aB h.box,h.st.ext U,h.bq⟩
def fO.OR{hv:Nat}{d:bg}{c:α->List Value}{ys:List α}(h:fO w base x d)(ax:Own w hv e sz c aw n cap ys)(ae:e≠154)(ak:e≠34)(aM:e≠77)(al:aG (pP aw) w w'):fO w' base x d:=
 let ⟨ys,q,o,a⟩:=h.e
 ⟨h.k,h.id,h.c,h.u,al.bI h.f (λai aj ⟨Bk,k,z⟩=>ax.gQ h.f ae Bk ai k aj z),ys,q,al.bI o (λai aj ⟨Bk,k,z⟩=>ax.gQ o ak Bk ai k aj z),λy hy=>al.bI (a y hy) (λai aj ⟨Bk,k,z⟩=>ax.gQ (a y hy) aM Bk ai k aj z)⟩
def fx.OR{hv:Nat}{a:bk}{m aQ:Nat}{c:α->List Value}{ys:List α}(h:fx w base a m aQ ps)(ax:Own w hv e sz c aw n cap ys)(aD:oo aw a)(ae:e≠154)(ak:e≠34)(aM:e≠77)(al:aG (pP aw) w w'):fx w' base a m aQ ps:=
 ⟨al.bI h.cg (λai aj ⟨Bk,k,z⟩=>aD Bk ai k aj z),λp aV=>(h.ct p aV).OR ax ae ak aM al⟩
def atg{aX:List bg}(hm:ps.map (·.d)=aX)(aO:∀p,p∈ps->p.x.id=p.d.id)(i:aA):(ps.filter (λp=> !cf p.x.id i)).map (·.d)=rN aX i:=by
 subst hm;unfold rN;rw[J8];congr 1;exact DH (λp aV=>by rw[aO p aV];rfl)
def YY(base q:Nat)(i:aA)(s:lZ)(d:eR)(ag ps:List bO)(w:aC)(H:qQ w base q s d ag ps)(an:ps.length<=1000000):
  aR 139 #[q,i] w (qR base q s {d with ps:=rN d.ps i} (.tuple #[]) w):=by
 have Co:=aI (o:=2) H.box rfl;have CG:=H.st.p.cg.neq;have agC:=bT H.box;change Hid _ at H CG;have bY:(w.alloc i).cell? (q,2)=some ↑s.p:=(show Z w (w.alloc i)from X).ah Co;go_enter func139,ntmps139;go_wp2_with fail;refine(atb s.p.a s.p.n s.p.c base ps i w.heap.size _ (H.st.p.cg.ext X) (fi rfl) (λai aj k=>by have:=(H.st.p.cg.lt ai aj).2;omega) (by have:=CG.out;omega)).mono ?_;rintro e w1⟨m,rfl,dn,h8⟩;have pR:Z w (w.alloc i):=X;have ath:∀ai,s.p.a=some ai->¬ai.block=q:=λai aj=>H.st.p.cg.eQ H.box af ai aj;have hV:w1.heap[q]?=some (s:Obj):=(h8.block q (by have:=pR.size;omega) (fun⟨ai,aj,k⟩=>ath ai aj k)).trans (pR.aB H.box);obtain⟨-,-,_,_⟩:=sn hV;change Hid _ at dn h8 hV;have bx:=I pR;go_wp2_with fail;go_end0;have fQ:=H.st.ext bx;have rm:=aG.setCell (S:=λb=>b=q) (aG.refl _ w1) (q,2) (.inl rfl) (aq s.p.a m s.p.c);have y2:=fQ.l.OR fQ.p.cg (λx y U hy e=>fQ.gK y x hy U e.symm) af af af h8;have Es:fx w1 base s.p.a m s.p.c (ps.filter (λp=> !cf p.x.id i)):=⟨dn,λp aV=>(fQ.p.ct p (mI.1 aV).1).OR fQ.p.cg af af af h8⟩;have rn:=h8.bI fQ.b (λai aj ⟨Bk,k,z⟩=>fQ.p.cg.gQ fQ.b af Bk ai k aj z);refine⟨rfl,⟨s.cO,s.l,⟨s.p.a,m,s.p.c⟩,s.b⟩,ag,ps.filter (λp=> !cf p.x.id i),⟨er hV 2 _,⟨fQ.cO,y2.j8 hV af af af af rm,fQ.j9,Es.j8 hV af af af af rm,atg fQ.ma (λp aV=>(fQ.p.ct p aV).id) i,rm.bI rn (rn.eQ hV af),fQ.gK⟩,H.bq⟩,?_,λ_ h=>.inl h⟩;exact((aG.of bx).trans (h8.mono (λb _ aa=>.inr (.inr (.inl aa))))).trans (rm.mono (λb _ aa=>.inl aa))
def qQ.ati{d:eR}{e:bg}(h:qQ w base q s d ag ps)(bu:lH w w' s.l.a g)(aK:Own w' base 66 8 bO.cs (some (g,0)) (s.l.n+1) dL (ag++[⟨x,e⟩]))(he:fO w base x e)(v:Value):
  qR base q s {d with ag:=d.ag++[e]} v w (.returned v) (w'.setCell (q,1) (.slice (some (g,0)) (s.l.n+1) dL)):=by
 have q1:=bu.aB h.box (λai aj k=>h.st.l.cg.eQ h.box af ai aj k);have rm:=aG.setCell (S:=λb=>b=q) (aG.refl _ w') (q,1) (.inl rfl) (.slice (some (g,0)) (s.l.n+1) dL);have Aa:rf w' base {s with l:=⟨some (g,0),s.l.n+1,dL⟩} {d with ag:=d.ag++[e]} (ag++[⟨x,e⟩]) ps:=⟨h.st.cO,h.st.l.ri bu aK he,by rw[gS,h.st.j9];rfl,h.st.p.grow bu h.st.l.cg h.st.gK af af af,h.st.ma,bu.AB h.st.l.cg h.st.b af,bu.gK h.st.p.cg h.st.gK⟩;refine⟨rfl,_,_,_,⟨er q1 1 _,Aa.Er q1 rm,h.bq⟩,(bu.dT.mono (λb _ aa=>.inr (.inl aa))).trans (rm.mono (λb _ aa=>.inl aa)),λb aa=>?_⟩;rcases aa with aa|⟨ai,aj,rfl⟩|aa|aa
 ·exact .inl (.inl aa)
 ·cases aj;rcases bu.at_ with ⟨ai,bQ,bY⟩|k
  ·exact .inl (.inr (.inl ⟨ai,bQ,bY⟩))
  ·exact .inr (by show(w:Nat)<=g;omega)
 ·exact .inl (.inr (.inr (.inl aa)))
 ·exact .inl (.inr (.inr (.inr aa)))
def qQ.atj{d:eR}{e:bg}(h:qQ w base q s d ag ps)(bu:lH w w' s.p.a g)(aK:Own w' base 66 8 bO.cs (some (g,0)) (s.p.n+1) dL (ps++[⟨x,e⟩]))(he:fO w base x e)(v:Value):
  qR base q s {d with ps:=d.ps++[e]} v w (.returned v) (w'.setCell (q,2) (.slice (some (g,0)) (s.p.n+1) dL)):=by
 have xv:oo s.p.a s.l.a:=λx y U hy k=>h.st.gK y x hy U k.symm;have q1:=bu.aB h.box (λai aj k=>h.st.p.cg.eQ h.box af ai aj k);have rm:=aG.setCell (S:=λb=>b=q) (aG.refl _ w') (q,2) (.inl rfl) (.slice (some (g,0)) (s.p.n+1) dL);have Aa:rf w' base {s with p:=⟨some (g,0),s.p.n+1,dL⟩} {d with ps:=d.ps++[e]} ag (ps++[⟨x,e⟩]):=⟨h.st.cO,h.st.l.grow bu h.st.p.cg xv af af af,h.st.j9,h.st.p.ri bu aK he,by rw[gS,h.st.ma];rfl,bu.AB h.st.p.cg h.st.b af,λx y U hy k=>bu.gK h.st.l.cg xv y x hy U k.symm⟩;refine⟨rfl,_,_,_,⟨er q1 2 _,Aa.Er q1 rm,h.bq⟩,(bu.dT.mono (λb _ aa=>.inr (.inr (.inl aa)))).trans (rm.mono (λb _ aa=>.inl aa)),λb aa=>?_⟩;rcases aa with aa|aa|⟨ai,aj,rfl⟩|aa
 ·exact .inl (.inl aa)
 ·exact .inl (.inr (.inl aa))
 ·cases aj;rcases bu.at_ with ⟨ai,bQ,bY⟩|k
  ·exact .inl (.inr (.inr (.inl ⟨ai,bQ,bY⟩)))
  ·exact .inr (by show(w:Nat)<=g;omega)
 ·exact .inl (.inr (.inr (.inr aa)))
def qQ.atk{d:eR}{i:aA}(h:qQ w base q s d ag ps)(bu:lH w w' s.b.a g)(aK:Own w' base 54 3 aA.cs (some (g,0)) (s.b.n+1) dL (d.ay++[i]))(v:Value):
  qR base q s {d with ay:=d.ay++[i]} v w (.returned v) (w'.setCell (q,3) (.slice (some (g,0)) (s.b.n+1) dL)):=by
 have q1:=bu.aB h.box (λai aj k=>h.st.b.eQ h.box af ai aj k);have rm:=aG.setCell (S:=λb=>b=q) (aG.refl _ w') (q,3) (.inl rfl) (.slice (some (g,0)) (s.b.n+1) dL);have Aa:rf w' base {s with b:=⟨some (g,0),s.b.n+1,dL⟩} {d with ay:=d.ay++[i]} ag ps:=⟨h.st.cO,h.st.l.grow bu h.st.b (h.st.b.gQ h.st.l.cg af) af af af,h.st.j9,h.st.p.grow bu h.st.b (h.st.b.gQ h.st.p.cg af) af af af,h.st.ma,aK,h.st.gK⟩;refine⟨rfl,_,_,_,⟨er q1 3 _,Aa.Er q1 rm,h.bq⟩,(bu.dT.mono (λb _ aa=>.inr (.inr (.inr aa)))).trans (rm.mono (λb _ aa=>.inl aa)),λb aa=>?_⟩;rcases aa with aa|aa|aa|⟨ai,aj,rfl⟩
 ·exact .inl (.inl aa)
 ·exact .inl (.inr (.inl aa))
 ·exact .inl (.inr (.inr (.inl aa)))
 ·cases aj;rcases bu.at_ with ⟨ai,bQ,bY⟩|k
  ·exact .inl (.inr (.inr (.inr ⟨ai,bQ,bY⟩)))
  ·exact .inr (by show(w:Nat)<=g;omega)
def qQ.eG{d:eR}(h:qQ w base q s d ag ps)(U:Z w w')(v:Value):qR base q s d v w (.returned v) w':=⟨rfl,s,ag,ps,h.ext U,aG.of U,λ_ h=>.inl h⟩
def atl(base q fI gr:Nat)(s:lZ)(d:eR)(ag ps:List bO)(x:b1)(r:gJ)(w:aC)(H:qQ w base q s d ag ps)(ax:w.heap[fI]?=some (.cells #[r.k,ad (r.n:Int),x.k,x.id.b,ad x.id.l,ad x.id.s,x.c,ad x.u,x.f,x.e,r.id.b,ad r.id.l,ad r.id.s] 169))(ao:w.heap[gr]?=some (.cells #[q] 173))(hk:r.k=1):
  aR 135 #[fI,gr] w (qR base q s ((eT d r).getD d) (.bool (eT d r).isSome) w):=by
 have bQ:=aI (o:=1) ax rfl;have bY:=aI (o:=0) ao rfl;obtain⟨_,_⟩:=aqe H.box;have Ir:=H.st.cO;change Hid _ at H;by_cases an:r.n<=d.l
 ·have ba:=I (show eT d r=none from by unfold eT;rw[if_pos hk,if_pos an]);have bd:(r.n:Int)<=s.cO:=J;go_enter func135,ntmps135;go_wp2_with fail;go_quiet (fail);go_wp2;go_ret;rw[ba.out];exact H.eG X _
 ·have ba:=I (show eT d r=some {d with l:=r.n} from by unfold eT;rw[if_pos hk,if_neg an]);have bd:¬(r.n:Int)<=s.cO:=J;go_enter func135,ntmps135;go_wp2_with fail;go_quiet (fail);go_wp2_with fail;go_ret;rw[ba.out];have U:Z w (w.drewN nq):=X;have dZ:=H.ext U;have rm:=aG.setCell (S:=λb=>b=q) (aG.refl _ (w.drewN nq)) (q,0) (.inl rfl) (ad (r.n:Int));have Aa:=dZ.st.Er dZ.box rm;exact⟨rfl,{s with cO:=r.n},ag,ps,⟨er dZ.box 0 _,⟨rfl,Aa.l,Aa.j9,Aa.p,Aa.ma,Aa.b,Aa.gK⟩,dZ.bq⟩,(aG.of U).trans (rm.mono (λb _ aa=>.inl aa)),λ_ h=>.inl h⟩
def atm(base q fI gr:Nat)(s:lZ)(d:eR)(ag ps:List bO)(x:b1)(r:gJ)(w:aC)(H:qQ w base q s d ag ps)(cR:w.heap[fI]?=some (.cells #[r.k,ad (r.n:Int),x.k,x.id.b,ad x.id.l,ad x.id.s,x.c,ad x.u,x.f,x.e,r.id.b,ad r.id.l,ad r.id.s] 169))(cn:w.heap[gr]?=some (.cells #[q] 173))(hk:r.k=5)(an:ps.length<=1000000):
  aR 143 #[gr,fI] w (qR base q s ((eT d r).getD d) (.bool (eT d r).isSome) w):=by
 obtain⟨-,-,-,-,-,-,-,-,-,-,bQ,bY,ew⟩:=ML cR;have fm:=aI (o:=0) cn rfl;obtain⟨iQ,sH,alw,w0⟩:=vx H.box;replace bQ:=fo.cell (w:=w) (a:=(fI,10)) (v:=.int .i64 r.id.b) bQ;replace bY:=fo.cell (w:=w) (a:=(fI,11)) (v:=.int .u64 r.id.l) bY;replace ew:=fo.cell (w:=w) (a:=(fI,12)) (v:=.int .u64 r.id.s) ew;replace fm:=fo.cell (w:=w) (a:=(gr,0)) (v:=.pointer (some (q,0))) fm;replace iQ:=fo.cell (w:=w) (a:=(q,0)) (v:=.int .u64 s.cO) iQ;replace sH:=fo.cell (w:=w) (a:=(q,1)) (v:=.slice s.l.a s.l.n s.l.c) sH;replace alw:=fo.cell (w:=w) (a:=(q,2)) (v:=.slice s.p.a s.p.n s.p.c) alw;replace w0:=fo.cell (w:=w) (a:=(q,3)) (v:=.slice s.b.a s.b.n s.b.c) w0;have cy:=I (H.st.p.cg.aF.map (c:=b1.cs) (λp:bO=>p.x) (λ_=>rfl));have qS:=y5 H.st.p.sj H.st.ma r.id;replace H:=I H;replace cR:=I cR;replace cn:=I cn;cases aa:eD d.ps r.id with
 |false=>
  have ba:=I (show eT d r=none from by unfold eT;rw[if_neg J,if_neg J,if_neg J,if_neg J,if_neg (by rw[aa];exact Bool.false_ne_true)]);refine agD ?_;intro bB _ _ _ _;refine Is ?_;intro cY gH;go_wp2;go_ret;rw[ba.out];exact H.out.eG X _
 |true=>
  have ba:=I (show eT d r=some {d with ps:=rN d.ps r.id} from by unfold eT;rw[if_neg J,if_neg J,if_neg J,if_neg J,if_pos aa]);refine agD ?_;intro bB _ _ _ _;refine Is ?_;intro cY gH;have m1:=aI (o:=0) (gH.out.aB cn.out) rfl;obtain⟨-,-,-,-,-,-,-,-,-,-,_,_,_⟩:=ML (gH.out.aB cR.out);go_wp2_with fail;refine(YY base q r.id s d ag ps _ (H.out.ext X) an).mono ?_;rintro e _ bC;obtain⟨rfl,de⟩:=bC;replace de:=I de;go_wp2;go_ret;rw[ba.out];obtain⟨s',pQ,oH,ae,ak,aM⟩:=de.out;exact qR.cC X ⟨rfl,s',pQ,oH,ae,ak,aM⟩
def Ld.trans{F fb OS:ff}(h:Ld w F fb)(k:Ld w1 fb OS)(hs:(w:Nat)<=(w1:Nat)):Ld w F OS:=λb aa=>(k b aa).elim (h b) (λq=>.inr (eh hs q))
def qR.then{aN:aC}{v:Value}{e:Ending}{s':lZ}{y6:eR}(al:aG (Iq q s) w w1)(bc:Ld w (Iq q s) (Iq q s'))(h:qR base q s' y6 v w1 e aN):qR base q s y6 v w e aN:=
 let ⟨r,ju,YZ,Y0,ae,ak,aM⟩:=h
 ⟨r,ju,YZ,Y0,ae,al.wS ak bc,bc.trans aM al.size⟩
def Y1{oH:List bO}{aX:List bg}(h:ps.map (·.d)=aX)(k:oH.map (·.d)=aX):oH.length=ps.length:=by rw[<-cr (f:=(·.d)),k,<-h,cr]
def atn(base q fI gr:Nat)(s:lZ)(d:eR)(ag ps:List bO)(x:b1)(r:gJ)(w:aC)(h:qQ w base q s d ag ps)(ax:w.heap[fI]?=some (.cells #[r.k,ad (r.n:Int),x.k,x.id.b,ad x.id.l,ad x.id.s,x.c,ad x.u,x.f,x.e,r.id.b,ad r.id.l,ad r.id.s] 169))(ao:w.heap[gr]?=some (.cells #[q] 173))(AP:base<=(w:Nat))(hk:r.k=4)(an:ps.length<=1000000)(pH:s.b.n<=1000000):
  aR 142 #[gr,fI] w (qR base q s ((eT d r).getD d) (.bool (eT d r).isSome) w):=by
 obtain⟨dc,aJ,tL,oM,lK⟩:=info_parts zE;change Hid _ at aJ tL oM lK;obtain⟨-,-,-,-,-,-,-,-,-,-,bQ,bY,ew⟩:=ML ax;have fm:=aI (o:=0) ao rfl;obtain⟨iQ,sH,alw,w0⟩:=vx h.box;replace bQ:=fo.cell (w:=w) (a:=(fI,10)) (v:=.int .i64 r.id.b) bQ;replace bY:=fo.cell (w:=w) (a:=(fI,11)) (v:=.int .u64 r.id.l) bY;replace ew:=fo.cell (w:=w) (a:=(fI,12)) (v:=.int .u64 r.id.s) ew;replace fm:=fo.cell (w:=w) (a:=(gr,0)) (v:=.pointer (some (q,0))) fm;replace iQ:=fo.cell (w:=w) (a:=(q,0)) (v:=.int .u64 s.cO) iQ;replace sH:=fo.cell (w:=w) (a:=(q,1)) (v:=.slice s.l.a s.l.n s.l.c) sH;replace alw:=fo.cell (w:=w) (a:=(q,2)) (v:=.slice s.p.a s.p.n s.p.c) alw;replace w0:=fo.cell (w:=w) (a:=(q,3)) (v:=.slice s.b.a s.b.n s.b.c) w0;have bL:=I (h.st.l.cg.aF.map (c:=b1.cs) (λp:bO=>p.x) (λ_=>rfl));have w2:=I h.st.b.aF;have qS:=y5 h.st.l.sj h.st.j9 r.id;have H:=I h;change Hid _ at ax ao;cases fg:eD d.ag r.id with
 |true=>
  have ba:=I (show eT d r=none from by unfold eT;rw[if_neg J,if_neg J,if_neg J,if_pos hk,if_pos (.inl fg)]);have cm:=I (qS.trans fg);go_enter func142,ntmps142;go_wp2_with fail;refine B3 bV bV ?_;repeat (first|go_big_quiet_step (((go_at_call 17;exact Calls.nL (ou s (ag.map (·.x)) r.id _ (bL.out.ext (fo.ct _))) (eP Value.bool cm.out))))|quiet_step (((go_at_call 17;exact Calls.nL (ou s (ag.map (·.x)) r.id _ (bL.out.ext (fo.ct _))) (eP Value.bool cm.out)))))
  exact Gl
 |false=>
  have cm:=I (qS.trans fg);cases ih:ik d.ay r.id with
  |true=>
   have ba:=I (show eT d r=none from by unfold eT;rw[if_neg J,if_neg J,if_neg J,if_pos hk,if_pos (.inr ih)]);have fT:Hid (d.ay.any (λj=>cf j r.id)=true):=ih;go_enter func142,ntmps142;go_wp2_with fail;refine agE ?_;exact Gl
  |false=>
   have ba:=I (show eT d r=some {d with ay:=d.ay++[r.id],ps:=rN d.ps r.id} from by unfold eT;rw[if_neg J,if_neg J,if_neg J,if_pos hk,if_neg (by rw[fg,ih];simp)]);have fT:Hid (d.ay.any (λj=>cf j r.id)=false):=ih;go_enter func142,ntmps142;go_wp2_with fail;refine agE ?_;refine Tt ?_;intro cY A2;go_wp2_with fail;refine Bh 11 (λw'=>w'.heap[gr]?=some (.cells #[q] 173)/\w'.heap[fI]?=some (.cells #[r.k,ad (r.n:Int),x.k,x.id.b,ad x.id.l,ad x.id.s,x.c,ad x.u,x.f,x.e,r.id.b,ad r.id.l,ad r.id.s] 169)/\w'.heap[q]?=some (s:Obj)) (λa7=>?_) Gm;refine Y2 ?_;intro K aL;refine aL _ _ (λ_=>Gm) λhH=>eY ?_;have a7:=hH af;refine kW 8 λK aL=>?_;have eZ:=I (H.out.ext (w':=(cY.alloc r.id).drew) X);refine vE (ys:=d.ay) (c:=aA.cs) rfl (.tmp 21) (.tmp 24) 31 rfl dc _ 24 underlying31 aJ.out tL.out oM.out lK.out rfl af rfl eZ.out.st.b r.id _ rfl (fc (cs:=aA.cs r.id) rfl) (aA.cN _) J af (by have:=Z.size (w1:=(cY.alloc r.id).drew) (show Z w _ from X);omega) ?_;intro g dL b3 qM bW;have cv:=I bW;change Hid _ at qM;have a6:(cY.alloc r.id).drew.heap[gr]?=some (.cells #[q] 173):=Z.aB (W:=w) X ao.out;have al:(cY.alloc r.id).drew.heap[fI]?=some (.cells #[r.k,ad (r.n:Int),x.k,x.id.b,ad x.id.l,ad x.id.s,x.c,ad x.u,x.f,x.e,r.id.b,ad r.id.l,ad r.id.s] 169):=Z.aB (W:=w) X ax.out;have dJ:=bW.aB a6 (λai aj k=>eZ.out.st.b.eQ a6 af ai aj k);have hx:=bW.aB al (λai aj k=>eZ.out.st.b.eQ al af ai aj k);have iw:=bW.aB eZ.out.box (λai aj k=>eZ.out.st.b.eQ eZ.out.box af ai aj k);have sq:=I hx;have Gn:=I dJ;have rU:=I iw;refine zc (d:=some 25) rfl ?_;refine Le ?_;intro hH a7;refine kW 9 λK aL=>?_;go_simp;refine Le ?_;intro hH a7;refine gO 10 ?_;obtain⟨-,-,-,_,_⟩:=Ci iw;refine kW 11 λK aL=>?_;refine Bj ?_;intro _;have dA:=I (eZ.out.atk cv.out qM.out (.bool true));have qT:=aG.setCell (S:=λb=>b=q) (aG.refl _ b3) (q,3) (.inl rfl) (.slice (some (g,0)) (s.b.n+1) dL);have dw:=(qT.block gr (bT Gn.out) (DT Gn.out rU.out af)).trans Gn.out;have kx:=(qT.block fI (bT sq.out) (DT sq.out rU.out af)).trans sq.out;have m1:=aI (o:=0) dw rfl;obtain⟨-,-,-,-,-,-,-,-,-,-,_,_,_⟩:=ML kx;go_wp2_with fail;obtain⟨-,s',pQ,oH,ae,ak,aM⟩:=dA.out;refine(YY base q r.id s' _ pQ oH _ ae (by rw[Y1 H.out.st.ma ae.st.ma];exact an)).mono ?_;rintro e _ bC;obtain⟨rfl,mP⟩:=bC;change Hid _ at mP ak aM;go_wp2;go_ret;rw[ba.out];exact agF
def ato(base q fI gr:Nat)(s:lZ)(d:eR)(ag ps:List bO)(x:b1)(r:gJ)(w:aC)(h:qQ w base q s d ag ps)(ax:w.heap[fI]?=some (.cells #[r.k,ad (r.n:Int),x.k,x.id.b,ad x.id.l,ad x.id.s,x.c,ad x.u,x.f,x.e,r.id.b,ad r.id.l,ad r.id.s] 169))(ao:w.heap[gr]?=some (.cells #[q] 173))(AP:base<=(w:Nat))(hk:r.k=3)(U:h0 w x r.e)(AN:mo r.e)(an:ps.length<=1000000)(It:s.p.n<=1000000)(sB:s.l.n<=1000000):
  aR 140 #[fI,gr] w (qR base q s ((eT d r).getD d) (.bool (eT d r).isSome) w):=by
 refine agG ?_;intro ca aO gg ft pc bY ew fm bQ iQ sH alw w0 Iu wQ Iv Iw bL;have cy:=I ((h.st.p.cg.aF.map (c:=b1.cs) (λp:bO=>p.x) (λ_=>rfl)).ext ((Z.refl w).alloc x.id));refine agH ?_;intro w2 qS mm pr H;change Hid _ at ax ao U AN;clear h;rw[<-pr]at qS mm;clear bY ew fm Iw;obtain⟨-,-,-,bY,ew,fm⟩:=Rp ax.out;cases fg:eD d.ag x.id with
 |true=>
  have cm:=I (qS.trans fg);have ba:=I (show eT d r=none from by unfold eT;rw[if_neg J,if_neg J,if_pos hk,if_pos (.inl (pr▸fg))]);clear fg qS mm pr;go_enter func140,ntmps140;go_wp2_with fail;refine agI ?_;exact Gl
 |false=>
  have cm:=I (qS.trans fg);cases ih:eD d.ps x.id with
  |true=>
   have gj:=I (mm.trans ih);have ba:=I (show eT d r=none from by unfold eT;rw[if_neg J,if_neg J,if_pos hk,if_pos (.inr (.inl (pr▸ih)))]);clear fg ih qS mm pr;go_enter func140,ntmps140;go_wp2_with fail;refine B3 bV bV ?_;repeat (first|go_big_quiet_step (((first|(go_at_call 17;exact Calls.nL (ou s (ag.map (·.x)) x.id _ (bL.out.ext (fo.ct _))) (eP Value.bool cm.out))|(go_at_call 141;exact Calls.nL (vB s (ps.map (·.x)) x.id _ (cy.out.ext (fo.ct _))) (eP Value.bool gj.out)))))|quiet_step (((first|(go_at_call 17;exact Calls.nL (ou s (ag.map (·.x)) x.id _ (bL.out.ext (fo.ct _))) (eP Value.bool cm.out))|(go_at_call 141;exact Calls.nL (vB s (ps.map (·.x)) x.id _ (cy.out.ext (fo.ct _))) (eP Value.bool gj.out))))))
   exact Gl
  |false=>
   have gj:=I (mm.trans ih);cases jV:ik d.ay x.id with
   |true=>
    have fT:Hid (d.ay.any (λj=>cf j x.id)=true):=jV;have ba:=I (show eT d r=none from by unfold eT;rw[if_neg J,if_neg J,if_pos hk,if_pos (.inr (.inr (pr▸jV)))]);clear fg ih jV qS mm pr;go_enter func140,ntmps140;go_wp2_with fail;refine agJ ?_;exact Gl
   |false=>
    have ba:=I (show eT d r=some {d with ps:=d.ps++[r.e]} from by unfold eT;rw[if_neg J,if_neg J,if_pos hk,if_neg (by rw[<-pr,fg,ih,jV];simp)]);have fT:Hid (d.ay.any (λj=>cf j x.id)=false):=jV;clear fg ih jV qS mm pr;go_enter func140,ntmps140;go_wp2_with fail;refine agJ ?_;refine Tt ?_;intro cY A2;clear bY ew fm;clear bQ iQ sH alw w0 Iu wQ Iv;go_wp2_with fail;refine Bh 12 (λw'=>w'.heap[gr]?=some (.cells #[q] 173)/\w'.heap[fI]?=some (.cells #[r.k,ad (r.n:Int),x.k,x.id.b,ad x.id.l,ad x.id.s,x.c,ad x.u,x.f,x.e,r.id.b,ad r.id.l,ad r.id.s] 169)/\w'.heap[q]?=some (s:Obj)) (λa7=>?_) Gm;refine Y2 ?_;intro K aL;go_at_call 138;refine(SX x r.e _ (U.out.ext X) AN.out).mono ?_;rintro e aY⟨bX,rfl,sk,aa⟩;change Hid _ at sk aa;refine aL _ _ (λ_=>Gm) λhH=>eY ?_;have a7:=hH af;refine kW 8 λK aL=>?_;go_simp;refine aL _ _ (λ_=>Gm) λhH=>eY ?_;have a7:=hH af;refine kW 9 λK aL=>?_;have eZ:=I (H.out.ext (w':=aY.alloc bX) X);refine vE (ys:=ps) (c:=bO.cs) rfl (.tmp 30) (.tmp 34) 42 rfl ca _ 96 underlying42 aO.out gg.out ft.out pc.out rfl af rfl eZ.out.st.p.cg ⟨bX,r.e⟩ _ rfl (fc (cs:=bO.cs ⟨bX,r.e⟩) rfl) (bO.cN _) J af (by have:=Z.size (w1:=aY.alloc bX) (show Z w _ from X);omega) ?_;intro g dL b3 qM bW;have cv:=I bW;change Hid _ at qM;refine agK ?_;intro a6 al bo;have dJ:=bW.aB a6 (λai aj k=>eZ.out.st.p.cg.eQ a6 af ai aj k);have hx:=bW.aB al (λai aj k=>eZ.out.st.p.cg.eQ al af ai aj k);have iw:=bW.aB eZ.out.box (λai aj k=>eZ.out.st.p.cg.eQ eZ.out.box af ai aj k);have v4:=bW.aB bo (λai aj k=>eZ.out.st.p.cg.eQ bo af ai aj k);have Gn:=I dJ;have rU:=I iw;change Hid _ at v4;clear bW a6 al bo;refine zc (d:=some 35) rfl ?_;refine Le ?_;intro hH a7;refine kW 10 λK aL=>?_;go_simp;refine Le ?_;intro hH a7;refine gO 11 ?_;obtain⟨-,-,Tm,Tn⟩:=sn iw;refine kW 12 λK aL=>?_;refine Bj ?_;intro _;have Y3:fO (aY.alloc bX) base bX r.e:=(sk.out.mono (by have:=Z.size (w1:=cY) (show Z w _ from X);simp;omega)).ext X;have dA:=I (eZ.out.atj cv.out qM.out Y3 (.bool true));have qT:=aG.setCell (S:=λb=>b=q) (aG.refl _ b3) (q,2) (.inl rfl) (.slice (some (g,0)) (s.p.n+1) dL);refine agL ?_;intro dw v5;obtain⟨_,_,_⟩:=iE v5;clear iw dJ hx Tm Tn a7;go_wp2;go_ret;rw[ba.out];exact qR.cC (show Z w _ from X) dA.out
def atp(base q fI gr:Nat)(s:lZ)(d:eR)(ag ps:List bO)(x:b1)(r:gJ)(w:aC)(h:qQ w base q s d ag ps)(ax:w.heap[fI]?=some (.cells #[r.k,ad (r.n:Int),x.k,x.id.b,ad x.id.l,ad x.id.s,x.c,ad x.u,x.f,x.e,r.id.b,ad r.id.l,ad r.id.s] 169))(ao:w.heap[gr]?=some (.cells #[q] 173))(AP:base<=(w:Nat))(hk:r.k=2)(U:h0 w x r.e)(AN:mo r.e)(an:ps.length<=1000000)(It:s.p.n<=1000000)(sB:s.l.n<=1000000):
  aR 136 #[fI,gr] w (qR base q s ((eT d r).getD d) (.bool (eT d r).isSome) w):=by
 refine agG ?_;intro ca aO gg ft pc bY ew fm bQ iQ sH alw w0 Iu wQ Iv Iw bL;refine agH ?_;intro w2 qS mm pr H;change Hid _ at ax ao U AN;have n3:=I pr;clear h;rw[<-pr]at qS mm;obtain⟨-,-,-,bY,ew,fm⟩:=Rp ax.out;have zL:s.l.n=d.ag.length:=H.out.st.ct.xQ;have y4:IntKind.u64.wrap (s.l.n:Int)=(s.l.n:Int):=Gp _ ⟨J,J⟩;by_cases j4:r.n=d.ag.length
 ·have agM:((r.n:Int) !=(s.l.n:Int))=false:=by simp;omega
  cases fg:eD d.ag x.id with
  |true=>
   have cm:=I (qS.trans fg);have ba:=I (show eT d r=none from by unfold eT;rw[if_neg J,if_pos hk,if_pos (.inr (.inl (pr▸fg)))]);clear j4 fg qS mm pr zL;go_enter func136,ntmps136;go_wp2_with fail;refine agI ?_;exact Gl
  |false=>
   have cm:=I (qS.trans fg);cases jV:ik d.ay x.id with
   |true=>
    have fT:Hid (d.ay.any (λj=>cf j x.id)=true):=jV;have ba:=I (show eT d r=none from by unfold eT;rw[if_neg J,if_pos hk,if_pos (.inr (.inr (pr▸jV)))]);clear j4 fg jV qS mm pr zL;go_enter func136,ntmps136;go_wp2_with fail;refine agN ?_;exact Gl
   |false=>
    have ba:=I (show eT d r=some {d with ag:=d.ag++[r.e],ps:=rN d.ps r.e.id} from by unfold eT;rw[if_neg J,if_pos hk,if_neg (by rw[<-pr,fg,jV];simp[j4])]);have fT:Hid (d.ay.any (λj=>cf j x.id)=false):=jV;clear j4 fg jV qS mm pr zL;go_enter func136,ntmps136;go_wp2_with fail;refine agN ?_;refine Tt ?_;intro cY A2;clear Iw agM y4;clear bQ bY ew fm iQ sH alw w0 Iu wQ Iv;go_wp2_with fail;refine Bh 12 (λw'=>w'.heap[gr]?=some (.cells #[q] 173)/\w'.heap[fI]?=some (.cells #[r.k,ad (r.n:Int),x.k,x.id.b,ad x.id.l,ad x.id.s,x.c,ad x.u,x.f,x.e,r.id.b,ad r.id.l,ad r.id.s] 169)/\w'.heap[q]?=some (s:Obj)) (λa7=>?_) Gm;refine Y2 ?_;intro K aL;go_at_call 138;refine(SX x r.e _ (U.out.ext X) AN.out).mono ?_;rintro e aY⟨bX,rfl,sk,aa⟩;change Hid _ at sk aa;refine aL _ _ (λ_=>Gm) λhH=>eY ?_;have a7:=hH af;refine kW 8 λK aL=>?_;go_simp;refine aL _ _ (λ_=>Gm) λhH=>eY ?_;have a7:=hH af;refine kW 9 λK aL=>?_;have eZ:=I (H.out.ext (w':=aY.alloc bX) X);refine vE (ys:=ag) (c:=bO.cs) rfl (.tmp 34) (.tmp 38) 42 rfl ca _ 96 underlying42 aO.out gg.out ft.out pc.out rfl af rfl eZ.out.st.l.cg ⟨bX,r.e⟩ _ rfl (fc (cs:=bO.cs ⟨bX,r.e⟩) rfl) (bO.cN _) J af (by have:=Z.size (w1:=aY.alloc bX) (show Z w _ from X);omega) ?_;intro g dL b3 qM bW;have cv:=I bW;change Hid _ at qM;refine agK ?_;intro a6 al bo;have dJ:=bW.aB a6 (λai aj k=>eZ.out.st.l.cg.eQ a6 af ai aj k);have hx:=bW.aB al (λai aj k=>eZ.out.st.l.cg.eQ al af ai aj k);have iw:=bW.aB eZ.out.box (λai aj k=>eZ.out.st.l.cg.eQ eZ.out.box af ai aj k);have v4:=bW.aB bo (λai aj k=>eZ.out.st.l.cg.eQ bo af ai aj k);have Gn:=I dJ;have rU:=I iw;change Hid _ at v4;clear bW a6 al bo;refine zc (d:=some 39) rfl ?_;refine Le ?_;intro hH a7;refine kW 10 λK aL=>?_;go_simp;refine Le ?_;intro hH a7;refine gO 11 ?_;obtain⟨-,Tm,Tn⟩:=Sj iw;refine kW 12 λK aL=>?_;refine Bj ?_;intro _;have Y3:fO (aY.alloc bX) base bX r.e:=(sk.out.mono (by have:=Z.size (w1:=cY) (show Z w _ from X);simp;omega)).ext X;have dA:=I (eZ.out.ati cv.out qM.out Y3 (.bool true));have qT:=aG.setCell (S:=λb=>b=q) (aG.refl _ b3) (q,1) (.inl rfl) (.slice (some (g,0)) (s.l.n+1) dL);refine agL ?_;intro dw v5;have m1:=aI (o:=0) dw rfl;obtain⟨m2,m3,m4⟩:=iE v5;clear iw dJ hx Tm Tn a7;go_wp2_with fail;obtain⟨-,s',pQ,oH,ae,ak,aM⟩:=dA.out;refine(YY base q x.id s' _ pQ oH _ ae (by rw[Y1 H.out.st.ma ae.st.ma];exact an)).mono ?_;rintro e _ bC;obtain⟨rfl,mP⟩:=bC;change Hid _ at mP ak aM;clear ae m1 m2 m3 m4 dw v5 qT;go_wp2;go_ret;rw[ba.out,<-n3.out];exact agF
 ·have agM:((r.n:Int) !=(s.l.n:Int))=true:=by simp;omega
  have ba:=I (show eT d r=none from by unfold eT;rw[if_neg J,if_pos hk,if_pos (.inl j4)]);clear j4 qS mm pr zL;go_enter func136,ntmps136;go_wp2_with fail;refine Y4 ?_;exact Gl
def atq(h:xI r):r.k=1\/r.k=2\/r.k=3\/r.k=4\/r.k=5:=by
 rcases h with ⟨n,rfl,_⟩|⟨n,d,rfl,_⟩|⟨d,rfl,_⟩|⟨i,rfl,_⟩|⟨i,rfl,_⟩
 ·exact .inl rfl
 ·exact .inr (.inl rfl)
 ·exact .inr (.inr (.inl rfl))
 ·exact .inr (.inr (.inr (.inl rfl)))
 ·exact .inr (.inr (.inr (.inr rfl)))
def agO(h:xI r):mo r.e:=by
 rcases h with ⟨n,rfl,_⟩|⟨n,d,rfl,_,aD⟩|⟨d,rfl,aD⟩|⟨i,rfl,_⟩|⟨i,rfl,_⟩;exact Y5
 ·exact aD.rH
 ·exact aD.rH
 exact Y5;exact Y5
def Ix(o:Option eR):Int:=if o.isSome=true then 0 else 160
def agP(base q:Nat)(s:lZ)(d:eR)(ag ps:List bO)(x:b1)(r:gJ)(w:aC)(H:qQ w base q s d ag ps)(AP:base<=(w:Nat))(bU:h0 w x r.e)(eM:r.k≠2/\r.k≠3->x=rI)(cR:xI r)(an:ps.length<=1000000)(It:s.p.n<=1000000)(sB:s.l.n<=1000000)(pH:s.b.n<=1000000):
  aR 78 #[q,.agg #[r.k,ad (r.n:Int),x.k,x.id.b,ad x.id.l,ad x.id.s,x.c,ad x.u,x.f,x.e,r.id.b,ad r.id.l,ad r.id.s]] w (qR base q s ((eT d r).getD d) (.int .i64 (Ix (eT d r))) w):=by
 have sd:=@run_makeMap prog;change Hid _ at H bU eM cR;go_enter func78,ntmps78;go_wp2_with fail;refine(X1 x r _ (bU.ext X) eM cR).mono ?_;rintro e w1⟨cL,_,_,rfl,-,fg⟩;have ql:=I (fg.aB (show((w.alloc (.cells #[q] 173)).alloc (.cells #[r.k,ad (r.n:Int),x.k,x.id.b,ad x.id.l,ad x.id.s,x.c,ad x.u,x.f,x.e,r.id.b,ad r.id.l,ad r.id.s] 169)).heap[(w:Nat)]?=some (.cells #[q] 173)from hT));have c6:=I (fg.aB (show((w.alloc (.cells #[q] 173)).alloc (.cells #[r.k,ad (r.n:Int),x.k,x.id.b,ad x.id.l,ad x.id.s,x.c,ad x.u,x.f,x.e,r.id.b,ad r.id.l,ad r.id.s] 169)).heap[(w:Nat)+1]?=some (.cells #[r.k,ad (r.n:Int),x.k,x.id.b,ad x.id.l,ad x.id.s,x.c,ad x.u,x.f,x.e,r.id.b,ad r.id.l,ad r.id.s] 169)from hT));refine OT ?_;intro bx;have gh:=aI (o:=0) c6 rfl;have ca:=fun(v:Value)=>wz (P:=prog) underlying227 underlying3 w1 w1 rfl #[] 0 1 v rfl;have i1:=fun(v v0:Value)=>wz (P:=prog) underlying227 underlying3 w1 w1 rfl #[⟨.int .i64 1,v0,0⟩] 1 2 v rfl;have ht:=fun(v v0 v1:Value)=>wz (P:=prog) underlying227 underlying3 w1 w1 rfl #[⟨.int .i64 1,v0,0⟩,⟨.int .i64 2,v1,1⟩] 2 3 v rfl;have wA:=fun(v v0 v1 v2:Value)=>wz (P:=prog) underlying227 underlying3 w1 w1 rfl #[⟨.int .i64 1,v0,0⟩,⟨.int .i64 2,v1,1⟩,⟨.int .i64 3,v2,2⟩] 3 4 v rfl;have AD:=fun(v v0 v1 v2 v3:Value)=>wz (P:=prog) underlying227 underlying3 w1 w1 rfl #[⟨.int .i64 1,v0,0⟩,⟨.int .i64 2,v1,1⟩,⟨.int .i64 3,v2,2⟩,⟨.int .i64 4,v3,3⟩] 4 5 v rfl;clear fg;rcases atq cR with hk|hk|hk|hk|hk
 ·refine OU ?_;intro b8 lg dr;clear gh;have c4:(Instr.lookup 227 (.map (some (w1:Nat))) r.k true).run prog (w1.alloc (Obj.map #[⟨.int .i64 1,.func (.func 135) #[] #[.pointer (some (w,1,0)),w],0⟩,⟨.int .i64 2,.func (.func 136) #[] #[.pointer (some (w,1,0)),w],1⟩,⟨.int .i64 3,.func (.func 140) #[] #[.pointer (some (w,1,0)),w],2⟩,⟨.int .i64 4,.func (.func 142) #[] #[w,.pointer (some (w,1,0))],3⟩,⟨.int .i64 5,.func (.func 143) #[] #[w,.pointer (some (w,1,0))],4⟩] 5))=.ok (.tuple #[.func (.func 135) #[] #[.pointer (some (w,1,0)),w],.bool true]) (w1.alloc (Obj.map #[⟨.int .i64 1,.func (.func 135) #[] #[.pointer (some (w,1,0)),w],0⟩,⟨.int .i64 2,.func (.func 136) #[] #[.pointer (some (w,1,0)),w],1⟩,⟨.int .i64 3,.func (.func 140) #[] #[.pointer (some (w,1,0)),w],2⟩,⟨.int .i64 4,.func (.func 142) #[] #[w,.pointer (some (w,1,0))],3⟩,⟨.int .i64 5,.func (.func 143) #[] #[w,.pointer (some (w,1,0))],4⟩] 5)):=by rw[hk];exact nr (P:=prog) underlying227 underlying3 lg 1 rfl
  clear hk lg;go_wp2_with fail;refine(atl base q (w.heap.size+1) w.heap.size s d ag ps x r _ (H.ext X) (Z.aB (W:=w1) X c6) (Z.aB (W:=w1) X ql) b8).mono ?_;exact OV
 ·refine OU ?_;intro b8 lg dr;clear gh;have c4:(Instr.lookup 227 (.map (some (w1:Nat))) r.k true).run prog (w1.alloc (Obj.map #[⟨.int .i64 1,.func (.func 135) #[] #[.pointer (some (w,1,0)),w],0⟩,⟨.int .i64 2,.func (.func 136) #[] #[.pointer (some (w,1,0)),w],1⟩,⟨.int .i64 3,.func (.func 140) #[] #[.pointer (some (w,1,0)),w],2⟩,⟨.int .i64 4,.func (.func 142) #[] #[w,.pointer (some (w,1,0))],3⟩,⟨.int .i64 5,.func (.func 143) #[] #[w,.pointer (some (w,1,0))],4⟩] 5))=.ok (.tuple #[.func (.func 136) #[] #[.pointer (some (w,1,0)),w],.bool true]) (w1.alloc (Obj.map #[⟨.int .i64 1,.func (.func 135) #[] #[.pointer (some (w,1,0)),w],0⟩,⟨.int .i64 2,.func (.func 136) #[] #[.pointer (some (w,1,0)),w],1⟩,⟨.int .i64 3,.func (.func 140) #[] #[.pointer (some (w,1,0)),w],2⟩,⟨.int .i64 4,.func (.func 142) #[] #[w,.pointer (some (w,1,0))],3⟩,⟨.int .i64 5,.func (.func 143) #[] #[w,.pointer (some (w,1,0))],4⟩] 5)):=by rw[hk];exact nr (P:=prog) underlying227 underlying3 lg 2 rfl
  clear hk lg;go_wp2_with fail;refine(atp base q (w.heap.size+1) w.heap.size s d ag ps x r _ (H.ext X) (Z.aB (W:=w1) X c6) (Z.aB (W:=w1) X ql) (eh AP (Z.size X)) b8 (bU.ext X) (agO cR) an It sB).mono ?_;exact OV
 ·refine OU ?_;intro b8 lg dr;clear gh;have c4:(Instr.lookup 227 (.map (some (w1:Nat))) r.k true).run prog (w1.alloc (Obj.map #[⟨.int .i64 1,.func (.func 135) #[] #[.pointer (some (w,1,0)),w],0⟩,⟨.int .i64 2,.func (.func 136) #[] #[.pointer (some (w,1,0)),w],1⟩,⟨.int .i64 3,.func (.func 140) #[] #[.pointer (some (w,1,0)),w],2⟩,⟨.int .i64 4,.func (.func 142) #[] #[w,.pointer (some (w,1,0))],3⟩,⟨.int .i64 5,.func (.func 143) #[] #[w,.pointer (some (w,1,0))],4⟩] 5))=.ok (.tuple #[.func (.func 140) #[] #[.pointer (some (w,1,0)),w],.bool true]) (w1.alloc (Obj.map #[⟨.int .i64 1,.func (.func 135) #[] #[.pointer (some (w,1,0)),w],0⟩,⟨.int .i64 2,.func (.func 136) #[] #[.pointer (some (w,1,0)),w],1⟩,⟨.int .i64 3,.func (.func 140) #[] #[.pointer (some (w,1,0)),w],2⟩,⟨.int .i64 4,.func (.func 142) #[] #[w,.pointer (some (w,1,0))],3⟩,⟨.int .i64 5,.func (.func 143) #[] #[w,.pointer (some (w,1,0))],4⟩] 5)):=by rw[hk];exact nr (P:=prog) underlying227 underlying3 lg 3 rfl
  clear hk lg;go_wp2_with fail;refine(ato base q (w.heap.size+1) w.heap.size s d ag ps x r _ (H.ext X) (Z.aB (W:=w1) X c6) (Z.aB (W:=w1) X ql) (eh AP (Z.size X)) b8 (bU.ext X) (agO cR) an It sB).mono ?_;exact OV
 ·refine OU ?_;intro b8 lg dr;clear gh;have c4:(Instr.lookup 227 (.map (some (w1:Nat))) r.k true).run prog (w1.alloc (Obj.map #[⟨.int .i64 1,.func (.func 135) #[] #[.pointer (some (w,1,0)),w],0⟩,⟨.int .i64 2,.func (.func 136) #[] #[.pointer (some (w,1,0)),w],1⟩,⟨.int .i64 3,.func (.func 140) #[] #[.pointer (some (w,1,0)),w],2⟩,⟨.int .i64 4,.func (.func 142) #[] #[w,.pointer (some (w,1,0))],3⟩,⟨.int .i64 5,.func (.func 143) #[] #[w,.pointer (some (w,1,0))],4⟩] 5))=.ok (.tuple #[.func (.func 142) #[] #[w,.pointer (some (w,1,0))],.bool true]) (w1.alloc (Obj.map #[⟨.int .i64 1,.func (.func 135) #[] #[.pointer (some (w,1,0)),w],0⟩,⟨.int .i64 2,.func (.func 136) #[] #[.pointer (some (w,1,0)),w],1⟩,⟨.int .i64 3,.func (.func 140) #[] #[.pointer (some (w,1,0)),w],2⟩,⟨.int .i64 4,.func (.func 142) #[] #[w,.pointer (some (w,1,0))],3⟩,⟨.int .i64 5,.func (.func 143) #[] #[w,.pointer (some (w,1,0))],4⟩] 5)):=by rw[hk];exact nr (P:=prog) underlying227 underlying3 lg 4 rfl
  clear hk lg;go_wp2_with fail;refine(atn base q (w.heap.size+1) w.heap.size s d ag ps x r _ (H.ext X) (Z.aB (W:=w1) X c6) (Z.aB (W:=w1) X ql) (eh AP (Z.size X)) b8 an pH).mono ?_;exact OV
 ·refine OU ?_;intro b8 lg dr;clear gh;have c4:(Instr.lookup 227 (.map (some (w1:Nat))) r.k true).run prog (w1.alloc (Obj.map #[⟨.int .i64 1,.func (.func 135) #[] #[.pointer (some (w,1,0)),w],0⟩,⟨.int .i64 2,.func (.func 136) #[] #[.pointer (some (w,1,0)),w],1⟩,⟨.int .i64 3,.func (.func 140) #[] #[.pointer (some (w,1,0)),w],2⟩,⟨.int .i64 4,.func (.func 142) #[] #[w,.pointer (some (w,1,0))],3⟩,⟨.int .i64 5,.func (.func 143) #[] #[w,.pointer (some (w,1,0))],4⟩] 5))=.ok (.tuple #[.func (.func 143) #[] #[w,.pointer (some (w,1,0))],.bool true]) (w1.alloc (Obj.map #[⟨.int .i64 1,.func (.func 135) #[] #[.pointer (some (w,1,0)),w],0⟩,⟨.int .i64 2,.func (.func 136) #[] #[.pointer (some (w,1,0)),w],1⟩,⟨.int .i64 3,.func (.func 140) #[] #[.pointer (some (w,1,0)),w],2⟩,⟨.int .i64 4,.func (.func 142) #[] #[w,.pointer (some (w,1,0))],3⟩,⟨.int .i64 5,.func (.func 143) #[] #[w,.pointer (some (w,1,0))],4⟩] 5)):=by rw[hk];exact nr (P:=prog) underlying227 underlying3 lg 5 rfl
  clear hk lg;go_wp2_with fail;refine(atm base q (w.heap.size+1) w.heap.size s d ag ps x r _ (H.ext X) (Z.aB (W:=w1) X c6) (Z.aB (W:=w1) X ql) b8 an).mono ?_;exact OV
def atr(l:List bg)(i:aA):(rN l i).length<=l.length:=xq _ _
def ats{s s':eR}(h:eT s r=some s'):s'.ag.length<=s.ag.length+1/\s'.ps.length<=s.ps.length+1/\s'.ay.length<=s.ay.length+1:=by
 have aD:=λi=>atr s.ps i;cases S3 h with
 |cO h _=>exact⟨oN _,oN _,oN _⟩
 |entry h _ _ _=>exact⟨by simp,by have:=aD r.e.id;dsimp only;omega,Nat.le_succ _⟩
 |ua h _ _ _=>exact⟨oN _,by simp,oN _⟩
 |Ib h _ _=>exact⟨Nat.le_succ _,by have:=aD r.id;dsimp only;omega,by simp⟩
 |pN h _=>exact⟨Nat.le_succ _,by have:=aD r.id;dsimp only;omega,Nat.le_succ _⟩
def agQ{l:List gJ}:∀{s s':eR},oF s l=some s'->s'.ag.length<=s.ag.length+l.length/\s'.ps.length<=s.ps.length+l.length/\s'.ay.length<=s.ay.length+l.length:=by
 induction l with
 |nil=>intro s s' h;injection h with h;subst h;exact⟨bA _,bA _,bA _⟩
 |cons r l cI=>
  intro s _ h;rw[Ba]at h;cases aK:eT s r with
  |none=>rw[aK]at h;cases h
  |some e3=>
   rw[aK]at h;have ae:=cI h;have ak:=ats aK;rw[mv];omega
def agR(s:lZ)(d:eR)(ag ps:List bO)(x:b1)(r:gJ)(w:aC)(bb:sC w s d ag ps)(fP:Ol d)(bU:h0 w x r.e)(eM:r.k≠2/\r.k≠3->x=rI)(cR:xI r):
  aR 287 #[.agg #[.int .u64 s.cO,.slice s.l.a s.l.n s.l.c,.slice s.p.a s.p.n s.p.c,.slice s.b.a s.b.n s.b.c],.agg #[.int .i64 r.k,.int .u64 (r.n:Int),.int .i64 x.k,.int .i64 x.id.b,.int .u64 x.id.l,.int .u64 x.id.s,.int .i64 x.c,.int .u64 x.u,.slice x.f.a x.f.n x.f.c,.slice x.e.a x.e.n x.e.c,.int .i64 r.id.b,.int .u64 r.id.l,.int .u64 r.id.s]] w λe w'=>∃s' pQ oH,e=.returned (.tuple #[.agg #[.int .u64 s'.cO,.slice s'.l.a s'.l.n s'.l.c,.slice s'.p.a s'.p.n s'.p.c,.slice s'.b.a s'.b.n s'.b.c],.int .i64 (Ix (eT d r))])/\rf w' w s' ((eT d r).getD d) pQ oH/\Z w w':=by
 replace bb:=I bb;replace fP:=I fP;replace bU:=I bU;replace eM:=I eM;replace cR:=I cR;go_enter func287,ntmps287;go_wp2_with fail;refine(as6 s d ag ps _ (bb.ext X) fP).mono ?_;rintro e w1⟨e3,Y6,Y7,rfl,jK,cm⟩;have c6:=cm.aB (show(((w.alloc s).alloc (.cells #[r.k,ad (r.n:Int),x.k,x.id.b,ad x.id.l,ad x.id.s,x.c,ad x.u,x.f,x.e,r.id.b,ad r.id.l,ad r.id.s] 169)).alloc (.cells #[au,aH,aH,aH] 44)).heap[(w:Nat)+1]?=some (.cells #[r.k,ad (r.n:Int),x.k,x.id.b,ad x.id.l,ad x.id.s,x.c,ad x.u,x.f,x.e,r.id.b,ad r.id.l,ad r.id.s] 169)from hT);have h8:=cm.aB (show(((w.alloc s).alloc (.cells #[r.k,ad (r.n:Int),x.k,x.id.b,ad x.id.l,ad x.id.s,x.c,ad x.u,x.f,x.e,r.id.b,ad r.id.l,ad r.id.s] 169)).alloc (.cells #[au,aH,aH,aH] 44)).heap[(w:Nat)+1+1]?=some (.cells #[au,aH,aH,aH] 44)from hT);have lC:(w:Nat)+1+1+1<=(w1:Nat):=by have:=cm.size;simpa using this
 have a0:=((Z.refl w1).alloc e3).aB c6;obtain⟨b0,bd,hv,e6,e2,wF,vz,hW,Iy,qU,iU,agS,att⟩:=ML a0;replace jK:=I jK;replace cm:=I cm;replace c6:=I c6;replace h8:=I h8;replace lC:=I lC;clear a0;go_wp2_with fail;have dA:qQ (w1.alloc e3) (w.heap.size+1+1+1) w1 e3 d Y6 Y7:=⟨fi rfl,(jK.ext X).mono (by simp),lC⟩;have uO:=Y1 (show(Y6).map (·.d)=d.ag from jK.j9) bb.j9;have Tu:Y7.length<=200000:=by rw[<-cr (f:=(·.d)),jK.ma];exact fP.jE
 have agT:e3.l.n<=200000:=by rw[jK.ct.xQ];exact fP.xQ
 have Tv:e3.p.n<=200000:=by rw[jK.ct.jE];exact fP.jE
 have agU:e3.b.n<=200000:=by rw[jK.b.neq];exact fP.cA
 refine(agP (w.heap.size+1+1+1) w1 e3 d Y6 Y7 x r _ dA (by have:=lC.out;simp;omega) (bU.ext X) eM cR J J J J).mono ?_;rintro e lk bC;obtain⟨rfl,s',pQ,oH,ll,l4,dG⟩:=bC;have pn:=dA.cx;have wO:=(l4.block (w.heap.size+1+1) (by have:=lC.out;simp;omega) (λk=>by have:=(pn _ k).1;omega)).trans (((Z.refl w1).alloc e3).aB h8);obtain⟨_,_,_,_,_⟩:=Ci wO;obtain⟨_,_,_,_⟩:=vx ll.box;replace ll:=I ll;replace l4:=I l4;replace wO:=I wO;replace dA:=I dA;clear dG pn b0 bd hv e6 e2 wF vz hW Iy qU iU agS att;go_wp2_with fail;have u0:=wO.out;(have f0:=K9 u0 (ad s'.cO) s'.l s'.p s'.b;have iy:=CE (S:=λx=>x=(w:Nat)+1+1) (aG.refl _ lk) (R:=(w:Nat)+1+1) (.inl rfl) (ad s'.cO) s'.l s'.p s'.b;have z0:=aI (o:=0) f0 rfl;have cU:=aI (o:=1) f0 rfl;have z2:=aI (o:=2) f0 rfl;have z3:=aI (o:=3) f0 rfl);refine bodyPost_ret (v:=.tuple #[.agg #[.int .u64 s'.cO,.slice s'.l.a s'.l.n s'.l.c,.slice s'.p.a s'.p.n s'.p.c,.slice s'.b.a s'.b.n s'.b.c],.int .i64 (Ix (eT d r))]) (by simp[results,results287,go_sem,z0,cU,z2,z3]) rfl ⟨s',pQ,oH,rfl,(ll.st.Er u0 iy).mono J,iy.ext (W:=w) (λb aa=>by subst aa;omega) (l4.ext (W:=w) (λb aa=>by have:=(dA.cx b aa).1;omega) X)⟩
end Go.Proofs.YtfiiblnenhdlhaaGreat
