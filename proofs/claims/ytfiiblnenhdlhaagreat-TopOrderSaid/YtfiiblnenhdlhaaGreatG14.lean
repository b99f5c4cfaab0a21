/- Part. -/
import Derived.Test.YtfiiblnenhdlhaaGreatG13
set_option linter.unusedVariables false
set_option linter.unusedSimpArgs false
set_option linter.defProp false
set_option maxRecDepth 100000
set_option maxHeartbeats 4000000
namespace Go.Proofs.YtfiiblnenhdlhaaGreat
open Go.RowKit Tryz
variable {cl:Int}{dk:List gJ}{l:List lz}{B N b b6 base fw k n p q:Nat}{D F M O:Nat->Prop}{cD:Option Addr}{P:Program}{α:Type}{e:TypeId}{u:Value}{w w':World}{aU:aZ}{c:bt}{s':eR}
def azA{v:Value}{t:TypeId}(h:w.heap[b]?=some (.cells #[v] t (0,0))):w.cell? (b,0)=some v:=aI h rfl
def VI(i:Int)(h:w.heap[B]?=some (.cells #[aq cD n fw] 22 (0,0)))(an:n<=1000):
  aR 114 #[i,B] w λe w'=>e=.returned (.bool (decide (0<=i/\i<n)))/\Z w w':=by
 have cT:=azA h;go_enter func114,ntmps114;go_wp2_with fail;all_goals (try go_region)
 all_goals (try go_wp2)
 all_goals (try go_ret)
 all_goals (refine⟨?_,Z.refl _⟩;simp;try omega)
def fl.Hd{k:TypeId}{s:Nat}{f:Lit->Option Value}(h:fl w P k b n s f):∃aS k,w.heap[b]?=some (.map aS k):=by
 obtain⟨D,⟨aS,clock,ae,_⟩,_⟩:=h;exact⟨aS,clock,ae⟩
structure wo (bp yw:World) (c:bt) (ee ek ea gB gC gD m7 m8:Nat):Prop where
 ext:Z bp yw
 cD:Own yw bp.heap.size 3 1 dD (some ⟨ee,0,none⟩) ek ea c.ps
 aj:Own yw bp.heap.size 3 1 dD (some ⟨gB,0,none⟩) gC gD c.hs
 f7:fl yw prog 3 m7 0 0 (λ_=>none)
 f8:fl yw prog 54 m8 0 0 (λ_=>none)
 VJ:bp.heap.size<=m7
 Mp:bp.heap.size<=m8
 gQ:m7≠m8
def hK(ee ek ea gB gC gD m7 m8 eS:Nat)(cu:lZ):tK:=⟨⟨some ⟨ee,0,none⟩,ek,ea⟩,⟨some ⟨gB,0,none⟩,gC,gD⟩,eS,cu,⟨none,0,0⟩,m7,⟨none,0,0⟩,m8,⟨none,0,0⟩⟩
def Mq(M:Nat->Prop)(p m7 m8:Nat):Nat->Prop:=λx=>M x\/x=p\/x=m7\/x=m8
def wo.Qz{bp yw:aC}{ee ek ea gB gC gD m7 m8 eS:Nat}{cu:lZ}{s:eR}{L:ff}(h:wo bp yw c ee ek ea gB gC gD m7 m8)(hs:s'={s with l:=s.l+1})(fH:qf bp M D L eS q ((xP s').map gl) (gb ((xP s').map gl)).length c.room)(a8:dq M bp (λw=>∃ag ps,sC w cu s' ag ps))(pn:∀x,L x->O x)(aK:∀x,O x->M x)(zv:∀x,D x->¬O x)(U:Z yw w')(aV:(yw:Nat)<=p)(aa:w'.heap[p]?=some (.cells #[bh ((qj b6 s).b6:Int),.slice (hK ee ek ea gB gC gD m7 m8 eS cu).cD.a (hK ee ek ea gB gC gD m7 m8 eS cu).cD.n (hK ee ek ea gB gC gD m7 m8 eS cu).cD.c,.slice (hK ee ek ea gB gC gD m7 m8 eS cu).aj.a (hK ee ek ea gB gC gD m7 m8 eS cu).aj.n (hK ee ek ea gB gC gD m7 m8 eS cu).aj.c,.pointer (some ((hK ee ek ea gB gC gD m7 m8 eS cu).eS,0)),ad (hK ee ek ea gB gC gD m7 m8 eS cu).s.cO,.slice (hK ee ek ea gB gC gD m7 m8 eS cu).s.l.a (hK ee ek ea gB gC gD m7 m8 eS cu).s.l.n (hK ee ek ea gB gC gD m7 m8 eS cu).s.l.c,.slice (hK ee ek ea gB gC gD m7 m8 eS cu).s.p.a (hK ee ek ea gB gC gD m7 m8 eS cu).s.p.n (hK ee ek ea gB gC gD m7 m8 eS cu).s.p.c,.slice (hK ee ek ea gB gC gD m7 m8 eS cu).s.b.a (hK ee ek ea gB gC gD m7 m8 eS cu).s.b.n (hK ee ek ea gB gC gD m7 m8 eS cu).s.b.c,.slice (hK ee ek ea gB gC gD m7 m8 eS cu).tx.a (hK ee ek ea gB gC gD m7 m8 eS cu).tx.n (hK ee ek ea gB gC gD m7 m8 eS cu).tx.c,ad ((qj b6 s).ev:Int),.map (some (hK ee ek ea gB gC gD m7 m8 eS cu).kY),.slice (hK ee ek ea gB gC gD m7 m8 eS cu).eN.a (hK ee ek ea gB gC gD m7 m8 eS cu).eN.n (hK ee ek ea gB gC gD m7 m8 eS cu).eN.c,.map (some (hK ee ek ea gB gC gD m7 m8 eS cu).tm),.slice (hK ee ek ea gB gC gD m7 m8 eS cu).cW.a (hK ee ek ea gB gC gD m7 m8 eS cu).cW.n (hK ee ek ea gB gC gD m7 m8 eS cu).cW.c] 160 (0,0))):
  rp w' (Mq M p m7 m8) D (Mq O p m7 m8) c p q (qj b6 s):=by
 have ix:=h.ext.trans U;have bf:=h.ext.size;have iZ:=h.f7.lt;have fs:=h.f8.lt;have tq:=bT aa;have ho:∀x,M x->x<(bp:Nat):=fH.cx;have azB:∀x,Mq M p m7 m8 x->x<(w':Nat):=λx U=>by
  rcases U with k|k|k|k
  ·have:=ho x k;omega
  ·omega
  ·omega
  ·omega
 have bc:b4 bp M (Mq M p m7 m8):=⟨λx k=>.inl k,λx k=>k.imp id (λk=>by have:=h.VJ;have:=h.Mp;omega)⟩;have eO:∀{g n k:Nat}{xs:List Int},Own yw bp 3 1 dD (some (g,0)) n k xs->dq (Mq M p m7 m8) w' (λw=>a1 w 1 dD (some (g,0)) n k xs):=λ{g n k xs} dO=>by
  refine((dO.ext U).pJ (λai aj hm=>?_)).mono (λw k=>k.aF);cases aj;have ae:=dO.lt _ rfl;rcases hm with z|z|z|z
  ·have:=ho _ z;omega
  ·omega
  ·exact(dO.C8 h.f7.Hd) _ rfl z
  ·exact(dO.C8 h.f8.Hd) _ rfl z
 subst hs;refine⟨hK ee ek ea gB gC gD m7 m8 eS cu,aa,?_,⟨L,fH.step (S:=λ_=>False) (aG.of ix) (λ_ k=>k.elim) (λ_ _ k=>k) bc azB,λx k=>.inl (pn x k),?_,?_,?_⟩,?_,?_,⟨.inr (.inl rfl),.inr (.inr (.inl rfl)),.inr (.inr (.inr rfl))⟩,?_,?_,⟨?_,?_,h.gQ⟩⟩
 ·have ec:dq (Mq M p m7 m8) w' (λw=>∃ag ps,sC w cu {s with l:=s.l+1} ag ps):=a8.step (aG.of ix) bc;exact(((eO h.cD).and (eO h.aj)).and ec).mono (λw k=>⟨k.1.1,k.1.2,k.2,⟨[],(qm.nil w 0).cg.aF|>λz=>⟨z,λp aV=>by cases aV⟩,rfl⟩,(Own.nil w 0 54 aA.bH).aF,⟨[],(Own.nil w 0 66 bO.bH).aF,(λp aV=>by cases aV),rfl⟩⟩)
 ·intro k;have:=ho _ (aK _ (pn _ k));omega
 ·intro k;have:=ho m7 (aK m7 (pn m7 k));have:=h.VJ;omega
 ·intro k;have:=ho m8 (aK m8 (pn m8 k));have:=h.Mp;omega
 ·exact⟨0,0,λ_=>none,[],h.f7.ext U,⟨xX,λk hk=>by cases hk⟩,rfl,rfl,λk _=>⟨by simp,rfl⟩⟩
 ·exact⟨0,0,λ_=>none,h.f8.ext U,rfl,rfl,λk hk=>absurd hk (Nat.not_lt_zero _),λ_ _ z=>by cases z⟩
 ·exact λx k=>k.imp (aK x) id
 ·intro x aD k;have cb:=ho x (fH.sub x (.inl aD));have ey:=h.VJ;have tQ:=h.Mp;rcases k with k|k|k|k
  ·exact zv x aD k
  ·omega
  ·omega
  ·omega
 ·show p≠m7;omega
 ·show p≠m8;omega
def wo.wb{wr bp yw:aC}{ee ek ea gB gC gD m7 m8 eS:Nat}{cu:lZ}{s:eR}{kq nU L:ff}(h:wo bp yw c ee ek ea gB gC gD m7 m8)(hs:s'={s with l:=s.l+1})(fH:qf bp kq nU L eS q ((xP s').map gl) (gb ((xP s').map gl)).length c.room)(a8:dq kq bp (λw=>∃ag ps,sC w cu s' ag ps))(pn:∀x,L x->O x)(aK:∀x,O x->(wr:Nat)<=x/\kq x)(zv:∀x,nU x->¬O x)(mw:Z w wr)(al:aG D wr bp)(aD:b4 wr D nU)(hm:b4 wr M kq)(aJ:∀x,kq x->M x\/nU x\/O x)(U:Z yw w')(aV:(yw:Nat)<=p)(aa:w'.heap[p]?=some (.cells #[bh ((qj b6 s).b6:Int),.slice (hK ee ek ea gB gC gD m7 m8 eS cu).cD.a (hK ee ek ea gB gC gD m7 m8 eS cu).cD.n (hK ee ek ea gB gC gD m7 m8 eS cu).cD.c,.slice (hK ee ek ea gB gC gD m7 m8 eS cu).aj.a (hK ee ek ea gB gC gD m7 m8 eS cu).aj.n (hK ee ek ea gB gC gD m7 m8 eS cu).aj.c,.pointer (some ((hK ee ek ea gB gC gD m7 m8 eS cu).eS,0)),ad (hK ee ek ea gB gC gD m7 m8 eS cu).s.cO,.slice (hK ee ek ea gB gC gD m7 m8 eS cu).s.l.a (hK ee ek ea gB gC gD m7 m8 eS cu).s.l.n (hK ee ek ea gB gC gD m7 m8 eS cu).s.l.c,.slice (hK ee ek ea gB gC gD m7 m8 eS cu).s.p.a (hK ee ek ea gB gC gD m7 m8 eS cu).s.p.n (hK ee ek ea gB gC gD m7 m8 eS cu).s.p.c,.slice (hK ee ek ea gB gC gD m7 m8 eS cu).s.b.a (hK ee ek ea gB gC gD m7 m8 eS cu).s.b.n (hK ee ek ea gB gC gD m7 m8 eS cu).s.b.c,.slice (hK ee ek ea gB gC gD m7 m8 eS cu).tx.a (hK ee ek ea gB gC gD m7 m8 eS cu).tx.n (hK ee ek ea gB gC gD m7 m8 eS cu).tx.c,ad ((qj b6 s).ev:Int),.map (some (hK ee ek ea gB gC gD m7 m8 eS cu).kY),.slice (hK ee ek ea gB gC gD m7 m8 eS cu).eN.a (hK ee ek ea gB gC gD m7 m8 eS cu).eN.n (hK ee ek ea gB gC gD m7 m8 eS cu).eN.c,.map (some (hK ee ek ea gB gC gD m7 m8 eS cu).tm),.slice (hK ee ek ea gB gC gD m7 m8 eS cu).cW.a (hK ee ek ea gB gC gD m7 m8 eS cu).cW.n (hK ee ek ea gB gC gD m7 m8 eS cu).cW.c] 160 (0,0))):
  ∃M' bP bZ,rp w' M' bP bZ c p q (qj b6 s)/\aG D w w'/\b4 w D bP/\b4 w M M'/\(∀x,M' x->M x\/bP x\/bZ x)/\(∀x,bZ x->(w:Nat)<=x):=by
 have cU:=mw.size;have z2:=al.size;have z3:=h.ext.size;have z4:=h.VJ;have z5:=h.Mp;refine⟨_,_,_,h.Qz hs fH a8 pn (λx k=>(aK x k).2) zv U aV aa,((aG.of mw).trans al).trans (aG.of (h.ext.trans U)),⟨aD.up,λx k=>(aD.new x k).imp id (λz=>by omega)⟩,⟨λx k=>.inl (hm.up x k),λx k=>?_⟩,λx k=>?_,λx k=>?_⟩
 ·rcases k with k|k
  ·exact(hm.new x k).imp id (λz=>by omega)
  ·exact .inr J
 ·rcases k with k|k
  ·exact(aJ x k).imp id (λz=>z.imp id .inl)
  ·exact .inr (.inr (.inr k))
 ·rcases k with k|k
  ·have:=(aK x k).1;omega
  ·omega
structure alB (c:bt) (b6:Nat):Prop where
 DZ:jn c.ps=true
 b6:b6<c.ps.length
 ps:c.ps.length<=16
 ae:1<=c.hs.length
 LD:c.hs.length<=32
 hs:∀h,h∈c.hs->0<=h/\h<c.ps.length
def azC{eL an ao:Nat}{aj:bk}{s:eR}(Jz:dq M w (λw=>a1 w 1 dD cD eL fw c.ps))(JA:dq M w (λw=>a1 w 1 dD aj an ao c.hs))(yv:alB c b6)(H:ly w D q (gb (dk.map gl)) (gb (dk.map gl)).length c.room)(bL:Vn c dk s s')(av:∀x,D x->M x)(tE:∀x,M x->x<(w:Nat)):
  aR 66 #[(b6:Int),aq cD eL fw,aq aj an ao,q] w λe w'=>∃(p:Nat) (M' bP bZ:ff),e=.returned (.tuple #[p,ar])/\rp w' M' bP bZ c p q (qj b6 s)/\
   aG D w w'/\b4 w D bP/\b4 w M M'/\(∀x,M' x->M x\/bP x\/bZ x)/\(∀x,bZ x->(w:Nat)<=x):=by
 obtain rfl:=Jz.dQ.neq;obtain rfl:=JA.dQ.neq;have pv:=I Jz.dQ;have Mr:=I JA.dQ;have uo:=yv.b6;have sN:=yv.ps;have Ar:=yv.ae;have VK:=yv.LD;replace yv:=I yv;replace H:=I H;replace bL:=I bL;replace av:=I av;replace tE:=I tE;replace Jz:=I Jz;replace JA:=I JA;go_enter func66,ntmps66;go_wp2_with fail;have cS:Z w (w.alloc (.cells #[aq cD c.ps.length fw] 22)):=X;have fX:(w.alloc (.cells #[aq cD c.ps.length fw] 22)).heap[(w:Nat)]?=some (.cells #[aq cD c.ps.length fw] 22):=fi rfl;obtain⟨bs,hI⟩:∃bs,w.alloc (.cells #[aq cD c.ps.length fw] 22)=bs:=⟨_,rfl⟩;have iB:(bs:Nat)=(w:Nat)+1:=by subst hI;simp
 rw[hI]at cS fX ⊢;replace cS:=I cS;replace fX:=I fX;replace iB:=I iB;clear hI;refine(KH cD c.ps.length fw c.ps _ (pv.ext cS)).mono ?_;rintro e _⟨rfl,bx⟩;rw[yv.DZ];have CO:Cr true=0:=rfl;rw[CO];replace bx:=I bx;clear CO;go_wp2_with fail;refine(VI (b6:Int) ((bx.aB fX)) J).mono ?_;rintro e _⟨rfl,cj⟩;rw[show decide ((0:Int)<=b6/\(b6:Int)<c.ps.length)=true from mS ⟨J,J⟩];have bz:=I (bx.trans cj);clear cj;go_wp2_with fail;go_loopg [13,43] (c.hs.length) (λg bo dN wr=>∃k:Nat,g+k=c.hs.length/\dN=.int .i64 (k:Int)/\Hid (Z bs wr));case atStart=>exact⟨0,J,rfl,bz⟩
 case round=>
  obtain⟨k,_,rfl,U⟩:=hrel;by_cases hk:k<c.hs.length
  ·obtain⟨_,o,rfl,fW⟩:=Mr.get k hk;have d0:=AI (x:=c.hs[k]) fW;rw[jT]at d0;replace d0:=(cS.trans U).ah d0;have b0:(0:Int)<=(k:Int):=J;have bd:(k:Int)<(c.hs.length:Int):=J;obtain⟨g0,g1⟩:=yv.hs _ (c7 hk);clear fW;go_wp2_with fail;refine(VI c.hs[k] (U.aB fX) J).mono ?_;rintro e _⟨rfl,eX⟩;rw[mS ⟨g0,g1⟩];replace eX:=I eX;go_wp2_with fail;go_roundg (gk - 1);case measure=>omega
   case rel=>exact⟨k+1,J,by go_num,U.trans eX⟩
  ·have ic:=I U;clear U;have oK:¬((k:Int)<(c.hs.length:Int)):=J;go_wp2_with fail;have yj:=I (cS.trans ic);refine(ayG (M:=M) (D:=D) (c:=c) (q:=q) (dk:=dk) (s:=s) (s':=s') (w:=wr) (H.ext yj) bL av (λx U=>gw (tE x U) yj.size)).mono ?_;rintro e bp⟨_,cu,_,_,_,_,rfl,vn,QA,pj,q9,zo,QB,QC,hj,QD⟩;replace vn:=I vn;replace QA:=I QA;replace pj:=I pj;replace q9:=I q9;replace zo:=I zo;replace QB:=I QB;replace QC:=I QC;replace hj:=I hj;replace QD:=I QD;go_wp2_with fail;obtain⟨cW,rY⟩:∃cW,bp.alloc cu=cW:=⟨_,rfl⟩;have EU:=I (show Z bp cW from by subst rY;exact X);have iv:Z bp cW:=EU.out;have IS:=I (show cW.heap[(bp:Nat)]?=some (cu:Obj)from by subst rY;exact fi rfl);rw[rY];clear rY;have Al:bp.heap[(w:Nat)]?=some (.cells #[aq cD c.ps.length fw] 22):=(pj.block _ (bT (ic.aB fX)) (λk=>by have:=tE.out _ (av _ k);omega)).trans (ic.aB fX);have Pn:Hid (cW.cell? (w,0)=some ↑(aq cD c.ps.length fw)):=aI (o:=0) (iv.aB Al) rfl;have PP:aG M w bp:=(aG.of yj).trans (pj.mono (λx _ k=>av x k));have tD:=I ((Jz bp PP).ext iv);have Rd:=I ((JA bp PP).ext iv);clear PP;clear Al iv;obtain⟨ca,bJ,bF,bG,bK⟩:=info_parts S0;replace bJ:=I bJ;replace bF:=I bF;replace bG:=I bG;replace bK:=I bK;refine sI (λw'=>w'.cell? (w,0)=some ↑(aq cD c.ps.length fw)/\w'.heap[(bp:Nat)]?=some (cu:Obj)) (λa7=>?_) (by(try dsimp only);exact⟨Z.ah (W:=cW) X Pn,Z.aB (W:=cW) X IS⟩);refine cX 0 ?_;refine Bf 1 (·.1) ?_;refine cX 3 ?_;refine cX 5 ?_;refine lA 6 (·.2) ?_;obtain⟨aU,So⟩:∃aU,cW.drew=aU:=⟨_,rfl⟩;have aCX:=I (show Z cW aU from by subst So;exact X);rw[So]at a7 ⊢;clear So;refine wpAnyH_ready (rs:= [2,7,8]) bV (by simp) ?_;refine AllReadyH.cons rfl (λK aL=>?_) (AllReadyH.cons rfl (λK aL=>?_) (AllReadyH.cons rfl (λK aL=>?_) AllReadyH.nil))
   ·
    refine H6 (ys0:= []) (ys:=c.ps) (c:=dD) rfl (.const aH) (.tmp 62) 22 3 rfl ca _ 8 underlying22 bJ bF bG bK rfl af rfl (Own.nil (aU) bp 3 dD.rM) (show Z bp _ from X).size rfl (tD.ext X) dD.nt J af J ?_;intro ee ea et mE bW;simp only[om]at mE ⊢;have He:=I (bW.ext (Own.nil (aU) (aU).heap.size 3 dD.rM) (bA _) (Z.refl (aU)));replace mE:=I mE;clear bW;refine js ?_;intro a7;refine wpAnyH_ready (rs:= [4,7,8]) bV (by simp) ?_;refine AllReadyH.cons rfl (λK aL=>?_) (AllReadyH.cons rfl (λK aL=>?_) (AllReadyH.cons rfl (λK aL=>?_) AllReadyH.nil))
    ·
     refine QE ?_;intro hd kV fh tC im;refine js ?_;intro a7;refine wpAnyH_ready (rs:= [7,8]) bV (by simp) ?_;refine AllReadyH.cons rfl (λK aL=>?_) (AllReadyH.cons rfl (λK aL=>?_) AllReadyH.nil)
     ·
      refine uD ?_;refine ST ?_;intro df iq yx;refine js ?_;intro a7;refine hE 8 λK aL=>?_;refine uD ?_;refine SW ?_;intro eb jA vb;refine js ?_;intro a7;have kZ:wo bp (eb) c ee c.ps.length ea hd c.hs.length kV (fh).heap.size (df).heap.size:=⟨X,mE.ext X,im.ext X,iq.ext X,jA.ext X,(show Z bp (fh)from X).size,(show Z bp (df)from X).size,sv (gw iq.lt (show Z df (df)from X).size)⟩;replace kZ:=I kZ;refine ye ?_;intro K aL;refine js ?_;intro a7;exact UV
     ·
      refine uD ?_;refine WF ?_;intro eb jA vb;refine js ?_;intro a7;refine hE 7 λK aL=>?_;refine uD ?_;refine WP ?_;intro df iq yx;refine js ?_;intro a7;have kZ:wo bp (df) c ee c.ps.length ea hd c.hs.length kV (eb).heap.size (fh).heap.size:=⟨X,mE.ext X,im.ext X,iq.ext X,jA.ext X,(show Z bp (eb)from X).size,(show Z bp (fh)from X).size,Ms (gw jA.lt (show Z eb (eb)from X).size)⟩;replace kZ:=I kZ;refine ye ?_;intro K aL;refine js ?_;intro a7;exact aaa
    ·
     refine uD ?_;refine alC ?_;intro df iq yx;refine js ?_;intro a7;refine wpAnyH_ready (rs:= [4,8]) bV (by simp) ?_;refine AllReadyH.cons rfl (λK aL=>?_) (AllReadyH.cons rfl (λK aL=>?_) AllReadyH.nil)
     ·
      refine aab ?_;intro hd kV fh tC im;refine js ?_;intro a7;refine hE 8 λK aL=>?_;refine uD ?_;refine WF ?_;intro eb jA vb;refine js ?_;intro a7;have kZ:wo bp (eb) c ee c.ps.length ea hd c.hs.length kV (et).heap.size (fh).heap.size:=⟨X,mE.ext X,im.ext X,iq.ext X,jA.ext X,(show Z bp (et)from X).size,(show Z bp (fh)from X).size,sv (gw iq.lt (show Z df (fh)from X).size)⟩;replace kZ:=I kZ;refine ye ?_;intro K aL;refine js ?_;intro a7;exact UV
     ·
      refine uD ?_;refine SW ?_;intro eb jA vb;refine js ?_;intro a7;refine hE 4 λK aL=>?_;refine aac ?_;intro hd kV fh tC im;refine js ?_;intro a7;have kZ:wo bp (fh) c ee c.ps.length ea hd c.hs.length kV (et).heap.size (df).heap.size:=⟨X,mE.ext X,im.ext X,iq.ext X,jA.ext X,(show Z bp (et)from X).size,(show Z bp (df)from X).size,sv (gw iq.lt (show Z df (df)from X).size)⟩;replace kZ:=I kZ;refine ye ?_;intro K aL;refine js ?_;intro a7;exact Mt
    ·
     refine uD ?_;refine alD ?_;intro eb jA vb;refine js ?_;intro a7;refine wpAnyH_ready (rs:= [4,7]) bV (by simp) ?_;refine AllReadyH.cons rfl (λK aL=>?_) (AllReadyH.cons rfl (λK aL=>?_) AllReadyH.nil)
     ·
      refine aac ?_;intro hd kV fh tC im;refine js ?_;intro a7;refine hE 7 λK aL=>?_;refine uD ?_;refine ST ?_;intro df iq yx;refine js ?_;intro a7;have kZ:wo bp (df) c ee c.ps.length ea hd c.hs.length kV (fh).heap.size (et).heap.size:=⟨X,mE.ext X,im.ext X,iq.ext X,jA.ext X,(show Z bp (fh)from X).size,(show Z bp (et)from X).size,Ms (gw jA.lt (show Z eb (fh)from X).size)⟩;replace kZ:=I kZ;refine ye ?_;intro K aL;refine js ?_;intro a7;exact aaa
     ·
      refine uD ?_;refine WP ?_;intro df iq yx;refine js ?_;intro a7;refine hE 4 λK aL=>?_;refine aab ?_;intro hd kV fh tC im;refine js ?_;intro a7;have kZ:wo bp (fh) c ee c.ps.length ea hd c.hs.length kV (eb).heap.size (et).heap.size:=⟨X,mE.ext X,im.ext X,iq.ext X,jA.ext X,(show Z bp (eb)from X).size,(show Z bp (et)from X).size,Ms (gw jA.lt (show Z eb (eb)from X).size)⟩;replace kZ:=I kZ;refine ye ?_;intro K aL;refine js ?_;intro a7;exact Mt
   ·
    refine uD ?_;obtain⟨df,kK⟩:∃qC,(aU).alloc (.map #[] 0)=qC:=⟨_,rfl⟩;have iq:=I (show fl df prog 3 (aU).heap.size 0 0 (λ_=>none)from by subst kK;exact fl.CL _ _ _);have yx:=I (show Z (aU) df from by subst kK;exact X);rw[kK];clear kK;refine js ?_;intro a7;refine wpAnyH_ready (rs:= [2,8]) bV (by simp) ?_;refine AllReadyH.cons rfl (λK aL=>?_) (AllReadyH.cons rfl (λK aL=>?_) AllReadyH.nil)
    ·
     refine alE ?_;intro ee ea et He mE;refine js ?_;intro a7;refine wpAnyH_ready (rs:= [4,8]) bV (by simp) ?_;refine AllReadyH.cons rfl (λK aL=>?_) (AllReadyH.cons rfl (λK aL=>?_) AllReadyH.nil)
     ·
      refine QE ?_;intro hd kV fh tC im;refine js ?_;intro a7;refine hE 8 λK aL=>?_;refine uD ?_;refine WF ?_;intro eb jA vb;refine js ?_;intro a7;have kZ:wo bp (eb) c ee c.ps.length ea hd c.hs.length kV (aU).heap.size (fh).heap.size:=⟨X,mE.ext X,im.ext X,iq.ext X,jA.ext X,(show Z bp (aU)from X).size,(show Z bp (fh)from X).size,sv (gw iq.lt (show Z df (fh)from X).size)⟩;replace kZ:=I kZ;refine ye ?_;intro K aL;refine js ?_;intro a7;exact UV
     ·
      refine uD ?_;refine alD ?_;intro eb jA vb;refine js ?_;intro a7;refine hE 4 λK aL=>?_;refine aac ?_;intro hd kV fh tC im;refine js ?_;intro a7;have kZ:wo bp (fh) c ee c.ps.length ea hd c.hs.length kV (aU).heap.size (et).heap.size:=⟨X,mE.ext X,im.ext X,iq.ext X,jA.ext X,(show Z bp (aU)from X).size,(show Z bp (et)from X).size,sv (gw iq.lt (show Z df (et)from X).size)⟩;replace kZ:=I kZ;refine ye ?_;intro K aL;refine js ?_;intro a7;exact Mt
    ·
     refine uD ?_;refine SW ?_;intro eb jA vb;refine js ?_;intro a7;refine hE 2 λK aL=>?_;refine alF ?_;intro ee ea et He mE;refine js ?_;intro a7;refine hE 4 λK aL=>?_;refine QE ?_;intro hd kV fh tC im;refine js ?_;intro a7;have kZ:wo bp (fh) c ee c.ps.length ea hd c.hs.length kV (aU).heap.size (df).heap.size:=⟨X,mE.ext X,im.ext X,iq.ext X,jA.ext X,(show Z bp (aU)from X).size,(show Z bp (df)from X).size,sv (gw iq.lt (show Z df (df)from X).size)⟩;replace kZ:=I kZ;refine ye ?_;intro K aL;refine js ?_;intro a7;exact Mt
   ·
    refine uD ?_;obtain⟨eb,kK⟩:∃qC,(aU).alloc (.map #[] 0)=qC:=⟨_,rfl⟩;have jA:=I (show fl eb prog 54 (aU).heap.size 0 0 (λ_=>none)from by subst kK;exact fl.CL _ _ _);have vb:=I (show Z (aU) eb from by subst kK;exact X);rw[kK];clear kK;refine js ?_;intro a7;refine wpAnyH_ready (rs:= [2,7]) bV (by simp) ?_;refine AllReadyH.cons rfl (λK aL=>?_) (AllReadyH.cons rfl (λK aL=>?_) AllReadyH.nil)
    ·
     refine alF ?_;intro ee ea et He mE;refine js ?_;intro a7;refine wpAnyH_ready (rs:= [4,7]) bV (by simp) ?_;refine AllReadyH.cons rfl (λK aL=>?_) (AllReadyH.cons rfl (λK aL=>?_) AllReadyH.nil)
     ·
      refine QE ?_;intro hd kV fh tC im;refine js ?_;intro a7;refine hE 7 λK aL=>?_;refine uD ?_;refine ST ?_;intro df iq yx;refine js ?_;intro a7;have kZ:wo bp (df) c ee c.ps.length ea hd c.hs.length kV (fh).heap.size (aU).heap.size:=⟨X,mE.ext X,im.ext X,iq.ext X,jA.ext X,(show Z bp (fh)from X).size,(show Z bp (aU)from X).size,Ms (gw jA.lt (show Z eb (fh)from X).size)⟩;replace kZ:=I kZ;refine ye ?_;intro K aL;refine js ?_;intro a7;exact aaa
     ·
      refine uD ?_;refine alC ?_;intro df iq yx;refine js ?_;intro a7;refine hE 4 λK aL=>?_;refine aab ?_;intro hd kV fh tC im;refine js ?_;intro a7;have kZ:wo bp (fh) c ee c.ps.length ea hd c.hs.length kV (et).heap.size (aU).heap.size:=⟨X,mE.ext X,im.ext X,iq.ext X,jA.ext X,(show Z bp (et)from X).size,(show Z bp (aU)from X).size,Ms (gw jA.lt (show Z eb (et)from X).size)⟩;replace kZ:=I kZ;refine ye ?_;intro K aL;refine js ?_;intro a7;exact Mt
    ·
     refine uD ?_;refine WP ?_;intro df iq yx;refine js ?_;intro a7;refine hE 2 λK aL=>?_;refine alE ?_;intro ee ea et He mE;refine js ?_;intro a7;refine hE 4 λK aL=>?_;refine QE ?_;intro hd kV fh tC im;refine js ?_;intro a7;have kZ:wo bp (fh) c ee c.ps.length ea hd c.hs.length kV (eb).heap.size (aU).heap.size:=⟨X,mE.ext X,im.ext X,iq.ext X,jA.ext X,(show Z bp (eb)from X).size,(show Z bp (aU)from X).size,Ms (gw jA.lt (show Z eb (eb)from X).size)⟩;replace kZ:=I kZ;refine ye ?_;intro K aL;refine js ?_;intro a7;exact Mt
def rp.pB{bZ:ff}{b:az}(h:rp w M D O c p q b)(hs:∀x,O x->bZ x)(hm:∀x,bZ x->M x)(aD:∀x,D x->¬bZ x):rp w M D bZ c p q b:=by
 obtain⟨v,h⟩:=h;obtain⟨L,ae,ak,aM⟩:=h.dk;exact⟨v,h.box,h.lR,⟨L,ae,λx k=>hs x (ak x k),aM⟩,h.gx,h.yf,⟨hs _ h.bI.1,hs _ h.bI.2.1,hs _ h.bI.2.2⟩,hm,aD,h.gQ⟩
def azD(ao:jL c)(an:n<c.ps.length):alB c n:=⟨ao.toka.rQ,an,Fm ao.toka,ao.an.1,ao.an.2,ao.xU⟩
structure aad (w w':World) (M M':Nat->Prop) (c:bt) (n:Nat) (bR ns':Nat->n1) (v:qY) (p q:Nat->Nat) (D O:Nat->Nat->Prop) (eL:Nat) (bP bZ:Nat->Prop):Prop where
 al:aG (λx=>(D n x\/O n x)\/x=v.dg) w w'
 jw:b4 w (D n) bP
 dO:b4 w (O n) bZ
 bc:b4 w M M'
 aT:∀x,M' x->x<w'.heap.size
 hs:∀x,bP x\/bZ x->M' x
 zv:∀x,bP x->¬bZ x
 sm:BN w' M' bP bZ c eL (q n) (ns' n)
 lg:tH w' v.dg c.ps.length (mi ns' (λk=>if k=n then eL else p k))
def C9(bR:Nat->n1)(n:Nat)(x:n1):Nat->n1:=λk=>if k=n then x else bR k
def azE{P:Nat}{bR:Nat->n1}{cur:Nat->Nat}{v:qY}{p q:Nat->Nat}{D O:Nat->Nat->Prop}{W:ff}(H:lG w M c P bR cur v p q D O W)(cn:jL c)(an:n<c.ps.length){s:eR}(cB:bR n=.down dk)(bL:Vn c dk s s'):
  aR 31 #[P,(n:Int)] w λe w'=>∃M' bP bZ eL,e=.returned ar/\aad w w' M M' c n bR (C9 bR n (.up (qj n s))) v p q D O eL bP bZ:=by
 have ny:=Fm cn.toka;have alv:ly w (D n) (q n) (gb (dk.map gl)) (gb (dk.map gl)).length c.room/\H5 (dk.map gl):=by have:=H.qs n an;rw[cB]at this;exact this
 have aae:=I alv.1;have fM:n<v.aX.n:=by rw[H.lR.dQ.2.2.neq];simp;omega
 obtain⟨_,o,qq,fW⟩:=H.lR.dQ.2.2.get n (by simpa using an);have qX:=fW 0 _ rfl;rw[jT,Et,Qy]at qX;simp only[uY]at qX;have oI:=I (CU (k:=(n:Int)) (uk J J));have b0:(0:Int)<=(n:Int):=J;have bd:(n:Int)<(v.aX.n:Int):=J;have alG:=I (aI (o:=0) H.box rfl);have tF:=I (aI (o:=1) H.box rfl);have Av:=aI (o:=3) H.box rfl;rw[show(#[v.cD,v.aj,v.lT,v.aX,.map (some v.dg),v.fJ,v.go]:Array Value)[3]=Value.slice v.aX.a v.aX.n v.aX.c from rfl,qq]at Av;replace Av:=I Av;have Jz:=I (H.lR.mono (λw k=>k.1));have JA:=I (H.lR.mono (λw k=>k.2.1));replace H:=I H;replace cn:=I cn;replace bL:=I bL;replace qX:=I qX;clear alv qq fW;go_enter func31,ntmps31;go_wp2_with fail;refine uc 16 (Z w) (λa7=>?_);refine um ?_;refine alH ?_;intro K aL;obtain⟨w1,y4⟩:∃w1,w.drew=w1:=⟨_,rfl⟩;have bx:Z w w1:=by subst y4;exact X
 rw[y4]at a7 ⊢;clear y4;refine(azC (M:=M) (D:=D n) (c:=c) (w:=w1) (Jz.step (aG.of bx) (b4.eG _ _)) (JA.step (aG.of bx) (b4.eG _ _)) (azD cn an) (aae.ext bx) bL (λx U=>H.sub n an x (.inl U)) (λx U=>gw (H.cx x U) bx.size)).mono ?_;rintro e b3⟨eL,kq,nU,Bp,rfl,Al,I2,QF,EZ,azF,GF⟩;replace bx:=I bx;have Mo:W v.dg:=H.bI.2.1;have ho:=H.cx;have ft:=bx.size;have aaf:¬D n v.dg:=λk=>H.uB n an _ (.inl k) Mo;have alI:¬D n P:=λk=>H.uB n an _ (.inl k) H.bI.1;have VL:aG (D n) w b3:=(aG.of bx).trans I2;obtain⟨VM,G5,azG,Mn,Fj,aag,jR⟩:=H.dg;have aah:=Mn.aB (VL.block _ Mn.lt aaf);have aCY:=aI (o:=4) ((VL.block _ (bT H.box) alI).trans H.box) rfl;have aCZ:VM<=16:=by
  rw[aag];have:=PI azG (List.range c.ps.length) Fj.1 (λx U=>qI.2 (Fj.2 x U));rw[IY]at this;omega
 have aai:∀(bp:aC) (s4:Nat),fl bp prog 3 v.dg (VM+1) s4 (vY G5 (.int .i64 n) (some (.pointer (some ⟨eL,0,none⟩))))->s4=(if (G5 (.int .i64 n)).isSome=true then VM else VM+1)->b3.mapTurned bp v.dg->
   aad w bp M kq c n bR (C9 bR n (.up (qj n s))) v p q D O eL nU (λx=>O n x\/Bp x):=λbp s4 CP O9 EJ=>by
  have oU:=UD EJ;obtain⟨v5,aa⟩:=Al;have jZ:=Mn.lt;have al:aG (λx=>(D n x\/O n x)\/x=v.dg) w bp:=(VL.mono (λx _ k=>.inl (.inl k))).trans (oU.mono (λx _ e=>.inr e));have azH:∀x,O n x->x<w.heap.size:=λx k=>ho x (H.sub n an x (.inr k));have nN:∀x,O n x\/Bp x->kq x:=λx k=>k.elim (λz=>EZ.up x (H.sub n an x (.inr z))) (aa.sub x);have zv:∀x,nU x->¬(O n x\/Bp x):=λx k hk=>hk.elim (λz=>(QF.new x k).elim (λy=>H.G9 n an x y z) (λy=>by have:=azH x z;omega)) (aa.gK x k);have P2:rp b3 kq nU (λx=>O n x\/Bp x) c eL (q n) (qj n s):=rp.pB ⟨v5,aa⟩ (λx k=>.inr k) nN zv
  have sm:BN bp kq nU (λx=>O n x\/Bp x) c eL (q n) (.up (qj n s)):=BN.step (x:=.up (qj n s)) P2 oU (λx e=>by rw[show x=v.dg from e];exact EZ.up _ (H.qv _ Mo)) (λx k e=>by
   have e:x=v.dg:=e;subst e;rcases k with k|k|k
   ·exact(QF.new _ k).elim aaf (λy=>by omega)
   ·exact H.uB n an _ (.inr k) Mo
   ·have:=GF _ k;omega) (b4.eG _ _) (λx k=>gw (aa.cx x k) oU.size)
  have lg:tH bp v.dg c.ps.length (mi (C9 bR n (.up (qj n s))) (λk=>if k=n then eL else p k)):=by
   have ae:=tH.put Fj aag jR an J CP O9;have e:(λk=>if k=n then some eL else mi bR p k)=mi (C9 bR n (.up (qj n s))) (λk=>if k=n then eL else p k):=by
    funext j;by_cases aJ:j=n
    ·subst aJ;unfold mi C9;simp
    ·rw[if_neg aJ];unfold mi C9;simp only[if_neg aJ]
   rw[<-e];exact ae
  exact⟨al,⟨QF.up,λx k=>(QF.new x k).imp id (λz=>by omega)⟩,⟨λx k=>.inl k,λx k=>k.imp id (λz=>by have:=GF x z;omega)⟩,⟨EZ.up,λx k=>(EZ.new x k).imp id (λz=>by omega)⟩,λx k=>Nat.lt_of_lt_of_le (aa.cx x k) oU.size,λx k=>k.elim (aa.sP x) (nN x),zv,by unfold C9;rw[if_pos rfl];exact sm,lg⟩
 replace aai:=I aai;replace aah:=I aah;clear Mn Fj aag jR Al I2 QF EZ azF GF VL aaf alI ho ft;refine Hb ?_;intro _ a7;refine cX 17 ?_;refine cX 18 ?_;refine cX 19 ?_;refine cX 20 ?_;refine cX 21 ?_;refine wpAnyH_done bV ?_ _;go_wp2_with (at_mapUpdate;(refine Gw rfl (λK aL=>Pk _ _ _ rfl EP underlying85 rfl (aah.ext X) HQ rfl rfl oI rfl ?_);intro bp CP EJ;have NV:=I (aai bp _ CP rfl EJ);clear CP EJ;refine aL _ _ ?_;clear aL K));go_ret;exact⟨kq,nU,_,eL,rfl,NV⟩
section
section
variable {w w1 w' fj:World}{M M' F fb:Nat->Prop}{c:bt}{P R:Nat}{aU:aZ}
def jh.cell(h:jh w M F c P aU)(U:Z w w1)(bC:(w:Nat)<=R)(aT:R<(w1:Nat)):jh w1 (λx=>M x\/x=R) F c P aU:=
 h.step (S:=λ_=>False) (.of U) (λ_ k=>k.elim) (λ_ _ k=>k) ⟨λ_ k=>.inl k,λx k=>k.imp id (λe=>by rw[e];exact bC)⟩ (λx k=>k.elim (λz=>gw (h.cx x z) U.size) (λe=>by rw[e];exact aT))
def jh.Fs(h:jh w M F c P aU)(bC:(w:Nat)<=R):¬F R:=λk=>by have:=h.cx R (h.sub R k);omega
def hJ.cell(h:hJ w1 (λx=>M x\/x=R) F w' M' fb)(U:Z w w1)(bC:(w:Nat)<=R)(al:aG (·=R) w' fj):hJ w M F fj M' fb:=by
 have bf:=U.size;refine⟨(((aG.of (S:=λx=>F x\/x=R) U).trans (h.dT.mono (λx _ k=>.inl k))).trans (al.mono (λx _ k=>.inr k))).mono (λx U k=>k.elim id (λe=>by have e:x=R:=e;omega)),⟨h.f.up,λx k=>(h.f.new x k).imp id (λz=>by omega)⟩,⟨λx k=>h.m.up x (.inl k),λx k=>(h.m.new x k).elim (λz=>z.imp id (λe=>by omega)) (λz=>.inr J)⟩⟩
def jh.store(h:jh w' M' fb c P aU)(hm:M' R)(hF:¬fb R)(al:aG (·=R) w' fj):jh fj M' fb c P aU:=
 h.step al (λx e=>by rw[show x=R from e];exact hm) (λx k e=>hF (by rw[<-show x=R from e];exact k)) (b4.eG _ _) (λx k=>gw (h.cx x k) al.size)
end
def alJ(c:bt)(P:Nat)(w:World)(M F:Nat->Prop)(r:Int×aA×aZ):Ending->World->Prop:=C5 c P w M F (.tuple #[r.2.1,r.1]) r.2.2
def alK{c:bt}{aU:aZ}{b:az}{f:az->Int×az}(b5:mb c cl=some n)(cB:aU.bR n=.up b)(bc:(f b).1≠0->(f b).2=b):aU.call c cl f=((f b).1,uy (f b).1 b.gX,aU.hc n (.up (f b).2)):=by
 unfold aZ.call;rw[b5];dsimp only;rw[cB];dsimp only;by_cases aW:(f b).1=0
 ·rw[bm aW,aW];rfl
 ·rw[if_neg aW,bc aW];unfold uy;rw[if_neg aW];rfl
def alL{b:az}{r:Int×List gN}(h:(b.qk r).1≠0):(b.qk r).2=b:=by
 unfold az.qk at h ⊢;split
 ·rename_i k;rw[bm k]at h;exact absurd rfl h
 ·rfl
def VN{c:bt}{T:Nat}{aU:aZ}{b:az}(ao:jL c)(aO:dy c l T aU)(b5:mb c cl=some n)(cB:aU.bR n=.up b):n<c.ps.length/\(0<=cl/\cl<32)/\b.xU c cl=true:=by
 obtain⟨bQ,bY,ew,fm⟩:=ao.at_ b5;refine⟨bQ,⟨bY,ew⟩,?_⟩;have aT:cl<(c.hs.length:Int):=by
  unfold mb at b5;split at b5
  ·rename_i k;exact k.2
  ·cases b5
 unfold az.xU;rw[mS ⟨bY,aT⟩,fm,(aO.up n b bQ cB).1.b6];simp
def aaj{w:aC}{M F:ff}{c:bt}{P:Nat}{aU:aZ}{T:Nat}(bU:jh w M F c P aU)(cn:jL c)(bb:dy c l T aU)(kp:T<=1000)(cl:Int):
  aR 22 #[P,cl] w (alJ c P w M F (aU.call c cl (λb=>b.pO cl))):=by
 refine alM ?_;intro et il hB bf pt gq wg lC;have bf:=I bf;obtain⟨v,cA,g,p,q,D,O,W,dA,mj⟩:=gq;replace dA:=I dA;replace mj:=I mj;replace bb:=I bb;replace cn:=I cn;replace bU:=I bU;replace il:=I il;replace hB:=I hB;replace wg:=I wg;go_enter func22,ntmps22;go_wp2_with fail;clear pt;refine(Vy dA.dh cn cl).mono ?_;refine QG ?_;intro w1 aa bx;cases b5:mb c cl with
 |none=>
  have ax:rA c aU.bR p cl=(none,1):=by unfold rA;rw[b5]
  have eZ:=I (show aU.call c cl (λb=>b.pO cl)=(1,xH,aU)from by unfold aZ.call;rw[b5]);rw[ax];obtain⟨u1,u2,u3,Aw⟩:=sn aa;change Hid _ at aa;clear ax b5;go_wp2_with fail;refine VO ?_;intro cV f0 oe z0 cU z2;refine aak ?_;exact VP
 |some n=>
  cases cB:aU.bR n with
  |down dk=>
   refine aal ?_;intro ax;have eZ:=I (show aU.call c cl (λb=>b.pO cl)=(210,xH,aU)from by unfold aZ.call;rw[b5];dsimp only;rw[cB]);rw[ax];obtain⟨u1,u2,u3,Aw⟩:=sn aa;change Hid _ at aa;clear ax b5;go_wp2_with fail;refine VO ?_;intro cV f0 oe z0 cU z2;refine aak ?_;exact VP
  |up b=>
   refine alN ?_;intro ax an gV uE nD L7 lS Ml ko;have q8:hP (x7 b.gX cl):=⟨OF cn.toka bb an cB kp,gV,⟨by simp[x7],by simp[x7]⟩,.inl ⟨rfl,rfl,rfl,by simp[x7],λe he=>by cases he⟩⟩;have og:=awA ko nD cl uE J q8;have eZ:=alK (f:=λb=>b.pO cl) b5 cB (λk=>alL k);generalize b.pO cl=r at og eZ;replace eZ:=I eZ;replace og:=I og;replace lS:=I lS;change Hid _ at aa cB;clear ax b5 q8 uE nD L7 ko;go_wp2_with fail;refine alO ?_;intro cG iN ib nF jB u1 u2 u3 Aw Da BP;go_wp2_with fail;refine alP ?_;intro kL me cV f0 oe z0 cU z2;refine aak ?_;exact alQ
end
def azI{u:Nat}(h:u<2 ^ 64):kP (u:Int):=by unfold kP;omega
def alR{P:Nat}{alS:Nat}(bU:jh w M F c P aU)(cn:jL c)(bb:dy c l alS aU)(kp:alS<=1000)(cl:Int)(u:Nat)(al:u<2 ^ 64)(fA:bk)(fn fB:Nat)(jM:List T)(hF:a1 w 5 T.cs fA fn fB jM)(A6:jM.length<=100)(aam:∀t,t∈jM->k8 t.n):
  aR 19 #[P,cl,ad (u:Int),aq fA fn fB] w (alJ c P w M F (aU.call c cl (λb=>b.sub cl u jM))):=by
 refine alM ?_;intro et il hB bf pt gq wg lC;have bf:=I bf;obtain⟨v,cA,g,p,q,D,O,W,dA,mj⟩:=gq;replace dA:=I dA;replace mj:=I mj;replace bb:=I bb;replace cn:=I cn;replace bU:=I bU;replace il:=I il;replace hB:=I hB;replace wg:=I wg;go_enter func19,ntmps19;go_wp2_with fail;clear pt;refine(Vy dA.dh cn cl).mono ?_;refine QG ?_;intro w1 aa bx;cases b5:mb c cl with
 |none=>
  have ax:rA c aU.bR p cl=(none,1):=by unfold rA;rw[b5]
  have eZ:=I (show aU.call c cl (λb=>b.sub cl u jM)=(1,xH,aU)from by unfold aZ.call;rw[b5]);rw[ax];obtain⟨u1,u2,u3,Aw⟩:=sn aa;change Hid _ at aa;clear ax b5;go_wp2_with fail;refine VO ?_;intro cV f0 oe z0 cU z2;refine aan ?_;exact VP
 |some n=>
  cases cB:aU.bR n with
  |down dk=>
   refine aal ?_;intro ax;have eZ:=I (show aU.call c cl (λb=>b.sub cl u jM)=(210,xH,aU)from by unfold aZ.call;rw[b5];dsimp only;rw[cB]);rw[ax];obtain⟨u1,u2,u3,Aw⟩:=sn aa;change Hid _ at aa;clear ax b5;go_wp2_with fail;refine VO ?_;intro cV f0 oe z0 cU z2;refine aan ?_;exact VP
  |up b=>
   refine alN ?_;intro ax an gV uE nD L7 lS Ml ko;have alT:=OF cn.toka bb an cB kp;have q8:mY jM=true->hP (⟨2,b.gX,cl,(u:Int),jM,[]⟩:bg):=λhk=>⟨alT,gV,azI al,.inr (.inl ⟨rfl,rfl,⟨hk,aam⟩⟩)⟩;have og:=awR ko nD cl u fA fn fB jM ((hF.ext il).ext bx) A6 uE J alT gV q8;have eZ:=alK (f:=λb=>b.sub cl u jM) b5 cB (λk=>alL k);generalize b.sub cl u jM=r at og eZ;replace eZ:=I eZ;replace og:=I og;replace lS:=I lS;change Hid _ at aa cB;clear ax b5 q8 uE nD L7 ko;go_wp2_with fail;refine alO ?_;intro cG iN ib nF jB u1 u2 u3 Aw Da BP;go_wp2_with fail;refine alP ?_;intro kL me cV f0 oe z0 cU z2;refine aan ?_;exact alQ
section
def qx(c:bt)(bR:Nat->n1)(p:Nat->Nat)(cl:Int)(i:aA):Option Addr×Int:=
 match mb c cl with
 |none=>(none,1)
 |some n=>match bR n with
  |.up _=>if i.b≠(n:Int) then (none,1) else (some ⟨p n,0,none⟩,0)
  |.down _=>(none,210)
section
variable {w:World}{M:Nat->Prop}{c:bt}{P:Nat}{bR:Nat->n1}{cur:Nat->Nat}{v:qY}{p q:Nat->Nat}{D O:Nat->Nat->Prop}{W:Nat->Prop}
def alU(H:lG w M c P bR cur v p q D O W)(cn:jL c)(cl:Int)(i:aA):
  aR 55 #[P,cl,i] w (cM (.tuple #[.pointer (qx c bR p cl i).1,bh (qx c bR p cl i).2]) w):=by
 refine aao ?_;intro et il hB pt;replace il:=I il;replace hB:=I hB;replace H:=I H;replace cn:=I cn;go_enter func55,ntmps55;go_wp2_with fail;clear pt;refine(Vy (H.ext il) cn cl).mono ?_;refine QG ?_;intro w1 aa bx;cases b5:mb c cl with
 |none=>
  have ax:rA c bR p cl=(none,1):=by unfold rA;rw[b5]
  have ba:=I (show qx c bR p cl i=(none,1)from by unfold qx;rw[b5]);rw[ax];clear ax b5 aa;go_wp2_with fail;go_ret2;rw[ba.out];exact⟨rfl,X⟩
 |some n=>
  cases cB:bR n with
  |down dk=>
   have ax:rA c bR p cl=(none,210):=by unfold rA;rw[b5];dsimp only;rw[cB]
   have ba:=I (show qx c bR p cl i=(none,210)from by unfold qx;rw[b5];dsimp only;rw[cB]);rw[ax];clear ax b5 cB aa;go_wp2_with fail;go_ret2;rw[ba.out];exact⟨rfl,X⟩
  |up b=>
   have ax:rA c bR p cl=(some ⟨p n,0,none⟩,0):=by unfold rA;rw[b5];dsimp only;rw[cB]
   have ba:=I (show qx c bR p cl i=if i.b≠(n:Int) then (none,1) else (some ⟨p n,0,none⟩,0)from by unfold qx;rw[b5];dsimp only;rw[cB]);rw[ax];obtain⟨cL,cE,a3,a4⟩:=cn.at_ b5;have gV:cl<(c.hs.length:Int):=by
    unfold mb at b5;split at b5
    ·rename_i k;exact k.2
    ·cases b5
   obtain⟨k,rfl⟩:∃k:Nat,cl=(k:Int):=⟨cl.toNat,J⟩;have hk:k<c.hs.length:=J;have hC:=H.ext (il.trans bx);obtain⟨_,o,qq,fW⟩:=hC.lR.dQ.2.1.get k hk;have k2:=AI (x:=c.hs[k]) fW;rw[jT]at k2;have np:c.hs[k]=(n:Int):=by rw[nQ,xO,fz hk]at a4;simpa using a4
   rw[np]at k2;have lW:=hC.lR.dQ.2.1.neq;have bQ:=aI (o:=1) hC.box rfl;rw[show(#[v.cD,v.aj,v.lT,v.aX,.map (some v.dg),v.fJ,v.go]:Array Value)[1]=Value.slice v.aj.a v.aj.n v.aj.c from rfl,qq]at bQ;have ca:=aI (o:=0) aa rfl;have b0:(0:Int)<=(k:Int):=J;have bd:(k:Int)<(v.aj.n:Int):=J;clear ax b5 cB qq fW hC np a4 aa gV cE a3;go_wp2_with fail;go_region;by_cases pA:i.b=(n:Int)
   ·have bq:(i.b !=(n:Int))=false:=by simp[pA]
    have aap:Hid (¬i.b≠(n:Int)):=λz=>z pA;rw[bq];clear pA bq;go_wp2_with fail;go_ret2;rw[ba.out,bj aap.out];exact⟨rfl,X⟩
   ·have bq:(i.b !=(n:Int))=true:=by simp[pA]
    have aap:Hid (i.b≠(n:Int)):=pA;rw[bq];clear pA bq;go_wp2_with fail;go_ret2;rw[ba.out,bm aap.out];exact⟨rfl,X⟩
end
end
def alV{P:Nat}{T:Nat}(h:jh w M F c P aU)(cn:jL c)(bb:dy c l T aU)(cl:Int)(i:aA)(fn:Nat)(aQ:Array Value)(f:az->Int×az)(bc:∀args w,(callFunc fn args).run prog w=.ok (.enter fn args) w)(cy:∀(n:Nat) (b:az) (p q:Nat) (D O:ff) (w':aC),n<c.ps.length->aU.bR n=.up b->Z w w'->rp w' M D O c p q b->aR fn (#[.pointer (some (p,0)),.agg #[i.b,ad i.l,ad i.s]]++aQ) w' (yg c p q w' M D O (.int .i64 (f b).1) (f b).2)):
  aR 58 #[P,cl,i,.func (.func fn) #[] aQ] w (C5 c P w M F (.int .i64 (aU.kG c cl i f).1) (aU.kG c cl i f).2):=by
 obtain⟨v,cA,g,p,q,D,O,W,dA,mj⟩:=h;refine aao ?_;intro et il hB pt;obtain⟨dc,fL,dS⟩:=iE hB;replace dA:=I dA;replace mj:=I mj;replace cn:=I cn;replace bb:=I bb;replace cy:=I cy;replace il:=I il;replace hB:=I hB;go_enter func58,ntmps58;go_wp2_with fail;clear pt;refine(alU (dA.ext il).dh cn cl i).mono ?_;refine QG ?_;intro w1 aa bx;clear dc fL dS;have BQ:∀z:Int,aU.kG c cl i f=(z,aU)->∀aN,Z w aN->C5 c P w M F (.int .i64 (aU.kG c cl i f).1) (aU.kG c cl i f).2 (.returned z) aN:=λz bf aN cj=>by
  rw[bf];exact⟨M,F,rfl,⟨v,cA,g,p,q,D,O,W,dA.ext cj,mj⟩,.of cj⟩
 replace BQ:=I BQ;cases b5:mb c cl with
 |none=>
  have ax:qx c aU.bR p cl i=(none,1):=by unfold qx;rw[b5]
  have eZ:=I (show aU.kG c cl i f=(1,aU)from by unfold aZ.kG;rw[b5]);rw[ax];clear ax b5 aa bc;go_wp2_with fail;go_ret;exact BQ 1 eZ _ X
 |some n=>
  cases cB:aU.bR n with
  |down dk=>
   have ax:qx c aU.bR p cl i=(none,210):=by unfold qx;rw[b5];dsimp only;rw[cB]
   have eZ:=I (show aU.kG c cl i f=(210,aU)from by unfold aZ.kG;rw[b5];dsimp only;rw[cB]);rw[ax];clear ax b5 aa bc cB;go_wp2_with fail;go_ret;exact BQ 210 eZ _ X
  |up b=>
   obtain⟨an,gV,uE⟩:=VN cn bb b5 cB;by_cases pA:i.b=(n:Int)
   ·have ax:qx c aU.bR p cl i=(some ⟨p n,0,none⟩,0):=by unfold qx;rw[b5];dsimp only;rw[cB];dsimp only;rw[if_neg (λz=>z pA)]
    have eZ:=I (show aU.kG c cl i f=((f b).1,aU.hc n (.up (f b).2))from by unfold aZ.kG;rw[b5];dsimp only;rw[cB];dsimp only;rw[if_neg (λz=>z pA)]);rw[ax];have lS:=dA.ext (il.trans bx);have ko:rp w1 M (D n) (O n) c (p n) (q n) b:=by have:=lS.dh.qs n an;rw[cB]at this;exact this
    have og:=cy.out n b (p n) (q n) (D n) (O n) w1 an cB (il.trans bx) ko;generalize f b=r at og eZ;change Hid _ at cB;obtain⟨_,_,_⟩:=iE aa;replace og:=I og;replace lS:=I lS;clear aa ax b5 uE ko pA gV;go_wp2_with fail;refine og.mono ?_;rintro e _⟨iN,_,_,rfl,GX,jq⟩;have BP:=I (lS.Fk an cB jq GX);have Da:=I ((hJ.Fk mj an jq).cC (il.trans bx));clear GX jq;go_wp2_with fail;go_ret;rw[eZ.out];exact⟨iN,_,rfl,⟨v,cA,g,p,q,_,_,W,BP,λ_=>Iff.rfl⟩,Da⟩
   ·have ax:qx c aU.bR p cl i=(none,1):=by unfold qx;rw[b5];dsimp only;rw[cB];dsimp only;rw[if_pos pA]
    have eZ:=I (show aU.kG c cl i f=(1,aU)from by unfold aZ.kG;rw[b5];dsimp only;rw[cB];dsimp only;rw[if_pos pA]);rw[ax];clear ax b5 aa bc cB pA uE gV;go_wp2_with fail;go_ret;exact BQ 1 eZ _ X
def aaq{P:Nat}{T:Nat}(H:jh w M F c P aU)(ao:jL c)(bb:dy c l T aU)(cl:Int)(i:aA):
  aR 24 #[P,cl,i] w (C5 c P w M F (.int .i64 (aU.kG c cl i (λb=>az.tp b i)).1) (aU.kG c cl i (λb=>az.tp b i)).2):=by
 refine alW ?_;intro et tU il pt dc fL dS;change Hid _ at il;have og:=I (alV (H.ext il) ao bb cl i 61 #[] (λb=>az.tp b i) (λ_ _=>by kernel_rfl) (λn b p q D O w' an al U br=>let ⟨Ml,ko⟩:=br;awn ko (bb.up n b an al).1 i));change Hid _ at H bb;clear ao tU;go_enter func24,ntmps24;exact alX
def azJ{b:az}{R:List aA}(h:rp w M D O c p q b)(hk:gz c l R n b)(i:aA)(B:Nat)(dK:bk)(eA dM:Nat)(xs:List cd)(br:w.heap[B]?=some (.cells #[aq dK eA dM] 34 (0,0)))(ss:a1 w 4 cd.cs dK eA dM xs)(Af:∀y,y∈xs->k8 y.n):
  aR 59 #[p,i,B] w (yg c p q w M D O (.int .i64 (b.rl i xs).1) (b.rl i xs).2):=by
 obtain⟨v,aa⟩:=h;refine alW ?_;intro et tU il pt dc fL dS;have dV:=aI (o:=0) (il.aB br) rfl;change Hid _ at il;have og:=I (awp (aa.ext il) hk i dK eA dM xs (ss.ext il) Af);clear aa hk tU br ss Af;go_enter func59,ntmps59;go_wp2_with fail;clear pt;refine og.mono ?_;rintro e _⟨iN,ib,nF,rfl,jB,jq⟩;change Hid _ at jB;have mV:=I ((ig.of il).trans jq);clear jq;go_wp2_with fail;go_ret;exact⟨iN,ib,nF,rfl,jB,mV⟩
def aar{P:Nat}{T:Nat}(h:jh w M F c P aU)(ao:jL c)(bb:dy c l T aU)(cl:Int)(i:aA)(dK:bk)(eA dM:Nat)(xs:List cd)(ss:a1 w 4 cd.cs dK eA dM xs)(Af:∀y,y∈xs->k8 y.n):
  aR 23 #[P,cl,i,aq dK eA dM] w (C5 c P w M F (.int .i64 (aU.kG c cl i (λb=>b.rl i xs)).1) (aU.kG c cl i (λb=>b.rl i xs)).2):=by
 have il:Z w ((w.alloc i).alloc (.cells #[aq dK eA dM] 34)):=X;have tU:((w.alloc i).alloc (.cells #[aq dK eA dM] 34)).heap[(w:Nat)]?=some (i:Obj):=hT;have xC:((w.alloc i).alloc (.cells #[aq dK eA dM] 34)).heap[(w:Nat)+1]?=some (.cells #[aq dK eA dM] 34):=hT;obtain⟨et,pt⟩:∃et,((w.alloc i).alloc (.cells #[aq dK eA dM] 34))=et:=⟨_,rfl⟩;rw[pt]at il tU xC;obtain⟨_,_,_⟩:=iE tU;change Hid _ at il;have og:=I (alV (h.ext il) ao bb cl i 59 #[.pointer (some ⟨w.heap.size+1,0,none⟩)] (λb=>b.rl i xs) (λ_ _=>by kernel_rfl) (λn b p q D O w' an al U br=>azJ br (bb.up n b an al).1 i (w.heap.size+1) dK eA dM xs (U.aB xC) ((ss.ext il).ext U) Af));change Hid _ at bb;clear h ao tU xC ss Af;go_enter func23,ntmps23;exact alX
def alY{P:Nat}{T:Nat}(h:jh w M F c P aU)(cn:jL c)(bb:dy c l T aU)(cl:Int)(i:aA)(ux:dx i):
  aR 21 #[P,cl,i] w (cM (.tuple #[bh (aU.wk c cl i).1,bh (aU.wk c cl i).2]) w):=by
 obtain⟨v,_,g,p,q,D,O,W,dA,hF⟩:=h;refine aao ?_;intro et il hB pt;obtain⟨dc,fL,dS⟩:=iE hB;replace dA:=I dA;replace cn:=I cn;replace bb:=I bb;replace ux:=I ux;replace il:=I il;replace hB:=I hB;clear hF;go_enter func21,ntmps21;go_wp2_with fail;clear pt;refine(alU (dA.ext il).dh cn cl i).mono ?_;refine QG ?_;intro w1 aa bx;clear dc fL dS;cases b5:mb c cl with
 |none=>
  have ax:qx c aU.bR p cl i=(none,1):=by unfold qx;rw[b5]
  have eZ:=I (show aU.wk c cl i=(0,1)from by unfold aZ.wk;rw[b5]);rw[ax];clear ax b5 aa;exact VQ
 |some n=>
  cases cB:aU.bR n with
  |down dk=>
   have ax:qx c aU.bR p cl i=(none,210):=by unfold qx;rw[b5];dsimp only;rw[cB]
   have eZ:=I (show aU.wk c cl i=(0,210)from by unfold aZ.wk;rw[b5];dsimp only;rw[cB]);rw[ax];clear ax b5 aa cB;exact VQ
  |up b=>
   obtain⟨an,gV,uE⟩:=VN cn bb b5 cB;by_cases pA:i.b=(n:Int)
   ·have ax:qx c aU.bR p cl i=(some ⟨p n,0,none⟩,0):=by unfold qx;rw[b5];dsimp only;rw[cB];dsimp only;rw[if_neg (λz=>z pA)]
    have eZ:=I (show aU.wk c cl i=(b.status i,0)from by unfold aZ.wk;rw[b5];dsimp only;rw[cB];dsimp only;rw[if_neg (λz=>z pA)]);rw[ax];have EY:=dA.ext (il.trans bx);obtain⟨_,ko⟩:rp w1 M (D n) (O n) c (p n) (q n) b:=by have:=EY.dh.qs n an;rw[cB]at this;exact this
    have nD:=(bb.up n b an cB).1;have og:=I (awD ko nD (λj aJ=>OD cn.toka bb j (nD.bl.2 j aJ)) i ux);obtain⟨_,_,_⟩:=iE aa;clear aa ax b5 EY uE cB ko pA gV nD;go_wp2_with fail;refine og.mono ?_;rintro e _⟨rfl,nE⟩;replace nE:=I nE;exact VQ
   ·have ax:qx c aU.bR p cl i=(none,1):=by unfold qx;rw[b5];dsimp only;rw[cB];dsimp only;rw[if_pos pA]
    have eZ:=I (show aU.wk c cl i=(0,1)from by unfold aZ.wk;rw[b5];dsimp only;rw[cB];dsimp only;rw[if_pos pA]);rw[ax];clear ax b5 aa cB pA uE gV;exact VQ
def azK(a:bk)(n cap:Nat)(xs:List eJ)(w:aC)(av:xp w a n cap xs)(an:n<=200000)(bL:∀x,x∈xs->x.dH.length<=200000):
  aR 63 #[aq a n cap] w λe w'=>∃a n c,e=.returned (aq a n c)/\Z w w':=by
 obtain⟨ca,bJ,bF,bG,bK⟩:=info_parts M4;obtain⟨dc,eo,dB,ej,fe⟩:=info_parts J5;obtain rfl:=av.aF.neq;change Hid _ at av bL bJ bF bG bK eo dB ej fe;go_enter func63,ntmps63;go_wp2_with fail;go_loopg [3,5,8] (xs.length) (λg e1 tn dN wr=>∃(k:Nat) (ab:bk) (m c:Nat) (ys:List eJ),g+k=xs.length/\dN=.int .i64 (k:Int)/\e1=.slice ab m c/\k=m/\Hid (Own wr w 34 1 eJ.cs ab m c ys)/\Hid (Z w wr));case atStart=>exact⟨0,none,0,0,[],J,rfl,rfl,rfl,Own.nil _ _ _ eJ.bH,X⟩
 case round=>
  obtain⟨k,ab,m,c,ys,_,rfl,rfl,hi,aE,U⟩:=hrel;subst hi;by_cases hk:k<xs.length
  ·obtain⟨b,o,rfl,ao⟩:=av.aF.get k hk;have d0:wr.cell? (b,o+k*1)=some ↑xs[k].v:=U.ah (ao 0 _ rfl);rw[jT]at d0;have Jy:=(av.dH xs[k] (c7 hk)).ext U;have AJ:=bL.out xs[k] (c7 hk);rw[<-Jy.neq]at AJ;change Hid _ at Jy;clear ao;refine kt ?_;intro b0 bd;go_wp2_with (first|(at_builtin;refine wpList_plain rfl λoL ns=>?_;refine wC (c:=cd.cs) (ys0:= []) (ys:=xs[k].dH) _ _ 34 77 rfl ca _ 48 underlying34 bJ bF bG bK rfl af rfl wr X (Own.nil _ _ _ cd.bH) rfl (Jy.ext X) cd.cN J af ?_;intro cK _ uK _ hY jt lL p4;rw[om]at hY;subst hY;refine ns _ _ ?_;have dn:=I jt;have mc:=I lL;clear jt lL p4 ns)|(at_builtin;refine hf (ys:=ys) rfl (.tmp 12) (.tmp 15) 64 rfl dc _ 24 underlying64 eo dB ej fe rfl af rfl (aE.ext X) ⟨⟨cK,xs[k].v.n,uK⟩,xs[k].dH⟩ _ rfl (fc (cs:=eJ.cs ⟨⟨cK,xs[k].v.n,uK⟩,xs[k].dH⟩) rfl) (eJ.cN _) J af (Z.size X) ?_;intro _ ie _ hb fq;have jo:=I hb;have nE:=I (fq.ext (aE.ext X) (bA _) X);clear hb fq));go_roundg (gk - 1);case measure=>omega
   case rel=>exact⟨k+1,_,k+1,ie,_,J,by go_num,rfl,rfl,jo,nE⟩
  ·have oK:¬((k:Int)<(xs.length:Int)):=J;go_wp2;go_ret;exact⟨⟨ab,k,c,rfl⟩,U⟩
def azL{b:az}{v:tK}(H:dU w M D O c p q b v)(fP:∀d,d∈b.st.ag->hP d)(L2:b.st.ag.length<=10000)(cl:Int)(GY:b.xU c cl=true)(fr:Nat)(wg:b.st.ag.length<fr)(aC0:fr<=1000000):
  aR 62 #[.pointer (some (p,0)),.int .i64 cl,.int .i64 (fr:Int)] w λe w'=>∃t,e=.returned (.tuple #[.slice none 0 0,.int .i64 t,.int .i64 1])/\Z w w':=by
 refine ajh ?_;intro ag ps ec qJ sB fG vh lc gV hm E5 bL gp bM;have d0:¬(fr:Int)<=(ag.length:Int):=J;have jX:(0:Int)<=(fr:Int):=J;replace qJ:=I qJ;replace L2:=I L2;replace wg:=I wg;replace H:=I H;replace gp:=I gp;replace bL:=I bL;replace fP:=I fP;replace GY:=I GY;clear ec vh E5 sB;go_enter func62,ntmps62;go_wp2_with fail;refine(ZP (H.ext X) cl).mono ?_;rintro e _⟨rfl,cS⟩;rw[GY.out];have kD:=aI (o:=5) (cS.aB gp) rfl;replace cS:=I cS;go_wp2_with fail;refine⟨rfl,_,(by simp[results,results62,go_sem]),0,rfl,cS⟩
section
def Mu(c:bt)(cur:Nat->Nat)(cl:Int):Int:=if 0<=cl/\cl<(c.hs.length:Int) then (cur cl.toNat:Int) else 0
section
variable {w:World}{M:Nat->Prop}{c:bt}{P:Nat}{bR:Nat->n1}{cur:Nat->Nat}{v:qY}{p q:Nat->Nat}{D O:Nat->Nat->Prop}{W:Nat->Prop}
def azM(H:lG w M c P bR cur v p q D O W)(cl:Int):
  aR 185 #[P,cl] w (cM (.int .i64 (Mu c cur cl)) w):=by
 change Hid _ at H;go_enter func185,ntmps185;go_wp2_with fail;refine qA (GT (H.ext X) cl) λw1 bx=>?_;by_cases aW:0<=cl/\cl<(c.hs.length:Int)
 ·rw[mS aW];obtain⟨k,rfl⟩:∃k:Nat,cl=(k:Int):=⟨cl.toNat,J⟩;have cR:=I (show Mu c cur (k:Int)=(cur k:Int)from by unfold Mu;rw[if_pos aW];rfl);have hk:k<c.hs.length:=J;have hC:=H.ext bx;have lW:=hC.fJ.neq;rw[cr,IY]at lW;obtain⟨_,o,qq,fW⟩:=hC.fJ.aF.get k (by simpa using hk);have k2:=AI fW;rw[jT,Et,Qy]at k2;have iQ:=aI (o:=5) hC.box rfl;rw[show(#[v.cD,v.aj,v.lT,v.aX,.map (some v.dg),v.fJ,v.go]:Array Value)[5]=Value.slice v.fJ.a v.fJ.n v.fJ.c from rfl,qq]at iQ;have b0:(0:Int)<=(k:Int):=J;have bd:(k:Int)<(v.fJ.n:Int):=J;clear aW qq fW hC hk;go_wp2_with fail;go_ret;rw[cR.out];exact⟨rfl,X⟩
 ·rw[lo aW];have cR:=I (show Mu c cur cl=0 from by unfold Mu;rw[if_neg aW]);clear aW;go_wp2_with fail;go_ret;rw[cR.out];exact⟨rfl,X⟩
end
end
section
section
variable {w:World}{M:Nat->Prop}{c:bt}{P cA:Nat}{bR:Nat->n1}{cur:Nat->Nat}{aU:aZ}{v:qY}{g:Nat->Nat->Nat}{p q:Nat->Nat}{D O:Nat->Nat->Prop}{W:Nat->Prop}
def rz.alZ{W:ff}{s:iY}(h:rz w W s N cur)(al:aG (·=B) w w'){cs:Array Value}{fr:Nat×Nat}(aa:w.heap[B]?=some (.cells cs 3 fr)):rz w' W s N cur:=by
 obtain⟨⟨gs,ae,ak,aM,bn⟩,cb⟩:=h;exact⟨⟨gs,al.bI ae (λai aj=>ae.eQ aa af ai aj),ak,λy hy=>let ⟨ys,bQ,bY⟩:=aM y hy;⟨ys,al.bI bQ (λai aj=>bQ.eQ aa af ai aj),bY⟩,bn⟩,cb⟩
def rz.le{W:ff}{s:iY}{aDo:Nat->Nat}(h:rz w W s N cur)(ao:∀k,cur k<=aDo k):rz w W s N aDo:=by
 obtain⟨⟨gs,ae,ak,aM,bn,ey⟩,cb⟩:=h;exact⟨⟨gs,ae,ak,aM,bn,λk y hk=>eh (ey k y hk) (ao k)⟩,cb⟩
def lG.Hf{x:Nat}(h:lG w M c P bR cur v p q D O W)(hk:k<c.hs.length)(U:cur k<=x)(br:v.fJ.a=some ⟨B,0,none⟩):
  lG (w.setCell (B,k) (x:Int)) M c P bR (λj=>if j=k then x else cur j) v p q D O W/\aG (·=B) w (w.setCell (B,k) (x:Int))/\rz (w.setCell (B,k) (x:Int)) W v.go c.hs.length cur:=by
 have fa:W B:=h.bI.2.2 _ br;have al:aG (·=B) w (w.setCell (B,k) (x:Int)):=(aG.refl (λy=>y=B) w).setCell (B,k) (.inl rfl) _;have qt:=h.fJ;rw[br]at qt;obtain⟨_,bu,_,_,_,_,_⟩:=qt.aB;have Mv:=qt.set k (cur k:Int) (x:Int) (by simp[hk]) 0 af (x:Int) rfl;rw[jT,uY]at Mv;have aT:((List.range c.hs.length).map (λj=>(cur j:Int))).set k (x:Int)=(List.range c.hs.length).map (λj=>((if j=k then x else cur j:Nat):Int)):=by
  apply K1;intro j;simp only[Gi,cr,IY,nu];by_cases e:k=j
  ·subst e;simp[hk]
  ·have bE:¬j=k:=λz=>e z.symm;simp only[bj e];rcases zz j c.hs.length with z|z
   ·simp[List.getElem?_range z,bE]
   ·simp[z]
 rw[aT]at Mv;have a8:∀y,y=B->M y:=λy e=>e▸h.qv _ fa;refine⟨⟨(al.block _ (bT h.box) (λe=>?_)).trans h.box,h.lR.step (al.sub a8) (b4.eG _ _),h.dg.aB (al.block _ h.dg.lt (λe=>?_)),λn an=>(h.qs n an).step al a8 (λy hy e=>h.uB n an y hy (by rw[show y=B from e];exact fa)) (b4.eG _ _) (λy hy=>gw (h.cx y hy) al.size),by rw[br];exact Mv,(h.go.alZ al bu).le (λj=>by by_cases e:j=k<;>simp[e,U]),h.bI,h.qv,h.sub,h.uB,h.gK,h.G9,λy hy=>gw (h.cx y hy) al.size⟩,al,h.go.alZ al bu⟩
 ·exact qt.eQ h.box af _ rfl (show B=P from(show P=B from e).symm)
 ·obtain⟨s,f,_,hm,_⟩:=h.dg;exact qt.C8 hm.Hd _ rfl (show B=v.dg from(show v.dg=B from e).symm)
def p0.Hf{x:Nat}(h:p0 w M c P aU v cA g p q D O W)(hk:k<c.hs.length)(U:aU.cur k<=x)(br:v.fJ.a=some ⟨B,0,none⟩):
  p0 (w.setCell (B,k) (x:Int)) M c P (aU.Oo k x) v cA g p q D O W:=by
 obtain⟨ae,al,_⟩:=h.dh.Hf (x:=x) hk U br;have fa:W B:=h.dh.bI.2.2 _ br;exact⟨ae,h.tR,h.lT.Ha al (λy e=>by rw[show y=B from e];exact h.dh.qv _ fa) (λy hy e=>h.zw y hy (by rw[show y=B from e];exact fa)) (b4.eG _ _),h.zw,h.As,h.c4⟩
def hJ.Hf{x:Nat}(h:p0 w M c P aU v cA g p q D O W)(hF:∀x,F x↔uC c g D O W x)(hk:k<c.hs.length)(U:aU.cur k<=x)(br:v.fJ.a=some ⟨B,0,none⟩):
  hJ w M F (w.setCell (B,k) (x:Int)) M F:=
 ⟨(h.dh.Hf (x:=x) hk U br).2.1.mono (λy _ e=>by rw[show y=B from e];exact(hF B).2 (.inl (h.dh.bI.2.2 _ br))),b4.eG _ _,b4.eG _ _⟩
end
end
section
def azN{eg:List lX}{d:bg}(h:hP d):(pa eg cl d).length<=8/\∀e,e∈pa eg cl d->e.length<=16:=by
 unfold pa;split
 ·rename_i hk;have fs:d.aS.length<=8/\∀e,e∈d.aS->zN e:=by
   rcases h.k with ⟨_,_,_,a,b⟩|⟨a,_,_⟩|⟨a,_,_⟩
   ·exact⟨a,b⟩
   ·omega
   ·omega
  unfold AH;exact⟨eh (xq _ _) fs.1,λe he=>(fs.2 e (mI.1 he).1).len.2⟩
 ·exact⟨hX _,λe he=>by cases he⟩
def al0{cl:Int}:∀(l:List bg) (n:Nat) (eg:List lX),(∀d,d∈l->hP d)->(mA cl n eg l).1.length<=8/\∀e,e∈(mA cl n eg l).1->e.length<=16
 | [],_,_,_=>⟨hX _,λe he=>by cases he⟩
 |d::r,n,eg,h=>by
  unfold mA
  split
  ·exact al0 r _ _ (λx U=>h x (kA _ U))
  ·exact azN (h d kh)
def yy(W:Nat->Prop)(b:Nat):Nat->Prop:=λx=>W x\/x=b
def rz.put{w et:aC}{W:ff}{hd gE qB:Nat}{cur aDo:Nat->Nat}{s:iY}{gs:List mD}{y:mD}{ys cq:List mD}(hs:s.a=some ⟨B,0,none⟩)(br:W B)(ae:Own w 0 133 1 mD.cs s.a s.n s.c gs)(ak:gs.length=N)(aM:∀y,y∈gs->∃ys:List mD,Own w 0 64 1 mD.cs y.s.a y.s.n y.s.c ys/\∀ai,y.s.a=some ai->W ai.block)(bn:∀(i j:Nat) (y z:mD) (ai nw:Addr),gs[i]?=some y->gs[j]?=some z->y.s.a=some ai->z.s.a=some nw->ai.block=nw.block->i=j)(ey:∀k y,gs[k]?=some y->y.s.n<=cur k)(ao:∀j,cur j<=aDo j)(CZ:gE<=aDo k)(hk:gs[k]?=some y)(hy:Own w 0 64 1 mD.cs y.s.a y.s.n y.s.c ys)(bu:lH w et y.s.a hd)(an:Own et 0 64 1 mD.cs (some (hd,0)) gE qB cq)(ho:∀x,W x->x<(w:Nat)):
  rz (et.setCell (B,k) (.slice (some (hd,0)) gE qB)) (yy W hd) s N aDo:=by
 have sQ:Own et 0 133 1 mD.cs s.a s.n s.c gs:=bu.bI ae (hy.gQ ae af);rw[hs]at sQ;have Mv:=sQ.set k y ⟨⟨some (hd,0),gE,qB⟩⟩ hk 0 af (.slice (some (hd,0)) gE qB) rfl;rw[jT,uY]at Mv;have al:aG (·=B) et (et.setCell (B,k) (.slice (some (hd,0)) gE qB)):=(aG.refl (λy=>y=B) et).setCell (B,k) (.inl rfl) _;obtain⟨_,sb,_⟩:=sQ.aB;have qa:=(vv.1 hk).1;have al1:∀(j:Nat) (z:mD) (ai:Addr),j≠k->gs[j]?=some z->z.s.a=some ai->ai.block≠hd:=λj z ai aJ bf aj e=>by
  rcases bu.at_ with ⟨nw,pK,C3⟩|C3
  ·exact aJ (bn j k z y ai nw bf hk aj pK (e.trans C3.symm))
  ·obtain⟨_,_,hw⟩:=aM z (Be bf);have:=ho _ (hw ai aj);omega
 refine⟨⟨gs.set k ⟨⟨some (hd,0),gE,qB⟩⟩,by rw[hs];exact Mv,by rw[Dz];exact ak,λz bf=>?_,λi j z T1 ai nw aO aJ aj pK r6=>?_,λj z aJ=>?_⟩,λai aj=>by rw[hs]at aj;cases aj;exact .inl br⟩
 ·obtain⟨j,aJ⟩:=OH.1 bf;rw[Gi]at aJ;by_cases e:k=j
  ·rw[bm e,bm qa]at aJ;cases aJ;exact⟨cq,al.bI an (λai aj=>an.eQ sb af ai aj),λai aj=>by cases aj;exact .inr rfl⟩
  ·rw[bj e]at aJ;obtain⟨us,azO,hw⟩:=aM z (Be aJ);have aD:oo y.s.a z.s.a:=λx bX U cw bE=>e (bn k j y z x bX hk aJ U cw bE);have al2:=bu.bI azO aD;exact⟨us,al.bI al2 (λai aj=>al2.eQ sb af ai aj),λai aj=>.inl (hw ai aj)⟩
 ·rw[Gi]at aO aJ;by_cases e:k=i
  ·by_cases bE:k=j
   ·exact e.symm.trans bE
   ·rw[bm e,bm qa]at aO;rw[bj bE]at aJ;cases aO;cases aj;exact absurd r6.symm (al1 j T1 nw (λz=>bE z.symm) aJ pK)
  ·rw[bj e]at aO;by_cases bE:k=j
   ·rw[bm bE,bm qa]at aJ;cases aJ;cases pK;exact absurd r6 (al1 i z ai (λz=>e z.symm) aO aj)
   ·rw[bj bE]at aJ;exact bn i j z T1 ai nw aO aJ aj pK r6
 ·rw[Gi]at aJ;by_cases e:k=j
  ·rw[bm e,bm qa]at aJ;cases aJ;exact e▸CZ
  ·rw[bj e]at aJ;exact eh (ey j z aJ) (ao j)
def aas{cl:Int}:∀(l:List bg) (n:Nat) (eg:List lX),n<=(mA cl n eg l).2/\((mA cl n eg l).1≠ []->n+1<=(mA cl n eg l).2)
 | [],n,_=>⟨bA _,λh=>absurd rfl h⟩
 |d::r,n,eg=>by
  unfold mA
  split
  ·have:=aas (cl:=cl) r (n+1) (tZ eg d)
   exact⟨J,λh=>by have:=this.2 h;omega⟩
  ·exact⟨by dsimp only;omega,λ_=>by dsimp only;omega⟩
section
variable {w w':World}{M S W:Nat->Prop}{c:bt}{P cA hd:Nat}{aU:aZ}{v:qY}{g:Nat->Nat->Nat}{p q:Nat->Nat}{D O:Nat->Nat->Prop}
def p0.aat(h:p0 w M c P aU v cA g p q D O W)(al:aG S w w')(a8:∀x,S x->W x)(kz:¬S P)(aa:¬S v.dg)(qt:∀ai,v.fJ.a=some ai->¬S ai.block)(vK:W hd\/(w:Nat)<=hd)(GH:hd<(w':Nat))(azP:rz w' (yy W hd) v.go c.hs.length aU.cur):
  p0 w' (yy M hd) c P aU v cA g p q D O (yy W hd):=by
 have aau:∀x,S x->M x:=λx U=>h.dh.qv x (a8 x U);have bc:b4 w M (yy M hd):=⟨λx k=>.inl k,λx k=>k.elim .inl (λe=>vK.elim (λz=>.inl (e▸h.dh.qv _ z)) (λz=>.inr (e▸z)))⟩;have aT:∀x,yy M hd x->x<(w':Nat):=λx k=>k.elim (λz=>gw (h.dh.cx x z) al.size) (λe=>e▸GH);have aD:∀n,n<c.ps.length->∀x,D n x\/O n x->¬S x:=λn an x U k=>h.dh.uB n an x U (a8 x k);have jZ:∀x,x<(w:Nat)->¬W x->¬yy W hd x:=λx U an k=>k.elim an (λe=>vK.elim (λz=>an (e▸z)) (λz=>by omega))
 exact⟨⟨(al.block _ (bT h.dh.box) kz).trans h.dh.box,h.dh.lR.step (al.sub aau) bc,h.dh.dg.aB (al.block _ h.dh.dg.lt aa),λn an=>(h.dh.qs n an).step al aau (aD n an) bc aT,al.bI h.dh.fJ qt,azP,⟨.inl h.dh.bI.1,.inl h.dh.bI.2.1,λai aj=>.inl (h.dh.bI.2.2 ai aj)⟩,λx k=>k.imp (h.dh.qv x) id,λn an x U=>.inl (h.dh.sub n an x U),λn an x U=>jZ x (h.dh.cx x (h.dh.sub n an x U)) (h.dh.uB n an x U),h.dh.gK,h.dh.G9,aT⟩,
  h.tR,h.lT.Ha al aau (λx U k=>h.zw x U (a8 x k)) bc,λx U=>jZ x (h.lT.lt x U) (h.zw x U),h.As,h.c4⟩
def hJ.aat(h:p0 w M c P aU v cA g p q D O W)(hF:∀x,F x↔uC c g D O W x)(al:aG S w w')(a8:∀x,S x->W x)(vK:W hd\/(w:Nat)<=hd):hJ w M F w' (yy M hd) (uC c g D O (yy W hd)):=
 ⟨al.mono (λx _ k=>(hF x).2 (.inl (a8 x k))),⟨λx k=>((hF x).1 k).elim (λz=>.inl (.inl z)) .inr,λx k=>k.elim (λz=>z.elim (λy=>.inl ((hF x).2 (.inl y))) (λe=>vK.elim (λy=>.inl ((hF x).2 (.inl (e▸y)))) (λy=>.inr (e▸y)))) (λz=>.inl ((hF x).2 (.inr z)))⟩,
  ⟨λx k=>.inl k,λx k=>k.elim .inl (λe=>vK.elim (λz=>.inl (e▸h.dh.qv _ z)) (λz=>.inr (e▸z)))⟩⟩
end
end
def azQ:(prog.info? 64).map (λi=>(i.zero,i.size,i.bytes))=some (some ↑aH,1,24):=bV
def azR{a:Nat}{cs aX:Array Value}{t u:TypeId}{f g:Nat×Nat}(h:w.heap[a]?=some (.cells cs t f))(k:w.heap[b]?=some (.cells aX u g))(di:t≠u):a≠b:=λe=>by
 subst e;rw[h]at k;injection k with k;injection k with _ k _;exact di k
def mD.cN(y:mD):∀u∈y.cs,u.oneCell'=true:=by
 intro u al;simp only[mD.cs,nK,sW,tJ]at al;subst al;rfl
def Own.al3{sz:Nat}{c:α->List Value}{o cap:Nat}{ys:List α}(h:Own w base e sz c (some (b,o)) n cap ys):o=0/\∃cs,w.heap[b]?=some (.cells cs e (0,0)):=by
 rcases h.row.2 with ⟨bo,_⟩|⟨g,aQ,cur,bo,_,bu,_⟩
 ·cases bo
 ·injection bo with ae;injection ae with ae;injection ae with ae ak;subst ae;exact⟨ak,cur,bu⟩
def al4(c:bt)(P:Nat)(w:World)(M F:Nat->Prop)(r:List (List cd)×Int×aZ)(e:Ending)(w':World):Prop:=
 ∃a n aQ ys M' fb,e=.returned (.tuple #[aq a n aQ,r.2.1])/\Own w' w.heap.size 34 1 eJ.cs a n aQ ys/\(∀y,y∈ys->Own w' w.heap.size 77 4 cd.cs y.v.a y.v.n y.v.c y.dH)/\ys.map (·.dH)=r.1/\jh w' M' fb c P r.2.2/\hJ w M F w' M' fb/\∀x,fb x->x<w.heap.size\/∀ai:Addr,(a=some ai\/∃y,y∈ys/\y.v.a=some ai)->ai.block≠x
def aav{P:Nat}{T:Nat}(h:jh w M F c P aU)(cn:jL c)(bb:dy c l T aU)(r5:c.room<=60000)(qt:∀k,aU.cur k<=1000000)(cl:Int):
  aR 25 #[P,cl] w (al4 c P w M F (aU.o5 c cl)):=by
 obtain⟨v,cA,g,p,q,D,O,W,dA,mj⟩:=h;replace dA:=I dA;replace mj:=I mj;replace cn:=I cn;replace bb:=I bb;go_enter func25,ntmps25;go_wp2_with fail;refine(Vy (dA.ext X).dh cn cl).mono ?_;rintro e w1⟨rfl,bx⟩;replace bx:=I bx;have BQ:∀z:Int,aU.o5 c cl=([],z,aU)->∀aN,Z w aN->al4 c P w M F (aU.o5 c cl) (.returned (.tuple #[aH,z])) aN:=λz bf aN cj=>by
  rw[bf];exact⟨none,0,0,[],M,F,rfl,Own.nil _ _ _ eJ.bH,(λy hy=>by cases hy),rfl,⟨v,cA,g,p,q,D,O,W,dA.ext cj,mj⟩,.of cj,λx U=>.inl (dA.dh.cx x (dA.Vv x ((mj x).1 U)))⟩
 replace BQ:=I BQ;cases b5:mb c cl with
 |none=>
  have ax:rA c aU.bR p cl=(none,1):=by unfold rA;rw[b5]
  have eZ:=I (show aU.o5 c cl=([],1,aU)from by unfold aZ.o5;rw[b5]);rw[ax];clear ax b5;go_wp2_with fail;go_ret2;exact BQ 1 eZ _ X
 |some n=>
  cases cB:aU.bR n with
  |down dk=>
   refine aal ?_;intro ax;have eZ:=I (show aU.o5 c cl=([],210,aU)from by unfold aZ.o5;rw[b5];dsimp only;rw[cB]);rw[ax];clear ax b5 cB;go_wp2_with fail;go_ret2;exact BQ 210 eZ _ X
  |up b=>
   have ax:rA c aU.bR p cl=(some ⟨p n,0,none⟩,0):=by unfold rA;rw[b5];dsimp only;rw[cB]
   rw[ax];obtain⟨an,gV,uE⟩:=VN cn bb b5 cB;have nD:=(bb.up n b an cB).1;have Ab:=nD.ez.wd r5;have eU:∀d,d∈b.st.ag->hP d:=λd aD=>(nD.ez.Cv.ag d aD).ok;have qa:cl<(c.hs.length:Int):=by
    have JB:=b5;unfold mb at JB;split at JB
    ·rename_i z;exact z.2
    ·cases JB
   obtain⟨k,rfl⟩:∃k:Nat,cl=(k:Int):=⟨cl.toNat,J⟩;have b8:k<c.hs.length:=J;have hC:=dA.ext bx;obtain⟨_,ko⟩:rp w1 M (D n) (O n) c (p n) (q n) b:=by have:=hC.dh.qs n an;rw[cB]at this;exact this
   have lW:=hC.dh.fJ.neq;rw[cr,IY]at lW;obtain⟨fC,o,Ft,fW⟩:=hC.dh.fJ.aF.get k (by simpa using b8);have jR:=hC.dh.fJ;rw[Ft]at jR;obtain⟨rfl,_,QH⟩:=jR.al3;have qX:=AI fW;rw[jT,Et,Qy,om]at qX;have VR:=aI (o:=5) hC.dh.box rfl;rw[show(#[v.cD,v.aj,v.lT,v.aX,.map (some v.dg),v.fJ,v.go]:Array Value)[5]=Value.slice v.fJ.a v.fJ.n v.fJ.c from rfl,Ft]at VR;have b0:(0:Int)<=(k:Int):=J;have bd:(k:Int)<(v.fJ.n:Int):=J;have QI:=qt k;by_cases wh:b.st.ag.length<aU.cur k
   ·have eZ:=I (show aU.o5 c (k:Int)=([],1,aU)from by unfold aZ.o5;rw[b5];dsimp only;rw[cB];dsimp only;rw[Int.toNat_natCast,if_pos wh]);have og:=I (azL ko eU Ab (k:Int) uE (aU.cur k) wh QI);clear ax b5 cB Ft fW jR QH hC b8 ko wh eU Ab nD uE qa gV QI qt;go_wp2_with fail;refine og.mono ?_;rintro e aN⟨t,rfl,bz⟩;replace bz:=I bz;go_wp2_with fail;go_ret2;exact BQ 1 eZ _ X
   ·obtain⟨gx,BA⟩:∃gx,b.KP (k:Int) (aU.cur k)=gx:=⟨_,rfl⟩;have eZ:=I (show aU.o5 c (k:Int)=(gx.1,0,aU.Oo k gx.2)from by unfold aZ.o5;rw[b5];dsimp only;rw[cB];dsimp only;rw[Int.toNat_natCast,if_neg wh,BA]);have al5:Hid (gx.1.length<=8/\∀e,e∈gx.1->e.length<=16):=BA▸al0 _ _ _ (λd aD=>eU d (HI aD));have Fp:=I (show aU.cur k<=gx.2 from by rw[<-BA];exact(aas _ _ _).1);have VB:=I (show gx.1≠ []->aU.cur k+1<=gx.2 from by rw[<-BA];exact(aas _ _ _).2);have og:=awI ko eU Ab (k:Int) uE (aU.cur k) (Nat.le_of_not_lt wh);rw[BA]at og;replace og:=I og;replace Ft:=I Ft;replace QH:=I QH;replace b8:=I b8;replace QI:=I QI;clear ax b5 cB fW hC ko wh jR eU Ab nD uE qa gV qt BA;go_wp2_with fail;refine og.mono ?_;rintro e aN⟨cE,cZ,c2,ys,rfl,b7,A5,lj,bz⟩;have azS:=bz.ah VR;have al6:=bz.ah qX;have Aw:∀j,aN.frozen? ⟨fC,j,none⟩=false:=λj=>nS (bz.aB QH);replace bz:=I bz;replace b7:=I b7;replace A5:=I A5;replace lj:=I lj;replace VR:=I VR;replace qX:=I qX;have jZ:=bT QH;have ll:=(dA.ext (bx.trans bz)).Hf (x:=gx.2) b8 Fp Ft;have kc:hJ w M F (aN.setCell (fC,k) (gx.2:Int)) M F:=(hJ.of (bx.trans bz)).trans (hJ.Hf (dA.ext (bx.trans bz)) mj b8 Fp Ft);have h4:=((dA.ext (bx.trans bz)).dh.Hf (x:=gx.2) b8 Fp Ft).2.1;have al7:=I ((dA.ext (bx.trans bz)).dh.Hf (x:=gx.2) b8 Fp Ft).2.2;have cz:=(b7.gA h4 (λx e=>by rw[show x=fC from e];exact jZ)).mono bx.size;have JC:∀y,y∈ys->Own (aN.setCell (fC,k) (gx.2:Int)) w 77 4 cd.cs y.v.a y.v.n y.v.c y.dH:=λy hy=>((A5 y hy).gA h4 (λx e=>by rw[show x=fC from e];exact jZ)).mono bx.size;replace ll:=I ll;replace kc:=I kc;replace cz:=I cz;replace JC:=I JC;clear h4;by_cases ak:0<cZ
    ·obtain⟨aY,vd⟩:∃aY,aN.setCell (fC,k) (gx.2:Int)=aY:=⟨_,rfl⟩;rw[vd]at ll kc cz JC al7;obtain⟨⟨gs,zr,w9,VS,aaw,QJ⟩,aax⟩:=al7;obtain⟨y,Ap⟩:∃y,gs[k]?=some y:=⟨gs[k]'(by rw[w9];exact b8),fz _⟩;obtain⟨B,o,Hg,Tr⟩:=zr.aF.at_ k y Ap;rw[Hg]at zr;obtain⟨rfl,_,ql⟩:=zr.al3;have QK:=Tr 0 _ rfl;rw[jT,om,uY]at QK;have CY:v.go.n=c.hs.length:=zr.neq.trans w9;have aay:=aI (o:=6) ll.dh.box rfl;rw[show(#[v.cD,v.aj,v.lT,v.aX,.map (some v.dg),v.fJ,v.go]:Array Value)[6]=Value.slice v.go.a v.go.n v.go.c from rfl,Hg,CY]at aay;have hv:(k:Int)<(c.hs.length:Int):=by have:=b8.out;omega
     have azT:=I CY;have Fi:=I ll.dh.box;obtain⟨hO,Db,QL⟩:=VS y (Be Ap);obtain⟨ca,bJ,bF,bG,bK⟩:=info_parts azQ;replace bJ:=I bJ;replace bF:=I bF;replace bG:=I bG;replace bK:=I bK;replace ql:=I ql;replace Db:=I Db;replace QL:=I QL;replace Ap:=I Ap;replace QK:=I QK;replace aay:=I aay;replace Hg:=I Hg;replace zr:=I zr;replace w9:=I w9;replace VS:=I VS;replace aaw:=I aaw;replace aax:=I aax;replace QJ:=I QJ;clear Tr;go_wp2_with fail;clear vd azS al6 Aw;refine uc 17 (λw'=>w'.heap[P]?=some (.cells #[v.cD,v.aj,v.lT,v.aX,.map (some v.dg),v.fJ,v.go] 90 (0,0))/\w'.cell? (B,k)=some ↑y.s) (λa7=>?_) aaz;refine um ?_;refine ed 3 ?_ (hy:=λw iA=>al8);refine ed 4 ?_;refine ed 5 ?_;refine ed 6 ?_;refine ed 7 ?_;refine ed 8 ?_ (hy:=λw iA=>al8);refine ed 9 ?_;refine ed 10 ?_;refine Ei 11 (·.2) ?_;refine ed 12 ?_;refine lh 13 λK aL=>?_;go_simp;go_at_call 63;refine(azK cE cZ c2 ys _ ⟨cz.aF.ext X,λy hy=>(JC y hy).aF.ext X⟩ (by have ae:=al5.out.1;have aM:=cz.neq;have bn:=eP List.length lj;rw[cr]at bn;omega) (λy hy=>by have:=al5.out.2 y.dH (lj.out▸mJ hy);omega)).mono ?_;rintro e b3⟨a5,jc,dw,rfl,ix⟩;have ic:Hid (Z aY b3):=Z.trans X ix;clear ix;refine aL _ _ (λ_ _=>aaz) λhH=>eY ?_;have a7:=hH rfl af;refine lh 14 λK aL=>?_;go_simp;refine aL _ _ (λ_ _=>aaz) λhH=>eY ?_;have a7:=hH rfl af;refine lh 15 λK aL=>?_;have jO:Z aY (b3.alloc (.cells #[aq a5 jc dw] 64)):=X;refine vE (ys:=hO) (c:=mD.cs) rfl (.tmp 57) (.tmp 60) 133 rfl ca _ 24 underlying133 bJ bF bG bK rfl af rfl (Db.ext jO) ⟨⟨a5,jc,dw⟩⟩ _ rfl (fc (cs:=mD.cs ⟨⟨a5,jc,dw⟩⟩) rfl) (mD.cN _) (by have:=QJ.out k y Ap;have:=QI.out;omega) af (hX _) ?_;intro g6 eC cV k4 Fu;have pX:=Fu.aB (jO.aB Fi) (λai aj=>(Db.ext jO).eQ (jO.aB Fi) af ai aj);have VT:=Fu.aB (jO.aB ql) (λai aj=>(Db.ext jO).eQ (jO.aB ql) af ai aj);have NT:=Fu.cell (jO.ah QK) (λai aj=>(Db.ext jO).eQ (jO.aB ql) af ai aj);have aC1:∀j,cV.frozen? ⟨B,j,none⟩=false:=λj=>nS VT;replace jO:=I jO;replace k4:=I k4;replace Fu:=I Fu;replace pX:=I pX;replace VT:=I VT;refine aL _ _ (λ_ _=>(by(try dsimp only);exact⟨pX,NT⟩)) λhH=>eY ?_;have a7:=hH rfl af;refine ed 16 ?_;refine lh 17 λK aL=>?_;go_simp;obtain⟨df,xg⟩:∃df,cV.setCell (B,k) (.slice (some (g6,0)) (y.s.n+1) eC)=df:=⟨_,rfl⟩;have GQ:∀x,W x->x<(w:Nat):=λx U=>dA.dh.cx x (dA.dh.qv x U);have azU:=jO.size;have zT:(w:Nat)<=(aY:Nat):=kc.dT.size;have aaA:W B:=aax.out _ Hg;have al9:∀x,pP y.s.a x->W x:=λx ⟨ai,aj,e⟩=>e▸QL.out ai aj;have QM:aG (λx=>x=B\/pP y.s.a x) aY df:=by
      subst xg;exact((aG.of jO).trans (Fu.dT.mono (λx _ e=>.inr e))).setCell (B,k) (.inl (.inl rfl)) _
     have di:gx.1≠ []:=λe=>by
      have aM:=b7.neq;have bn:ys.length=gx.1.length:=by rw[<-lj.out,cr]
      have cb:gx.1.length=0:=by rw[e];rfl
      omega
     have ama:rz df (yy W g6) v.go c.hs.length (aU.Oo k gx.2).cur:=by
      subst xg;refine rz.put (cur:=aU.cur) Hg aaA (by rw[Hg.out];exact zr.ext jO) w9 (λz bf=>let ⟨cq,bQ,bY⟩:=VS z bf;⟨cq,bQ.ext jO,bY⟩) aaw QJ (λj=>?_) ?_ Ap (Db.ext jO) Fu k4 (λx U=>by have:=GQ x U;omega)
      ·show aU.cur j<=if j=k then gx.2 else aU.cur j;split
       ·rename_i e;rw[e];exact Fp
       ·exact bA _
      ·show y.s.n+1<=if k=k then gx.2 else aU.cur k;rw[bm rfl];have ae:=VB.out di;have ak:=QJ.out k y Ap;omega
     have a8:∀x,(x=B\/pP y.s.a x)->W x:=λx U=>U.elim (λe=>e▸aaA) (al9 x);have vK:W g6\/(aY:Nat)<=g6:=Fu.at_.elim (λk=>.inl (let ⟨ai,aj,e⟩:=k;e▸QL.out ai aj)) (λe=>.inr J);have aaB:∃aS kk,aY.heap[v.dg]?=some (.map aS kk):=by
      obtain⟨_,_,_,vA,_⟩:=ll.dh.dg;exact vA.Hd
     have amb:=zr.out
     have aaC:=ll.aat QM a8 (λU=>U.elim (λe=>azR ql ll.dh.box af (show P=B from e).symm) (fun⟨ai,aj,e⟩=>Db.eQ ll.dh.box af ai aj e)) (λU=>U.elim (λe=>amb.C8 aaB _ rfl (show v.dg=B from e).symm) (fun⟨ai,aj,e⟩=>Db.C8 aaB ai aj e))
      (λai aj U=>U.elim (λe=>ll.dh.fJ.eQ ql af ai aj e) (fun⟨nw,pK,e⟩=>(Db.gQ ll.dh.fJ af) nw ai pK aj e)) vK (by subst xg;exact(k4.nh VT af (.slice (some (g6,0)) (y.s.n+1) eC) (j:=k)).lt _ rfl|>.2) ama
     have iq:=hJ.aat ll mj QM a8 vK;have lv:=I (cz.gA QM (λx U=>GQ x (a8 x U)));have Kw:Hid (∀y,y∈ys->Own df w 77 4 cd.cs y.v.a y.v.n y.v.c y.dH):=λz bf=>(JC z bf).gA QM (λx U=>GQ x (a8 x U))
     have azV:=I (show ∀x,uC c g D O (yy W g6) x->x<(w:Nat)\/∀ai:Addr,(cE=some ai\/∃y,y∈ys/\y.v.a=some ai)->ai.block≠x from λx U=>by
      have pn:∀x,uC c g D O W x->x<(w:Nat):=λx k=>dA.dh.cx x (dA.Vv x k);rcases U with (k|k)|k
      ·exact .inl (pn x (.inl k))
      ·rcases Fu.at_ with z|z
       ·obtain⟨ai,aj,e⟩:=z;exact .inl (pn x (.inl (by rw[show x=g6 from k,<-e];exact QL ai aj)))
       ·refine .inr (λai NO e=>?_);have tQ:ai.block<(aY:Nat):=NO.elim (λaj=>(cz.lt ai aj).2) (fun⟨rD,uN,aj⟩=>((JC rD uN).lt ai aj).2);have k:x=g6:=k;omega
      ·exact .inl (pn x (.inr k)))
     rw[xg];replace aaC:=I aaC;replace iq:=I iq;clear xg GQ azU zT aaA al9 QM di ama a8 vK aaB amb;refine Jt ?_;intro _;go_wp2_with fail;go_ret2;rw[eZ.out];exact⟨cE,cZ,c2,ys,yy M g6,uC c g D O (yy W g6),rfl,lv,Kw,lj,⟨v,cA,g,p,q,D,O,yy W g6,aaC,λ_=>Iff.rfl⟩,kc.trans iq,azV⟩
    ·go_wp2_with fail;go_ret2;rw[eZ.out];exact⟨cE,cZ,c2,ys,M,F,rfl,cz,JC,lj,⟨v,cA,g,p,q,D,O,W,ll,mj⟩,kc,λx U=>.inl (dA.dh.cx x (dA.Vv x ((mj x).1 U)))⟩
def aaD{P:Nat}{T:Nat}(h:jh w M F c P aU)(ao:jL c)(aO:dy c l T aU)(r5:c.room<=60000)(an:n<c.ps.length):
  aR 10 #[P,(n:Int)] w (YP (gZ aU n) w):=by
 obtain⟨v,_,g,p,q,D,O,W,h,hF⟩:=h;have ny:=Fm ao.toka;obtain⟨s,f,a,Fo,bc,aj,hs⟩:=h.dh.dg.get (n:=n) an;have c5:Hid (decide (0<=(n:Int)/\(n:Int)<(c.ps.length:Int))=true):=mS ⟨J,J⟩;have ef:=I Fo;have cv:=I bc;have oI:=I (CU (k:=(n:Int)) (uk J J));have H:=I h;have fm:=aI (o:=4) h.dh.box rfl;have va:Z w (w.alloc lB):=X;have j4:(w.alloc lB).heap[(w:Nat)]?=some (lB:Obj):=fi rfl;have fX:=I j4;cases cB:aU.bR n with
 |up b=>
  have qg:mi aU.bR p n=some (p n):=by unfold mi;rw[cB]
  have av:=I (show(f (.int .i64 (n:Int))).isSome=true from by rw[hs,qg];rfl);have dA:=I (show a=some ⟨p n,0,none⟩ from by rw[aj,qg];rfl);have ec:gZ aU n=b.st:=wW cB;have alv:rp w M (D n) (O n) c (p n) (q n) b:=by have:=h.dh.qs n an;rw[cB]at this;exact this
  obtain⟨_,alq⟩:=alv;have fP:=I ((aO.up n b an cB).1.ez.CR ao.toka.room);rw[ec];replace alq:=I alq;clear h hF ao aO Fo bc aj hs qg ec cB;go_enter func10,ntmps10;go_wp2_with fail;obtain⟨bs,hI⟩:∃bs,w.alloc lB=bs:=⟨_,rfl⟩;have gg:bs.heap.size=w.heap.size+1:=by subst hI;simp
  rw[hI]at va j4 fX ⊢;have cS:=I va;clear hI va j4;refine(Fl (H.dh.ext cS) (n:Int)).mono ?_;rintro e w1⟨rfl,bU⟩;rw[c5.out];have Vx:=(cS.trans bU).ah fm;replace bU:=I bU;clear fm;go_wp2_with (at_lookup;(refine amc ?_));refine(awB (alq.ext (cS.trans bU)) fP).mono ?_;rintro e aN⟨cu,ag,ps,rfl,aaE,bz⟩;have BR:=bz.aB (bU.aB fX);replace bz:=I bz;replace aaE:=I aaE;obtain⟨u0,u1,u2,u3,Aw⟩:=Ci BR;replace BR:=I BR;go_wp2;obtain⟨lk,iL⟩:∃lk,((((aN.setCell (w,0) (ad cu.cO)).setCell (w,1) cu.l).setCell (w,2) cu.p).setCell (w,3) cu.b)=lk:=⟨_,rfl⟩;have g0:=er (er (er (er BR 0 (ad cu.cO)) 1 cu.l) 2 cu.p) 3 cu.b;have oe:=((((aG.refl (λx=>x=(w:Nat)) aN).setCell (w,0) (.inl rfl) (ad cu.cO)).setCell (w,1) (.inl rfl) cu.l).setCell (w,2) (.inl rfl) cu.p).setCell (w,3) (.inl rfl) cu.b;rw[iL]at g0 oe;rw[iL];clear iL;obtain⟨z0,cU,z2,z3⟩:=vx g0;refine⟨rfl,_,(by simp[results,results10,go_sem,z0,cU,z2,z3];rfl),?_⟩;exact⟨cu,ag,ps,rfl,((aaE.mono (by have:=(cS.trans bU).size;omega)).Er BR oe),oe.ext (λx e=>sT) (cS.trans (bU.trans bz))⟩
 |down dk=>
  have qg:mi aU.bR p n=none:=by unfold mi;rw[cB]
  have av:=I (show(f (.int .i64 (n:Int))).isSome=false from by rw[hs,qg];rfl);have dA:=I (show a=none from by rw[aj,qg];rfl);have ec:gZ aU n=Ct dk:=by unfold gZ;rw[cB];rfl
  have alv:ly w (D n) (q n) (gb (dk.map gl)) (gb (dk.map gl)).length c.room/\H5 (dk.map gl):=by have:=h.dh.qs n an;rw[cB]at this;exact this
  have Mw:=aO.down n dk an cB;obtain⟨c6,de,h9,hx⟩:=akR Mw ao.toka.room;have aae:=I alv.1;have DD:0<(gb (dk.map gl)).length:=by
   have ae:=KC (dk.map gl);rw[cr]at ae;have ak:dk≠ []:=λe=>by
    have aM:=Mw.cO;have bn:=Mw.Cw;rw[e]at bn;have cb:Ct dk=j0:=by
     have:oF j0 []=some j0:=rfl;rw[this]at bn;rw[e];exact(wL bn).symm
    rw[cb]at aM;exact absurd aM af
   have:=List.length_pos_iff.2 ak;omega
  have vM:(gb (dk.map gl)).length<=60000:=by have:=alv.1.qK;omega
  have fM:n<v.aX.n:=by rw[h.dh.lR.dQ.2.2.neq];simp;omega
  obtain⟨_,o,qq,fW⟩:=h.dh.lR.dQ.2.2.get n (by simpa using an);have qX:=fW 0 _ rfl;rw[jT,Et,Qy]at qX;simp only[uY]at qX;have b0:(0:Int)<=(n:Int):=J;have bd:(n:Int)<(v.aX.n:Int):=J;have Av:=aI (o:=3) h.dh.box rfl;rw[show(#[v.cD,v.aj,v.lT,v.aX,.map (some v.dg),v.fJ,v.go]:Array Value)[3]=Value.slice v.aX.a v.aX.n v.aX.c from rfl,qq]at Av;rw[ec];replace Mw:=I Mw;replace c6:=I c6;replace de:=I de;replace h9:=I h9;replace qX:=I qX;replace Av:=I Av;clear h hF ao aO Fo bc aj hs qg ec cB alv qq fW;go_enter func10,ntmps10;go_wp2_with fail;obtain⟨bs,hI⟩:∃bs,w.alloc lB=bs:=⟨_,rfl⟩;have gg:bs.heap.size=w.heap.size+1:=by subst hI;simp
  rw[hI]at va j4 fX ⊢;have cS:=I va;clear hI va j4;refine(Fl (H.dh.ext cS) (n:Int)).mono ?_;rintro e w1⟨rfl,bU⟩;rw[c5.out];have Vx:=(cS.trans bU).ah fm;have ft:=bU.size;replace bU:=I bU;clear fm;go_wp2_with (at_lookup;(refine amc ?_));have PK:=aeZ 1048576 w1 J;rw[show((1048576:Nat):Int)=1048576 from rfl]at PK;refine PK.mono ?_;clear PK;rintro e _⟨rfl,hQ,bz⟩;have aC2:=(cS.trans (bU.trans bz)).ah Av;have al6:=(cS.trans (bU.trans bz)).ah qX;replace bz:=I bz;replace hQ:=I hQ;go_wp2_with fail;refine(ae0 (D n) (q n) _ _ _ _ (aae.ext (cS.trans (bU.trans bz)))).mono ?_;rintro e aY⟨a3,_,da,rfl,cz,c9⟩;replace c9:=I c9;replace cz:=I cz;have SL:=I cz.neq;go_wp2_with fail;refine(ae1 (λb=>b=(w1:Nat)) (w1:Nat) [] (gb (dk.map gl)) 0 1048576 a3 _ da aY (hQ.ext c9) cz.aF (by rw[SL.out];exact DD) (by have:=SL.out;rw[nW];omega)).mono ?_;rintro e b3⟨rfl,Ji,k9,nT,amd⟩;have eX:=I (nT.ext (W:=bs) (λx e=>by rw[show x=(w1:Nat)from e];omega) (bU.trans (bz.trans c9)));replace k9:=I k9;have dW:Hid (∀x,Ji x->(bs:Nat)<=x):=λx k=>(amd.new x k).elim (λe=>by rw[show x=(w1:Nat)from e];omega) (λz=>by have:=(bz.trans c9).size;omega);clear nT amd;go_wp2_with fail;refine(ae5 Ji Ji w1 (dk.map gl) 0 1048576 b3 k9 de (λ_ k=>k) k9.cx).mono ?_;rintro e _⟨_,rfl,_,_,vn,oU,azW⟩;have ic:=I (oU.ext (W:=bs) (λx k=>dW x k) eX);replace vn:=I vn;clear oU azW;go_wp2_with fail;refine(ae4 _ _ _ _ _ _ _ _ _ vn).mono ?_;rintro e cV⟨rG,n6,eC,azX,rfl,pX,LX,mc⟩;replace mc:=I mc;replace pX:=I pX;replace LX:=I LX;go_wp2_with fail;refine(agV rG n6 eC azX dk (Ct dk) cV pX.v LX c6 Mw.Cw h9 hx).mono ?_;rintro e df⟨cu,ag,ps,rfl,aaF,BH⟩;replace BH:=I BH;replace aaF:=I aaF;have n5:Z bs (df.alloc cu):=(ic.trans (mc.trans BH)).alloc _;have BR:=n5.aB fX;obtain⟨_,_,_,_,_⟩:=Ci BR;replace BR:=I BR;replace n5:=I n5;go_wp2_with fail;obtain⟨lk,iL⟩:∃lk,(((((df.alloc cu).setCell (w,0) (ad cu.cO)).setCell (w,1) cu.l).setCell (w,2) cu.p).setCell (w,3) cu.b)=lk:=⟨_,rfl⟩;have g0:=er (er (er (er BR 0 (ad cu.cO)) 1 cu.l) 2 cu.p) 3 cu.b;have oe:=((((aG.refl (λx=>x=(w:Nat)) (df.alloc cu)).setCell (w,0) (.inl rfl) (ad cu.cO)).setCell (w,1) (.inl rfl) cu.l).setCell (w,2) (.inl rfl) cu.p).setCell (w,3) (.inl rfl) cu.b;rw[iL]at g0 oe;rw[iL];clear iL;obtain⟨z0,cU,z2,z3⟩:=vx g0;refine⟨rfl,_,(by simp[results,results10,go_sem,z0,cU,z2,z3];rfl),?_⟩;have AL:(w:Nat)<=(cV:Nat):=by have:=(cS.trans (ic.trans mc)).size;exact this
  have QN:=cS.trans n5;exact⟨cu,ag,ps,rfl,((aaF.ext ((Z.refl df).alloc _)).mono AL).Er BR oe,oe.ext (λx e=>sT) QN⟩
def azY{P:Nat}{T:Nat}(h:jh w M F c P aU)(ao:jL c)(aO:dy c l T aU)(r5:c.room<=60000)(an:n<c.ps.length)(cB:aU.bR n=.down dk):
  aR 186 #[P,(n:Int)] w (cM (.int .i64 ((gZ aU n).ps.length:Nat)) w):=by
 have og:=I (aaD h ao aO r5 an);obtain⟨v,_,g,p,q,D,O,W,h,hF⟩:=h;have qg:qZ c aU.bR (n:Int)=false:=by
  unfold qZ;rw[nQ,cB,FH]
 have ny:=Fm ao.toka;change Hid _ at h qg;clear hF ao aO cB;go_enter func186,ntmps186;go_wp2_with fail;refine og.out.mono ?_;rintro e _⟨cu,_,_,rfl,ec,bw⟩;have CF:=I ec.ct.jE;change Hid _ at bw;have aaG:∀w:aC,(Instr.field 44 (.agg #[ad cu.cO,cu.l,cu.p,cu.b]) 2).run prog w=.ok (.slice cu.p.a cu.p.n cu.p.c) w:=λ_=>by kernel_rfl
 clear ec;go_wp2_with fail;refine(Id (h.out.dh.ext bw.out) J (n:Int)).mono ?_;rintro e _⟨rfl,cj⟩;rw[qg.out];change Hid _ at cj;go_wp2_with fail;go_ret;exact⟨by rw[<-CF.out];rfl,X⟩
section
section
variable {c:bt}{l:List lz}{K:Nat}{w:aZ}
def azZ(h:dy c l K w)(k n:Nat):dy c l K (w.Oo k n):=⟨h.up,h.down,h.cO,h.cC,h.ay,h.h5,h.Bc,h.len,h.CA,h.CB⟩
def ame(h:dy c l K w)(cl:Int):dy c l K (w.o5 c cl).2.2:=by
 unfold aZ.o5;split
 ·exact h
 ·split
  ·exact h
  ·split
   ·exact h
   ·exact azZ h _ _
def amf{u:Nat}(al:u<2 ^ 64){f:List T}(bc:∀t,t∈f->k8 t.n)(b:az):(∃t:gN,t.a=true/\t.e.k≠1/\t.e.id=b.gX/\(dx b.gX->0<=cl/\cl<32->hP t.e)/\b.sub cl u f=b.qk (qh b.tx t))\/(b.sub cl u f).1≠0:=by
 unfold az.sub D9;by_cases ae:hD b.tx b.gX<b.tx.length
 ·right;rw[bm ae];unfold az.qk;simp
 ·rw[bj ae];cases ao:mY f with
  |false=>
   right;rw[bm rfl];unfold az.qk;simp
  |true=>
   left;rw[bj af];refine⟨_,rfl,?_,rfl,λaO gV=>⟨aO,gV,?_,.inr (.inl ⟨rfl,rfl,⟨ao,bc⟩⟩)⟩,rfl⟩
   ·show(2:Int)≠1;decide
   ·show kP (u:Nat);unfold kP;omega
end
section
variable {c:bt}{w:aZ}
def aaH{β:Type}{f:aZ->β->aZ}(bc:∀w x,(f w x).cur=w.cur)(l:List β):∀w:aZ,(l.foldl f w).cur=w.cur:=by
 induction l with
 |nil=>intro w;rfl
 |cons x l cI=>intro w;rw[mM,cI,bc]
def az0(a b:Nat)(m:dC):(w.send c a b m).cur=w.cur:=by unfold aZ.send;split<;>rfl
def az1(n:Nat):(w.tick c n).cur=w.cur:=by
 unfold aZ.tick;split
 ·rfl
 ·unfold aZ.xV;rw[aaH (λw o=>az0 _ _ _)];rfl
def az2(a b:Nat)(m:dC):(w.Ec c a b m).cur=w.cur:=by unfold aZ.Ec;split<;>rfl
def az3(a b:Nat):(w.vV c a b).cur=w.cur:=by
 unfold aZ.vV;split
 ·rfl
 ·rw[az2];rfl
def amg(a b:Nat):∀(f:Nat) (w:aZ),(aZ.drain c f w a b).cur=w.cur
 |0,_=>rfl
 |f+1,w=>by
  rw[aZ.drain]
  split
  ·rfl
  ·rw[amg a b f,az3]
def az4(n:Nat):(w.kF c n).cur=w.cur:=by
 unfold aZ.kF;split
 ·rfl
 ·unfold aZ.Oq;rw[aaH (λw d=>by split;rfl;exact amg _ _ _ _),az1]
def VU:(w.round c).cur=w.cur:=by unfold aZ.round;exact aaH (λw d=>az4 d) _ _
def QO(cl:Int)(f:az->Int×az):(w.call c cl f).2.2.cur=w.cur:=by
 unfold aZ.call;split
 ·rfl
 ·split
  ·rfl
  ·split<;>rfl
def Mx(cl:Int)(i:aA)(f:az->Int×az):(w.kG c cl i f).2.cur=w.cur:=by
 unfold aZ.kG;split
 ·rfl
 ·split
  ·rfl
  ·split<;>rfl
def amh{cl:Int}:∀(l:List bg) (n:Nat) (eg:List lX),(mA cl n eg l).2<=n+l.length
 | [],n,_=>bA _
 |d::r,n,eg=>by
  unfold mA
  split
  ·have:=amh (cl:=cl) r (n+1) (tZ eg d)
   rw[mv];omega
  ·rw[mv];show n+1<=_;omega
def az5{l:List lz}{K:Nat}(ao:jL c)(h:dy c l K w)(r5:c.room<=60000)(qt:∀k,w.cur k<=1000000)(cl:Int):∀k,(w.o5 c cl).2.2.cur k<=1000000:=by
 intro k;unfold aZ.o5;split
 ·exact qt k
 ·rename_i n an;split
  ·exact qt k
  ·rename_i b aa;split
   ·exact qt k
   ·rename_i hle;have ae:=amh (cl:=cl) (b.st.ag.drop (w.cur cl.toNat)) (w.cur cl.toNat) (j1 (b.st.ag.take (w.cur cl.toNat)));have ak:=((h.up n b (ao.at_ an).1 aa).1.ez).wd r5;rw[Dx]at ae;show(if k=cl.toNat then _ else _)<=_;split
    ·unfold az.KP;omega
    ·exact qt k
end
end
def az6{l:List α}{p:α->Prop}(hk:k<l.length)(h:∀(j:Nat) (aJ:j<l.length),j<k->p l[j])(aV:p l[k]):∀(j:Nat) (aJ:j<l.length),j<k+1->p l[j]:=λj aJ ae=>by
 rcases zz j k with z|z
 ·exact h j aJ z
 ·obtain rfl:j=k:=J;exact aV
def aaI(cL cE:bk)(dv cZ c1 c2:Nat)(xs ys:List eJ)(w:aC)(bU:xp w cL dv c1 xs)(p8:xp w cE cZ c2 ys)(VV:xs.map (·.dH)=ys.map (·.dH)):
  aR 26 #[aq cL dv c1,aq cE cZ c2] w (cM (.bool true) w):=by
 have VW:xs.length=ys.length:=by rw[<-cr (f:=(·.dH)),VV,cr]
 have ak:=p8.aF.neq;obtain rfl:=bU.aF.neq;rw[<-VW]at ak;subst ak;have hm:=bU.aF.max;have aT:=bU.aF.len;unfold maxLen at hm;replace bU:=I bU;replace p8:=I p8;replace VV:=I VV;replace VW:=I VW;go_enter func26,ntmps26;go_wp2_with fail;go_loopg [5] (xs.length) (λg st wr=>∃k:Nat,g+k=xs.length/\st=.int .i64 k/\Hid (Z w wr));case atStart=>exact⟨0,J,rfl,Z.refl _⟩
 case round=>
  obtain⟨k,_,rfl,U⟩:=hrel;by_cases hk:k<xs.length
  ·have k3:k<ys.length:=by rw[<-VW.out];exact hk
   obtain⟨b,o,rfl,ao⟩:=bU.aF.get k hk;have d0:=HA (w:=wr) (b:=b) (o:=o+k*1) (x:=xs[k]) (λj v aJ=>U.ah (ao j v aJ));obtain⟨b',ks,rfl,xn⟩:=p8.aF.get k k3;have jX:=HA (w:=wr) (b:=b') (o:=ks+k*1) (x:=ys[k]) (λj v aJ=>U.ah (xn j v aJ));rw[jT]at d0 jX;clear ao xn;refine kt ?_;intro b0 bd
   have jI:=I (show xs[k].dH=ys[k].dH by
    have ae:(xs.map (·.dH))[k]? =(ys.map (·.dH))[k]? :=by rw[VV.out]
    exact az7)
   go_wp2_with fail;go_region_held3 (λw'=>w'.cell? (b,o+k)=some ↑xs[k].v/\w'.cell? (b',ks+k)=some ↑ys[k].v) (first|(go_split_ands;refine⟨?_,?_⟩<;>exact(Hid.out hy).ah (by assumption))|go_keep) (first|(go_at_call 64;refine(aoq _ _ _ _ _ _ xs[k].dH _ ((bU.dH xs[k] (c7 hk)).ext X) (by rw[jI.out];exact(p8.dH ys[k] (c7 k3)).ext X)).mono ?_;rintro e _⟨rfl,hy⟩;replace hy:=I hy));exact acA
  ·go_wp2;go_ret;exact⟨rfl,X⟩
def zx(n:Nat)(hs:List Int):Bool:=decide (1<=hs.length/\hs.length<=32)&&hs.all (λh=>decide (0<=h/\h<(n:Int)))
def az8{eL an ao:Nat}{aj:bk}{ps hs:List Int}(pv:a1 w 1 dD cD eL fw ps)(Mr:a1 w 1 dD aj an ao hs)(yz:jn ps=true)(sN:ps.length<=16)(uo:b6<ps.length)(VK:hs.length<=32)(ami:zx ps.length hs=false):
  aR 66 #[(b6:Int),aq cD eL fw,aq aj an ao,q] w (cM (.tuple #[.pointer none,bh 1]) w):=by
 obtain rfl:=pv.neq;obtain rfl:=Mr.neq;have alq:hs.length=0\/¬∀(k:Nat) (hk:k<hs.length),0<=hs[k]/\hs[k]<(ps.length:Int):=by
  rcases yO hs.length with z|z
  ·exact .inl z
  ·refine .inr (λvX=>?_);have:zx ps.length hs=true:=by
    unfold zx;rw[ke,uL];refine⟨mS ⟨z,VK⟩,λx U=>?_⟩;obtain⟨k,hk,rfl⟩:=List.mem_iff_getElem.1 U;exact mS (vX k hk)
   rw[ami]at this;cases this
 replace alq:=I alq;replace pv:=I pv;replace Mr:=I Mr;replace yz:=I yz;clear ami;go_enter func66,ntmps66;go_wp2_with fail;have cS:Z w (w.alloc (.cells #[aq cD ps.length fw] 22)):=X;have fX:(w.alloc (.cells #[aq cD ps.length fw] 22)).heap[(w:Nat)]?=some (.cells #[aq cD ps.length fw] 22):=fi rfl;obtain⟨bs,hI⟩:∃bs,w.alloc (.cells #[aq cD ps.length fw] 22)=bs:=⟨_,rfl⟩;have gg:(bs:Nat)=(w:Nat)+1:=by subst hI;simp
 rw[hI]at cS fX ⊢;replace cS:=I cS;replace fX:=I fX;clear hI gg;refine(KH cD ps.length fw ps _ (pv.ext cS)).mono ?_;rintro e _⟨rfl,bx⟩;rw[yz.out];have CO:Cr true=0:=rfl;rw[CO];replace bx:=I bx;clear CO;go_wp2_with fail;refine(VI (b6:Int) ((bx.aB fX)) J).mono ?_;rintro e _⟨rfl,cj⟩;rw[show decide ((0:Int)<=b6/\(b6:Int)<ps.length)=true from mS ⟨J,J⟩];have bz:=I (bx.trans cj);clear cj;by_cases bf:hs.length=0
 ·go_wp2_with fail;all_goals (first|(exfalso;omega)|skip)
  go_ret2;exact⟨rfl,X⟩
 ·go_wp2_with fail;go_loopg [13,43] (hs.length) (λg bo dN wr=>∃k:Nat,g+k=hs.length/\dN=.int .i64 (k:Int)/\Hid (∀(j:Nat) (aJ:j<hs.length),j<k->0<=hs[j]/\hs[j]<(ps.length:Int))/\Hid (Z bs wr));case atStart=>exact⟨0,J,rfl,(λj aJ h=>absurd h J),bz⟩
  case round=>
   obtain⟨k,_,rfl,vX,U⟩:=hrel;by_cases hk:k<hs.length
   ·obtain⟨_,o,rfl,fW⟩:=Mr.get k hk;have d0:=AI (x:=hs[k]) fW;rw[jT]at d0;replace d0:=(cS.trans U).ah d0;have b0:(0:Int)<=(k:Int):=J;have bd:(k:Int)<(hs.length:Int):=J;clear fW;go_wp2_with fail;refine(VI hs[k] (U.aB fX) J).mono ?_;rintro e _⟨rfl,eX⟩;replace eX:=I eX;by_cases np:(0:Int)<=hs[k]/\hs[k]<(ps.length:Int)
    ·rw[mS np];go_wp2_with fail;go_roundg (gk - 1);case measure=>omega
     case rel=>exact⟨k+1,J,by go_num,(show ∀(j:Nat) (aJ:j<hs.length),j<k+1->0<=hs[j]/\hs[j]<(ps.length:Int)from az6 (p:=λx=>0<=x/\x<(ps.length:Int)) hk vX np),U.trans eX⟩
    ·rw[lo np];go_wp2_with fail;go_ret2;exact⟨rfl,X⟩
   ·exact absurd (alq.resolve_left bf) (λh=>h (λj aJ=>vX j aJ J))
section
section
variable {P:Program}{ops:Array Oper}{Q:Exit->Act->World->Prop}{md:Region.Mode}{S:World->Prop}
def amj(n:Nat)(m:Array Bool->Nat)(mX:Array Bool->Act->aC->Prop)(hs:∀l a w,mX l a w->m l≠0->Region.ready md ops l≠ []/\∀i∈Region.ready md ops l,wpOp P ops Q i (λhU w'=>S w'/\mX (l.setIfInBounds i true) hU w'/\m (l.setIfInBounds i true)+1=m l) a w)(he:∀l a w,mX l a w->m l=0->wpAnyH P md ops Q S n l a w):
  ∀(k:Nat) (l:Array Bool) (a:Act) (w:aC),m l=k->mX l a w->wpAnyH P md ops Q S (n+k) l a w
 |0,l,a,w,hm,h=>he l a w h hm
 |k+1,l,a,w,hm,h=>by
  obtain⟨ae,ak⟩:=hs l a w h J;exact⟨λe=>absurd e ae,λi aO=>wpOp_mono (λhU w' q=>⟨q.1,amj n m mX hs he k _ hU w' J q.2.1⟩) (ak i aO)⟩
end
end
section
def az9(v:Value)(n:Nat):(madeCells #[v] n).toList=List.replicate n v:=by
 apply RK
 ·rw[Array.length_toList,size_madeCells,List.length_replicate]
 ·intro i ae _;rw[Array.getElem_toList,List.getElem_replicate];simp[madeCells,Nat.mod_one]
def aAa{c:α->List Value}{y:α}{v:Value}(hy:c y= [v])(n:Nat):(List.replicate n y).flatMap c=List.replicate n v:=by
 induction n with
 |zero=>rfl
 |succ n cI=>rw[List.replicate_succ,nI,cI,hy,List.replicate_succ];rfl
def amk{c:α->List Value}{w:aC}{o:Oper}{a:Act}{K:Act->aC->Prop}{Q:Exit->Act->aC->Prop}(l:Operand)(t e:TypeId)(aK:o.op=.makeSlice t l l){i:TypeInfo}{z:Value}{bytes:Nat}(a6:P.underlying t=some (.slice e))(aO:P.info? e=some i)(bf:i.zero=some z)(hs:i.size=1)(wy:i.bytes=bytes)(aAb:z.cells=#[z])(aT:a.eval l=.int .i64 (n:Int))(an:n<=1000)(aa:bytes<=1000)(y:α)(hy:c y= [z])(hw:∀y,(c y).length=1)(h:∀g w',Own w' w.heap.size e 1 c (some ⟨g,0,none⟩) n n (List.replicate n y)->Z w w'->K (a.put o.dst (.slice (some ⟨g,0,none⟩) n n)) w'):Oper.wp P o a w K Q:=by
 have Gr:i.bytes*n<=1000*1000:=by rw[wy];exact Nat.mul_le_mul aa an
 obtain⟨w',ax,pL,bu⟩:=run_makeSlice_full (P:=P) w w t e i z 1 a6 aO bf hs .i64 .i64 n J J HQ (bA _);rw[jT,aAb,az9,<-aAa hy]at pL;unfold Oper.wp;simp[execOp,aK,aT,ax,Result.andThen];exact h _ w' ⟨pL,by simp,hw⟩ ((Z.refl w).grown bu (λk e=>by cases e))
def aAc{ops:Array Oper}{Q:Exit->Act->aC->Prop}{md:Region.Mode}{S:z6}(n k:Nat)(m:Array Bool->Nat)(mX:Act->Array Bool->Act->aC->Prop){f:Nat}{l:Array Bool}{a:Act}{w:aC}(bc:f=n+k)(hm:m l=k)(aW:mX a l a w)(hs:∀l' hU w',mX a l' hU w'->m l'≠0->Region.ready md ops l'≠ []/\∀i∈Region.ready md ops l',wpOp P ops Q i (λaAd fj=>S fj/\mX a (l'.setIfInBounds i true) aAd fj/\m (l'.setIfInBounds i true)+1=m l') hU w')(he:∀l' hU w',mX a l' hU w'->m l'=0->wpAnyH P md ops Q S n l' hU w'):wpAnyH P md ops Q S f l a w:=by
 rw[bc];exact amj n m (mX a) hs he k l a w hm aW
def vp(w:World)(base:Nat)(e:TypeId)(c:α->List Value)(xs:List α)(u:Value):Prop:=∃aw n k,u=.slice aw n k/\Own w base e 1 c aw n k xs
def vp.ext{w w':aC}{c:α->List Value}{xs:List α}(h:vp w base e c xs u)(U:Z w w'):vp w' base e c xs u:=let ⟨aw,n,k,ae,ak⟩:=h;⟨aw,n,k,ae,ak.ext U⟩
def My(u v:Value):Prop:=∀(a b:Addr) (n k m j:Nat),u=.slice (some a) n k->v=.slice (some b) m j->a.block≠b.block
def vp.gK{β:Type}{w w':aC}{uH:TypeId}{c:α->List Value}{qB:β->List Value}{xs:List α}{ys:List β}{v:Value}(h:vp w base e c xs u)(k:vp w' w uH qB ys v):My u v:=λa b n j m i al bo=>by
 obtain⟨_,_,_,rfl,ak⟩:=h;obtain⟨_,_,_,rfl,ew⟩:=k;cases al;cases bo;have:=(ak.lt _ rfl).2;have:=(ew.lt _ rfl).1;omega
def My.symm{v:Value}(h:My u v):My v u:=λa b n k m j al bo e=>h b a m j n k bo al e.symm
def QP(l:Array Bool):Nat:=(if l.getD 1 true then 0 else 1)+(if l.getD 3 true then 0 else 1)+(if l.getD 4 true then 0 else 1)+(if l.getD 7 true then 0 else 1)+(if l.getD 10 true then 0 else 1)
def QQ(bd e6 e2 hW iU:Bool):Array Bool:=#[true,bd,true,e6,e2,true,true,hW,true,true,iU,false,false,false]
structure tI (bs w:World) (ps hs:List Int) (bd e6 e2 hW iU:Bool) (u22 u24 u25 u28 u31:Value):Prop where
 ext:Z bs w
 p:bd=true->vp w bs.heap.size 3 dD ps u22
 h:e6=true->vp w bs.heap.size 3 dD hs u24
 m:e2=true->∃dg,u25=.map (some dg)/\bs.heap.size<=dg/\fl w prog 3 dg 0 0 (λ_=>none)
 fJ:hW=true->vp w bs.heap.size 3 dD (List.replicate hs.length 0) u28
 go:iU=true->vp w bs.heap.size 133 mD.cs (List.replicate hs.length ⟨⟨none,0,0⟩⟩) u31
 jX:bd=true->hW=true->My u22 u28
 ij:e6=true->hW=true->My u24 u28
section
variable {bs w w':World}{ps hs:List Int}{bd e6 e2 hW iU:Bool}{u22 u24 u25 u28 u31:Value}
def vp.mono{aDn:Nat}{c:α->List Value}{xs:List α}(h:vp w base e c xs u)(aa:aDn<=base):vp w aDn e c xs u:=let ⟨aw,n,k,ae,ak⟩:=h;⟨aw,n,k,ae,ak.mono aa⟩
def tI.pB(h:tI bs w ps hs bd e6 e2 hW iU u22 u24 u25 u28 u31)(U:Z w w'):tI bs w' ps hs bd e6 e2 hW iU u22 u24 u25 u28 u31:=
 ⟨h.ext.trans U,λe=>(h.p e).ext U,λe=>(h.h e).ext U,λe=>let ⟨dg,bQ,bY,ew⟩:=h.m e;⟨dg,bQ,bY,ew.ext U⟩,λe=>(h.fJ e).ext U,λe=>(h.go e).ext U,h.jX,h.ij⟩
def tI.e3(h:tI bs w ps hs bd e6 e2 hW iU u22 u24 u25 u28 u31)(U:Z w w')(k:vp w' w 3 dD ps u):tI bs w' ps hs true e6 e2 hW iU u u24 u25 u28 u31:=
 let m:=h.pB U;⟨m.ext,λ_=>k.mono h.ext.size,m.h,m.m,m.fJ,m.go,λ_ e=>((h.fJ e).gK k).symm,m.ij⟩
def tI.oP(h:tI bs w ps hs bd e6 e2 hW iU u22 u24 u25 u28 u31)(U:Z w w')(k:vp w' w 3 dD hs u):tI bs w' ps hs bd true e2 hW iU u22 u u25 u28 u31:=
 let m:=h.pB U;⟨m.ext,m.p,λ_=>k.mono h.ext.size,m.m,m.fJ,m.go,m.jX,λ_ e=>((h.fJ e).gK k).symm⟩
def tI.uR(h:tI bs w ps hs bd e6 e2 hW iU u22 u24 u25 u28 u31)(U:Z w w'){dg:Nat}(k:fl w' prog 3 dg 0 0 (λ_=>none))(aa:(w:Nat)<=dg):tI bs w' ps hs bd e6 true hW iU u22 u24 (.map (some dg)) u28 u31:=
 let m:=h.pB U;⟨m.ext,m.p,m.h,λ_=>⟨dg,rfl,eh h.ext.size aa,k⟩,m.fJ,m.go,m.jX,m.ij⟩
def tI.tP(h:tI bs w ps hs bd e6 e2 hW iU u22 u24 u25 u28 u31)(U:Z w w')(k:vp w' w 3 dD (List.replicate hs.length 0) u):tI bs w' ps hs bd e6 e2 true iU u22 u24 u25 u u31:=
 let m:=h.pB U;⟨m.ext,m.p,m.h,m.m,λ_=>k.mono h.ext.size,m.go,λe _=>(h.p e).gK k,λe _=>(h.h e).gK k⟩
def tI.aAe(h:tI bs w ps hs bd e6 e2 hW iU u22 u24 u25 u28 u31)(U:Z w w')(k:vp w' w 133 mD.cs (List.replicate hs.length ⟨⟨none,0,0⟩⟩) u):tI bs w' ps hs bd e6 e2 hW true u22 u24 u25 u28 u:=
 let m:=h.pB U;⟨m.ext,m.p,m.h,m.m,m.fJ,λ_=>k.mono h.ext.size,m.jX,m.ij⟩
end
def aaJ(rs:List Nat)(bd e6 e2 hW iU:Bool):Bool:=(bd&&e6&&e2&&hW&&iU)||(!rs.isEmpty&&rs.all (λi=>(i==1&& !bd)||(i==3&&bd&& !e6)||(i==4&& !e2)||(i==7&& !hW)||(i==10&& !iU)))
def aAf{rs:List Nat}{bd e6 e2 hW iU:Bool}(h:aaJ rs bd e6 e2 hW iU=true)(an:QP (QQ bd e6 e2 hW iU)≠0):rs≠ []/\∀i,i∈rs->(i=1/\bd=false)\/(i=3/\bd=true/\e6=false)\/(i=4/\e2=false)\/(i=7/\hW=false)\/(i=10/\iU=false):=by
 unfold aaJ at h;rw[xh]at h;rcases h with h|h
 ·simp only[ke]at h;obtain⟨⟨⟨⟨rfl,rfl⟩,rfl⟩,rfl⟩,rfl⟩:=h;exact absurd rfl an
 ·rw[ke,uL]at h;refine⟨λe=>by rw[e]at h;simp at h,λi aO=>?_⟩;have:=h.2 i aO;simp only[xh,ke,beq_iff_eq,FK]at this;rcases this with (((⟨a,b⟩|⟨⟨a,b⟩,d⟩)|⟨a,b⟩)|⟨a,b⟩)|⟨a,b⟩
  ·exact .inl ⟨a,b⟩
  ·exact .inr (.inl ⟨a,b,d⟩)
  ·exact .inr (.inr (.inl ⟨a,b⟩))
  ·exact .inr (.inr (.inr (.inl ⟨a,b⟩)))
  ·exact .inr (.inr (.inr (.inr ⟨a,b⟩)))
def aAg{rs:List Nat}{p:ff}(bd e6 e2 hW iU:Bool)(h:aaJ rs bd e6 e2 hW iU=true)(an:QP (QQ bd e6 e2 hW iU)≠0)(ae:bd=false->p 1)(aM:bd=true->e6=false->p 3)(bn:e2=false->p 4)(iZ:hW=false->p 7)(E7:iU=false->p 10):rs≠ []/\∀i∈rs,p i:=by
 obtain⟨bQ,bY⟩:=aAf h an;refine⟨bQ,λi aO=>?_⟩;rcases bY i aO with ⟨rfl,a⟩|⟨rfl,a,b⟩|⟨rfl,a⟩|⟨rfl,a⟩|⟨rfl,a⟩
 ·exact ae a
 ·exact aM a b
 ·exact bn a
 ·exact iZ a
 ·exact E7 a
def aAh{bd e6 e2 hW iU:Bool}(h:QP (QQ bd e6 e2 hW iU)=0):bd=true/\e6=true/\e2=true/\hW=true/\iU=true:=by
 revert h;cases bd<;>cases e6<;>cases e2<;>cases hW<;>cases iU<;>simp[QP,QQ]
end
end Go.Proofs.YtfiiblnenhdlhaaGreat
