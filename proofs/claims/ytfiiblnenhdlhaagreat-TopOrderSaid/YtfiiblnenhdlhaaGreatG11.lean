/- Part. -/
import Derived.Test.YtfiiblnenhdlhaaGreatG10
set_option linter.unusedVariables false
set_option linter.unusedSimpArgs false
set_option linter.defProp false
set_option maxRecDepth 100000
set_option maxHeartbeats 4000000
namespace Go.Proofs.YtfiiblnenhdlhaaGreat
open Go.RowKit Tryz
variable {cl:Int}{R bl:List aA}{l:List lz}{f:Lit->Option Value}{base n p q tm:Nat}{D M O:Nat->Prop}{a:Option Addr}{e:TypeId}{w w':World}{i:aA}{d:bg}{c:bt}{v:tK}
def Ak.add{s gE s':Nat}(h:fl w prog 54 tm n s f)(hs:s=bl.length)(an:n=s)(bn:∀k (hk:k<bl.length),f (j2 bl[k])=some (.int .i64 k))(cb:∀dI v,f dI=some v->∃i,i∈bl/\dI=j2 i)(a6:∀j,j∈bl->dx j)(aO:dx i)(eO:i∉bl)(k:fl w' prog 54 tm gE s' (vY f (j2 i) (some (.int .i64 (bl.length:Int)))))(CZ:gE=n+1)(GJ:s'=if (f (j2 i)).isSome=true then s else s+1):Ak w' tm (bl++[i]):=by
 have di:∀j,j∈bl->j2 j≠j2 i:=λj aJ e=>eO (ZV (a6 j aJ) aO e▸aJ);have PH:f (j2 i)=none:=by
  cases bc:f (j2 i)with
  |none=>rfl
  |some v=>
   obtain⟨j,aJ,e⟩:=cb _ _ bc;exact absurd e.symm (di j aJ)
 rw[PH]at GJ;simp at GJ;refine⟨gE,s',_,k,by rw[GJ,hs,cH];rfl,J,λj aJ=>?_,λdI v bo=>?_⟩
 ·by_cases ce:j<bl.length
  ·rw[List.getElem_append_left ce,yc (di _ (c7 ce))];exact bn j ce
  ·have awd:j=bl.length:=by rw[cH]at aJ;simp at aJ;omega
   subst awd;rw[List.getElem_append_right (bA _)];simp only[Nat.sub_self,List.getElem_cons_zero];rw[EE]
 ·by_cases he:dI=j2 i
  ·exact⟨i,List.mem_append_right _ (iH.2 rfl),he⟩
  ·rw[yc he]at bo;obtain⟨j,aJ,e⟩:=cb _ _ bo;exact⟨j,OG _ aJ,e⟩
def dU.awe{b:az}(h:dU w M D O c p q b v)(al:aG (·=v.tm) w w')(a6:Ak w' v.tm bl):dU w' M D O c p q {b with bl:=bl} v/\ig w M D O w' M D O:=by
 obtain⟨L,ae,ak,aM⟩:=h.dk;have a8:∀x,x=v.tm->M x:=λx e=>e▸h.sub _ h.bI.2.2;have aO:∀P,dq M w P->dq M w' P:=λP k=>k.step (al.sub a8) (b4.eG _ _);refine⟨⟨(al.block _ (bT h.box) (show ¬p=v.tm from h.gQ.2.1)).trans h.box,(aO _ h.lR).mono (λw k=>⟨k.cD,k.aj,k.st,k.tx,k.eN,k.cW⟩),⟨L,ae.step al a8 (λx U e=>?_) (b4.eG _ _) (λx k=>gw (ae.cx x k) al.size),ak,aM⟩,h.gx.aB (al.block _ h.gx.lt (show ¬v.kY=v.tm from h.gQ.2.2)) aO,a6,h.bI,h.sub,h.gK,h.gQ⟩,⟨al.cN (.inr h.bI.2.2),b4.eG _ _,b4.eG _ _,b4.eG _ _,λ_ k=>.inl k⟩⟩;have e:x=v.tm:=e;subst e;exact U.elim (λk=>h.gK _ k h.bI.2.2) aM.2.2
def awf{b:az}(h:gz c l R n b)(aO:i∈R)(eO:i∉b.bl):gz c l R n {b with bl:=b.bl++[i]}:=
 ⟨h.b6,h.ez,λt a6=>(h.tx t a6).mn rfl rfl (bA _),h.rP,h.tk,h.e8,h.x0,h.cW,h.eN,Ov h.bl.1 eO,λj aJ=>(iR.1 aJ).elim (h.bl.2 j) (λe=>iH.1 e▸aO)⟩
def UD{b:Nat}(h:w.mapTurned w' b):aG (·=b) w w':=
 ⟨h.grown.os,h.grown.tape,h.grown.output,h.grown.size,λk hk di=>ah5 h hk di⟩
def awg{b:az}{l:List bg}(h:n≠b.st.ag.length):az.take c n (d::l) b=az.take c (n+1) l b:=by show(if n≠_ then _ else _)=_;rw[bm h]
def awh{b b':az}{l:List bg}(h:n=b.st.ag.length)(an:b.note c (hR n d)=(b',true)):az.take c n (d::l) b=az.take c (n+1) l b':=by
 show(if n≠_ then _ else _)=_;rw[bj (by rw[h];simp),an];rfl
def awi{b b':az}{l:List bg}(h:n=b.st.ag.length)(an:b.note c (hR n d)=(b',false)):az.take c n (d::l) b=b':=by
 show(if n≠_ then _ else _)=_;rw[bj (by rw[h];simp),an];rfl
structure ci (w:World) (x:ky) (m:dC) (aS ps:List bO):Prop where
 h:x.h=(m.h:Int)
 e:ja w x.e.a x.e.n x.e.c aS
 p:ja w x.p.a x.p.n x.p.c ps
 b:a1 w 3 aA.cs x.b.a x.b.n x.b.c m.ay
 d:a1 w 3 aA.cs x.d.a x.d.n x.d.c m.aX
def co{B:Nat}{o:Obj}(h:w.heap[B]?=some o)(br:¬M B):dq M w (λw=>w.heap[B]?=some o):=λ_ al=>(al.block _ (bT h) br).trans h
def PI{α:Type}[DecidableEq α]:∀(l r:List α),l.Nodup->(∀x,x∈l->x∈r)->l.length<=r.length
 | [],r,_,_=>hX _
 |x::l,r,an,hs=>by
  have U:=hs x kh
  have ae:=PI l (r.erase x) (Gf.1 an).2 (λy hy=>(List.mem_erase_of_ne (λe:y=x=>(Gf.1 an).1 (e▸hy))).2 (hs y (kA _ hy)))
  have ak:=List.length_erase_of_mem U
  have aM:=List.length_pos_of_mem U
  simp only[mv]
  omega
def PJ(w:World)(p pV:Nat)(x:ky)(m:dC)(aS ps:List bO):Prop:=(w.heap[pV]?=some (.cells #[p] 103 (0,0))/\w.heap[pV+1]?=some (x:Obj)/\w.heap[pV+1+1]?=some (.cells #[(.func (.func 238) #[.pointer (some ⟨p,0,none⟩)] #[])] 224 (0,0)))/\ci w x m aS ps
def awj{b:az}(H:dU w M D O c p q b v)(b8:gz c l R n b)(ax:c.room<=1048576)(x4:∀i,i∈R->dx i)(BE:R.length<=1000000)(x:ky)(m:dC)(aS ps:List bO)(iG:dq M w (λw=>ci w x m aS ps))(kv:aS.map (·.d)=m.aS)(tD:ps.map (·.d)=m.ps)(LK:m.aS.length<=16/\∀d,d∈m.aS->gY d)(ve:m.ps.length<=16/\∀d,d∈m.ps->gY d)(rW:m.ay.length<=16/\∀i,i∈m.ay->i∈R)(I8:m.aX.length<=16/\∀i,i∈m.aX->dx i)(GR:m.h<=1000000\/m.aS= []):
  aR 158 #[p,x] w (yg c p q w M D O (.tuple #[]) (b.vT c m)):=by
 have ho:=H.cx
 have bU:=I (show dq M (((w.alloc (.cells #[p] 103)).alloc x).alloc (.cells #[(.func (.func 238) #[p] #[])] 224)) (λw'=>PJ w' p w x m aS ps)from
  (((co (B:=(w:Nat)) hT (λk=>by have:=ho _ k;omega)).and ((co (B:=(w:Nat)+1) hT (λk=>by have:=ho _ k;omega)).and (co (B:=(w:Nat)+1+1) hT (λk=>by have:=ho _ k;omega)))).and (iG.step (.of X) (b4.eG _ _))).mono (λ_ k=>k))
 obtain⟨rn,cm⟩:∃rn,az.take c m.h m.aS b=rn:=⟨_,rfl⟩;obtain⟨rs,fV⟩:∃rs,b.vT c m=rs:=⟨_,rfl⟩;rw[fV];unfold az.vT at fV;rw[cm]at fV;have j4:=iG.dQ;have dl:=j4.e.aF.neq;have nv:=j4.b.neq;have d1:=j4.d.neq;have d2:=j4.p.aF.neq;have acO:aS.length<=16:=by have:=LK.1;rw[<-kv,cr]at this;exact this
 have tq:ps.length<=16:=by have:=ve.1;rw[<-tD,cr]at this;exact this
 have jZ:=rW.1;have Ce:=I8.1;have aiV:=j4.h;obtain⟨hL,_,mW,l0,mr,sg,sh,si⟩:=x;dsimp only at dl nv d1 d2 aiV;subst aiV;obtain⟨vj,_,vk⟩:=mr;obtain⟨r3,_,r4⟩:=sg;obtain⟨uq,_,ur⟩:=sh;obtain⟨uu,Bg,uv⟩:=si;dsimp only at dl nv d1 d2;subst dl nv d1 d2;replace H:=I H;replace b8:=I b8;replace x4:=I x4;replace kv:=I kv;replace tD:=I tD;replace LK:=I LK;replace ve:=I ve;replace rW:=I rW;replace I8:=I I8;replace GR:=I GR;replace BE:=I BE;replace fV:=I fV;replace cm:=I cm;clear iG j4;go_enter func158,ntmps158;go_wp2_with fail;go_step3;go_wp2_with fail;go_step3;go_upto_block 0 with (fail);go_cut [] (λfD=>∃(M' bP bZ:ff) (gW:tK),Hid (dU fD M' bP bZ c p q rn gW)/\Hid (gz c l R n rn)/\Hid (ig (((w.alloc (.cells #[p] 103)).alloc (.cells #[hL,ad (m.h:Int),mW,l0,aq vj aS.length vk,aq r3 ps.length r4,aq uq m.ay.length ur,aq uu m.aX.length uv] 232)).alloc (.cells #[(.func (.func 238) #[p] #[])] 224)) M D O fD M' bP bZ)/\Hid (dq M' fD (λw'=>PJ w' p (w:Nat) ⟨hL,(m.h:Int),mW,l0,⟨vj,aS.length,vk⟩,⟨r3,ps.length,r4⟩,⟨uq,m.ay.length,ur⟩,⟨uu,m.aX.length,uv⟩⟩ m aS ps)));case first=>
  have fX:=I (H.ext (w':=(((w.alloc (.cells #[p] 103)).alloc (.cells #[hL,ad (m.h:Int),mW,l0,aq vj aS.length vk,aq r3 ps.length r4,aq uq m.ay.length ur,aq uu m.aX.length uv] 232)).alloc (.cells #[(.func (.func 238) #[p] #[])] 224))) X);have awk:=I (ig.refl (((w.alloc (.cells #[p] 103)).alloc (.cells #[hL,ad (m.h:Int),mW,l0,aq vj aS.length vk,aq r3 ps.length r4,aq uq m.ay.length ur,aq uu m.aX.length uv] 232)).alloc (.cells #[(.func (.func 238) #[p] #[])] 224)) M D O);have ko:=bU.dQ.1;have fC:=ko.1;have dF:=ko.2.1;have cA:=ko.2.2;clear ko;have m1:(((w.alloc (.cells #[p] 103)).alloc (.cells #[hL,ad (m.h:Int),mW,l0,aq vj aS.length vk,aq r3 ps.length r4,aq uq m.ay.length ur,aq uu m.aX.length uv] 232)).alloc (.cells #[(.func (.func 238) #[p] #[])] 224)).cell? (w,1,1)=some ↑(ad (m.h:Int)):=aI dF rfl;have m4:(((w.alloc (.cells #[p] 103)).alloc (.cells #[hL,ad (m.h:Int),mW,l0,aq vj aS.length vk,aq r3 ps.length r4,aq uq m.ay.length ur,aq uu m.aX.length uv] 232)).alloc (.cells #[(.func (.func 238) #[p] #[])] 224)).cell? (w,1,4)=some ↑(aq vj aS.length vk):=aI dF rfl;have m5:(((w.alloc (.cells #[p] 103)).alloc (.cells #[hL,ad (m.h:Int),mW,l0,aq vj aS.length vk,aq r3 ps.length r4,aq uq m.ay.length ur,aq uu m.aX.length uv] 232)).alloc (.cells #[(.func (.func 238) #[p] #[])] 224)).cell? (w,1,5)=some ↑(aq r3 ps.length r4):=aI dF rfl;have m6:(((w.alloc (.cells #[p] 103)).alloc (.cells #[hL,ad (m.h:Int),mW,l0,aq vj aS.length vk,aq r3 ps.length r4,aq uq m.ay.length ur,aq uu m.aX.length uv] 232)).alloc (.cells #[(.func (.func 238) #[p] #[])] 224)).cell? (w,1,6)=some ↑(aq uq m.ay.length ur):=aI dF rfl;have m7:(((w.alloc (.cells #[p] 103)).alloc (.cells #[hL,ad (m.h:Int),mW,l0,aq vj aS.length vk,aq r3 ps.length r4,aq uq m.ay.length ur,aq uu m.aX.length uv] 232)).alloc (.cells #[(.func (.func 238) #[p] #[])] 224)).cell? (w,1,7)=some ↑(aq uu m.aX.length uv):=aI dF rfl;have k2:=aI (o:=0) fC rfl;have n0:=aI (o:=0) cA rfl;clear fC dF cA;go_wp2_with fail;clear m1 m4 m5 m6 m7 k2 n0;go_loopg [18] aS.length (λg dN wr=>∃(k:Nat) (M' bP bZ:ff) (b':az) (gW:tK),g+k=aS.length/\dN=.int .i64 (k:Int)/\Hid (dU wr M' bP bZ c p q b' gW)/\Hid (gz c l R n b')/\Hid (ig (((w.alloc (.cells #[p] 103)).alloc (.cells #[hL,ad (m.h:Int),mW,l0,aq vj aS.length vk,aq r3 ps.length r4,aq uq m.ay.length ur,aq uu m.aX.length uv] 232)).alloc (.cells #[(.func (.func 238) #[p] #[])] 224)) M D O wr M' bP bZ)/\Hid (dq M' wr (λw'=>PJ w' p (w:Nat) ⟨hL,(m.h:Int),mW,l0,⟨vj,aS.length,vk⟩,⟨r3,ps.length,r4⟩,⟨uq,m.ay.length,ur⟩,⟨uu,m.aX.length,uv⟩⟩ m aS ps))/\Hid (az.take c (m.h+k) (m.aS.drop k) b'=rn));case atStart=>exact⟨0,M,D,O,b,v,J,rfl,fX,b8,awk,bU,cm⟩
  case round=>
   obtain⟨k,M',bP,bZ,b',gW,bu,rfl,br,aL,fy,fE,kp⟩:=hrel;have uw:=fE.dQ;have fC:=uw.1.1;have dF:=uw.1.2.1;have cA:=uw.1.2.2;have ch:=uw.2.e;clear uw;have m1:wr.cell? (w,1,1)=some ↑(ad (m.h:Int)):=aI dF rfl;have m4:wr.cell? (w,1,4)=some ↑(aq vj aS.length vk):=aI dF rfl;have m5:wr.cell? (w,1,5)=some ↑(aq r3 ps.length r4):=aI dF rfl;have m6:wr.cell? (w,1,6)=some ↑(aq uq m.ay.length ur):=aI dF rfl;refine el ?_;intro m7 k2;have n0:=aI (o:=0) cA rfl;clear fC dF cA;by_cases hk:k<aS.length
   ·obtain⟨ot,o,GU,fW⟩:=ch.aF.get k hk;dsimp only at GU;subst GU;obtain⟨cT,c1,c2,_,_,_,_,_⟩:=pd (w:=wr) (b:=ot) (o:=o+k*8) (x:=aS[k].x) fW;have n3:=I (ch.ct _ (c7 hk));have hi:k<m.aS.length:=by rw[<-kv.out,cr];exact hk
    have k7:aS[k].d=m.aS[k]:=by
     have ae:(aS.map (·.d))[k]? =m.aS[k]? :=by rw[kv.out]
     rw[nu,fz hk,fz hi]at ae;exact wL ae
    have pW:gY aS[k].d:=by rw[k7];exact LK.out.2 _ (c7 hi)
    have kI:=kp.out;rw[Dv hi,<-k7]at kI;have aCH:m.h<=1000000:=GR.elim id (λe=>by rw[e]at hi;exact absurd hi (Nat.not_lt_zero _));obtain⟨ag,_,ec⟩:=br.dQ.st;have rF:gW.s.l.n=b'.st.ag.length:=by rw[ec.l.aF.neq,<-ec.j9,cr]
    have ih:=(aL.Uf ax).1;have iQ:=aI (o:=5) br.box rfl;have zf:IntKind.u64.wrap ((m.h:Int)+(k:Int))=((m.h+k:Nat):Int):=by rw[Gp _ ⟨J,J⟩];rfl
    have LN:IntKind.u64.wrap (gW.s.l.n:Int)=(gW.s.l.n:Int):=Gp _ ⟨J,J⟩;have b0:(0:Int)<=(k:Int):=J;have bd:(k:Int)<(aS.length:Int):=J;have bQ:=((Z.refl wr).alloc aS[k].x).ah m1;have bY:=((Z.refl wr).alloc aS[k].x).ah k2;have ew:=((Z.refl wr).alloc aS[k].x).ah n0;have fm:=((Z.refl wr).alloc aS[k].x).ah iQ;replace kI:=I kI;replace pW:=I pW;replace rF:=I rF;clear fW k7 ec ch hi m1 m5 m6 m7 k2 n0 iQ;by_cases tq:m.h+k=gW.s.l.n
    ·have Ez:((m.h:Int)+(k:Int) !=(gW.s.l.n:Int))=false:=by simp;omega
     have UE:=I (tq.trans rF);clear tq;obtain⟨qU,z,n4⟩:∃qU z,b'.note c (hR (m.h+k) aS[k].d)=(qU,z):=⟨_,_,rfl⟩;have yh:xI (hR (m.h+k) aS[k].d):=.inr (.inl ⟨_,_,rfl,by unfold gv;omega,pW.ok⟩);replace yh:=I yh;go_wp2_with fail;rw[show((m.h:Int)+(k:Int))=((m.h+k:Nat):Int)from rfl];refine(Pt (br.ext (w':=wr.alloc aS[k].x) X) aL ax aS[k].x (hR (m.h+k) aS[k].d) (n3.ext X) (λk=>absurd rfl k.1) (KU _ pW) yh).mono ?_;rintro e cG⟨iN,ib,nF,rfl,⟨v9,jB⟩,jq⟩;have pz:=IU aL (KU (m.h+k) pW) (aid _ _);rw[n4]at jB pz;rw[n4];have oJ:=(Z.refl wr).alloc aS[k].x;replace jB:=I jB;replace pz:=I pz;have me:=I (nj.pJ jq (br.ext oJ) (fE.step (.of oJ) (b4.eG _ _)));have mV:=I ((fy.ext oJ).trans jq);replace n4:=I n4;clear jq oJ bQ bY ew fm;cases z with
     |true=>
      go_wp2_with fail;go_roundg (gk - 1);case measure=>omega
      case rel=>exact⟨k+1,iN,ib,nF,qU,v9,J,by go_num,jB,pz,mV,me,by rw[<-Nat.add_assoc,<-awh UE.out n4.out];exact kI⟩
     |false=>
      have Ao:=kI.out;rw[awi UE.out n4.out]at Ao;subst Ao;go_wp2_with fail;go_meet;exact⟨iN,ib,nF,v9,jB,pz,mV,me⟩
    ·have Ez:((m.h:Int)+(k:Int) !=(gW.s.l.n:Int))=true:=by simp;omega
     have UE:Hid (m.h+k≠b'.st.ag.length):=λe=>tq (e.trans rF.symm);clear tq;go_wp2_with fail;go_roundg (gk - 1);case measure=>omega
     case rel=>exact⟨k+1,M',bP,bZ,b',gW,J,by go_num,br.ext X,aL,fy.ext X,fE.step (.of X) (b4.eG _ _),by rw[<-Nat.add_assoc,<-awg UE.out];exact kI⟩
   ·have PK:m.aS.drop k= []:=MU (by rw[<-kv.out,cr];omega);have PL:=kp.out;rw[PK]at PL;have Ao:b'=rn:=PL;subst Ao;go_wp2_with fail;go_meet;exact⟨M',bP,bZ,gW,br,aL,fy,fE⟩
 case rest=>
  obtain⟨E1,Cq,em,v1,zD,es,hq,UF⟩:=hcut;have uw:=UF.dQ;have dF:=uw.1.2.1;have m5:wc.cell? (w,1,5)=some ↑(aq r3 ps.length r4):=aI dF rfl;have m6:wc.cell? (w,1,6)=some ↑(aq uq m.ay.length ur):=aI dF rfl;have m7:wc.cell? (w,1,7)=some ↑(aq uu m.aX.length uv):=aI dF rfl;clear uw dF m5 m7 cm;go_wp2_with fail;clear m6;go_loopg [48] m.ay.length (λg dN wr=>∃(k:Nat) (M' bP bZ:ff) (b':az) (gW:tK),g+k=m.ay.length/\dN=.int .i64 (k:Int)/\Hid (dU wr M' bP bZ c p q b' gW)/\Hid (gz c l R n b')/\Hid (ig (((w.alloc (.cells #[p] 103)).alloc (.cells #[hL,ad (m.h:Int),mW,l0,aq vj aS.length vk,aq r3 ps.length r4,aq uq m.ay.length ur,aq uu m.aX.length uv] 232)).alloc (.cells #[(.func (.func 238) #[p] #[])] 224)) M D O wr M' bP bZ)/\Hid (dq M' wr (λw'=>PJ w' p (w:Nat) ⟨hL,(m.h:Int),mW,l0,⟨vj,aS.length,vk⟩,⟨r3,ps.length,r4⟩,⟨uq,m.ay.length,ur⟩,⟨uu,m.aX.length,uv⟩⟩ m aS ps))/\Hid ((m.ay.take k).foldl (vS c) rn=b'));case atStart=>exact⟨0,E1,Cq,em,rn,v1,J,rfl,zD,es,hq,UF,rfl⟩
  case round=>
   obtain⟨k,M',bP,bZ,b',gW,bu,rfl,br,aL,fy,fE,kp⟩:=hrel;have uw:=fE.dQ;have fC:=uw.1.1;have dF:=uw.1.2.1;have ch:=uw.2.b;clear uw;have m5:wr.cell? (w,1,5)=some ↑(aq r3 ps.length r4):=aI dF rfl;refine el ?_;intro m7 k2;clear m5;by_cases hk:k<m.ay.length
   ·obtain⟨zZ,o,GU,fW⟩:=ch.get k hk;dsimp only at GU;subst GU;obtain⟨cT,c1,c2⟩:=FO (w:=wr) (b:=zZ) (o:=o+k*3) (x:=m.ay[k]) fW;have PM:m.ay[k]∈R:=rW.out.2 _ (c7 hk);have ux:=x4.out _ PM;have hS:(m.ay.take (k+1)).foldl (vS c) rn=vS c b' m.ay[k]:=by rw[iX hk,CV,kp.out];rfl
    obtain⟨i,PN⟩:∃i,m.ay[k]=i:=⟨_,rfl⟩;rw[PN]at cT c1 c2 PM ux hS;have pR:Hid ((wr.alloc i).heap[(wr:Nat)]?=some (i:Obj)):=fi rfl;have j3:Hid (∀j,j∈b'.bl->dx j):=λj aJ=>x4 j (aL.bl.2 j aJ);have b0:(0:Int)<=(k:Int):=J;have bd:(k:Int)<(m.ay.length:Int):=J;have bY:=((Z.refl wr).alloc i).ah k2;have zf:IntKind.i64.wrap ((k:Int)+1)=(k:Int)+1:=IntWalk.i64_in _ ⟨J,J⟩;replace hS:=I hS;replace PM:=I PM;replace ux:=I ux;clear fW ch k2 fC dF m7 PN;go_wp2_with fail;refine(Ui (br.ext (w':=wr.alloc i) X) j3 i ux).mono ?_;rintro e bp⟨rfl,ic⟩;have UG:=I (ic.aB pR);have UH:Z wr bp:=Z.trans ((Z.refl wr).alloc _) ic;have kQ:=I (br.ext UH);have zo:=I (fy.ext UH);have CW:=I (fE.step (.of UH) (b4.eG _ _));have tE:∀x,M' x->x<(wr:Nat):=br.cx;replace tE:=I tE;replace ic:=I ic;clear UH br fy fE pR bY;cases I9:b'.wU i with
    |true=>
     have fR:vS c b' i=b':=by unfold vS;rw[if_pos I9]
     replace fR:=I fR;clear I9;go_wp2_with fail;go_roundg (gk - 1);case measure=>omega
     case rel=>exact⟨k+1,M',bP,bZ,b',gW,J,by go_num,kQ,aL,zo,CW,hS.trans fR⟩
    |false=>
     have fR:vS c b' i=az.pN c {b' with bl:=b'.bl++[i],tx:=th b'.tx i} i:=by unfold vS;rw[if_neg (by rw[I9];decide)]
     have als:i∉b'.bl:=by
      unfold az.wU at I9;rw[JP]at I9;exact Ou.1 I9.1
     obtain⟨_,_,_,zi,PO,En,UI,GV⟩:=kQ.yf;subst PO En;have sB:b'.bl.length<=1000000:=by have:=PI _ R aL.bl.1 aL.bl.2;have:=BE.out;omega
     have ex:=I kQ.box;have fd:=I CW.dQ.1.1;replace fR:=I fR;replace als:=I als;replace zi:=I zi;replace UI:=I UI;replace GV:=I GV;clear I9;go_wp2_with fail;refine ON 10 (S:=(λw'=>Z bp w')) bV ?_ (λa7=>?_)
     ·((try dsimp only);exact X)
     refine lQ 0 (·.aB fd) ?_;refine gO 1 ?_;refine gO 2 ?_;refine lQ 3 (·.aB ex) ?_;refine lQ 4 (·.aB UG) ?_;refine lQ 5 (·.aB fd) ?_;refine gO 6 ?_;refine gO 7 ?_;refine lQ 8 (·.aB ex) ?_;refine asX 9 (λiA=>λty=>(zi.ext iA).len underlying158 ty) ?_;refine x3 (rs:= [10]) bV (by simp) ?_;refine Io rfl (λK aL=>?_) K5;refine Pl rfl (Pk _ _ _ rfl ER underlying158 rfl (zi.ext X) HQ rfl rfl (GG ux) rfl ?_);intro cV Pp T5;refine aL _ _ (λh=>absurd rfl h) (λ_=>?_);clear aL K;refine eY ?_;refine K6 bV ?_ _;have zQ:aG (·=gW.tm) bp cV:=(aG.of (show Z bp bp.drew from X)).trans (UD T5);obtain⟨pX,zh⟩:=kQ.awe zQ (Ak.add zi rfl rfl UI GV j3 ux als Pp rfl rfl);have LW:=awf aL PM als;have Ja:=I (nj.pJ zh kQ CW);have rX:=I ((zQ.block _ (bT UG) (λe=>by have:=tE.out _ (kQ.sub _ kQ.bI.2.2);have e:(wr:Nat)=gW.tm:=e;omega)).trans UG);replace pX:=I pX;have LX:=I (zo.trans zh);replace LW:=I LW;clear Pp T5 zQ zh CW zo kQ UG ex fd zi UI GV ic;have aiW:=I pX.box;have f9:=I Ja.dQ.1.1;obtain⟨ts,dp,ru⟩:=pX.dQ.tx;have kI:ts.map b2.tx=b'.tx:=ru;have eH:=I (IV ru (λt a6=>(LW.tx t a6).eA));have r0:gW.tx.n<=1000:=by rw[dp.aF.neq,<-cr (f:=b2.tx),ru];have:=LW.tk;omega
     replace kI:=I kI;have awl:=I pX.cx;replace dp:=I dp;clear ru;go_wp2_with fail;refine ON 9 (S:=(λw'=>Z cV w')) bV ?_ (λa7=>?_)
     ·((try dsimp only);exact X)
     refine lQ 0 (·.aB f9) ?_;refine lQ 1 (·.aB f9) ?_;refine gO 2 ?_;refine gO 3 ?_;refine lQ 4 (·.aB aiW) ?_;refine lQ 5 (·.aB rX) ?_;refine x3 (rs:= [6]) bV (by simp) ?_;refine Ex ?_;intro K aL;go_at_call 240;refine(Zg _ _ _ ts i _ (dp.ext X) eH r0).mono ?_;rintro e df⟨cE,cZ,c2,wa,rfl,oO,pb,bz⟩;refine PQ ?_;clear a7 K aL;intro a7;refine x3 (rs:= [7]) bV (by simp) ?_;refine Ex ?_;intro K aL;refine PQ ?_;clear a7 K aL;intro a7;refine gO 8 ?_;have PR:Z cV df:=X;have PS:=pX.ext PR;have gI:=oO.cx (λx k=>gw (awl x k) (Z.size (show Z cV cV.drew from X)));have ge:=I (PR.aB rX);clear oO;obtain⟨-,-,-,-,-,-,-,-,cT,E2⟩:=uX PS.box;refine x3 (rs:= [9]) bV (by simp) ?_;refine Ex ?_;intro K aL;refine aL _ _ (λh=>absurd rfl h) (λ_=>?_);clear aL K;refine eY ?_;refine K6 bV ?_ _;obtain⟨kM,v8⟩:=PS.rP (w':=df.setCell (p,8) (aq cE cZ c2)) (t:=⟨cE,cZ,c2⟩) (tx:=th (ts.map b2.tx) i) (gI.mono (λw k=>⟨wa,k,pb⟩)) rfl;have UJ:=aie LW i;rw[kI.out]at kM;have rL:=ig.kF (M:=M') (D:=bP) v8 PS.bI.1;have tB:=nj.pJ rL PS (Ja.step (.of PR) (b4.eG _ _));have aiX:=I ((v8.block _ (bT ge) (λe=>by have:=tE.out _ (pX.sub _ pX.bI.1);have e:(wr:Nat)=p:=e;omega)).trans ge);replace kM:=I kM;replace UJ:=I UJ;have jA:=I ((LX.ext PR).trans rL);replace tB:=I tB;replace bz:=I bz;clear v8 rL PS gI cT E2 PR pb bz Ja LX pX LW aiW f9 rX ge dp;generalize df.setCell (p,8) (aq cE cZ c2)=eb at kM jA tB aiX ⊢;obtain⟨ca,i1,ht⟩:=iE aiX;go_wp2_with fail;refine(aiN kM UJ ax i ux w (w.heap.size+1+1) tB.dQ.1.1 tB.dQ.1.2.2).mono ?_;rintro e cG⟨iN,ib,nF,rfl,⟨v9,jB⟩,jq⟩;replace jB:=I jB;have pz:=I (aih UJ ux);have me:=I (nj.pJ jq kM tB);have mV:=I (jA.trans jq);clear jq ca i1 ht;go_wp2_with fail;go_roundg (gk - 1);case measure=>omega
     case rel=>exact⟨k+1,iN,ib,nF,_,v9,J,by go_num,jB,pz,mV,me,hS.trans fR⟩
   ·have b9:m.ay.take k=m.ay:=ir J;rw[b9]at kp;have Ao:=kp.out;subst Ao;clear b9 kp ch fC dF;go_wp2_with fail;clear m7 k2;go_loopg [81] m.aX.length (λg dN wr=>∃(k:Nat) (M' bP bZ:ff) (b':az) (gW:tK),g+k=m.aX.length/\dN=.int .i64 (k:Int)/\Hid (dU wr M' bP bZ c p q b' gW)/\Hid (gz c l R n b')/\Hid (ig (((w.alloc (.cells #[p] 103)).alloc (.cells #[hL,ad (m.h:Int),mW,l0,aq vj aS.length vk,aq r3 ps.length r4,aq uq m.ay.length ur,aq uu m.aX.length uv] 232)).alloc (.cells #[(.func (.func 238) #[p] #[])] 224)) M D O wr M' bP bZ)/\Hid (dq M' wr (λw'=>PJ w' p (w:Nat) ⟨hL,(m.h:Int),mW,l0,⟨vj,aS.length,vk⟩,⟨r3,ps.length,r4⟩,⟨uq,m.ay.length,ur⟩,⟨uu,m.aX.length,uv⟩⟩ m aS ps))/\Hid ((m.aX.take k).foldl (az.pN c) (m.ay.foldl (vS c) rn)=b'));case atStart=>exact⟨0,M',bP,bZ,_,gW,J,rfl,br,aL,fy,fE,rfl⟩
    case round=>
     obtain⟨k,_,_,_,b',_,_,rfl,br,aL,fy,fE,kp⟩:=hrel;have uw:=fE.dQ;have fC:=uw.1.1;have dF:=uw.1.2.1;have ch:=uw.2.d;have m5:wr.cell? (w,1,5)=some ↑(aq r3 ps.length r4):=aI dF rfl;refine el ?_;intro m7 k2;clear uw;by_cases hk:k<m.aX.length
     ·obtain⟨zZ,o,GU,fW⟩:=ch.get k hk;dsimp only at GU;subst GU;obtain⟨cT,c1,c2⟩:=FO (w:=wr) (b:=zZ) (o:=o+k*3) (x:=m.aX[k]) fW;have ux:=I8.out.2 _ (c7 hk);have hS:(m.aX.take (k+1)).foldl (az.pN c) (m.ay.foldl (vS c) rn)=b'.pN c m.aX[k]:=by rw[iX hk,CV,kp.out];rfl
      obtain⟨i,PN⟩:∃i,m.aX[k]=i:=⟨_,rfl⟩;rw[PN]at cT c1 c2 ux hS;have b0:(0:Int)<=(k:Int):=J;have bd:(k:Int)<(m.aX.length:Int):=J;have oJ:=(Z.refl wr).alloc i;have kM:=I (br.ext oJ);have jA:=I (fy.ext oJ);have tB:=I (fE.step (.of oJ) (b4.eG _ _));replace hS:=I hS;replace ux:=I ux;clear fW ch k2 fC dF m5 m7 PN br fy fE oJ;go_wp2_with fail;refine(aiN kM aL ax i ux w (w.heap.size+1+1) tB.dQ.1.1 tB.dQ.1.2.2).mono ?_;rintro e cG⟨iN,ib,nF,rfl,⟨v9,jB⟩,jq⟩;replace jB:=I jB;have pz:=I (aih aL ux);have me:=I (nj.pJ jq kM tB);have mV:=I (jA.trans jq);clear jq;go_wp2_with fail;go_roundg (gk - 1);case measure=>omega
      case rel=>exact⟨k+1,iN,ib,nF,_,v9,J,by go_num,jB,pz,mV,me,hS⟩
     ·have b9:m.aX.take k=m.aX:=ir J;rw[b9]at kp;have Ao:=kp.out;subst Ao;have gd:=fV.out;have UK:=tD.out;clear b9 kp ch fC dF m7;go_wp2_with fail;refine(av9 br aL ax (λj aJ=>x4 j (aL.bl.2 j aJ)) r3 ps.length r4 ps fE.dQ.2.p (λy hy=>ve.out.2 y.d (by rw[<-UK];exact mJ hy)) tq).mono ?_;rintro e _⟨iN,ib,nF,rfl,GX,jq⟩;rw[UK,gd]at GX;go_wp2;try rw[Exit.aCI]
      go_end0;exact⟨iN,ib,nF,rfl,GX,(fy.trans jq).cC X⟩
def aiY{b:az}(H:dU w M D O c p q b v)(z:Int)(tx:List gN)(a:bk)(n cap:Nat)(ts:List b2)(ba:dq M w (λw=>tr w a n cap ts))(bM:ts.map b2.tx=tx):
  aR 95 #[p,aq a n cap,z] w (yg c p q w M D O (.int .i64 (b.ah (z,tx)).1) (b.ah (z,tx)).2):=by
 replace H:=I H;replace ba:=I ba;replace bM:=I bM;go_enter func95,ntmps95;by_cases bf:z=0
 ·have aa:b.ah (z,tx)=(0,{b with tx:=tx}):=by unfold az.ah;exact if_pos bf
  rw[aa];subst bf;clear aa;obtain⟨v7,zm⟩:=H.rP (w':=w.setCell (p,8) (aq a n cap)) (t:=⟨a,n,cap⟩) (tx:=tx) (ba.mono (λw k=>⟨ts,k,bM⟩)) rfl;replace v7:=I v7;replace zm:=I zm;obtain⟨-,-,-,-,-,-,-,-,wX,_⟩:=uX H.box;go_wp2;go_ret;exact⟨_,_,_,rfl,⟨_,v7⟩,ig.kF zm H.bI.1⟩
 ·have aa:b.ah (z,tx)=(z,b):=by unfold az.ah;exact if_neg bf
  rw[aa];have awm:(z==0)=false:=beq_eq_false_iff_ne.2 bf;clear aa;go_wp2;go_ret;exact⟨_,_,_,rfl,⟨v,H⟩,ig.refl _ _ _ _⟩
def awn{b:az}(H:dU w M D O c p q b v)(hk:gz c l R n b)(i:aA):
  aR 61 #[p,i] w (yg c p q w M D O (.int .i64 (b.tp i).1) (b.tp i).2):=by
 refine aiZ ?_;intro ts dp kI eH r0 ho gp r1;have bc:∀w',Z w w'->aR 97 #[v.tx,i] w' (Ad (Ea b.tx i) w'):=λw' U=>kI▸at0 _ _ _ ts i w' (dp.ext U) eH r0;unfold az.tp;generalize Ea b.tx i=r at bc ⊢;change Hid _ at H dp kI;clear hk;go_enter func61,ntmps61;go_wp2_with fail;refine uc 9 (λw'=>Z (w.alloc i) w') (λa7=>?_);refine um ?_;refine ai0 ?_;refine lh 6 λK aL=>?_;go_simp;go_at_call 97;exact awo
def awp{b:az}(H:dU w M D O c p q b v)(hk:gz c l R n b)(i:aA)(dK:bk)(eA dM:Nat)(xs:List cd)(ss:a1 w 4 cd.cs dK eA dM xs)(Af:∀y,y∈xs->k8 y.n):
  aR 60 #[p,i,aq dK eA dM] w (yg c p q w M D O (.int .i64 (b.rl i xs).1) (b.rl i xs).2):=by
 refine aiZ ?_;intro ts dp kI eH r0 ho gp r1;have mm:∀p,p∈ts->p.a=false->p.e.k=1/\hP p.e:=λp aV aj=>by
  have ae:=hk.tx p.tx (by rw[<-kI];exact mJ aV);exact⟨(ae.Ee aj).1,ae.eA.ok⟩
 have bc:∀w',Z w w'->aR 96 #[v.tx,i,aq dK eA dM] w' (Ad (Cs b.tx i xs) w'):=λw' U=>kI▸at2 _ _ _ _ _ _ ts i xs w' (dp.ext U) eH r0 mm (ss.ext U) Af;unfold az.rl;generalize Cs b.tx i xs=r at bc ⊢;change Hid _ at H dp kI;clear hk mm;go_enter func60,ntmps60;go_wp2_with fail;refine uc 10 (λw'=>Z (w.alloc i) w') (λa7=>?_);refine um ?_;refine ai0 ?_;refine ed 6 ?_;refine lh 7 λK aL=>?_;go_simp;go_at_call 96;refine ai1 ?_;intro aN cE cZ c2 wa bz b7 kc hH a7;refine ed 8 ?_;refine ed 9 ?_;refine lh 10 λK aL=>?_;go_simp;go_at_call 95;refine(aiY (H.ext X) r.1 r.2 cE cZ c2 wa b7 kc).mono ?_;rintro e _⟨M',bP,bZ,rfl,Uy,Gx⟩;refine aL _ _ (λ_ h=>absurd rfl h) λ_=>eY ?_;refine lh 11 λK aL=>?_;exact ai2
def PT(c:bt)(p q:Nat)(w:World)(M D O:Nat->Prop)(i:aA)(r:Int×az)(e:Ending)(w':World):Prop:=yg c p q w M D O (.tuple #[i,r.1]) r.2 e w'
def LY(w:aC){a b:Addr}(u v:Value)(h:a.block≠b.block):(w.setCell a u).setCell b v=(w.setCell b v).setCell a u:=by
 unfold World.setCell;congr 1;apply Array.ext_getElem?;intro i;simp only[Si];by_cases aj:a.block=i
 ·by_cases aa:b.block=i
  ·exact absurd (aj.trans aa.symm) h
  ·simp[aj,aa]
 ·by_cases aa:b.block=i
  ·simp[aj,aa]
  ·simp[aj,aa]
def awq(w:aC){R i j:Nat}(x y a b c:Value)(h:p≠R):((((w.setCell (p,i) x).setCell (p,j) y).setCell (R,0) a).setCell (R,1) b).setCell (R,2) c=((((w.setCell (R,0) a).setCell (R,1) b).setCell (R,2) c).setCell (p,i) x).setCell (p,j) y:=by
 rw[LY (w.setCell ⟨p,i,none⟩ x) (a:=⟨p,j,none⟩) (b:=⟨R,0,none⟩) y a h,LY w (a:=⟨p,i,none⟩) (b:=⟨R,0,none⟩) x a h,
  LY _ (a:=⟨p,j,none⟩) (b:=⟨R,1,none⟩) y b h,LY _ (a:=⟨p,i,none⟩) (b:=⟨R,1,none⟩) x b h,
  LY _ (a:=⟨p,j,none⟩) (b:=⟨R,2,none⟩) y c h,LY _ (a:=⟨p,i,none⟩) (b:=⟨R,2,none⟩) x c h]
def LZ{R:Nat}{cT c1 c2:Value}{t:TypeId}{fr:Nat×Nat}(h:w.heap[R]?=some (.cells #[cT,c1,c2] t fr))(v0 v1 v2:Value):(((w.setCell (R,0) v0).setCell (R,1) v1).setCell (R,2) v2).heap[R]?=some (.cells #[v0,v1,v2] t fr):=
 er (er (er h 0 v0) 1 v1) 2 v2
def ai3{R:Nat}(h:Z w w')(bC:(w:Nat)<=R)(v0 v1 v2:Value):Z w (((w'.setCell (R,0) v0).setCell (R,1) v1).setCell (R,2) v2):=((h.setCell bC _).setCell bC _).setCell bC _
def qm.gA{S:ff}{c:Nat}{ts:List b2}(h:qm w base a n c ts)(al:aG S w w')(a8:∀x,S x->x<base):qm w' base a n c ts:=⟨h.cg.gA al a8,λp aV=>(h.ct p aV).gA al a8⟩
def uy(z:Int)(i:aA):aA:=if z=0 then i else ⟨0,0,0⟩
def dU.awr{b:az}(h:dU w M D O c p q b v){k:Nat}(he:w'=w.setCell (p,9) (ad (k:Int))):
  dU w' M D O c p q {b with ev:=k} v/\aG (·=p) w w':=by
 subst he;have al:=(aG.refl (·=p) w).setCell (p,9) (.inl rfl) (ad (k:Int));refine⟨h.kF al (er h.box 9 _) ?_ rfl rfl rfl rfl rfl rfl,al⟩;exact(h.lR.mono (λw k=>⟨k.cD,k.aj,k.st,k.tx,k.eN,k.cW⟩)).step (al.cN (h.sub _ h.bI.1)) (b4.eG _ _)
def ai4{b:az}(H:dU w M D O c p q b v)(cl:Int)(b5:b.xU c cl=true)(gV:b.ev<=1000000)(fn:Nat)(aQ:Array Value)(r:Int×List gN)(bc:∀args w,(callFunc fn args).run prog w=.ok (.enter fn args) w)(cy:∀w',Z w w'->aR fn (#[.agg #[b.gX.b,ad b.gX.l,ad b.gX.s]]++aQ) w' (Ad r w')):
  aR 82 #[p,cl,.func (.func fn) #[] aQ] w (PT c p q w M D O (uy r.1 b.gX) (b.qk r)):=by
 replace H:=I H;replace cy:=I cy;have gp:=I H.box;have ho:=I H.cx;go_enter func82,ntmps82;go_wp2_with fail;refine(ZP (H.ext X) cl).mono ?_;rintro e bs⟨rfl,cS⟩;rw[b5];replace cS:=I cS;clear b5;have LM:=I ((show Z w bs from X).aB gp);obtain⟨_,_,ec⟩:=H.dQ.st;have Ir:=ec.cO;clear ec;have dV:bs.cell? (p,0)=some ↑(b.b6:Int):=aI LM rfl;have gU:bs.cell? (p,4)=some ↑(ad (b.st.l:Int)):=by rw[<-Ir];exact aI LM rfl
 have CD:bs.cell? (p,9)=some ↑(ad (b.ev:Int)):=aI LM rfl;have EM:Hid (bs.heap[(w:Nat)]?=some (kR:Obj)):=(cS.aB hT);have nY:=I EM;go_upto_region 5 with (fail);go_cut [8] (λu fD=>u=.pointer (some (bs,0))/\Hid (fD.heap[(bs:Nat)]?=some (b.gX:Obj))/\Hid (Z bs fD));case first=>
  have PU:IntKind.u64.wrap ((b.ev:Int)+1)=((b.ev+1:Nat):Int):=by rw[Gp _ ⟨J,J⟩];rfl
  replace PU:=I PU;refine sI (Z bs) (λa7=>?_);refine Ag ?_;refine Bf 3 (·.ah dV) ?_;refine Lm ?_;refine cX 7 ?_;refine Bf 8 (·.ah gU) ?_;refine cX 9 ?_;refine cX 10 ?_;refine cX 11 ?_;refine Bf 12 (·.ah CD) ?_;refine cX 13 ?_;refine cX 14 ?_;refine hE 15 λK aL=>?_;(go_simp;skip;refine vf ?_;intro a7);refine hE 16 λK aL=>?_;go_simp;refine aL _ _ ?_ (λa7=>?_)
  focus ((try dsimp only);exact X)
  clear aL K;refine eY ?_;refine wpAnyH_done bV ?_ _;go_wp2_with fail;go_meet;refine⟨rfl,I ?_,X⟩;rw[PU.out];show(bs.alloc _).heap[(bs:Nat)]? =_;rw[fi rfl];rfl
 case rest=>
  obtain⟨rfl,fE,_⟩:=hcut;have pA:=fE.out;obtain⟨ca,i1,ht⟩:=iE pA;clear pA dV gU CD;go_wp2_with fail;refine(cy _ X).mono ?_;rintro e aN⟨cE,cZ,c2,wa,rfl,oO,kc,bz⟩;replace bz:=I bz;have b7:=I (oO.mono (aDn:=(bs:Nat)) (Z.size X));replace kc:=I kc;have w8:=I (bz.aB fE);have cM:=I ((show Z bs aN from X).aB nY);clear oO ca i1 ht;obtain⟨z,tx⟩:=r;dsimp only at kc ⊢;obtain⟨_,_,_⟩:=iE w8;obtain⟨_,_,_,_⟩:=sn cM;by_cases bf:z=0
  ·subst bf;have UL:=H.ext (w':=aN) X;have aCJ:=aI (o:=8) UL.box rfl;have aCK:aN.cell? (p,9)=some ↑(ad (b.ev:Int)):=aI UL.box rfl;have arq:∀j,aN.frozen? ⟨p,j,none⟩=false:=λj=>nS UL.box;have ai5:(w:Nat)≠p:=λe=>by have:=bT H.box;omega
   have PV:=ai3 (show Z w aN from X) (bA _) (.int .i64 (b.gX.b)) (ad (b.gX.l)) (ad (b.gX.s));have aws:=awq aN (p:=p) (R:=(w:Nat)) (i:=8) (j:=9) (aq cE cZ c2) (.int .u64 ((b.ev:Int)+1)) (.int .i64 (b.gX.b)) (ad (b.gX.l)) (ad (b.gX.s)) ai5.symm;obtain⟨Pw,v8⟩:=(H.ext PV).rP (t:=⟨cE,cZ,c2⟩) (tx:=tx) (((b7.gA (zK (S:=(·=(w:Nat))) (aG.refl _ aN) (.inl rfl) 0 1 2 (.int .i64 (b.gX.b)) (ad (b.gX.l)) (ad (b.gX.s))) (λx e=>by have:=bT nY;omega)).cx (λx k=>gw (ho x k) (Z.size X))).mono (λw k=>(⟨wa,k,kc⟩:∃ts,tr w cE cZ c2 ts/\ts.map b2.tx=tx))) rfl;obtain⟨awt,ai6⟩:=Pw.awr (k:=b.ev+1) rfl;have aa:=(v8.trans ai6).block w (gw (bT cM) (Nat.le_of_eq (by simp[World.setCell]))) ai5;rw[LZ cM.out,show(((b.ev+1:Nat)):Int)=(b.ev:Int)+1 from rfl]at aa;clear UL;go_wp2_with fail;try rw[aws]
   obtain⟨z0,cU,z2⟩:=iE aa;refine bodyPost_ret (v:=.tuple #[b.gX,ar]) (by simp[results,results82,go_sem,z0,cU,z2]) rfl ?_;have bS:b.qk (0,tx)=(0,{b with tx:=tx,ev:=b.ev+1}):=rfl;have bE:uy 0 b.gX=b.gX:=rfl;rw[bS,bE];exact⟨M,D,O,rfl,⟨_,awt⟩,(ig.kF (v8.trans ai6) H.bI.1).cC PV⟩
  ·have awm:(z !=0)=true:=bne_iff_ne.2 bf;go_wp2_with fail;have PV:=ai3 (show Z w aN from X) (bA _) ar au au;have aa:=LZ cM ar au au;obtain⟨z0,cU,z2⟩:=iE aa;refine bodyPost_ret (v:=.tuple #[.agg #[ar,au,au],z]) (by simp[results,results82,go_sem,z0,cU,z2]) rfl ?_;have bS:b.qk (z,tx)=(z,b):=by unfold az.qk;exact if_neg bf
   have bE:uy z b.gX=⟨0,0,0⟩:=bj bf;rw[bS,bE];exact⟨M,D,O,rfl,⟨v,H.ext PV⟩,.of PV⟩
def awu{b:az}(H:dU w M D O c p q b v)(hk:gz c l R n b)(i:aA)(cl:Int)(fI gr:Nat)(I7:w.heap[fI]?=some (.cells #[p] 103 (0,0)))(yG:w.heap[gr]?=some (.cells #[cl] 3 (0,0)))(aD:hP (x7 i cl)):
  aR 93 #[i,fI,gr] w (Ad (qh b.tx ⟨x7 i cl,false⟩) w):=by
 refine ai7 ?_;intro ts dp ru eH r0 gp r1 PD PW;have bc:∀w',Z w w'->aR 94 #[v.tx,i,cl] w' (Ad (qh b.tx ⟨x7 i cl,false⟩) w'):=λw' U=>ru▸atY _ _ _ ts i cl w' (dp.ext U) eH r0 aD;generalize qh b.tx ⟨x7 i cl,false⟩=r at bc ⊢;change Hid _ at H dp;clear hk ru I7 yG aD;go_enter func93,ntmps93;refine aDv ?_;intro _ _ a7;refine lA 4 (·.aB r1) ?_;refine lA 5 (·.aB PW) ?_;refine hE 6 λK aL=>?_;(go_simp;(go_at_call 94;refine ai8 ?_;intro aN cE cZ c2 wa bz b7 kc);refine vf ?_;intro a7);refine cX 7 ?_;refine cX 8 ?_;refine cX 9 ?_;refine cX 10 ?_;exact ai9
def awv{b:az}(H:dU w M D O c p q b v)(hk:gz c l R n b)(i:aA)(cl:Int)(u:Nat)(fA:bk)(fn fB:Nat)(jM:List T)(fI gr cA WW:Nat)(I7:w.heap[fI]?=some (.cells #[p] 103 (0,0)))(yG:w.heap[gr]?=some (.cells #[cl] 3 (0,0)))(pH:w.heap[cA]?=some (.cells #[ad (u:Int)] 41 (0,0)))(PE:w.heap[WW]?=some (.cells #[aq fA fn fB] 36 (0,0)))(hF:a1 w 5 T.cs fA fn fB jM)(A6:jM.length<=100)(aO:dx i)(gV:0<=cl/\cl<32)(aD:mY jM=true->hP (⟨2,i,cl,(u:Int),jM,[]⟩:bg)):
  aR 83 #[i,fI,gr,cA,WW] w (Ad (D9 (mY jM) b.tx ⟨(⟨2,i,cl,(u:Int),jM,[]⟩:bg),true⟩) w):=by
 refine ai7 ?_;intro ts dp ru eH r0 gp r1 PD PW;have LQ:=I (((Z.refl w).alloc i).aB pH);have aww:=I (((Z.refl w).alloc i).aB PE);have aja:Gt (XC (mY jM)) b.tx ⟨(⟨2,i,cl,(u:Int),jM,[]⟩:bg),true⟩=D9 (mY jM) b.tx ⟨(⟨2,i,cl,(u:Int),jM,[]⟩:bg),true⟩:=by
  cases bf:mY jM
  ·rfl
  ·refine O0.trans ?_;unfold D9 qh;by_cases hs:hD b.tx i<b.tx.length
   ·rw[bm hs,bm hs]
   ·rw[bj hs,bj hs,bj (by decide:¬(true=false))]
 have bc:∀w',Z w w'->aR 84 #[v.tx,.agg #[bh 2,i.b,ad i.l,ad i.s,cl,ad (u:Int),aq fA fn fB,aH]] w' (Ad (D9 (mY jM) b.tx ⟨(⟨2,i,cl,(u:Int),jM,[]⟩:bg),true⟩) w'):=λw' U=>by
  rw[<-aja,<-ru];exact atZ (XC (mY jM)) _ _ _ ts ⟨2,i,cl,(u:Int),⟨fA,fn,fB⟩,⟨none,0,0⟩⟩ (⟨2,i,cl,(u:Int),jM,[]⟩:bg) w' (dp.ext U) eH r0 ⟨rfl,rfl,rfl,rfl,hF.ext U,⟨[],rfl,⟨a1.nil _ eJ.bH,λy hy=>by cases hy⟩⟩⟩ ⟨A6,by simp,λe he=>by cases he⟩ (λfj cw=>aej _ _ _ _ _ _ _ _ _ _ jM fj aO.b.1 aO.b.2 gV.1 gV.2 (hF.ext (U.trans cw))) (λbf=>aD (by cases bq:mY jM with|true=>rfl|false=>rw[bq]at bf;exact absurd bf af))
 generalize D9 (mY jM) b.tx ⟨(⟨2,i,cl,(u:Int),jM,[]⟩:bg),true⟩=r at bc ⊢;change Hid _ at H dp;clear hk ru I7 yG pH PE aD aja;go_enter func83,ntmps83;refine aDv ?_;intro _ _ a7;refine lA 4 (·.aB r1) ?_;refine lA 5 (·.aB PW) ?_;refine lA 6 (·.aB LQ) ?_;refine lA 7 (·.aB aww) ?_;refine cX 8 ?_;refine hE 9 λK aL=>?_;(go_simp;(go_at_call 84;refine ai8 ?_;intro aN cE cZ c2 wa bz b7 kc);refine vf ?_;intro a7);refine Zu ?_;refine cX 13 ?_;exact ai9
def dU.cell{w1:aC}{b:az}{R:Nat}(h:dU w M D O c p q b v)(U:Z w w1)(bC:(w:Nat)<=R)(xC:R<(w1:Nat)):
  dU w1 (la M (·=R)) D O c p q b v/\nj w M D O w1 (la M (·=R)) D O:=by
 have bc:b4 w M (la M (·=R)):=⟨λ_ k=>.inl k,λy hy=>hy.imp id (λe=>(show y=R from e)▸bC)⟩;refine⟨h.step (S:=λ_=>False) (.of U) (λ_ k=>k.elim) (λ_ _ k=>k) bc (λy hy=>?_),⟨.of U,b4.refl _ _,b4.refl _ _,bc⟩⟩;rcases hy with hy|hy
 ·exact gw (h.cx y hy) U.size
 ·rw[show y=R from hy];exact xC
def dU.ajb{w1 cG UM:aC}{iN ib nF:ff}{b qU:az}{v9:tK}{R:Nat}(h:dU w M D O c p q b v)(U:Z w w1)(bC:(w:Nat)<=R)(xC:R<(w1:Nat))(tQ:dU cG iN ib nF c p q qU v9)(hm:ig w1 (la M (·=R)) D O cG iN ib nF)(al:aG (·=R) cG UM):∃M',dU UM M' ib nF c p q qU v9/\ig w M D O UM M' ib nF:=by
 have ho:=h.cx;have awx:iN R:=hm.m.up R (.inr rfl);have awy:¬ib R:=λk=>(hm.d.new R k).elim (λz=>by have:=ho R (h.sP R z);omega) (λz=>by omega);have awz:¬nF R:=λk=>(hm.o.new R k).elim (λz=>by have:=ho R (h.sub R z);omega) (λz=>by omega)
 have br:=tQ.step al (λx e=>(show x=R from e)▸awx) (λx cw e=>by
  have e:x=R:=e;subst e
  exact cw.elim awy awz) (b4.eG _ _) (λx k=>gw (tQ.cx x k) al.size)
 have fy:=((h.cell U bC xC).2.wS hm).row al (λx e=>(show x=R from e)▸bC) (b4.eG _ _);exact⟨_,fy.wb br h.sP h.sub⟩
def awA{b:az}(H:dU w M D O c p q b v)(b8:gz c l R n b)(cl:Int)(b5:b.xU c cl=true)(gV:b.ev<=1000000)(c5:hP (x7 b.gX cl)):
  aR 57 #[p,cl] w (PT c p q w M D O (uy (b.pO cl).1 b.gX) (b.pO cl)):=by
 obtain⟨r,cR⟩:∃r,qh b.tx ⟨x7 b.gX cl,false⟩=r:=⟨_,rfl⟩;have E3:b.pO cl=b.qk r:=by rw[<-cR];rfl
 have E4:(b.pO cl).1=r.1:=by rw[E3];unfold az.qk;split<;>simp_all
 rw[E3]at E4 ⊢;rw[E4];unfold PT;rw[E4];change Hid _ at cR;have pR:=I (show(((w.alloc (.cells #[p] 103)).alloc (.cells #[cl] 3)).alloc kR).heap[(w:Nat)]?=some (.cells #[p] 103)from hT);have gt:=I (show(((w.alloc (.cells #[p] 103)).alloc (.cells #[cl] 3)).alloc kR).heap[(w:Nat)+1]?=some (.cells #[cl] 3)from hT);change Hid _ at H b8 c5;clear E3;go_enter func57,ntmps57;have fS:(w.heap.size+1+1)<(((w.alloc (.cells #[p] 103)).alloc (.cells #[cl] 3)).alloc kR).heap.size:=by simp
 obtain⟨Jb,hp⟩:=H.cell (w1:=(((w.alloc (.cells #[p] 103)).alloc (.cells #[cl] 3)).alloc kR)) (R:=(w.heap.size+1+1)) X J fS;have L0:=I (show(((w.alloc (.cells #[p] 103)).alloc (.cells #[cl] 3)).alloc kR).heap[(w.heap.size+1+1)]?=some (kR:Obj)from hT);go_wp2_with fail;refine(ai4 Jb cl b5 gV 93 #[.pointer (some ⟨w.heap.size,0,none⟩),.pointer (some ⟨w.heap.size+1,0,none⟩)] r (λ_ _=>by kernel_rfl) (λw' U=>cR.out▸awu (Jb.ext U) b8 b.gX cl w.heap.size (w.heap.size+1) (U.aB pR) (U.aB gt) c5)).mono ?_;rintro e cG⟨_,ib,nF,rfl,⟨v9,jB⟩,mV⟩;have Em:¬oE D O (w.heap.size+1+1):=λk=>k.elim (λz=>by have:=H.cx _ (H.sP _ z);omega) (λz=>by have:=H.cx _ (H.sub _ z);omega);have DX:=(mV.dT.block _ fS Em).trans L0;change Hid _ at jB mV Em;clear Jb hp;refine ajc ?_;intro dN PX z0 cU z2 mx hF;have gI:=zK (S:=(·=(w.heap.size+1+1))) (aG.refl _ cG) (R:=(w.heap.size+1+1)) (.inl rfl) 0 1 2 dN.b (ad dN.l) (ad dN.s);obtain⟨M',zr,w9⟩:=H.ajb (w1:=(((w.alloc (.cells #[p] 103)).alloc (.cells #[cl] 3)).alloc kR)) (R:=(w.heap.size+1+1)) X J fS jB mV gI;change Hid _ at zr w9;clear gI DX;go_wp2_with fail;obtain⟨cF,cP,cQ⟩:=iE hF;refine bodyPost_ret (v:=.tuple #[dN,r.1]) (by simp[results,results57,go_sem,cF,cP,cQ,E4]) rfl ?_;exact ajd
def awB{b:az}(H:dU w M D O c p q b v)(eU:Ol b.st):
  aR 40 #[p] w (YP b.st w):=by
 obtain⟨ag,ps,fR⟩:=H.dQ.st;have AJ:v.s.l.n<=1000000:=by rw[fR.l.aF.neq,<-cr (f:=(·.d)),fR.j9];have:=eU.xQ;omega
 have ox:v.s.p.n<=1000000:=by rw[fR.p.aF.neq,<-cr (f:=(·.d)),fR.ma];have:=eU.jE;omega
 have zJ:v.s.b.n<=10000000:=by rw[fR.b.neq];have:=eU.cA;omega
 have jK:=I (Ly fR.j9 (λd aD=>eU.ag d aD));have lD:=I (Ly fR.ma (λd aD=>eU.ps d aD));have gp:=I (H.ext (w':=w.alloc lB) X).box;have EM:=I (show(w.alloc lB).heap[(w:Nat)]?=some (lB:Obj)from hT);replace fR:=I fR;replace H:=I H;clear eU;go_enter func40,ntmps40;go_wp2_with fail;refine ON 24 (S:=(λw'=>Z (w.alloc lB) w')) bV ?_ (λa7=>?_)
 ·((try dsimp only);exact X)
 refine Pv ?_;refine lQ 4 (·.aB gp) ?_;refine gO 5 ?_;refine gO 6 ?_;refine gO 7 ?_;refine gO 8 ?_;refine lQ 9 (·.aB gp) ?_;refine gO 11 ?_;refine gO 12 ?_;refine gO 13 ?_;refine gO 14 ?_;refine lQ 15 (·.aB gp) ?_;refine gO 17 ?_;refine gO 18 ?_;refine gO 19 ?_;refine gO 20 ?_;refine lQ 21 (·.aB gp) ?_;refine x3 (rs:= [10]) bV (by simp) ?_;refine Ex ?_;intro K aL;go_at_call 72;refine(afb _ _ _ ag _ (fR.l.ext X) jK AJ).mono ?_;rintro e aN⟨cE,cZ,c2,YZ,rfl,oO,Ek,kc,bz⟩;replace bz:=I bz;have b7:=I (fx.mk oO Ek);replace kc:=I kc;clear oO Ek;refine PQ ?_;clear a7 K aL;intro a7;refine x3 (rs:= [16]) bV (by simp) ?_;refine Ex ?_;intro K aL;go_at_call 72;refine(afb _ _ _ ps _ (fR.p.ext X) lD ox).mono ?_;rintro e aY⟨a3,gF,da,Y0,rfl,we,Gb,L1,c9⟩;replace c9:=I c9;have cz:=I (fx.mk we Gb);replace L1:=I L1;clear we Gb;refine PQ ?_;clear a7 K aL;intro a7;refine x3 (rs:= [22]) bV (by simp) ?_;refine Ex ?_;intro K aL;go_at_call 73;refine(aeU _ _ _ b.st.ay _ (fR.b.ext X) zJ).mono ?_;rintro e b3⟨a4,pF,dJ,rfl,dW,eX⟩;replace eX:=I eX;replace dW:=I dW;refine PQ ?_;clear a7 K aL;intro a7;refine gO 23 ?_;have Ae:=I ((show Z (w.alloc lB) b3 from X).aB EM);obtain⟨_,_,_,_,_⟩:=Ci Ae;refine x3 (rs:= [24]) bV (by simp) ?_;refine Ex ?_;intro K aL;refine aL _ _ (λh=>absurd rfl h) (λ_=>?_);clear aL K;refine eY ?_;refine K6 bV ?_ _;have f0:=K9 Ae (ad v.s.cO) (aq cE cZ c2) (aq a3 gF da) (aq a4 pF dJ);have iy:=CE (S:=λx=>x=(w:Nat)) (aG.refl _ b3) (R:=(w:Nat)) (.inl rfl) (ad v.s.cO) (aq cE cZ c2) (aq a3 gF da) (aq a4 pF dJ);have y4:(w:Nat)<(w.alloc lB).drew.heap.size:=by simp[World.drew]
 have pq:(w.alloc lB).drew.heap.size<=(aN:Nat):=Z.size X;have awC:Z aN b3:=c9.trans eX;have UN:Z aY b3:=eX.out;have vd:(aN:Nat)<=(aY:Nat):=Z.size X;have zR:∀x,x=(w:Nat)->x<(w.alloc lB).drew.heap.size:=λx e=>by omega
 obtain⟨z0,cU,z2,z3⟩:=vx f0;have hu:oo cE a3:=λx y U hy e=>by
  have:=(b7.cg.lt x U).2;have:=(cz.cg.lt y hy).1;omega
 go_wp2;refine bodyPost_ret (v:=.agg #[ad v.s.cO,aq cE cZ c2,aq a3 gF da,aq a4 pF dJ]) (by simp[results,results40,go_sem,z0,cU,z2,z3]) rfl ⟨⟨v.s.cO,⟨cE,cZ,c2⟩,⟨a3,gF,da⟩,⟨a4,pF,dJ⟩⟩,YZ,Y0,rfl,⟨fR.cO,((b7.ext awC).gA iy zR).mono J,kc.trans fR.j9,((cz.ext UN).gA iy (λx e=>by omega)).mono J,L1.trans fR.ma,(dW.gA iy (λx e=>by omega)).mono J,hu⟩,iy.ext (W:=w) (λb aa=>by subst aa;omega) X⟩
def awD{b:az}(H:dU w M D O c p q b v)(hk:gz c l R n b)(j3:∀j,j∈b.bl->dx j)(i:aA)(bb:dx i):
  aR 56 #[p,i] w (cM (.int .i64 (b.status i)) w):=by
 obtain⟨ts,dp,ru⟩:=H.dQ.tx;obtain⟨ag,_,ec⟩:=H.dQ.st;have eH:=I (IV ru (λt a6=>(hk.tx t a6).eA));have gp:=I (H.ext (w':=(w.alloc i)) X).box;refine Ug ?_;intro r1;have bL:=I ec.l.dz;have I1:=I (y5 ec.l ec.j9 i);obtain⟨o,ba⟩:∃o,b.tx[hD b.tx i]? =o:=⟨_,rfl⟩;obtain⟨rs,fV⟩:∃rs,b.status i=rs:=⟨_,rfl⟩;rw[fV];unfold az.status at fV;rw[ba]at fV;rw[<-ru]at ba;replace fV:=I fV;replace ba:=I ba;replace H:=I H;replace dp:=I dp;replace j3:=I j3;replace bb:=I bb;clear hk ru ec;go_enter func56,ntmps56;go_upto_region 3 with (fail);go_cut [5,6] (λbv dN fD=>∃(B:Nat) (mg:b2),bv=.pointer (some (B,0))/\dN=.bool o.isSome/\Hid (∀t,o=some t->mg.a=t.a)/\Hid (fD.heap[B]?=some (.cells #[mg.x.k,mg.x.id.b,ad mg.x.id.l,ad mg.x.id.s,mg.x.c,ad mg.x.u,mg.x.f,mg.x.e,mg.a] 191))/\Hid (Z (w.alloc i) fD));case first=>
  go_wp2_with fail;refine sI (λw'=>Z (w.alloc i) w') (λa7=>?_);refine Ag ?_;refine lA 3 (·.aB gp) ?_;refine lA 4 (·.aB r1) ?_;refine wpAnyH_ready (rs:= [5,9]) bV (by simp) ?_;refine AllReadyH.cons rfl (λK aL=>?_) (AllReadyH.cons rfl (λK aL=>?_) AllReadyH.nil)
  ·skip;(go_simp;(go_at_call 91;refine(ahd _ _ _ ts i _ (dp.ext X) eH).mono ?_;rintro e aN⟨mg,rfl,pv,gj⟩;replace pv:=I pv;replace gj:=I gj);refine vf ?_;intro a7);refine Pu ?_;refine hE 9 λK aL=>?_;(go_simp;skip;refine vf ?_;intro a7);refine hE 10 λK aL=>?_;go_simp;refine aL _ _ ?_ (λa7=>?_)
   focus ((try dsimp only);exact X)
   clear aL K;refine Ud ?_;go_wp2_with fail;go_meet;refine⟨_,mg,rfl,by rw[<-ba.out,nu,Option.isSome_map],λt a6=>pv t (by rw[ba.out];exact a6),I (fi (by first|rfl|simp)),X⟩
  ·skip;(go_simp;skip;refine vf ?_;intro a7);refine hE 5 λK aL=>?_;(go_simp;(go_at_call 91;refine(ahd _ _ _ ts i _ (dp.ext X) eH).mono ?_;rintro e aN⟨mg,rfl,pv,gj⟩;replace pv:=I pv;replace gj:=I gj);refine vf ?_;intro a7);refine Pu ?_;refine hE 10 λK aL=>?_;have pT:aN.heap[(w.alloc i).heap.size]?=some (.cells #[ar,ar,au,au,ar,au,aH,aH,.bool false] 191):=gj.aB (by show((w.alloc i).alloc (.cells #[ar,ar,au,au,ar,au,aH,aH,.bool false] 191)).heap[(w.alloc i).heap.size]? =_;exact fi rfl);obtain⟨z0,cU,z2,z3,z4,z5,ga,fk,rb,mx⟩:=uX pT;have ch:=TJ (show Z (w.alloc i) aN from X) (bA _) mg.x.k mg.x.id.b (ad mg.x.id.l) (ad mg.x.id.s) mg.x.c (ad mg.x.u) mg.x.f mg.x.e mg.a;have aje:=Zh pT mg.x.k mg.x.id.b (ad mg.x.id.l) (ad mg.x.id.s) mg.x.c (ad mg.x.u) mg.x.f mg.x.e mg.a;have hw:(w.alloc i).heap.size=(w:Nat)+1:=by simp
   rw[hw]at pT z0 cU z2 z3 z4 z5 ga fk rb mx ch aje;go_simp;refine aL _ _ ?_ (λa7=>?_)
   focus ((try dsimp only);exact ch)
   clear aL K;refine Ud ?_;go_wp2_with fail;go_meet;exact⟨_,mg,rfl,by rw[<-ba.out,nu,Option.isSome_map],λt a6=>pv t (by rw[ba.out];exact a6),I aje,ch⟩
 case rest=>
  obtain⟨B,mg,rfl,rfl,qq,br,iG⟩:=hcut;go_wp2_with fail;refine sI (Z wc) (λa7=>?_);refine Ag ?_;refine lA 3 (λiA=>(iG.trans iA).aB gp) ?_;refine lA 4 (λiA=>(iG.trans iA).aB r1) ?_;refine hE 5 λK aL=>?_;(go_simp;(go_at_call 17;refine(ou v.s (ag.map (·.x)) i _ (bL.ext X)).mono ?_;rintro e aY⟨rfl,fT⟩;replace fT:=I fT;rw[I1.out]);refine vf ?_;intro a7);refine cX 6 ?_;refine wpAnyH_done bV ?_ _;cases bf:eD b.st.ag i with
  |true=>
   have gd:=fV.out;rw[bm bf]at gd;subst gd;clear bf;go_wp2;go_ret;exact⟨rfl,X⟩
  |false=>
   have de:=fV.out;rw[bj (by rw[bf];decide)]at de;replace de:=I de;clear bf fV;have ajf:=(show Z (w.alloc i) aY from X).aB r1;obtain⟨iF,iu,gR⟩:=iE ajf;clear ajf;go_wp2_with fail;refine(Ui (H.ext X) j3 i bb).mono ?_;rintro e b3⟨rfl,xr⟩;replace xr:=I xr;clear iF iu gR;have ajg:=(show Z wc b3 from X).aB br;have rb:=aI (o:=8) ajg rfl;cases aj:b.wU i with
   |true=>
    have gd:=de.out;rw[bm aj]at gd;subst gd;clear aj;go_wp2;go_ret;exact⟨rfl,X⟩
   |false=>
    have gd:=de.out;rw[bj (by rw[aj];decide)]at gd;clear aj de;cases o with
    |none=>
     subst gd;go_wp2;go_ret;exact⟨rfl,X⟩
    |some t=>
     have O5:=qq.out t rfl;dsimp only at gd;rw[<-O5]at gd;clear O5;cases bq:mg.a with
     |true=>
      rw[bm bq]at gd;subst gd;rw[bq]at rb;go_wp2;go_ret;exact⟨rfl,X⟩
     |false=>
      rw[bj (by rw[bq];decide)]at gd;subst gd;rw[bq]at rb;go_wp2;go_ret;exact⟨rfl,X⟩
def awE(r:List (List cd)×Nat)(w:World)(e:Ending)(w':World):Prop:=∃a n c ys,e=.returned (.tuple #[aq a n c,(r.2:Int),ar])/\Own w' w.heap.size 34 1 eJ.cs a n c ys/\(∀y,y∈ys->Own w' w.heap.size 77 4 cd.cs y.v.a y.v.n y.v.c y.dH)/\ys.map (·.dH)=r.1/\Z w w'
def awF{s:List lX}{l:List bg}(h:pa s cl d= []):mA cl n s (d::l)=mA cl (n+1) (tZ s d) l:=by show(if _ then _ else _)=_;rw[bm h]
def awG{s:List lX}{l:List bg}(h:pa s cl d≠ []):mA cl n s (d::l)=(pa s cl d,n+1):=by show(if _ then _ else _)=_;rw[bj h]
def awH{s:List lX}:mA cl n s []=([],n):=rfl
def awI{b:az}(H:dU w M D O c p q b v)(fP:∀d,d∈b.st.ag->hP d)(L2:b.st.ag.length<=10000)(cl:Int)(GY:b.xU c cl=true)(fr:Nat)(wg:fr<=b.st.ag.length):
  aR 62 #[p,cl,(fr:Int)] w (awE (b.KP cl fr) w):=by
 refine ajh ?_;intro ag ps ec qJ sB fG vh lc gV hm E5 bL gp bM;obtain⟨rs,fV⟩:∃rs,b.KP cl fr=rs:=⟨_,rfl⟩;rw[fV];have d0:(fr:Int)<=(ag.length:Int):=J;have jX:(0:Int)<=(fr:Int):=J;change Hid _ at qJ L2 wg H gp bL fP GY fV;clear ec vh E5 sB;go_enter func62,ntmps62;go_wp2_with fail;refine(ZP (H.ext X) cl).mono ?_;rintro e _⟨rfl,cS⟩;rw[GY.out];have kD:=aI (o:=5) (cS.aB gp) rfl;change Hid _ at cS;go_wp2_with fail;refine(ZX (H.ext X) fP L2 fr wg).mono ?_;rintro e _⟨sa,kU,nX,eg,rfl,jK,lD,bx⟩;change Hid _ at jK lD bx;clear kD;go_wp2_with fail;go_loopg [10,11] (ag.length - fr) (λg e1 dN wr=>∃(k:Nat) (aw:bk) (m aQ:Nat) (ys:List ck),g+k=ag.length/\fr<=k/\dN=.int .i64 (k:Int)/\e1=.slice aw m aQ/\Hid (sY wr aw m aQ ys)/\Hid (ys.map ck.d=j1 (b.st.ag.take k))/\Hid (mA cl k (j1 (b.st.ag.take k)) (b.st.ag.drop k)=rs)/\Hid (Z w wr));case atStart=>exact⟨fr,sa,kU,nX,eg,J,bA _,rfl,rfl,jK,lD,fV,X⟩
 case round=>
  obtain⟨k,aw,m,aQ,ys,_,_,rfl,rfl,nN,ku,aji,U⟩:=hrel;by_cases hk:k<ag.length
  ·have uI:k<b.st.ag.length:=by rw[<-qJ.out];exact hk
   obtain⟨fC,o,rfl,ao⟩:=bL.aF.get k hk;obtain⟨_,_,c2,da,_,_,_,_⟩:=pd (w:=wr) (b:=fC) (o:=o+k*8) (x:=ag[k].x) (λj v aJ=>U.ah (ao j v aJ));have aD:ag[k].d=b.st.ag[k]:=by
    have ae:(ag.map (·.d))[k]? =b.st.ag[k]? :=by rw[bM.out]
    rw[nu,fz hk,fz uI]at ae;exact wL ae
   have bb:=I (bL.ct ag[k] (c7 hk));have ET:=fP.out b.st.ag[k] (c7 _);rw[<-aD]at ET;have hlen:m<=10000:=by
    rw[nN.aF.neq,<-cr (f:=ck.d),ku.out];have:=Uk (b.st.ag.take k) [];rw[nW,o9]at this;have:=L2.out;unfold j1;omega
   have eH:Hid (∀s,s∈ys->s.ts.length<=10000):=λs hs=>ais;have wG:ag[k].d.ts.length<=10000:=eh ET.rH.ts J;have xF:ag[k].d.aS.length<=10000:=eh ET.rH.aS J;have awJ:Hid (∀e,e∈ag[k].d.aS->e.length<=10000):=λe he=>eh (ET.rH.dH e he) J;have oK:Hid (ag[k].x.k=ag[k].d.k):=bb.k;have hS:=air (l:=b.st.ag) (k:=k) uI;rw[<-aD]at hS;have UO:=aji.out;rw[Dv uI,<-aD,<-ku.out]at UO;have b0:(0:Int)<=(k:Int):=J;have bd:(k:Int)<(ag.length:Int):=J;have kD:=aI (o:=5) (U.aB gp) rfl;have pR:Hid ((wr.alloc ag[k].x).heap[(wr:Nat)]?=some (ag[k].x:Obj)):=fi rfl;change Hid _ at hS UO;clear ET aD ao uI;go_wp2_with fail;refine(aoZ aw m aQ ys cl ag[k].x ag[k].d _ ⟨nN.aF.ext X,λs hs=>(nN.ts s hs).ext X⟩ (bb.ext X) hlen xF awJ).mono ?_;rintro e aN⟨cE,cZ,c2,awK,rfl,cm,gj,jV,bz⟩;have Gr:=cm.neq;have fT:=I jV;have cF:=bz.aB pR;change Hid _ at cm gj bz;obtain⟨_,_,_,_,_,_,_,_⟩:aN.cell? (wr,0)=some ↑ag[k].x.k/\aN.cell? (wr,1)=some ↑ag[k].x.id.b/\aN.cell? (wr,2)=some ↑(ad ag[k].x.id.l)/\aN.cell? (wr,3)=some ↑(ad ag[k].x.id.s)/\aN.cell? (wr,4)=some ↑ag[k].x.c/\aN.cell? (wr,5)=some ↑(ad ag[k].x.u)/\aN.cell? (wr,6)=some ↑ag[k].x.f/\aN.cell? (wr,7)=some ↑ag[k].x.e:=⟨aI cF rfl,aI cF rfl,aI cF rfl,aI cF rfl,aI cF rfl,aI cF rfl,aI cF rfl,aI cF rfl⟩;clear cF;have F6:Hid ((w:Nat)<=(wr.alloc ag[k].x).heap.size):=Z.size X;by_cases bf:cZ=0
   ·have wh:pa (ys.map ck.d) cl ag[k].d= []:=by
     have ae:=eP List.length jV;rw[cr]at ae;exact xj J
    have CG:=awF (n:=k) (l:=b.st.ag.drop (k+1)) wh;rw[UO.out]at CG;change Hid _ at CG;clear jV Gr wh;subst bf;by_cases nR:ag[k].x.k=1
    ·go_wp2_with fail;go_roundg (gk - 1);case measure=>omega
     case rel=>exact⟨k+1,aw,m,aQ,ys,J,J,by go_num,rfl,nN.ext X,ait,by rw[hS.out,<-ku.out];exact CG.symm,X⟩
    ·go_wp2_with fail;refine(acT aw m aQ ys ag[k].x ag[k].d _ (nN.ext X) (bb.ext X) eH hlen wG).mono ?_;rintro e _⟨a3,gF,da,hO,rfl,EW,L1,c9⟩;change Hid _ at EW L1 c9;go_wp2_with fail;go_roundg (gk - 1);case measure=>omega
     case rel=>exact⟨k+1,a3,gF,da,hO,J,J,by go_num,rfl,EW,by rw[hS.out,L1.out,ku.out];unfold tZ;rw[if_neg (by rw[<-oK.out];exact nR)];exact rfl,by rw[hS.out,<-ku.out];exact CG.symm,X⟩
   ·have wh:pa (ys.map ck.d) cl ag[k].d≠ []:=λe=>by
     have ae:=eP List.length jV;rw[cr,e,nW]at ae;omega
    have tD:=awG (n:=k) (l:=b.st.ag.drop (k+1)) wh;rw[UO.out]at tD;have g0:(0:Int)<(cZ:Int):=J;change Hid _ at tD;clear jV Gr wh bf;go_wp2;try rw[nJ]
    refine bodyPost_ret (v:=.tuple #[aq cE cZ c2,bh ((k:Int)+1),ar]) (by simp[results,results62,go_sem]) rfl ?_;refine⟨cE,cZ,c2,awK,?_,cm.mono F6,λy hy=>(gj y hy).mono F6,?_,X⟩
    ·rw[tD.out];congr 1
    ·rw[tD.out];exact fT
  ·have b9:k=ag.length:=J;have aD:b.st.ag.drop k= []:=MU (by have:=qJ.out;omega);have L3:=aji.out;rw[aD,awH]at L3;subst b9;clear aD;go_wp2;refine bodyPost_ret (v:=.tuple #[aH,(ag.length:Int),ar]) (by simp[results,results62,go_sem]) rfl ?_;refine⟨none,0,0,[],by rw[<-L3],Own.nil _ _ _ eJ.bH,(λy hy=>by cases hy),by rw[<-L3];rfl,U⟩
def fl.PY{P:Program}{k:TypeId}{b s:Nat}(h:fl w P k b n s f):fl w P k b s s f:=by
 obtain⟨D,⟨aS,clock,aa,F,hs,rfl⟩,rfl,rfl⟩:=h;exact⟨_,⟨aS,clock,aa,F,by simp[Maps.size,length_sorted],rfl⟩,rfl,rfl⟩
def Aj.put{kY s gE s':Nat}{e5:List Nat}{e8:Nat->Option dC}{fr:Nat}{x:ky}{m:dC}(ak:e5.Nodup/\∀k,k∈e5->k<1000)(aM:s=e5.length)(cb:∀k:Nat,k<1000000->match e8 k with|none=>k∉e5/\f (.int .i64 k)=none|some m=>k∈e5/\∃x:ky,f (.int .i64 k)=some (.agg #[x.k,ad x.h,x.v,x.q,x.e,x.p,x.b,x.d])/\dq M w (λw=>tu w x m))(x8:fr<1000)(hF:fl w' prog 3 kY gE s' (vY f (.int .i64 fr) (some (.agg #[x.k,ad x.h,x.v,x.q,x.e,x.p,x.b,x.d]))))(hs:s'=if (f (.int .i64 fr)).isSome=true then s else s+1)(al:aG (·=kY) w w')(fy:M kY)(U:dq M w (λw=>tu w x m)):
  Aj w' M kY (λk=>if k=fr then some m else e8 k):=by
 have aO:∀P,dq M w P->dq M w' P:=λP k=>k.step (al.cN fy) (b4.eG _ _);have di:∀k:Nat,k≠fr->(Lit.int .i64 (k:Int))≠.int .i64 (fr:Int):=λk hk e=>hk (by injection e with _ e;exact PZ e);have GZ:=cb fr J;by_cases yH:fr∈e5
 ·have h1:(f (.int .i64 fr)).isSome=true:=by
   cases ax:e8 fr with
   |none=>rw[ax]at GZ;exact absurd yH GZ.1
   |some m=>rw[ax]at GZ;obtain⟨_,x,h,_⟩:=GZ;rw[h];rfl
  rw[bm h1]at hs;refine⟨s',s',_,e5,hF.PY,ak,by rw[hs,aM],rfl,λk hk=>?_⟩;by_cases lF:k=fr
  ·dsimp only;rw[bm lF];refine⟨by rw[lF];exact yH,x,by rw[lF,EE],aO _ U⟩
  ·dsimp only;rw[bj lF];have:=cb k hk;cases ax:e8 k with
   |none=>rw[ax]at this;exact⟨this.1,by rw[yc (di k lF)];exact this.2⟩
   |some m=>rw[ax]at this;obtain⟨ae,x,bn,ey⟩:=this;exact⟨ae,x,by rw[yc (di k lF)];exact bn,aO _ ey⟩
 ·have PH:(f (.int .i64 fr)).isSome=false:=by
   cases ax:e8 fr with
   |none=>rw[ax]at GZ;rw[GZ.2];rfl
   |some m=>rw[ax]at GZ;exact absurd GZ.1 yH
  rw[bj (by rw[PH];decide)]at hs;refine⟨s',s',_,fr::e5,hF.PY,⟨Gf.2 ⟨yH,ak.1⟩,λk hk=>(nK.1 hk).elim (λe=>e▸x8) (ak.2 k)⟩,by rw[hs,aM];rfl,rfl,λk hk=>?_⟩;by_cases lF:k=fr
  ·dsimp only;rw[bm lF];exact⟨by rw[lF];exact kh,x,by rw[lF,EE],aO _ U⟩
  ·dsimp only;rw[bj lF];have:=cb k hk;cases ax:e8 k with
   |none=>rw[ax]at this;exact⟨λe=>(nK.1 e).elim lF this.1,by rw[yc (di k lF)];exact this.2⟩
   |some m=>rw[ax]at this;obtain⟨ae,x,bn,ey⟩:=this;exact⟨kA _ ae,x,by rw[yc (di k lF)];exact bn,aO _ ey⟩
def awL{e5:List Nat}(ak:e5.Nodup/\∀k,k∈e5->k<1000):e5.length<=1000:=by
 have:=PI e5 (List.range 1000) ak.1 (λx U=>qI.2 (ak.2 x U))
 rwa [IY]at this
def dU.ii{b:az}{e8:Nat->Option dC}(h:dU w M D O c p q b v)(al:aG (·=v.kY) w w')(a6:Aj w' M v.kY e8):dU w' M D O c p q {b with e8:=e8} v/\ig w M D O w' M D O:=by
 obtain⟨L,ae,ak,aM⟩:=h.dk;have a8:∀x,x=v.kY->M x:=λx e=>e▸h.sub _ h.bI.2.1;have aO:∀P,dq M w P->dq M w' P:=λP k=>k.step (al.sub a8) (b4.eG _ _);refine⟨⟨(al.block _ (bT h.box) (show ¬p=v.kY from h.gQ.1)).trans h.box,(aO _ h.lR).mono (λw k=>⟨k.cD,k.aj,k.st,k.tx,k.eN,k.cW⟩),⟨L,ae.step al a8 (λx U e=>?_) (b4.eG _ _) (λx k=>gw (ae.cx x k) al.size),ak,aM⟩,a6,h.yf.aB (al.block _ h.yf.lt (show ¬v.tm=v.kY from λe=>h.gQ.2.2 e.symm)),h.bI,h.sub,h.gK,h.gQ⟩,⟨al.cN (.inr h.bI.2.1),b4.eG _ _,b4.eG _ _,b4.eG _ _,λ_ k=>.inl k⟩⟩;have e:x=v.kY:=e;subst e;exact U.elim (λk=>h.gK _ k h.bI.2.1) aM.2.1
def awM(c:bt)(b:az)(fr:Nat):decide ((fr:Int)∈(b.cc c).map Int.ofNat)=b.On c fr:=by
 unfold az.On;rw[vt,jQ,List.contains_iff_mem,kN];constructor
 ·rintro ⟨k,hk,e⟩;have:k=fr:=PZ e;exact this▸hk
 ·exact λh=>⟨fr,h,rfl⟩
def xY.ok{m:dC}(h:xY (rk l) gY m):ue m:=⟨h.h,h.oG,h.vs,⟨h.c3.1,λd aD=>(h.c3.2 d aD).1.ok⟩,⟨h.aS.1,λd aD=>(h.aS.2 d aD).ok⟩,⟨h.ps.1,λd aD=>(h.ps.2 d aD).ok⟩,h.ay,h.aX⟩
def awN{b:az}(h:gz c l R n b){fr:Nat}{m:dC}(hm:xY (rk l) gY m):gz c l R n {b with e8:=λk=>if k=fr then some m else b.e8 k}:=
 ⟨h.b6,h.ez,λt a6=>(h.tx t a6).mn rfl rfl (bA _),h.rP,h.tk,λk uW hk=>by
  dsimp only at hk;split at hk
  ·cases hk;exact hm
  ·exact h.e8 k uW hk,h.x0,h.cW,h.eN,h.bl⟩
def pw.cx{c:Nat}{aX:List bg}(h:pw w base a n c aX)(fy:∀b,M b->b<base):∃ps,ps.map (·.d)=aX/\dq M w (λw=>ja w a n c ps):=by
 obtain⟨ps,ae,ak⟩:=h;exact⟨ps,ak,ae.cx fy⟩
def sM.UP{x:ky}{m:dC}(h:sM w base x m)(fy:∀b,M b->b<base):∃aS ps,aS.map (·.d)=m.aS/\ps.map (·.d)=m.ps/\dq M w (λw=>ci w x m aS ps):=by
 obtain⟨aS,bS,bE⟩:=h.e.cx fy;obtain⟨ps,kf,mT⟩:=h.p.cx fy;exact⟨aS,ps,bS,kf,((bE.and mT).and ((h.b.cx fy).and (h.d.cx fy))).mono (λw k=>⟨h.h,k.1.1,k.1.2,k.2.1,k.2.2⟩)⟩
def Own.pE{α:Type}{sz:Nat}{c:α->List Value}{aw:bk}{cap:Nat}{ys:List α}(h:Own w base e sz c aw n cap ys):∃d,yb (aq aw n cap)=some d:=by
 rcases h.row.2 with ⟨bo,_⟩|⟨g,aQ,cur,bo,_⟩;exact ajj;exact ajj
def pw.pE{c:Nat}{aX:List bg}(h:pw w base a n c aX):∃d,yb (aq a n c)=some d:=let ⟨_,ae,_⟩:=h;ae.cg.pE
def sM.pE{x:ky}{m:dC}(h:sM w base x m):∃y,qp (.agg #[x.k,ad x.h,x.v,x.q,x.e,x.p,x.b,x.d])=some y:=by
 obtain⟨jX,ae⟩:=h.v.pE;obtain⟨ij,ak⟩:=h.q.pE;obtain⟨d3,aM⟩:=h.e.pE;obtain⟨d4,bn⟩:=h.p.pE;obtain⟨d5,cb⟩:=h.b.pE;obtain⟨d6,ey⟩:=h.d.pE;exact⟨(.agg (.agg []:: [.lit (.int .i64 x.k),.lit (.int .u64 x.h),jX,ij,d3,d4,d5,d6]),[]),by simp[qp,ae,ak,aM,bn,cb,ey,show yb (.int .i64 x.k)=some (.lit (.int .i64 x.k))from rfl,show yb (.int .u64 x.h)=some (.lit (.int .u64 x.h))from rfl]⟩
def awO{b:az}(H:dU w M D O c p q b v)(b8:gz c l R n b)(cn:ka c)(hm:b.b6<c.ps.length)(x4:∀i,i∈R->dx i)(BE:R.length<=1000000)(fr:Nat)(x8:fr<1000)(Jc:bk)(Jd E6:Nat)(m:dC)(av:a1 w 1 cp Jc Jd E6 (ui m))(dA:xY (rk l) gY m)(w2:m.k=2->∀i,i∈m.ay->i∈R)(GR:b.Eb c fr=true->m.k=2->m.h<=1000000\/m.aS= []):
  aR 90 #[p,(fr:Int),aq Jc Jd E6] w (λe w'=>∃z:Int,yg c p q w M D O z (b.A8 c fr m) e w'):=by
 have j3:Hid (∀j,j∈b.bl->dx j):=λj aJ=>x4 j (b8.bl.2 j aJ);have gp:=I H.box;have ho:=I H.cx;have pv:=I H.dQ.cD;obtain⟨rs,fV⟩:∃rs,b.A8 c fr m=rs:=⟨_,rfl⟩;rw[fV];unfold az.A8 at fV;have Ej:=awM c b fr;replace H:=I H;replace b8:=I b8;replace cn:=I cn;replace x4:=I x4;replace BE:=I BE;replace av:=I av;replace dA:=I dA;replace w2:=I w2;replace GR:=I GR;replace fV:=I fV;obtain⟨P0,P1⟩:∃P0,b.On c fr=P0:=⟨_,rfl⟩;obtain⟨ip,io⟩:∃ip,b.Eb c fr=ip:=⟨_,rfl⟩;have awP:=I io;have gd:=fV.out;rw[P1,io]at gd;rw[P1]at Ej;rw[io]at GR;replace fV:=I gd;clear gd P1;go_enter func90,ntmps90;go_wp2_with fail;refine(ZO (H.ext X) cn.rQ hm).mono ?_;rintro e _⟨_,_,_,rfl,sQ,cm⟩;replace cm:=I cm;have dn:=I sQ.aF;clear sQ;go_wp2_with fail;refine(acP _ _ _ _ (fr:Int) _ (dn.ext X)).mono ?_;rintro e aN⟨rfl,gj⟩;have bz:Hid (Z w aN):=X;rw[Ej];replace gj:=I gj;clear Ej;have Cm:=fV;go_upto_region 4 with (fail);go_cut [8] (λu fD=>u=.bool ip/\Hid (Z aN fD));case first=>
  obtain⟨UQ,R7⟩:∃UQ,b.h5=UQ:=⟨_,rfl⟩;have UR:=R7;have is:=bz.aB gp;have q1:=fo.cell (w:=aN) (a:=(p,0)) (v:=.int .i64 (b.b6:Int)) (aI is rfl);have dP:=fo.cell (w:=aN) (a:=(p,1)) (v:=.slice v.cD.a v.cD.n v.cD.c) (aI is rfl);have z8:=pv.neq;obtain⟨fC,awQ,qq,fW⟩:=pv.get b.b6 hm;have US:=bz.ah (fW 0 c.ps[b.b6] rfl);rw[jT]at US;have fp:=fo.cell (w:=aN) (a:=(fC,(awQ+b.b6+0))) (v:=.int .i64 c.ps[b.b6]) US;simp only[uY]at fp;rw[qq]at dP;have b0:(0:Int)<=(b.b6:Int):=J;have bd:(b.b6:Int)<(v.cD.n:Int):=J;have UT:ip=(!UQ&&decide ((fr:Int)=c.ps[b.b6])):=by
   rw[<-awP.out];unfold az.Eb;rw[R7,xO,fz hm];simp[eq_comm]
  replace UR:=I UR;replace UT:=I UT;clear R7 z8 fW US is qq;cases UQ with
  |true=>
   refine ajk ?_;refine Is ?_;intro cY gH;go_wp2_with fail;go_meet;exact⟨by rw[UT.out];rfl,gH⟩
  |false=>
   refine ajk ?_;refine Is ?_;intro cY gH;go_wp2_with fail;go_meet;refine⟨?_,gH⟩;rw[UT.out];simp;rw[vt,beq_iff_eq,jQ]
 case rest=>
  obtain⟨rfl,_⟩:=hcut;by_cases eO:P0=false/\ip=false
  ·obtain⟨rfl,rfl⟩:=eO;have gd:=fV.out;rw[bj (by simp),bj (by simp)]at gd;subst gd;go_wp2;go_ret;exact⟨201,M,D,O,rfl,⟨v,H.ext X⟩,.of X⟩
  ·have UU:Hid (∀w',Z w w'->aR 157 #[aq Jc Jd E6] w' (TR m w')):=λw' U=>aum Jc Jd E6 m w' (av.ext U) dA.ok;rcases dA.oG with ⟨hi,_⟩|⟨hi,_⟩
   ·cases P0 with
    |false=>
     cases ip with
     |false=>exact absurd ⟨rfl,rfl⟩ eO
     |true=>
      clear eO;go_wp2_with fail;refine(UU _ X).mono ?_;rintro e aY⟨⟨hL,rE,mW,l0,mr,sg,sh,si⟩,rfl,we,c9⟩;have L4:hL=1:=we.k.trans hi;exact ajl
    |true=>
     cases ip with
     |false=>
      exact ajm
     |true=>
      exact ajm
   ·cases P0 with
    |false=>
     cases ip with
     |false=>exact absurd ⟨rfl,rfl⟩ eO
     |true=>
      exact ajn
    |true=>
     cases ip with
     |false=>
      clear eO;go_wp2_with fail;refine(UU _ X).mono ?_;rintro e aY⟨⟨hL,rE,mW,l0,mr,sg,sh,si⟩,rfl,we,c9⟩;have L4:hL=2:=we.k.trans hi;exact ajl
     |true=>
      exact ajn
def awR{b:az}(H:dU w M D O c p q b v)(b8:gz c l R n b)(cl:Int)(u:Nat)(fA:bk)(fn fB:Nat)(jM:List T)(ef:a1 w 5 T.cs fA fn fB jM)(A6:jM.length<=100)(b5:b.xU c cl=true)(gV:b.ev<=1000000)(bb:dx b.gX)(LD:0<=cl/\cl<32)(c5:mY jM=true->hP (⟨2,b.gX,cl,(u:Int),jM,[]⟩:bg)):
  aR 50 #[p,cl,ad (u:Int),aq fA fn fB] w (PT c p q w M D O (uy (b.sub cl u jM).1 b.gX) (b.sub cl u jM)):=by
 obtain⟨r,cR⟩:∃r,D9 (mY jM) b.tx ⟨(⟨2,b.gX,cl,(u:Int),jM,[]⟩:bg),true⟩=r:=⟨_,rfl⟩;have E3:b.sub cl u jM=b.qk r:=by rw[<-cR];rfl
 have E4:(b.sub cl u jM).1=r.1:=by rw[E3];unfold az.qk;split<;>simp_all
 rw[E3]at E4 ⊢;rw[E4];unfold PT;rw[E4];change Hid _ at cR;have pR:=I (show(((((w.alloc (.cells #[p] 103)).alloc (.cells #[cl] 3)).alloc (.cells #[ad (u:Int)] 41)).alloc (.cells #[aq fA fn fB] 36)).alloc kR).heap[(w:Nat)]?=some (.cells #[p] 103)from hT);have gt:=I (show(((((w.alloc (.cells #[p] 103)).alloc (.cells #[cl] 3)).alloc (.cells #[ad (u:Int)] 41)).alloc (.cells #[aq fA fn fB] 36)).alloc kR).heap[(w:Nat)+1]?=some (.cells #[cl] 3)from hT);have it:=I (show(((((w.alloc (.cells #[p] 103)).alloc (.cells #[cl] 3)).alloc (.cells #[ad (u:Int)] 41)).alloc (.cells #[aq fA fn fB] 36)).alloc kR).heap[(w:Nat)+1+1]?=some (.cells #[ad (u:Int)] 41)from hT);have awS:=I (show(((((w.alloc (.cells #[p] 103)).alloc (.cells #[cl] 3)).alloc (.cells #[ad (u:Int)] 41)).alloc (.cells #[aq fA fn fB] 36)).alloc kR).heap[(w:Nat)+1+1+1]?=some (.cells #[aq fA fn fB] 36)from hT);change Hid _ at H b8 c5 ef bb;clear E3;go_enter func50,ntmps50;have fS:(w.heap.size+1+1+1+1)<(((((w.alloc (.cells #[p] 103)).alloc (.cells #[cl] 3)).alloc (.cells #[ad (u:Int)] 41)).alloc (.cells #[aq fA fn fB] 36)).alloc kR).heap.size:=by simp
 obtain⟨Jb,hp⟩:=H.cell (w1:=(((((w.alloc (.cells #[p] 103)).alloc (.cells #[cl] 3)).alloc (.cells #[ad (u:Int)] 41)).alloc (.cells #[aq fA fn fB] 36)).alloc kR)) (R:=(w.heap.size+1+1+1+1)) X J fS;have L0:=I (show(((((w.alloc (.cells #[p] 103)).alloc (.cells #[cl] 3)).alloc (.cells #[ad (u:Int)] 41)).alloc (.cells #[aq fA fn fB] 36)).alloc kR).heap[(w.heap.size+1+1+1+1)]?=some (kR:Obj)from hT);go_wp2_with fail;refine(ai4 Jb cl b5 gV 83 #[.pointer (some ⟨w.heap.size,0,none⟩),.pointer (some ⟨w.heap.size+1,0,none⟩),.pointer (some ⟨w.heap.size+1+1,0,none⟩),.pointer (some ⟨w.heap.size+1+1+1,0,none⟩)] r (λ_ _=>by kernel_rfl) (λw' U=>cR.out▸awv (Jb.ext U) b8 b.gX cl u fA fn fB jM w.heap.size (w.heap.size+1) (w.heap.size+1+1) (w.heap.size+1+1+1) (U.aB pR) (U.aB gt) (U.aB it) (U.aB awS) (ef.ext (Z.trans X U)) A6 bb LD c5)).mono ?_;rintro e cG⟨_,ib,nF,rfl,⟨v9,jB⟩,mV⟩;have Em:¬oE D O (w.heap.size+1+1+1+1):=λk=>k.elim (λz=>by have:=H.cx _ (H.sP _ z);omega) (λz=>by have:=H.cx _ (H.sub _ z);omega);have DX:=(mV.dT.block _ fS Em).trans L0;change Hid _ at jB mV Em;clear Jb hp;refine ajc ?_;intro dN PX z0 cU z2 mx hF;have gI:=zK (S:=(·=(w.heap.size+1+1+1+1))) (aG.refl _ cG) (R:=(w.heap.size+1+1+1+1)) (.inl rfl) 0 1 2 dN.b (ad dN.l) (ad dN.s);obtain⟨M',zr,w9⟩:=H.ajb (w1:=(((((w.alloc (.cells #[p] 103)).alloc (.cells #[cl] 3)).alloc (.cells #[ad (u:Int)] 41)).alloc (.cells #[aq fA fn fB] 36)).alloc kR)) (R:=(w.heap.size+1+1+1+1)) X J fS jB mV gI;change Hid _ at zr w9;clear gI DX;go_wp2_with fail;obtain⟨cF,cP,cQ⟩:=iE hF;refine bodyPost_ret (v:=.tuple #[dN,r.1]) (by simp[results,results50,go_sem,cF,cP,cQ,E4]) rfl ?_;exact ajd
section
open Go.RowKit Go.Shelf
attribute [local go_sem] Oper.semAt_some
structure Je (bl:List aA) (left:Lit->Bool) (eg:List aA):Prop where
 qs:eg.Nodup
 sub:∀x,x∈eg->x∈bl
 mem:∀x,x∈bl->(x∈eg↔left (j2 x)=false)
def Je.i0{left:Lit->Bool}(h:∀x,x∈bl->left (j2 x)=true):Je bl left []:=⟨xX,λx k=>(by cases k),λx U=>⟨λk=>(by cases k),λk=>by rw[h x U]at k;cases k⟩⟩
def awT{j:aA}(aO:dx i)(aJ:dx j):(j2 i).sameKey (j2 j)=decide (i=j):=by
 by_cases h:i=j
 ·subst h;simp[j2,Lit.sameKey]
 ·have:j2 i≠j2 j:=λe=>h (ZV aO aJ e);unfold j2 at this ⊢;simp only[Lit.sameKey];rw[lo h];simpa using this
def Je.step{left:Lit->Bool}{eg:List aA}{x:aA}(h:Je bl left eg)(a6:∀j,j∈bl->dx j)(U:x∈bl)(aT:left (j2 x)=true):Je bl (λz=>left z&& !z.sameKey (j2 x)) (eg++[x]):=by
 have an:x∉eg:=λhm=>by rw[(h.mem x U).1 hm]at aT;cases aT
 refine⟨Ov h.qs an,λy hy=>?_,λy hy=>?_⟩
 ·rcases iR.1 hy with k|k
  ·exact h.sub y k
  ·rw[iH.1 k];exact U
 ·rw[iR,iH,h.mem y hy];rw[awT (a6 y hy) (a6 x U)];by_cases e:y=x
  ·simp[e]
  ·simp[e]
def awU(F:Fence)(n:Nat)(E7:F.fn 308)(sA:F.round=none)(an:1<=n)(l pY b jj:Nat)(D0:DataW Unit)(bl:List aA)(a6:∀j,j∈bl->dx j)(wG:Maps.size D0=bl.length)(nR:∀x,x∈bl->Maps.has D0 (j2 x)=true)(k3:∀dI,Maps.has D0 dI=true->∃i,i∈bl/\dI=j2 i)(l9 D6:List aA->aC->Prop)(rL:∀cC x W,l9 cC W->cC.length<bl.length->YieldAt F (n - 1) prog l #[.agg #[x.b,ad x.l,ad x.s]] W λe W'=>
   (e=.returned (.bool true)/\l9 (cC++[x]) W'/\KeepsWalks W W')\/(e=.returned (.bool false)/\D6 (cC++[x]) W'))(W:aC)(zX:AbidesFrom W l9)(hm:W.cell? (pY,0)=some (.map (some b)))(aE:W.ownsMap prog 54 qp b jj D0)(aW:l9 [] W):
  CallsIn F n prog 308 #[.func (.yield l) #[] #[],pY] W λe W'=>(∃v,e=.returned v)/\((∃eg:List aA,(eg.Nodup/\∀x,x∈eg↔x∈bl)/\l9 eg W')\/(∃cC:List aA,True/\D6 cC W')):=by
 refine callsIn_of_wp func308 rfl E7 ?_ sA;simp only[ntmps308,KJ,mv,nW,Nat.reduceAdd,Nat.reduceSub,KK,KL,KM,KN,lq,FW]
 gi_wp2_with (first
  |(gi_at_range;refine wpListIn_range_own _ rfl _ 158 rfl 54 3 ER underlying158 _ b jj _ rfl aE ?_;intro bs awV Gk _)
  |gi_in)
 go_frame
 gi_loopw [3] (λ_ wr=>∃(left:Lit->Bool) (cnt:Nat) (eg:List aA),wr.ranges prog 54 qp b W jj D0 left cnt/\eg.length+cnt<=bl.length/\Je bl left eg/\l9 eg wr)
  (λ_ wr=>wr.rangeLeft b (W:Nat))
 case atStart=>
  exact⟨_,_,[],awV,by simp[wG],Je.i0 nR,zX [] W bs none aW Gk (λr e=>by cases e)⟩
 case round=>
  obtain⟨_,_,eg,i2,_,hC,KO⟩:=hrel
  gi_wp2_with (first
   |(gi_at_next;refine wpListIn_next_ranges _ rfl _ rfl 54 ER qp (id:Value->Value) (id:Value->Value) (λkey dI hk=>⟨key,rfl⟩) (λv _ _=>⟨v,rfl⟩) b W jj _ _ _ rfl i2 ?_ ?_)
   |gi_in)
  ·intro _ OX;gi_wp2;go_end0;exact⟨⟨_,rfl⟩,.inl ⟨eg,⟨hC.qs,λx=>⟨hC.sub x,λU=>(hC.mem x U).2 (OX _)⟩⟩,KO⟩⟩
  ·intro x c dI _ _ aN awW uj Tg _ jR awX fM awY s9 _;obtain⟨i,ajo,P1⟩:=k3 dI (Maps.has_true_of_atKey jR);subst P1;have GN:=a6 i ajo;have pr:x=.agg #[i.b,ad i.l,ad i.s]:=ER.inj uj (GG GN);subst pr;have awZ:l9 eg aN:=zX eg wr aN (some (W:Nat)) KO awY (λr e=>by cases e;exact⟨bA _,i2.iter_walk⟩);have oJ:aN.grownBy (aN.alloc i) none:=World.grownBy_alloc _ _ _;have H9:l9 eg (aN.alloc i):=zX eg aN _ none awZ oJ (λr e=>by cases e);have aw0:=awX.alloc i;obtain⟨_,tmps,_,_,hy,bC⟩:=rL eg i _ H9 J;clear s9;gi_wp2;refine bC.mono ?_;rintro e _ (⟨rfl,aw1,HD⟩|⟨rfl,Ym⟩)
   ·gi_wp2;have ajp:=aw0.of_walks HD;go_roundw;case rel=>exact⟨_,awW,eg++[i],ajp,by simp;omega,hC.step a6 ajo Tg,aw1⟩
    case measure=>rw[ajp.left_eq,i2.left_eq];exact fM
   ·gi_wp2;refine bodyPost_ret (results_none rfl _ _ _) rfl ?_;exact⟨⟨_,rfl⟩,.inr ⟨eg++[i],trivial,Ym⟩⟩
def aw2(F:Fence)(n:Nat)(E7:F.fn 308)(sA:F.round=none)(an:1<=n)(pY b jj:Nat)(D0:DataW Unit)(bl:List aA)(a6:∀j,j∈bl->dx j)(wG:Maps.size D0=bl.length)(nR:∀x,x∈bl->Maps.has D0 (j2 x)=true)(k3:∀dI,Maps.has D0 dI=true->∃i,i∈bl/\dI=j2 i)(w:aC)(P2:pY<(w:Nat))(hm:w.cell? (pY,0)=some (.map (some b)))(aE:w.ownsMap prog 54 qp b jj D0):
  SeqStops F n prog 308 #[pY] (λi:aA=>.agg #[i.b,ad i.l,ad i.s]) (λeg=>eg.Nodup/\∀x,x∈eg↔x∈bl) (λ_=>True) bl.length w:=λl l9 D6 W fa zX _ rL aW=>by
 have o6:W.ownsMap prog 54 qp b jj D0:=by
  have jZ:=aE.lt;obtain⟨aS,clock,aa,aw3,hs,jw⟩:=aE;exact⟨aS,clock,(fa.block b jZ).trans aa,aw3,hs,jw⟩
 exact awU F n E7 sA an l pY b jj D0 bl a6 wG nR k3 l9 D6 rL W zX ((fa.cell (p:=(pY,0)) P2).trans hm) o6 aW
def aw4{v:Value}{eg:List aA}(h:w.ownsRow base 54 3 v eg.length (eg.flatMap aA.cs)):∃aw cap,v=.slice aw eg.length cap/\Own w base 54 3 aA.cs aw eg.length cap eg:=by
 have sV:=h;rcases h.2 with ⟨rfl,aW⟩|⟨g,cap,cur,rfl,_⟩
 ·rw[aW]at sV ⊢;exact⟨none,0,rfl,sV,aW.symm,aA.bH⟩
 ·exact⟨_,cap,rfl,sV,rfl,aA.bH⟩
def ajq(bl:List aA)(w:World)(e:Ending)(w':World):Prop:=
 ∃aw n cap eg,e=.returned (.slice aw n cap)/\Own w' w.heap.size 54 3 aA.cs aw n cap eg/\(eg.Nodup/\∀x,x∈eg↔x∈bl)/\Below w.heap.size w w'
def aw5(pY b jj:Nat)(D0:DataW Unit)(bl:List aA)(a6:∀j,j∈bl->dx j)(wG:Maps.size D0=bl.length)(nR:∀x,x∈bl->Maps.has D0 (j2 x)=true)(k3:∀dI,Maps.has D0 dI=true->∃i,i∈bl/\dI=j2 i)(w:aC)(hm:w.cell? (pY,0)=some (.map (some b)))(aE:w.ownsMap prog 54 qp b jj D0)(hs:bl.length<=1000000):
  aR 330 #[aH,(.func (.func 308) #[] #[pY])] w (ajq bl w):=by
 obtain⟨ca,aO,gg,ft,pc⟩:=info_parts zE;have P2:=Dl hm;refine(callsIn_wide (n:=3)).1 ?_;have sA:Fence.wide.round=none:=rfl;refine callsIn_of_wp_marks func330 rfl trivial ?_ sA;simp only[ntmps330,KJ,mv,nW,Nat.reduceAdd,Nat.reduceSub,KK,KL,KM,KN,lq,FW];gi_wp2;have DP:=Boxed.new w 31 aH;have Ey:Below w w (w.alloc (.cells #[aH] 31)):=(Below.refl _ w).alloc (bA _) _;have DI:(w.alloc (.cells #[aH] 31)).cell? (pY,0)=some (.map (some b)):=(Ey.cell (p:=(pY,0)) P2).trans hm
 refine wpIn_rangeFunc_ownH sA af (gf:=308) (lb:=#[pY]) rfl trivial (enters_of func308 bV rfl)
  (aw2 Fence.wide 2 trivial sA af pY b jj D0 bl a6 wG nR k3 _ (by simp;omega) DI (aE.alloc _)) walksK_t walksK_b (Below.refl _ _) (λ_=>rfl)
  (fun(cC:List aA) W=>(∃v,Boxed W w 31 v/\W.ownsRow w 54 3 v cC.length (cC.flatMap aA.cs)/\True)/\Below w w W)
  (λ_ _ _=>False)
  (OwnFrom.and (Own.from (holdsRow_own w w 31 54 3 (λcC:List aA=>cC.length) (λcC:List aA=>cC.flatMap aA.cs) (fun(_:List aA) _=>True)) _) (ownFrom_below (bA _) (by simp)))
  (λ_ _ _ _ _ hs _ _=>hs)
  ⟨⟨_,DP,World.ownsRow_nil _ _ _ _,trivial⟩,Ey⟩
  (λx hU W=>∃B,hU={tmps:=#[.slice none 0 0,(.func (.func 308) #[] #[.pointer (some ⟨pY,0,none⟩)]),.pointer (some ⟨w.heap.size,0,none⟩),undef,.slice none 0 0,.pointer (some ⟨B,0,none⟩),(.func (.func 308) #[] #[.pointer (some ⟨pY,0,none⟩)]),.agg #[x.b,ad x.l,ad x.s],undef,undef,undef,undef,undef],defers:= []}/\W.heap[B]?=some (x:Obj))
  (λx hU _ W W' row ⟨B,e,aa⟩ bu ax=>⟨B,e,(bu.block B (bT aa) (λk=>by obtain⟨_,o,aK,ao⟩:=ax B k.symm;rw[aa]at aK;cases aK;cases ao)).trans aa⟩) ?assign ?body ?done ?stop
 case assign=>
  rintro l cC x W K⟨⟨v,bo,pL,_⟩,br⟩ aL;gi_wp2;refine aL _ _ (KeepsFrom.of_grownBy (World.grownBy_alloc W _ none) (λj e=>by cases e)) ?_ ⟨⟨v,bo.alloc _,pL.alloc _,trivial⟩,Below.alloc br br.size _⟩ ⟨(W:Nat),rfl,fi rfl⟩;exact KeepsWalks.alloc _ _
 case body=>
  rintro l cC x _ W _ _⟨⟨v,bo,pL,_⟩,br⟩ ⟨B,rfl,aa⟩ _;have ao:=bo.cell;obtain⟨_,_,_⟩:=iE aa;have py:∀(j:Nat) (u:Value),(aA.cs x)[j]?=some u->(W.alloc x).cell? (((W,0):Addr).add j)=some u:=λj u aJ=>by
   have h:(W.alloc x).heap[(W:Nat)]?=some (x:Obj):=fi rfl
   match j,aJ with
   |0,aJ=>cases aJ;exact aI h rfl
   |1,aJ=>cases aJ;exact aI h rfl
   |2,aJ=>cases aJ;exact aI h rfl
   |j+3,aJ=>simp[aA.cs]at aJ
  gi_wp2_with (gi_at_builtin;refine wpListIn_append_own _ rfl _ _ 31 rfl w 54 ca _ 3 24 underlying31 aO gg ft pc rfl af _ _ _ rfl (pL.alloc _) (W,0) 1 1 (aA.cs x) rfl rfl py (aA.cN x) (by simp only[maxLen];omega) J (by have:=br.size;simp;omega) ?_;intro _ _ o6 bW _;obtain⟨_,_,rfl⟩:=ownsRow_succ o6;obtain⟨D7,Yo,kn,k3,ih⟩:=bo.appended af pL br.size (bA _) o6 bW;have Yp:=D7.cell;have Yq:=D7.frozen);exact⟨k3.from _,k3.walks,⟨_,Yo,by simpa[xk]using kn,trivial⟩,br.trans ih⟩
 case done=>
  rintro D ys W jw a8⟨⟨v,bo,pL,_⟩,br⟩ aL;have ao:=bo.cell;gi_wp2;refine⟨by simp,.inl ⟨_,_,rfl,run_takeDeferred aL,?_⟩⟩;have Yr:=ownsRow_putObj pL (.deferred none) aL rfl;obtain⟨aw,cap,rfl,dO⟩:=aw4 Yr;exact⟨_,results_tmp rfl _ _ _,aw,ys.length,cap,ys,rfl,dO,a8,br.trans (belowK_b (w:=w) (bA _) W D _ _ (by simp at jw;omega) aL rfl rfl)⟩
 case stop=>
  rintro D c _ W _ _ h _;exact h.elim
end
section
open Go.Shelf
def aw6:Go.Shelf.Ren:=⟨fun|6=>307|15=>332|14=>331|28=>348|29=>349|20=>340|21=>341|22=>342|23=>343|24=>344|25=>345|26=>346|27=>347|46=>353|47=>354|48=>355|49=>356|50=>357|57=>365|n=>n,fun|22=>31|24=>54|25=>357|3=>3|39=>213|0=>0|53=>214|55=>41|4=>4|46=>394|45=>393|50=>250|5=>5|9=>9|66=>404|70=>407|76=>409|77=>410|n=>n,fun|n=>n⟩
def ajr:Go.Proofs.SlLaysF0.n6 prog aw6:={
 mixed:=bV
 f6:=⟨f307.name,af,func307.trans (eP some bV)⟩
 f14:=⟨f331.name,af,func331.trans (eP some bV)⟩
 f15:=func332.trans (eP some bV)
 f20:=⟨f340.name,af,func340.trans (eP some bV)⟩
 f21:=⟨f341.name,af,func341.trans (eP some bV)⟩
 f22:=⟨f342.name,af,func342.trans (eP some bV)⟩
 f23:=⟨f343.name,af,func343.trans (eP some bV)⟩
 f24:=⟨f344.name,af,func344.trans (eP some bV)⟩
 f25:=⟨f345.name,af,func345.trans (eP some bV)⟩
 f26:=⟨f346.name,af,func346.trans (eP some bV)⟩
 f27:=⟨f347.name,af,func347.trans (eP some bV)⟩
 f28:=func348.trans (eP some bV)
 f29:=func349.trans (eP some bV)
 f46:=⟨f353.name,af,func353.trans (eP some bV)⟩
 f47:=func354.trans (eP some bV)
 f48:=func355.trans (eP some bV)
 f49:=⟨f356.name,af,func356.trans (eP some bV)⟩
 f50:=⟨f357.name,af,func357.trans (eP some bV)⟩
 f57:=⟨f365.name,af,func365.trans (eP some bV)⟩
 t0:=underlying0
 a0:=isAgg0
 z0:=sizeOf0
 v0:=zeroValue0
 t3:=underlying3
 a3:=isAgg3
 z3:=sizeOf3
 v3:=zeroValue3
 t4:=underlying4
 a4:=isAgg4
 z4:=sizeOf4
 v4:=zeroValue4
 t5:=underlying5
 a5:=isAgg5
 z5:=sizeOf5
 v5:=zeroValue5
 t9:=underlying9
 a9:=isAgg9
 z9:=sizeOf9
 v9:=zeroValue9
 t22:=underlying31
 a22:=isAgg31
 z22:=sizeOf31
 v22:=zeroValue31
 t25:=underlying357
 a25:=isAgg357
 z25:=sizeOf357
 v25:=zeroValue357
 t39:=underlying213
 a39:=isAgg213
 z39:=sizeOf213
 v39:=zeroValue213
 t45:=underlying393
 a45:=isAgg393
 z45:=sizeOf393
 v45:=zeroValue393
 t46:=underlying394
 a46:=isAgg394
 z46:=sizeOf394
 v46:=zeroValue394
 t50:=underlying250
 a50:=isAgg250
 z50:=sizeOf250
 v50:=zeroValue250
 t53:=underlying214
 a53:=isAgg214
 z53:=sizeOf214
 v53:=zeroValue214
 t55:=underlying41
 a55:=isAgg41
 z55:=sizeOf41
 v55:=zeroValue41
 t66:=underlying404
 a66:=isAgg404
 z66:=sizeOf404
 v66:=zeroValue404
 t70:=underlying407
 a70:=isAgg407
 z70:=sizeOf407
 v70:=zeroValue407
 t76:=underlying409
 a76:=isAgg409
 z76:=sizeOf409
 v76:=zeroValue409
 t77:=underlying410
 a77:=isAgg410
 z77:=sizeOf410
 v77:=zeroValue410}
end
section
open Go.RowKit Go.Sort Go.Shelf
def uz(w w':World):Prop:=∃q os,w'=grow (w.drewN q) os
def uz.refl(w:aC):uz w w:=⟨0,#[],by rw[grow_empty];rfl⟩
def uz.alloc(h:uz w w')(o:Obj):uz w (w'.alloc o):=by
 obtain⟨q,_,rfl⟩:=h;exact⟨q,_,by rw[alloc_eq_grow,grow_grow]⟩
def uz.drew(h:uz w w'):uz w w'.drew:=by
 obtain⟨q,os,rfl⟩:=h;exact⟨q+1,os,rfl⟩
def uz.ext(h:uz w w'):Z w w':=by
 obtain⟨q,_,rfl⟩:=h;exact⟨rfl,rfl,rfl,by rw[size_grow];exact Sk _ _,λk hk=>heap_grow_old _ _ hk⟩
section
variable {α:Type} [Inhabited α]{c:α->List Value}{sz:Nat}
def ajs(hw:∀x,(c x).length=sz)(hs:0<sz){xs:List α}{t:Nat}(h:t<xs.length*sz):(xs.flatMap c)[t]?=some (flatK c sz xs.toArray)[t]! :=by
 have hk:t / sz<xs.length:=Sa (by rw[L5];exact h);have aJ:t % sz<(c xs[t / sz]).length:=by rw[hw];exact Nat.mod_lt _ hs
 have:=Rf hw xs (t / sz) _ (fz hk) (t % sz) _ (fz aJ);rw[show t / sz*sz+t % sz=t from by rw[L5];exact Nat.div_add_mod t sz]at this;rw[this,get_flatK _ _ _ _ (by simpa using h),getElem!_pos xs.toArray (t / sz) (by simpa using hk),getElem!_pos (c _) (t % sz) (by simpa using aJ)];simp
def aw7(hw:∀x,(c x).length=sz)(hs:0<sz){g:Nat}{cur:Array Value}{xs:List α}(bu:w.heap[g]?=some (.cells cur e (0,0)))(Dn:cur.toList.take (n*sz)=xs.flatMap c)(an:n=xs.length):
  HoldsK c sz w g 0 xs.toArray:=by
 intro j aJ;have yE:j<xs.length*sz:=by simpa using aJ
 refine⟨?_,?_⟩
 ·rw[om];refine aI bu ?_;have:=ajs hw hs yE;rw[<-Dn,List.getElem?_take_of_lt (by rw[an];exact yE)]at this;rw[<-Array.getElem?_toList];exact this
 ·simp only[World.frozen?,bu];simp
def aw8(hw:∀x,(c x).length=sz)(hs:0<sz){g:Nat}{cur:Array Value}{cap m:Nat}{os:Array Obj}{ys:List α}(jH:base<=g)(bu:w.heap[g]?=some (.cells cur e (0,0)))(sb:cur.size=cap*sz)(hle:n<=cap)(vw:cap<=maxLen)(an:n=ys.length):
  Own (sortWorldK c sz w g 0 m ys.toArray os) base e sz c (some (g,0)) n cap ys:=by
 have GH:=bT bu;have xK:∀l:List α,(l.flatMap c).length=l.length*sz:=λl=>by
  induction l with
  |nil=>simp
  |cons y l cI=>exact Rv
 refine⟨⟨by rw[an];exact xK ys,.inr ⟨g,cap,putCells id 0 (flatK c sz ys.toArray) cur,rfl,jH,?_,hle,vw,?_,?_⟩⟩,an,hw⟩
 ·unfold sortWorldK;rw[heap_grow_old _ _ (by rw[show(putRowK c sz (Sort.ahead w m) g 0 ys.toArray).heap.size=(Sort.ahead w m).heap.size from size_putRow _ _ _ _ _];exact GH)];unfold putRowK putRow mapBlock;show(w.heap.modify g _)[g]? =_;rw[Si,bm rfl,bu];rfl
 ·unfold putCells;rw[Array.size_mapIdx];exact sb
 ·apply K1;intro t;by_cases a6:t<n*sz
  ·have ajt:t<ys.length*sz:=by rw[<-an];exact a6
   have aw9:t<cur.size:=by rw[sb];exact gw a6 (R9 sz hle)
   rw[List.getElem?_take_of_lt a6,ajs hw hs ajt,Array.getElem?_toList];unfold putCells;rw[Array.getElem?_mapIdx,Array.getElem?_eq_getElem aw9,FL,bm ⟨hX _,by simpa using ajt⟩];rfl
  ·rw[y8 (by rw[o9];omega),y8 (by rw[xK,<-an];omega)]
def aju(w:aC)(g m:Nat)(os:Array Obj)(d:Array α):aG (·=g) w (sortWorldK c sz w g 0 m d os):=by
 refine⟨rfl,rfl,rfl,?_,λk hk di=>?_⟩
 ·unfold sortWorldK;rw[size_grow];exact eh (by rw[show(putRowK c sz (Sort.ahead w m) g 0 d).heap.size=(Sort.ahead w m).heap.size from size_putRow _ _ _ _ _];exact bA _) (Sk _ _)
 ·unfold sortWorldK;rw[heap_grow_old _ _ (by rw[show(putRowK c sz (Sort.ahead w m) g 0 d).heap.size=(Sort.ahead w m).heap.size from size_putRow _ _ _ _ _];exact hk)];unfold putRowK putRow mapBlock;show(w.heap.modify g _)[k]? =_;rw[Si,bj (λe=>di e.symm)]
end
def axa{α β:Type}(f:α->β){eg BF:List β}(h:eg.Perm BF):∀l:List α,l.map f=BF->∃l':List α,l'.Perm l/\l'.map f=eg:=by
 induction h with
 |nil=>intro l aT;exact⟨l,List.Perm.refl _,aT⟩
 |cons x _ cI=>
  intro l aT
  match l,aT with
  |a::l,aT=>
   injection aT with ae ak;obtain⟨l',aM,bn⟩:=cI l ak;exact⟨a::l',aM.cons a,by rw[tj,bn,ae]⟩
 |swap x y l=>
  intro l' aT
  match l',aT with
  |a::b::l',aT=>
   injection aT with ae ak;injection ak with ak aM;exact⟨b::a::l',List.Perm.swap a b l',by rw[tj,tj,ae,ak,aM]⟩
 |trans _ _ axb axc=>
  intro l aT;obtain⟨Tu,ae,ak⟩:=axc l aT;obtain⟨uO,aM,bn⟩:=axb Tu ak;exact⟨uO,aM.trans ae,bn⟩
def L6(a b:Fin n):Int:=nn (a.val:Int) (b.val:Int)
def Jf(a b:Fin n):ltOf (L6 (n:=n)) a b=decide (a.val<b.val):=by
 unfold ltOf L6 nn;by_cases ae:a.val<b.val
 ·simp[ae]
 ·by_cases ak:b.val<a.val
  ·simp[ae,ak]
  ·simp[ae,ak]
def axd:SWO (ltOf (L6 (n:=n))) where
 irrefl x:=by rw[Jf];simp
 trans x y z h k:=by rw[Jf]at*;simp at*;omega
 ntrans x y z h k:=by rw[Jf]at*;simp at*;omega
def axe{d:List (Fin n)}(h:d.Perm (List.finRange n)):d.mergeSort (λx y=> !(ltOf (L6 (n:=n))) y x)=List.finRange n:=by
 refine List.Perm.eq_of_pairwise (le:=λa b:Fin n=>a.val<=b.val) (λa b _ _ ae ak=>Fin.ext (Nat.le_antisymm ae ak)) ?_ ?_ ((List.mergeSort_perm _ _).trans h)
 ·refine(List.pairwise_mergeSort (λa b c ae ak=>?_) (λa b=>?_) d).imp (λ{a b} h=>?_)
  ·simp only[Jf,FK,zy]at*;omega
  ·simp only[Jf,xh,FK,zy];omega
  ·simp only[Jf,FK,zy]at h;omega
 ·exact(List.pairwise_lt_finRange n).imp (λh=>lr h)
def ajv{α:Type}(l:List α):(List.finRange l.length).map (λk=>l[k])=l:=by
 apply RK
 ·simp
 ·intro i ae _;simp
def axf(x:Int)(w:aC):aR 249 #[x] w λe w'=>e=.returned (.bool false)/\w'=w:=by
 go_enter func249,ntmps249;go_wp2;go_ret;exact⟨by simp,rfl⟩
def axg(x y:Int)(w:aC):aR 177 #[x,y] w λe w'=>e=.returned (.int .i64 (nn x y))/\w'=w:=by
 go_enter func177,ntmps177;go_wp2_with (go_at_call 249;refine(axf _ _).mono ?_;rintro e _⟨rfl,rfl⟩);all_goals (go_ret;refine⟨jC WN,rfl⟩)
def axh(p fI tm n s:Nat)(f:Lit->Option Value)(x y:aA)(i j:Int)(w:aC)(U:dx x)(hy:dx y)(aa:w.cell? (fI,0)=some ↑p)(ao:w.cell? (p,12)=some (.map (some tm)))(hF:fl w prog 54 tm n s f)(n3:f (j2 x)=some ↑i)(ajw:f (j2 y)=some ↑j):
  aR 285 #[x,y,fI] w λe w'=>e=.returned (.int .i64 (nn i j))/\uz w w':=by
 have bU:=I (GG U);have p8:=I (GG hy);have cj:Z w ((w.alloc x).alloc y):=X;have ef:=I (hF.ext cj);have bB:=I (cj.ah aa);have cn:=I (cj.ah ao);have rn:=I (show((w.alloc x).alloc y).heap[(w:Nat)]?=some (x:Obj)from hT);have wi:=I (show((w.alloc x).alloc y).heap[(w:Nat)+1]?=some (y:Obj)from hT);change Hid _ at n3 ajw;clear U hy aa ao hF cj;go_enter func285,ntmps285;go_wp2_with fail;refine sI (λw'=>uz ((w.alloc x).alloc y) w') (λa7=>?_) (by(try dsimp only);exact i4);refine Bf 0 (·.ext.ah bB) ?_;refine cX 1 ?_;refine cX 2 ?_;refine Bf 3 (·.ext.ah cn) ?_;refine lA 4 (·.ext.aB rn) ?_;refine cX 5 ?_ (hy:=λw iA=>by(try dsimp only at iA);(have dV:=(ef.ext iA.ext).ZC ER underlying158 (Uh _) (y:=_) rfl bU;rw[n3.out]at dV);exact IG);refine Bf 6 (·.ext.ah bB) ?_;refine cX 7 ?_;refine cX 8 ?_;refine Bf 9 (·.ext.ah cn) ?_;refine lA 10 (·.ext.aB wi) ?_;refine cX 11 ?_ (hy:=λw iA=>by(try dsimp only at iA);(have dV:=(ef.ext iA.ext).ZC ER underlying158 (Uh _) (y:=_) rfl p8;rw[ajw.out]at dV);exact IG);refine hE 12 λK aL=>?_;(go_simp;(go_at_call 177;refine(axg _ _ _).mono ?_;rintro e _⟨rfl,rfl⟩);(first|refine aL _ _ (by(try dsimp only);exact i4) λa7=>eY ?_|(go_wp2_with fail;refine aL _ _ (by(try dsimp only);(repeat (first|exact uz.refl _|refine uz.alloc ?_ _|refine uz.drew ?_))) λa7=>eY ?_)));refine cX 13 ?_;refine wpAnyH_done bV ?_ _;go_wp2;go_ret;refine⟨rfl,?_⟩;exact i4
end
section
open Go.RowKit Go.Sort Go.Shelf
structure E8 (w:World) (bl:List aA) (p fI tm n s:Nat) (f:Lit->Option Value):Prop where
 b:w.cell? ⟨fI,0,none⟩=some (.pointer (some ⟨p,0,none⟩))
 c:w.cell? ⟨p,12,none⟩=some (.map (some tm))
 m:fl w prog 54 tm n s f
 i:∀k (hk:k<bl.length),f (j2 bl[k])=some (.int .i64 k)
def E8.dT{S:ff}{fI s:Nat}(h:E8 w bl p fI tm n s f)(al:aG S w w')(a8:¬S fI/\¬S p/\¬S tm):E8 w' bl p fI tm n s f:=
 ⟨al.cell h.b a8.1,al.cell h.c a8.2.1,h.m.aB (al.block _ h.m.lt a8.2.2),h.i⟩
def E8.ext{fI s:Nat}(h:E8 w bl p fI tm n s f)(U:Z w w'):E8 w' bl p fI tm n s f:=⟨U.ah h.b,U.ah h.c,h.m.ext U,h.i⟩
def axi(base:Nat)(aw:bk)(n cap:Nat)(eg bl:List aA)(p fI tm n0 lN:Nat)(f:Lit->Option Value)(w:aC)(dO:Own w base 54 3 aA.cs aw n cap eg)(alv:eg.Nodup)(ym:∀x,x∈eg↔x∈bl)(r0:bl.Nodup)(a6:∀j,j∈bl->dx j)(kp:E8 w bl p fI tm n0 lN f)(fM:fI<base/\p<base/\tm<base)(hlen:bl.length<=1000000):
  aR 307 #[aq aw n cap,(.func (.func 285) #[] #[fI])] w λe w'=>e=.returned (.tuple #[])/\Own w' base 54 3 aA.cs aw n cap bl/\aG (λx=>base<=x) w w':=by
 have aV:eg.Perm bl:=(List.perm_ext_iff_of_nodup alv r0).2 ym;have Xt:=aV.length_eq;have an:=dO.neq;by_cases aW:n=0
 ·have axj:bl= []:=xj J;have PO:eg= []:=xj J;subst aW;refine(AnyF.slices_SortFunc_none ajr aw cap _ w).mono ?_;rintro e w'⟨rfl,rfl⟩;refine⟨rfl,?_,aG.refl _ _⟩;rw[axj,<-PO];exact dO
 ·obtain⟨g,cur,rfl,jH,bu,sb,hle,vw,Dn⟩:∃g cur,aw=some ⟨g,0,none⟩/\base<=g/\w.heap[g]?=some (.cells cur 54 (0,0))/\cur.size=cap*3/\n<=cap/\cap<=maxLen/\cur.toList.take (n*3)=eg.flatMap aA.cs:=by
   rcases dO.row.2 with ⟨bo,an⟩|⟨g,aQ,cur,bo,jH,AA,hle,vw,sb,Dn⟩
   ·omega
   ·simp only[Value.slice.injEq]at bo;obtain⟨rfl,_,rfl⟩:=bo;exact⟨g,cur,rfl,jH,AA,sb,hle,vw,Dn⟩
  obtain⟨d,e4,BD⟩:=axa (λk:Fin bl.length=>bl[k]) aV (List.finRange bl.length) (ajv bl)
  haveI:Inhabited (Fin bl.length):=⟨⟨0,J⟩⟩
  have Ce:d.length=n:=by rw[an,<-BD,cr]
  have xK:∀l:List (Fin bl.length),l.flatMap (λk=>aA.cs bl[k])=(l.map (λk=>bl[k])).flatMap aA.cs:=λl=>by rw[List.flatMap_map]
  have vd:∀k:Fin bl.length,(aA.cs bl[k]).length=3:=λ_=>rfl;have hH:HoldsK (λk:Fin bl.length=>aA.cs bl[k]) 3 w g 0 d.toArray:=aw7 vd af bu (by rw[Dn,xK,BD]) Ce.symm;have axk:CmpLays prog 285 #[fI] (λk:Fin bl.length=>aA.cs bl[k]) 3 L6 g 0 d.toArray.size w:=by
   intro m os rV _ x y;have al:=aju (c:=λk:Fin bl.length=>aA.cs bl[k]) (sz:=3) w g m os rV;have P3:=kp.dT al ⟨by show ¬fI=g;omega,by show ¬p=g;omega,by show ¬tm=g;omega⟩;exact axh p fI tm n0 lN f bl[x] bl[y] (x.val:Int) (y.val:Int) _ (a6 _ (c7 _)) (a6 _ (c7 _)) P3.b P3.c P3.m (P3.i x.val x.isLt) (P3.i y.val y.isLt)
  have h6:=AnyQ.slices_SortFunc_total ajr 3 isAgg54 sizeOf54 (λk:Fin bl.length=>aA.cs bl[k]) vd (λk v bo=>aA.cN bl[k] v bo) L6 axd 285 #[.pointer (some ⟨fI,0,none⟩)] g 0 cap d.toArray w (λ_ _=>by kernel_rfl) axk hH (bT bu) (by simp;omega) (λx y h k=>by
   rw[Jf]at h k;simp only[zy]at h k
   exact Fin.ext J)
  rw[show(d.toArray.size)=n from by simpa using Ce]at h6;refine h6.mono ?_;rintro e w'⟨rfl,m,os,rfl⟩;rw[show d.toArray.toList=d from rfl,axe e4];refine⟨rfl,?_,(aju w g m os _).mono (λx _ e=>(show x=g from e)▸jH)⟩;have oO:=aw8 (c:=λk:Fin bl.length=>aA.cs bl[k]) vd af (m:=m) (os:=os) (ys:=List.finRange bl.length) jH bu sb hle vw (by rw[List.length_finRange];omega);refine⟨?_,J,aA.bH⟩;have ax:=oO.row;rw[xK,ajv]at ax;exact ax
def axl(b:Nat)(w:aC):aR 284 #[.map (some b)] w λe w'=>
  e=.returned (.func (.func 308) #[] #[w])/\w'=w.alloc (.cells #[.map (some b)] 158):=by
 go_enter func284,ntmps284;go_wp2;go_ret;exact⟨rfl,rfl⟩
def axm(pY b jj:Nat)(D0:DataW Unit)(bl:List aA)(a6:∀j,j∈bl->dx j)(wG:Maps.size D0=bl.length)(nR:∀x,x∈bl->Maps.has D0 (j2 x)=true)(k3:∀dI,Maps.has D0 dI=true->∃i,i∈bl/\dI=j2 i)(w:aC)(bM:w.cell? (pY,0)=some (.map (some b)))(ba:w.ownsMap prog 54 qp b jj D0)(hs:bl.length<=1000000):
  aR 306 #[(.func (.func 308) #[] #[pY])] w (ajq bl w):=by
 change Hid _ at bM ba;go_enter func306,ntmps306;go_wp2_with fail;refine(aw5 pY b jj D0 bl a6 wG nR k3 _ bM ba hs).mono ?_;rintro e _⟨aw,n,cap,eg,rfl,H1,dZ,fK⟩;change Hid _ at H1 dZ fK;go_wp2;go_ret;exact⟨aw,n,cap,eg,rfl,H1,dZ,fK⟩
def axn(pY b jj:Nat)(bl:List aA)(p fI n0 lN:Nat)(f:Lit->Option Value)(w:aC)(i5:∀j,j∈bl->dx j)(x6:bl.Nodup)(dp:E8 w bl p fI b n0 lN f)(fS:lN=bl.length)(bc:∀dI v,f dI=some v->∃i,i∈bl/\dI=j2 i)(bM:w.cell? (pY,0)=some (.map (some b)))(fM:fI<(w:Nat)/\p<(w:Nat))(hs:bl.length<=1000000):
  aR 283 #[(.func (.func 308) #[] #[pY]),(.func (.func 285) #[] #[fI])] w (p3 54 3 aA.cs bl w):=by
 obtain⟨D,ba,El,i6⟩:=dp.m;have tF:∀x,x∈bl->Maps.has D (j2 x)=true:=λx U=>by
  obtain⟨k,hk,rfl⟩:=List.mem_iff_getElem.1 U;rw[<-T2 ba,i6,dp.i k hk];rfl
 have Ux:∀dI,Maps.has D dI=true->∃i,i∈bl/\dI=j2 i:=λdI h=>by
  rw[<-T2 ba,i6]at h;obtain⟨v,bo⟩:=Option.isSome_iff_exists.1 h;exact bc dI v bo
 have wG:Maps.size D=bl.length:=by rw[El,fS]
 have jZ:=ba.lt;change Hid _ at bM ba dp tF Ux i5 x6;clear El i6;go_enter func283,ntmps283;go_wp2_with fail;refine(axm pY b _ D bl i5 wG tF Ux _ bM ba hs).mono ?_;rintro e _⟨aw,n,cap,eg,rfl,H1,dZ,fK⟩;change Hid _ at H1 dZ fK;go_wp2_with fail;refine(axi w aw n cap eg bl p fI b n0 lN f _ H1 dZ.out.1 dZ.out.2 x6 i5 (dp.ext fK) ⟨fM.1,fM.2,jZ⟩ hs).mono ?_;rintro e _⟨rfl,gu,hh⟩;change Hid _ at gu hh;go_wp2;go_ret;exact⟨aw,n,cap,rfl,gu,hh.ext (λx h=>h) fK⟩
def axo{b:az}(H:dU w M D O c p q b v)(hk:gz c l R n b)(ax:c.room<=1048576)(j3:∀j,j∈b.bl->dx j)(UW:b.bl.length<=1000000):
  aR 228 #[p] w (Dq 3 aA.cs (b.st.ay++b.bl) w):=by
 obtain⟨_,_,ec⟩:=H.dQ.st;have Gr:v.s.b.n<=1000000:=by rw[ec.b.neq];have:=(hk.Uf ax).2.2;omega
 obtain⟨n0,_,f0,ef,PO,En,gu,hh⟩:=H.yf;subst En;have x6:=I hk.bl.1;have bB:=I ec.b;have gp:=I (H.ext (w':=w.alloc (.cells #[p] 103)) X).box;have pR:=I (show(w.alloc (.cells #[p] 103)).heap[(w:Nat)]?=some (.cells #[p] 103)from hT);have Uc:=aI (o:=12) gp rfl;have tq:p<(w:Nat):=bT H.box;obtain⟨dc,eo,dB,ej,fe⟩:=info_parts zE;replace eo:=I eo;replace dB:=I dB;replace ej:=I ej;replace fe:=I fe;replace H:=I H;replace j3:=I j3;replace ef:=I ef;replace gu:=I gu;replace hh:=I hh;clear hk ec;go_enter func228,ntmps228;go_wp2_with (go_at_call 284;refine(axl _ _).mono ?_;rintro e w'⟨rfl,rfl⟩);have cj:Z w ((w.alloc (Obj.cells #[p] 103)).alloc (Obj.cells #[.map (some v.tm)] 158)):=X;have PL:E8 ((w.alloc (Obj.cells #[p] 103)).alloc (Obj.cells #[.map (some v.tm)] 158)) b.bl p w.heap.size v.tm n0 n0 f0:=⟨aI (show((w.alloc (Obj.cells #[p] 103)).alloc (Obj.cells #[.map (some v.tm)] 158)).heap[w.heap.size]?=some (Obj.cells #[p] 103)from hT) rfl,aI ((H.ext cj).box) rfl,ef.ext cj,gu⟩;have pM:((w.alloc (Obj.cells #[p] 103)).alloc (Obj.cells #[.map (some v.tm)] 158)).heap.size=w.heap.size+1+1:=by simp
 refine(axn (w.heap.size+1) v.tm n0 b.bl p w.heap.size n0 n0 f0 ((w.alloc (Obj.cells #[p] 103)).alloc (Obj.cells #[.map (some v.tm)] 158)) j3 x6 PL PO hh (aI (show((w.alloc (Obj.cells #[p] 103)).alloc (Obj.cells #[.map (some v.tm)] 158)).heap[w.heap.size+1]?=some (Obj.cells #[.map (some v.tm)] 158) by(exact Ht)) rfl) ⟨J,J⟩ UW).mono ?_;rintro e aY⟨_,m,_,rfl,cz,c9⟩;have it:=I ((show Z (w.alloc (.cells #[p] 103)) aY from X).aB pR);have dV:=aI (o:=0) it rfl;have lO:=aI (o:=7) ((show Z (w.alloc (.cells #[p] 103)) aY from X).aB gp) rfl;replace c9:=I c9;replace cz:=I cz;clear cj PL pM Uc;go_wp2_with fail;refine(aeU _ _ _ b.st.ay _ (bB.ext X) J).mono ?_;rintro e b3⟨a4,pF,_,rfl,dW,eX⟩;obtain rfl:pF=b.st.ay.length:=dW.neq;obtain rfl:m=b.bl.length:=cz.neq;have jZ:b.st.ay.length<=1000000:=by rw[<-bB.neq];exact Gr
 replace eX:=I eX;replace dW:=I dW;go_wp2_with (at_builtin;refine wpList_plain rfl λoL ns=>?_;go_must (refine wC (c:=aA.cs) (ys0:=b.st.ay) (ys:=b.bl) (.tmp 16) (.tmp 17) 31 54 rfl dc _ 24 underlying31 eo dB ej fe rfl af rfl aY (show Z aY b3 from X) dW rfl (cz.ext (show Z aY b3 from X)).aF aA.cN J af ?_);intro vz _ be _ Cn qb lL Li;subst Cn;refine ns _ _ ?_);change Hid _ at qb lL;clear Li;go_wp2;go_ret;exact⟨vz,_,be,rfl,qb.aF,X⟩
end
end Go.Proofs.YtfiiblnenhdlhaaGreat
