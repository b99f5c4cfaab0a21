/- Part. -/
import Derived.Test.YtfiiblnenhdlhaaGreatG3
set_option linter.unusedVariables false
set_option linter.unusedSimpArgs false
set_option linter.defProp false
set_option maxRecDepth 100000
set_option maxHeartbeats 4000000
namespace Go.Proofs.YtfiiblnenhdlhaaGreat
open Go.RowKit Tryz
variable {ops:Array Oper}{Q:Exit->Act->World->Prop}{rest:List Oper}{b base cap k n p sz:Nat}{S:Nat->Prop}{fr:Nat×Nat}{aw:Option Addr}{P:Program}{α:Type}{e:TypeId}{w w':World}
structure jW (w:World) (p:Nat) (xs:List UInt8):Prop where
 ct:∃b o n,w.heap[p]?=some (.cells #[.slice (some ⟨b,o,none⟩) n n,.bool false] 274 (0,0))/\(∃cs fr,w.heap[b]?=some (.cells cs 5 fr))/\a1 w 1 cp (some ⟨b,o,none⟩) n n xs/\n<=10000000
def jW.ext{xs:dR}(h:jW w p xs)(U:Z w w'):jW w' p xs:=by
 obtain⟨b,o,n,ae,⟨cs,fr,aM⟩,ak,bn⟩:=h.ct;exact⟨b,o,n,(U.block p (bT ae)).trans ae,⟨cs,fr,(U.block b (bT aM)).trans aM⟩,ak.ext U,bn⟩
def jW.lt{xs:dR}(h:jW w p xs):p<(w:Nat):=let ⟨_,_,_,ae,_⟩:=h.ct;bT ae
def jW.jD{R:Nat}{xs:dR}{cs:Array Value}{t:TypeId}(h:jW w p xs)(al:aG (·=R) w w')(bC:w.heap[R]?=some (.cells cs t fr))(ae:t≠274)(ak:t≠5):jW w' p xs:=by
 obtain⟨b,o,n,bQ,⟨aX,Xp,ew⟩,bY,fm⟩:=h.ct;have bS:¬p=R:=λe=>DT bC bQ ae e.symm;have bE:¬b=R:=λe=>DT bC ew ak e.symm;exact⟨b,o,n,(al.block p (bT bQ) bS).trans bQ,⟨aX,Xp,(al.block b (bT ew) bE).trans ew⟩,al.aF bY (λai aj=>by cases aj;exact bE),fm⟩
def jW.gQ{xs:dR}{c:α->List Value}{ys:List α}(h:jW w p xs)(aK:Own w base e sz c aw n cap ys)(he:e≠274):∀ai,aw=some ai->¬ai.block=p:=by
 obtain⟨b,o,_,ae,_⟩:=h.ct;intro _ aj aa;subst aj;rcases aK.row.2 with ⟨bo,_⟩|⟨g,aQ,cur,bo,_,bu,_⟩
 ·cases bo
 ·simp only[Value.slice.injEq,Option.some.injEq]at bo;obtain⟨rfl,_⟩:=bo;simp only at aa;subst aa;rw[ae]at bu;injection bu with bu;injection bu with _ a6;exact he a6.symm
def jW.grow{xs:dR}{c:α->List Value}{g:Nat}{ys:List α}(h:jW w p xs)(bu:lH w w' aw g)(aK:Own w base e sz c aw n cap ys)(he:e≠274)(aa:e≠5):jW w' p xs:=by
 have di:=h.gQ aK he;obtain⟨b,o,gE,ae,⟨cs,fr,aM⟩,ak,bn⟩:=h.ct;have pH:∀ai,aw=some ai->ai.block≠b:=by
  intro ai aj bq;subst aj;rcases aK.row.2 with ⟨bo,_⟩|⟨FE,aQ,cur,bo,_,Dr,_⟩
  ·cases bo
  ·simp only[Value.slice.injEq,Option.some.injEq]at bo;obtain⟨rfl,_⟩:=bo;simp only at bq;subst bq;rw[aM]at Dr;injection Dr with Dr;injection Dr with _ a6;exact aa a6.symm
 have bS:=bu.block p (bT ae) (λai aj k=>di ai aj k);have bE:=bu.block b (bT aM) pH;refine⟨b,o,gE,bS.trans ae,⟨cs,fr,bE.trans aM⟩,⟨ak.neq,ak.len,ak.max,ak.none,ak.bH,λk x hk=>?_⟩,bn⟩;obtain⟨_,_,jS,ao⟩:=ak.at_ k x hk;simp only[Option.some.injEq,Addr.mk.injEq,FJ]at jS;obtain⟨rfl,rfl⟩:=jS;refine⟨b,o,rfl,λj v aJ=>?_⟩;rw[JV (a:=⟨b,o+k*1+j,.none⟩) bE];exact ao j v aJ
def Xq{o:Oper}{a:Act}(np:o.guard=none)(x NM:Operand)(t e:TypeId)(aK:o.op=.slice t x (some NM) none none)(a6:P.underlying t=some (.slice e))(fS:(P.info? e).map (·.size)=some 1){ks:Nat}{kk:IntKind}(U:a.eval x=.slice (some (b,ks)) n n)(aT:a.eval NM=.int kk (k:Int))(hk:k<=n)(h:∀NN,(k<n->NN=ks+k)->wpList P ops Q rest (a.put o.dst (.slice (some (b,NN)) (n - k) (n - k))) w):wpList P ops Q (o::rest) a w:=by
 refine adX ?_;intro K aL he hs;have mG:=run_slice_l (P:=P) w t (some (b,ks)) n n (by rw[he];exact a6) kk k J J;have jR:=run_sliceAt_slice (P:=P) w t (.slice (some (b,ks)) n n) (some (.int kk (k:Int))) none none (by rw[he];exact a6);rw[mG,he,hs]at jR;by_cases kC:n=k
 ·subst kC;simp only[Result.andThen,sliced,nQ,bm rfl,Nat.sub_self]at jR;have k3:=aL _ _ (h ks (λk=>by omega));rw[Nat.sub_self]at k3;unfold Oper.wp;simp[execOp,aK,U,aT,jR,Result.andThen];exact k3
 ·simp only[Result.andThen,sliced,nQ,bj kC,FL,jT]at jR;have NO:((b,ks):Addr).add k=(b,ks+k):=by unfold Addr.add;split<;>simp_all
  rw[NO]at jR;unfold Oper.wp;simp[execOp,aK,U,aT,jR,Result.andThen];exact aL _ _ (h (ks+k) (λ_=>rfl))
def adY{o:Oper}{a:Act}(np:o.guard=none)(x aO:Operand)(t e:TypeId)(aK:o.op=.slice t x none (some aO) none)(a6:P.underlying t=some (.slice e))(fS:(P.info? e).map (·.size)=some sz){sa:bk}{kk:IntKind}(U:a.eval x=.slice sa n cap)(aT:a.eval aO=.int kk (k:Int))(hk:k<=cap)(adZ:∀ai,sa=some ai->ai.spot=none)(h:wpList P ops Q rest (a.put o.dst (aq sa k cap)) w):wpList P ops Q (o::rest) a w:=by
 refine wpList_plain np λK aL=>?_;refine ad0 ?_;intro he hs mG;have jR:=run_sliceAt_slice (P:=P) w t (aq sa n cap) none (some (.int kk (k:Int))) none (by rw[he];exact a6);rw[mG,he,hs]at jR;refine ad1 ?_;intro bf;simp only[Result.andThen,sliced,nQ,Nat.sub_zero,bf]at jR;unfold Oper.wp;simp[execOp,aK,U,aT,jR,Result.andThen];exact aL _ _ h
def Ko{o:Oper}{a:Act}(np:o.guard=none)(x:Operand)(src dst e:TypeId)(aK:o.op=.convert src dst x)(hs:P.underlying src=some (.slice e))(he:P.underlying e=some (.int .u8))(aD:P.underlying dst=some .string){off:Nat}{xs:dR}(U:a.eval x=.slice (some (b,off)) n cap)(a8:a1 w 1 cp (some (b,off)) n cap xs)(h:∀s:ByteArray,s.toList=xs->wpList P ops Q rest (a.put o.dst s) w):wpList P ops Q (o::rest) a w:=by
 refine wpList_plain np λK aL=>?_;have an:=a8.neq;subst an
 have mG:=run_convert_bytes_back (P:=P) w src dst e (b,off) cap xs hs he aD (λj aJ=>by
  have:=Sc a8 j aJ;rw[show((b,off):Addr).add j=(b,off+j)from by unfold Addr.add;split<;>simp_all]
  exact this)
 unfold Oper.wp;simp[execOp,aK,U,mG,Result.andThen];exact aL _ _ (h _ (by rw[Dk]))
def Kp(a:bk)(n cap:Nat)(xs:dR)(w:aC)(av:a1 w 1 cp a n cap xs)(an:n<=10000000):
  aR 126 #[aq a n cap] w λe w'=>∃p,e=.returned (.pointer (some (p,0)))/\(w:Nat)<=p/\jW w' p xs/\Z w w':=by
 change Hid _ at av;go_enter func126,ntmps126;go_wp2_with fail;refine(Se _ _ _ xs 0 _ av J J).mono ?_;rintro e w1⟨g,rfl,ba,U⟩;change Hid _ at ba U;go_wp2;go_ret;have bu:=(ba.lt _ rfl).2;refine⟨(w1:Nat),rfl,U.size,⟨g,0,n,heap_alloc_new _ _,?_,(ba.aF.ext ((Z.refl _).alloc _)),an⟩,X⟩;rcases ba.row.2 with ⟨bo,_⟩|⟨FE,aQ,cur,bo,_,Dr,_⟩
 ·cases bo
 ·simp only[Value.slice.injEq,Option.some.injEq,Addr.mk.injEq,FJ]at bo;obtain⟨⟨rfl,rfl⟩,_⟩:=bo;exact⟨_,_,(((Z.refl w1).alloc _).block _ (bT Dr)).trans Dr⟩
def aqi{a z:Nat}(bf:z<256)(aj:a*256+z<18446744073709551616):bits BinOp.or IntKind.u64 (IntKind.u64.wrap ((a:Int)*256)) (IntKind.u64.wrap (z:Int))=((a*256+z:Nat):Int):=by
 have dK:(BitVec.ofInt 64 ((a*256:Nat):Int)).toNat=a*256:=by
  rw[BitVec.ofInt_natCast,BitVec.toNat_ofNat];exact HN (NI (Sk (a*256) z) aj)
 refine ad2 ?_;intro NP;have bS:IntKind.u64.wrap ((a:Int)*256)=((a*256:Nat):Int):=by simp only[wrap64,IntKind.wrap_u64];omega
 have bE:IntKind.u64.wrap (z:Int)=(z:Int):=by simp only[wrap64,IntKind.wrap_u64];omega
 rw[bS,bE];have h:=Nat.two_pow_add_eq_or_of_lt (show z<2 ^ 8 from bf) a;have ae:(2:Nat) ^ 8*a=a*256:=J;rw[ae]at h;unfold bits;have eV:(BitVec.ofInt IntKind.u64.bits ((a*256:Nat):Int)|||BitVec.ofInt IntKind.u64.bits (z:Int)).toNat=a*256+z:=by
  show(BitVec.ofInt 64 ((a*256:Nat):Int)|||BitVec.ofInt 64 (z:Int)).toNat=a*256+z;rw[BitVec.toNat_or,dK,NP,h]
 simp only[eV,wrap64,IntKind.wrap_u64];omega
def jW.Xr{o:Nat}{cs:Array Value}{ys xs:dR}(aV:w.heap[p]?=some (.cells #[.slice (some (b,o)) n n,.bool false] 274 (0,0)))(aa:w.heap[b]?=some (.cells cs 5 fr))(hs:a1 w 1 cp (some (b,o)) n n (ys++xs))(hk:ys.length=k)(an:n<=10000000){o2:Nat}(pI:k<n->o2=o+k):
  jW (w.setCell (p,0) (.slice (some (b,o2)) (n - k) (n - k))) p xs/\aG (·=p) w (w.setCell (p,0) (.slice (some (b,o2)) (n - k) (n - k))):=by
 have ad3:¬b=p:=by
  intro e;subst e;rw[aV]at aa;injection aa with aa;injection aa with _ a6;exact absurd a6 af
 have al:aG (·=p) w (w.setCell (p,0) (.slice (some (b,o2)) (n - k) (n - k))):=aG.setCell (S:=λx=>x=p) (aG.refl _ w) (p,0) (.inl rfl) _;have hlen:=hs.neq;rw[cH]at hlen;refine⟨⟨b,o2,n - k,?_,⟨cs,fr,(al.block b (bT aa) ad3).trans aa⟩,al.aF (w:=w) ?_ (λai aj=>by cases aj;exact ad3),J⟩,al⟩
 ·exact er aV 0 _
 ·by_cases kC:k<n
  ·obtain rfl:=pI kC;have ae:=hs.acz k J;rw[List.drop_left' hk]at ae;exact ae
  ·have dV:n - k=0:=J;have bS:xs= []:=xj J;rw[dV,bS];exact a1.aoo cp.bH HQ
def oy(p m:Nat)(xs:dR)(w:aC)(bC:jW w p (cJ m++xs))(bM:gv m):
  aR 128 #[p] w λe w'=>e=.returned (ad (m:Int))/\jW w' p xs/\aG (·=p) w w':=by
 obtain⟨b,o,n,cy,⟨_,fr,o8⟩,av,an⟩:=bC.ct;have fs:=xA m;have eu:=av.neq;rw[cH,AT]at eu;obtain⟨L,fH⟩:∃L,L=nz m:=⟨_,rfl⟩;rw[<-fH]at fs eu;have gn:w.cell? (b,o)=some (.int .u8 (L:Int)):=by
  have:=Sc av 0 (by rw[cH,AT];omega);rw[uY]at this;rw[this];have e:(cJ m++xs)[0]'(by rw[cH,AT];omega)=UInt8.ofNat L:=by simp[cJ,fH]
  rw[e,UInt8.toNat_ofNat',HN J]
 have cT:w.cell? (p,0)=some (.slice (some (b,o)) n n):=aI cy rfl;have c1:w.cell? (p,1)=some (.bool false):=aI cy rfl;have bB:∀i (aO:i<L),∃y:UInt8,(jJ m L)[i]?=some y/\w.cell? (b,o+(1+i))=some (.int .u8 (y.toNat:Int)):=by
  intro i aO;have fM:i<(jJ m L).length:=by rw[s7];exact aO
  refine⟨(jJ m L)[i],fz fM,?_⟩;have:=Sc av (1+i) (by rw[cH,AT];omega);rw[this];have e:(cJ m++xs)[1+i]?=some (jJ m L)[i]:=by
   unfold cJ;rw[<-fH,FW,Nat.add_comm,Hq,Hp fM,fz fM]
  have bE:=vv.1 e;rw[bE.2]
 change Hid _ at o8;have bL:=I fH;have hY:0<n:=J;have k5:1+L<=n:=J;change Hid _ at bB av cy bM eu;by_cases aW:0<L
 ·obtain⟨y,ys,p8,_⟩:=ap5 (show m<2 ^ 64 from bM) (by rw[<-bL.out];exact aW);have q1:w.cell? (b,o+1)=some (.int .u8 (y.toNat:Int)):=by
   obtain⟨z,bf,ao⟩:=bB 0 aW;rw[bL.out,p8]at bf;cases bf;exact ao
  change Hid _ at p8;clear fH;go_enter func128,ntmps128;go_wp2_with fail;go_step3;go_wp2_with fail;go_loopg [3,51] L (λs8 tR dN wr=>∃i:Nat,s8+i=L/\dN=.int .i64 (i:Int)/\tR=.int .u64 ((vI ((jJ m L).take i):Nat):Int)/\Hid (Z w wr));case atStart=>exact⟨0,J,rfl,rfl,X⟩
  case round=>
   obtain⟨i,bu,rfl,rfl,U⟩:=hrel;have dV:=U.ah cT;by_cases aO:i<L
   ·obtain⟨z,bf,ao⟩:=bB i aO;have ad4:=U.ah ao;have bd:(i:Int)<(L:Int):=J;clear ao;go_wp2_with fail;have bo:vI ((jJ m L).take (i+1))=vI ((jJ m L).take i)*256+z.toNat:=by
     have aT:i<(jJ m L).length:=by rw[s7];exact aO
     rw[iX aT,Xl];rw[fz aT]at bf;rw[wL bf]
    have fM:vI ((jJ m L).take (i+1))<256 ^ 8:=gw (adR _) (Nat.pow_le_pow_right af (by rw[o9];omega));rw[bo]at fM;have aqj:=z.toNat_lt;rw[aqi aqj J,<-bo];exact ad5
   ·skip;have uM:wr.frozen? ⟨p,0,none⟩=false:=(U.frozen _ _ (bT cy)).trans (nS cy);go_wp2_with (refine Xq rfl (.tmp 71) (.tmp 73) 107 5 rfl underlying107 DQ (k:=1+L) rfl (by rw[FX];rfl) J ?_;intro o2 pI);rw[nJ];go_ret;have b5:=jW.Xr (o2:=o2) (k:=1+L) (ys:=cJ m) (xs:=xs) ((U.block p (bT cy)).trans cy) ((U.block b (bT o8)).trans o8) (av.ext U) (by rw[AT,<-bL.out]) an pI;refine⟨jC ?_,b5.1,(aG.of U).trans b5.2⟩;rw[ir (by rw[s7];omega),bL,ap4 bM]
 ·obtain rfl:L=0:=J;clear fH bB;go_enter func128,ntmps128;go_wp2_with fail;go_step3;go_wp2_with fail;go_loopg [3,51] 0 (λs8 tR dN wr=>s8=0/\dN=.int .i64 0/\tR=.int .u64 0/\Hid (Z w wr));case atStart=>exact⟨rfl,rfl,rfl,X⟩
  case round=>
   obtain⟨_,rfl,rfl,U⟩:=hrel;have dV:=U.ah cT;obtain⟨i,rfl⟩:∃i,i=0:=⟨_,rfl⟩;have uM:wr.frozen? ⟨p,0,none⟩=false:=(U.frozen _ _ (bT cy)).trans (nS cy);go_wp2_with (refine Xq rfl (.tmp 71) (.tmp 73) 107 5 rfl underlying107 DQ (k:=1+0) rfl rfl J ?_;intro o2 pI);rw[nJ];go_ret;have b5:=jW.Xr (o2:=o2) (k:=1+0) (ys:=cJ m) (xs:=xs) ((U.block p (bT cy)).trans cy) ((U.block b (bT o8)).trans o8) (av.ext U) (by rw[AT,<-bL.out]) an pI;refine⟨jC ?_,b5.1,(aG.of U).trans b5.2⟩;have aW:=Xj bM;rw[<-bL.out]at aW;simp at aW;omega
def FY{R:Nat}(h:aG S w w')(bC:S R\/(w:Nat)<=R)(u v x:Value):aG S w (((w'.setCell (R,0) u).setCell (R,1) v).setCell (R,2) x):=((h.setCell (R,0) bC u).setCell (R,1) bC v).setCell (R,2) bC x
def zK{R:Nat}(h:aG S w w')(bC:S R\/(w:Nat)<=R)(i j k:Nat)(u v x:Value):aG S w (((w'.setCell (R,i) u).setCell (R,j) v).setCell (R,k) x):=((h.setCell (R,i) bC u).setCell (R,j) bC v).setCell (R,k) bC x
def DU(p:Nat)(Sl:Int)(ys xs:dR)(w:aC)(cR:jW w p (gi ys++xs))(aW:0<=Sl)(hy:(ys.length:Int)<=Sl)(hm:Sl<=10000000):
  Calls prog 130 #[p,Sl] w λe w'=>∃g c,e=.returned (.slice (some ⟨g,0,none⟩) ys.length c)/\Own w' w.heap.size 5 1 cp (some ⟨g,0,none⟩) ys.length c ys/\jW w' p xs/\aG (·=p) w w':=by
 have aV:=cR.lt;change Hid _ at cR;go_enter func130,ntmps130;go_wp2_with fail;go_step3;go_wp2_with fail;refine(oy p ys.length (ys++xs) _ (by have:=cR.out;unfold gi at this;rw[List.append_assoc]at this;exact this) uZ).mono ?_;rintro e w1⟨rfl,xC,l4⟩;obtain⟨b,o,n,cy,⟨_,fr,o8⟩,av,an⟩:=xC.ct;have cT:w1.cell? (p,0)=some (.slice (some (b,o)) n n):=aI cy rfl;have c1:w1.cell? (p,1)=some (.bool false):=aI cy rfl;have rF:=av.neq;rw[cH]at rF;have zL:ys.length<=n:=J;change Hid _ at rF av cy o8 l4;go_wp2_with (refine adY rfl (.tmp 38) (.tmp 39) 107 5 rfl underlying107 DQ (k:=ys.length) rfl rfl J (λai h=>by cases h;rfl) ?_);refine(Se _ _ _ ys 0 _ (by have:=av.take ys.length J;rw[List.take_left]at this;exact this) J J).mono ?_;rintro e aN⟨g,rfl,ba,U⟩;have d0:=U.ah cT;have uM:aN.frozen? ⟨p,0,none⟩=false:=(U.frozen _ _ (bT cy)).trans (nS cy);change Hid _ at ba U;go_wp2_with (refine Xq rfl (.tmp 46) (.tmp 47) 107 5 rfl underlying107 DQ (k:=ys.length) rfl rfl J ?_;intro o2 pI);rw[nJ];go_ret;have b5:=jW.Xr (o2:=o2) (k:=ys.length) (ys:=ys) (xs:=xs) ((U.block p (bT cy)).trans cy) ((U.block b (bT o8)).trans o8) (av.ext U) rfl an pI;have hw:=l4.size;have vK:=(ba.lt _ rfl).1;simp only at vK;exact⟨g,ys.length+0,rfl,b5.2.bI (ba.mono hw) (λai aj=>by cases aj;simp only;omega),b5.1,l4.trans ((aG.of U).trans b5.2)⟩
def ad6(p:Nat)(k m:Int)(aF xs:dR)(w:aC)(cR:jW w p (zI k m aF++xs))(bN:AU k m aF):
  aR 255 #[p] w λe w'=>∃s:ByteArray,s.toList=aF/\e=.returned (.agg #[k,m,s])/\jW w' p xs/\aG (·=p) w w':=by
 have aV:=cR.lt;have NQ:=bN.nf;have adW:=bN.s;have hk:=bN.k;have bM:=I bN.NL;change Hid _ at cR bN;rcases hk with rfl|⟨rfl,rfl⟩|⟨rfl,rfl|rfl⟩
 ·refine Sm ?_;intro _;go_wp2_with fail;refine(oy p 1 (cJ (xB m)++(gi aF++xs)) _ Sn FV).mono ?_;refine Sp ?_;intro w1 c6 h8 cm;go_wp2_with fail;refine(oy p (xB m) (gi aF++xs) _ c6 bM).mono ?_;refine Sq ?_;intro aN de jk gj;go_wp2_with fail;refine Sr ?_;intro aY g c b o n c1 NR FZ gh dr eF fr cz h9 iK fT;go_wp2_with ((refine Ko rfl (.tmp 16) 107 9 5 rfl underlying107 underlying5 underlying9 rfl cz.aF ?_;intro s hs;subst hs));refine(aqd (xB m) _ bM).mono ?_;rintro e b3⟨rfl,fv⟩;have v0:b3.cell? (aY,0)=some ↑(bh 1):=fv.ah (by simp);have v1:b3.cell? (aY,1)=some (.int .i64 (wrap64 (xB m:Int))):=fv.ah (by simp);have v2:b3.cell? (aY,2)=some ↑s:=fv.ah (by simp);have nM:∀j,b3.frozen? ⟨(aY:Nat),j,none⟩=false:=λj=>(fv.frozen _ _ (by simp)).trans (by simp);replace c1:=fv.ah (((Z.refl aY).alloc _).ah c1);change Hid _ at fv;rw[ap8];change Hid _ at NQ;go_wp2_with fail;refine(FB _ _ _ _).mono ?_;rintro e bp⟨he,iv⟩;rw[NQ.out]at he;subst he;have lN:=iv.ah ((s0 _ _ _ _ (by simp)).trans v0);have e3:=iv.ah (RS _ _ _ v1);have ju:=iv.ah ((s0 _ _ _ _ (by simp)).trans v2);have hy:Z aY bp:=Z.trans (Z.setCell (((Z.refl aY).alloc _).trans fv) (bA _) _) iv;have gn:=hy.ah gh;have q1:=hy.ah dr;have dP:=hy.ah eF;have NS:∀j,bp.frozen? ⟨(w:Nat),j,none⟩=false:=λj=>(hy.frozen _ _ FZ).trans (fr j);change Hid _ at hy;clear iv gh dr eF fr v0 v1 v2 nM c1;go_wp2_with fail;refine Ss ?_;intro DV hblk;refine bodyPost_ret (v:=.agg #[bh 1,m,s]) St rfl ⟨s,rfl,rfl,jW.jD (R:=(w:Nat)) (h9.ext hy) (FY (S:=λx=>x=(w:Nat)) (aG.refl _ bp) (.inl rfl) _ _ _) hblk af af,FY (DV.trans (aG.of hy)) (.inr (bA _)) _ _ _⟩
 ·refine Sm ?_;intro _;go_wp2_with fail;refine(oy p 2 (cJ (0)++(gi aF++xs)) _ Sn FV).mono ?_;refine Sp ?_;intro w1 c6 h8 cm;go_wp2_with fail;refine(oy p (0) (gi aF++xs) _ c6 bM).mono ?_;refine Sq ?_;intro aN de jk gj;go_wp2_with fail;refine Sr ?_;intro aY g c b o n c1 NR FZ gh dr eF fr cz h9 iK fT;go_wp2_with ((refine Ko rfl (.tmp 16) 107 9 5 rfl underlying107 underlying5 underlying9 rfl cz.aF ?_;intro s hs;subst hs));refine(FB _ _ _ _).mono ?_;rintro e bp⟨he,iv⟩;rw[NQ]at he;subst he;have lN:bp.cell? (aY,0)=some ↑(bh 2):=iv.ah (by simp);have e3:bp.cell? (aY,1)=some ↑ar:=iv.ah (by simp);refine Xs ?_;intro ju gn q1 dP NS hy;clear iv gh dr eF fr c1;go_wp2_with fail;refine Ss ?_;intro DV hblk;refine bodyPost_ret (v:=.agg #[bh 2,ar,s]) St rfl ⟨s,rfl,rfl,jW.jD (R:=(w:Nat)) (h9.ext hy) (FY (S:=λx=>x=(w:Nat)) (aG.refl _ bp) (.inl rfl) _ _ _) hblk af af,FY (DV.trans (aG.of hy)) (.inr (bA _)) _ _ _⟩
 ·refine Sm ?_;intro _;go_wp2_with fail;refine(oy p 3 (cJ (0)++(gi aF++xs)) _ Sn FV).mono ?_;refine Sp ?_;intro w1 c6 h8 cm;go_wp2_with fail;refine(oy p (0) (gi aF++xs) _ c6 bM).mono ?_;refine Sq ?_;intro aN de jk gj;go_wp2_with fail;refine Sr ?_;intro aY g c b o n c1 NR FZ gh dr eF fr cz h9 iK fT;go_wp2_with ((refine Ko rfl (.tmp 16) 107 9 5 rfl underlying107 underlying5 underlying9 rfl cz.aF ?_;intro s hs;subst hs));refine(FB _ _ _ _).mono ?_;rintro e bp⟨he,iv⟩;rw[NQ]at he;subst he;have lN:bp.cell? (aY,0)=some ↑(bh 3):=iv.ah (by simp);have e3:bp.cell? (aY,1)=some ↑ar:=iv.ah (by simp);refine Xs ?_;intro ju gn q1 dP NS hy;clear iv gh dr eF fr c1;go_wp2_with fail;refine Ss ?_;intro DV hblk;refine bodyPost_ret (v:=.agg #[bh 3,ar,s]) St rfl ⟨s,rfl,rfl,jW.jD (R:=(w:Nat)) (h9.ext hy) (FY (S:=λx=>x=(w:Nat)) (aG.refl _ bp) (.inl rfl) _ _ _) hblk af af,FY (DV.trans (aG.of hy)) (.inr (bA _)) _ _ _⟩
 ·refine Sm ?_;intro _;go_wp2_with fail;refine(oy p 3 (cJ (1)++(gi aF++xs)) _ Sn FV).mono ?_;refine Sp ?_;intro w1 c6 h8 cm;go_wp2_with fail;refine(oy p (1) (gi aF++xs) _ c6 bM).mono ?_;refine Sq ?_;intro aN de jk gj;go_wp2_with fail;refine Sr ?_;intro aY g c b o n c1 NR FZ gh dr eF fr cz h9 iK fT;go_wp2_with ((refine Ko rfl (.tmp 16) 107 9 5 rfl underlying107 underlying5 underlying9 rfl cz.aF ?_;intro s hs;subst hs));refine(FB _ _ _ _).mono ?_;rintro e bp⟨he,iv⟩;rw[NQ]at he;subst he;have lN:bp.cell? (aY,0)=some ↑(bh 3):=iv.ah (by simp);have e3:bp.cell? (aY,1)=some ↑(bh 1):=iv.ah (by simp);refine Xs ?_;intro ju gn q1 dP NS hy;clear iv gh dr eF fr c1;go_wp2_with fail;refine Ss ?_;intro DV hblk;refine bodyPost_ret (v:=.agg #[bh 3,bh 1,s]) St rfl ⟨s,rfl,rfl,jW.jD (R:=(w:Nat)) (h9.ext hy) (FY (S:=λx=>x=(w:Nat)) (aG.refl _ bp) (.inl rfl) _ _ _) hblk af af,FY (DV.trans (aG.of hy)) (.inr (bA _)) _ _ _⟩
def zM(p:Nat)(w:aC)(bC:jW w p []):
  aR 132 #[p] w (cM (.bool true) w):=by
 obtain⟨b,o,n,aV,⟨_,fr,_⟩,Xt,_⟩:=bC.ct;have cT:w.cell? (p,0)=some (.slice (some (b,o)) n n):=aI aV rfl;have c1:w.cell? (p,1)=some (.bool false):=aI aV rfl;obtain rfl:n=0:=Xt.neq;go_enter func132,ntmps132;go_wp2;go_ret;refine⟨rfl,?_⟩;exact X
def kP(n:Int):Prop:=0<=n/\n<18446744073709551616
def kP.Xu(h:gv n):kP (n:Int):=by unfold gv at h;unfold kP;omega
def wM(a:cd):List UInt8:=gi a.nm.toList++zI a.k a.n a.s.toList
def oS(e:List cd):List UInt8:=cJ e.length++e.flatMap wM
def tS(t:T):List UInt8:=gi t.nm.toList++(cJ t.op.toNat++(if t.op=8 then [] else zI t.k t.n t.s.toList))
def xD(f:List T):List UInt8:=cJ f.length++f.flatMap tS
def ia(i:aA):List UInt8:=cJ i.b.toNat++(cJ i.l.toNat++cJ i.s.toNat)
def hA(d:bg):List UInt8:=
 cJ d.k.toNat++(ia d.id++(cJ d.c.toNat++(cJ d.u.toNat++(if d.k=1 then cJ d.aS.length++d.aS.flatMap (λe=>gi (oS e)) else if d.k=2 then gi (xD d.ts) else []))))
def Xv(e:List cd)(i:Nat):List UInt8:=match e[i]? with|some a=>a.nm.toList|none=> []
def xE(e:List cd)(i:Nat):Bool:=
 match e[i]? with
 |some a=>qE a.nm.toList&&(decide (wv a.k a.n a.s.toList=0)&&(decide (i=0)||pD (Xv e (i - 1)) a.nm.toList))
 |none=>false
def so(e:List cd):Bool:=decide (1<=e.length/\e.length<=16)&&(List.range e.length).all (xE e)
def DW(b:Bool):Int:=if b=true then 0 else 40
def ad7{e:List cd}{i:Nat}(aO:i<e.length)(h:qE e[i].nm.toList=false):xE e i=false:=by
 unfold xE;rw[List.getElem?_eq_getElem aO];simp[h]
def ad8{e:List cd}{i:Nat}(aO:i<e.length)(h:¬wv e[i].k e[i].n e[i].s.toList=0):xE e i=false:=by
 unfold xE;rw[List.getElem?_eq_getElem aO];simp[h]
def aqk{e:List cd}(aO:0<e.length)(h:qE e[0].nm.toList=true)(bo:wv e[0].k e[0].n e[0].s.toList=0):xE e 0=true:=by
 unfold xE;rw[List.getElem?_eq_getElem aO];simp[h,bo]
def Xw{e:List cd}{i:Nat}(aO:i+1<e.length)(h:qE e[i+1].nm.toList=true)(bo:wv e[i+1].k e[i+1].n e[i+1].s.toList=0):xE e (i+1)=pD e[i].nm.toList e[i+1].nm.toList:=by
 unfold xE;rw[List.getElem?_eq_getElem aO];have:Xv e i=e[i].nm.toList:=by unfold Xv;rw[List.getElem?_eq_getElem J]
 simp[h,bo,this]
def Xx{p:Nat->Bool}(h:(List.range k).all p=true)(he:p k=true):(List.range (k+1)).all p=true:=by
 rw[Kq,List.all_append,h];simp[he]
def aql{e:List cd}(h:¬(1<=e.length/\e.length<=16)):DW (so e)=40:=by unfold so;rw[decide_eq_false h];rfl
def Kr{e:List cd}{i:Nat}(aO:i<e.length)(h:xE e i=false):DW (so e)=40:=by
 have:(List.range e.length).all (xE e)=false:=JZ.2 ⟨i,qI.2 aO,by rw[h];decide⟩;unfold so;rw[this,Bool.and_false];rfl
def aqm{e:List cd}(h:1<=e.length/\e.length<=16)(k:(List.range e.length).all (xE e)=true):DW (so e)=0:=by unfold so;rw[decide_eq_true h,k];rfl
def Su{e:List cd}(h:so e=true):(1<=e.length/\e.length<=16)/\∀a,a∈e->qE a.nm.toList=true/\wv a.k a.n a.s.toList=0:=by
 unfold so at h;simp only[ke,jQ,uL,qI]at h;refine⟨h.1,λa aj=>?_⟩;obtain⟨i,aO,rfl⟩:=List.getElem_of_mem aj;have:=h.2 i aO;unfold xE at this;rw[fz aO]at this;simp only[ke,jQ]at this;exact⟨this.1,this.2.1⟩
def Ks{s:dR}(h:qE s=true):1<=s.length/\s.length<=16:=by
 unfold qE at h;simp only[ke,jQ]at h;exact h.1
structure ad9 (a:cd):Prop where
 nm:qE a.nm.toList=true
 v:AU a.k a.n a.s.toList
structure zN (e:List cd):Prop where
 nf:so e=true
 i64:∀a,a∈e->k8 a.n
def zN.at_{e:List cd}(h:zN e):∀a,a∈e->ad9 a:=λa aj=>⟨((Su h.nf).2 a aj).1,((Su h.nf).2 a aj).2,h.i64 a aj⟩
def zN.len{e:List cd}(h:zN e):1<=e.length/\e.length<=16:=(Su h.nf).1
structure Cj (t:T):Prop where
 cN:nt t=true
 i64:k8 t.n
structure Ck (f:List T):Prop where
 nf:mY f=true
 i64:∀t,t∈f->k8 t.n
def Ck.at_{f:List T}(h:Ck f):∀t,t∈f->Cj t:=λt a6=>⟨by
 have:=h.nf;unfold mY at this;simp only[ke,uL]at this
 exact this.2 t a6,h.i64 t a6⟩
def Ck.len{f:List T}(h:Ck f):f.length<=8:=(aok h.nf).1
def Xy{k n:Int}{s:dR}(h:AU k n s):(zI k n s).length<=80:=by
 unfold zI;rw[cH,cH,yP];have:=hg k.toNat;have:=hg (Sb k n);have:=xA s.length;have:=h.s;omega
def aea{a:cd}(h:ad9 a):(wM a).length<=105:=by
 unfold wM;rw[cH,yP];have:=xA a.nm.toList.length;have:=(Ks h.nm).2;have:=Xy h.v;omega
def Sv{α β:Type}{f:α->List β}{m:Nat}:∀(l:List α),(∀x,x∈l->(f x).length<=m)->(l.flatMap f).length<=l.length*m
 | [],_=>by simp
 |x::l,h=>by
  rw[nI,cH,mv,Hr,Nat.one_mul]
  have:=h x (kh)
  have:=Sv l (λy hy=>h y (kA _ hy))
  omega
def Sw{e:List cd}(h:zN e):(oS e).length<=1700:=by
 unfold oS;rw[cH];have:=hg e.length;have:=Sv (f:=wM) e (λa aj=>aea (h.at_ a aj));have:=h.len;omega
def Cj.name{t:T}(h:Cj t):qE t.nm.toList=true:=by
 have:=h.cN;unfold nt at this;simp only[ke]at this;exact this.1.1
def Cj.op{t:T}(h:Cj t):1<=t.op/\t.op<=8:=by
 have:=h.cN;unfold nt at this;simp only[ke]at this;have k:=this.1.2;unfold xi at k;simp at k;omega
def Cj.v{t:T}(h:Cj t)(fs:t.op≠8):AU t.k t.n t.s.toList:=by
 have:=h.cN;unfold nt at this;rw[bj fs]at this;simp only[ke,jQ]at this;exact⟨this.2.1,h.i64⟩
def Cj.v0{t:T}(h:Cj t)(fs:t.op=8):t.k=0/\t.n=0/\t.s.toList= []:=by
 have:=h.cN;unfold nt at this;rw[bm fs]at this;simp only[ke,jQ]at this;have k:=this.2;unfold T.v at k;simp only[vu.mk.injEq]at k;exact k
def aqn{t:T}(h:Cj t):(tS t).length<=115:=by
 unfold tS;rw[cH,cH,yP];have:=xA t.nm.toList.length;have:=(Ks h.name).2;have:=hg t.op.toNat;split
 ·simp;omega
 ·next fs=>have:=Xy (h.v fs);omega
def Xz{f:List T}(h:Ck f):(xD f).length<=1000:=by
 unfold xD;rw[cH];have:=hg f.length;have:=Sv (f:=tS) f (λa aj=>aqn (h.at_ a aj));have:=h.len;omega
def Sx(a:Option Addr)(n cap:Nat)(xs:List cd)(w:World)(av:a1 w 4 cd.cs a n cap xs):
  aR 163 #[aq a n cap] w (cM (.int .i64 (DW (so xs))) w):=by
 obtain rfl:=av.neq
 have hm:=av.max
 have aT:=av.len
 unfold maxLen at hm
 change Hid _ at av
 by_cases ae:1<=xs.length/\xs.length<=16
 ·obtain⟨ae,ny⟩:=ae
  have i1:(1:Int)<=(xs.length:Int):=J
  have ht:(xs.length:Int)<=16:=J
  go_enter func163,ntmps163
  go_wp2_with fail
  go_step3
  go_wp2_with fail
  go_step3
  go_wp2_with fail
  go_loopg [3,16] (xs.length) (λg lu st wr=>∃k:Nat,g+k=xs.length/\st=.int .i64 k/\lu=.int .i64 k/\Hid ((List.range k).all (xE xs)=true)/\Hid (Z w wr))
  case atStart=>exact⟨0,J,rfl,rfl,rfl,Z.refl _⟩
  case round=>
   obtain⟨k,bu,rfl,rfl,eU,U⟩:=hrel
   by_cases hk:k<xs.length
   ·obtain⟨b,o,rfl,ao⟩:=av.get k hk
    obtain⟨cT,c1,c2,da⟩:=Rn (w:=wr) (b:=b) (o:=o+k*4) (x:=xs[k]) (λj v aJ=>U.ah (ao j v aJ))
    clear ao
    have b0:(0:Int)<=(k:Int):=J
    have bd:(k:Int)<(xs.length:Int):=J
    by_cases bo:wv xs[k].k xs[k].n xs[k].s.toList=0
    ·have iP:=I bo
     change Hid _ at bo
     have bU:=I bo
     cases an:qE xs[k].nm.toList with
     |false=>
      have DG:(!qE xs[k].nm.toList)=true:=by rw[an];rfl
      have eu:=I an
      go_wp2_with (first|(go_at_call 244;refine(RD _ _).mono ?_;rintro e w'⟨rfl,rfl⟩)|(go_at_call 245;refine(FB _ _ _ _).mono ?_;rintro e w'⟨he,hy⟩;rw[iP.out]at he;subst he;have bf:=hy.size;have F0:=hy.ah (a:=(wr,0)) (v:=.string xs[k].nm) (by simp);change Hid _ at hy))
      first|rw[Exit.noGoto_ret]|skip
      go_ret
      refine⟨jC (by first|exact(Kr hk (ad7 hk eu)).symm|exact(Kr hk (ad8 hk bU)).symm|exact(Kr hk (by have q:=‹(!Op.bytesLess xs[j].nm.toList xs[j+1].nm.toList)=true›;rw[Xw hk eu.out bo.out];simpa[pD]using q)).symm),?_⟩
      exact X
     |true=>
      have DG:(!qE xs[k].nm.toList)=false:=by rw[an];rfl
      have eu:=I an
      go_wp2_with (first|(go_at_call 244;refine(RD _ _).mono ?_;rintro e w'⟨rfl,rfl⟩)|(go_at_call 245;refine(FB _ _ _ _).mono ?_;rintro e w'⟨he,hy⟩;rw[iP.out]at he;subst he;have bf:=hy.size;have F0:=hy.ah (a:=(wr,0)) (v:=.string xs[k].nm) (by simp);change Hid _ at hy))
      cases k with
      |zero=>
       have aD:decide ((0:Int)<((0:Nat):Int))=false:=rfl
       go_quiet (fail)
       go_wp2
       go_roundg (gk - 1)
       case measure=>omega
       case rel=>exact⟨0+1,J,by go_num,by go_num,Xx eU (aqk hk eu bo),X⟩
      |succ j=>
       obtain⟨ajg,aDm,am8,Sy⟩:=av.get j J
       simp only[Option.some.injEq,Addr.mk.injEq,and_true]at am8
       obtain⟨rfl,rfl⟩:=am8
       have ch:Z w w':=X
       have d0:w'.cell? (b,o+j*4)=some ↑xs[j].nm:=ch.ah (Sy 0 _ rfl)
       clear Sy ch
       have aD:decide ((0:Int)<((j+1:Nat):Int))=true:=by simp
       have dV:(0:Int)<=(j:Int):=J
       have bS:(j:Int)<(xs.length:Int):=J
       go_quiet (fail)
       go_wp2
       ·skip
        first|rw[Exit.noGoto_ret]|skip
        go_ret
        refine⟨jC (by first|exact(Kr hk (ad7 hk eu)).symm|exact(Kr hk (ad8 hk bU)).symm|exact(Kr hk (by have q:=‹(!Op.bytesLess xs[j].nm.toList xs[j+1].nm.toList)=true›;rw[Xw hk eu.out bo.out];simpa[pD]using q)).symm),?_⟩
        exact X
       ·skip
        go_roundg (gk - 1)
        case measure=>omega
        case rel=>exact⟨j+1+1,J,by go_num,by go_num,Xx eU (by have q:=‹(!Op.bytesLess xs[j].nm.toList xs[j+1].nm.toList)=false›;rw[Xw hk eu.out bo.out];simpa[pD]using q),X⟩
    ·have iP:=I (show wv xs[k].k xs[k].n xs[k].s.toList=10 from by unfold wv at bo ⊢;split at bo<;>simp_all)
     change Hid _ at bo
     cases an:qE xs[k].nm.toList with
     |false=>
      have DG:(!qE xs[k].nm.toList)=true:=by rw[an];rfl
      have eu:=I an
      go_wp2_with (first|(go_at_call 244;refine(RD _ _).mono ?_;rintro e w'⟨rfl,rfl⟩)|(go_at_call 245;refine(FB _ _ _ _).mono ?_;rintro e w'⟨he,hy⟩;rw[iP.out]at he;subst he;have bf:=hy.size;have F0:=hy.ah (a:=(wr,0)) (v:=.string xs[k].nm) (by simp);change Hid _ at hy))
      first|rw[Exit.noGoto_ret]|skip
      go_ret
      refine⟨jC (by first|exact(Kr hk (ad7 hk eu)).symm|exact(Kr hk (ad8 hk bo)).symm|exact(Kr hk (by have q:=‹(!Op.bytesLess xs[j].nm.toList xs[j+1].nm.toList)=true›;rw[Xw hk eu.out bN.out];simpa[pD]using q)).symm),?_⟩
      exact X
     |true=>
      have DG:(!qE xs[k].nm.toList)=false:=by rw[an];rfl
      have eu:=I an
      go_wp2_with (first|(go_at_call 244;refine(RD _ _).mono ?_;rintro e w'⟨rfl,rfl⟩)|(go_at_call 245;refine(FB _ _ _ _).mono ?_;rintro e w'⟨he,hy⟩;rw[iP.out]at he;subst he;have bf:=hy.size;have F0:=hy.ah (a:=(wr,0)) (v:=.string xs[k].nm) (by simp);change Hid _ at hy))
      first|rw[Exit.noGoto_ret]|skip
      go_ret
      refine⟨jC (by first|exact(Kr hk (ad7 hk eu)).symm|exact(Kr hk (ad8 hk bo)).symm|exact(Kr hk (by have q:=‹(!Op.bytesLess xs[j].nm.toList xs[j+1].nm.toList)=true›;rw[Xw hk eu.out bN.out];simpa[pD]using q)).symm),?_⟩
      exact X
   ·skip
    have qa:¬(k:Int)<(xs.length:Int):=J
    go_wp2
    first|rw[Exit.noGoto_ret]|skip
    go_ret
    refine⟨jC (aqm ⟨ae,ny⟩ (by rw[<-show k=xs.length from by omega];exact eU)).symm,?_⟩
    exact X
 ·by_cases aqq:xs.length<1
  ·have i1:(xs.length:Int)<1:=J
   go_enter func163,ntmps163
   go_wp2_with fail
   go_step3
   go_wp2_with fail
   rw[Exit.noGoto_ret]
   go_ret
   refine⟨jC (aql J).symm,?_⟩
   exact X
  ·have i1:¬(xs.length:Int)<1:=J
   have ht:(16:Int)<(xs.length:Int):=J
   go_enter func163,ntmps163
   go_wp2_with fail
   go_step3
   go_wp2_with fail
   rw[Exit.noGoto_ret]
   go_ret
   refine⟨jC (aql J).symm,?_⟩
   exact X
def wN(l:List UInt8)(w:World)(e:Ending)(w':World):Prop:=∃a n c,e=.returned (.tuple #[aq a n c,ar])/\Own w' w.heap.size 5 1 cp a n c l/\Z w w'
def aqr(a:bk)(n cap:Nat)(xs:List cd)(w:aC)(av:a1 w 4 cd.cs a n cap xs)(bN:zN xs):
  aR 258 #[aq a n cap] w (wN (oS xs) w):=by
 have hlen:=bN.len;obtain rfl:=av.neq;refine wB ?_;intro hm aT;have zO:DW (so xs)=0:=by rw[bN.nf];rfl
 change Hid _ at zO av bN;go_enter func258,ntmps258;go_wp2_with fail;refine(Sx _ _ _ xs _ av).mono ?_;rintro e _⟨he,bw⟩;rw[zO.out]at he;subst he;change Hid _ at bw;go_wp2_with fail;refine aef ?_;intro aN cE cZ c2 aE k5 b7 cj;clear aE;go_wp2_with fail;go_loopg [5,19] (xs.length) (λg e1 st wr=>∃(k:Nat) (ab:bk) (m c:Nat),g+k=xs.length/\st=.int .i64 k/\e1=.slice ab m c/\m<=20+105*k/\Hid (Own wr w 5 1 cp ab m c (cJ xs.length++(xs.take k).flatMap wM))/\Hid (Z w wr));case atStart=>exact aeg
 case round=>
  obtain⟨k,ab,m,c,_,rfl,rfl,_,aE,U⟩:=hrel;by_cases hk:k<xs.length
  ·obtain⟨b,o,rfl,ao⟩:=av.get k hk;refine WB ?_;intro cT c1 c2 da;clear ao;have b8:=bN.at_ xs[k] (c7 hk);have DR:=(Ks b8.nm).2;rw[yA]at DR;change Hid _ at b8;refine kt ?_;intro b0 bd;go_wp2_with (refine Xo rfl (.tmp 25) 9 107 5 rfl underlying9 underlying107 underlying5 rfl J ?_;intro b3 _ Cl oT XA);have jX:b3.cell? (wr,1)=some ↑xs[k].k:=oT.ah (by simp);have ij:b3.cell? (wr,2)=some ↑xs[k].n:=oT.ah (by simp);have d3:b3.cell? (wr,3)=some ↑xs[k].s:=oT.ah (by simp);rw[show ∀o:Obj,(wr.alloc o).heap.size=(wr:Nat)+1 from λo=>by simp]at Cl;change Hid _ at Cl oT;clear XA;have gU:Z wr b3:=X;have AD:m<=1000000:=J;have j5:xs[k].nm.size<=1000000:=J;refine(HP ab m c (cJ xs.length++(xs.take k).flatMap wM) _ _ _ _ _ (aE.aF.ext gU) Cl AD j5).mono ?_;rintro e _⟨a5,jc,_,rfl,hj,ix⟩;replace jX:=ix.ah jX;replace ij:=ix.ah ij;replace d3:=ix.ah d3;have Kt:=hj.neq;rw[cH,<-aE.neq]at Kt;have F1:=yP xs[k].nm.toList;have Sz:=xA xs[k].nm.toList.length;rw[yA]at F1 Sz;have aqs:jc<=20+105*k+25:=J;change Hid _ at ix hj Kt;clear F1 Sz;go_wp2_with fail;refine(adV _ _ _ _ xs[k].k xs[k].n xs[k].s _ hj.aF b8.v J).mono ?_;rintro e _⟨rG,n6,_,rfl,k4,lL⟩;have NT:n6<=20+105*(k+1):=by
    have ae:=k4.neq;have lY:=aea b8;unfold wM at lY;rw[cH]at lY;rw[cH,<-hj.neq,Kt.out]at ae;omega
   change Hid _ at k4 lL;go_wp2_with fail;go_roundg (gk - 1);case measure=>omega
   case rel=>
    refine⟨k+1,_,_,_,J,by go_num,rfl,NT,?_,X⟩;have h:=k4.mono (aDn:=(w:Nat)) (Z.size X);refine SA ?_;unfold wM;rw[iI,iI]at h;exact h
  ·refine se ?_;intro b9;rw[b9]at aE;clear b9;go_wp2;go_ret2;exact⟨ab,m,c,rfl,aE,X⟩
def aqt(l:List cd)(w:World)(e:Ending)(w':World):Prop:=∃a n c,e=.returned (.tuple #[aq a n c,ar])/\Own w' w.heap.size 77 4 cd.cs a n c l/\Z w w'
def aqu(a:bk)(n cap:Nat)(xs:List cd)(w:aC)(av:a1 w 1 cp a n cap (oS xs))(bN:zN xs):
  aR 192 #[aq a n cap] w (aqt xs w):=by
 obtain⟨eI,mZ,na,nb,nc⟩:=info_parts M4;have hlen:=bN.len;have an:n<=1700:=by rw[av.neq];exact Sw bN
 replace av:=I av;replace bN:=I bN;replace mZ:=I mZ;replace na:=I na;replace nb:=I nb;replace nc:=I nc;go_enter func192,ntmps192;go_wp2_with fail;refine(Kp _ _ _ _ _ av J).mono ?_;rintro e _⟨p,rfl,ng,c6,bw⟩;replace c6:=I c6;replace bw:=I bw;go_wp2_with fail;refine(oy p xs.length (xs.flatMap wM) _ c6 uZ).mono ?_;rintro e _⟨rfl,de,eW⟩;replace de:=I de;have cj:=I (eW.ext (λb aa=>by subst aa;exact ng) bw);clear eW;go_wp2_with fail;go_loopg [6,15] (xs.length) (λg e1 st wr=>∃(k:Nat) (ab:bk) (m c:Nat),g+k=xs.length/\st=.int .u64 (k:Int)/\e1=.slice ab m c/\k=m/\Hid (Own wr w 77 4 cd.cs ab m c (xs.take k))/\Hid (jW wr p ((xs.drop k).flatMap wM))/\Hid (Z w wr));case atStart=>exact⟨0,none,0,0,J,rfl,rfl,rfl,Own.nil _ _ _ cd.bH,de,X⟩
 case round=>
  obtain⟨k,ab,m,c,_,rfl,rfl,hi,aE,bC,U⟩:=hrel;subst hi;by_cases hk:k<xs.length
  ·have b8:=bN.at_ xs[k] (c7 hk);have DR:=(Ks b8.nm).2;have aD:(xs.drop k).flatMap wM=gi xs[k].nm.toList++(zI xs[k].k xs[k].n xs[k].s.toList++(xs.drop (k+1)).flatMap wM):=by
    rw[List.drop_eq_getElem_cons hk,List.flatMap_cons];unfold wM;rw[List.append_assoc]
   replace b8:=I b8;refine kt ?_;intro b0 bd;go_wp2_with fail;refine(DU p 16 xs[k].nm.toList (zI xs[k].k xs[k].n xs[k].s.toList++(xs.drop (k+1)).flatMap wM) _ (by rw[<-aD];exact bC.ext X) af J af).mono ?_;rintro e b3⟨_,_,rfl,dW,sq,nT⟩;have AV:Own b3 w 77 4 cd.cs ab k c (xs.take k):=nT.bI (aE.ext X) (bC.gQ aE af);have sr:Z w b3:=nT.ext (λb aa=>by subst aa;exact ng) X;replace dW:=I dW;replace sq:=I sq;replace AV:=I AV;replace sr:=I sr;clear nT aD;go_wp2_with (refine Ko rfl (.tmp 18) 107 9 5 rfl underlying107 underlying5 underlying9 rfl dW.aF ?_;intro s hs);refine(ad6 p xs[k].k xs[k].n xs[k].s.toList ((xs.drop (k+1)).flatMap wM) _ (sq.ext X) b8.v).mono ?_;rintro e bp⟨_,s9,rfl,yR,oU⟩;obtain rfl:=MI hs;obtain rfl:=MI s9;have NU:Own bp w 77 4 cd.cs ab k c (xs.take k):=oU.bI (AV.ext X) (sq.gQ AV af);have NV:Z w bp:=oU.ext (λb aa=>by subst aa;exact ng) X;replace yR:=I yR;replace NU:=I NU;replace NV:=I NV;clear oU;go_wp2_with (at_builtin;refine hf (ys:=xs.take k) rfl (.tmp 20) (.tmp 25) 34 rfl eI _ 48 underlying34 mZ na nb nc rfl af rfl (NU.ext X) xs[k] _ rfl (fc (cs:=cd.cs xs[k]) rfl) (cd.cN _) J af (Z.size X) ?_;intro _ _ _ qb ta);change Hid _ at qb;have yS:=I ((yR.ext ((Z.refl _).alloc _)).grow ta (NU.ext ((Z.refl _).alloc (.cells #[xs[k].nm,xs[k].k,xs[k].n,xs[k].s] 77))) af af);have zP:=I (ta.ext (NU.ext ((Z.refl _).alloc (.cells #[xs[k].nm,xs[k].k,xs[k].n,xs[k].s] 77))) (bA _) (NV.trans ((Z.refl _).alloc _)));clear ta;go_wp2_with fail;go_roundg (gk - 1);case measure=>omega
   case rel=>exact⟨k+1,_,_,_,J,by go_num,rfl,rfl,(by rw[iX hk];exact qb),yS,zP⟩
  ·refine se ?_;intro b9;rw[b9]at aE;clear b9;have hB:jW wr p []:=by have:=bC.out;rw[NW J]at this;exact this
   have zO:DW (so xs)=0:=by rw[bN.nf];rfl
   replace zO:=I zO;replace hB:=I hB;go_wp2_with fail;refine(zM p _ hB).mono ?_;rintro e _⟨rfl,mq⟩;replace mq:=I mq;go_wp2_with fail;refine(Sx ab k c xs _ (aE.aF.ext mq)).mono ?_;exact aeh
def aqv(a:bk)(n cap:Nat)(xs:List T)(w:aC)(av:a1 w 5 T.cs a n cap xs)(bN:Ck xs):
  aR 259 #[aq a n cap] w (wN (xD xs) w):=by
 have hlen:=bN.len;obtain rfl:=av.neq;have hm:=av.max;unfold maxLen at hm;have zO:xo (mY xs)=0:=by rw[bN.nf];rfl
 change Hid _ at zO av bN;go_enter func259,ntmps259;go_wp2_with fail;refine(RE _ _ _ xs _ av).mono ?_;rintro e _⟨he,bw⟩;rw[zO.out]at he;subst he;change Hid _ at bw;go_wp2_with fail;refine aef ?_;intro aN cE cZ c2 aE k5 b7 cj;go_wp2_with fail;go_loopg [5,19] (xs.length) (λg e1 st wr=>∃(k:Nat) (ab:bk) (m c:Nat),g+k=xs.length/\st=.int .i64 k/\e1=.slice ab m c/\m<=20+115*k/\Hid (Own wr w 5 1 cp ab m c (cJ xs.length++(xs.take k).flatMap tS))/\Hid (Z w wr));case atStart=>exact aeg
 case round=>
  obtain⟨k,ab,m,c,_,rfl,rfl,_,aE,U⟩:=hrel;by_cases hk:k<xs.length
  ·obtain⟨b,o,rfl,ao⟩:=av.get k hk;refine Rt ?_;intro cT c1 c2 da dJ;have b8:=bN.at_ xs[k] (c7 hk);have DR:=(Ks b8.name).2;rw[yA]at DR;obtain⟨q,h3⟩:∃q:Nat,xs[k].op=(q:Int):=⟨xs[k].op.toNat,by have:=b8.op;omega⟩;have XB:=b8.op;rw[h3]at c1 XB;change Hid _ at h3 b8;refine kt ?_;intro b0 bd;go_wp2_with (refine Xo rfl (.tmp 25) 9 107 5 rfl underlying9 underlying107 underlying5 rfl J ?_;intro b3 _ Cl oT _);have jX:b3.cell? (wr,1)=some ↑(q:Int):=oT.ah (by simp);have ij:b3.cell? (wr,2)=some ↑xs[k].k:=oT.ah (by simp);have d3:b3.cell? (wr,3)=some ↑xs[k].n:=oT.ah (by simp);have d4:b3.cell? (wr,4)=some ↑xs[k].s:=oT.ah (by simp);rw[show ∀o:Obj,(wr.alloc o).heap.size=(wr:Nat)+1 from λo=>by simp]at Cl;change Hid _ at Cl oT;have gU:Z wr b3:=X;have AD:m<=1000000:=J;have j5:xs[k].nm.size<=1000000:=J;refine(HP ab m c (cJ xs.length++(xs.take k).flatMap tS) _ _ _ _ _ (aE.aF.ext gU) Cl AD j5).mono ?_;rintro e _⟨a5,jc,_,rfl,hj,ix⟩;replace jX:=ix.ah jX;replace ij:=ix.ah ij;replace d3:=ix.ah d3;replace d4:=ix.ah d4;have Kt:=hj.neq;rw[cH,<-aE.neq]at Kt;have F1:=yP xs[k].nm.toList;have Sz:=xA xs[k].nm.toList.length;rw[yA]at F1 Sz;have aqs:jc<=20+115*k+25:=J;change Hid _ at ix hj Kt;go_wp2_with fail;refine(j6 _ _ _ _ q _ hj.aF uZ J).mono ?_;rintro e _⟨nA,n7,_,rfl,lv,mq⟩;replace jX:=mq.ah jX;replace ij:=mq.ah ij;replace d3:=mq.ah d3;replace d4:=mq.ah d4;have HR:=lv.neq;rw[cH,<-hj.neq]at HR;have aCe:=hg q;have aCf:n7<=20+115*k+35:=J;change Hid _ at mq lv HR;have SB:xs[k].op.toNat=q:=by rw[h3.out];rfl
   by_cases fs:q=8
   ·subst fs;go_wp2_with fail;go_roundg (gk - 1);case measure=>omega
    case rel=>
     refine⟨k+1,_,_,_,J,by go_num,rfl,J,?_,X⟩;have h:=lv.mono (aDn:=(w:Nat)) (Z.size X);refine SA ?_;rw[show tS xs[k]=gi xs[k].nm.toList++cJ 8 from by unfold tS;rw[SB,if_pos (show xs[k].op=8 from h3),List.append_nil]];exact HS
   ·have HT:¬(q:Int)=8:=J;have HU:=b8.v (by rw[h3.out];exact HT);change Hid _ at HU;go_wp2_with fail;refine(adV _ _ _ _ xs[k].k xs[k].n xs[k].s _ lv.aF HU J).mono ?_;rintro e _⟨rG,n6,_,rfl,k4,lL⟩;have NT:n6<=20+115*(k+1):=by
     have ae:=k4.neq;have lY:=Xy HU;rw[cH,<-lv.neq]at ae;omega
    change Hid _ at k4 lL;go_wp2_with fail;go_roundg (gk - 1);case measure=>omega
    case rel=>
     refine⟨k+1,_,_,_,J,by go_num,rfl,NT,?_,X⟩;have h:=k4.mono (aDn:=(w:Nat)) (Z.size X);refine SA ?_;rw[show tS xs[k]=gi xs[k].nm.toList++(cJ q++zI xs[k].k xs[k].n xs[k].s.toList)from by unfold tS;rw[SB,if_neg (by rw[h3.out];exact HT)]];exact HS
  ·refine se ?_;intro b9;rw[b9]at aE;go_wp2;go_ret2;exact⟨ab,m,c,rfl,aE,X⟩
def aqw(l:List T)(w:World)(e:Ending)(w':World):Prop:=∃a n c,e=.returned (.tuple #[aq a n c,ar])/\Own w' w.heap.size 154 5 T.cs a n c l/\Z w w'
def aqx(a:bk)(n cap:Nat)(xs:List T)(w:aC)(av:a1 w 1 cp a n cap (xD xs))(bN:Ck xs):
  aR 193 #[aq a n cap] w (aqw xs w):=by
 obtain⟨eI,mZ,na,nb,nc⟩:=info_parts Ry;have hlen:=bN.len;have an:n<=1000:=by rw[av.neq];exact Xz bN
 replace av:=I av;replace bN:=I bN;replace mZ:=I mZ;replace na:=I na;replace nb:=I nb;replace nc:=I nc;go_enter func193,ntmps193;go_wp2_with fail;refine(Kp _ _ _ _ _ av J).mono ?_;rintro e _⟨p,rfl,ng,c6,bw⟩;replace c6:=I c6;replace bw:=I bw;go_wp2_with fail;refine(oy p xs.length (xs.flatMap tS) _ c6 uZ).mono ?_;rintro e _⟨rfl,de,eW⟩;replace de:=I de;have cj:=I (eW.ext (λb aa=>by subst aa;exact ng) bw);go_wp2_with fail;go_loopg [6,16] (xs.length) (λg e1 st wr=>∃(k:Nat) (ab:bk) (m c:Nat),g+k=xs.length/\st=.int .u64 (k:Int)/\e1=.slice ab m c/\k=m/\Hid (Own wr w 154 5 T.cs ab m c (xs.take k))/\Hid (jW wr p ((xs.drop k).flatMap tS))/\Hid (Z w wr));case atStart=>exact⟨0,none,0,0,J,rfl,rfl,rfl,Own.nil _ _ _ T.bH,de,X⟩
 case round=>
  obtain⟨k,ab,m,c,_,rfl,rfl,hi,aE,bC,U⟩:=hrel;subst hi;by_cases hk:k<xs.length
  ·have b8:=bN.at_ xs[k] (c7 hk);have DR:=(Ks b8.name).2;obtain⟨q,h3⟩:∃q:Nat,xs[k].op=(q:Int):=⟨xs[k].op.toNat,by have:=b8.op;omega⟩;have XB:=b8.op;rw[h3]at XB;obtain⟨R,oz⟩:∃R,R=(if xs[k].op=8 then [] else zI xs[k].k xs[k].n xs[k].s.toList):=⟨_,rfl⟩;have aD:(xs.drop k).flatMap tS=gi xs[k].nm.toList++(cJ q++(R++(xs.drop (k+1)).flatMap tS)):=by
    rw[List.drop_eq_getElem_cons hk,List.flatMap_cons];unfold tS;rw[List.append_assoc,List.append_assoc,oz,h3];rfl
   replace h3:=I h3;replace oz:=I oz;replace b8:=I b8;have bd:(k:Int)<(xs.length:Int):=J;go_wp2_with fail;refine(DU p 16 xs[k].nm.toList (cJ q++(R++(xs.drop (k+1)).flatMap tS)) _ (by rw[<-aD];exact bC.ext X) af J af).mono ?_;rintro e b3⟨_,_,rfl,dW,sq,nT⟩;have AV:Own b3 w 154 5 T.cs ab k c (xs.take k):=nT.bI (aE.ext X) (bC.gQ aE af);have sr:Z w b3:=nT.ext (λb aa=>by subst aa;exact ng) X;replace dW:=I dW;replace sq:=I sq;replace AV:=I AV;replace sr:=I sr;go_wp2_with (refine Ko rfl (.tmp 19) 107 9 5 rfl underlying107 underlying5 underlying9 rfl dW.aF ?_;intro s hs);obtain rfl:=MI hs;refine(oy p q (R++(xs.drop (k+1)).flatMap tS) _ (sq.ext X) uZ).mono ?_;rintro e bp⟨rfl,yR,oU⟩;have aCg:=sq.lt;have kQ:bp.heap[(b3:Nat)]?=some (.cells #[xs[k].nm,ar,ar,ar,.string ⟨#[]⟩] 154):=(oU.block _ (by simp) J).trans (heap_alloc_new _ _);have F1:=bT kQ;have pj:aG (·=p) b3 bp:=((aG.refl _ b3).alloc _).trans oU;obtain⟨gh,dr,eF,fN,hx,fr⟩:=aqf (show bp.heap[(b3:Nat)]?=some (.cells #[xs[k].nm,ar,ar,ar,.string ⟨#[]⟩] _ _)from kQ);replace yR:=I yR;replace kQ:=I kQ;replace pj:=I pj;by_cases fs:q=8
   ·subst fs;obtain⟨v1,v2,v3⟩:=b8.v0 h3;have tT:xs[k]=⟨xs[k].nm,8,0,0,⟨#[]⟩⟩:=by
     have eV:xs[k].s=⟨#[]⟩:=MI (by rw[v3,Dk]);have bS:xs[k].op=8:=h3.out;generalize xs[k]=t at*;obtain⟨cL,cE,a3,a4,a5⟩:=t;simp only at v1 v2 eV bS;subst v1;subst v2;subst eV;subst bS;rfl
    have tU:R= []:=by rw[oz.out,bm (show xs[k].op=8 from h3)]
    have Ku:aG (·=p) b3 (bp.setCell (b3,1) (.int .i64 (8))):=pj.setCell (b3,1) (.inr (bA _)) _;have NY:=I (yR.jD (aG.setCell (S:=λx=>x=(b3:Nat)) (aG.refl _ bp) (b3,1) (.inl rfl) (.int .i64 (8))) kQ af af);have HV:=I (Ku.bI AV (sq.gQ AV af));have NZ:=I (Ku.ext (λb aa=>by subst aa;exact ng) sr);rw[tU,lq]at NY;have DX:=NY;replace tT:=I tT;go_wp2_with (at_builtin;(refine hf (ys:=xs.take k) rfl (.tmp 35) (.tmp 37) 36 rfl eI _ 56 underlying36 mZ na nb nc rfl af rfl (HV.ext ((Z.refl _).alloc _)) (⟨xs[k].nm,8,0,0,⟨#[]⟩⟩:T) _ rfl (fc (cs:=T.cs (⟨xs[k].nm,8,0,0,⟨#[]⟩⟩:T)) (by simp[World.setCell])) (T.cN _) J af (Z.size (NZ.trans ((Z.refl _).alloc _))) ?_);intro g6 eC aCh qb ta);change Hid _ at qb;have yS:=I ((DX.ext ((Z.refl _).alloc _)).grow ta (HV.ext ((Z.refl _).alloc (.cells (T.cs (⟨xs[k].nm,8,0,0,⟨#[]⟩⟩:T)).toArray 154))) af af);have zP:=I (ta.ext (HV.ext ((Z.refl _).alloc (.cells (T.cs (⟨xs[k].nm,8,0,0,⟨#[]⟩⟩:T)).toArray 154))) (bA _) (NZ.trans ((Z.refl _).alloc _)));exact aei
   ·have HT:¬(q:Int)=8:=J;have F2:aG (·=p) b3 (bp.setCell (b3,1) (.int .i64 ((q:Int)))):=pj.setCell (b3,1) (.inr (bA _)) _;have NY:=I (yR.jD (aG.setCell (S:=λx=>x=(b3:Nat)) (aG.refl _ bp) (b3,1) (.inl rfl) (.int .i64 ((q:Int)))) kQ af af);rw[oz.out,bj (show ¬xs[k].op=8 from by rw[h3.out];exact HT)]at NY;replace F2:=I F2;have HU:=b8.v (by rw[h3.out];exact HT);replace HU:=I HU;go_wp2_with fail;refine(ad6 p xs[k].k xs[k].n xs[k].s.toList _ _ NY HU).mono ?_;rintro e cV⟨_,s9,rfl,HW,zQ⟩;obtain rfl:=MI s9;have yT:cV.heap[(b3:Nat)]?=some (.cells #[xs[k].nm,(q:Int),ar,ar,.string ⟨#[]⟩] 154):=(zQ.block _ (by simpa[World.setCell]using F1) J).trans (er kQ 1 _);replace gh:cV.cell? (b3,0)=some ↑xs[k].nm:=aI yT rfl;replace dr:cV.cell? (b3,1)=some ↑(q:Int):=aI yT rfl;replace eF:cV.cell? (b3,2)=some ↑ar:=aI yT rfl;replace fN:cV.cell? (b3,3)=some ↑ar:=aI yT rfl;replace hx:cV.cell? (b3,4)=some (.string ⟨#[]⟩):=aI yT rfl;replace fr:∀j,cV.frozen? ⟨(b3:Nat),j,none⟩=false:=λj=>nS yT;have lx:=zK (F2.trans zQ) (R:=(b3:Nat)) (.inr (bA _)) 2 3 4 xs[k].k xs[k].n xs[k].s;have HV:=I (lx.bI AV (sq.gQ AV af));have NZ:=I (lx.ext (λb aa=>by subst aa;exact ng) sr);have DX:=I (HW.jD (zK (S:=λx=>x=(b3:Nat)) (aG.refl _ cV) (R:=(b3:Nat)) (.inl rfl) 2 3 4 xs[k].k xs[k].n xs[k].s) yT af af);have tT:xs[k]=⟨xs[k].nm,(q:Int),xs[k].k,xs[k].n,xs[k].s⟩:=by
     have bS:=h3.out;generalize xs[k]=t at*;obtain⟨cL,cE,a3,a4,a5⟩:=t;simp only at bS;subst bS;rfl
    replace tT:=I tT;go_wp2_with (at_builtin;(refine hf (ys:=xs.take k) rfl (.tmp 35) (.tmp 37) 36 rfl eI _ 56 underlying36 mZ na nb nc rfl af rfl (HV.ext ((Z.refl _).alloc _)) (⟨xs[k].nm,(q:Int),xs[k].k,xs[k].n,xs[k].s⟩:T) _ rfl (fc (cs:=T.cs (⟨xs[k].nm,(q:Int),xs[k].k,xs[k].n,xs[k].s⟩:T)) (by simp[World.setCell])) (T.cN _) J af (Z.size (NZ.trans ((Z.refl _).alloc _))) ?_);intro _ _ _ qb ta);change Hid _ at qb;have yS:=I ((DX.ext ((Z.refl _).alloc _)).grow ta (HV.ext ((Z.refl _).alloc (.cells (T.cs (⟨xs[k].nm,(q:Int),xs[k].k,xs[k].n,xs[k].s⟩:T)).toArray 154))) af af);have zP:=I (ta.ext (HV.ext ((Z.refl _).alloc (.cells (T.cs (⟨xs[k].nm,(q:Int),xs[k].k,xs[k].n,xs[k].s⟩:T)).toArray 154))) (bA _) (NZ.trans ((Z.refl _).alloc _)));exact aei
  ·refine se ?_;intro b9;rw[b9]at aE;have hB:jW wr p []:=by have:=bC.out;rw[NW J]at this;exact this
   have zO:xo (mY xs)=0:=by rw[bN.nf];rfl
   replace zO:=I zO;replace hB:=I hB;go_wp2_with fail;refine(zM p _ hB).mono ?_;rintro e _⟨rfl,mq⟩;replace mq:=I mq;go_wp2_with fail;refine(RE ab k c xs _ (aE.aF.ext mq)).mono ?_;exact aeh
structure dx (i:aA):Prop where
 b:0<=i.b/\i.b<16
 l:kP i.l
 s:kP i.s
structure hP (d:bg):Prop where
 id:dx d.id
 c:0<=d.c/\d.c<32
 u:kP d.u
 k:(d.k=1/\d.u=0/\d.ts= []/\d.aS.length<=8/\∀e,e∈d.aS->zN e)\/(d.k=2/\d.aS= []/\Ck d.ts)\/(d.k=3/\d.ts= []/\d.aS= [])
def hP.rH{d:bg}(h:hP d):mo d:=by
 rcases h.k with ⟨_,_,aM,bn,cb⟩|⟨_,ak,aM⟩|⟨_,ak,aM⟩
 ·exact⟨by rw[aM];simp,J,λe he=>by have:=(cb e he).len;omega⟩
 ·exact⟨by have:=aM.len;omega,by rw[ak];simp,λe he=>by rw[ak]at he;cases he⟩
 ·exact⟨by rw[ak];simp,by rw[aM];simp,λe he=>by rw[aM]at he;cases he⟩
def SC(b l s:Int)(w:aC)(aW:0<=b)(ae:b<16):aR 196 #[.agg #[b,ad l,ad s]] w (cM (.bool true) w):=by
 go_enter func196,ntmps196;go_wp2;go_ret;refine⟨by simp[aW,ae],?_⟩;exact X
def aqy(b l s c:Int)(fA dK:bk)(fB dM:Nat)(dz:List eJ)(w:aC)(aW:0<=b)(ae:b<16)(ak:0<=c)(aM:c<32)(bN:xp w dK dz.length dM dz)(fs:dz.length<=8)(fP:∀y,y∈dz->so y.dH=true):
  aR 194 #[.agg #[bh 1,b,ad l,ad s,c,au,.slice fA 0 fB,aq dK dz.length dM]] w λe w'=>e=.returned ar/\Z w w':=by
 change Hid _ at bN fP;go_enter func194,ntmps194;go_wp2_with fail;refine(SC _ _ _ _ aW ae).mono ?_;rintro e w1⟨rfl,aa⟩;have cT:w1.cell? (w,0)=some ↑(bh 1):=aa.ah (by simp);have dJ:w1.cell? (w,4)=some ↑c:=aa.ah (by simp);have dw:w1.cell? (w,5)=some ↑au:=aa.ah (by simp);have eC:w1.cell? (w,6)=some (.slice fA 0 fB):=aa.ah (by simp);have eK:w1.cell? (w,7)=some ↑(aq dK dz.length dM):=aa.ah (by simp);refine RR ?_;intro hy;clear aa;have HT:(dz.length:Int)<=8:=J;go_wp2_with fail;go_loopg [3,4] (dz.length) (λg e1 st wr=>∃k:Nat,g+k=dz.length/\st=.int .i64 k/\e1=.bool true/\Hid (Z w1 wr));case atStart=>exact⟨0,J,rfl,by simp[HT],Z.refl _⟩
 case round=>
  obtain⟨k,_,rfl,rfl,U⟩:=hrel;have d7:=U.ah eK;by_cases hk:k<dz.length
  ·obtain⟨b,o,jS,ao⟩:=bN.aF.get k hk;have d0:=HA (w:=wr) (b:=b) (o:=o+k*1) (x:=dz[k]) (λj v aJ=>U.ah (hy.ah (ao j v aJ)));rw[jT]at d0;rw[jS]at d7;clear ao jS;have b0:(0:Int)<=(k:Int):=J;have bd:(k:Int)<(dz.length:Int):=J;go_wp2_with fail;refine(Sx _ _ _ dz[k].dH _ ((bN.dH dz[k] (c7 hk)).ext X)).mono ?_;rintro e _⟨he,lK⟩;rw[fP.out dz[k] (c7 hk)]at he;subst he;change Hid _ at lK;go_wp2;go_roundg (gk - 1);case measure=>omega
   case rel=>exact⟨k+1,J,by go_num,by simp[DW],X⟩
  exact acB
def XC(b:Bool):Int:=if b=true then 0 else 110
def aqz(b:Bool):(b=true/\xo b=0)\/(b=false/\xo b=50):=by cases b<;>simp[xo]
def aej(b l s c u:Int)(fA dK:bk)(fn fB dM:Nat)(ts:List T)(w:aC)(aW:0<=b)(ae:b<16)(ak:0<=c)(aM:c<32)(ef:a1 w 5 T.cs fA fn fB ts):
  aR 194 #[.agg #[bh 2,b,ad l,ad s,c,ad u,aq fA fn fB,.slice dK 0 dM]] w (cM (.int .i64 (XC (mY ts))) w):=by
 change Hid _ at ef;go_enter func194,ntmps194;go_wp2_with fail;refine(SC _ _ _ _ aW ae).mono ?_;rintro e w1⟨rfl,aa⟩;have cT:w1.cell? (w,0)=some ↑(bh 2):=aa.ah (by simp);have dJ:w1.cell? (w,4)=some ↑c:=aa.ah (by simp);have eC:w1.cell? (w,6)=some ↑(aq fA fn fB):=aa.ah (by simp);have eK:w1.cell? (w,7)=some (.slice dK 0 dM):=aa.ah (by simp);refine RR ?_;intro hy;clear aa;go_wp2_with fail;refine(RE _ _ _ ts _ (ef.ext X)).mono ?_;rintro e _⟨he,lK⟩;change Hid _ at lK;rcases aqz (mY ts)with ⟨h,q⟩|⟨h,q⟩;exact aek;exact aek
def aqA(b l s c u:Int)(fA dK:bk)(fB dM:Nat)(w:aC)(aW:0<=b)(ae:b<16)(ak:0<=c)(aM:c<32)(ef:a1 w 5 T.cs fA 0 fB []):
  aR 194 #[.agg #[bh 3,b,ad l,ad s,c,ad u,.slice fA 0 fB,.slice dK 0 dM]] w λe w'=>e=.returned ar/\Z w w':=by
 change Hid _ at ef;go_enter func194,ntmps194;go_wp2_with fail;refine(SC _ _ _ _ aW ae).mono ?_;rintro e w1⟨rfl,aa⟩;have cT:w1.cell? (w,0)=some ↑(bh 3):=aa.ah (by simp);have dJ:w1.cell? (w,4)=some ↑c:=aa.ah (by simp);have eC:w1.cell? (w,6)=some (.slice fA 0 fB):=aa.ah (by simp);have eK:w1.cell? (w,7)=some (.slice dK 0 dM):=aa.ah (by simp);refine RR ?_;intro hy;clear aa;go_wp2_with fail;refine(RE _ _ _ [] _ (ef.ext X)).mono ?_;rintro e _⟨he,lK⟩;change Hid _ at lK;have q:xo (mY [])=0:=rfl;rw[q]at he;subst he;clear q;go_wp2;go_ret;refine⟨rfl,?_⟩;exact X
def HX(x:b1)(d:bg)(w:aC)(fE:h0 w x d)(aD:hP d):aR 194 #[x] w λe w'=>e=.returned ar/\Z w w':=by
 obtain⟨_,_,_,_,⟨_,fn,_⟩,⟨_,eA,_⟩⟩:=x;obtain⟨ae,ak,aM,bn,cb,ey⟩:=fE;dsimp only at ae ak aM bn cb ey ⊢;subst ae;subst ak;subst aM;subst bn;have aa:=aD.id.b;have ao:=aD.c;obtain⟨dz,xF,ss⟩:=ey;have q8:=ss.aF.neq;rcases aD.k with ⟨bQ,bY,ew,fm,iQ⟩|⟨bQ,bY,ew⟩|⟨bQ,bY,ew⟩
 ·rw[bQ,bY];obtain rfl:fn=0:=by have:=cb.neq;rw[ew]at this;exact this
  subst q8;exact aqy _ _ _ _ _ _ _ _ dz w aa.1 aa.2 ao.1 ao.2 ss (by rw[<-xF,cr]at fm;exact fm) (λy hy=>(iQ y.dH (by rw[<-xF];exact mJ hy)).nf)
 ·rw[bQ];obtain rfl:eA=0:=by rw[bY]at xF;rw[HY.1 xF]at q8;exact q8
  refine(aej _ _ _ _ _ _ _ _ _ _ d.ts w aa.1 aa.2 ao.1 ao.2 cb).mono ?_;rintro e w'⟨rfl,aa⟩;rw[ew.nf];exact⟨rfl,aa⟩
 ·rw[bQ];obtain rfl:eA=0:=by rw[ew]at xF;rw[HY.1 xF]at q8;exact q8
  obtain rfl:fn=0:=by have:=cb.neq;rw[bY]at this;exact this
  rw[bY]at cb;exact aqA _ _ _ _ _ _ _ _ _ w aa.1 aa.2 ao.1 ao.2 cb
def SD(a:bk)(n cap:Nat)(xs:dR)(i:aA)(w:aC)(av:a1 w 1 cp a n cap xs)(aO:dx i)(an:n<=100000):
  aR 200 #[aq a n cap,i] w (p3 5 1 cp (xs++ia i) w):=by
 obtain⟨b,l,s⟩:=i;obtain⟨aa,aT,hs⟩:=aO;dsimp only at aa aT hs ⊢;obtain⟨q,rfl⟩:∃q:Nat,b=(q:Int):=⟨b.toNat,J⟩;obtain⟨L,rfl⟩:∃q:Nat,l=(q:Int):=⟨l.toNat,by unfold kP at aT;omega⟩;obtain⟨S,rfl⟩:∃q:Nat,s=(q:Int):=⟨s.toNat,by unfold kP at hs;omega⟩;refine SE ?_;intro fH zR;change Hid _ at av;go_enter func200,ntmps200;go_wp2_with fail;refine(j6 _ _ _ _ q _ ((av.ext X)) qc J).mono ?_;rintro e w1⟨cL,dv,_,rfl,dn,bw⟩;have hY:dv<=100010:=by
  have ae:=dn.neq;have ak:=hg q;have aM:=((av.ext X)).neq;rw[cH]at ae;omega
 have jX:w1.cell? (w,1)=some ↑(ad (L:Int)):=bw.ah (by simp);have ij:w1.cell? (w,2)=some ↑(ad (S:Int)):=bw.ah (by simp);change Hid _ at dn bw;go_wp2_with fail;refine(j6 _ _ _ _ L _ (dn.aF) qc J).mono ?_;rintro e _⟨cE,cZ,_,rfl,b7,cj⟩;have k5:cZ<=100020:=by
  have ae:=b7.neq;have ak:=hg L;have aM:=(dn.aF).neq;rw[cH]at ae;omega
 exact ael
def AW(i:aA):(ia i).length<=27:=by
 unfold ia;rw[cH,cH];exact aem
def aqB(b l s:Int)(q en:Nat)(fA dK:bk)(fB dM:Nat)(w:aC)(AX:dx ⟨b,l,s⟩)(aM:q<32)(gI:gv en)(N0:aR 194 #[.agg #[bh 3,b,ad l,ad s,(q:Int),ad (en:Int),.slice fA 0 fB,.slice dK 0 dM]] (w.alloc (.cells #[bh 3,b,ad l,ad s,(q:Int),ad (en:Int),.slice fA 0 fB,.slice dK 0 dM] 66)) λe w'=>e=.returned ar/\Z (w.alloc (.cells #[bh 3,b,ad l,ad s,(q:Int),ad (en:Int),.slice fA 0 fB,.slice dK 0 dM] 66)) w'):
  aR 198 #[.agg #[bh 3,b,ad l,ad s,(q:Int),ad (en:Int),.slice fA 0 fB,.slice dK 0 dM]] w (wN (cJ 3++(ia ⟨b,l,s⟩++(cJ q++cJ en))) w):=by
 replace AX:=I AX;go_enter func198,ntmps198;go_wp2_with fail;refine N0.mono ?_;rintro e w1⟨rfl,bw⟩;have dV:w1.cell? (w,0)=some ↑(bh 3):=bw.ah (by simp);refine XD ?_;intro bS bE eV gU;have kD:w1.cell? (w,5)=some ↑(ad (en:Int)):=bw.ah (by simp);have l5:w1.cell? (w,6)=some (.slice fA 0 fB):=bw.ah (by simp);have lO:w1.cell? (w,7)=some (.slice dK 0 dM):=bw.ah (by simp);replace bw:=I bw;go_wp2_with fail;go_region_held3 (λw'=>w'.cell? (w,0)=some ↑(bh 3)/\w'.cell? (w,1)=some ↑b/\w'.cell? (w,2)=some ↑(ad l)/\w'.cell? (w,3)=some ↑(ad s)) (first|(go_split_ands;refine⟨?_,?_,?_,?_⟩<;>exact(Hid.out hy).ah (by assumption))|go_keep) (first|(go_at_call 197;refine(j6 _ _ _ [] 3 _ (a1.nil _ cp.bH) uZ J).mono ?_;rintro e _⟨cE,cZ,_,rfl,aK,aa⟩;have k5:cZ<=10:=(by rw[aK.neq,lq];have:=hg 3;omega);have b7:=I aK;have hy:=I aa;have cj:=I aa)|(go_at_call 200;refine(SD _ _ _ _ ⟨b,l,s⟩ _ (b7.aF.ext X) AX J).mono ?_;rintro e _⟨a3,gF,_,rfl,aK,aa⟩;have cz:=I aK;have hy:=I aa;have dE:=I aa));refine XE ?_;intro vJ;replace dV:=dE.ah (cj.ah (show w1.drew.cell? _=_ from dV));replace gU:=dE.ah (cj.ah (show w1.drew.cell? _=_ from gU));replace kD:=dE.ah (cj.ah (show w1.drew.cell? _=_ from kD));replace l5:=dE.ah (cj.ah (show w1.drew.cell? _=_ from l5));replace lO:=dE.ah (cj.ah (show w1.drew.cell? _=_ from lO));go_wp2_with fail;refine XF ?_;intro b3 a4 pF dJ dW fv Cm;replace dV:=fv.ah dV;replace gU:=fv.ah gU;replace kD:=fv.ah kD;replace l5:=fv.ah l5;replace lO:=fv.ah lO;replace dW:=I dW;replace fv:=I fv;go_wp2_with fail;refine(j6 _ _ _ _ en _ (dW.aF) qc J).mono ?_;rintro e _⟨a5,jc,dw,rfl,hj,ix⟩;replace dV:=ix.ah dV;replace gU:=ix.ah gU;replace kD:=ix.ah kD;replace l5:=ix.ah l5;replace lO:=ix.ah lO;replace hj:=I hj;replace ix:=I ix;refine XG ?_;intro hh;go_wp2_with fail;go_ret2;exact⟨a5,jc,dw,rfl,hh,X⟩
def aqC(b l s:Int)(q en:Nat)(fA dK:bk)(fn fB dM:Nat)(ts:List T)(w:aC)(AX:dx ⟨b,l,s⟩)(aM:q<32)(gI:gv en)(ef:a1 w 5 T.cs fA fn fB ts)(bN:Ck ts)(N0:aR 194 #[.agg #[bh 2,b,ad l,ad s,(q:Int),ad (en:Int),aq fA fn fB,.slice dK 0 dM]] (w.alloc (.cells #[bh 2,b,ad l,ad s,(q:Int),ad (en:Int),aq fA fn fB,.slice dK 0 dM] 66)) λe w'=>e=.returned ar/\Z (w.alloc (.cells #[bh 2,b,ad l,ad s,(q:Int),ad (en:Int),aq fA fn fB,.slice dK 0 dM] 66)) w'):
  aR 198 #[.agg #[bh 2,b,ad l,ad s,(q:Int),ad (en:Int),aq fA fn fB,.slice dK 0 dM]] w (wN (cJ 2++(ia ⟨b,l,s⟩++(cJ q++(cJ en++gi (xD ts))))) w):=by
 replace AX:=I AX;replace ef:=I ef;replace bN:=I bN;go_enter func198,ntmps198;go_wp2_with fail;refine N0.mono ?_;rintro e w1⟨rfl,bw⟩;have dV:w1.cell? (w,0)=some ↑(bh 2):=bw.ah (by simp);refine XD ?_;intro bS bE eV gU;have kD:w1.cell? (w,5)=some ↑(ad (en:Int)):=bw.ah (by simp);have l5:w1.cell? (w,6)=some ↑(aq fA fn fB):=bw.ah (by simp);have lO:w1.cell? (w,7)=some (.slice dK 0 dM):=bw.ah (by simp);replace bw:=I bw;go_wp2_with fail;go_region_held3 (λw'=>w'.cell? (w,0)=some ↑(bh 2)/\w'.cell? (w,1)=some ↑b/\w'.cell? (w,2)=some ↑(ad l)/\w'.cell? (w,3)=some ↑(ad s)) (first|(go_split_ands;refine⟨?_,?_,?_,?_⟩<;>exact(Hid.out hy).ah (by assumption))|go_keep) (first|(go_at_call 197;refine(j6 _ _ _ [] 2 _ (a1.nil _ cp.bH) uZ J).mono ?_;rintro e _⟨cE,cZ,_,rfl,aK,aa⟩;have k5:cZ<=10:=(by rw[aK.neq,lq];have:=hg 2;omega);have b7:=I aK;have hy:=I aa;have cj:=I aa)|(go_at_call 200;refine(SD _ _ _ _ ⟨b,l,s⟩ _ (b7.aF.ext X) AX J).mono ?_;rintro e _⟨a3,gF,_,rfl,aK,aa⟩;have cz:=I aK;have hy:=I aa;have dE:=I aa));refine XE ?_;intro vJ;replace dV:=dE.ah (cj.ah (show w1.drew.cell? _=_ from dV));replace gU:=dE.ah (cj.ah (show w1.drew.cell? _=_ from gU));replace kD:=dE.ah (cj.ah (show w1.drew.cell? _=_ from kD));replace l5:=dE.ah (cj.ah (show w1.drew.cell? _=_ from l5));replace lO:=dE.ah (cj.ah (show w1.drew.cell? _=_ from lO));go_wp2_with fail;refine XF ?_;intro b3 a4 pF dJ dW fv Cm;replace dV:=fv.ah dV;replace gU:=fv.ah gU;replace kD:=fv.ah kD;replace l5:=fv.ah l5;replace lO:=fv.ah lO;replace dW:=I dW;replace fv:=I fv;go_wp2_with fail;refine(j6 _ _ _ _ en _ (dW.aF) qc J).mono ?_;rintro e _⟨a5,jc,_,rfl,hj,ix⟩;have XH:jc<=80:=by
  have ae:=hj.neq;have ak:=hg en;have aM:=(dW.aF).neq;rw[cH]at ae;omega
 replace dV:=ix.ah dV;replace gU:=ix.ah gU;replace kD:=ix.ah kD;replace l5:=ix.ah l5;replace lO:=ix.ah lO;replace hj:=I hj;replace ix:=I ix;refine XG ?_;intro hh;go_wp2_with fail;refine(aqv _ _ _ ts _ (ef.ext X) bN).mono ?_;rintro e _⟨rG,n6,_,rfl,k4,lL⟩;have Cn:n6<=1000:=by rw[k4.neq];exact Xz bN
 replace k4:=I k4;replace lL:=I lL;go_wp2_with fail;refine(HP _ _ _ _ _ _ _ _ _ (hj.aF.ext lL) k4.aF J J).mono ?_;rintro e _⟨nA,n7,eK,rfl,lv,mq⟩;replace lv:=I lv;replace mq:=I mq;go_wp2;go_ret2;refine⟨nA,n7,eK,rfl,?_,X⟩;have h:=lv.mono (aDn:=(w:Nat)) (Z.size X);rw[lq]at h;exact HS
def aqD(b l s:Int)(q:Nat)(fA dK:bk)(fB dM:Nat)(dz:List eJ)(w:aC)(AX:dx ⟨b,l,s⟩)(aM:q<32)(bN:xp w dK dz.length dM dz)(fs:dz.length<=8)(fP:∀y,y∈dz->zN y.dH)(N0:aR 194 #[.agg #[bh 1,b,ad l,ad s,(q:Int),au,.slice fA 0 fB,aq dK dz.length dM]] (w.alloc (.cells #[bh 1,b,ad l,ad s,(q:Int),au,.slice fA 0 fB,aq dK dz.length dM] 66)) λe w'=>e=.returned ar/\Z (w.alloc (.cells #[bh 1,b,ad l,ad s,(q:Int),au,.slice fA 0 fB,aq dK dz.length dM] 66)) w'):
  aR 198 #[.agg #[bh 1,b,ad l,ad s,(q:Int),au,.slice fA 0 fB,aq dK dz.length dM]] w (wN (cJ 1++(ia ⟨b,l,s⟩++(cJ q++(cJ 0++(cJ dz.length++dz.flatMap (λy=>gi (oS y.dH))))))) w):=by
 replace AX:=I AX;replace bN:=I bN;replace fP:=I fP;go_enter func198,ntmps198;go_wp2_with fail;refine N0.mono ?_;rintro e w1⟨rfl,bw⟩;have dV:w1.cell? (w,0)=some ↑(bh 1):=bw.ah (by simp);refine XD ?_;intro bS bE eV gU;have kD:w1.cell? (w,5)=some ↑au:=bw.ah (by simp);have l5:w1.cell? (w,6)=some (.slice fA 0 fB):=bw.ah (by simp);have lO:w1.cell? (w,7)=some ↑(aq dK dz.length dM):=bw.ah (by simp);replace bw:=I bw;go_wp2_with fail;go_region_held3 (λw'=>w'.cell? (w,0)=some ↑(bh 1)/\w'.cell? (w,1)=some ↑b/\w'.cell? (w,2)=some ↑(ad l)/\w'.cell? (w,3)=some ↑(ad s)) (first|(go_split_ands;refine⟨?_,?_,?_,?_⟩<;>exact(Hid.out hy).ah (by assumption))|go_keep) (first|(go_at_call 197;refine(j6 _ _ _ [] 1 _ (a1.nil _ cp.bH) uZ J).mono ?_;rintro e _⟨cE,cZ,_,rfl,aK,aa⟩;have k5:cZ<=10:=(by rw[aK.neq,lq];have:=hg 1;omega);have b7:=I aK;have hy:=I aa;have cj:=I aa)|(go_at_call 200;refine(SD _ _ _ _ ⟨b,l,s⟩ _ (b7.aF.ext X) AX J).mono ?_;rintro e _⟨a3,gF,_,rfl,aK,aa⟩;have cz:=I aK;have hy:=I aa;have dE:=I aa));refine XE ?_;intro vJ;replace dV:=dE.ah (cj.ah (show w1.drew.cell? _=_ from dV));replace gU:=dE.ah (cj.ah (show w1.drew.cell? _=_ from gU));replace kD:=dE.ah (cj.ah (show w1.drew.cell? _=_ from kD));replace l5:=dE.ah (cj.ah (show w1.drew.cell? _=_ from l5));replace lO:=dE.ah (cj.ah (show w1.drew.cell? _=_ from lO));go_wp2_with fail;refine XF ?_;intro b3 a4 pF dJ dW fv Cm;replace dV:=fv.ah dV;replace gU:=fv.ah gU;replace kD:=fv.ah kD;replace l5:=fv.ah l5;replace lO:=fv.ah lO;replace dW:=I dW;replace fv:=I fv;go_wp2_with fail;refine(j6 _ _ _ _ 0 _ (dW.aF) qc J).mono ?_;rintro e _⟨a5,jc,_,rfl,hj,ix⟩;have XH:jc<=80:=by
  have ae:=hj.neq;have ak:=hg 0;have aM:=(dW.aF).neq;rw[cH]at ae;omega
 replace dV:=ix.ah dV;replace gU:=ix.ah gU;replace kD:=ix.ah kD;replace l5:=ix.ah l5;replace lO:=ix.ah lO;replace hj:=I hj;replace ix:=I ix;refine XG ?_;intro hh;go_wp2_with fail;refine(j6 _ _ _ _ dz.length _ (hj.aF) qc J).mono ?_;rintro e _⟨rG,n6,_,rfl,k4,lL⟩;have Cn:n6<=90:=by
  have ae:=k4.neq;have ak:=hg dz.length;have aM:=(hj.aF).neq;rw[cH]at ae;omega
 replace lO:=lL.ah lO;replace k4:=I k4;replace lL:=I lL;have j7:=k4.mono (aDn:=(w:Nat)) (Z.size X);rw[lq]at j7;simp only[iI]at j7;replace j7:=I j7;go_wp2_with fail;obtain⟨aqE,aen⟩:∃P,P=cJ 1++(ia ⟨b,l,s⟩++(cJ q++(cJ 0++cJ dz.length))):=⟨_,rfl⟩;go_loopg [5,46] (dz.length) (λg e1 st wr=>∃(k:Nat) (ab:bk) (m c:Nat),g+k=dz.length/\st=.int .i64 k/\e1=.slice ab m c/\m<=90+1720*k/\Hid (Own wr w 5 1 cp ab m c (aqE++(dz.take k).flatMap (λy=>gi (oS y.dH))))/\Hid (Z w wr));case atStart=>exact⟨0,_,_,_,J,rfl,rfl,J,(by rw[DS,N1,mH,aen];exact j7),X⟩
 case round=>
  obtain⟨k,ab,m,c,_,rfl,rfl,_,aE,U⟩:=hrel;by_cases hk:k<dz.length
  ·obtain⟨cK,o,rfl,ao⟩:=bN.aF.get k hk;have ch:Z w wr:=U.out;have d0:=HA (w:=wr) (b:=cK) (o:=o+k*1) (x:=dz[k]) (λj v aJ=>ch.ah (ao j v aJ));rw[jT]at d0;have p8:=I ((bN.dH dz[k] (c7 hk)).ext ch);have HZ:=I (fP dz[k] (c7 hk));have b0:(0:Int)<=(k:Int):=J;have bd:(k:Int)<(dz.length:Int):=J;go_wp2_with fail;refine(aqr _ _ _ dz[k].dH _ p8 HZ).mono ?_;rintro e _⟨nA,n7,_,rfl,lv,mq⟩;have aeo:n7<=1700:=by rw[lv.neq];exact Sw HZ
   replace lv:=I lv;replace mq:=I mq;go_wp2_with fail;refine(HP _ _ _ _ _ _ _ _ _ (aE.aF.ext mq) lv.aF J J).mono ?_;rintro e _⟨_,n8,_,rfl,su,jl⟩;have aqF:n8<=90+1720*(k+1):=by
    have ae:=su.neq;have ak:=xA (oS dz[k].dH).length;have bn:=Sw HZ;rw[cH,<-aE.neq,yP]at ae;omega
   replace su:=I su;replace jl:=I jl;go_wp2_with fail;go_roundg (gk - 1);case measure=>omega
   case rel=>
    refine⟨k+1,_,_,_,J,by go_num,rfl,aqF,?_,X⟩;have h:=su.mono (aDn:=(w:Nat)) (Z.size X);rw[iX hk,xk,MK,<-iI];exact h
  ·refine Ke ?_;intro b9;rw[b9]at aE;go_wp2;go_ret2;refine⟨ab,m,c,rfl,?_,X⟩;have h:=aE.out;rw[aen]at h;exact HS
def aqG(f:List cd->dR)(dz:List eJ):dz.flatMap (λy=>f y.dH)=(dz.map (·.dH)).flatMap f:=by rw[List.flatMap_map]
def XI(x:b1)(d:bg)(w:aC)(fE:h0 w x d)(aD:hP d):aR 198 #[x] w (wN (hA d) w):=by
 obtain⟨_,⟨b,l,s⟩,hM,mL,⟨fA,fn,fB⟩,⟨dK,eA,dM⟩⟩:=x;obtain⟨_,_,_,_,N2,_⟩:=d;have ch:=λo:Obj=>fE.ext ((Z.refl w).alloc o);obtain⟨ae,ak,aM,bn,cb,ey⟩:=fE;dsimp only at ae ak aM bn cb ey ⊢;subst ae;subst ak;subst aM;subst bn;have aa:=aD.id.b;have ao:=aD.c;have al:=aD.u;have I:=aD.id;have hk:=aD.k;dsimp only at aa ao al I hk;obtain⟨q,rfl⟩:∃q:Nat,hM=(q:Int):=⟨hM.toNat,J⟩;obtain⟨en,rfl⟩:∃q:Nat,mL=(q:Int):=⟨mL.toNat,by unfold kP at al;omega⟩;have gI:gv en:=by unfold kP at al;unfold gv;omega
 obtain⟨dz,xF,ss⟩:=ey;have q8:=ss.aF.neq;have bq:q<32:=J;have yU:=λo:Obj=>HX _ _ _ (ch o) aD;dsimp only at yU;rcases hk with ⟨rfl,bY,rfl,fm,iQ⟩|⟨rfl,rfl,ew⟩|⟨rfl,rfl,rfl⟩
 ·obtain rfl:fn=0:=cb.neq;subst q8;obtain rfl:en=0:=J;have h:=aqD b l s q fA dK fB dM dz w I bq ss (by rw[<-xF,cr]at fm;exact fm) (λy hy=>iQ y.dH (by rw[<-xF];exact mJ hy)) (yU _);unfold hA;rw[bm rfl,<-xF,cr,<-aqG (λe=>gi (oS e))];exact h
 ·rw[HY.1 xF]at q8;obtain rfl:eA=0:=q8;have h:=aqC b l s q en fA dK fn fB dM N2 w I bq gI cb ew (yU _);unfold hA;rw[bj (show ¬(2:Int)=1 by decide),bm rfl];exact h
 ·rw[HY.1 xF]at q8;obtain rfl:eA=0:=q8;obtain rfl:fn=0:=cb.neq;have h:=aqB b l s q en fA dK fB dM w I bq gI (yU _);unfold hA;rw[bj (show ¬(3:Int)=1 by decide),bj (show ¬(3:Int)=2 by decide),mH];exact h
def AY(p m:Nat)(L:Int)(xs:dR)(w:aC)(bC:jW w p (cJ m++xs))(hm:(m:Int)<L)(fH:L<=1000):
  aR 127 #[p,L] w λe w'=>e=.returned (m:Int)/\jW w' p xs/\aG (·=p) w w':=by
 go_enter func127,ntmps127;go_wp2_with fail;refine(oy p m xs _ bC uZ).mono ?_;rintro e _⟨rfl,H1,dZ⟩;change Hid _ at H1 dZ;have aCi:IntKind.u64.wrap L=L:=by simp only[wrap64,IntKind.wrap_u64];omega
 have aCj:wrap64 (m:Int)=(m:Int):=by simp only[wrap64];omega
 go_wp2_with fail;go_ret;refine⟨jC ?_,H1,dZ⟩;omega
def N3(p:Nat)(i:aA)(xs:dR)(w:aC)(cR:jW w p (ia i++xs))(aO:dx i):
  aR 131 #[p] w λe w'=>e=.returned (.agg #[i.b,ad i.l,ad i.s])/\jW w' p xs/\aG (·=p) w w':=by
 obtain⟨b,l,s⟩:=i;obtain⟨aa,aT,hs⟩:=aO;dsimp only at aa aT hs ⊢;obtain⟨q,rfl⟩:∃q:Nat,b=(q:Int):=⟨b.toNat,J⟩;obtain⟨L,rfl⟩:∃q:Nat,l=(q:Int):=⟨l.toNat,by unfold kP at aT;omega⟩;obtain⟨S,rfl⟩:∃q:Nat,s=(q:Int):=⟨s.toNat,by unfold kP at hs;omega⟩;refine SE ?_;intro fH zR;unfold ia at cR;simp only[iI,nQ]at cR;have aV:=cR.lt;change Hid _ at cR;clear aT hs;go_enter func131,ntmps131;go_wp2_with fail;refine(AY p q 16 (cJ L++(cJ S++xs)) _ (cR.ext X) J af).mono ?_;rintro e w1⟨rfl,c6,tV⟩;have km:w1.heap[(w:Nat)]?=some (kR:Obj):=(tV.block _ (by simp) J).trans (heap_alloc_new _ _);have xG:=c6.lt;have h8:aG (·=p) w w1:=((aG.refl _ w).alloc _).trans tV;change Hid _ at c6 h8 km;clear tV;go_wp2_with fail;refine(oy p L (cJ S++xs) _ (c6.ext X) fH).mono ?_;rintro e aN⟨rfl,de,eW⟩;refine aep ?_;intro tb tc;have jk:aG (·=p) w aN:=(h8.alloc _).trans eW;obtain⟨cF,cP,cQ,e7⟩:=sn (show aN.heap[(w1:Nat)]?=some (.cells #[(q:Int),au,au] _ _)from tc);have Co:=bT tc;have ft:=h8.size;change Hid _ at de jk tb tc;clear eW;go_wp2_with fail;have di:¬w.heap.size=w1.heap.size:=sv (bT km);have aeq:aG (·=p) w (aN.setCell ⟨w1.heap.size,1,none⟩ (.int .u64 (L:Int))):=jk.setCell ⟨w1.heap.size,1,none⟩ (.inr ft) _;have N4:aG (λx=>x=w1.heap.size) aN (aN.setCell ⟨w1.heap.size,1,none⟩ (.int .u64 (L:Int))):=aG.setCell (S:=λx=>x=w1.heap.size) (aG.refl _ aN) ⟨w1.heap.size,1,none⟩ (.inl rfl) _;refine(oy p S xs _ (de.jD N4 tc af af) zR).mono ?_;rintro e aY⟨rfl,h9,h4⟩;have H0:aY.heap[(w1:Nat)]?=some (.cells #[(q:Int),ad (L:Int),au] 54):=(h4.block _ (gw Co N4.size) J).trans (er tc 1 _);have DY:aY.heap[(w:Nat)]?=some (kR:Obj):=(h4.block _ (gw (bT tb) N4.size) J).trans ((N4.block _ (bT tb) di).trans tb);have iK:=aeq.trans h4;clear cF cP cQ e7;obtain⟨_,_,_,_⟩:=sn (show aY.heap[(w1:Nat)]?=some (.cells #[(q:Int),ad (L:Int),au] _ _)from H0);obtain⟨z0,cU,z2,_⟩:=sn (show aY.heap[(w:Nat)]?=some (.cells #[ar,au,au] _ _)from DY);change Hid _ at h9 iK DY H0;clear h4 aeq N4;go_wp2_with fail;refine aer ?_;intro yV;have oA:=h9.jD yV H0 af af;have fN:=(yV.block _ (bT DY) di).trans DY;refine bodyPost_ret (v:=.agg #[(q:Int),ad (L:Int),ad (S:Int)]) (by simp[results,results131,go_sem,z0,cU,z2,di]) rfl ⟨rfl,oA.jD (zK (S:=λx=>x=w.heap.size) (aG.refl _ _) (R:=w.heap.size) (.inl rfl) 0 1 2 _ _ _) fN af af,zK (iK.setCell ⟨w1.heap.size,2,none⟩ (.inr ft) _) (.inr (bA _)) 0 1 2 _ _ _⟩
section
def Own.eQ{w:aC}{B:Nat}{t:TypeId}{c:α->List Value}{ys:List α}{cs:Array Value}(h:Own w base e sz c aw n cap ys)(aa:w.heap[B]?=some (.cells cs t fr))(di:e≠t):∀ai,aw=some ai->¬ai.block=B:=by
 intro _ aj bq;subst aj;rcases h.row.2 with ⟨bo,_⟩|⟨g,aQ,cur,bo,_,bu,_⟩
 ·cases bo
 ·simp only[Value.slice.injEq,Option.some.injEq]at bo;obtain⟨rfl,_⟩:=bo;exact DT bu aa di bq
structure l6 (bs w:World) (t:TypeId) (p R B:Nat) (cs aX:Array Value) (xs:List UInt8):Prop where
 hn:jW w p xs
 r:w.heap[R]?=some (.cells aX t)
 b:w.heap[B]?=some (.cells cs t)
 ext:Z bs w
 aV:bs.heap.size<=p
 bC:bs.heap.size<=R
 br:bs.heap.size<=B
 fI:¬R=B
 DZ:t≠274
 N5:t≠5
section
variable {bs w w':World}{t:TypeId}{p R B:Nat}{cs aX:Array Value}{xs ys:List UInt8}
def l6.gx(h:l6 bs w t p R B cs aX xs):¬R=p:=let ⟨_,_,_,k,_⟩:=h.hn.ct;DT h.r k h.DZ
def l6.aqH(h:l6 bs w t p R B cs aX xs):¬B=p:=let ⟨_,_,_,k,_⟩:=h.hn.ct;DT h.b k h.DZ
def l6.oB(h:l6 bs w t p R B cs aX xs)(ax:jW w' p ys)(al:aG (λx=>x=p) w w'):l6 bs w' t p R B cs aX ys:=
 ⟨ax,(al.block _ (bT h.r) h.gx).trans h.r,(al.block _ (bT h.b) h.aqH).trans h.b,al.ext (λb aa=>by subst aa;exact h.aV) h.ext,h.aV,h.bC,h.br,h.fI,h.DZ,h.N5⟩
def l6.qd(h:l6 bs w t p R B cs aX xs)(U:Z w w'):l6 bs w' t p R B cs aX xs:=
 ⟨h.hn.ext U,(U.block _ (bT h.r)).trans h.r,(U.block _ (bT h.b)).trans h.b,h.ext.trans U,h.aV,h.bC,h.br,h.fI,h.DZ,h.N5⟩
def l6.set(h:l6 bs w t p R B cs aX xs)(j:Nat)(v:Value):l6 bs (w.setCell (B,j) v) t p R B (cs.setIfInBounds j v) aX xs:=by
 have en:aG (λx=>x=B) w (w.setCell (B,j) v):=aG.setCell (S:=λx=>x=B) (aG.refl _ w) (B,j) (.inl rfl) v;exact⟨h.hn.jD en h.b h.DZ h.N5,(en.block _ (bT h.r) h.fI).trans h.r,er h.b j v,h.ext.setCell h.br v,h.aV,h.bC,h.br,h.fI,h.DZ,h.N5⟩
def l6.jF(h:l6 bs w t p R B cs aX xs)(j:Nat)(v:Value){cs':Array Value}(he:cs.setIfInBounds j v=cs'):l6 bs (w.setCell (B,j) v) t p R B cs' aX xs:=he▸h.set j v
def l6.grow{c:α->List Value}{g:Nat}{cq:List α}(h:l6 bs w t p R B cs aX xs)(bu:lH w w' aw g)(aK:Own w base e sz c aw n cap cq)(jH:(bs:Nat)<=base)(ae:e≠274)(ak:e≠5)(aM:e≠t):l6 bs w' t p R B cs aX xs:=
 ⟨h.hn.grow bu aK ae ak,(bu.block _ (bT h.r) (λai aj k=>aK.eQ h.r aM ai aj k)).trans h.r,(bu.block _ (bT h.b) (λai aj k=>aK.eQ h.b aM ai aj k)).trans h.b,bu.ext aK jH h.ext,h.aV,h.bC,h.br,h.fI,h.DZ,h.N5⟩
def l6.bI{c:α->List Value}{cq:List α}(h:l6 bs w t p R B cs aX xs)(aK:Own w base e sz c aw n cap cq)(di:e≠t)(j:Nat)(v:Value):Own (w.setCell (B,j) v) base e sz c aw n cap cq:=
 (aG.setCell (S:=λx=>x=B) (aG.refl _ w) (B,j) (.inl rfl) v).bI aK (aK.eQ h.b di)
def l6.aes{c:α->List Value}{cq:List α}(h:l6 bs w t p R B cs aX xs)(aK:Own w base e sz c aw n cap cq)(di:e≠274)(al:aG (λx=>x=p) w w'):Own w' base e sz c aw n cap cq:=
 al.bI aK (h.hn.gQ aK di)
def l6.XJ{c:α->List Value}{cq:List α}(h:l6 bs w t p R B cs aX xs)(aK:Own w base e sz c aw n cap cq)(di:e≠t)(al:aG (λx=>x=R) w w'):Own w' base e sz c aw n cap cq:=
 al.bI aK (aK.eQ h.r di)
end
def AZ{w w':aC}{R:Nat}(h:aG S w w')(bC:S R\/(w:Nat)<=R)(v0 v1 v2 v3 v4 v5 v6 gy:Value):aG S w ((((((((w'.setCell (R,0) v0).setCell (R,1) v1).setCell (R,2) v2).setCell (R,3) v3).setCell (R,4) v4).setCell (R,5) v5).setCell (R,6) v6).setCell (R,7) gy):=
 (((((((h.setCell ⟨R,0,none⟩ bC v0).setCell ⟨R,1,none⟩ bC v1).setCell ⟨R,2,none⟩ bC v2).setCell ⟨R,3,none⟩ bC v3).setCell ⟨R,4,none⟩ bC v4).setCell ⟨R,5,none⟩ bC v5).setCell ⟨R,6,none⟩ bC v6).setCell ⟨R,7,none⟩ bC gy
end
def N6(d:bg)(w:World)(e:Ending)(w':World):Prop:=∃x:b1,e=.returned (.tuple #[x,ar])/\fO w' w.heap.size x d/\Z w w'
def aqI(a:bk)(n cap:Nat)(i:aA)(q en:Nat)(w:aC)(av:a1 w 1 cp a n cap (cJ 3++(ia i++(cJ q++(cJ en++[])))))(an:n<=100000)(bb:dx i)(bq:q<32)(gI:gv en):
  aR 129 #[aq a n cap] w (N6 ⟨3,i,(q:Int),(en:Int),[],[]⟩ w):=by
 change Hid _ at av bb;refine XK ?_;intro _ _ _ _ w1 p ng c6 fg mO km bw;change Hid _ at c6 km;clear fg;go_wp2_with fail;refine(AY p 3 4 _ _ c6 af af).mono ?_;refine Kv ?_;intro aN mP eW kn
 have hQ:l6 w (aN.alloc (.cells #[bh 3,ar,au,au,ar,au,(.slice none 0 0),(.slice none 0 0)] 66)) 66 p w (aN:Nat) #[bh 3,ar,au,au,ar,au,(.slice none 0 0),(.slice none 0 0)] #[ar,ar,au,au,ar,au,aH,aH] _:=
  ⟨mP.ext ((Z.refl aN).alloc _),(((Z.refl aN).alloc _).block _ (bT kn)).trans kn,heap_alloc_new _ _,(eW.ext (λb aa=>by subst aa;exact lr mO) bw).alloc _,lr mO,bA _,eh bw.size eW.size,sv (bT kn),af,af⟩
 change Hid _ at hQ;clear mP eW kn ng mO;go_wp2_with fail;refine(N3 p i _ _ hQ.hn bb).mono ?_;rintro e aY⟨rfl,tW,h4⟩;have mQ:=hQ.oB tW h4;clear hQ;obtain⟨cF,cP,cQ,dd,ds,dm,dt,du,e7⟩:=kl (show aY.heap[(aN:Nat)]?=some (.cells #[bh 3,ar,au,au,ar,au,(.slice none 0 0),(.slice none 0 0)] _ _)from mQ.b);have kS:=((mQ.jF 1 i.b rfl).jF 2 (ad i.l) rfl).jF 3 (ad i.s) rfl;change Hid _ at kS;clear mQ tW h4;go_wp2_with fail;refine XL ?_;intro b3 vL nT oV;clear kS cF cP cQ dd ds dm dt du e7;obtain⟨cF,cP,cQ,dd,ds,dm,dt,du,e7⟩:=kl (show b3.heap[(aN:Nat)]?=some (.cells #[bh 3,i.b,ad i.l,ad i.s,ar,au,(.slice none 0 0),(.slice none 0 0)] _ _)from oV.b);have k9:=oV.jF 4 (q:Int) rfl;change Hid _ at k9;clear oV vL nT;go_wp2_with fail;refine(oy p en _ _ k9.hn gI).mono ?_;rintro e bp⟨rfl,jm,oU⟩;have nU:=k9.oB jm oU;clear k9 cF cP cQ dd ds dm dt du e7;obtain⟨cF,cP,cQ,dd,ds,dm,dt,du,e7⟩:=kl (show bp.heap[(aN:Nat)]?=some (.cells #[bh 3,i.b,ad i.l,ad i.s,(q:Int),au,(.slice none 0 0),(.slice none 0 0)] _ _)from nU.b);have q9:=nU.jF 5 (ad (en:Int)) rfl;change Hid _ at q9;clear nU jm oU;go_wp2_with fail;refine(zM p _ q9.hn).mono ?_;rintro e eb⟨rfl,jl⟩;have kT:=q9.qd jl;change Hid _ at jl;clear q9;obtain⟨cF,cP,cQ,dd,ds,dm,dt,du,e7⟩:=kl (show eb.heap[(aN:Nat)]?=some (.cells #[bh 3,i.b,ad i.l,ad i.s,(q:Int),ad (en:Int),(.slice none 0 0),(.slice none 0 0)] _ _)from kT.b);change Hid _ at kT;go_wp2_with fail;refine(HX ⟨3,i,(q:Int),(en:Int),⟨none,0,0⟩,⟨none,0,0⟩⟩ ⟨3,i,(q:Int),(en:Int),[],[]⟩ _ ⟨rfl,rfl,rfl,rfl,a1.nil _ T.bH,⟨[],rfl,a1.nil _ eJ.bH,λx U=>by cases U⟩⟩ ⟨bb,⟨show(0:Int)<=(q:Int) by omega,show(q:Int)<32 by omega⟩,kP.Xu gI,.inr (.inr ⟨rfl,rfl,rfl⟩)⟩).mono ?_;rintro e cG⟨rfl,oC⟩;have jY:=kT.qd oC;change Hid _ at oC;clear kT cF cP cQ dd ds dm dt du e7;obtain⟨_,_,_,_,_,_,_,_,_⟩:=kl (show cG.heap[(aN:Nat)]?=some (.cells #[bh 3,i.b,ad i.l,ad i.s,(q:Int),ad (en:Int),(.slice none 0 0),(.slice none 0 0)] _ _)from jY.b);refine XM ?_;intro z0 cU z2 z3 z4 z5 ga fk mx di;change Hid _ at jY;go_wp2_with fail;have iy:=AZ (S:=λx=>x=(w:Nat)) (aG.refl _ cG) (R:=(w:Nat)) (.inl rfl) (bh 3) i.b (ad i.l) (ad i.s) (q:Int) (ad (en:Int)) ((.slice none 0 0)) ((.slice none 0 0));refine bodyPost_ret (v:=.tuple #[.agg #[bh 3,i.b,ad i.l,ad i.s,(q:Int),ad (en:Int),(.slice none 0 0),(.slice none 0 0)],ar]) XN rfl ⟨⟨3,i,(q:Int),(en:Int),⟨none,0,0⟩,⟨none,0,0⟩⟩,rfl,⟨rfl,rfl,rfl,rfl,Own.nil _ _ _ T.bH,[],rfl,Own.nil _ _ _ eJ.bH,λy hy=>by cases hy⟩,iy.ext (λb aa=>by subst aa;exact bA _) jY.ext⟩
def aqJ(a:bk)(n cap:Nat)(i:aA)(q en:Nat)(ts:List T)(w:aC)(av:a1 w 1 cp a n cap (cJ 2++(ia i++(cJ q++(cJ en++(gi (xD ts)++[]))))))(an:n<=100000)(aT:(xD ts).length<=n)(bb:dx i)(bq:q<32)(gI:gv en)(bN:Ck ts):
  aR 129 #[aq a n cap] w (N6 ⟨2,i,(q:Int),(en:Int),ts,[]⟩ w):=by
 replace av:=I av;replace bb:=I bb;replace bN:=I bN;refine XK ?_;intro _ _ _ _ w1 p ng c6 fg mO km bw;replace c6:=I c6;replace km:=I km;clear fg;go_wp2_with fail;refine(AY p 2 4 _ _ c6 af af).mono ?_;refine Kv ?_;intro aN mP eW kn
 have hQ:l6 w (aN.alloc (.cells #[bh 2,ar,au,au,ar,au,(.slice none 0 0),(.slice none 0 0)] 66)) 66 p w (aN:Nat) #[bh 2,ar,au,au,ar,au,(.slice none 0 0),(.slice none 0 0)] #[ar,ar,au,au,ar,au,aH,aH] _:=
  ⟨mP.ext ((Z.refl aN).alloc _),(((Z.refl aN).alloc _).block _ (bT kn)).trans kn,heap_alloc_new _ _,(eW.ext (λb aa=>by subst aa;exact lr mO) bw).alloc _,lr mO,bA _,eh bw.size eW.size,sv (bT kn),af,af⟩
 replace hQ:=I hQ;clear mP eW kn ng mO;go_wp2_with fail;refine(N3 p i _ _ hQ.hn bb).mono ?_;rintro e aY⟨rfl,tW,h4⟩;have mQ:=hQ.oB tW h4;clear hQ;obtain⟨cF,cP,cQ,dd,ds,dm,dt,du,e7⟩:=kl (show aY.heap[(aN:Nat)]?=some (.cells #[bh 2,ar,au,au,ar,au,(.slice none 0 0),(.slice none 0 0)] _ _)from mQ.b);have kS:=((mQ.jF 1 i.b rfl).jF 2 (ad i.l) rfl).jF 3 (ad i.s) rfl;replace kS:=I kS;clear mQ tW h4;go_wp2_with fail;refine XL ?_;intro b3 vL nT oV;clear kS cF cP cQ dd ds dm dt du e7;obtain⟨cF,cP,cQ,dd,ds,dm,dt,du,e7⟩:=kl (show b3.heap[(aN:Nat)]?=some (.cells #[bh 2,i.b,ad i.l,ad i.s,ar,au,(.slice none 0 0),(.slice none 0 0)] _ _)from oV.b);have k9:=oV.jF 4 (q:Int) rfl;replace k9:=I k9;clear oV vL nT;go_wp2_with fail;refine(oy p en _ _ k9.hn gI).mono ?_;rintro e bp⟨rfl,jm,oU⟩;have nU:=k9.oB jm oU;clear k9 cF cP cQ dd ds dm dt du e7;obtain⟨cF,cP,cQ,dd,ds,dm,dt,du,e7⟩:=kl (show bp.heap[(aN:Nat)]?=some (.cells #[bh 2,i.b,ad i.l,ad i.s,(q:Int),au,(.slice none 0 0),(.slice none 0 0)] _ _)from nU.b);have q9:=nU.jF 5 (ad (en:Int)) rfl;replace q9:=I q9;clear nU jm oU;go_wp2_with fail;refine(DU p (n:Int) (xD ts) [] _ q9.hn J J J).mono ?_;rintro e _⟨_,_,rfl,k4,HW,zQ⟩;have alr:=q9.oB HW zQ;replace k4:=I k4;replace alr:=I alr;clear q9 HW zQ cF cP cQ dd ds dm dt du e7;go_wp2_with fail;refine(aqx _ _ _ ts _ k4.aF bN).mono ?_;rintro e df⟨nA,n7,eK,rfl,aet,aeu⟩;have SF:=alr.qd aeu;obtain⟨cF,cP,cQ,dd,ds,dm,dt,du,e7⟩:=kl (show df.heap[(aN:Nat)]?=some (.cells #[bh 2,i.b,ad i.l,ad i.s,(q:Int),ad (en:Int),(.slice none 0 0),(.slice none 0 0)] _ _)from SF.b);have A0:=SF.jF 6 (aq nA n7 eK) rfl;have lv:=SF.bI (aet.mono (aDn:=(w:Nat)) alr.ext.size) af 6 (aq nA n7 eK);replace A0:=I A0;replace lv:=I lv;clear alr SF aet aeu;go_wp2_with fail;clear cF cP cQ dd ds dm dt du e7;refine(zM p _ A0.hn).mono ?_;rintro e eb⟨rfl,jl⟩;have kT:=A0.qd jl;replace jl:=I jl;clear A0;obtain⟨cF,cP,cQ,dd,ds,dm,dt,du,e7⟩:=kl (show eb.heap[(aN:Nat)]?=some (.cells #[bh 2,i.b,ad i.l,ad i.s,(q:Int),ad (en:Int),aq nA n7 eK,(.slice none 0 0)] _ _)from kT.b);replace kT:=I kT;go_wp2_with fail;refine(HX ⟨2,i,(q:Int),(en:Int),⟨nA,n7,eK⟩,⟨none,0,0⟩⟩ ⟨2,i,(q:Int),(en:Int),ts,[]⟩ _ ⟨rfl,rfl,rfl,rfl,lv.aF.ext jl,⟨[],rfl,a1.nil _ eJ.bH,λx U=>by cases U⟩⟩ ⟨bb,⟨show(0:Int)<=(q:Int) by omega,show(q:Int)<32 by omega⟩,kP.Xu gI,.inr (.inl ⟨rfl,rfl,bN⟩)⟩).mono ?_;rintro e cG⟨rfl,oC⟩;have jY:=kT.qd oC;replace oC:=I oC;clear kT cF cP cQ dd ds dm dt du e7;obtain⟨_,_,_,_,_,_,_,_,_⟩:=kl (show cG.heap[(aN:Nat)]?=some (.cells #[bh 2,i.b,ad i.l,ad i.s,(q:Int),ad (en:Int),aq nA n7 eK,(.slice none 0 0)] _ _)from jY.b);refine XM ?_;intro z0 cU z2 z3 z4 z5 ga fk mx di;replace jY:=I jY;go_wp2_with fail;have iy:=AZ (S:=λx=>x=(w:Nat)) (aG.refl _ cG) (R:=(w:Nat)) (.inl rfl) (bh 2) i.b (ad i.l) (ad i.s) (q:Int) (ad (en:Int)) (aq nA n7 eK) ((.slice none 0 0));refine bodyPost_ret (v:=.tuple #[.agg #[bh 2,i.b,ad i.l,ad i.s,(q:Int),ad (en:Int),aq nA n7 eK,(.slice none 0 0)],ar]) XN rfl ⟨⟨2,i,(q:Int),(en:Int),⟨nA,n7,eK⟩,⟨none,0,0⟩⟩,rfl,⟨rfl,rfl,rfl,rfl,jY.XJ (lv.ext (jl.trans oC)) af iy,[],rfl,Own.nil _ _ _ eJ.bH,λy hy=>by cases hy⟩,iy.ext (λb aa=>by subst aa;exact bA _) jY.ext⟩
def aqK{aS:List (List cd)}(hk:k<aS.length)(h:(aS.flatMap (λe=>gi (oS e))).length<=n):(oS aS[k]).length<=n:=by
 refine eh ?_ h;have ae:(aS.take k++aS[k]::aS.drop (k+1)).flatMap (λe=>gi (oS e))=aS.flatMap (λe=>gi (oS e)):=by rw[<-Dv hk,List.take_append_drop]
 rw[<-ae,xk,nI,cH,cH];have ak:(oS aS[k]).length<=(gi (oS aS[k])).length:=by rw[yP];omega
 omega
def aqL(a:bk)(n cap:Nat)(i:aA)(q:Nat)(aS:List (List cd))(w:aC)(a8:a1 w 1 cp a n cap (cJ 1++(ia i++(cJ q++(cJ 0++(cJ aS.length++aS.flatMap (λe=>gi (oS e))))))))(an:n<=100000)(bL:(aS.flatMap (λe=>gi (oS e))).length<=n)(bb:dx i)(bq:q<32)(fs:aS.length<=8)(bN:∀e,e∈aS->zN e):
  aR 129 #[aq a n cap] w (N6 ⟨1,i,(q:Int),0,[],aS⟩ w):=by
 obtain⟨dc,eo,dB,ej,fe⟩:=info_parts J5;obtain⟨en,wO⟩:∃en:Nat,en=0:=⟨_,rfl⟩;have gI:gv en:=by subst wO;unfold gv;omega
 suffices aev:aR 129 #[aq a n cap] w (N6 ⟨1,i,(q:Int),(en:Int),[],aS⟩ w) by rw[wO]at aev;exact aev
 have av:=I (show a1 w 1 cp a n cap (cJ 1++(ia i++(cJ q++(cJ en++(cJ aS.length++aS.flatMap (λe=>gi (oS e)))))))from by rw[wO];exact a8);replace bb:=I bb;replace bN:=I bN;replace bL:=I bL;replace wO:=I wO;replace eo:=I eo;replace dB:=I dB;replace ej:=I ej;replace fe:=I fe;clear a8;refine XK ?_;intro _ _ _ _ w1 p ng c6 fg mO km bw;replace c6:=I c6;replace km:=I km;clear fg;go_wp2_with fail;refine(AY p 1 4 _ _ c6 af af).mono ?_;refine Kv ?_;intro aN mP eW kn
 have hQ:l6 w (aN.alloc (.cells #[bh 1,ar,au,au,ar,au,(.slice none 0 0),(.slice none 0 0)] 66)) 66 p w (aN:Nat) #[bh 1,ar,au,au,ar,au,(.slice none 0 0),(.slice none 0 0)] #[ar,ar,au,au,ar,au,aH,aH] _:=
  ⟨mP.ext ((Z.refl aN).alloc _),(((Z.refl aN).alloc _).block _ (bT kn)).trans kn,heap_alloc_new _ _,(eW.ext (λb aa=>by subst aa;exact lr mO) bw).alloc _,lr mO,bA _,eh bw.size eW.size,sv (bT kn),af,af⟩
 replace hQ:=I hQ;clear mP eW kn ng mO;go_wp2_with fail;refine(N3 p i _ _ hQ.hn bb).mono ?_;rintro e aY⟨rfl,tW,h4⟩;have mQ:=hQ.oB tW h4;clear hQ;obtain⟨cF,cP,cQ,dd,ds,dm,dt,du,e7⟩:=kl (show aY.heap[(aN:Nat)]?=some (.cells #[bh 1,ar,au,au,ar,au,(.slice none 0 0),(.slice none 0 0)] _ _)from mQ.b);have kS:=((mQ.jF 1 i.b rfl).jF 2 (ad i.l) rfl).jF 3 (ad i.s) rfl;replace kS:=I kS;clear mQ tW h4;go_wp2_with fail;refine XL ?_;intro b3 vL nT oV;clear kS cF cP cQ dd ds dm dt du e7;obtain⟨cF,cP,cQ,dd,ds,dm,dt,du,e7⟩:=kl (show b3.heap[(aN:Nat)]?=some (.cells #[bh 1,i.b,ad i.l,ad i.s,ar,au,(.slice none 0 0),(.slice none 0 0)] _ _)from oV.b);have k9:=oV.jF 4 (q:Int) rfl;replace k9:=I k9;clear oV vL nT;go_wp2_with fail;refine(oy p en _ _ k9.hn gI).mono ?_;rintro e bp⟨rfl,jm,oU⟩;have nU:=k9.oB jm oU;clear k9 cF cP cQ dd ds dm dt du e7;obtain⟨cF,cP,cQ,dd,ds,dm,dt,du,e7⟩:=kl (show bp.heap[(aN:Nat)]?=some (.cells #[bh 1,i.b,ad i.l,ad i.s,(q:Int),au,(.slice none 0 0),(.slice none 0 0)] _ _)from nU.b);have q9:=nU.jF 5 (ad (en:Int)) rfl;replace q9:=I q9;clear nU jm oU;go_wp2_with fail;refine(AY p aS.length 9 _ _ q9.hn J af).mono ?_;rintro e _⟨rfl,HW,zQ⟩;have alr:=q9.oB HW zQ;replace alr:=I alr;clear q9 HW zQ cF cP cQ dd ds dm dt du e7;go_wp2_with fail;go_loopg [30] (aS.length) (λg dN wr=>∃(k:Nat) (ab:bk) (m c:Nat) (ys:List eJ),g+k=aS.length/\dN=.int .i64 (k:Int)/\Hid (l6 w wr 66 p w (aN:Nat) #[bh 1,i.b,ad i.l,ad i.s,(q:Int),ad (en:Int),(.slice none 0 0),(.slice ab m c)] #[ar,ar,au,au,ar,au,aH,aH] ((aS.drop k).flatMap (λe=>gi (oS e))))/\Hid (Own wr w 34 1 eJ.cs ab m c ys/\ys.map (·.dH)=aS.take k/\∀y,y∈ys->Own wr w 77 4 cd.cs y.v.a y.v.n y.v.c y.dH));case atStart=>exact⟨0,none,0,0,[],J,rfl,alr,⟨Own.nil _ _ _ eJ.bH,rfl,λy hy=>by cases hy⟩⟩
 case round=>
  obtain⟨k,ab,m,c,ys,_,rfl,jw,aE⟩:=hrel;by_cases hk:k<aS.length
  ·skip;have bd:(k:Int)<(aS.length:Int):=J;have fP:=bN.out aS[k] (c7 hk);have vM:=aqK hk bL;have F3:m<=8:=by
    have ae:=aE.out.1.neq;have ak:=eP List.length aE.out.2.1;rw[cr,o9]at ak;omega
   have aD:(aS.drop k).flatMap (λe=>gi (oS e))=gi (oS aS[k])++(aS.drop (k+1)).flatMap (λe=>gi (oS e)):=by
    rw[Dv hk,nI]
   rw[aD]at jw;replace fP:=I fP;clear aD;go_wp2_with fail;refine(DU p (n:Int) (oS aS[k]) _ _ jw.hn J J J).mono ?_;rintro e df⟨_,_,rfl,lv,aew,H2⟩;have A0:=jw.oB aew H2;have SG:=jw.aes aE.out.1 af H2;have Kw:∀y,y∈ys->Own df w 77 4 cd.cs y.v.a y.v.n y.v.c y.dH:=λy hy=>jw.aes (aE.out.2.2 y hy) af H2;replace A0:=I A0;replace lv:=I lv;replace SG:=I SG;replace Kw:=I Kw;clear aew H2 jw;go_wp2_with fail;refine(aqu _ _ _ aS[k] _ lv.aF fP).mono ?_;rintro e eb⟨ra,n8,iT,rfl,aex,uJ⟩;have kT:=A0.qd uJ;obtain⟨cF,cP,cQ,dd,ds,dm,dt,du,e7⟩:=kl (show eb.heap[(aN:Nat)]?=some (.cells #[bh 1,i.b,ad i.l,ad i.s,(q:Int),ad (en:Int),(.slice none 0 0),(.slice ab m c)] _ _)from kT.b);have su:=I (aex.mono (aDn:=(w:Nat)) A0.ext.size);have XO:=I (SG.ext uJ);have aqM:=I (λy hy=>(Kw y hy).ext uJ);replace kT:=I kT;clear A0 aex uJ SG Kw lv;go_wp2_with (at_builtin;refine hf (ys:=ys) rfl (.tmp 44) (.tmp 46) 64 rfl dc _ 24 underlying64 eo dB ej fe rfl af rfl (XO.ext ((Z.refl _).alloc _)) ⟨⟨ra,n8,iT⟩,aS[k]⟩ _ rfl (fc (cs:=eJ.cs ⟨⟨ra,n8,iT⟩,aS[k]⟩) rfl) (eJ.cN _) J af (Z.size (kT.ext.trans ((Z.refl _).alloc _))) ?_;intro _ _ cG hb fq;have ib:=(kT.qd ((Z.refl _).alloc _)).grow fq (XO.ext ((Z.refl _).alloc (.cells #[aq ra n8 iT] 34))) (bA _) af af af;clear cF cP cQ dd ds dm dt du e7;have cF:cG.cell? (aN,0)=some ↑(bh 1):=aI ib.b rfl;have cP:cG.cell? (aN,1)=some ↑i.b:=aI ib.b rfl;have cQ:cG.cell? (aN,2)=some ↑(ad i.l):=aI ib.b rfl;have dd:cG.cell? (aN,3)=some ↑(ad i.s):=aI ib.b rfl;have ds:cG.cell? (aN,4)=some ↑(q:Int):=aI ib.b rfl;have dm:cG.cell? (aN,5)=some ↑(ad (en:Int)):=aI ib.b rfl;have dt:cG.cell? (aN,6)=some ((.slice none 0 0)):=aI ib.b rfl;have du:cG.cell? (aN,7)=some ((.slice ab m c)):=aI ib.b rfl;have e7:∀j,cG.frozen? ⟨(aN:Nat),j,none⟩=false:=λj=>nS ib.b);have HZ:∀y,y∈ys++[(⟨⟨ra,n8,iT⟩,aS[k]⟩:eJ)]->Own cG w 77 4 cd.cs y.v.a y.v.n y.v.c y.dH:=by
    intro y hy;have q4:=XO.ext ((Z.refl eb).alloc (.cells #[aq ra n8 iT] 34));rcases iR.1 hy with hy|hy
    ·have qG:=(aqM y hy).ext ((Z.refl eb).alloc (.cells #[aq ra n8 iT] 34));exact fq.bI qG (q4.gQ qG af)
    ·obtain rfl:=iH.1 hy;have qG:=su.ext ((Z.refl eb).alloc (.cells #[aq ra n8 iT] 34));exact fq.bI qG (q4.gQ qG af)
   replace HZ:=I HZ;go_roundg (gk - 1);case measure=>omega
   case rel=>
    refine⟨k+1,_,_,_,ys++[⟨⟨ra,n8,iT⟩,aS[k]⟩],J,by go_num,ib.jF 7 _ rfl,ib.bI hb af 7 _,?_,λy hy=>ib.bI (HZ y hy) af 7 _⟩;rw[gS,aE.out.2.1,iX hk];rfl
  ·have b9:aS.take k=aS:=ir J;rw[b9]at aE;rw[NW J]at jw;clear b9;go_wp2_with fail;refine(zM p _ jw.hn).mono ?_;rintro e eb⟨rfl,jl⟩;have kT:=jw.qd jl;replace jl:=I jl;clear jw;obtain⟨cF,cP,cQ,dd,ds,dm,dt,du,e7⟩:=kl (show eb.heap[(aN:Nat)]?=some (.cells #[bh 1,i.b,ad i.l,ad i.s,(q:Int),ad (en:Int),(.slice none 0 0),aq ab m c] _ _)from kT.b);replace kT:=I kT;go_wp2_with fail;refine(HX ⟨1,i,(q:Int),(en:Int),⟨none,0,0⟩,⟨ab,m,c⟩⟩ ⟨1,i,(q:Int),(en:Int),[],aS⟩ _ ⟨rfl,rfl,rfl,rfl,a1.nil _ T.bH,⟨ys,aE.out.2.1,aE.out.1.aF.ext jl,λx U=>(aE.out.2.2 x U).aF.ext jl⟩⟩ ⟨bb,⟨show(0:Int)<=(q:Int) by omega,show(q:Int)<32 by omega⟩,kP.Xu gI,.inl ⟨rfl,(show(en:Int)=0 by rw[wO.out];rfl),rfl,fs,bN⟩⟩).mono ?_;rintro e cG⟨rfl,oC⟩;have jY:=kT.qd oC;replace oC:=I oC;clear kT cF cP cQ dd ds dm dt du e7;obtain⟨_,_,_,_,_,_,_,_,_⟩:=kl (show cG.heap[(aN:Nat)]?=some (.cells #[bh 1,i.b,ad i.l,ad i.s,(q:Int),ad (en:Int),(.slice none 0 0),aq ab m c] _ _)from jY.b);refine XM ?_;intro z0 cU z2 z3 z4 z5 ga fk mx di;replace jY:=I jY;go_wp2_with fail;have iy:=AZ (S:=λx=>x=(w:Nat)) (aG.refl _ cG) (R:=(w:Nat)) (.inl rfl) (bh 1) i.b (ad i.l) (ad i.s) (q:Int) (ad (en:Int)) ((.slice none 0 0)) (aq ab m c);refine bodyPost_ret (v:=.tuple #[.agg #[bh 1,i.b,ad i.l,ad i.s,(q:Int),ad (en:Int),(.slice none 0 0),aq ab m c],ar]) XN rfl ⟨⟨1,i,(q:Int),(en:Int),⟨none,0,0⟩,⟨ab,m,c⟩⟩,rfl,⟨rfl,rfl,rfl,rfl,Own.nil _ _ _ T.bH,ys,aE.out.2.1,jY.XJ (aE.out.1.ext (jl.trans oC)) af iy,λy hy=>jY.XJ ((aE.out.2.2 y hy).ext (jl.trans oC)) af iy⟩,iy.ext (λb aa=>by subst aa;exact bA _) jY.ext⟩
def SH(a:bk)(n cap:Nat)(d:bg)(w:aC)(a8:a1 w 1 cp a n cap (hA d))(aD:hP d)(an:n<=100000):
  aR 129 #[aq a n cap] w (N6 d w):=by
 have lW:=a8.neq;obtain⟨_,D1,nB,aey,N2,SI⟩:=d;have ao:=aD.c;have al:=aD.u;have aO:=aD.id;have hk:=aD.k;dsimp only at ao al aO hk;obtain⟨q,rfl⟩:∃q:Nat,nB=(q:Int):=⟨nB.toNat,J⟩;obtain⟨en,rfl⟩:∃q:Nat,aey=(q:Int):=⟨aey.toNat,by unfold kP at al;omega⟩;have gI:gv en:=by unfold kP at al;unfold gv;omega
 have bq:q<32:=J;rcases hk with ⟨rfl,bY,rfl,fm,iQ⟩|⟨rfl,rfl,ew⟩|⟨rfl,rfl,rfl⟩
 ·obtain rfl:en=0:=J;have e:hA ⟨1,D1,(q:Int),((0:Nat):Int),[],SI⟩=cJ 1++(ia D1++(cJ q++(cJ 0++(cJ SI.length++SI.flatMap (λe=>gi (oS e)))))):=by unfold hA;rw[if_pos rfl];rfl
  rw[e]at a8 lW;exact aqL a n cap D1 q SI w a8 an (by rw[lW];simp only[cH];omega) aO bq fm iQ
 ·have e:hA ⟨2,D1,(q:Int),(en:Int),N2,[]⟩=cJ 2++(ia D1++(cJ q++(cJ en++(gi (xD N2)++[])))):=by unfold hA;rw[if_neg (show ¬(2:Int)=1 by decide),if_pos rfl,List.append_nil];rfl
  rw[e]at a8 lW;exact aqJ a n cap D1 q en N2 w a8 an XP aO bq gI ew
 ·have e:hA ⟨3,D1,(q:Int),(en:Int),[],[]⟩=cJ 3++(ia D1++(cJ q++(cJ en++[]))):=by unfold hA;rw[if_neg (show ¬(3:Int)=1 by decide),if_neg (show ¬(3:Int)=2 by decide)];rfl
  rw[e]at a8;exact aqI a n cap D1 q en w a8 an aO bq gI
def xH:aA:=⟨0,0,0⟩
def N7:bg:=⟨0,xH,0,0,[],[]⟩
def rI:b1:=⟨0,xH,0,0,⟨none,0,0⟩,⟨none,0,0⟩⟩
structure gJ where
 k:Int
 n:Nat
 e:bg
 id:aA
def my(n:Nat):gJ:=⟨1,n,N7,xH⟩
def hR(i:Nat)(d:bg):gJ:=⟨2,i,d,xH⟩
def jx(d:bg):gJ:=⟨3,0,d,xH⟩
def nV(i:aA):gJ:=⟨4,0,N7,i⟩
def yW(i:aA):gJ:=⟨5,0,N7,i⟩
def xI(r:gJ):Prop:=(∃n,r=my n/\gv n)\/(∃n d,r=hR n d/\gv n/\hP d)\/(∃d,r=jx d/\hP d)\/(∃i,r=nV i/\dx i)\/(∃i,r=yW i/\dx i)
def gl(r:gJ):List UInt8:=cJ r.k.toNat++(cJ r.n++(if r.k=2\/r.k=3 then gi (hA r.e) else if r.k=4\/r.k=5 then ia r.id else []))
def aez(w:aC):aR 195 #[.agg #[ar,ar,au,au,ar,au,aH,aH]] w (cM (.bool true) w):=by
 go_enter func195,ntmps195;go_wp2;go_ret;refine⟨rfl,?_⟩;exact X
def aeA(n:Nat)(w:aC):aR 133 #[.agg #[bh 1,ad (n:Int),ar,ar,au,au,ar,au,aH,aH,ar,au,au]] w (cM (.bool true) w):=by
 go_enter func133,ntmps133;go_wp2_with fail;refine qA (aez _) λw1 bw=>?_;go_wp2;go_ret;refine⟨rfl,?_⟩;exact X
def aeB(n:Nat)(x:b1)(d:bg)(w:aC)(bb:h0 w x d)(c5:hP d):aR 133 #[.agg #[bh 2,ad (n:Int),x.k,x.id.b,ad x.id.l,ad x.id.s,x.c,ad x.u,x.f,x.e,ar,au,au]] w (cM (.bool true) w):=aeC
def aeD(x:b1)(d:bg)(w:aC)(bb:h0 w x d)(c5:hP d):aR 133 #[.agg #[bh 3,au,x.k,x.id.b,ad x.id.l,ad x.id.s,x.c,ad x.u,x.f,x.e,ar,au,au]] w (cM (.bool true) w):=aeC
def aeE(i:aA)(w:aC)(aW:0<=i.b)(ae:i.b<16):aR 133 #[.agg #[bh 4,au,ar,ar,au,au,ar,au,aH,aH,i.b,ad i.l,ad i.s]] w (cM (.bool true) w):=aeF
def aeG(i:aA)(w:aC)(aW:0<=i.b)(ae:i.b<16):aR 133 #[.agg #[bh 5,au,ar,ar,au,au,ar,au,aH,aH,i.b,ad i.l,ad i.s]] w (cM (.bool true) w):=aeF
def Kx{d:bg}(h:hP d):(hA d).length<=20000:=by
 unfold hA;have ae:=hg d.k.toNat;have ak:=AW d.id;have aM:=hg d.c.toNat;have bn:=hg d.u.toNat;simp only[cH];rcases h.k with ⟨bQ,bY,ew,fm,iQ⟩|⟨bQ,bY,ew⟩|⟨bQ,bY,ew⟩
 ·rw[bm bQ,cH];have cb:=hg d.aS.length
  have ey:=Sv (f:=λe=>gi (oS e)) (m:=1720) d.aS (λe he=>by
   have:=Sw (iQ e he);have:=xA (oS e).length
   rw[yP];omega)
  omega
 ·rw[bj J,bm bQ,yP];have cb:=Xz ew;have ey:=xA (xD d.ts).length;omega
 ·rw[bj J,bj J];simp only[nW];omega
def aqN(n:Nat)(w:aC)(an:gv n):aR 134 #[.agg #[bh 1,ad (n:Int),ar,ar,au,au,ar,au,aH,aH,ar,au,au]] w (wN (gl (my n)) w):=by
 have zS:=aeA n;go_enter func134,ntmps134;go_wp2_with fail;refine(zS _).mono ?_;rintro e w1⟨rfl,bw⟩;have dV:w1.cell? (w,0)=some ↑(bh 1):=bw.ah (by simp);have bS:w1.cell? (w,1)=some ↑(ad (n:Int)):=bw.ah (by simp);change Hid _ at bw;go_wp2_with fail;go_region_held3 (λw'=>w'.cell? (w,0)=some ↑(bh 1)/\w'.cell? (w,1)=some ↑(ad (n:Int))) (first|(go_split_ands;refine⟨?_,?_⟩<;>exact(Hid.out hy).ah (by assumption))|go_keep) (first|(go_at_call 197;refine(j6 none 0 0 [] 1 _ ((a1.nil _ cp.bH)) uZ J).mono ?_;rintro e _⟨cE,cZ,_,rfl,aK,aa⟩;have k5:cZ<=10:=(by have ae:=aK.neq;have ak:=hg 1;rw[lq]at ae;omega);have b7:=I aK;have hy:=I aa;have cj:=I aa)|(go_at_call 197;refine(j6 _ _ _ _ n _ ((b7.aF.ext X)) qc J).mono ?_;rintro e _⟨a3,_,_,rfl,aK,aa⟩;have cz:=I aK;have hy:=I aa;have dE:=I aa));replace dV:=dE.ah (cj.ah (show w1.drew.cell? _=_ from dV));go_wp2_with fail;go_ret2;refine⟨_,_,_,rfl,?_,X⟩;have h:=cz.mono (aDn:=(w:Nat)) (Z.size X);rw[show gl (my n)=cJ 1++(cJ n++[])from rfl];simp only[lq,iI,mH]at h ⊢;exact h
def aqO(n:Nat)(x:b1)(d:bg)(w:aC)(an:gv n)(bb:h0 w x d)(c5:hP d):aR 134 #[.agg #[bh 2,ad (n:Int),x.k,x.id.b,ad x.id.l,ad x.id.s,x.c,ad x.u,x.f,x.e,ar,au,au]] w (wN (gl (hR n d)) w):=by
 change Hid _ at bb c5;have zS:=λW h=>aeB n x d W h c5;go_enter func134,ntmps134;go_wp2_with fail;refine(zS _ (bb.ext X)).mono ?_;rintro e w1⟨rfl,bw⟩;have dV:w1.cell? (w,0)=some ↑(bh 2):=bw.ah (by simp);have bS:w1.cell? (w,1)=some ↑(ad (n:Int)):=bw.ah (by simp);refine aeH ?_;intro g2 g3 g4 g5 g6 g7 g8 g9;change Hid _ at bw;go_wp2_with fail;go_region_held3 (λw'=>w'.cell? (w,0)=some ↑(bh 2)/\w'.cell? (w,1)=some ↑(ad (n:Int))) (first|(go_split_ands;refine⟨?_,?_⟩<;>exact(Hid.out hy).ah (by assumption))|go_keep) (first|(go_at_call 197;refine(j6 none 0 0 [] 2 _ ((a1.nil _ cp.bH)) uZ J).mono ?_;rintro e _⟨cE,cZ,_,rfl,aK,aa⟩;have k5:cZ<=10:=(by have ae:=aK.neq;have ak:=hg 2;rw[lq]at ae;omega);have b7:=I aK;have hy:=I aa;have cj:=I aa)|(go_at_call 197;refine(j6 _ _ _ _ n _ ((b7.aF.ext X)) qc J).mono ?_;rintro e _⟨a3,gF,_,rfl,aK,aa⟩;have vJ:gF<=20:=(by have ae:=aK.neq;have ak:=hg n;have aM:=((b7.aF.ext X)).neq;rw[cH]at ae;omega);have cz:=I aK;have hy:=I aa;have dE:=I aa));exact aeI
def aqP(x:b1)(d:bg)(w:aC)(bb:h0 w x d)(c5:hP d):aR 134 #[.agg #[bh 3,au,x.k,x.id.b,ad x.id.l,ad x.id.s,x.c,ad x.u,x.f,x.e,ar,au,au]] w (wN (gl (jx d)) w):=by
 change Hid _ at bb c5;have zS:=λW h=>aeD x d W h c5;go_enter func134,ntmps134;go_wp2_with fail;refine(zS _ (bb.ext X)).mono ?_;rintro e w1⟨rfl,bw⟩;have dV:w1.cell? (w,0)=some ↑(bh 3):=bw.ah (by simp);have bS:w1.cell? (w,1)=some ↑(ad (0:Int)):=bw.ah (by simp);refine aeH ?_;intro g2 g3 g4 g5 g6 g7 g8 g9;change Hid _ at bw;go_wp2_with fail;go_region_held3 (λw'=>w'.cell? (w,0)=some ↑(bh 3)/\w'.cell? (w,1)=some ↑(ad (0:Int))) (first|(go_split_ands;refine⟨?_,?_⟩<;>exact(Hid.out hy).ah (by assumption))|go_keep) (first|(go_at_call 197;refine(j6 none 0 0 [] 3 _ ((a1.nil _ cp.bH)) uZ J).mono ?_;rintro e _⟨cE,cZ,_,rfl,aK,aa⟩;have k5:cZ<=10:=(by have ae:=aK.neq;have ak:=hg 3;rw[lq]at ae;omega);have b7:=I aK;have hy:=I aa;have cj:=I aa)|(go_at_call 197;refine(j6 _ _ _ _ 0 _ ((b7.aF.ext X)) qc J).mono ?_;rintro e _⟨a3,gF,_,rfl,aK,aa⟩;have vJ:gF<=20:=XQ;have cz:=I aK;have hy:=I aa;have dE:=I aa));exact aeI
def aqQ(i:aA)(w:aC)(aO:dx i):aR 134 #[.agg #[bh 4,au,ar,ar,au,au,ar,au,aH,aH,i.b,ad i.l,ad i.s]] w (wN (gl (nV i)) w):=by
 have zS:=λW=>aeE i W aO.b.1 aO.b.2;go_enter func134,ntmps134;go_wp2_with fail;refine(zS _).mono ?_;rintro e w1⟨rfl,bw⟩;have dV:w1.cell? (w,0)=some ↑(bh 4):=bw.ah (by simp);refine aeJ ?_;intro bS g10 g11 g12;change Hid _ at bw;go_wp2_with fail;go_region_held3 (λw'=>w'.cell? (w,0)=some ↑(bh 4)/\w'.cell? (w,1)=some ↑(ad (0:Int))) (first|(go_split_ands;refine⟨?_,?_⟩<;>exact(Hid.out hy).ah (by assumption))|go_keep) (first|(go_at_call 197;refine(j6 none 0 0 [] 4 _ ((a1.nil _ cp.bH)) uZ J).mono ?_;rintro e _⟨cE,cZ,_,rfl,aK,aa⟩;have k5:cZ<=10:=(by have ae:=aK.neq;have ak:=hg 4;rw[lq]at ae;omega);have b7:=I aK;have hy:=I aa;have cj:=I aa)|(go_at_call 197;refine(j6 _ _ _ _ 0 _ ((b7.aF.ext X)) qc J).mono ?_;rintro e _⟨a3,gF,_,rfl,aK,aa⟩;have vJ:gF<=20:=XQ;have cz:=I aK;have hy:=I aa;have dE:=I aa));exact aeK
def aqR(i:aA)(w:aC)(aO:dx i):aR 134 #[.agg #[bh 5,au,ar,ar,au,au,ar,au,aH,aH,i.b,ad i.l,ad i.s]] w (wN (gl (yW i)) w):=by
 have zS:=λW=>aeG i W aO.b.1 aO.b.2;go_enter func134,ntmps134;go_wp2_with fail;refine(zS _).mono ?_;rintro e w1⟨rfl,bw⟩;have dV:w1.cell? (w,0)=some ↑(bh 5):=bw.ah (by simp);refine aeJ ?_;intro bS g10 g11 g12;change Hid _ at bw;go_wp2_with fail;go_region_held3 (λw'=>w'.cell? (w,0)=some ↑(bh 5)/\w'.cell? (w,1)=some ↑(ad (0:Int))) (first|(go_split_ands;refine⟨?_,?_⟩<;>exact(Hid.out hy).ah (by assumption))|go_keep) (first|(go_at_call 197;refine(j6 none 0 0 [] 5 _ ((a1.nil _ cp.bH)) uZ J).mono ?_;rintro e _⟨cE,cZ,_,rfl,aK,aa⟩;have k5:cZ<=10:=(by have ae:=aK.neq;have ak:=hg 5;rw[lq]at ae;omega);have b7:=I aK;have hy:=I aa;have cj:=I aa)|(go_at_call 197;refine(j6 _ _ _ _ 0 _ ((b7.aF.ext X)) qc J).mono ?_;rintro e _⟨a3,gF,_,rfl,aK,aa⟩;have vJ:gF<=20:=XQ;have cz:=I aK;have hy:=I aa;have dE:=I aa));exact aeK
end Go.Proofs.YtfiiblnenhdlhaaGreat
