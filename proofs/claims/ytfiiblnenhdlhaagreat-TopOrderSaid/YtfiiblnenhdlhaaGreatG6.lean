/- Part. -/
import Derived.Test.YtfiiblnenhdlhaaGreatG5
set_option linter.unusedVariables false
set_option linter.unusedSimpArgs false
set_option linter.defProp false
set_option maxRecDepth 100000
set_option maxHeartbeats 4000000
namespace Go.Proofs.YtfiiblnenhdlhaaGreat
open Go.RowKit Tryz
variable {ag ps:List bO}{base h k m n y:Nat}{a:Option Addr}{α β:Type}{t:TypeId}{w w':World}{d:bg}{r:gJ}{s:lZ}
def zW(ps:List Int)(m:Int)(k:Nat):List Int:=((List.range k).filter (λj=>decide (ps.getD j 0=m))).map Int.ofNat
def arN{ps:List Int}{m:Int}(h:ps.getD k 0=m):zW ps m (k+1)=zW ps m k++[(k:Int)]:=by
 unfold zW;rw[List.range_succ,List.filter_append,List.map_append,List.filter_cons_of_pos (by simpa using h)];simp
def arO{ps:List Int}{m:Int}(h:¬ps.getD k 0=m):zW ps m (k+1)=zW ps m k:=by
 unfold zW;rw[List.range_succ,List.filter_append,List.map_append,List.filter_cons_of_neg (by simpa using h)];simp
def arP(ps:List Int)(m:Int)(k:Nat):(zW ps m k).length<=k:=by
 unfold zW;rw[List.length_map];exact Nat.le_trans (List.length_filter_le _ _) (by simp)
def KI(S:Nat->Prop)(W W':World):Prop:=∀c,S c->W'.heap[c]? =W.heap[c]?
def KI.cell{S:ff}{W W':aC}(h:KI S W W'){c o:Nat}(ao:S c):W'.cell? (c,o)=W.cell? (c,o):=JV (h c ao)
def arQ(F:Fence)(n:Nat)(iZ:F.fn 301)(sA:F.round=none)(an:1<=n)(l nY po b off cap:Nat)(S:ff)(ps:List Int)(m:Int)(aa:S b)(mP:S po)(Yc:ps.length<=16)(l9 D6:List Int->aC->Prop)(rL:∀cC x W,l9 cC W->cC.length<ps.length->YieldAt F (n - 1) prog l #[.int .i64 x] W λe W'=>
   (e=.returned (.bool true)/\l9 (cC++[x]) W'/\KI S W W')\/(e=.returned (.bool false)/\D6 (cC++[x]) W'))(W:aC)(ae:W.cell? (nY,0)=some (.slice (some (b,off)) ps.length cap))(ak:W.cell? (po,0)=some ↑m)(ao:∀j (aJ:j<ps.length),W.cell? (b,off+j)=some ↑ps[j])(aW:l9 [] W):
  CallsIn F n prog 301 #[.func (.yield l) #[] #[],nY,po] W λe W'=>(∃v,e=.returned v)/\
   ((∃ys,ys=zW ps m ps.length/\l9 ys W')\/(∃cC,True/\D6 cC W')):=by
 refine callsIn_of_wp func301 rfl iZ ?_ sA;simp only[ntmps301,KJ,mv,nW,Nat.reduceAdd,Nat.reduceSub,KK,KL,KM,KN,lq,FW];gi_wp2
 gi_loopw [8] (λi wr=>∃k:Nat,k<=ps.length/\i=.int .i64 k/\l9 (zW ps m k) wr/\KI S W wr)
  (λi _=>ps.length - (intOf i).toNat)
 case atStart=>exact⟨0,hX _,rfl,aW,λ_ _=>rfl⟩
 case round=>
  obtain⟨k,_,rfl,KO,sm⟩:=hrel;have eF:=(sm.cell mP).trans ak;by_cases fM:k<ps.length
  ·have arR:=(sm.cell aa).trans (ao k fM);by_cases aV:ps[k]=m
   ·obtain⟨_,tmps,_,_,hy,bC⟩:=rL _ (k:Int) wr KO (by have:=arP ps m k;omega);rw[aV]at arR;have hs:=arN (m:=m) ((D5 fM).trans aV);gi_wp2;refine bC.mono ?_;rintro e _ (⟨rfl,H9,HD⟩|⟨rfl,Ym⟩)
    ·gi_wp2;go_roundw;case rel=>exact⟨k+1,J,by simp,by rw[hs];exact H9,λc q=>(HD c q).trans (sm c q)⟩
     case measure=>simp[intOf];omega
    ·gi_wp2;refine bodyPost_ret (results_none rfl _ _ _) rfl ?_;exact⟨⟨_,rfl⟩,.inr ⟨_,trivial,Ym⟩⟩
   ·have hs:=arO (m:=m) (k:=k) (ps:=ps) (by rw[D5 fM];exact aV);gi_wp2;refine⟨λf h=>(by cases h),?_⟩;gi_wp2;exact⟨⟨k+1,J,by simp,by rw[hs];exact KO,sm⟩,by simp[intOf];omega⟩
  ·obtain rfl:k=ps.length:=J;gi_wp2;go_end0;exact⟨⟨_,rfl⟩,.inl ⟨_,rfl,KO⟩⟩
def arS(F:Fence)(n:Nat)(iZ:F.fn 301)(sA:F.round=none)(an:1<=n)(nY po b off cap:Nat)(ps:List Int)(m:Int)(w:aC)(arT:nY<(w:Nat))(Yn:po<(w:Nat))(arU:b<(w:Nat))(Yc:ps.length<=16)(ae:w.cell? (nY,0)=some (.slice (some (b,off)) ps.length cap))(ak:w.cell? (po,0)=some ↑m)(ao:∀j (aJ:j<ps.length),w.cell? (b,off+j)=some ↑ps[j]):
  SeqStopsK F n prog 301 #[nY,po] (λx:Int=>#[x]) (KI (λc=>c=po\/c=b)) (λys=>ys=zW ps m ps.length) (λ_=>True) ps.length w:=λl l9 D6 W fa zX _ rL aW=>
 arQ F n iZ sA an l nY po b off cap _ ps m (.inr rfl) (.inl rfl) Yc l9 D6 rL W ((fa.cell (p:=⟨nY,0,none⟩) arT).trans ae) ((fa.cell (p:=⟨po,0,none⟩) Yn).trans ak) (λj aJ=>(fa.cell (p:=⟨b,off+j,none⟩) arU).trans (ao j aJ)) aW
section
attribute [local go_sem] Oper.semAt_some
def S0:(prog.info? 3).map (λi=>(i.zero,i.size,i.bytes))=some (some ↑ar,1,8):=bV
def dD.rM(i:Int):(dD i).length=1:=rfl
def arV(s:bk)(n cap:Nat)(m:Int)(w:aC):aR 278 #[aq s n cap,m] w λe w'=>
  e=.returned (.func (.func 301) #[] #[w,.pointer (some (w,1,0))])/\w'=(w.alloc (.cells #[aq s n cap] 22)).alloc (.cells #[m] 3):=by
 go_enter func278,ntmps278;go_wp2;go_ret;exact⟨rfl,rfl⟩
def arW{W w1:aC}{Ia B:Nat}{e:TypeId}{size:Nat}{v gW:Value}{xs ys:List Value}{tmp:Obj}{S:ff}(bo:Boxed W B t v)(aff:t≠e)(pL:W.ownsRow Ia e size v k xs)(aCA:Ia<=(W:Nat))(fg:base<=Ia)(ih:base<=B)(a8:∀c,S c->c<Ia/\c≠B)(o6:w1.ownsRow Ia e size gW m ys)(bW:(W.alloc tmp).grownBy w1 v.ownBlock):
  Boxed w1 B t v/\Boxed (w1.setCell ⟨B,0,none⟩ gW) B t gW/\(w1.setCell ⟨B,0,none⟩ gW).ownsRow Ia e size gW m ys/\KeepsOthers W (w1.setCell ⟨B,0,none⟩ gW)/\KI S W (w1.setCell ⟨B,0,none⟩ gW)/\Below base W (w1.setCell ⟨B,0,none⟩ gW):=by
 have D7:Boxed w1 B t v:=(bo.alloc tmp).kept bW (bo.not_row aff pL);have sB:∀j,v.ownBlock=some j->Ia<=j:=λj D8=>by
  rcases pL.2 with ⟨rfl,_⟩|⟨g,cap,cur,rfl,aa,_,_⟩
  ·simp[Value.ownBlock]at D8
  ·obtain rfl:g=j:=by simpa[Value.ownBlock]using D8
   exact aa
 refine⟨D7,D7.set gW,o6.kept (grownBy_setCell' w1 B gW) (.inr (D7.not_row aff o6).symm),?_,?_,?_⟩
 ·refine((KeepsOthers.alloc W tmp).trans (KeepsOthers.of_grownBy bW λj o D8 aJ=>?_)).trans (KeepsOthers.setCell _ _ _);rcases (pL.alloc tmp).2 with ⟨rfl,_⟩|⟨g,cap,cur,rfl,_,vK,_⟩
  ·simp[Value.ownBlock]at D8
  ·obtain rfl:g=j:=by simpa[Value.ownBlock]using D8
   rw[vK]at aJ;cases aJ;rfl
 ·intro c ao;obtain⟨ae,ak⟩:=a8 c ao;have aM:c<W.heap.size:=J;have bS:(w1.setCell ⟨B,0,none⟩ gW).heap[c]? =w1.heap[c]? :=Below.heap_setCell _ _ _ c ak;have bE:w1.heap[c]? =(W.alloc tmp).heap[c]? :=bW.block c (by simp;omega) (λe=>by have:=sB c e.symm;omega);have eV:(W.alloc tmp).heap[c]? =W.heap[c]? :=(World.grownBy_alloc W tmp none).block c aM (by simp);rw[bS,bE,eV]
 ·exact(((Below.refl base W).alloc J tmp).grown bW (by simp;omega) (λj D8=>by have:=sB j D8;omega)).setCell (p:=(B,0)) ih gW
def arX(eg:List Int):eg.flatMap dD=eg.map (.int .i64):=by
 induction eg with
 |nil=>rfl
 |cons x eg cI=>rw[nI,cI];rfl
def arY{b0:Nat}{v:Value}{eg:List Int}(aa:b0<=base)(h:w.ownsRow base 3 1 v eg.length (eg.map (.int .i64))):∃aw cap,v=.slice aw eg.length cap/\Own w b0 3 1 dD aw eg.length cap eg:=by
 have sV:=h;rw[<-arX]at sV;rcases h.2 with ⟨rfl,aW⟩|⟨g,cap,cur,rfl,_⟩
 ·rw[aW]at sV ⊢;exact⟨none,0,rfl,(show Own w base 3 1 dD none 0 0 eg from⟨sV,aW.symm,dD.rM⟩).mono aa⟩
 ·exact⟨_,cap,rfl,(show Own w base 3 1 dD _ eg.length cap eg from⟨sV,rfl,dD.rM⟩).mono aa⟩
def arZ(s:bk)(n cap m:Nat)(ps:List Int)(w:aC)(av:a1 w 1 dD s n cap ps)(dp:jn ps=true)(hm:m<n):
  Calls prog 223 #[aq s n cap,(m:Int)] w (p3 3 1 dD (zW ps (m:Int) ps.length) w):=by
 obtain⟨ca,aO,gg,ft,pc⟩:=info_parts S0;obtain⟨⟨ae,ny⟩,cy⟩:=afe dp;have lW:=av.neq;have eu:=I lW;obtain⟨b,o,rfl,ar0⟩:=av.get 0 J;have cn:∀j (aJ:j<ps.length),w.cell? ⟨b,o+j,none⟩=some (.int .i64 ps[j]):=by
  intro j aJ;obtain⟨_,ks,e,ao⟩:=av.get j aJ;cases e;simpa using ao 0 _ rfl
 have jZ:=Dl (cn 0 J);replace cn:=I cn;clear ar0;subst lW;replace av:=I av;replace dp:=I dp;replace cy:=I cy;refine(callsIn_wide (n:=4)).1 ?_;have sA:Fence.wide.round=none:=rfl;refine callsIn_of_wp_marks func223 rfl trivial ?_ sA;simp only[ntmps223,KJ,mv,nW,Nat.reduceAdd,Nat.reduceSub,KK,KL,KM,KN,lq,FW];gi_wp2;refine⟨trivial,callsIn_wide.2 ((Yl _ _ _ m ps _ av dp hm).mono ?_)⟩;rintro e w1⟨rfl,bw⟩;replace bw:=I bw;gi_wp2;refine⟨trivial,callsIn_wide.2 ((arV _ _ _ _ _).mono ?_)⟩;rintro e aN⟨rfl,rfl⟩;gi_wp2;rename_i K ns;have y4:=bw.size;have DP:=((Boxed.new w1 22 (.slice none 0 0)).alloc (.cells #[.slice (some ⟨b,o,none⟩) ps.length cap] 22)).alloc (.cells #[(m:Int)] 3);have ch:Z w (((w1.alloc (.cells #[aH] 22)).alloc (.cells #[.slice (some ⟨b,o,none⟩) ps.length cap] 22)).alloc (.cells #[(m:Int)] 3)):=((bw.alloc _).alloc _).alloc _
 refine wpIn_rangeFunc_ownG sA af (gf:=301) (lb:=#[.pointer (some ⟨w1.heap.size+1,0,none⟩),.pointer (some ⟨w1.heap.size+2,0,none⟩)]) rfl trivial (enters_of func301 bV rfl)
  (arS Fence.wide 3 trivial sA af (w1.heap.size+1) (w1.heap.size+2) b o cap ps (m:Int) _ (by simp) (by simp) (by simp at jZ ⊢;omega) ny (by simp[go_sem]) (by simp[go_sem]) (λj aJ=>ch.ah (cn j aJ)))
  (λh k c q=>(k c q).trans (h c q)) ?kV (Below.refl _ _) (λ_=>rfl)
  (fun(cC:List Int) W=>(∃v,Boxed W w1.heap.size 22 v/\W.ownsRow (w1.heap.size+3) 3 1 v cC.length (cC.map (Value.int .i64))/\True)/\Below w.heap.size w W/\w1.heap.size+3<=W.heap.size)
  (λ_ _ _=>False)
  (OwnFrom.and (Own.from (holdsRow_own (w1.heap.size+3) w1.heap.size 22 3 1 (λcC:List Int=>cC.length) (λcC:List Int=>cC.map (Value.int .i64)) (fun(_:List Int) _=>True)) _) (OwnFrom.and (ownFrom_below (bA _) (by simp;omega)) (λ_ _ _ _ hs bu _=>eh hs bu.size)))
  (λ_ _ _ _ _ hs _ _=>hs)
  ⟨⟨_,DP,World.ownsRow_nil _ _ _ _,trivial⟩,ch,by simp⟩
  (λx=> {tmps:=#[.slice (some ⟨b,o,none⟩) ps.length cap,.int .i64 (m:Int),undef,undef,.slice none 0 0,.pointer (some ⟨w1.heap.size,0,none⟩),.int .i64 x,.slice (some ⟨b,o,none⟩) ps.length cap,.int .i64 (m:Int),.bool true,.bool false,.slice (some ⟨b,o,none⟩) ps.length cap,.int .i64 (m:Int),.func (.func 301) #[] #[.pointer (some ⟨w1.heap.size+1,0,none⟩),.pointer (some ⟨w1.heap.size+2,0,none⟩)],.int .i64 x,undef,undef,undef,undef,undef],defers:= []}) ?assign ?body ?done ?stop
 case kV=>
  intro W l _ ks aT fa _ _ c ao;refine(grownBy_putObj' W l ks).block c ?_ ?_
  ·have:=(FM.1 fa).1;simp at aT;rcases ao with rfl|rfl<;>omega
  ·simp at aT ⊢;rcases ao with rfl|rfl<;>omega
 case assign=>
  clear ns;intro l x W K aL;gi_wp2;exact aL
 case body=>
  clear ns;rintro l cC x W⟨⟨v,bo,pL,_⟩,br,fS⟩ _;have ao:=bo.cell;have di:w1.heap.size≠w1.heap.size+3:=J;gi_wp2_with (gi_at_builtin;refine wpListIn_append_own _ rfl _ _ 22 rfl (w1.heap.size+3) 3 ca (.int .i64 0) 1 8 underlying22 aO gg ft pc rfl af _ _ _ rfl (pL.alloc _) ⟨W.heap.size,0,none⟩ 1 1 [.int .i64 x] rfl rfl (cell_one_new _ _ _) (by simp[Value.oneCell']) (by simp only[maxLen];omega) J (by simp;omega) ?_;intro _ _ o6 bW _;obtain⟨_,dL,rfl⟩:=ownsRow_succ o6;obtain⟨D7,Yo,kn,k3,ar1,ih⟩:=arW (S:=λc=>c=w1.heap.size+2\/c=b) (base:=w.heap.size) bo af pL fS J J (by rintro c (rfl|rfl)<;>omega) o6 bW;have Yp:=D7.cell;have Yq:=D7.frozen);exact⟨k3.from _,ar1,⟨_,Yo,by simpa using kn,trivial⟩,br.trans ih,by have:=ih.size;omega⟩
 case done=>
  rintro D _ W jw rfl⟨⟨v,bo,pL,_⟩,br,_⟩ aL;have ao:=bo.cell;refine ns _ _ ?_;gi_wp2;refine⟨by simp,.inl ⟨_,_,rfl,run_takeDeferred aL,?_⟩⟩;have Yr:=ownsRow_putObj pL (.deferred none) aL rfl;obtain⟨aw,dL,rfl,dO⟩:=arY (b0:=w.heap.size) J Yr;exact⟨_,results_tmp rfl _ _ _,aw,_,dL,rfl,dO,br.trans ((Below.refl _ _).grown (grownBy_putObj' W D _) (by have:=br.size;omega) (λj D8=>by cases D8;simp at jw;omega))⟩
 case stop=>
  rintro D c _ W _ _ h _;exact h.elim
end
structure eR where
 l:Nat
 ag:List bg
 ps:List bg
 ay:List aA
def j0:eR:=⟨0,[],[],[]⟩
def eD(l:List bg)(i:aA):Bool:=l.any (λd=>cf d.id i)
def ik(l:List aA)(i:aA):Bool:=l.any (λj=>cf j i)
def rN(l:List bg)(i:aA):List bg:=l.filter (λd=> !cf d.id i)
def eT(s:eR)(r:gJ):Option eR:=
 if r.k=1 then (if r.n<=s.l then none else some {s with l:=r.n})
 else if r.k=2 then (if r.n≠s.ag.length\/eD s.ag r.e.id=true\/ik s.ay r.e.id=true then none else some {s with ag:=s.ag++[r.e],ps:=rN s.ps r.e.id})
 else if r.k=3 then (if eD s.ag r.e.id=true\/eD s.ps r.e.id=true\/ik s.ay r.e.id=true then none else some {s with ps:=s.ps++[r.e]})
 else if r.k=4 then (if eD s.ag r.id=true\/ik s.ay r.id=true then none else some {s with ay:=s.ay++[r.id],ps:=rN s.ps r.id})
 else if eD s.ps r.id=true then some {s with ps:=rN s.ps r.id} else none
def oF(s:eR):List gJ->Option eR
 | []=>some s
 |r::l=>match eT s r with|some s'=>oF s' l|none=>none
def xP(s:eR):List gJ:=
 (if s.l=0 then [] else [my s.l])++(s.ag.mapIdx hR++(s.ps.map jx++s.ay.map nV))
structure Ol (s:eR):Prop where
 l:gv s.l
 ag:∀d,d∈s.ag->hP d
 ps:∀d,d∈s.ps->hP d
 ay:∀i,i∈s.ay->dx i
 xQ:s.ag.length<=200000
 jE:s.ps.length<=200000
 cA:s.ay.length<=200000
structure sC (w:World) (s:lZ) (d:eR) (ag ps:List bO):Prop where
 cO:s.cO=(d.l:Int)
 l:ja w s.l.a s.l.n s.l.c ag
 j9:ag.map (·.d)=d.ag
 p:ja w s.p.a s.p.n s.p.c ps
 ma:ps.map (·.d)=d.ps
 b:a1 w 3 aA.cs s.b.a s.b.n s.b.c d.ay
def sC.ext{d:eR}(h:sC w s d ag ps)(U:Z w w'):sC w' s d ag ps:=⟨h.cO,h.l.ext U,h.j9,h.p.ext U,h.ma,h.b.ext U⟩
def afg{aX:List bg}(h:ag.map (·.d)=aX){p:bO}(aV:p∈ag):p.d∈aX:=by rw[<-h];exact mJ aV
def sC.xQ{d:eR}(h:sC w s d ag ps):s.l.n=d.ag.length:=by rw[h.l.aF.neq,<-h.j9,cr]
def sC.jE{d:eR}(h:sC w s d ag ps):s.p.n=d.ps.length:=by rw[h.p.aF.neq,<-h.ma,cr]
def y5{c:Nat}{aX:List bg}(h:ja w a n c ag)(hm:ag.map (·.d)=aX)(i:aA):(ag.map (·.x)).any (λx=>cf x.id i)=eD aX i:=R1 hm (λp aV=>(h.ct p aV).id)
structure rf (w:World) (base:Nat) (s:lZ) (d:eR) (ag ps:List bO):Prop where
 cO:s.cO=(d.l:Int)
 l:fx w base s.l.a s.l.n s.l.c ag
 j9:ag.map (·.d)=d.ag
 p:fx w base s.p.a s.p.n s.p.c ps
 ma:ps.map (·.d)=d.ps
 b:Own w base 54 3 aA.cs s.b.a s.b.n s.b.c d.ay
 gK:oo s.l.a s.p.a
def rf.ct{d:eR}(h:rf w base s d ag ps):sC w s d ag ps:=⟨h.cO,h.l.sj,h.j9,h.p.sj,h.ma,h.b.aF⟩
def rf.ext{d:eR}(h:rf w base s d ag ps)(U:Z w w'):rf w' base s d ag ps:=⟨h.cO,h.l.ext U,h.j9,h.p.ext U,h.ma,h.b.ext U,h.gK⟩
def rf.mono{aDn:Nat}{d:eR}(h:rf w base s d ag ps)(aa:aDn<=base):rf w aDn s d ag ps:=⟨h.cO,h.l.mono aa,h.j9,h.p.mono aa,h.ma,h.b.mono aa,h.gK⟩
def fx.nil(w:aC)(base:Nat):fx w base none 0 0 []:=⟨Own.nil _ _ _ bO.bH,λp aV=>by cases aV⟩
def fx.grow{aDn:Nat}{c:Nat}{e:TypeId}{sz:Nat}{kj:α->List Value}{aw:bk}{cap g:Nat}{cq:List α}(h:fx w base a n c ps)(bu:lH w w' aw g)(ax:Own w aDn e sz kj aw m cap cq)(aD:oo aw a)(ae:e≠154)(ak:e≠34)(aM:e≠77):fx w' base a n c ps:=
 ⟨bu.bI h.cg aD,λp aV=>(h.ct p aV).grow bu ax ae ak aM⟩
def fx.ri{c qB g:Nat}{x:b1}(h:fx w base a n c ps)(bu:lH w w' a g)(aK:Own w' base 66 8 bO.cs (some (g,0)) (n+1) qB (ps++[⟨x,d⟩]))(he:fO w base x d):fx w' base (some (g,0)) (n+1) qB (ps++[⟨x,d⟩]):=
 ⟨aK,λp aV=>by
  rcases iR.1 aV with aV|aV
  ·exact(h.ct p aV).grow bu h.cg af af af
  ·obtain rfl:=iH.1 aV
   exact he.grow bu h.cg af af af⟩
def fO.aB{x:b1}(h:fO w base x d){b:Nat}{cs:Array Value}{fr:Nat×Nat}(aa:w.heap[b]?=some (.cells cs t fr))(ae:154≠t)(ak:34≠t)(aM:77≠t)(j:Nat)(u:Value):fO (w.setCell (b,j) u) base x d:=
 let ⟨ys,e,o,a⟩:=h.e
 ⟨h.k,h.id,h.c,h.u,h.f.nh aa ae u,ys,e,o.nh aa ak u,λy hy=>(a y hy).nh aa aM u⟩
def fx.aB{c:Nat}(h:fx w base a n c ps){b:Nat}{cs:Array Value}{fr:Nat×Nat}(aa:w.heap[b]?=some (.cells cs t fr))(aW:66≠t)(ae:154≠t)(ak:34≠t)(aM:77≠t)(j:Nat)(u:Value):fx (w.setCell (b,j) u) base a n c ps:=
 ⟨h.cg.nh aa aW u,λp aV=>(h.ct p aV).aB aa ae ak aM j u⟩
def xR(r:gJ):Nat:=6+(gl r).length
def nZ(l:List gJ):Nat:=(l.map xR).sum
structure gN where
 e:bg
 a:Bool
def hD(l:List gN)(i:aA):Nat:=l.findIdx (λt=>cf t.e.id i)
def th(l:List gN)(i:aA):List gN:=l.eraseIdx (hD l i)
def sD(d:bg):Bool:=decide (3000<(hA d).length)
def qh(l:List gN)(t:gN):Int×List gN:=
 if hD l t.e.id<l.length then (170,l) else if 8<=l.length then (171,l) else if sD t.e=true then (172,l) else (0,l++[t])
def D9(ok:Bool)(l:List gN)(t:gN):Int×List gN:=
 if hD l t.e.id<l.length then (170,l) else if ok=false then (110,l) else qh l t
def sE(l:List gN)(i:aA):Option gN:=match l[hD l i]? with|some t=>if t.a=true then none else some t|none=>none
def Cs(l:List gN)(i:aA)(e:List cd):Int×List gN:=
 match sE l i with
 |none=>(170,l)
 |some t=>
  if so e=false then (40,l)
  else if 8<=t.e.aS.length then (171,l)
  else if sD {t.e with aS:=t.e.aS++[e]}=true then (172,l)
  else (0,l.set (hD l i) {t with e:={t.e with aS:=t.e.aS++[e]}})
def Ea(l:List gN)(i:aA):Int×List gN:=
 match sE l i with
 |none=>(170,l)
 |some t=>(0,l.set (hD l i) {t with a:=true})
def rj(l:List gN):List bg:=((l.filter (·.a)).take 4).map (·.e)
structure dC where
 k:Int
 h:Nat
 vs:List V
 c3:List bg
 aS:List bg
 ps:List bg
 ay:List aA
 aX:List aA
def S1:dC:=⟨0,0,[],[],[],[],[],[]⟩
structure az where
 b6:Nat
 st:eR
 tx:List gN
 ev:Nat
 e8:Nat->Option dC
 eN:List aA
 bl:List aA
 cW:List bg
 ez:List gJ
structure bt where
 ps:List Int
 hs:List Int
 room:Nat
def kE(ps:List Int)(m:Nat):List Nat:=(List.range ps.length).filter (λj=>decide (ps.getD j 0=(m:Int)))
def az.h5(b:az):Bool:=decide (b.b6=0)
def az.cc(c:bt)(b:az):List Nat:=kE c.ps b.b6
def az.je(b:az)(k:Nat):dC:=(b.e8 k).getD S1
def az.mz(c:bt)(b:az):List dC:=(b.cc c).map b.je
def az.wU(b:az)(i:aA):Bool:=ik b.bl i||ik b.st.ay i
def az.note(c:bt)(b:az)(r:gJ):az×Bool:=
 match eT b.st r with
 |none=>(b,false)
 |some s=>
  if nZ b.ez+xR r<=c.room then
   ({b with st:=s,ez:=b.ez++[r],tx:=if r.k=2 then th b.tx r.e.id else b.tx},true)
  else (b,false)
def az.vP(c:bt)(b:az)(d:bg):az×Bool:=b.note c (hR b.st.ag.length d)
def az.xS(c:bt)(b:az)(i:aA):az×Bool:=
 if (b.note c (nV i)).2=true then ({(b.note c (nV i)).1 with tx:=th (b.note c (nV i)).1.tx i},true) else ((b.note c (nV i)).1,false)
def nC(b:az)(out:List bg)(d:bg):List bg:=
 if (eD out d.id||(eD b.st.ag d.id||b.wU d.id))=true\/16<=out.length then out else out++[d]
def az.nH(c:bt)(b:az):List bg:=((b.mz c).flatMap (·.c3)).foldl (nC b) ((rj b.tx).foldl (nC b) [])
def aCW(cc:List dC)(i:aA):Int:=if (cc.any λm=>q5 m.vs i false)=true then 2 else if (cc.all λm=>q5 m.vs i true)=true then 1 else 0
def wV(c:bt)(f:aA->Int)(st:az×List bg)(d:bg):az×List bg:=
 if f d.id=1 then
  (if (st.1.vP c d).2=true then ((st.1.vP c d).1,st.2) else ((st.1.vP c d).1,st.2++[d]))
 else if f d.id=2 then
  (if (st.1.xS c d.id).2=true then ((st.1.xS c d.id).1,st.2) else ((st.1.xS c d.id).1,st.2++[d]))
 else (st.1,st.2++[d])
def az.dj(b:az)(i:aA):Bool:=eD b.st.ag i||ik b.st.ay i
def az.ti(c:bt)(b:az):List bg×List bg:=s5 b.dj b.cW (b.nH c)
def qP(c:bt)(b:az)(l:List bg):az:=l.foldl (λb d=>(b.vP c d).1) b
def az.zY(c:bt)(b:az)(l:List bg)(f:aA->Int):az×List bg:=l.foldl (wV c f) (b,[])
def az.fU(c:bt)(b:az):az:=
 if b.h5=false then b
 else {((qP c b (b.ti c).2).zY c (b.ti c).1 (aCW (b.mz c))).1 with cW:=((qP c b (b.ti c).2).zY c (b.ti c).1 (aCW (b.mz c))).2}
def tZ(o:List lX)(d:bg):List lX:=if d.k=1 then o else yF o d
def j1(l:List bg):List lX:=l.foldl tZ []
def qi(l:List bg)(h:Nat):List bg:=(l.drop h).take 4
def xT(cc:List dC)(out:List V)(i:aA):List V:=if aCW cc i≠0/\out.length<16 then out++[⟨i,decide (aCW cc i=1)⟩] else out
def Gd(cc:List dC)(ps:List bg)(rs:List aA):List V:=rs.foldl uP (ps.foldl (λout d=>xT cc out d.id) [])
def az.sF(c:bt)(b:az):dC:=⟨1,b.st.ag.length,Gd (b.mz c) b.st.ps b.eN,b.nH c,[],[],[],[]⟩
def lP(c:bt)(dX:Nat):List Int:=((List.range c.hs.length).filter (λj=>qO c.ps dX (c.hs.getD j 0).toNat)).map Int.ofNat
def vQ(ag:List bg)(cl:List Int):Nat->List bg->List bg
 |_,[]=> []
 |h,d::l=>jU (j1 (ag.take h)) cl d::vQ ag cl (h+1) l
def az.alu(c:bt)(b:az)(dX:Nat):dC:=
 ⟨2,min (b.je dX).h b.st.ag.length,[],[],vQ b.st.ag (lP c dX) (min (b.je dX).h b.st.ag.length) (qi b.st.ag (min (b.je dX).h b.st.ag.length)),
  ((if b.h5=true then b.cW else b.st.ps).take 16).map (jU (j1 b.st.ag) (lP c dX)),
  wI (b.st.ay++b.bl) ((b.je dX).c3.map (·.id)),p6 (λi=>eD b.st.ag i||eD b.st.ps i||eD b.cW i) (b.je dX).vs⟩
def jf(c:bt)(n:Nat):Nat:=(c.ps.getD n 0).toNat
def az.eB(c:bt)(b:az):List (Nat×dC):=(if b.h5=true then [] else [(jf c b.b6,b.sF c)])++(b.cc c).map (λk=>(k,b.alu c k))
def az.pN(c:bt)(b:az)(i:aA):az:=if eD b.st.ps i=true then (b.note c (yW i)).1 else b
def vR(c:bt)(st:az×List aA)(d:bg):az×List aA:=if (st.1.note c (jx d)).2=true then ((st.1.note c (jx d)).1,st.2) else ((st.1.note c (jx d)).1,st.2++[d.id])
def az.alx(b:az)(l:List bg):List bg×List aA:=pe (λi=>eD b.st.ag i||eD b.st.ps i||ik b.st.ay i) b.st.ps.length (l.filter (λd=> !ik b.bl d.id))
def az.Om(c:bt)(b:az)(l:List bg):az×List aA:=(b.alx l).1.foldl (vR c) (b,(l.filter (λd=>ik b.bl d.id)).map (·.id)++(b.alx l).2)
def az.ua(c:bt)(b:az)(l:List bg):az:={(b.Om c l).1 with eN:=(b.Om c l).2}
def az.take(c:bt):Nat->List bg->az->az
 |_,[],b=>b
 |n,d::l,b=>
  if n≠b.st.ag.length then az.take c (n+1) l b
  else if (b.note c (hR n d)).2=true then az.take c (n+1) l (b.note c (hR n d)).1 else (b.note c (hR n d)).1
def vS(c:bt)(b:az)(i:aA):az:=
 if b.wU i=true then b else az.pN c {b with bl:=b.bl++[i],tx:=th b.tx i} i
def az.vT(c:bt)(b:az)(m:dC):az:=(m.aX.foldl (az.pN c) (m.ay.foldl (vS c) (az.take c m.h m.aS b))).ua c m.ps
def az.On(c:bt)(b:az)(f:Nat):Bool:=(b.cc c).contains f
def az.Eb(c:bt)(b:az)(f:Nat):Bool:= !b.h5&&decide (c.ps.getD b.b6 0=(f:Int))
def az.A8(c:bt)(b:az)(f:Nat)(m:dC):az:=
 if b.On c f=true/\m.k=1 then az.fU c {b with e8:=λk=>if k=f then some m else b.e8 k}
 else if b.Eb c f=true/\m.k=2 then b.vT c m
 else b
def qj(b6:Nat)(s:eR):az:=⟨b6,{s with l:=s.l+1},[],0,λ_=>none,[],[],[],xP {s with l:=s.l+1}⟩
def az.xU(c:bt)(b:az)(cl:Int):Bool:=decide (0<=cl/\cl<c.hs.length)&&decide (c.hs.getD cl.toNat 0=(b.b6:Int))
def az.gX(b:az):aA:=⟨b.b6,b.st.l,(b.ev+1:Nat)⟩
def az.qk(b:az)(r:Int×List gN):Int×az:=if r.1=0 then (0,{b with tx:=r.2,ev:=b.ev+1}) else (r.1,b)
def az.pO(b:az)(cl:Int):Int×az:=b.qk (qh b.tx ⟨⟨1,b.gX,cl,0,[],[]⟩,false⟩)
def az.sub(b:az)(cl:Int)(n:Nat)(f:List T):Int×az:=b.qk (D9 (mY f) b.tx ⟨⟨2,b.gX,cl,n,f,[]⟩,true⟩)
def az.ah(b:az)(r:Int×List gN):Int×az:=if r.1=0 then (0,{b with tx:=r.2}) else (r.1,b)
def az.status(b:az)(i:aA):Int:=
 if eD b.st.ag i=true then 3 else if b.wU i=true then 4 else match b.tx[hD b.tx i]? with|some t=>if t.a=true then 2 else 1|none=>0
def mA(cl:Int):Nat->List lX->List bg->List (List cd)×Nat
 |n,_,[]=>([],n)
 |n,s,d::r=>if pa s cl d= [] then mA cl (n+1) (tZ s d) r else (pa s cl d,n+1)
def az.KP(b:az)(cl:Int)(Ys:Nat):List (List cd)×Nat:=mA cl Ys (j1 (b.st.ag.take Ys)) (b.st.ag.drop Ys)
inductive n1 where
 |up (b:az)
 |down (l:List gJ)
structure aZ where
 bR:Nat->n1
 iz:Nat->Nat->List dC
 cur:Nat->Nat
def aZ.hc(w:aZ)(n:Nat)(b:n1):aZ:={w with bR:=λk=>if k=n then b else w.bR k}
def aZ.vU(w:aZ)(a b:Nat)(l:List dC):aZ:={w with iz:=λx y=>if x=a/\y=b then l else w.iz x y}
def aZ.Oo(w:aZ)(c n:Nat):aZ:={w with cur:=λk=>if k=c then n else w.cur k}
def mR(c:bt)(a b:Nat):Bool:=decide (a<c.ps.length/\b<c.ps.length)&&(decide (c.ps.getD a 0=(b:Int))||decide (c.ps.getD b 0=(a:Int)))
def aZ.send(c:bt)(w:aZ)(a b:Nat)(m:dC):aZ:=if mR c a b=true/\(w.iz a b).length<8 then w.vU a b (w.iz a b++[m]) else w
def aZ.xV(c:bt)(w:aZ)(a:Nat)(l:List (Nat×dC)):aZ:=l.foldl (λw o=>w.send c a o.1 o.2) w
def aZ.tick(c:bt)(w:aZ)(n:Nat):aZ:=
 match w.bR n with
 |.down _=>w
 |.up b=>(w.hc n (.up (b.fU c))).xV c n ((b.fU c).eB c)
def aZ.Ec(c:bt)(w:aZ)(a b:Nat)(m:dC):aZ:=
 match w.bR b with
 |.down _=>w
 |.up k=>w.hc b (.up (k.A8 c a m))
def aZ.vV(c:bt)(w:aZ)(a b:Nat):aZ:=
 match w.iz a b with
 | []=>w
 |m::l=>(w.vU a b l).Ec c a b m
def aZ.drain(c:bt):Nat->aZ->Nat->Nat->aZ
 |0,w,_,_=>w
 |f+1,w,a,b=>if (w.iz a b).length=0 then w else aZ.drain c f (w.vV c a b) a b
def aZ.Oq(c:bt)(w:aZ)(n:Nat):aZ:=(List.range c.ps.length).foldl (λw dst=>if dst=n then w else aZ.drain c 9 w n dst) w
def aZ.kF(c:bt)(w:aZ)(n:Nat):aZ:=
 match w.bR n with
 |.down _=>w
 |.up _=>(w.tick c n).Oq c n
def Ed(n:Nat):List Nat:=(List.range n).reverse++List.range n
def aZ.round(c:bt)(w:aZ):aZ:=(Ed c.ps.length).foldl (aZ.kF c) w
def aZ.xW(w:aZ)(n:Nat):aZ:=match w.bR n with|.up b=>w.hc n (.down b.ez)|.down _=>w
def Ct(l:List gJ):eR:=(oF j0 l).getD j0
def n1.st:n1->eR
 |.up b=>b.st
 |.down l=>Ct l
def aZ.new:aZ:=⟨λn=>.up (qj n j0),λ_ _=> [],λ_=>0⟩
def dY(l:List bg):List aA:=l.map (·.id)
def KQ{l:List bg}{i:aA}:eD l i=true↔i∈dY l:=by
 unfold eD dY;rw[Az,kN];constructor
 ·rintro ⟨d,aD,h⟩;rw[AF]at h;exact⟨d,aD,of_decide_eq_true h⟩
 ·rintro ⟨d,aD,h⟩;exact⟨d,aD,by rw[AF];exact mS h⟩
def Ot{l:List aA}{i:aA}:ik l i=true↔i∈l:=by
 unfold ik;rw[Az];constructor
 ·rintro ⟨d,aD,h⟩;rw[AF]at h;exact(of_decide_eq_true h)▸aD
 ·intro h;exact⟨i,h,by rw[AF];exact mS rfl⟩
def Cu{l:List bg}{i:aA}:eD l i=false↔i∉dY l:=by rw[<-KQ,Ge]
def Ou{l:List aA}{i:aA}:ik l i=false↔i∉l:=by rw[<-Ot,Ge]
def afh{l:List bg}{i:aA}:d∈rN l i↔d∈l/\d.id≠i:=by
 unfold rN;rw[mI,AF];simp
def ar2{l:List bg}{i:aA}(h:i∉dY l):rN l i=l:=by
 unfold rN;rw[DE];intro d aD;rw[AF];simp only[FK,zy];exact λe=>h (e▸mJ aD)
structure ar3 (s:eR):Prop where
 xQ:(dY s.ag).Nodup
 jE:(dY s.ps).Nodup
 cA:s.ay.Nodup
 eS:∀i,i∈dY s.ag->i∉dY s.ps
 lb:∀i,i∈dY s.ag->i∉s.ay
 fC:∀i,i∈dY s.ps->i∉s.ay
def Ov{l:List α}{a:α}(h:l.Nodup)(aj:a∉l):(l++[a]).Nodup:=
 Ow.2 ⟨h,Gf.2 ⟨sW,xX⟩,λx U y hy e=>aj ((iH.1 hy)▸e▸U)⟩
def S2(l:List bg)(d:bg):dY (l++[d])=dY l++[d.id]:=gS
def rO{l:List α}{a b:α}:b∈l++[a]↔b∈l\/b=a:=by rw[iR,iH]
inductive A9 (s:eR) (r:gJ):eR->Prop where
 |cO (h:r.k=1) (an:s.l<r.n):A9 s r {s with l:=r.n}
 |entry (h:r.k=2) (an:r.n=s.ag.length) (ae:r.e.id∉dY s.ag) (ak:r.e.id∉s.ay):A9 s r {s with ag:=s.ag++[r.e],ps:=rN s.ps r.e.id}
 |ua (h:r.k=3) (ae:r.e.id∉dY s.ag) (ak:r.e.id∉dY s.ps) (aM:r.e.id∉s.ay):A9 s r {s with ps:=s.ps++[r.e]}
 |Ib (h:r.k=4) (ae:r.id∉dY s.ag) (ak:r.id∉s.ay):A9 s r {s with ay:=s.ay++[r.id],ps:=rN s.ps r.id}
 |pN (h:r.k≠1/\r.k≠2/\r.k≠3/\r.k≠4) (ae:r.id∈dY s.ps):A9 s r {s with ps:=rN s.ps r.id}
def S3{s s':eR}(h:eT s r=some s'):A9 s r s':=by
 unfold eT at h;by_cases ae:r.k=1
 ·rw[bm ae]at h;split at h
  ·cases h
  ·rename_i an;injection h with h;subst h;exact .cO ae J
 rw[bj ae]at h;by_cases ak:r.k=2
 ·rw[bm ak]at h;split at h
  ·cases h
  ·rename_i an;injection h with h;subst h;simp only[not_or,Ge,Decidable.not_not]at an;exact .entry ak an.1 (Cu.1 an.2.1) (Ou.1 an.2.2)
 rw[bj ak]at h;by_cases aM:r.k=3
 ·rw[bm aM]at h;split at h
  ·cases h
  ·rename_i an;injection h with h;subst h;simp only[not_or,Ge]at an;exact .ua aM (Cu.1 an.1) (Cu.1 an.2.1) (Ou.1 an.2.2)
 rw[bj aM]at h;by_cases bn:r.k=4
 ·rw[bm bn]at h;split at h
  ·cases h
  ·rename_i an;injection h with h;subst h;simp only[not_or,Ge]at an;exact .Ib bn (Cu.1 an.1) (Ou.1 an.2)
 rw[bj bn]at h;split at h
 ·rename_i an;injection h with h;subst h;exact .pN ⟨ae,ak,aM,bn⟩ (KQ.1 an)
 ·cases h
def Ba(s:eR)(r:gJ)(l:List gJ):oF s (r::l)=(eT s r).bind (λs'=>oF s' l):=by
 rw[oF];cases eT s r<;>rfl
def Ic(s:eR)(a b:List gJ):oF s (a++b)=(oF s a).bind (λs'=>oF s' b):=by
 induction a generalizing s with
 |nil=>rfl
 |cons r a cI=>
  rw[FW,Ba,Ba];cases eT s r with
  |none=>rfl
  |some s'=>exact cI s'
def KR{Q:gJ->Prop}{P:eR->Prop}(kz:∀s r s',Q r->P s->A9 s r s'->P s'){l:List gJ}:∀{s s':eR},oF s l=some s'->(∀r,r∈l->Q r)->P s->P s':=by
 induction l with
 |nil=>intro s s' h _ aV;injection h with h;exact h▸aV
 |cons r l cI=>
  intro s _ h bq aV;rw[Ba]at h;cases aK:eT s r with
  |none=>rw[aK]at h;cases h
  |some e3=>
   rw[aK]at h;exact cI h (λx U=>bq x (kA _ U)) (kz s r e3 (bq r kh) aV (S3 aK))
def ar4(n:Nat)(ys:List bg):∀xs:List bg,(dY (xs++ys)).Nodup->oF ⟨n,xs,[],[]⟩ (ys.mapIdx (λi d=>hR (xs.length+i) d))=some ⟨n,xs++ys,[],[]⟩:=by
 induction ys with
 |nil=>intro xs _;rw[mH];rfl
 |cons d ys cI=>
  intro xs h;have e:xs++d::ys=(xs++[d])++ys:=by rw[iI];rfl
  rw[List.mapIdx_cons,Ba];refine afi ?_;intro aD;have aK:eT ⟨n,xs,[],[]⟩ (hR (xs.length+0) d)=some ⟨n,xs++[d],[],[]⟩:=by
   unfold eT;rw[bj (by simp[hR]),bm (by simp[hR]),bj]
   ·rfl
   ·simp only[not_or,Ge,Decidable.not_not];exact⟨rfl,Cu.2 aD,rfl⟩
  rw[aK];simp only[Ie];rw[e];have:=cI (xs++[d]) (by rw[<-e];exact h);rw[cH,KS]at this;rw[<-this];congr 2;funext i y6;congr 1;omega
def ar5(n:Nat)(ag:List bg)(ys:List bg):∀xs:List bg,(dY (xs++ys)).Nodup->(∀i,i∈dY ag->i∉dY (xs++ys))->oF ⟨n,ag,xs,[]⟩ (ys.map jx)=some ⟨n,ag,xs++ys,[]⟩:=by
 induction ys with
 |nil=>intro xs _ _;rw[mH];rfl
 |cons d ys cI=>
  intro xs h aT;have e:xs++d::ys=(xs++[d])++ys:=by rw[iI];rfl
  rw[tj,Ba];refine afi ?_;intro aD;have aK:eT ⟨n,ag,xs,[]⟩ (jx d)=some ⟨n,ag,xs++[d],[]⟩:=by
   unfold eT;rw[bj (by simp[jx]),bj (by simp[jx]),bm (by simp[jx]),bj]
   ·rfl
   ·simp only[not_or,Ge];exact⟨Cu.2 (λk=>aT _ k (by simp[dY,jx])),Cu.2 aD,rfl⟩
  rw[aK];simp only[Ie];rw[e];exact cI (xs++[d]) (by rw[<-e];exact h) (by rw[<-e];exact aT)
def ar6(n:Nat)(ag ps:List bg)(ys:List aA):∀xs:List aA,(xs++ys).Nodup->(∀i,i∈dY ag->i∉xs++ys)->(∀i,i∈dY ps->i∉xs++ys)->oF ⟨n,ag,ps,xs⟩ (ys.map nV)=some ⟨n,ag,ps,xs++ys⟩:=by
 induction ys with
 |nil=>intro xs _ _ _;rw[mH];rfl
 |cons d ys cI=>
  intro xs h aT aV;have e:xs++d::ys=(xs++[d])++ys:=by rw[iI];rfl
  rw[tj,Ba];have aD:d∉xs:=λk=>(Ow.1 h).2.2 d k d (by simp) rfl;have aK:eT ⟨n,ag,ps,xs⟩ (nV d)=some ⟨n,ag,ps,xs++[d]⟩:=by
   unfold eT;rw[bj (by simp[nV]),bj (by simp[nV]),bj (by simp[nV]),bm (by simp[nV]),bj]
   ·have:rN ps d=ps:=ar2 (λk=>aV _ k (by simp));simp only[nV,this]
   ·simp only[not_or,Ge];exact⟨Cu.2 (λk=>aT _ k (by simp[nV])),Ou.2 aD⟩
  rw[aK];simp only[Ie];rw[e];exact cI (xs++[d]) (by rw[<-e];exact h) (by rw[<-e];exact aT) (by rw[<-e];exact aV)
def afj{s:eR}(w:ar3 s)(aW:0<s.l):oF j0 (xP s)=some s:=by
 obtain⟨l,ag,ps,ay⟩:=s;simp only at aW;unfold xP;rw[bj (by simp only;omega),Ic];have ae:oF j0 [my l]=some ⟨l,[],[],[]⟩:=by
  rw[Ba];have:eT j0 (my l)=some ⟨l,[],[],[]⟩:=by
   unfold eT;rw[bm (by simp[my]),bj (by simp[my,j0];omega)];rfl
  rw[this];rfl
 rw[ae,Ie,Ic];have ak:=ar4 l ag [] (by simpa using w.xQ);simp only[nW,om,lq]at ak;have bE:ag.mapIdx hR=ag.mapIdx (λi d=>hR i d):=rfl;rw[bE,ak,Ie,Ic,ar5 l ag ps [] (by simpa using w.jE) (by simpa using w.eS),Ie,ar6 l ag ([]++ps) ay [] (by simpa using w.cA) (by simpa using w.lb) (by simpa using w.fC)];rfl
def Yt(a b:List gJ):nZ (a++b)=nZ a+nZ b:=by unfold nZ;rw[List.map_append,List.sum_append]
def Ox(r:gJ):nZ [r]=xR r:=by simp[nZ]
section
structure gY (d:bg):Prop where
 ok:hP d
 sz:(hA d).length<=3000
def ar7{a b:Nat}(h:a<=b)(aa:b<=8):(cJ a).length<=(cJ b).length:=by
 have e:nz 0=0:=Xh;rw[AT,AT];rcases yO a with rfl|aj
 ·rw[e];omega
 ·rw[Xi aj J,Xi (gw aj h) J,show a / 256=0 by omega,show b / 256=0 by omega];exact bA _
def ar8(f:α->List β){a b:List α}(h:a.Sublist b):(a.flatMap f).length<=(b.flatMap f).length:=by
 induction h with
 |slnil=>exact bA _
 |cons r _ cI=>rw[nI,cH];omega
 |cons_cons r _ cI=>rw[nI,nI,cH,cH];omega
def Yu(l:List lX)(cl:List Int)(h:gY d):gY (jU l cl d):=by
 unfold jU;split
 ·rename_i hk;have hs:(AH (J4 l cl) d.aS).Sublist d.aS:=List.filter_sublist;rcases h.ok.k with ⟨bQ,bY,ew,fm,iQ⟩|⟨bQ,_⟩|⟨bQ,_⟩
  ·refine⟨⟨h.ok.id,h.ok.c,h.ok.u,.inl ⟨bQ,bY,ew,eh hs.length_le fm,λe he=>iQ e (hs.subset he)⟩⟩,eh ?_ h.sz⟩;have ae:=ar7 hs.length_le fm;have ak:=ar8 (λe=>gi (oS e)) hs;unfold hA;simp only[hk,if_true,cH];omega
  ·rw[hk]at bQ;cases bQ
  ·rw[hk]at bQ;cases bQ
 ·exact h
def ar9{e:List cd}(h:so e=true)(aO:∀a,a∈e->k8 a.n):zN e:=⟨h,aO⟩
structure jg (c:bt) (Q:gJ->Prop) (tl:List aA) (b b':az):Prop where
 b6:b'.b6=b.b6
 ev:b'.ev=b.ev
 e8:b'.e8=b.e8
 tx:b'.tx.Sublist b.tx
 ez:∃rs,b'.ez=b.ez++rs/\oF b.st rs=some b'.st/\∀r,r∈rs->Q r
 qK:nZ b.ez<=c.room->nZ b'.ez<=c.room
 bl:∀i,i∈b'.bl->i∈b.bl\/i∈tl
 vW:b.bl.Nodup->b'.bl.Nodup
section
variable {c:bt}{Q afk:gJ->Prop}{tl afl:List aA}{b b' afm:az}
def jg.refl(c:bt)(Q:gJ->Prop)(tl:List aA)(b:az):jg c Q tl b b:=⟨rfl,rfl,rfl,List.Sublist.refl _,⟨[],by rw[mH],rfl,λr h=>(by cases h)⟩,id,λ_ h=>.inl h,id⟩
def jg.trans(h:jg c Q tl b b')(k:jg c Q tl b' afm):jg c Q tl b afm:=by
 obtain⟨rs,ae,ak,aM⟩:=h.ez;obtain⟨asa,bQ,bY,ew⟩:=k.ez;refine⟨k.b6.trans h.b6,k.ev.trans h.ev,k.e8.trans h.e8,k.tx.trans h.tx,⟨rs++asa,by rw[bQ,ae,iI],by rw[Ic,ak];exact bY,λr ax=>(iR.1 ax).elim (aM r) (ew r)⟩,λbc=>k.qK (h.qK bc),λi aO=>(k.bl i aO).elim (h.bl i) .inr,λan=>k.vW (h.vW an)⟩
def jg.mono(h:jg c Q tl b b')(bq:∀r,Q r->afk r)(a6:∀i,i∈tl->i∈afl):jg c afk afl b b':=by
 obtain⟨rs,ae,ak,aM⟩:=h.ez;exact⟨h.b6,h.ev,h.e8,h.tx,⟨rs,ae,ak,λr ax=>bq r (aM r ax)⟩,h.qK,λi aO=>(h.bl i aO).imp id (a6 i),h.vW⟩
def Oy{x d:α}{l:List α}{p:Prop}(h:p\/d=x):p\/d∈x::l:=h.imp id (λe=>by rw[e];exact kh)
def KT(l:List gN)(i:aA):(th l i).Sublist l:=S4 _ _
def Ig(c:bt)(tl:List aA)(b:az)(ax:Q r):jg c Q tl b (b.note c r).1:=by
 unfold az.note;cases aK:eT b.st r with
 |none=>exact jg.refl _ _ _ _
 |some s=>
  dsimp only;split
  ·rename_i bc;refine⟨rfl,rfl,rfl,?_,⟨[r],rfl,?_,λx U=>(iH.1 U)▸ax⟩,λ_=>?_,λ_ h=>.inl h,id⟩
   ·dsimp only;split
    ·exact KT _ _
    ·exact List.Sublist.refl _
   ·rw[Ba,aK];rfl
   ·dsimp only;rw[Yt,Ox];exact bc
  ·exact jg.refl _ _ _ _
def Yv(c:bt)(tl:List aA)(b:az)(ax:∀n,Q (hR n d)):jg c Q tl b (b.vP c d).1:=Ig c tl b (ax _)
def afn(c:bt)(tl:List aA)(b:az){i:aA}(ax:Q (nV i)):jg c Q tl b (b.xS c i).1:=by
 have h:=Ig c tl b ax;unfold az.xS;split
 ·exact⟨h.b6,h.ev,h.e8,(KT _ _).trans h.tx,h.ez,h.qK,h.bl,h.vW⟩
 ·exact h
def asb(c:bt)(tl:List aA)(l:List bg):∀b:az,(∀d,d∈l->∀n,Q (hR n d))->jg c Q tl b (qP c b l):=by
 induction l with
 |nil=>intro b _;exact jg.refl _ _ _ _
 |cons d l cI=>
  intro b h;exact(Yv c tl b (h d kh)).trans (cI _ (λx U=>h x (kA _ U)))
def asc(c:bt)(tl:List aA)(f:aA->Int)(l:List bg):∀(b b0:az) (bs cC:List bg),(∀d,d∈l->(∀n,Q (hR n d))/\Q (nV d.id))->jg c Q tl b b0->bs.Sublist cC->
  jg c Q tl b (l.foldl (wV c f) (b0,bs)).1/\((l.foldl (wV c f) (b0,bs)).2).Sublist (cC++l):=by
 induction l with
 |nil=>intro b b0 bs cC _ h hw;exact⟨h,by rw[mH];exact hw⟩
 |cons d l cI=>
  intro b b0 bs cC bq h hw;rw[mM];have e:cC++d::l=(cC++[d])++l:=by rw[iI];rfl
  rw[e];have aD:=bq d kh;have ax:=λx U=>bq x (kA d U);have w1:bs.Sublist (cC++[d]):=hw.trans (List.sublist_append_left _ _);have aN:(bs++[d]).Sublist (cC++[d]):=hw.append (List.Sublist.refl _);unfold wV;split
  ·split
   ·exact cI b _ _ _ ax (h.trans (Yv c tl b0 aD.1)) w1
   ·exact cI b _ _ _ ax (h.trans (Yv c tl b0 aD.1)) aN
  ·split
   ·split
    ·exact cI b _ _ _ ax (h.trans (afn c tl b0 aD.2)) w1
    ·exact cI b _ _ _ ax (h.trans (afn c tl b0 aD.2)) aN
   ·exact cI b _ _ _ ax h aN
def afo(dj:aA->Bool)(aX:List bg):∀st:List bg×List bg,(∀d,d∈(aX.foldl (pg dj) st).1->d∈st.1\/d∈aX)/\(∀d,d∈(aX.foldl (pg dj) st).2->d∈st.2\/d∈aX)/\((aX.foldl (pg dj) st).1.length<=max st.1.length 4):=by
 induction aX with
 |nil=>intro st;exact Yw
 |cons x aX cI=>
  intro st;rw[mM];have key:(∀d,d∈(pg dj st x).1->d∈st.1\/d=x)/\(∀d,d∈(pg dj st x).2->d∈st.2\/d=x)/\(pg dj st x).1.length<=max st.1.length 4:=by
   unfold pg;split
   ·exact Yw
   ·split
    ·split
     ·exact⟨λd h=>rO.1 h,λd h=>.inl h,Gg⟩
     ·exact Yw
    ·exact⟨λd h=>.inl h,λd h=>rO.1 h,Oz _ _⟩
  obtain⟨i1,ht,_⟩:=cI (pg dj st x);refine⟨λd h=>?_,λd h=>?_,J⟩
  ·exact Yx
  exact afp
def afq(b:az)(l:List bg):∀out:List bg,(∀d,d∈l.foldl (nC b) out->d∈out\/d∈l)/\(l.foldl (nC b) out).length<=max out.length 16:=by
 induction l with
 |nil=>intro out;exact⟨λd h=>.inl h,Oz _ _⟩
 |cons x l cI=>
  intro out;rw[mM];obtain⟨i1,_⟩:=cI (nC b out x);have key:(∀d,d∈nC b out x->d∈out\/d=x)/\(nC b out x).length<=max out.length 16:=by
   unfold nC;split
   ·exact⟨λd h=>.inl h,Oz _ _⟩
   ·rename_i b5;exact⟨λd h=>rO.1 h,Gg⟩
  refine⟨λd h=>?_,J⟩;exact Yx
structure Yy (A:bg->Prop) (b:az):Prop where
 tx:∀t,t∈b.tx->t.a=true->A t.e
 e8:∀k m,b.e8 k=some m->∀d,d∈m.c3->A d
 cW:∀d,d∈b.cW->A d
variable {A:bg->Prop}
def S5(c:bt){b:az}(h:Yy A b):(∀d,d∈b.nH c->A d)/\(b.nH c).length<=16:=by
 obtain⟨ae,ak⟩:=afq b (rj b.tx) [];obtain⟨bQ,_⟩:=afq b ((b.mz c).flatMap (·.c3)) ((rj b.tx).foldl (nC b) []);simp only[nW]at ak;refine⟨λd aD=>?_,by unfold az.nH;omega⟩;rcases bQ d aD with k|k
 ·rcases ae d k with k|k
  ·cases k
  ·unfold rj at k;obtain⟨t,a6,rfl⟩:=kN.1 k;have a6:=mI.1 (AO a6);exact h.tx t a6.1 a6.2
 ·obtain⟨m,hm,aD⟩:=Kn.1 k;unfold az.mz at hm;obtain⟨j,_,rfl⟩:=kN.1 hm;unfold az.je at aD;cases ax:b.e8 j with
  |none=>rw[ax]at aD;cases aD
  |some m=>rw[ax]at aD;exact h.e8 j m ax d aD
def asd(c:bt)(tl:List aA){b:az}(h:Yy A b)(jz:∀d,A d->(∀n,Q (hR n d))/\Q (nV d.id))(hw:b.cW.length<=4):
  jg c Q tl b (b.fU c)/\(∀d,d∈(b.fU c).cW->A d)/\(b.fU c).cW.length<=4:=by
 unfold az.fU;split
 ·exact⟨jg.refl _ _ _ _,h.cW,hw⟩
 ·obtain⟨m1,m2,m3⟩:=afo b.dj (b.nH c) (b.cW,[]);have aj:=(S5 c h).1;have cL:∀d,d∈(b.ti c).1->A d:=λd aD=>(m1 d aD).elim (h.cW d) (aj d);have cE:∀d,d∈(b.ti c).2->A d:=λd aD=>(m2 d aD).elim (λk=>(by cases k)) (aj d);have bS:=asb (Q:=Q) c tl (b.ti c).2 b (λd aD=>(jz d (cE d aD)).1);obtain⟨bE,ju⟩:=asc (Q:=Q) c tl (aCW (b.mz c)) (b.ti c).1 b _ [] [] (λd aD=>jz d (cL d aD)) bS (List.Sublist.refl _);rw[lq]at ju;refine⟨⟨bE.b6,bE.ev,bE.e8,bE.tx,bE.ez,bE.qK,bE.bl,bE.vW⟩,λd aD=>cL d (ju.subset aD),?_⟩;have:=ju.length_le;have ase:(b.ti c).1.length<=max b.cW.length 4:=m3;dsimp only;exact eh this J
def afr(c:bt)(tl:List aA)(b:az){i:aA}(ax:Q (yW i)):jg c Q tl b (b.pN c i):=by
 unfold az.pN;split
 ·exact Ig c tl b ax
 ·exact jg.refl _ _ _ _
def asf(c:bt)(tl:List aA)(b:az){i:aA}(aO:i∈tl)(ax:Q (yW i)):jg c Q tl b (vS c b i):=by
 unfold vS;split
 ·exact jg.refl _ _ _ _
 ·rename_i an;refine jg.trans (b':={b with bl:=b.bl++[i],tx:=th b.tx i}) ⟨rfl,rfl,rfl,KT _ _,⟨[],by rw[mH],rfl,λr h=>(by cases h)⟩,id,λj aJ=>?_,λaD=>?_⟩ (afr c tl _ ax)
  ·rcases rO.1 aJ with k|k
   ·exact .inl k
   ·exact .inr (by rw[k];exact aO)
  ·refine Ov aD (λk=>an ?_);unfold az.wU;rw[Ot.2 k,Bool.true_or]
def afs{c:bt}{tl:List aA}{f:az->β->az}(l:List β)(bc:∀b x,x∈l->jg c Q tl b (f b x)):∀b,jg c Q tl b (l.foldl f b):=by
 induction l with
 |nil=>intro b;exact jg.refl _ _ _ _
 |cons x l cI=>intro b;exact(bc b x kh).trans (cI (λb y hy=>bc b y (kA _ hy)) _)
def asg(c:bt)(tl:List aA)(l:List bg):∀(b b0:az) (gh:List aA),(∀d,d∈l->Q (jx d))->jg c Q tl b b0->
  jg c Q tl b (l.foldl (vR c) (b0,gh)).1/\((l.foldl (vR c) (b0,gh)).2).length<=gh.length+l.length/\∀i,i∈(l.foldl (vR c) (b0,gh)).2->i∈gh\/i∈dY l:=by
 induction l with
 |nil=>intro b b0 gh _ h;exact⟨h,bA _,λi h=>.inl h⟩
 |cons d l cI=>
  intro b b0 gh bq h;rw[mM];have ax:=λx U=>bq x (kA d U);rw[show vR c (b0,gh) d=if (b0.note c (jx d)).2=true then ((b0.note c (jx d)).1,gh) else ((b0.note c (jx d)).1,gh++[d.id])from rfl];split
  ·obtain⟨i1,ht,wA⟩:=cI b _ gh ax (h.trans (Ig c tl b0 (bq d kh)));exact⟨i1,by rw[mv];omega,λi aO=>(wA i aO).imp id (kA _)⟩
  ·obtain⟨i1,ht,wA⟩:=cI b _ (gh++[d.id]) ax (h.trans (Ig c tl b0 (bq d kh)));refine⟨i1,by rw[cH,KS]at ht;rw[mv];omega,λi aO=>?_⟩;rcases wA i aO with k|k
   ·exact Oy (rO.1 k)
   ·exact .inr (kA _ k)
def aft(dj:aA->Bool)(jE:Nat)(aX:List bg):∀st:List bg×List aA,(∀d,d∈(aX.foldl (nx dj jE) st).1->d∈st.1\/d∈aX)/\(∀i,i∈(aX.foldl (nx dj jE) st).2->i∈st.2\/i∈dY aX)/\
  (aX.foldl (nx dj jE) st).1.length+(aX.foldl (nx dj jE) st).2.length<=st.1.length+st.2.length+aX.length:=by
 induction aX with
 |nil=>intro st;exact⟨λd h=>.inl h,λd h=>.inl h,bA _⟩
 |cons x aX cI=>
  intro st;rw[mM];have key:(∀d,d∈(nx dj jE st x).1->d∈st.1\/d=x)/\(∀i,i∈(nx dj jE st x).2->i∈st.2\/i=x.id)/\(nx dj jE st x).1.length+(nx dj jE st x).2.length<=st.1.length+st.2.length+1:=by
   unfold nx;split
   ·exact⟨λd h=>.inl h,λd h=>.inl h,J⟩
   ·split
    ·exact⟨λd h=>rO.1 h,λd h=>.inl h,Gg⟩
    ·exact⟨λd h=>.inl h,λd h=>rO.1 h,Gg⟩
  obtain⟨i1,ht,_⟩:=cI (nx dj jE st x);refine⟨λd h=>?_,λd h=>?_,by rw[mv];omega⟩
  ·exact Yx
  exact afp
def ash(c:bt)(tl:List aA)(b:az)(l:List bg)(aT:l.length<=16)(bq:∀d,d∈l->Q (jx d)):
  jg c Q tl b (b.ua c l)/\(b.ua c l).eN.length<=48/\∀i,i∈(b.ua c l).eN->i∈dY l:=by
 obtain⟨m1,m2,m3⟩:=aft (λi=>eD b.st.ag i||eD b.st.ps i||ik b.st.ay i) b.st.ps.length (l.filter (λd=> !ik b.bl d.id)) ([],[]);have hs:∀d,d∈(b.alx l).1->d∈l:=λd aD=>(m1 d aD).elim (λk=>(by cases k)) (λk=>(mI.1 k).1);obtain⟨bS,bE,eV⟩:=asg (Q:=Q) c tl (b.alx l).1 b b ((l.filter (λd=>ik b.bl d.id)).map (·.id)++(b.alx l).2) (λd aD=>bq d (hs d aD)) (jg.refl _ _ _ _);have f1:=xq (λd=>ik b.bl d.id) l;have f2:=xq (λd=> !ik b.bl d.id) l;simp only[nW]at m3;have ase:(b.alx l).1.length+(b.alx l).2.length<=0+0+(l.filter (λd=> !ik b.bl d.id)).length:=m3;refine⟨⟨bS.b6,bS.ev,bS.e8,bS.tx,bS.ez,bS.qK,bS.bl,bS.vW⟩,?_,λi aO=>?_⟩
 ·rw[cH,cr]at bE;have:(b.ua c l).eN.length<=_:=bE;omega
 ·rcases eV i aO with k|k
  ·rcases iR.1 k with k|k;exact afu
   ·rcases m2 i k with k|k
    ·cases k
    exact afu
  ·obtain⟨d,aD,rfl⟩:=kN.1 k;exact mJ (hs d aD)
def asi(c:bt)(tl:List aA)(l:List bg):∀(n:Nat) (b:az),(∀d,d∈l->∀n,Q (hR n d))->jg c Q tl b (az.take c n l b):=by
 induction l with
 |nil=>intro n b _;exact jg.refl _ _ _ _
 |cons d l cI=>
  intro n b bq;have ax:=λx U=>bq x (kA d U);have an:=Ig c tl b (bq d kh n);unfold az.take;split
  ·exact cI _ _ ax
  ·split
   ·exact an.trans (cI _ _ ax)
   ·exact an
def asj(c:bt)(b:az)(n:Nat)(d:bg):(b.note c (hR n d)).1.st.ag=b.st.ag\/n=b.st.ag.length/\(b.note c (hR n d)).1.st.ag=b.st.ag++[d]:=by
 unfold az.note;cases aK:eT b.st (hR n d)with
 |none=>exact .inl rfl
 |some s=>
  dsimp only;split
  ·have h:=S3 aK;cases h with
   |cO h _=>cases h
   |entry h an _ _=>exact .inr ⟨an,rfl⟩
   |ua h _ _ _=>cases h
   |Ib h _ _=>cases h
   |pN h _=>exact absurd rfl h.2.1
  ·exact .inl rfl
def y7(h:Nat)(l:List bg)(P:List aA):Prop:=∀k (hk:k<l.length),P[h+k]?=some l[k].id
def y7.tail{l:List bg}{P:List aA}(s:y7 h (d::l) P):y7 (h+1) l P:=λk hk=>by
 have:=s (k+1) (by rw[mv];omega);rw[List.getElem_cons_succ]at this;rw[<-this];congr 1;omega
def asl{l P:List aA}{i:aA}(h:l <+:P)(aO:P[l.length]?=some i):l++[i] <+:P:=by
 obtain⟨t,rfl⟩:=h;cases t with
 |nil=>rw[mH,y8 (bA _)]at aO;cases aO
 |cons x t=>
  rw[JU (bA _),Nat.sub_self]at aO;injection aO with aO;subst aO;exact⟨t,by rw[iI];rfl⟩
def asm(c:bt)(P:List aA)(l:List bg):∀(n:Nat) (b:az),dY b.st.ag <+:P->y7 n l P->dY (az.take c n l b).st.ag <+:P:=by
 induction l with
 |nil=>intro n b h _;exact h
 |cons d l cI=>
  intro n b h s;have aD:=s 0 (by simp);have key:dY (b.note c (hR n d)).1.st.ag <+:P:=by
   rcases asj c b n d with e|⟨an,e⟩
   ·rw[e];exact h
   ·rw[e,S2];refine asl h ?_;unfold dY;rw[cr,<-an];simpa using aD
  unfold az.take;split
  ·exact cI _ _ h s.tail
  ·split
   ·exact cI _ _ key s.tail
   ·exact key
structure xY (A E:bg->Prop) (m:dC):Prop where
 h:gv m.h
 oG:(m.k=1/\m.aS= []/\m.ps= []/\m.ay= []/\m.aX= [])\/(m.k=2/\m.vs= []/\m.c3= [])
 vs:m.vs.length<=16/\∀v,v∈m.vs->dx v.id
 c3:m.c3.length<=16/\∀d,d∈m.c3->A d
 aS:m.aS.length<=16/\∀d,d∈m.aS->E d
 ps:m.ps.length<=16/\∀d,d∈m.ps->E d
 ay:m.ay.length<=16/\∀i,i∈m.ay->dx i
 aX:m.aX.length<=16/\∀i,i∈m.aX->dx i
def asn(c:bt){b:az}{m:dC}{E:bg->Prop}(h:xY A E m)(ae:∀d,E d->(∀n,Q (hR n d))/\Q (jx d))(ak:∀i,dx i->Q (yW i)):
  jg c Q m.ay b (az.take c m.h m.aS b)/\jg c (λr=>Q r/\(r.k=3\/r.k=5)) m.ay (az.take c m.h m.aS b) (b.vT c m)/\(b.vT c m).eN.length<=48/\∀i,i∈(b.vT c m).eN->i∈dY m.ps:=by
 have bS:=asi (Q:=Q) c m.ay m.aS m.h b (λd aD=>(ae d (h.aS.2 d aD)).1);have bE:=afs (Q:=λr=>Q r/\(r.k=3\/r.k=5)) (c:=c) (tl:=m.ay) (f:=vS c) m.ay (λb x U=>asf c m.ay b U ⟨ak x (h.ay.2 x U),.inr rfl⟩) (az.take c m.h m.aS b);have eV:=afs (Q:=λr=>Q r/\(r.k=3\/r.k=5)) (c:=c) (tl:=m.ay) (f:=az.pN c) m.aX (λb x U=>afr c m.ay b ⟨ak x (h.aX.2 x U),.inr rfl⟩) (m.ay.foldl (vS c) (az.take c m.h m.aS b));obtain⟨gU,dr,eF⟩:=ash (Q:=λr=>Q r/\(r.k=3\/r.k=5)) c m.ay (m.aX.foldl (az.pN c) (m.ay.foldl (vS c) (az.take c m.h m.aS b))) m.ps h.ps.1 (λd aD=>⟨(ae d (h.ps.2 d aD)).2,.inl rfl⟩);exact⟨bS,(bE.trans eV).trans gU,dr,eF⟩
def y9(c:bt)(b:az)(r:gJ):(b.note c r).1.cW=b.cW/\(b.note c r).1.eN=b.eN:=by
 unfold az.note;cases eT b.st r with
 |none=>exact⟨rfl,rfl⟩
 |some s=>dsimp only;split<;>exact⟨rfl,rfl⟩
def aso(c:bt)(l:List bg):∀(n:Nat) (b:az),(az.take c n l b).cW=b.cW:=by
 induction l with
 |nil=>intro n b;rfl
 |cons d l cI=>
  intro n b;unfold az.take;split
  ·exact cI _ _
  ·split
   ·rw[cI];exact(y9 c b _).1
   ·exact(y9 c b _).1
def afv(c:bt)(b:az)(i:aA):(b.pN c i).cW=b.cW:=by
 unfold az.pN;split
 ·exact(y9 c b _).1
 ·rfl
def afw{f:az->β->az}(bc:∀b x,(f b x).cW=b.cW)(l:List β):∀b,(l.foldl f b).cW=b.cW:=by
 induction l with
 |nil=>intro b;rfl
 |cons x l cI=>intro b;rw[mM,cI,bc]
def asp(c:bt)(l:List bg):∀(b0:az) (gh:List aA),(l.foldl (vR c) (b0,gh)).1.cW=b0.cW:=by
 induction l with
 |nil=>intro b r;rfl
 |cons d l cI=>
  intro b r;rw[mM,show vR c (b,r) d=if (b.note c (jx d)).2=true then ((b.note c (jx d)).1,r) else ((b.note c (jx d)).1,r++[d.id])from rfl];split
  ·rw[cI];exact(y9 c b _).1
  ·rw[cI];exact(y9 c b _).1
def afx(c:bt)(b:az)(m:dC):(b.vT c m).cW=b.cW:=by
 unfold az.vT az.ua az.Om;dsimp only;rw[asp,afw (afv c),afw (λb i=>?_),aso];unfold vS;split
 ·rfl
 ·rw[afv]
end
def sG(r:gJ):Prop:=(∃n,r=my n/\gv n)\/(∃n d,r=hR n d/\gY d)\/(∃d,r=jx d/\gY d)\/(∃i,r=nV i/\dx i)\/(∃i,r=yW i/\dx i)
def KU(n:Nat)(h:gY d):sG (hR n d):=.inr (.inl ⟨n,d,rfl,h⟩)
def Yz(h:gY d):sG (jx d):=.inr (.inr (.inl ⟨d,rfl,h⟩))
def OA{i:aA}(h:dx i):sG (nV i):=.inr (.inr (.inr (.inl ⟨i,rfl,h⟩)))
def YA{i:aA}(h:dx i):sG (yW i):=.inr (.inr (.inr (.inr ⟨i,rfl,h⟩)))
def sG.e(h:sG r)(k:r.k=2\/r.k=3):gY r.e:=by
 rcases h with ⟨n,rfl,_⟩|⟨n,d,rfl,aD⟩|⟨d,rfl,aD⟩|⟨i,rfl,_⟩|⟨i,rfl,_⟩
 ·rcases k with k|k<;>cases k
 ·exact aD
 ·exact aD
 ·rcases k with k|k<;>cases k
 ·rcases k with k|k<;>cases k
def sG.i(h:sG r)(k:r.k=4):dx r.id:=by
 rcases h with ⟨n,rfl,_⟩|⟨n,d,rfl,aD⟩|⟨d,rfl,aD⟩|⟨i,rfl,aO⟩|⟨i,rfl,aO⟩
 ·cases k
 ·cases k
 ·cases k
 ·exact aO
 ·exact aO
structure S6 (s:eR):Prop where
 ag:∀d,d∈s.ag->gY d
 ps:∀d,d∈s.ps->gY d
 ay:∀i,i∈s.ay->dx i
def A9.Cv{s s':eR}(ax:sG r)(w:S6 s)(h:A9 s r s'):S6 s':=by
 have aD:∀i d,d∈rN s.ps i->gY d:=λi d aD=>w.ps d (afh.1 aD).1;cases h with
 |cO h an=>exact⟨w.ag,w.ps,w.ay⟩
 |entry h an ae ak=>exact⟨λd aD=>(rO.1 aD).elim (w.ag d) (λe=>e▸ax.e (.inl h)),aD _,w.ay⟩
 |ua h ae ak aM=>exact⟨w.ag,λd aD=>(rO.1 aD).elim (w.ps d) (λe=>e▸ax.e (.inr h)),w.ay⟩
 |Ib h ae ak=>exact⟨w.ag,aD _,λi aO=>(rO.1 aO).elim (w.ay i) (λe=>e▸ax.i h)⟩
 |pN h ae=>exact⟨w.ag,aD _,w.ay⟩
structure ub (c:bt) (l:List gJ) (s:eR):Prop where
 Ih:∀r,r∈l->sG r
 Cw:oF j0 l=some s
 qK:nZ l<=c.room
 cO:0<s.l
section
variable {c:bt}{l:List gJ}{s:eR}{tl:List aA}{b b':az}
def ub.Cv(h:ub c l s):S6 s:=KR (Q:=sG) (P:=S6) (λ_ _ _ ax aV aK=>aK.Cv ax aV) h.Cw h.Ih ⟨λd h=>(by cases h),λd h=>(by cases h),λd h=>(by cases h)⟩
def OB(l:List gJ):l.length*6<=nZ l:=by
 induction l with
 |nil=>exact hX _
 |cons r l cI=>
  have e:nZ (r::l)=xR r+nZ l:=by unfold nZ;rw[List.map_cons,List.sum_cons]
  have:6<=xR r:=by unfold xR;omega
  rw[mv];omega
def YB{l:List gJ}:∀{s s':eR},oF s l=some s'->s'.ag.length<=s.ag.length+l.length/\∀r,r∈l->r.k=2->r.n<=s.ag.length+l.length:=by
 induction l with
 |nil=>intro s s' h;injection h with h;subst h;exact⟨bA _,λr h=>(by cases h)⟩
 |cons r l cI=>
  intro s _ h;rw[Ba]at h;cases aK:eT s r with
  |none=>rw[aK]at h;cases h
  |some e3=>
   rw[aK]at h;have ae:=cI h;have ak:=S3 aK;have aM:e3.ag.length<=s.ag.length+1/\(r.k=2->r.n=s.ag.length):=by
    cases ak with
    |cO hk _=>exact YC
    |entry hk an _ _=>exact⟨by simp,λ_=>an⟩
    |ua hk _ _ _=>exact YC
    |Ib hk _ _=>exact YC
    |pN hk _=>exact⟨oN _,λk=>absurd k hk.2.1⟩
   rw[mv];refine⟨J,λx U k=>?_⟩;rcases nK.1 U with rfl|U
   ·have:=aM.2 k;omega
   ·have:=ae.2 x U k;omega
def ub.rH(h:ub c l s)(ax:c.room<=1048576):∀r,r∈l->xI r:=λr KV=>by
 have ae:=(YB h.Cw).2 r KV;have ak:=OB l;have aM:=h.qK;rcases h.Ih r KV with ⟨n,e,an⟩|⟨n,d,e,aD⟩|⟨d,e,aD⟩|⟨i,e,aO⟩|⟨i,e,aO⟩
 ·exact .inl ⟨n,e,an⟩
 ·refine .inr (.inl ⟨n,d,e,?_,aD.ok⟩);have:=ae (by rw[e];rfl);rw[e]at this;simp only[hR,j0,nW]at this;unfold gv;omega
 ·exact .inr (.inr (.inl ⟨d,e,aD.ok⟩))
 ·exact .inr (.inr (.inr (.inl ⟨i,e,aO⟩)))
 ·exact .inr (.inr (.inr (.inr ⟨i,e,aO⟩)))
def ub.eq(h:ub c l s):Ct l=s:=by unfold Ct;rw[h.Cw];rfl
structure xZ (s s':eR):Prop where
 l:s'.l=s.l
 ag:s.ag <+:s'.ag
 ay:s.ay <+:s'.ay
def A9.KW{s s':eR}(k:r.k≠1)(h:A9 s r s'):xZ s s':=by
 cases h with
 |cO h an=>exact absurd h k
 |entry h an ae ak=>exact⟨rfl,List.prefix_append _ _,Cx _⟩
 |ua h ae ak aM=>exact⟨rfl,Cx _,Cx _⟩
 |Ib h ae ak=>exact⟨rfl,Cx _,List.prefix_append _ _⟩
 |pN h ae=>exact⟨rfl,Cx _,Cx _⟩
def xZ.refl(s:eR):xZ s s:=⟨rfl,Cx _,Cx _⟩
def xZ.trans{s s' afy:eR}(h:xZ s s')(k:xZ s' afy):xZ s afy:=⟨k.l.trans h.l,h.ag.trans k.ag,h.ay.trans k.ay⟩
def jg.KW{Q:gJ->Prop}(h:jg c Q tl b b')(bq:∀r,Q r->r.k≠1):xZ b.st b'.st:=by
 obtain⟨_,_,ak,aM⟩:=h.ez;exact KR (Q:=Q) (P:=xZ b.st) (λ_ _ r ax aV aK=>aV.trans (aK.KW (bq _ ax))) ak aM (xZ.refl _)
def jg.asq{Q:gJ->Prop}(h:jg c Q tl b b')(bq:∀r,Q r->sG r/\r.k≠1)(k:ub c b.ez b.st):ub c b'.ez b'.st:=by
 have aT:=h.KW (λr ax=>(bq r ax).2);obtain⟨_,ae,ak,aM⟩:=h.ez;exact⟨λr ax=>by rw[ae]at ax;exact(iR.1 ax).elim (k.Ih r) (λz=>(bq r (aM r z)).1),by rw[ae,Ic,k.Cw];exact ak,h.qK k.qK,by rw[aT.l];exact k.cO⟩
def jg.asr{Q:gJ->Prop}(h:jg c Q tl b b')(bq:∀r,Q r->r.k≠2):b'.st.ag=b.st.ag:=by
 obtain⟨_,_,ak,aM⟩:=h.ez;refine KR (Q:=Q) (P:=λs=>s.ag=b.st.ag) (λ_ _ r ax aV aK=>?_) ak aM rfl;have:=bq _ ax;cases aK with
 |entry h _ _ _=>exact absurd h this
 |_=>exact aV
def jg.ass{Q:gJ->Prop}(h:jg c Q tl b b')(bq:∀r,Q r->r.k≠4):b'.st.ay=b.st.ay:=by
 obtain⟨_,_,ak,aM⟩:=h.ez;refine KR (Q:=Q) (P:=λs=>s.ay=b.st.ay) (λ_ _ r ax aV aK=>?_) ak aM rfl;have:=bq _ ax;cases aK with
 |Ib h _ _=>exact absurd h this
 |_=>exact aV
def jg.ast{Q:gJ->Prop}{A:bg->Prop}(h:jg c Q tl b b')(bq:∀r,Q r->r.k=2->A r.e)(aW:∀d,d∈b.st.ag->A d):∀d,d∈b'.st.ag->A d:=by
 obtain⟨_,_,ak,aM⟩:=h.ez;refine KR (Q:=Q) (P:=λs=>∀d,d∈s.ag->A d) (λ_ _ r ax aV aK=>?_) ak aM aW;have:=bq _ ax;cases aK with
 |entry h _ _ _=>exact λd aD=>(rO.1 aD).elim (aV d) (λe=>e▸this h)
 |_=>exact aV
end
def asu(ab:List aA)(l:List aA):∀out:List aA,(∀i,i∈l.foldl (wH ab) out->i∈out\/i∈ab)/\(l.foldl (wH ab) out).length<=max out.length 16:=by
 induction l with
 |nil=>intro out;exact Cy
 |cons x l cI=>
  intro out;rw[mM];have key:(∀i,i∈wH ab out x->i∈out\/i∈ab)/\(wH ab out x).length<=max out.length 16:=by
   unfold wH;split
   ·rename_i h;refine⟨λi aO=>?_,Gg⟩;rcases rO.1 aO with k|k
    ·exact .inl k
    ·exact .inr (by rw[k];exact Ot.1 h.2.1)
   ·exact Cy
  obtain⟨i1,_⟩:=cI (wH ab out x);exact⟨λi h=>(i1 i h).elim (key.1 i) .inr,J⟩
def asv(dj:aA->Bool)(l:List V):∀out:List aA,(∀i,i∈l.foldl (tO dj) out->i∈out\/∃v,v∈l/\v.id=i)/\(l.foldl (tO dj) out).length<=max out.length 16:=by
 induction l with
 |nil=>intro out;exact Cy
 |cons x l cI=>
  intro out;rw[mM];have key:(∀i,i∈tO dj out x->i∈out\/x.id=i)/\(tO dj out x).length<=max out.length 16:=by
   unfold tO;split
   ·exact Cy
   ·split
    ·exact Cy
    ·exact⟨λi aO=>(rO.1 aO).imp id Eq.symm,Gg⟩
  obtain⟨i1,_⟩:=cI (tO dj out x);refine⟨λi h=>?_,J⟩;rcases i1 i h with h|⟨v,bo,e⟩
  ·exact(key.1 i h).imp id (λe=>⟨x,kh,e⟩)
  ·exact .inr ⟨v,kA _ bo,e⟩
def asw(cc:List dC)(l:List bg):∀out:List V,(∀v,v∈l.foldl (λout d=>xT cc out d.id) out->v∈out\/v.id∈dY l)/\(l.foldl (λout d=>xT cc out d.id) out).length<=max out.length 16:=by
 induction l with
 |nil=>intro out;exact Cy
 |cons x l cI=>
  intro out;rw[mM];have key:(∀v,v∈xT cc out x.id->v∈out\/v.id=x.id)/\(xT cc out x.id).length<=max out.length 16:=by
   unfold xT;split
   ·exact⟨λi aO=>(rO.1 aO).imp id (λe=>by rw[e]),Gg⟩
   ·exact Cy
  obtain⟨i1,_⟩:=cI (xT cc out x.id);refine⟨λv h=>?_,J⟩;rcases i1 v h with h|h
  ·exact Oy (l:=dY l) (key.1 v h)
  ·exact .inr (kA _ h)
def asx(l:List aA):∀out:List V,(∀v,v∈l.foldl uP out->v∈out\/v.id∈l)/\(l.foldl uP out).length<=max out.length 16:=by
 induction l with
 |nil=>intro out;exact Cy
 |cons x l cI=>
  intro out;rw[mM];have key:(∀v,v∈uP out x->v∈out\/v.id=x)/\(uP out x).length<=max out.length 16:=by
   unfold uP;split
   ·exact Cy
   ·split
    ·exact Cy
    ·exact⟨λi aO=>(rO.1 aO).imp id (λe=>by rw[e]),Gg⟩
  obtain⟨i1,_⟩:=cI (uP out x);refine⟨λv h=>?_,J⟩;rcases i1 v h with h|h
  ·exact Oy (key.1 v h)
  ·exact .inr (kA _ h)
def afz{l:List bg}{i:aA}(h:i∈dY l):∃d,d∈l/\d.id=i:=kN.1 h
def asy(cc:List dC){ps:List bg}{rs:List aA}(aV:∀d,d∈ps->gY d)(ax:∀i,i∈rs->dx i):(Gd cc ps rs).length<=16/\∀v,v∈Gd cc ps rs->dx v.id:=by
 obtain⟨cL,cE⟩:=asw cc ps [];obtain⟨bd,_⟩:=asx rs (ps.foldl (λout d=>xT cc out d.id) []);simp only[nW]at cE;refine⟨by unfold Gd;omega,λv bo=>?_⟩;rcases bd v bo with h|h
 ·rcases cL v h with h|h
  ·cases h
  ·obtain⟨d,aD,e⟩:=afz h;rw[<-e];exact(aV d aD).ok.id
 ·exact ax _ h
def afA(ag:List bg)(cl:List Int)(l:List bg):∀h:Nat,(∀d,d∈l->gY d)->(vQ ag cl h l).length=l.length/\(∀d,d∈vQ ag cl h l->gY d)/\dY (vQ ag cl h l)=dY l:=by
 induction l with
 |nil=>intro h _;exact⟨rfl,λd aD=>(by cases aD),rfl⟩
 |cons x l cI=>
  intro h U;obtain⟨i1,ht,wA⟩:=cI (h+1) (λd aD=>U d (kA _ aD));rw[vQ];refine⟨by rw[mv,mv,i1],λd aD=>?_,?_⟩
  ·rcases nK.1 aD with rfl|aD
   ·exact Yu _ _ (U x kh)
   ·exact ht d aD
  ·have e:(jU (j1 (ag.take h)) cl x).id=x.id:=by unfold jU;split<;>rfl
   unfold dY at wA ⊢;rw[tj,tj,e,wA]
def asz{l:List bg}{P:List aA}(k:dY l=(P.drop h).take m):y7 h l P:=λj aJ=>by
 have:(dY l)[j]? =((P.drop h).take m)[j]? :=by rw[k]
 unfold dY at this;rw[nu,fz aJ,List.getElem?_take]at this;split at this
 ·rw[RF]at this;exact this.symm
 ·cases this
def y7.cC{l:List bg}{P afB:List aA}(s:y7 h l P)(k:P <+:afB):y7 h l afB:=λj aJ=>by
 obtain⟨t,rfl⟩:=k;have:=s j aJ
 rw[Hp (by
  rcases zz (h+j) P.length with q|q
  ·exact q
  ·rw[y8 q]at this;cases this)]
 exact this
structure lz where
 id:aA
 cl:Int
 aS:List (List cd)
 Bb:Bool
 S7:Bool
def KX(l:List lz)(d:bg):Prop:=d.k=1->∃x:lz,x∈l/\x.Bb=true/\x.S7=false/\x.id=d.id/\x.cl=d.c/\x.aS=d.aS
def rk(l:List lz)(d:bg):Prop:=gY d/\KX l d
structure Cz (l:List lz) (b:az) (t:gN):Prop where
 eA:gY t.e
 zZ:t.e.id.b=(b.b6:Int)
 KY:t.e.id.l=(b.st.l:Int)
 Ii:t.e.id.s<=(b.ev:Int)
 kO:t.a=true->KX l t.e
 Ee:t.a=false->t.e.k=1/\∃x:lz,x∈l/\x.Bb=false/\x.S7=false/\x.id=t.e.id/\x.cl=t.e.c/\x.aS=t.e.aS
structure gz (c:bt) (l:List lz) (R:List aA) (n:Nat) (b:az):Prop where
 b6:b.b6=n
 ez:ub c b.ez b.st
 tx:∀t,t∈b.tx->Cz l b t
 rP:(b.tx.map (·.e.id)).Nodup
 tk:b.tx.length<=8
 e8:∀k m,b.e8 k=some m->xY (rk l) gY m
 x0:∀d,d∈b.cW->rk l d
 cW:b.cW.length<=4
 eN:b.eN.length<=48/\∀i,i∈b.eN->dx i
 bl:b.bl.Nodup/\∀i,i∈b.bl->i∈R
def gZ(w:aZ)(n:Nat):eR:=(w.bR n).st
structure dy (c:bt) (l:List lz) (T:Nat) (w:aZ):Prop where
 up:∀n b,n<c.ps.length->w.bR n=.up b->gz c l (gZ w 0).ay n b/\b.ev<=T
 down:∀n dk,n<c.ps.length->w.bR n=.down dk->ub c dk (Ct dk)
 cO:∀n,n<c.ps.length->(gZ w n).l<=T+1
 cC:∀n,n<c.ps.length->0<n->dY (gZ w n).ag <+:dY (gZ w (jf c n)).ag
 ay:∀n,n<c.ps.length->0<n->(gZ w n).ay= []
 h5:∀d,d∈(gZ w 0).ag->rk l d
 Bc:∀a b m,m∈w.iz a b->xY (rk l) gY m/\(m.k=2->(∀i,i∈m.ay->i∈(gZ w 0).ay)/\(0<b->jf c b=a->y7 m.h m.aS (dY (gZ w a).ag)))
 len:∀a b,(w.iz a b).length<=8
 CA:(l.map (·.id)).Nodup
 CB:∀x,x∈l->∃n,n<c.ps.length/\x.id.b=(n:Int)/\x.id.l<=((gZ w n).l:Int)/\∀b,w.bR n=.up b->x.id.l=(b.st.l:Int)->x.id.s<=(b.ev:Int)
structure ka (c:bt):Prop where
 rQ:jn c.ps=true
 room:c.room<=1048576
def ka.n0{c:bt}(h:ka c):0<c.ps.length:=by
 have:=h.rQ;unfold jn at this;rw[ke,jQ]at this;omega
def ka.Ef{c:bt}(h:ka c){n:Nat}(an:n<c.ps.length)(aW:0<n):jf c n<n/\c.ps.getD n 0=(jf c n:Int):=by
 have:=h.rQ;unfold jn at this;simp only[ke,uL]at this;have:=this.2.2 n (qI.2 an);unfold A7 at this;simp only[xh,jQ]at this;unfold jf;omega
section
variable {c:bt}{l l':List lz}{T Eg n:Nat}{w:aZ}{b b':az}{R R':List aA}{tl:List aA}
def gz.S8(h:gz c l R n b):Yy (rk l) b:=⟨λt a6 aj=>⟨(h.tx t a6).eA,(h.tx t a6).kO aj⟩,λk m hm d aD=>(h.e8 k m hm).c3.2 d aD,h.x0⟩
def gz.mono(h:gz c l R n b)(bC:∀i,i∈R->i∈R'):gz c l R' n b:=⟨h.b6,h.ez,h.tx,h.rP,h.tk,h.e8,h.x0,h.cW,h.eN,h.bl.1,λi aO=>bC i (h.bl.2 i aO)⟩
def Cz.mn{t:gN}(h:Cz l b t)(ae:b'.b6=b.b6)(ak:b'.st.l=b.st.l)(aM:b.ev<=b'.ev):Cz l b' t:=⟨h.eA,by rw[ae];exact h.zZ,by rw[ak];exact h.KY,by have:=h.Ii;omega,h.kO,h.Ee⟩
def gz.tn{Q:gJ->Prop}(h:gz c l R n b)(e:jg c Q tl b b')(bq:∀r,Q r->sG r/\r.k≠1)(hw:∀d,d∈b'.cW->rk l d)(asA:b'.cW.length<=4)(ax:b'.eN.length<=48/\∀i,i∈b'.eN->dx i)(bC:∀i,i∈R->i∈R')(a6:∀i,i∈tl->i∈R'):gz c l R' n b':=by
 have aT:=e.KW (λr ax=>(bq r ax).2);exact⟨e.b6.trans h.b6,e.asq bq h.ez,λt a6=>(h.tx t (e.tx.subset a6)).mn e.b6 aT.l (by rw[e.ev];exact bA _),h.rP.sublist (e.tx.map _),eh e.tx.length_le h.tk,λk m hm=>h.e8 k m (by rw[<-e.e8];exact hm),hw,asA,ax,e.vW h.bl.1,λi aO=>(e.bl i aO).elim (λk=>bC i (h.bl.2 i k)) (a6 i)⟩
def wW(h:w.bR n=.up b):gZ w n=b.st:=by unfold gZ;rw[h];rfl
def x1(w:aZ)(n:Nat)(x:n1):(w.hc n x).bR n=x:=by unfold aZ.hc;simp
def CC(w:aZ)(x:n1)(h:k≠n):(w.hc n x).bR k=w.bR k:=by unfold aZ.hc;simp[h]
def KZ(w:aZ)(n:Nat)(x:n1):gZ (w.hc n x) n=x.st:=by unfold gZ;rw[x1]
def za(w:aZ)(x:n1)(h:k≠n):gZ (w.hc n x) k=gZ w k:=by unfold gZ;rw[CC w x h]
def asB{l l':List bg}(h:l <+:l'):dY l <+:dY l':=h.map _
def dy.hc(ao:ka c)(h:dy c l T w)(an:n<c.ps.length)(al:w.bR n=.up b)(kp:T<=Eg)(aa:gz c l (gZ (w.hc n (.up b')) 0).ay n b')(pn:xZ b.st b'.st)(gV:b.ev<=b'.ev)(K0:b'.ev<=Eg)(ax:n=0->∀d,d∈b'.st.ag->rk l d)(jH:0<n->b'.st.ay= []/\dY b'.st.ag <+:dY (gZ w (jf c n)).ag):dy c l Eg (w.hc n (.up b')):=by
 have ec:=wW al;have e3:gZ (w.hc n (.up b')) n=b'.st:=KZ _ _ _;have afC:∀k,dY (gZ w k).ag <+:dY (gZ (w.hc n (.up b')) k).ag:=λk=>by
  by_cases hk:k=n
  ·subst hk;rw[e3,ec];exact asB pn.ag
  ·rw[za w _ hk];exact Cx _
 have bC:∀i,i∈(gZ w 0).ay->i∈(gZ (w.hc n (.up b')) 0).ay:=λi aO=>by
  by_cases hk:0=n
  ·subst hk;rw[e3];rw[ec]at aO;exact pn.ay.subset aO
  ·rw[za w _ hk];exact aO
 refine⟨λk Bd hk Eh=>?_,λk dk hk k6=>?_,λk hk=>?_,λk hk aW=>?_,λk hk aW=>?_,λd aD=>?_,λx y m hm=>?_,h.len,h.CA,λx U=>?_⟩
 ·by_cases e:k=n
  ·subst e;rw[x1]at Eh;injection Eh with Eh;subst Eh;exact⟨aa,K0⟩
  ·rw[CC w _ e]at Eh;exact⟨(h.up k Bd hk Eh).1.mono bC,eh (h.up k Bd hk Eh).2 kp⟩
 ·by_cases e:k=n
  ·subst e;rw[x1]at k6;cases k6
  ·rw[CC w _ e]at k6;exact h.down k dk hk k6
 ·by_cases e:k=n
  ·subst e;rw[e3,pn.l];have:=h.cO k hk;rw[ec]at this;omega
  ·rw[za w _ e];have:=h.cO k hk;omega
 ·by_cases e:k=n
  ·subst e;rw[e3,za w _ (by have:=(ao.Ef hk aW).1;omega)];exact(jH aW).2
  ·rw[za w _ e];exact(h.cC k hk aW).trans (afC _)
 ·by_cases e:k=n
  ·subst e;rw[e3];exact(jH aW).1
  ·rw[za w _ e];exact h.ay k hk aW
 ·by_cases e:0=n
  ·subst e;rw[e3]at aD;exact ax rfl d aD
  ·rw[za w _ e]at aD;exact h.h5 d aD
 ·obtain⟨m1,m2⟩:=h.Bc x y m hm;exact⟨m1,λbY=>⟨λi aO=>bC i ((m2 bY).1 i aO),λq1 dP=>((m2 bY).2 q1 dP).cC (afC _)⟩⟩
 ·obtain⟨k,bQ,bY,ew,fm⟩:=h.CB x U;refine⟨k,bQ,bY,?_,λBd nD he=>?_⟩
  ·by_cases e:k=n
   ·subst e;rw[e3,pn.l];rw[ec]at ew;exact ew
   ·rw[za w _ e];exact ew
  ·by_cases e:k=n
   ·subst e;rw[x1]at nD;injection nD with nD;subst nD;rw[pn.l]at he;have:=fm b al he;omega
   ·rw[CC w _ e]at nD;exact fm Bd nD he
def dy.vU(h:dy c l T w){x:Nat}{ms:List dC}(hm:∀m,m∈ms->xY (rk l) gY m/\(m.k=2->(∀i,i∈m.ay->i∈(gZ w 0).ay)/\(0<y->jf c y=x->y7 m.h m.aS (dY (gZ w x).ag))))(aT:ms.length<=8):dy c l T (w.vU x y ms):=by
 refine⟨h.up,h.down,h.cO,h.cC,h.ay,h.h5,λa b m DI=>?_,λa b=>?_,h.CA,h.CB⟩
 ·unfold aZ.vU at DI;dsimp only at DI;split at DI
  ·rename_i e;obtain⟨rfl,rfl⟩:=e;exact hm m DI
  ·exact h.Bc a b m DI
 ·unfold aZ.vU;dsimp only;split
  ·exact aT
  ·exact h.len a b
def dy.asC(h:dy c l T w){x:Nat}{ms:List dC}(hm:∀m,m∈ms->m∈w.iz x y)(aT:ms.length<=8):dy c l T (w.vU x y ms):=h.vU (λm k=>h.Bc x y m (hm m k)) aT
def asD(w:aZ)(x y:Nat)(ms:List dC):(w.vU x y ms).bR=w.bR:=rfl
def S9(c:bt)(l:List lz)(w:aZ)(x y:Nat)(m:dC):Prop:=xY (rk l) gY m/\(m.k=2->(∀i,i∈m.ay->i∈(gZ w 0).ay)/\(0<y->jf c y=x->y7 m.h m.aS (dY (gZ w x).ag)))
def asE(c:bt)(w:aZ)(x y:Nat)(m:dC):(w.send c x y m).bR=w.bR:=by unfold aZ.send;split<;>rfl
def asF(h:dy c l T w){x:Nat}{m:dC}(hm:S9 c l w x y m):dy c l T (w.send c x y m):=by
 unfold aZ.send;split
 ·rename_i e;exact h.vU (λk hk=>(rO.1 hk).elim (h.Bc x y k) (λq=>q▸hm)) Ta
 ·exact h
def asG(x:Nat)(ms:List (Nat×dC)):∀{w:aZ},dy c l T w->(∀o,o∈ms->S9 c l w x o.1 o.2)->dy c l T (w.xV c x ms)/\(w.xV c x ms).bR=w.bR:=by
 induction ms with
 |nil=>intro w h _;exact⟨h,rfl⟩
 |cons o ms cI=>
  intro w h hm;have cB:=asE c w x o.1 o.2;have ec:∀n,gZ (w.send c x o.1 o.2) n=gZ w n:=λn=>by unfold gZ;rw[cB]
  have ae:=asF h (hm o kh)
  obtain⟨i1,ht⟩:=cI ae (λp aV=>by
   have:=hm p (kA _ aV);unfold S9 at this ⊢
   rw[ec,ec];exact this)
  exact⟨i1,ht.trans cB⟩
end
section
variable {c:bt}{l l':List lz}{T Eg n:Nat}{w:aZ}{b b':az}{R R':List aA}{tl:List aA}
def ub.NL(h:ub c b.ez b.st)(ax:c.room<=1048576):b.st.ag.length<=200000:=by
 have ae:=(YB h.Cw).1;have ak:=OB b.ez;have aM:=h.qK;simp only[j0,nW]at ae;omega
def afD(ao:ka c)(h:gz c l R n b):xY (rk l) gY (b.sF c):=by
 have hs:=h.ez.Cv;have an:=h.ez.NL ao.room;exact⟨by show gv b.st.ag.length;unfold gv;omega,.inl ⟨rfl,rfl,rfl,rfl,rfl⟩,asy _ hs.ps h.eN.2,⟨(S5 c h.S8).2,(S5 c h.S8).1⟩,⟨Nat.zero_le _,λd aD=>(by cases aD)⟩,⟨Nat.zero_le _,λd aD=>(by cases aD)⟩,⟨Nat.zero_le _,λd aD=>(by cases aD)⟩,⟨Nat.zero_le _,λd aD=>(by cases aD)⟩⟩
def asH(h:gz c l R n b)(k:Nat):(b.je k).vs.length<=16/\(∀v,v∈(b.je k).vs->dx v.id):=by
 unfold az.je;cases ax:b.e8 k with
 |none=>exact⟨hX _,λv bo=>(by cases bo)⟩
 |some m=>exact(h.e8 k m ax).vs
def afE(ao:ka c)(h:gz c l R n b)(bC:∀i,i∈R->dx i)(aa:∀i,i∈b.st.ay->i∈R)(k:Nat):
  xY (rk l) gY (b.alu c k)/\(∀i,i∈(b.alu c k).ay->i∈R)/\y7 (b.alu c k).h (b.alu c k).aS (dY b.st.ag):=by
 have hs:=h.ez.Cv;have an:=h.ez.NL ao.room;have bc:∀d,d∈qi b.st.ag (min (b.je k).h b.st.ag.length)->gY d:=λd aD=>hs.ag d (HI (AO aD));obtain⟨c1,c2,da⟩:=afA b.st.ag (lP c k) (qi b.st.ag (min (b.je k).h b.st.ag.length)) (min (b.je k).h b.st.ag.length) bc;obtain⟨t1,t2⟩:=asu (b.st.ay++b.bl) ((b.je k).c3.map (·.id)) [];obtain⟨bS,bE⟩:=asv (λi=>eD b.st.ag i||eD b.st.ps i||eD b.cW i) (b.je k).vs [];simp only[nW]at t2 bE;have jH:∀i,i∈(b.alu c k).ay->i∈R:=λi aO=>(t1 i aO).elim (λq=>(by cases q)) (λq=>(iR.1 q).elim (aa i) (h.bl.2 i));refine⟨⟨?_,.inr ⟨rfl,rfl,rfl⟩,⟨hX _,λd aD=>(by cases aD)⟩,⟨hX _,λd aD=>(by cases aD)⟩,⟨?_,c2⟩,⟨?_,λd aD=>?_⟩,⟨?_,λi aO=>bC i (jH i aO)⟩,⟨?_,λi aO=>?_⟩⟩,jH,?_⟩
 ·show gv (min (b.je k).h b.st.ag.length);unfold gv;omega
 ·show(vQ _ _ _ _).length<=16;rw[c1];unfold qi;rw[o9];omega
 ·show(List.map _ _).length<=16;rw[cr,o9];omega
 ·obtain⟨x,U,rfl⟩:=kN.1 aD;have U:=AO U;refine Yu _ _ ?_;split at U
  ·exact(h.x0 x U).1
  ·exact hs.ps x U
 ·show(wI _ _).length<=16;unfold wI;omega
 ·show(p6 _ _).length<=16;unfold p6;omega
 ·rcases bS i aO with q|⟨v,bo,rfl⟩
  ·cases q
  ·exact(asH h k).2 v bo
 ·refine asz (m:=4) ?_;show dY (vQ _ _ _ _)=_;rw[da];unfold dY qi;rw[OC,List.map_drop];rfl
def afF(h:gz c l R n b)(bC:∀i,i∈R->i∈R'):gz c l R' n (b.fU c)/\xZ b.st (b.fU c).st/\(b.fU c).ev=b.ev/\(0<n->b.fU c=b)/\((∀d,d∈b.st.ag->rk l d)->∀d,d∈(b.fU c).st.ag->rk l d):=by
 obtain⟨e,ae,ak⟩:=asd (Q:=λr=>(sG r/\r.k≠1)/\(r.k=2->rk l r.e)) c [] h.S8
  (λd aD=>⟨λm=>⟨⟨KU m aD.1,λk=>(by cases k)⟩,λ_=>aD⟩,⟨⟨OA aD.1.ok.id,λk=>(by cases k)⟩,λk=>(by cases k)⟩⟩) h.cW
 have sA:0<n->b.fU c=b:=λaW=>by
  unfold az.fU;rw[bm];unfold az.h5;rw[h.b6];simp;omega
 have asI:(b.fU c).eN=b.eN:=by
  by_cases aW:0<n
  ·rw[sA aW]
  ·unfold az.fU;split
   ·rfl
   ·have aT:∀(l:List bg) (b:az),(qP c b l).eN=b.eN:=by
     intro l;induction l with
     |nil=>intro b;rfl
     |cons d l cI=>intro b;show(qP c (b.vP c d).1 l).eN=_;rw[cI];exact(y9 c b _).2
    have aj:∀(b:az) (i:aA),(b.xS c i).1.eN=b.eN:=λb i=>by
     unfold az.xS;split
     ·exact(y9 c b _).2
     ·exact(y9 c b _).2
    have aD:∀(f:aA->Int) (l:List bg) (st:az×List bg),(l.foldl (wV c f) st).1.eN=st.1.eN:=by
     intro f l;induction l with
     |nil=>intro st;rfl
     |cons d l cI=>
      intro _;rw[mM,cI];unfold wV;split
      ·split
       ·exact(y9 c _ _).2
       ·exact(y9 c _ _).2
      ·split
       ·split
        ·exact aj _ _
        ·exact aj _ _
       ·rfl
    show(az.zY c _ _ _).1.eN=_;unfold az.zY;rw[aD];exact aT _ _
 refine⟨h.tn e (λr ax=>ax.1) ae ak (by rw[asI];exact h.eN) bC (λi aO=>(by cases aO)),e.KW (λr ax=>ax.1.2),e.ev,sA,λaW=>e.ast (λr ax=>ax.2) aW⟩
def OD(ao:ka c)(h:dy c l T w):∀i,i∈(gZ w 0).ay->dx i:=by
 have aW:=ao.n0;cases e:w.bR 0 with
 |up b=>rw[wW e];exact(h.up 0 b aW e).1.ez.Cv.ay
 |down dk=>
  have:gZ w 0=Ct dk:=by unfold gZ;rw[e];rfl
  rw[this];exact(h.down 0 dk aW e).Cv.ay
def YD(ao:ka c)(h:dy c l T w)(an:n<c.ps.length){b0:az}(al:w.bR n=.up b0)(aa:gz c l (gZ w 0).ay n b)(bS:b.st=b0.st)(bE:b.ev=b0.ev):dy c l T (w.hc n (.up (b.fU c))):=by
 obtain⟨w1,aN,aY,b3,bp⟩:=afF aa (R':=(gZ (w.hc n (.up (b.fU c))) 0).ay) (λi aO=>by
  by_cases e:0=n
  ·subst e;rw[KZ];rw[wW al,<-bS]at aO;exact(afF aa (λi aO=>aO)).2.1.ay.subset aO
  ·rw[za w _ e];exact aO)
 have kp:=(h.up n b0 an al).2;refine h.hc ao an al (bA _) w1 (bS▸aN) (by rw[aY,bE];exact bA _) (by rw[aY,bE];exact kp) (λaW=>bp ?_) (λaW=>?_)
 ·subst aW;rw[bS,<-wW al];exact h.h5
 ·rw[b3 aW,bS,<-wW al];exact⟨h.ay n an aW,h.cC n an aW⟩
def afG(ao:ka c)(h:dy c l T w)(an:n<c.ps.length):dy c l T (w.tick c n):=by
 unfold aZ.tick;cases al:w.bR n with
 |down dk=>exact h
 |up b=>
  dsimp only;have aa:=(h.up n b an al).1;have ae:=YD ao h an al aa rfl rfl;have tV:(w.hc n (.up (b.fU c))).bR n=.up (b.fU c):=x1 _ _ _;have fg:=(ae.up n _ an tV).1;have YE:=wW tV;have nN:∀i,i∈(b.fU c).st.ay->i∈(gZ (w.hc n (.up (b.fU c))) 0).ay:=λi aO=>by
   by_cases e:0=n
   ·subst e;rw[YE];exact aO
   ·have:=ae.ay n an J;rw[YE]at this;rw[this]at aO;cases aO
  refine(asG n _ ae (λo aK=>?_)).1;unfold az.eB at aK;rcases iR.1 aK with aK|aK
  ·split at aK
   ·cases aK
   ·obtain rfl:=iH.1 aK;exact⟨afD ao fg,λk=>(by cases k)⟩
  ·obtain⟨k,_,rfl⟩:=kN.1 aK;obtain⟨c1,c2,da⟩:=afE ao fg (OD ao ae) nN k;exact⟨c1,λ_=>⟨c2,λ_ _=>by rw[YE];exact da⟩⟩
def asJ(ao:ka c)(h:dy c l T w){x:Nat}{m:dC}(an:n<c.ps.length)(hm:S9 c l w x n m):dy c l T (w.Ec c x n m):=by
 unfold aZ.Ec;cases al:w.bR n with
 |down dk=>exact h
 |up b=>
  dsimp only;have aa:=(h.up n b an al).1;have kp:=(h.up n b an al).2;have ec:=wW al;unfold az.A8;split
  ·refine YD ao h an al (b:={b with e8:=λk=>if k=x then some m else b.e8 k}) ⟨aa.b6,aa.ez,λt a6=>(aa.tx t a6).mn rfl rfl (bA _),aa.rP,aa.tk,λk uW hk=>?_,aa.x0,aa.cW,aa.eN,aa.bl⟩ rfl rfl;dsimp only at hk;split at hk
   ·injection hk with hk;exact hk▸hm.1
   ·exact aa.e8 k uW hk
  ·split
   ·rename_i aV;have aW:0<n:=by
     have:=aV.1;unfold az.Eb az.h5 at this;rw[aa.b6]at this;simp at this;omega
    have z1:jf c n=x:=by
     have:=aV.1;unfold az.Eb at this;rw[aa.b6,ke,jQ]at this;have k:=(ao.Ef an aW).2;have:=this.2;omega
    obtain⟨dF,ms⟩:=hm.2 aV.2;have asK:=ms aW z1
    obtain⟨bS,bE,dr,eF⟩:=asn (Q:=λr=>(sG r/\r.k≠1)/\r.k≠4) c (b:=b) hm.1 (λd aD=>⟨λk=>⟨⟨KU k aD,λq=>(by cases q)⟩,λq=>(by cases q)⟩,⟨⟨Yz aD,λq=>(by cases q)⟩,λq=>(by cases q)⟩⟩)
     (λi aO=>⟨⟨YA aO,λq=>(by cases q)⟩,λq=>(by cases q)⟩)
    have e:=bS.trans (bE.mono (λr ax=>ax.1) (λi aO=>aO));have pn:=e.KW (λr ax=>ax.1.2);have tU:(gZ (w.hc n (.up (b.vT c m))) 0)=gZ w 0:=za w _ J;refine h.hc ao an al (bA _) ?_ pn (by rw[e.ev];exact bA _) (by rw[e.ev];exact kp) (λq=>by omega) (λ_=>⟨?_,?_⟩)
    ·rw[tU];refine aa.tn e (λr ax=>ax.1) ?_ ?_ ⟨dr,λi aO=>?_⟩ (λi aO=>aO) dF
     ·rw[afx];exact aa.x0
     ·rw[afx];exact aa.cW
     ·obtain⟨d,aD,rfl⟩:=afz (eF i aO);exact(hm.1.ps.2 d aD).ok.id
    ·rw[e.ass (λr ax=>ax.2),<-ec];exact h.ay n an aW
    ·have aT:=bE.asr (λr ax=>by rcases ax.2 with q|q<;>rw[q]<;>decide);rw[aT,z1];refine asm c _ _ _ _ ?_ asK;have:=h.cC n an aW;rw[ec,z1]at this;exact this
   ·have:dy c l T (w.hc n (.up b)):=h.hc ao an al (bA _) (by
     have e:gZ (w.hc n (.up b)) 0=gZ w 0:=by
      by_cases q:0=n
      ·subst q;rw[KZ,ec];rfl
      ·exact za w _ q
     rw[e];exact aa) (xZ.refl _) (bA _) kp (λq=>by subst q;rw[<-ec];exact h.h5) (λq=>by rw[<-ec];exact⟨h.ay n an q,h.cC n an q⟩)
    exact this
def afH(ao:ka c)(h:dy c l T w)(x:Nat)(an:n<c.ps.length):dy c l T (w.vV c x n):=by
 unfold aZ.vV;cases aT:w.iz x n with
 |nil=>exact h
 |cons m ms=>
  dsimp only;have fs:=h.len x n;rw[aT,mv]at fs;refine asJ ao (h.asC (λk hk=>by rw[aT];exact kA _ hk) J) an ?_;exact h.Bc x n m (by rw[aT];exact kh)
def afI(ao:ka c)(x:Nat)(an:n<c.ps.length)(f:Nat):∀{w:aZ},dy c l T w->dy c l T (aZ.drain c f w x n):=by
 induction f with
 |zero=>intro w h;exact h
 |succ f cI=>
  intro w h;rw[aZ.drain];split
  ·exact h
  ·exact cI (afH ao h x an)
def afJ{f:aZ->β->aZ}(ms:List β)(bc:∀w x,x∈ms->dy c l T w->dy c l T (f w x)):∀{w:aZ},dy c l T w->dy c l T (ms.foldl f w):=by
 induction ms with
 |nil=>intro w h;exact h
 |cons x ms cI=>intro w h;exact cI (λw y hy=>bc w y (kA _ hy)) (bc w x kh h)
def afK(ao:ka c)(h:dy c l T w)(an:n<c.ps.length):dy c l T (w.kF c n):=by
 unfold aZ.kF;cases al:w.bR n with
 |down dk=>exact h
 |up b=>
  refine afJ _ (λw d aD hw=>?_) (afG ao h an);split
  ·exact hw
  ·exact afI ao n (qI.1 aD) 9 hw
def Tb(ao:ka c)(h:dy c l T w):dy c l T (w.round c):=by
 unfold aZ.round Ed;refine afJ _ (λw d aD hw=>afK ao hw ?_) h;rcases iR.1 aD with aD|aD
 ·exact qI.1 (List.mem_reverse.1 aD)
 ·exact qI.1 aD
end
def mb(c:bt)(cl:Int):Option Nat:=if 0<=cl/\cl<(c.hs.length:Int) then some (c.hs.getD cl.toNat 0).toNat else none
def aZ.call(c:bt)(w:aZ)(cl:Int)(f:az->Int×az):Int×aA×aZ:=
 match mb c cl with
 |none=>(1,xH,w)
 |some n=>
  match w.bR n with
  |.down _=>(210,xH,w)
  |.up b=>if (f b).1=0 then (0,b.gX,w.hc n (.up (f b).2)) else ((f b).1,xH,w.hc n (.up b))
def aZ.kG(c:bt)(w:aZ)(cl:Int)(i:aA)(f:az->Int×az):Int×aZ:=
 match mb c cl with
 |none=>(1,w)
 |some n=>
  match w.bR n with
  |.down _=>(210,w)
  |.up b=>if i.b≠(n:Int) then (1,w) else ((f b).1,w.hc n (.up (f b).2))
def az.rl(b:az)(i:aA)(e:List cd):Int×az:=b.ah (Cs b.tx i e)
def az.tp(b:az)(i:aA):Int×az:=b.ah (Ea b.tx i)
structure jL (c:bt):Prop extends ka c where
 an:1<=c.hs.length/\c.hs.length<=32
 xU:∀h,h∈c.hs->0<=h/\h<(c.ps.length:Int)
 afL:10<=c.room
def jL.at_{c:bt}(h:jL c){cl:Int}{n:Nat}(k:mb c cl=some n):n<c.ps.length/\0<=cl/\cl<32/\c.hs.getD cl.toNat 0=(n:Int):=by
 unfold mb at k;split at k
 ·rename_i b5;injection k with k;have hm:c.hs.getD cl.toNat 0∈c.hs:=by
   rw[xO,fz J];exact c7 _
  have:=h.xU _ hm;have:=h.an;omega
 ·cases k
section
variable {c:bt}{l l':List lz}{T Eg n:Nat}{w:aZ}{b b':az}{R R':List aA}{tl:List aA}
def KX.mn(h:KX l d)(aT:∀x,x∈l->x.Bb=true->x∈l'):KX l' d:=λk=>let ⟨x,ae,ak,aM⟩:=h k;⟨x,aT x ae ak,ak,aM⟩
def rk.mn(h:rk l d)(aT:∀x,x∈l->x.Bb=true->x∈l'):rk l' d:=⟨h.1,h.2.mn aT⟩
def xY.mn{m:dC}(h:xY (rk l) gY m)(aT:∀x,x∈l->x.Bb=true->x∈l'):xY (rk l') gY m:=⟨h.h,h.oG,h.vs,⟨h.c3.1,λd aD=>(h.c3.2 d aD).mn aT⟩,h.aS,h.ps,h.ay,h.aX⟩
def dy.afM(h:dy c l T w)(aT:∀x,x∈l->x.Bb=true->x∈l')(OE:∀n b,n<c.ps.length->w.bR n=.up b->∀t,t∈b.tx->Cz l' b t)(CA:(l'.map (·.id)).Nodup)(CB:∀x,x∈l'->∃n,n<c.ps.length/\x.id.b=(n:Int)/\x.id.l<=((gZ w n).l:Int)/\∀b,w.bR n=.up b->x.id.l=(b.st.l:Int)->x.id.s<=(b.ev:Int)):dy c l' T w:=
 ⟨λn b an al=>let ⟨k,kp⟩:=h.up n b an al;⟨⟨k.b6,k.ez,OE n b an al,k.rP,k.tk,λj m hm=>(k.e8 j m hm).mn aT,λd aD=>(k.x0 d aD).mn aT,k.cW,k.eN,k.bl⟩,kp⟩,
  h.down,h.cO,h.cC,h.ay,λd aD=>(h.h5 d aD).mn aT,λa b m hm=>⟨(h.Bc a b m hm).1.mn aT,(h.Bc a b m hm).2⟩,h.len,CA,CB⟩
def dy.Ij(ao:ka c)(h:dy c l T w)(an:n<c.ps.length)(al:w.bR n=.up b)(kp:T<=Eg){tx:List gN}(hk:b.ev<=k)(b9:k<=Eg)(a6:∀t,t∈tx->Cz l {b with tx:=tx,ev:=k} t)(alv:(tx.map (·.e.id)).Nodup)(fs:tx.length<=8):
  dy c l Eg (w.hc n (.up {b with tx:=tx,ev:=k})):=by
 have ec:=wW al;have aa:=(h.up n b an al).1;refine h.hc ao an al kp ⟨aa.b6,aa.ez,a6,alv,fs,aa.e8,aa.x0,aa.cW,aa.eN,aa.bl.1,λi aO=>?_⟩ (xZ.refl _) hk b9 (λq=>by subst q;rw[<-ec];exact h.h5) (λq=>by rw[<-ec];exact⟨h.ay n an q,h.cC n an q⟩);have:=aa.bl.2 i aO;by_cases q:0=n
 ·subst q;rw[KZ];rw[ec]at this;exact this
 ·rw[za w _ q];exact this
def afN(w:aZ)(n:Nat)(x y:n1):(w.hc n x).hc n y=w.hc n y:=by
 unfold aZ.hc;congr 1;funext k;dsimp only;split<;>rfl
def asL(h:gz c l R n b):b.gX∉b.tx.map (·.e.id):=λk=>by
 obtain⟨t,a6,e⟩:=kN.1 k;have:=(h.tx t a6).Ii;rw[e]at this;unfold az.gX at this;dsimp only at this;omega
def asM(h:dy c l T w)(an:n<c.ps.length)(al:w.bR n=.up b):b.gX∉l.map (·.id):=λk=>by
 obtain⟨x,U,e⟩:=kN.1 k;obtain⟨m,_,ak,_,bn⟩:=h.CB x U;have hm:=(h.up n b an al).1.b6;rw[e]at ak bn;unfold az.gX at ak bn;dsimp only at ak bn;have:m=n:=J;subst this;have:=bn b al rfl;omega
def OF(ao:ka c)(h:dy c l T w)(an:n<c.ps.length)(al:w.bR n=.up b)(kp:T<=1000):dx b.gX:=by
 have ae:=(h.up n b an al).2;have ak:=h.cO n an;rw[wW al]at ak;have aM:=(h.up n b an al).1.b6;have bn:=ao.rQ;unfold jn at bn;rw[ke,jQ]at bn;unfold az.gX;exact⟨⟨by dsimp only;omega,by dsimp only;omega⟩,⟨by dsimp only;omega,by dsimp only;omega⟩,⟨by dsimp only;omega,by dsimp only;omega⟩⟩
def afO{l:List gN}{t:gN}(h:(qh l t).1=0):(qh l t).2=l++[t]/\l.length<8/\(hA t.e).length<=3000:=by
 unfold qh at h ⊢;split at h
 ·cases h
 ·split at h
  ·cases h
  ·split at h
   ·cases h
   ·rename_i ae ak aM;unfold sD at aM;rw[jQ]at aM;rw[if_neg ae,if_neg ak,if_neg (by unfold sD;rw[decide_eq_true_eq];exact aM)];exact⟨rfl,J,J⟩
def afP(aa:gz c l R n b){t:gN}(I:t.e.id=b.gX)(fs:b.tx.length<8)(aT:∀x,x∈l->x∈l')(hs:gY t.e)(hy:t.a=true->KX l' t.e)(eO:t.a=false->t.e.k=1/\∃x:lz,x∈l'/\x.Bb=false/\x.S7=false/\x.id=t.e.id/\x.cl=t.e.c/\x.aS=t.e.aS):
  (∀u,u∈b.tx++[t]->Cz l' {b with tx:=b.tx++[t],ev:=b.ev+1} u)/\((b.tx++[t]).map (·.e.id)).Nodup/\(b.tx++[t]).length<=8:=by
 refine⟨λu al=>?_,?_,Ta⟩
 ·rcases rO.1 al with al|rfl
  ·have k:=aa.tx u al;exact⟨k.eA,k.zZ,k.KY,by have:=k.Ii;dsimp only;omega,λq=>(k.kO q).mn (λx U _=>aT x U),λq=>let ⟨bQ,x,bY,ew⟩:=k.Ee q;⟨bQ,x,aT x bY,ew⟩⟩
  ·refine⟨hs,?_,?_,?_,hy,eO⟩
   ·rw[I];rfl
   ·rw[I];rfl
   ·rw[I];exact Int.le_refl _
 ·rw[gS];exact Ov aa.rP (by show t.e.id∉_;rw[I];exact asL aa)
def YF(ao:jL c)(h:dy c l T w)(kp:T<=1000)(cl:Int){z:Int}{i:aA}{w':aZ}(he:w.call c cl (λb=>b.pO cl)=(z,i,w')):dy c (if z=0 then l++[⟨i,cl,[],false,false⟩] else l) (T+1) w':=by
 refine afQ ?_;intro Gh;unfold aZ.call at he;cases b5:mb c cl with
 |none=>rw[b5]at he;cases he;exact Gh h
 |some n=>
  obtain⟨an,bQ,bY,ew⟩:=ao.at_ b5;rw[b5]at he;dsimp only at he;cases al:w.bR n with
  |down dk=>rw[al]at he;cases he;exact Gh h
  |up b=>
   rw[al]at he;dsimp only at he;obtain⟨aa,_⟩:=h.up n b an al;by_cases aW:(b.pO cl).1=0
   ·rw[bm aW]at he;cases he;rw[bm rfl];have Dp:(qh b.tx ⟨⟨1,b.gX,cl,0,[],[]⟩,false⟩).1=0:=by
     unfold az.pO az.qk at aW;split at aW
     ·assumption
     ·exact aW
    obtain⟨cL,cE,a3⟩:=afO Dp;have e:(b.pO cl).2={b with tx:=b.tx++[⟨⟨1,b.gX,cl,0,[],[]⟩,false⟩],ev:=b.ev+1}:=by
     unfold az.pO az.qk;rw[bm Dp,cL]
    rw[e];have i1:=OF ao.toka h an al kp;have w1:=h.Ij ao.toka an al (oN T) (oN b.ev) J (λt a6=>(aa.tx t a6).mn rfl rfl (oN _)) aa.rP aa.tk;have u1:(w.hc n (.up {b with tx:=b.tx,ev:=b.ev+1})).bR n=.up {b with tx:=b.tx,ev:=b.ev+1}:=x1 _ _ _;have fr:=asM h an al
    have aN:=w1.afM (l':=l++[⟨b.gX,cl,[],false,false⟩]) (λx U _=>OG _ U)
     (λm dg hm Ik t a6=>by
      have k:=((w1.up m dg hm Ik).1.tx t a6)
      exact⟨k.eA,k.zZ,k.KY,k.Ii,λq=>(k.kO q).mn (λx U _=>OG _ U),λq=>let ⟨bQ,x,bY,ew⟩:=k.Ee q;⟨bQ,x,OG _ bY,ew⟩⟩)
     (by rw[gS];exact Ov h.CA fr)
     (λx U=>by
      rcases rO.1 U with U|rfl
      ·exact w1.CB x U
      ·refine⟨n,an,?_,?_,λdg lg _=>?_⟩
       ·unfold az.gX;rw[aa.b6]
       ·rw[KZ];exact Int.le_refl _
       ·rw[u1]at lg;injection lg with lg;rw[<-lg];exact Int.le_refl _)
    obtain⟨t1,t2,t3⟩:=afP aa (l':=l++[⟨b.gX,cl,[],false,false⟩]) (t:=⟨⟨1,b.gX,cl,0,[],[]⟩,false⟩) rfl cE (λx U=>OG _ U)
     ⟨⟨i1,⟨bQ,bY⟩,⟨Int.le_refl _,(by decide:(0:Int)<18446744073709551616)⟩,.inl ⟨rfl,rfl,rfl,hX _,λe he=>(by cases he)⟩⟩,a3⟩ (λq=>(by cases q)) (λ_=>⟨rfl,_,List.mem_append_right _ (iH.2 rfl),rfl,rfl,rfl,rfl,rfl⟩)
    have aY:=aN.Ij ao.toka an u1 (bA _) (bA _) (show b.ev+1<=T+1 by omega) t1 t2 t3;rw[afN]at aY;exact aY
   ·rw[bj aW]at he;cases he;exact afR
def afS(ao:jL c)(h:dy c l T w)(kp:T<=1000)(cl:Int){f:az->Int×az}(bc:∀b,(∃t:gN,t.a=true/\t.e.k≠1/\t.e.id=b.gX/\(dx b.gX->0<=cl/\cl<32->hP t.e)/\f b=b.qk (qh b.tx t))\/(f b).1≠0):
  dy c l (T+1) (w.call c cl f).2.2:=by
 refine afQ ?_;intro Gh;unfold aZ.call;cases b5:mb c cl with
 |none=>exact Gh h
 |some n=>
  obtain⟨an,bQ,bY,_⟩:=ao.at_ b5;dsimp only;cases al:w.bR n with
  |down dk=>exact Gh h
  |up b=>
   dsimp only;obtain⟨aa,_⟩:=h.up n b an al;by_cases aW:(f b).1=0
   ·rw[bm aW];dsimp only;rcases bc b with ⟨t,a6,hk,I,eU,e⟩|di
    ·rw[e]at aW ⊢;have Dp:(qh b.tx t).1=0:=by
      unfold az.qk at aW;split at aW
      ·assumption
      ·exact aW
     obtain⟨cL,cE,a3⟩:=afO Dp;have e:(b.qk (qh b.tx t)).2={b with tx:=b.tx++[t],ev:=b.ev+1}:=by
      unfold az.qk;rw[bm Dp,cL]
     rw[e];have i1:=OF ao.toka h an al kp;obtain⟨t1,t2,t3⟩:=afP aa (l':=l) (t:=t) I cE (λx U=>U) ⟨eU i1 ⟨bQ,bY⟩,a3⟩ (λ_ q=>absurd q hk) (λq=>by rw[a6]at q;cases q);exact h.Ij ao.toka an al (oN T) (oN b.ev) J t1 t2 t3
    ·exact absurd aW di
   ·exact afR
end
def Il(l:List lz)(i:aA):Nat:=l.findIdx (λx=>decide (x.id=i))
def zb(l:List lz)(i:aA)(f:lz->lz):List lz:=match l[Il l i]? with|some x=>l.set (Il l i) (f x)|none=>l
def asN{l:List α}:∀{k:Nat}{a:α},l.Nodup->l[k]?=some a->a∉l.eraseIdx k:=by
 induction l with
 |nil=>intro k a _ h;cases h
 |cons x l cI=>
  intro k a an h;obtain⟨ae,ak⟩:=Gf.1 an;cases k with
  |zero=>injection h with h;subst h;exact ae
  |succ k=>
   rw[Hq]at h;rw[Tc];intro hm;rcases nK.1 hm with rfl|hm
   ·exact ae (Be h)
   ·exact cI ak h hm
def afT{l:List α}:∀{k:Nat}{a u:α},u∈l.set k a->u=a\/u∈l.eraseIdx k:=by
 induction l with
 |nil=>intro k a u h;cases h
 |cons x l cI=>
  intro k a u h;cases k with
  |zero=>
   rcases nK.1 h with h|h
   ·exact .inl h
   ·exact .inr h
  |succ k=>
   rw[Tc];rcases nK.1 h with h|h
   ·exact .inr (by rw[h];exact kh)
   ·exact(cI h).imp id (kA _)
def afU{l:List α}{a x u:α}(h:l[k]?=some x)(al:u∈l)(di:u≠x):u∈l.set k a:=by
 obtain⟨j,aJ⟩:=OH.1 al;refine OH.2 ⟨j,?_⟩;rw[Gi];split
 ·rename_i e;subst e;rw[aJ]at h;injection h with h;exact absurd h di
 ·exact aJ
def afV{p:α->Bool}{l:List α}{x:α}(h:l[l.findIdx p]?=some x):p x=true:=by
 obtain⟨hk,e⟩:=vv.1 h;have:=List.findIdx_getElem (p:=p) (xs:=l) (w:=hk);rw[e]at this;exact this
def asO{l:List α}:∀{i j:Nat}{a:α},l.Nodup->l[i]?=some a->l[j]?=some a->i=j:=by
 induction l with
 |nil=>intro i j a _ h;cases h
 |cons x l cI=>
  intro i j a an h k;obtain⟨ae,ak⟩:=Gf.1 an;cases i with
  |zero=>
   cases j with
   |zero=>rfl
   |succ j=>
    injection h with h;subst h;rw[Hq]at k;exact absurd (Be k) ae
  |succ i=>
   rw[Hq]at h;cases j with
   |zero=>injection k with k;subst k;exact absurd (Be h) ae
   |succ j=>rw[Hq]at k;rw[cI ak h k]
def asP(f:α->β)(l:List α):∀k:Nat,(l.map f).eraseIdx k=(l.eraseIdx k).map f:=afW
def asQ{l:List lz}(an:(l.map (·.id)).Nodup){x:lz}(U:x∈l):l[Il l x.id]?=some x:=by
 have fM:Il l x.id<l.length:=List.findIdx_lt_length_of_exists ⟨x,U,by simp⟩;have bu:=fz fM;have aV:=afV (p:=λy:lz=>decide (y.id=x.id)) bu;rw[jQ]at aV;have ae:(l.map (·.id))[Il l x.id]?=some x.id:=by rw[nu,bu];simp[aV]
 obtain⟨j,aJ⟩:=OH.1 U;have ak:(l.map (·.id))[j]?=some x.id:=by rw[nu,aJ];rfl
 rw[asO an ae ak];exact aJ
section
variable {c:bt}{l l':List lz}{T Eg n:Nat}{w:aZ}{b b':az}{R R':List aA}{tl:List aA}
def YG{tx:List gN}{i:aA}{t:gN}(h:sE tx i=some t):tx[hD tx i]?=some t/\t.a=false/\t.e.id=i:=by
 unfold sE at h;cases bu:tx[hD tx i]? with
 |none=>rw[bu]at h;cases h
 |some u=>
  rw[bu]at h;dsimp only at h;split at h
  ·cases h
  ·rename_i aj;injection h with h;subst h;have:=afV (p:=λt:gN=>cf t.e.id i) bu;rw[AF,jQ]at this;exact⟨rfl,by simpa using aj,this⟩
def afX(ao:ka c)(h:dy c l T w)(an:n<c.ps.length)(al:w.bR n=.up b){i:aA}{t:gN}(aK:sE b.tx i=some t)(f:lz->lz)(bc:∀x,(f x).id=x.id){tx:List gN}(hs:∀u,u∈tx->u∈b.tx.eraseIdx (hD b.tx i)\/(∀x:lz,x∈l->x.Bb=false->x.S7=false->x.id=i->x.cl=t.e.c->x.aS=t.e.aS->f x∈zb l i f->Cz (zb l i f) b u))(alv:(tx.map (·.e.id)).Nodup)(fs:tx.length<=8):dy c (zb l i f) T (w.hc n (.up {b with tx:=tx})):=by
 obtain⟨aa,K0⟩:=h.up n b an al;obtain⟨B4,o2,Im⟩:=YG aK;have rR:=aa.tx t (Be B4);obtain⟨_,x,iu,gR,ji,k0,oq,o7⟩:=rR.Ee o2;rw[Im]at k0;have U:l[Il l i]?=some x:=by have:=asQ h.CA iu;rw[k0]at this;exact this
 have Ng:zb l i f=l.set (Il l i) (f x):=by unfold zb;rw[U]
 have Td:∀y,y∈l->y.id≠i->y∈zb l i f:=λy hy di=>by rw[Ng];exact afU U hy (λe=>di (e▸k0))
 have afY:∀y,y∈l->y.Bb=true->y∈zb l i f:=λy hy aj=>by rw[Ng];exact afU U hy (λe=>by rw[e,gR]at aj;cases aj)
 have asR:f x∈zb l i f:=by
  rw[Ng];obtain⟨fM,_⟩:=vv.1 U;exact OH.2 ⟨_,List.getElem?_set_self fM⟩
 have afZ:(zb l i f).map (·.id)=l.map (·.id):=by
  rw[Ng,List.map_set];refine K1 λj=>?_;rw[Gi];split
  ·rename_i e;subst e;split
   ·rw[nu,U];simp[bc]
   ·rename_i q;rw[y8 J]
  ·rfl
 have af0:∀{dg:az}{u:gN},Cz l dg u->u.e.id≠i->Cz (zb l i f) dg u:=λk di=>
  ⟨k.eA,k.zZ,k.KY,k.Ii,λq=>(k.kO q).mn afY,λq=>let ⟨bQ,y,bY,ew,fm,iQ,sH⟩:=k.Ee q;⟨bQ,y,Td y bY (λe=>di (iQ▸e)),ew,fm,iQ,sH⟩⟩
 have Te:∀u,u∈b.tx.eraseIdx (hD b.tx i)->u∈b.tx/\u.e.id≠i:=λu al=>by
  refine⟨(S4 _ _).subset al,λe=>?_⟩;have bu:(b.tx.map (·.e.id))[hD b.tx i]?=some i:=by rw[nu,B4];simp[Im]
  refine asN aa.rP bu ?_;have:(b.tx.map (·.e.id)).eraseIdx (hD b.tx i)=(b.tx.eraseIdx (hD b.tx i)).map (·.e.id):=asP _ _ _;rw[this];exact kN.2 ⟨u,al,e⟩
 have nN:(b.tx.eraseIdx (hD b.tx i)).Sublist b.tx:=S4 _ _;have w1:=h.Ij ao an al (bA T) (bA b.ev) K0 (tx:=b.tx.eraseIdx (hD b.tx i)) (λu al=>(aa.tx u (Te u al).1).mn rfl rfl (bA _)) (aa.rP.sublist (nN.map _)) (eh nN.length_le aa.tk);have u1:=x1 w n (.up {b with tx:=b.tx.eraseIdx (hD b.tx i),ev:=b.ev})
 have aN:=w1.afM (l':=zb l i f) afY (λm dg hm Ik u Tf=>by
   have k:=(w1.up m dg hm Ik).1;refine af0 (k.tx u Tf) ?_;by_cases e:m=n
   ·subst e;rw[u1]at Ik;injection Ik with Ik;rw[<-Ik]at Tf;exact(Te u Tf).2
   ·intro q;have bQ:=(k.tx u Tf).zZ;rw[q,k.b6]at bQ;have bY:=rR.zZ;rw[Im,aa.b6]at bY
    omega)
  (by rw[afZ];exact h.CA)
  (λy hy=>by
   have:y.id∈l.map (·.id):=by rw[<-afZ];exact mJ hy
   obtain⟨z,bf,e⟩:=kN.1 this;obtain⟨m,m1,m2,m3,m4⟩:=w1.CB z bf;rw[e]at m2 m3 m4
   exact⟨m,m1,m2,m3,m4⟩)
 have aY:=aN.Ij ao an u1 (bA _) (bA _) K0 (tx:=tx) (λu al=>by
   rcases hs u al with k|k
   ·exact(af0 (aa.tx u (Te u k).1) (Te u k).2).mn rfl rfl (bA _)
   ·exact(k x iu gR ji k0 oq o7 asR).mn rfl rfl (bA _)) alv fs
 rw[afN]at aY;exact aY
def af1{tx:List gN}{i:aA}{t af2:gN}(h:tx[hD tx i]?=some t)(e:af2.e.id=t.e.id):(tx.set (hD tx i) af2).map (·.e.id)=tx.map (·.e.id):=by
 rw[List.map_set];refine K1 λj=>?_;rw[Gi];split
 ·rename_i q;subst q;split
  ·rw[nu,h];simp[e]
  ·rename_i q;rw[y8 J]
 ·rfl
def OI(l:List lz)(z:Int)(i:aA)(f:lz->lz):List lz:=if z=0 then zb l i f else l
def af3(ao:jL c)(h:dy c l T w)(cl:Int)(i:aA)(g:az->Int×az)(f:lz->lz){z:Int}{w':aZ}(he:w.kG c cl i g=(z,w'))(bu:∀n b,n<c.ps.length->w.bR n=.up b->(g b).1≠0/\(g b).2=b\/(g b).1=0/\dy c (zb l i f) T (w.hc n (.up (g b).2))):dy c (OI l z i f) T w':=by
 unfold aZ.kG at he;cases b5:mb c cl with
 |none=>rw[b5]at he;cases he;exact h
 |some n=>
  obtain⟨an,_,_,_⟩:=ao.at_ b5;rw[b5]at he;dsimp only at he;cases al:w.bR n with
  |down dk=>rw[al]at he;cases he;exact h
  |up b=>
   rw[al]at he;dsimp only at he;by_cases aW:i.b=(n:Int)
   ·rw[bj (by simpa using aW)]at he;rcases bu n b an al with ⟨q1,dP⟩|⟨q1,dP⟩
    ·obtain⟨aa,K0⟩:=h.up n b an al;cases he;unfold OI;rw[bj q1,dP];exact h.Ij ao.toka an al (bA _) (bA _) K0 (λt a6=>(aa.tx t a6).mn rfl rfl (bA _)) aa.rP aa.tk
    ·cases he;unfold OI;rw[bm q1];exact dP
   ·rw[bm aW]at he;cases he;exact h
def YH(ao:jL c)(h:dy c l T w)(cl:Int)(i:aA)(e:List cd)(aO:∀a,a∈e->k8 a.n){z:Int}{w':aZ}(he:w.kG c cl i (λb=>b.rl i e)=(z,w')):dy c (OI l z i (λx=> {x with aS:=x.aS++[e]})) T w':=by
 refine af3 ao h cl i _ _ he (λn b an al=>?_);obtain⟨aa,_⟩:=h.up n b an al;unfold az.rl az.ah Cs;cases aK:sE b.tx i with
 |none=>exact .inl ⟨by simp,by simp⟩
 |some t=>
  dsimp only;split
  ·exact .inl ⟨by simp,by simp⟩
  ·rename_i ss;split
   ·exact .inl ⟨by simp,by simp⟩
   ·rename_i fs;split
    ·exact .inl ⟨by simp,by simp⟩
    ·rename_i K2;rw[bm rfl];refine .inr ⟨rfl,?_⟩;obtain⟨B4,o2,Im⟩:=YG aK;have rR:=aa.tx t (Be B4);refine afX ao.toka h an al aK (λx=> {x with aS:=x.aS++[e]}) (λx=>rfl) (λu al=>(afT al).symm.imp id (λuH x iu gR ji k0 oq o7 U=>?_)) (by refine(eP List.Nodup (af1 B4 ?_)).mpr aa.rP;rfl) (by rw[Dz];exact aa.tk);subst uH;obtain⟨bQ,-⟩:=rR.Ee o2;refine⟨⟨⟨rR.eA.ok.id,rR.eA.ok.c,rR.eA.ok.u,?_⟩,?_⟩,rR.zZ,rR.KY,rR.Ii,λq=>?_,λ_=>⟨bQ,_,U,gR,ji,by rw[k0,<-Im],oq,by rw[o7]⟩⟩
     ·rcases rR.eA.ok.k with ⟨cL,cE,a3,a4,a5⟩|⟨cL,_⟩|⟨cL,_⟩
      ·refine .inl ⟨cL,cE,a3,Ta,λd aD=>?_⟩;rcases rO.1 aD with aD|rfl
       ·exact a5 d aD
       ·exact ar9 (by simpa using ss) aO
      ·rw[bQ]at cL;cases cL
      ·rw[bQ]at cL;cases cL
     ·unfold sD at K2;simpa using K2
     ·rw[o2]at q;cases q
def YI(ao:jL c)(h:dy c l T w)(cl:Int)(i:aA){z:Int}{w':aZ}(he:w.kG c cl i (λb=>b.tp i)=(z,w')):dy c (OI l z i (λx=> {x with Bb:=true})) T w':=by
 refine af3 ao h cl i _ _ he (λn b an al=>?_);obtain⟨aa,_⟩:=h.up n b an al;unfold az.tp az.ah Ea;cases aK:sE b.tx i with
 |none=>exact .inl ⟨by simp,by simp⟩
 |some t=>
  dsimp only;rw[bm rfl];refine .inr ⟨rfl,?_⟩;obtain⟨B4,_,Im⟩:=YG aK;have rR:=aa.tx t (Be B4);refine afX ao.toka h an al aK (λx=> {x with Bb:=true}) (λx=>rfl) (λu al=>(afT al).symm.imp id (λuH x iu gR ji k0 oq o7 U=>?_)) (by refine(eP List.Nodup (af1 B4 ?_)).mpr aa.rP;rfl) (by rw[Dz];exact aa.tk);subst uH;exact⟨rR.eA,rR.zZ,rR.KY,rR.Ii,λ_ _=>⟨_,U,rfl,ji,by rw[k0,<-Im],oq,o7⟩,λq=>(by cases q)⟩
def asS(h:dy c l T w)(an:n<c.ps.length)(k:Nat):gZ (w.xW n) k=gZ w k:=by
 unfold aZ.xW;cases al:w.bR n with
 |down dk=>rfl
 |up b=>
  dsimp only;by_cases e:k=n
  ·subst e;rw[KZ,wW al];exact(h.up k b an al).1.ez.eq
  ·exact za w _ e
def asT(h:dy c l T w)(an:n<c.ps.length):dy c l T (w.xW n):=by
 have hs:=asS h an;have Tg:(w.xW n).iz=w.iz:=by unfold aZ.xW;cases w.bR n<;>rfl
 have qg:∀k Bd,(w.xW n).bR k=.up Bd->w.bR k=.up Bd:=λk Bd hk=>by
  unfold aZ.xW at hk;cases al:w.bR n with
  |down dk=>rw[al]at hk;exact hk
  |up b=>
   rw[al]at hk;dsimp only at hk;by_cases e:k=n
   ·subst e;rw[x1]at hk;cases hk
   ·rw[CC w _ e]at hk;exact hk
 refine⟨λk Bd hk Eh=>?_,λk dk hk k6=>?_,λk hk=>by rw[hs];exact h.cO k hk,λk hk aW=>by rw[hs,hs];exact h.cC k hk aW,λk hk aW=>by rw[hs];exact h.ay k hk aW,λd aD=>by rw[hs]at aD;exact h.h5 d aD,
  λa b m hm=>by rw[Tg]at hm;rw[hs,hs];exact h.Bc a b m hm,λa b=>by rw[Tg];exact h.len a b,h.CA,λx U=>?_⟩
 ·rw[hs];exact h.up k Bd hk (qg k Bd Eh)
 ·unfold aZ.xW at k6;cases al:w.bR n with
  |down aCB=>rw[al]at k6;exact h.down k dk hk k6
  |up b=>
   rw[al]at k6;dsimp only at k6;by_cases e:k=n
   ·subst e;rw[x1]at k6;injection k6 with k6;subst k6;have:=(h.up k b hk al).1.ez;rw[this.eq];exact this
   ·rw[CC w _ e]at k6;exact h.down k dk hk k6
 ·obtain⟨m,m1,m2,m3,m4⟩:=h.CB x U;exact⟨m,m1,m2,by rw[hs];exact m3,λb aa=>m4 b (qg m b aa)⟩
def af4(ao:jL c)(ax:nZ [my 1]<=c.room):dy c [] 0 (aZ.new):=by
 refine⟨λn b an al=>?_,λn dk an aD=>(by cases aD),λn an=>bA _,λn an aW=>Cx _,λn an aW=>rfl,λd aD=>(by cases aD),λa b m hm=>(by cases hm),λa b=>hX _,xX,λx U=>(by cases U)⟩;injection al with al;subst al;have aT:(qj n j0).ez= [my 1]:=rfl;refine⟨⟨rfl,⟨λr ax=>?_,afj (s:=⟨1,[],[],[]⟩) ⟨xX,xX,xX,λi h=>(by cases h),λi h=>(by cases h),λi h=>(by cases h)⟩ Nat.one_pos,ax,Nat.one_pos⟩,λt a6=>(by cases a6),xX,hX _,λj m hm=>(by cases hm),λd aD=>(by cases aD),hX _,⟨hX _,λi aO=>(by cases aO)⟩,⟨xX,λi aO=>(by cases aO)⟩⟩,hX _⟩;exact af5
end
end
end Go.Proofs.YtfiiblnenhdlhaaGreat
