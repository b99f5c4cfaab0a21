/- Part. -/
import Derived.Test.YtfiiblnenhdlhaaGreatG4
import Derived.Test.YtfiiblnenhdlhaaGreatG15
set_option linter.unusedVariables false
set_option linter.unusedSimpArgs false
set_option linter.defProp false
set_option maxRecDepth 100000
set_option maxHeartbeats 4000000
namespace Go.Proofs.YtfiiblnenhdlhaaGreat
open Go.RowKit Tryz
variable {fuel:Nat}{w:World}
def Own.lit{α:Type}{arr:Array Value}{t:TypeId}{sz:Nat}{c:α->List Value}{xs:List α}{n:Nat}(aj:arr.toList=xs.flatMap c)(hw:∀y,(c y).length=sz)(an:n=xs.length)(hs:arr.size=n*sz)(hm:n<=maxLen):Own (w.alloc (.cells arr t)) w t sz c (some (w,0)) n n xs:=
 ⟨aj▸World.ownsRow_lit w arr n (bA _) hm hs,an,hw⟩
def aBj:aR 5 #[] w (cM (.bool true) w):=by
 go_enter func5,ntmps5;go_wp2_with fail;refine(anp _ _).mono ?_;rintro e w1⟨rfl,bx⟩;replace bx:=I bx;go_wp2_with fail;have ak:Own (w1.alloc (.cells #[.string ⟨#[112]⟩,bh 1,bh 5,.string ⟨#[]⟩] 77)) w1 77 4 cd.cs (some (w1,0)) 1 1 [Q3]:=Own.lit rfl cd.bH rfl rfl af;have pc:(w1.alloc (.cells #[.string ⟨#[112]⟩,bh 1,bh 5,.string ⟨#[]⟩] 77)).heap.size=(w1:Nat)+1:=by simp
 have zT:((w1.alloc (.cells #[.string ⟨#[112]⟩,.int .i64 1,.int .i64 5,.string ⟨#[]⟩] 77)).alloc (.cells #[.int .i64 13,.int .i64 0,.int .i64 1,.int .i64 0,.slice none 0 0,.slice none 0 0,.int .i64 9,.int .i64 0,.int .i64 0,.int .i64 0,.slice none 0 0,.slice none 0 0,.int .i64 10,.int .i64 0,.int .i64 0,.int .i64 1,.slice (some (w1,0)) 1 1,.slice none 0 0,.int .i64 11,.int .i64 0,.int .i64 0,.int .i64 1,.slice none 0 0,.slice none 0 0,.int .i64 8,.int .i64 0,.int .i64 0,.int .i64 0,.slice none 0 0,.slice none 0 0,.int .i64 8,.int .i64 0,.int .i64 0,.int .i64 0,.slice none 0 0,.slice none 0 0,.int .i64 8,.int .i64 0,.int .i64 0,.int .i64 0,.slice none 0 0,.slice none 0 0,.int .i64 16,.int .i64 0,.int .i64 0,.int .i64 0,.slice none 0 0,.slice none 0 0,.int .i64 6,.int .i64 0,.int .i64 0,.int .i64 0,.slice none 0 0,.slice none 0 0,.int .i64 17,.int .i64 0,.int .i64 0,.int .i64 0,.slice none 0 0,.slice none 0 0] 72)).heap.size=(w1:Nat)+2:=by simp
 have amQ:(((w1.alloc (.cells #[.string ⟨#[112]⟩,.int .i64 1,.int .i64 5,.string ⟨#[]⟩] 77)).alloc (.cells #[.int .i64 13,.int .i64 0,.int .i64 1,.int .i64 0,.slice none 0 0,.slice none 0 0,.int .i64 9,.int .i64 0,.int .i64 0,.int .i64 0,.slice none 0 0,.slice none 0 0,.int .i64 10,.int .i64 0,.int .i64 0,.int .i64 1,.slice (some (w1,0)) 1 1,.slice none 0 0,.int .i64 11,.int .i64 0,.int .i64 0,.int .i64 1,.slice none 0 0,.slice none 0 0,.int .i64 8,.int .i64 0,.int .i64 0,.int .i64 0,.slice none 0 0,.slice none 0 0,.int .i64 8,.int .i64 0,.int .i64 0,.int .i64 0,.slice none 0 0,.slice none 0 0,.int .i64 8,.int .i64 0,.int .i64 0,.int .i64 0,.slice none 0 0,.slice none 0 0,.int .i64 16,.int .i64 0,.int .i64 0,.int .i64 0,.slice none 0 0,.slice none 0 0,.int .i64 6,.int .i64 0,.int .i64 0,.int .i64 0,.slice none 0 0,.slice none 0 0,.int .i64 17,.int .i64 0,.int .i64 0,.int .i64 0,.slice none 0 0,.slice none 0 0] 72)).alloc (.cells #[.int .i64 (-1),.int .i64 0] 3)).heap.size=(w1:Nat)+3:=by simp
 have aM:Own ((w1.alloc (.cells #[.string ⟨#[112]⟩,.int .i64 1,.int .i64 5,.string ⟨#[]⟩] 77)).alloc (.cells #[.int .i64 13,.int .i64 0,.int .i64 1,.int .i64 0,.slice none 0 0,.slice none 0 0,.int .i64 9,.int .i64 0,.int .i64 0,.int .i64 0,.slice none 0 0,.slice none 0 0,.int .i64 10,.int .i64 0,.int .i64 0,.int .i64 1,.slice (some (w1,0)) 1 1,.slice none 0 0,.int .i64 11,.int .i64 0,.int .i64 0,.int .i64 1,.slice none 0 0,.slice none 0 0,.int .i64 8,.int .i64 0,.int .i64 0,.int .i64 0,.slice none 0 0,.slice none 0 0,.int .i64 8,.int .i64 0,.int .i64 0,.int .i64 0,.slice none 0 0,.slice none 0 0,.int .i64 8,.int .i64 0,.int .i64 0,.int .i64 0,.slice none 0 0,.slice none 0 0,.int .i64 16,.int .i64 0,.int .i64 0,.int .i64 0,.slice none 0 0,.slice none 0 0,.int .i64 6,.int .i64 0,.int .i64 0,.int .i64 0,.slice none 0 0,.slice none 0 0,.int .i64 17,.int .i64 0,.int .i64 0,.int .i64 0,.slice none 0 0,.slice none 0 0] 72)) (w1.alloc (.cells #[.string ⟨#[112]⟩,.int .i64 1,.int .i64 5,.string ⟨#[]⟩] 77)).heap.size 72 6 r7.cs' (some ⟨(w1.alloc (.cells #[.string ⟨#[112]⟩,.int .i64 1,.int .i64 5,.string ⟨#[]⟩] 77)).heap.size,0,none⟩) 10 10 (Q5 ⟨some (w1,0),1,1⟩):=Own.lit rfl r7.bH rfl rfl af;have bn:Own (((w1.alloc (.cells #[.string ⟨#[112]⟩,.int .i64 1,.int .i64 5,.string ⟨#[]⟩] 77)).alloc (.cells #[.int .i64 13,.int .i64 0,.int .i64 1,.int .i64 0,.slice none 0 0,.slice none 0 0,.int .i64 9,.int .i64 0,.int .i64 0,.int .i64 0,.slice none 0 0,.slice none 0 0,.int .i64 10,.int .i64 0,.int .i64 0,.int .i64 1,.slice (some (w1,0)) 1 1,.slice none 0 0,.int .i64 11,.int .i64 0,.int .i64 0,.int .i64 1,.slice none 0 0,.slice none 0 0,.int .i64 8,.int .i64 0,.int .i64 0,.int .i64 0,.slice none 0 0,.slice none 0 0,.int .i64 8,.int .i64 0,.int .i64 0,.int .i64 0,.slice none 0 0,.slice none 0 0,.int .i64 8,.int .i64 0,.int .i64 0,.int .i64 0,.slice none 0 0,.slice none 0 0,.int .i64 16,.int .i64 0,.int .i64 0,.int .i64 0,.slice none 0 0,.slice none 0 0,.int .i64 6,.int .i64 0,.int .i64 0,.int .i64 0,.slice none 0 0,.slice none 0 0,.int .i64 17,.int .i64 0,.int .i64 0,.int .i64 0,.slice none 0 0,.slice none 0 0] 72)).alloc (.cells #[.int .i64 (-1),.int .i64 0] 3)) ((w1.alloc (.cells #[.string ⟨#[112]⟩,.int .i64 1,.int .i64 5,.string ⟨#[]⟩] 77)).alloc (.cells #[.int .i64 13,.int .i64 0,.int .i64 1,.int .i64 0,.slice none 0 0,.slice none 0 0,.int .i64 9,.int .i64 0,.int .i64 0,.int .i64 0,.slice none 0 0,.slice none 0 0,.int .i64 10,.int .i64 0,.int .i64 0,.int .i64 1,.slice (some (w1,0)) 1 1,.slice none 0 0,.int .i64 11,.int .i64 0,.int .i64 0,.int .i64 1,.slice none 0 0,.slice none 0 0,.int .i64 8,.int .i64 0,.int .i64 0,.int .i64 0,.slice none 0 0,.slice none 0 0,.int .i64 8,.int .i64 0,.int .i64 0,.int .i64 0,.slice none 0 0,.slice none 0 0,.int .i64 8,.int .i64 0,.int .i64 0,.int .i64 0,.slice none 0 0,.slice none 0 0,.int .i64 16,.int .i64 0,.int .i64 0,.int .i64 0,.slice none 0 0,.slice none 0 0,.int .i64 6,.int .i64 0,.int .i64 0,.int .i64 0,.slice none 0 0,.slice none 0 0,.int .i64 17,.int .i64 0,.int .i64 0,.int .i64 0,.slice none 0 0,.slice none 0 0] 72)).heap.size 3 1 dD (some ⟨((w1.alloc (.cells #[.string ⟨#[112]⟩,.int .i64 1,.int .i64 5,.string ⟨#[]⟩] 77)).alloc (.cells #[.int .i64 13,.int .i64 0,.int .i64 1,.int .i64 0,.slice none 0 0,.slice none 0 0,.int .i64 9,.int .i64 0,.int .i64 0,.int .i64 0,.slice none 0 0,.slice none 0 0,.int .i64 10,.int .i64 0,.int .i64 0,.int .i64 1,.slice (some (w1,0)) 1 1,.slice none 0 0,.int .i64 11,.int .i64 0,.int .i64 0,.int .i64 1,.slice none 0 0,.slice none 0 0,.int .i64 8,.int .i64 0,.int .i64 0,.int .i64 0,.slice none 0 0,.slice none 0 0,.int .i64 8,.int .i64 0,.int .i64 0,.int .i64 0,.slice none 0 0,.slice none 0 0,.int .i64 8,.int .i64 0,.int .i64 0,.int .i64 0,.slice none 0 0,.slice none 0 0,.int .i64 16,.int .i64 0,.int .i64 0,.int .i64 0,.slice none 0 0,.slice none 0 0,.int .i64 6,.int .i64 0,.int .i64 0,.int .i64 0,.slice none 0 0,.slice none 0 0,.int .i64 17,.int .i64 0,.int .i64 0,.int .i64 0,.slice none 0 0,.slice none 0 0] 72)).heap.size,0,none⟩) 2 2 [-1,0]:=Own.lit rfl dD.rM rfl rfl af;have cb:Own ((((w1.alloc (.cells #[.string ⟨#[112]⟩,.int .i64 1,.int .i64 5,.string ⟨#[]⟩] 77)).alloc (.cells #[.int .i64 13,.int .i64 0,.int .i64 1,.int .i64 0,.slice none 0 0,.slice none 0 0,.int .i64 9,.int .i64 0,.int .i64 0,.int .i64 0,.slice none 0 0,.slice none 0 0,.int .i64 10,.int .i64 0,.int .i64 0,.int .i64 1,.slice (some (w1,0)) 1 1,.slice none 0 0,.int .i64 11,.int .i64 0,.int .i64 0,.int .i64 1,.slice none 0 0,.slice none 0 0,.int .i64 8,.int .i64 0,.int .i64 0,.int .i64 0,.slice none 0 0,.slice none 0 0,.int .i64 8,.int .i64 0,.int .i64 0,.int .i64 0,.slice none 0 0,.slice none 0 0,.int .i64 8,.int .i64 0,.int .i64 0,.int .i64 0,.slice none 0 0,.slice none 0 0,.int .i64 16,.int .i64 0,.int .i64 0,.int .i64 0,.slice none 0 0,.slice none 0 0,.int .i64 6,.int .i64 0,.int .i64 0,.int .i64 0,.slice none 0 0,.slice none 0 0,.int .i64 17,.int .i64 0,.int .i64 0,.int .i64 0,.slice none 0 0,.slice none 0 0] 72)).alloc (.cells #[.int .i64 (-1),.int .i64 0] 3)).alloc (.cells #[.int .i64 1] 3)) (((w1.alloc (.cells #[.string ⟨#[112]⟩,.int .i64 1,.int .i64 5,.string ⟨#[]⟩] 77)).alloc (.cells #[.int .i64 13,.int .i64 0,.int .i64 1,.int .i64 0,.slice none 0 0,.slice none 0 0,.int .i64 9,.int .i64 0,.int .i64 0,.int .i64 0,.slice none 0 0,.slice none 0 0,.int .i64 10,.int .i64 0,.int .i64 0,.int .i64 1,.slice (some (w1,0)) 1 1,.slice none 0 0,.int .i64 11,.int .i64 0,.int .i64 0,.int .i64 1,.slice none 0 0,.slice none 0 0,.int .i64 8,.int .i64 0,.int .i64 0,.int .i64 0,.slice none 0 0,.slice none 0 0,.int .i64 8,.int .i64 0,.int .i64 0,.int .i64 0,.slice none 0 0,.slice none 0 0,.int .i64 8,.int .i64 0,.int .i64 0,.int .i64 0,.slice none 0 0,.slice none 0 0,.int .i64 16,.int .i64 0,.int .i64 0,.int .i64 0,.slice none 0 0,.slice none 0 0,.int .i64 6,.int .i64 0,.int .i64 0,.int .i64 0,.slice none 0 0,.slice none 0 0,.int .i64 17,.int .i64 0,.int .i64 0,.int .i64 0,.slice none 0 0,.slice none 0 0] 72)).alloc (.cells #[.int .i64 (-1),.int .i64 0] 3)).heap.size 3 1 dD (some ⟨(((w1.alloc (.cells #[.string ⟨#[112]⟩,.int .i64 1,.int .i64 5,.string ⟨#[]⟩] 77)).alloc (.cells #[.int .i64 13,.int .i64 0,.int .i64 1,.int .i64 0,.slice none 0 0,.slice none 0 0,.int .i64 9,.int .i64 0,.int .i64 0,.int .i64 0,.slice none 0 0,.slice none 0 0,.int .i64 10,.int .i64 0,.int .i64 0,.int .i64 1,.slice (some (w1,0)) 1 1,.slice none 0 0,.int .i64 11,.int .i64 0,.int .i64 0,.int .i64 1,.slice none 0 0,.slice none 0 0,.int .i64 8,.int .i64 0,.int .i64 0,.int .i64 0,.slice none 0 0,.slice none 0 0,.int .i64 8,.int .i64 0,.int .i64 0,.int .i64 0,.slice none 0 0,.slice none 0 0,.int .i64 8,.int .i64 0,.int .i64 0,.int .i64 0,.slice none 0 0,.slice none 0 0,.int .i64 16,.int .i64 0,.int .i64 0,.int .i64 0,.slice none 0 0,.slice none 0 0,.int .i64 6,.int .i64 0,.int .i64 0,.int .i64 0,.slice none 0 0,.slice none 0 0,.int .i64 17,.int .i64 0,.int .i64 0,.int .i64 0,.slice none 0 0,.slice none 0 0] 72)).alloc (.cells #[.int .i64 (-1),.int .i64 0] 3)).heap.size,0,none⟩) 1 1 [1]:=Own.lit rfl dD.rM rfl rfl af;rw[pc]at aM;rw[zT]at bn;rw[amQ]at cb;have hh:=I cb.aF;have gu:=I (bn.aF.ext ((Z.refl _).alloc (.cells #[bh 1] 3)));have fK:=I (aM.aF.ext (((Z.refl _).alloc (.cells #[bh (-1),ar] 3)).alloc (.cells #[bh 1] 3)));have dZ:=I (ak.aF.ext ((((Z.refl _).alloc (.cells #[.int .i64 13,.int .i64 0,.int .i64 1,.int .i64 0,.slice none 0 0,.slice none 0 0,.int .i64 9,.int .i64 0,.int .i64 0,.int .i64 0,.slice none 0 0,.slice none 0 0,.int .i64 10,.int .i64 0,.int .i64 0,.int .i64 1,.slice (some (w1,0)) 1 1,.slice none 0 0,.int .i64 11,.int .i64 0,.int .i64 0,.int .i64 1,.slice none 0 0,.slice none 0 0,.int .i64 8,.int .i64 0,.int .i64 0,.int .i64 0,.slice none 0 0,.slice none 0 0,.int .i64 8,.int .i64 0,.int .i64 0,.int .i64 0,.slice none 0 0,.slice none 0 0,.int .i64 8,.int .i64 0,.int .i64 0,.int .i64 0,.slice none 0 0,.slice none 0 0,.int .i64 16,.int .i64 0,.int .i64 0,.int .i64 0,.slice none 0 0,.slice none 0 0,.int .i64 6,.int .i64 0,.int .i64 0,.int .i64 0,.slice none 0 0,.slice none 0 0,.int .i64 17,.int .i64 0,.int .i64 0,.int .i64 0,.slice none 0 0,.slice none 0 0] 72)).alloc (.cells #[.int .i64 (-1),.int .i64 0] 3)).alloc (.cells #[.int .i64 1] 3)));clear ak aM bn cb pc zT amQ;refine(aBg gu hh fK dZ).mono ?_;rintro e bp⟨a,n,_,xs,rfl,hs,aT,eU,ix⟩;obtain rfl:n=10:=hs.neq.trans aT;have ic:Hid (Z w1 bp):=Z.trans X ix;obtain⟨b,o,rfl,eK⟩:=hs.get 7 J;obtain⟨b',ks,wX,iT⟩:=hs.get 8 J;cases wX;obtain⟨_,_,CD,ie⟩:=hs.get 9 J;cases CD;have d7:=eK 5 _ rfl;have d8:=iT 0 _ rfl;have d9:=ie 6 _ rfl;have d10:=ie 8 _ rfl;have lO:=eU.nA _ (fz (show 7<xs.length by omega));have wX:=eU.ra _ (fz (show 8<xs.length by omega));obtain⟨CD,OJ⟩:=eU.a9 _ (fz (show 9<xs.length by omega));rw[lO]at d7;rw[wX]at d8;rw[CD]at d9;rw[OJ]at d10;clear hs eU ix eK iT ie lO wX CD OJ;go_wp2_with fail;go_ret;exact⟨rfl,X⟩
def amR(b l s b' l' s':Int)(w:aC):
  (binOp .neq 54 (.agg #[b,ad l,ad s]) (.agg #[b',ad l',ad s'])).run prog w=.ok (.bool (!cf ⟨b,l,s⟩ ⟨b',l',s'⟩)) w:=acC
structure aiO {α:Type} (bs w:World) (T:TypeId) (sz:Nat) (c:α->List Value) (xs:List α) (y:α) (b0 bd hv:Bool) (u v x:Value):Prop where
 ext:Z bs w
 z:b0=true->∃H,u=.slice (some ⟨H,0,none⟩) 0 0/\Own w bs.heap.size T sz c (some ⟨H,0,none⟩) 0 0 []
 r:bd=true->∃aw n k,v=.slice aw n k/\Own w bs.heap.size T sz c aw n k xs
 e:hv=true->∃H,x=.slice (some ⟨H,0,none⟩) 1 1/\∀j u,(c y)[j]?=some u->w.cell? ⟨H,j,none⟩=some u
def aBk{cD aj:bk}{eL fw an ao:Nat}{ps hs:List Int}(cy:a1 w 1 dD cD eL fw ps)(qD:a1 w 1 dD aj an ao hs):
  aR 6 #[aq cD eL fw,aq aj an ao] w λe w'=>∃g:Bool,e=.returned g/\Z w w'/\(g=true->jn ps=true/\zx ps.length hs=true/\ps.length<=6/\hs.length<=8):=by
 obtain rfl:=cy.neq;obtain rfl:=qD.neq;change Hid _ at cy qD;by_cases ey:ps.length<=6
 ·by_cases fs:hs.length<=8
  ·have d6:decide ((6:Int)<(ps.length:Int))=false:=lo J;have d8:decide ((8:Int)<(hs.length:Int))=false:=lo J;have l5:¬((6:Int)<(ps.length:Int)):=J;have wX:¬((8:Int)<(hs.length:Int)):=J;cases a6:jn ps with
   |false=>
    change Hid _ at a6;go_enter func6,ntmps6;go_wp2_with fail;refine qA (aAE (hs:=hs) cy a6 (room:=60000)) λw1 bU=>?_;go_wp2_with fail;go_ret;exact⟨false,rfl,bU,λh=>by cases h⟩
   |true=>
    change Hid _ at a6;go_enter func6,ntmps6;go_wp2_with fail;refine(aaM (room:=60000) cy qD a6 J J J J).mono ?_;rintro e _⟨ae,ak⟩;cases aa:zx ps.length hs with
    |false=>
     obtain⟨rfl,bU⟩:=ak aa;change Hid _ at bU;clear ae ak;go_wp2_with fail;go_ret;exact⟨false,rfl,bU,λh=>by cases h⟩
    |true=>
     obtain⟨P,M,F,rfl,_,bU,_⟩:=ae aa;change Hid _ at bU aa;clear ae ak;go_wp2_with fail;go_ret;exact⟨true,rfl,bU,λ_=>⟨(by first|exact a6|trivial),(by first|exact aa|trivial),ey,fs⟩⟩
  ·have l5:¬((6:Int)<(ps.length:Int)):=J;have wX:(8:Int)<(hs.length:Int):=J;have d8:decide ((8:Int)<(hs.length:Int))=true:=mS wX;have d6:decide ((6:Int)<(ps.length:Int))=false:=lo l5;exact amS
 ·have l5:(6:Int)<(ps.length:Int):=J;have d6:decide ((6:Int)<(ps.length:Int))=true:=mS l5;exact amS
section
open Go.RowKit Go.ChangeShapes Go.WideShapes
section
variable {H:Type}{pE:TypeId×Value->H}{w:World}{base:Nat}{spare:Nat->Bool}{held:Bool}
def aBl{n:Int}(h:(Lit.int .i64 n).wf=true):k8 n:=by
 unfold k8;simp[Lit.wf,IntKind.min,IntKind.max,IntKind.bits,IntKind.signed]at h;omega
def aBm{cs:List Value}{x:DataW H×List MemPlace}(h:DataW.trod pE prog w base spare held fuel 74 cs=some x):∃(k n:Int) (s:ByteArray),cs= [.int .i64 k,.int .i64 n,.string s]/\k8 n:=by
 refine aBn ?_;intro aT n0 cF aW dv cP ae cZ cQ ak
 match cs,aT with
 | [cT,c1,c2],_=>
  obtain⟨a0,dV,_,_⟩:=DataW.trod_int underlying3 aW;obtain⟨cL,bS,_,hw⟩:=DataW.trod_int underlying2 ae;obtain⟨cE,bE,_,_⟩:=DataW.trod_string underlying9 ak;simp at dV;simp at bS;simp at bE;subst dV bS bE;exact⟨a0,cL,cE,rfl,aBl hw⟩
def aBo{cs:List Value}{x:DataW H×List MemPlace}(h:DataW.trod pE prog w base spare held fuel 77 cs=some x):∃y:cd,cs=y.cs/\k8 y.n:=by
 have aT:cs.length=4:=(acM underlying77 h).trans bV;obtain⟨_,_,aW⟩:=M0 underlying77 h 0 _ rfl 0 1 bV rfl;obtain⟨_,_,ae⟩:=M0 underlying77 h 1 _ rfl 1 3 bV rfl
 match cs,aT with
 | [cT,c1,c2,da],_=>
  obtain⟨a0,dV,_,_⟩:=DataW.trod_string underlying9 aW;simp at dV;obtain⟨p,q,r,bS,ala⟩:=aBm ae;simp at bS;obtain⟨rfl,rfl,rfl⟩:=bS;subst dV;exact⟨⟨a0,p,q,r⟩,rfl,ala⟩
def aBp{cs:List Value}{x:DataW H×List MemPlace}(h:DataW.trod pE prog w base spare held fuel 34 cs=some x):∃a n cap ys,cs= [.slice a n cap]/\a1 w 4 cd.cs a n cap ys/\∀y,y∈ys->k8 y.n:=
 acN (c:=cd.cs) (sz:=4) (R:=λy=>k8 y.n) underlying34 bV af cd.bH (λ_ _ _ k=>aBo k) h
def aC8{r:Reach}{b0:Nat}{v:Value}{d:DataW H}{p:List MemPlace}(bo:Value.okWide prog w r b0 34 v)(h:DataW.Trod pE prog w base spare held 34 v d p):∃a n cap ys,v=.slice a n cap/\a1 w 4 cd.cs a n cap ys/\∀y,y∈ys->k8 y.n:=by
 obtain⟨a,n,_,rfl⟩:=okWide_slice underlying34 bo;obtain⟨_,bc⟩:=h;obtain⟨_,_,_,ys,e,s,k⟩:=aBp bc;simp[Value.cells]at e;obtain⟨rfl,rfl,rfl⟩:=e;exact⟨_,_,_,ys,rfl,s,k⟩
end
end
section
structure Dj (W w:World) (M F:Nat->Prop) (c:bt) (P:Nat) (aU:aZ):Prop where
 st:jh w M F c P aU
 ext:Z W w
 cx:∀x,M x->W.heap.size<=x
section
variable {W w w':World}{M F M' fb:Nat->Prop}{c:bt}{P:Nat}{aU vo:aZ}
def Dj.lu(h:Dj W w M F c P aU)(hw:jh w' M' fb c P vo)(hm:hJ w M F w' M' fb):Dj W w' M' fb c P vo:=
 ⟨hw,hm.dT.ext (λx k=>h.cx x (h.st.sub x k)) h.ext,λx k=>(hm.m.new x k).elim (h.cx x) (λz=>eh h.ext.size z)⟩
def Dj.pB(h:Dj W w M F c P aU)(U:Z w w'):Dj W w' M F c P aU:=⟨h.st.ext U,h.ext.trans U,h.cx⟩
end
def sU(M:Nat->Prop)(w:World)(b:Nat)(s:aA):Prop:=dq M w (λw=>w.heap[b]?=some (s:Obj))
section
variable {w w':World}{M F M' fb:Nat->Prop}{b:Nat}{s:aA}
def sU.lu(h:sU M w b s)(a8:∀x,F x->M x)(hm:hJ w M F w' M' fb):sU M' w' b s:=hm.pJ a8 h
def sU.pB(h:sU M w b s)(U:Z w w'):sU M w' b s:=dq.step h (aG.of U) (b4.eG _ _)
def sU.new(aa:w.heap[b]?=some (s:Obj))(an:¬M b):sU M w b s:=λfj al=>(al.block _ (bT aa) an).trans aa
def sU.dQ(h:sU M w b s):w.heap[b]?=some (s:Obj):=dq.dQ h
end
def lU(c:bt)(aU:aZ)(K:Nat):Prop:=∃l,dy c l K aU
def lU.rounds{c:bt}(ao:ka c):∀(k:Nat){aU:aZ}{K:Nat},lU c aU K->lU c (rounds c k aU) K
 |0,_,_,h=>h
 |k+1,_,_,⟨l,h⟩=>lU.rounds ao k ⟨l,Tb ao h⟩
def abw(c:bt)(k:Nat)(w:aZ):rounds c (k+1) w=(rounds c k w).round c:=by
 rw[t7 c k 1 w];rfl
end
def amT{c:bt}{w w':aZ}{T:Nat}{cl:Int}{i:aA}{f:az->Int×az}(ao:jL c)(h:lU c w T)(kp:T<=1000)(he:w.call c cl f=(0,i,w')):dx i:=by
 obtain⟨l,h⟩:=h;unfold aZ.call at he;cases b5:mb c cl with
 |none=>
  rw[b5]at he;injection he with e _;exact absurd e af
 |some n=>
  rw[b5]at he;dsimp only at he;cases al:w.bR n with
  |down dk=>
   rw[al]at he;injection he with e _;exact absurd e af
  |up b=>
   rw[al]at he;dsimp only at he;split at he
   ·injection he with _ e;injection e with e _;subst e;exact OF ao.toka h (ao.at_ b5).1 al kp
   ·rename_i bf;injection he with e _;exact absurd e bf
def Wa(c:bt):∀(k:Nat) (w:aZ),(rounds c k w).cur=w.cur
 |0,_=>rfl
 |k+1,w=>(Wa c k (w.round c)).trans VU
structure aBq (c:bt) (n:Nat) (x y:List cd) (s f g:aA) (kf mT bE:Int) (xf aN aY b3 bp cV df eb cG wm jr w7:aZ) (dr eF:List (List cd)):Prop where
 sub:aZ.new.call c 1 (λk=>k.sub 1 1 [])=(0,s,xf)
 aBr:rounds c (n+3) xf=aN
 aBs:aN.wk c 1 s=(3,0)
 aBt:aN.call c 0 (λk=>k.pO 0)=(0,f,aY)
 aBu:aY.kG c 0 f (λk=>k.rl f x)=(kf,b3)
 aBv:b3.kG c 0 f (λk=>k.tp f)=(0,bp)
 aBw:rounds c (n+3) bp=cV
 aBx:cV.wk c 0 f=(3,0)
 aBy:cV.call c 1 (λk=>k.pO 1)=(0,g,df)
 aBz:df.kG c 1 g (λk=>k.rl g y)=(mT,eb)
 aBA:eb.kG c 1 g (λk=>k.tp g)=(0,cG)
 aBB:rounds c (n+3) cG=wm
 aBC:∃d0 jX ij,(gZ wm 0).ag= [d0,jX,ij]/\jX.id=f/\ij.id=g
 aBD:wm.o5 c 1=(dr,0,jr)
 aBE:jr.o5 c 1=(eF,bE,w7)
 kO:kf=0->dr= [x]/\(mT=0->eF= [y])/\(mT≠0->eF= [])
 Ee:kf≠0->(mT=0->dr= [y])/\(mT≠0->dr= [])
 ca:lU c aZ.new 0
 Wb:∀k,lU c (rounds c k xf) 1
 ht:lU c aN 1
 wA:lU c aY 2
 AD:lU c b3 2
 JX:∀k,lU c (rounds c k bp) 2
 Hs:lU c cV 2
 Wc:lU c df 3
 i8:lU c eb 3
 kL:∀k,lU c (rounds c k cG) 3
 MG:lU c wm 3
 abx:lU c jr 3
 Wd:∀k,wm.cur k<=1000000
 aby:∀k,jr.cur k<=1000000
 aBF:dx s
 aBG:dx f
def aBH{ps:List Int}{a b:Nat}(a6:jn ps=true)(ey:ps.length<=6)(aj:a<ps.length)(aa:b<ps.length)(x y:List cd)(U:∀t,t∈x->k8 t.n)(hy:∀t,t∈y->k8 t.n){c:bt}(ao:c=⟨ps,[(a:Int),(b:Int)],60000⟩)(oY:jL c):
  ∃s f g kf mT bE xf aN aY b3 bp cV df eb cG wm jr w7 dr eF,aBq c ps.length x y s f g kf mT bE xf aN aY b3 bp cV df eb cG wm jr w7 dr eF:=by
 obtain⟨s,f,g,kf,mT,bE,xf,aN,aY,b3,bp,cV,df,eb,cG,wm,jr,w7,dr,eF,ae,ak,aM,bn,cb,abz,iZ,fs,tQ,E7,abA,abB,aBI,abC,aBJ,ny,aBK⟩:=ayr a6 ey aj aa x y U hy ao;have r5:c.room<=60000:=by rw[ao];exact bA _
 have ca:lU c aZ.new 0:=⟨_,af4 oY (eh af oY.afL)⟩;have aBL:lU c xf 1:=by
  obtain⟨l,k⟩:=ca;have:=afS oY k J 1 (f:=λk=>k.sub 1 1 []) (λb=>amf J (λt a6=>by cases a6) b);rw[ae]at this;exact⟨_,this⟩
 have Wb:∀k,lU c (rounds c k xf) 1:=λk=>lU.rounds oY.toka k aBL;have ht:lU c aN 1:=ak▸Wb (ps.length+3);have wA:lU c aY 2:=by obtain⟨l,k⟩:=ht;exact⟨_,YF oY k J 0 bn⟩
 have AD:lU c b3 2:=by obtain⟨l,k⟩:=wA;exact⟨_,YH oY k 0 f x U cb⟩
 have i50:lU c bp 2:=by obtain⟨l,k⟩:=AD;exact⟨_,YI oY k 0 f abz⟩
 have JX:∀k,lU c (rounds c k bp) 2:=λk=>lU.rounds oY.toka k i50;have Hs:lU c cV 2:=iZ▸JX (ps.length+3);have Wc:lU c df 3:=by obtain⟨l,k⟩:=Hs;exact⟨_,YF oY k J 1 tQ⟩
 have i8:lU c eb 3:=by obtain⟨l,k⟩:=Wc;exact⟨_,YH oY k 1 g y hy E7⟩
 have i90:lU c cG 3:=by obtain⟨l,k⟩:=i8;exact⟨_,YI oY k 1 g abA⟩
 have kL:∀k,lU c (rounds c k cG) 3:=λk=>lU.rounds oY.toka k i90;have MG:lU c wm 3:=abB▸kL (ps.length+3);have aBM:wm.cur=aZ.new.cur:=by
  have q1:xf.cur=aZ.new.cur:=by have:=QO (c:=c) (w:=aZ.new) 1 (λk=>k.sub 1 1 []);rw[ae]at this;exact this
  have dP:aN.cur=aZ.new.cur:=by rw[<-ak,Wa];exact q1
  have fp:aY.cur=aZ.new.cur:=by have:=QO (c:=c) (w:=aN) 0 (λk=>k.pO 0);rw[bn]at this;exact this.trans dP
  have iw:b3.cur=aZ.new.cur:=by have:=Mx (c:=c) (w:=aY) 0 f (λk=>k.rl f x);rw[cb]at this;exact this.trans fp
  have ov:bp.cur=aZ.new.cur:=by have:=Mx (c:=c) (w:=b3) 0 f (λk=>k.tp f);rw[abz]at this;exact this.trans iw
  have xu:cV.cur=aZ.new.cur:=by rw[<-iZ,Wa];exact ov
  have DJ:df.cur=aZ.new.cur:=by have:=QO (c:=c) (w:=cV) 1 (λk=>k.pO 1);rw[tQ]at this;exact this.trans xu
  have aiy:eb.cur=aZ.new.cur:=by have:=Mx (c:=c) (w:=df) 1 g (λk=>k.rl g y);rw[E7]at this;exact this.trans DJ
  have Z1:cG.cur=aZ.new.cur:=by have:=Mx (c:=c) (w:=eb) 1 g (λk=>k.tp g);rw[abA]at this;exact this.trans aiy
  rw[<-abB,Wa];exact Z1
 have Wd:∀k,wm.cur k<=1000000:=λk=>by rw[aBM];exact hX _
 have abx:lU c jr 3:=by obtain⟨l,k⟩:=MG;have:=ame k 1;rw[abC]at this;exact⟨_,this⟩
 have aby:∀k,jr.cur k<=1000000:=by obtain⟨l,k⟩:=MG;have:=az5 oY k r5 Wd 1;rw[abC]at this;exact this
 exact⟨s,f,g,kf,mT,bE,xf,aN,aY,b3,bp,cV,df,eb,cG,wm,jr,w7,dr,eF,ae,ak,aM,bn,cb,abz,iZ,fs,tQ,E7,abA,abB,aBI,abC,aBJ,ny,aBK,ca,Wb,ht,wA,AD,JX,Hs,Wc,i8,kL,MG,abx,Wd,aby,amT oY ca J ae,amT oY ht J bn⟩
def aBN{n a b:Nat}(aj:a<n)(aa:b<n):zx n [(a:Int),(b:Int)]=true:=by
 unfold zx;simp;omega
set_option maxHeartbeats 8000000 in
theorem aC9 {w:aC}{cD JK mN:bk}{eL fw amU hM p9 nd:Nat}{ps:List Int}{xs ys:List cd} (a b:Int) (cy:a1 w 1 dD cD eL fw ps) (bU:a1 w 4 cd.cs JK amU hM xs) (p8:a1 w 4 cd.cs mN p9 nd ys) (We:∀t,t∈xs->k8 t.n) (Wf:∀t,t∈ys->k8 t.n):
  aR 4 #[aq cD eL fw,a,b,aq JK amU hM,aq mN p9 nd] w (cM (.bool true) w):=by
 obtain rfl:=cy.neq;obtain rfl:=bU.neq;obtain rfl:=p8.neq;replace cy:=I cy;replace bU:=I bU;replace p8:=I p8;replace We:=I We;replace Wf:=I Wf;go_enter func4,ntmps4;go_wp2_with fail;refine aBj.mono ?_;rintro e w1⟨rfl,bx⟩;replace bx:=I bx;by_cases a0:a<0
 ·have d0:decide (a<0)=true:=mS a0;go_wp2_with fail;go_ret;exact⟨rfl,X⟩
 have d0:decide (a<0)=false:=lo a0;by_cases b0:b<0
 ·have jX:decide (b<0)=true:=mS b0;go_wp2_with fail;go_ret;exact⟨rfl,X⟩
 have jX:decide (b<0)=false:=lo b0;by_cases cL:(ps.length:Int)<=a
 ·have ij:decide ((ps.length:Int)<=a)=true:=mS cL;go_wp2_with fail;go_ret;exact⟨rfl,X⟩
 have ij:decide ((ps.length:Int)<=a)=false:=lo cL;by_cases bd:(ps.length:Int)<=b
 ·have d3:decide ((ps.length:Int)<=b)=true:=mS bd;go_wp2_with fail;go_ret;exact⟨rfl,X⟩
 have d3:decide ((ps.length:Int)<=b)=false:=lo bd;go_wp2_with fail;have bn:Own (w1.alloc (.cells #[ar] 3)) w1 3 1 dD (some (w1,0)) 1 1 [0]:=Own.lit rfl dD.rM rfl rfl af;refine(aBk (cy.ext X) bn.aF).mono ?_;rintro e aN⟨HB,rfl,cj,bu⟩;have bz:Hid (Z w1 aN):=Z.trans X cj;clear cj bn;cases HB with
 |false=>
  clear bu;go_wp2_with fail;go_ret;exact⟨rfl,X⟩
 |true=>
  obtain⟨a6,_,ey,_⟩:=bu rfl;clear bu;by_cases abD:(16:Int)<(xs.length:Int)
  ·have d4:decide ((16:Int)<(xs.length:Int))=true:=mS abD;go_wp2_with fail;go_ret;exact⟨rfl,X⟩
  have d4:decide ((16:Int)<(xs.length:Int))=false:=lo abD;by_cases abE:(16:Int)<(ys.length:Int)
  ·have d5:decide ((16:Int)<(ys.length:Int))=true:=mS abE;go_wp2_with fail;go_ret;exact⟨rfl,X⟩
  have d5:decide ((16:Int)<(ys.length:Int))=false:=lo abE;obtain⟨ek,rfl⟩:∃ek:Nat,a=(ek:Int):=⟨a.toNat,J⟩;obtain⟨cA,rfl⟩:∃cA:Nat,b=(cA:Int):=⟨b.toNat,J⟩;have amV:ek<ps.length:=J;have pH:cA<ps.length:=J;go_wp2_with fail;clear d0 jX ij d3 d4 d5 a0 cL b0 bd abD abE;have JB:=aBN amV pH;have cb:Own (aN.alloc (.cells #[(ek:Int),(cA:Int)] 3)) aN 3 1 dD (some (aN,0)) 2 2 [(ek:Int),(cA:Int)]:=Own.lit rfl dD.rM rfl rfl af;have JJ:=aaM (room:=60000) (cy.ext X) cb.aF a6 J (by show 2<=32;decide) af af;rw[show((60000:Nat):Int)=60000 from rfl]at JJ;refine JJ.mono ?_;clear JJ;rintro e cY⟨ae,_⟩;obtain⟨P,M,F,rfl,fa,gH,ho⟩:=ae JB;have abF:Z w (aN.alloc (.cells #[(ek:Int),(cA:Int)] 3)):=X;have cn:=amn (room:=60000) a6 JB af af;obtain⟨c,ao⟩:∃c:bt,c=⟨ps,[(ek:Int),(cA:Int)],60000⟩:=⟨_,rfl⟩;rw[<-ao]at fa cn;have yS:c.room<=60000:=by rw[ao];exact bA _
  have kr:0<c.ps.length:=cn.toka.n0;obtain⟨s,f,g,kf,mT,bE,xf,z2,z3,_,z5,_,_,_,z9,_,_,_,_,_,ba⟩:=aBH a6 ey amV pH xs ys We Wf ao cn;replace ba:=I ba;replace cn:=I cn;replace yS:=I yS;replace kr:=I kr;have av:Hid (Dj w cY M F c P aZ.new):=⟨fa,abF.trans gH,λx k=>eh abF.size (ho x k)⟩;clear ae fa gH ho abF bx bz cb JB ao;go_wp2_with fail;obtain⟨sS,aO⟩:=ba.ca;have h6:=alR av.st cn aO J 1 1 af none 0 0 [] (a1.nil _ T.bH) af (λt a6=>by cases a6);rw[show((1:Nat):Int)=1 from rfl,ba.sub]at h6;refine h6.mono ?_;clear h6 aO;rintro e cY⟨M,F,rfl,gq,hq⟩;replace av:=I (av.lu gq hq);clear gq hq;go_upto_region 11 with (fail);have nv:Z cY (cY.alloc s):=X;have r6:(cY.alloc s).heap[(cY:Nat)]?=some (s:Obj):=fi rfl;obtain⟨wr,vZ⟩:∃wr,cY.alloc s=wr:=⟨_,rfl⟩;rw[vZ]at nv r6;rw[vZ];clear vZ;have eo:sU M wr cY s:=sU.new r6 (λk=>by have:=av.st.cx _ k;omega);replace av:=I (av.pB nv);obtain⟨rn,br⟩:∃B,(cY:Nat)=B:=⟨_,rfl⟩;rw[br]at eo r6;rw[br];clear br;replace eo:=I eo;clear r6 nv;go_wp2_with fail;go_loopg [17] (ps.length+3) (λs8 dN wr=>∃(k:Nat) (M F:ff),s8+k=ps.length+3/\dN=.int .i64 (k:Int)/\Hid (Dj w wr M F c P (rounds c k xf))/\Hid (sU M wr rn s));case atStart=>exact⟨0,_,_,J,rfl,av,eo⟩
  case round=>
   clear av eo;obtain⟨k,M,F,bu,rfl,av,eo⟩:=hrel;by_cases hk:k<ps.length+3
   ·have gn:(k:Int)<(ps.length:Int)+3:=J;go_wp2_with fail;obtain⟨sS,aO⟩:=ba.Wb k;refine(VD av.st cn aO yS).mono ?_;clear aO;rintro e cY⟨E1,te,rfl,gq,hq⟩;have aBO:=I (eo.lu av.st.sub hq);have lD:=I (av.lu gq hq);clear gq hq;go_wp2_with fail;go_roundg (gk - 1);case measure=>omega
    case rel=>exact⟨k+1,E1,te,J,by go_num,(by rw[abw];exact lD),aBO⟩
   obtain rfl:k=ps.length+3:=J;rw[ba.aBr]at av;clear hk bu;obtain⟨dc,fL,dS⟩:=iE eo.dQ;go_wp2_with fail;obtain⟨sS,aO⟩:=ba.ht;have h6:=alY av.st cn aO 1 s ba.aBF;rw[ba.aBs]at h6;refine h6.mono ?_;clear h6 aO dc fL dS;rintro e cY⟨rfl,U⟩;try dsimp only
   replace eo:=I (eo.pB U);replace av:=I (av.pB U);clear U;go_wp2_with fail;obtain⟨sS,aO⟩:=ba.ht;have h6:=aaj av.st cn aO J 0;rw[ba.aBt]at h6;refine h6.mono ?_;clear h6 aO;rintro e cY⟨M,F,rfl,gq,hq⟩;replace eo:=I (eo.lu av.st.sub hq);replace av:=I (av.lu gq hq);clear gq hq;go_upto_region 17 with (fail);have nv:Z cY (cY.alloc f):=X;have r6:(cY.alloc f).heap[(cY:Nat)]?=some (f:Obj):=fi rfl;obtain⟨wr,vZ⟩:∃wr,cY.alloc f=wr:=⟨_,rfl⟩;rw[vZ]at nv r6;rw[vZ];clear vZ;have dB:sU M wr cY f:=sU.new r6 (λk=>by have:=av.st.cx _ k;omega);replace av:=I (av.pB nv);obtain⟨wi,br⟩:∃B,(cY:Nat)=B:=⟨_,rfl⟩;rw[br]at dB r6;rw[br];clear br;replace dB:=I dB;clear r6 nv;clear eo;obtain⟨dc,fL,dS⟩:=iE dB.dQ;go_wp2_with fail;obtain⟨sS,aO⟩:=ba.wA;have h6:=aar av.st cn aO 0 f JK xs.length hM xs (bU.ext av.ext) We;rw[ba.aBu]at h6;refine h6.mono ?_;clear h6 aO;rintro e cY⟨M,F,rfl,gq,hq⟩;replace dB:=I (dB.lu av.st.sub hq);replace av:=I (av.lu gq hq);clear gq hq dc fL dS;obtain⟨dc,fL,dS⟩:=iE dB.dQ;go_wp2_with fail;obtain⟨sS,aO⟩:=ba.AD;have h6:=aaq av.st cn aO 0 f;rw[ba.aBv]at h6;refine h6.mono ?_;clear h6 aO;rintro e cY⟨M,F,rfl,gq,hq⟩;replace dB:=I (dB.lu av.st.sub hq);replace av:=I (av.lu gq hq);clear gq hq dc fL dS;go_wp2_with fail;go_loopg [24] (ps.length+3) (λs8 dN wr=>∃(k:Nat) (M F:ff),s8+k=ps.length+3/\dN=.int .i64 (k:Int)/\Hid (Dj w wr M F c P (rounds c k z5))/\Hid (sU M wr wi f));case atStart=>exact⟨0,_,_,J,rfl,av,dB⟩
   case round=>
    clear av dB;obtain⟨k,M,F,bu,rfl,av,dB⟩:=hrel;by_cases hk:k<ps.length+3
    ·have gn:(k:Int)<(ps.length:Int)+3:=J;go_wp2_with fail;obtain⟨sS,aO⟩:=ba.JX k;refine(VD av.st cn aO yS).mono ?_;clear aO;rintro e cY⟨E1,te,rfl,gq,hq⟩;have abG:=I (dB.lu av.st.sub hq);have lD:=I (av.lu gq hq);clear gq hq;go_wp2_with fail;go_roundg (gk - 1);case measure=>omega
     case rel=>exact⟨k+1,E1,te,J,by go_num,(by rw[abw];exact lD),abG⟩
    obtain rfl:k=ps.length+3:=J;rw[ba.aBw]at av;clear hk bu;obtain⟨dc,fL,dS⟩:=iE dB.dQ;go_wp2_with fail;obtain⟨sS,aO⟩:=ba.Hs;have h6:=alY av.st cn aO 0 f ba.aBG;rw[ba.aBx]at h6;refine h6.mono ?_;clear h6 aO dc fL dS;rintro e cY⟨rfl,U⟩;try dsimp only
    replace dB:=I (dB.pB U);replace av:=I (av.pB U);clear U;go_wp2_with fail;obtain⟨sS,aO⟩:=ba.Hs;have h6:=aaj av.st cn aO J 1;rw[ba.aBy]at h6;refine h6.mono ?_;clear h6 aO;rintro e cY⟨M,F,rfl,gq,hq⟩;replace dB:=I (dB.lu av.st.sub hq);replace av:=I (av.lu gq hq);clear gq hq;go_upto_region 25 with (fail);have nv:Z cY (cY.alloc g):=X;have r6:(cY.alloc g).heap[(cY:Nat)]?=some (g:Obj):=fi rfl;obtain⟨wr,vZ⟩:∃wr,cY.alloc g=wr:=⟨_,rfl⟩;rw[vZ]at nv r6;rw[vZ];clear vZ;have ej:sU M wr cY g:=sU.new r6 (λk=>by have:=av.st.cx _ k;omega);replace av:=I (av.pB nv);obtain⟨KD,br⟩:∃B,(cY:Nat)=B:=⟨_,rfl⟩;rw[br]at ej r6;rw[br];clear br;have aBP:=nv;replace ej:=I ej;clear r6 nv;replace dB:=I (dB.pB aBP);obtain⟨dc,fL,dS⟩:=iE ej.dQ;go_wp2_with fail;obtain⟨sS,aO⟩:=ba.Wc;have h6:=aar av.st cn aO 1 g mN ys.length nd ys (p8.ext av.ext) Wf;rw[ba.aBz]at h6;refine h6.mono ?_;clear h6 aO;rintro e cY⟨M,F,rfl,gq,hq⟩;replace dB:=I (dB.lu av.st.sub hq);replace ej:=I (ej.lu av.st.sub hq);replace av:=I (av.lu gq hq);clear gq hq dc fL dS;obtain⟨dc,fL,dS⟩:=iE ej.dQ;go_wp2_with fail;obtain⟨sS,aO⟩:=ba.i8;have h6:=aaq av.st cn aO 1 g;rw[ba.aBA]at h6;refine h6.mono ?_;clear h6 aO;rintro e cY⟨M,F,rfl,gq,hq⟩;replace dB:=I (dB.lu av.st.sub hq);replace ej:=I (ej.lu av.st.sub hq);replace av:=I (av.lu gq hq);clear gq hq dc fL dS;go_wp2_with fail;go_loopg [31] (ps.length+3) (λs8 dN wr=>∃(k:Nat) (M F:ff),s8+k=ps.length+3/\dN=.int .i64 (k:Int)/\Hid (Dj w wr M F c P (rounds c k z9))/\Hid (sU M wr wi f)/\Hid (sU M wr KD g));case atStart=>exact⟨0,_,_,J,rfl,av,dB,ej⟩
    case round=>
     clear av dB ej;obtain⟨k,M,F,bu,rfl,av,dB,ej⟩:=hrel;by_cases hk:k<ps.length+3
     ·have gn:(k:Int)<(ps.length:Int)+3:=J;go_wp2_with fail;obtain⟨sS,aO⟩:=ba.kL k;refine(VD av.st cn aO yS).mono ?_;clear aO;rintro e cY⟨E1,te,rfl,gq,hq⟩;have abG:=I (dB.lu av.st.sub hq);have aBQ:=I (ej.lu av.st.sub hq);have lD:=I (av.lu gq hq);clear gq hq;go_wp2_with fail;go_roundg (gk - 1);case measure=>omega
      case rel=>exact⟨k+1,E1,te,J,by go_num,(by rw[abw];exact lD),abG,aBQ⟩
     obtain rfl:k=ps.length+3:=J;rw[ba.aBB]at av;clear hk bu;go_wp2_with fail;obtain⟨sS,aO⟩:=ba.MG;have h6:=aaD av.st cn aO yS (n:=0) kr;rw[show((0:Nat):Int)=0 from rfl]at h6;refine h6.mono ?_;clear h6 aO;rintro e cY⟨cu,_,_,rfl,ec,U⟩;replace dB:=I (dB.pB U);replace ej:=I (ej.pB U);replace av:=I (av.pB U);obtain⟨_,_,_,aT,e4,BD⟩:=ba.aBC;have B5:=ec.j9;rw[aT]at B5;have JL:=ec.l;clear ec U aT;obtain⟨dV,_,rfl,_,B5⟩:=List.map_eq_cons_iff.1 B5;obtain⟨bS,_,rfl,ae,B5⟩:=List.map_eq_cons_iff.1 B5;obtain⟨abH,_,rfl,ak,B5⟩:=List.map_eq_cons_iff.1 B5;obtain rfl:=HY.1 B5;obtain⟨cO,⟨_,ei,lc⟩,⟨sa,kU,nX⟩,⟨ha,h2,gG⟩⟩:=cu;try dsimp only at JL
     obtain rfl:ei=3:=JL.cg.neq;have i1:bS.x.id=f:=by rw[(JL.ct bS (by simp)).id,ae,e4]
     have ht:abH.x.id=g:=by rw[(JL.ct abH (by simp)).id,ak,BD]
     obtain⟨b,o,rfl,c1⟩:=JL.cg.aF.get 1 (by show 1<3;omega);obtain⟨_,_,aBR,c2⟩:=JL.cg.aF.get 2 (by show 2<3;omega);cases aBR;obtain⟨_,cP,cQ,dd,_⟩:=aip (b:=b) (x:=bS.x) c1;obtain⟨_,cU,z2,z3,_⟩:=aip (b:=b) (x:=abH.x) c2;rw[i1]at cP cQ dd;rw[ht]at cU z2 z3;clear c1 c2 JL i1 ht ae ak e4 BD B5;have aaG:∀w:aC,(Instr.field 44 (.agg #[ad cO,.slice (some ⟨b,o,none⟩) 3 lc,aq sa kU nX,aq ha h2 gG]) 1).run prog w=.ok (.slice (some ⟨b,o,none⟩) 3 lc) w:=λ_=>by kernel_rfl
     go_upto_region 33 with (fail);obtain⟨dc,fL,dS⟩:=iE dB.dQ;obtain⟨eI,bQ,bY⟩:=iE ej.dQ;have q1:=amR f.b f.l f.s f.b f.l f.s;have dP:=amR g.b g.l g.s g.b g.l g.s;rw[show cf ⟨f.b,f.l,f.s⟩ ⟨f.b,f.l,f.s⟩=true from acE.2 rfl]at q1;rw[show cf ⟨g.b,g.l,g.s⟩ ⟨g.b,g.l,g.s⟩=true from acE.2 rfl]at dP;clear aaG;go_quiet (fail);have O6:Z cY (cY.drewN nq):=X;replace av:=I (av.pB O6);obtain⟨wn,LN⟩:∃wn,cY.drewN nq=wn:=⟨_,rfl⟩;rw[LN]at av;rw[LN];clear O6 LN;clear dc fL dS eI bQ bY q1 dP cP cQ dd cU z2 z3;go_wp2_with fail;obtain⟨sS,aO⟩:=ba.MG;have h6:=aav av.st cn aO yS ba.Wd 1;rw[ba.aBD]at h6;refine h6.mono ?_;clear h6 aO;rintro e wp⟨c0,hl,jv,rv,M,F,rfl,l7,uV,ve,gq,hq,La⟩;try dsimp only at ve
     replace av:=I (av.lu gq hq);replace l7:=I l7;replace uV:=I uV;replace ve:=I ve;replace La:=I La;clear gq hq;by_cases xG:kf=0
     ·subst xG;go_wp2_with fail;obtain⟨_,aO⟩:=ba.abx;have h6:=aav av.st cn aO yS ba.aby 1;rw[ba.aBE]at h6;refine h6.mono ?_;clear h6 aO;rintro e wr⟨aBS,amW,aBT,amX,_,_,rfl,Q7,amY,Q8,VC,rK,_⟩;try dsimp only at Q8
      have kg:xp wr c0 hl jv rv:=⟨(rK.dT.bI l7 (λai aj k=>(La _ k).elim (λz=>by have:=(l7.lt ai aj).1;omega) (λz=>z ai (.inl aj) rfl))).aF,λy hy=>(rK.dT.bI (uV y hy) (λai aj k=>(La _ k).elim (λz=>by have:=((uV y hy).lt ai aj).1;omega) (λz=>z ai (.inr ⟨y,hy,aj⟩) rfl))).aF⟩;have Wg:xp wr aBS amW aBT amX:=⟨Q7.aF,λy hy=>(amY y hy).aF⟩;obtain⟨Kz,de,h9⟩:=ba.kO rfl;replace de:=I de;replace h9:=I h9;have QN:=I (av.lu VC rK).ext;replace kg:=I kg;replace Wg:=I Wg;replace Q8:=I Q8;clear VC rK Q7 amY;go_wp2_with fail;have Hl:Own (wr.alloc (.cells #[aq JK xs.length hM] 34)) wr 34 1 eJ.cs (some (wr,0)) 1 1 [⟨⟨JK,xs.length,hM⟩,xs⟩]:=Own.lit rfl eJ.bH rfl rfl af;have Hm:Z w (wr.alloc (.cells #[aq JK xs.length hM] 34)):=X;refine(aaI _ _ _ _ _ _ rv [⟨⟨JK,xs.length,hM⟩,xs⟩] _ (kg.ext X) ⟨Hl.aF,λy hy=>by obtain rfl:=iH.1 hy;exact bU.ext Hm⟩ (by rw[ve.out,Kz];rfl)).mono ?_;rintro e e0⟨rfl,amZ⟩;have aDa:Hid (Z wr e0):=Z.trans X amZ;clear amZ Hl Hm;by_cases De:mT=0
      ·subst De;go_wp2_with fail;have Hl:Own (e0.alloc (.cells #[aq mN ys.length nd] 34)) e0 34 1 eJ.cs (some (e0,0)) 1 1 [⟨⟨mN,ys.length,nd⟩,ys⟩]:=Own.lit rfl eJ.bH rfl rfl af;have Hm:Z w (e0.alloc (.cells #[aq mN ys.length nd] 34)):=X;refine(aaI _ _ _ _ _ _ amX [⟨⟨mN,ys.length,nd⟩,ys⟩] _ (Wg.ext X) ⟨Hl.aF,λy hy=>by obtain rfl:=iH.1 hy;exact p8.ext Hm⟩ (by rw[Q8.out,de.out (by trivial)];rfl)).mono ?_;rintro e abI⟨rfl,Q9⟩;have aBU:Hid (Z e0 abI):=Z.trans X Q9;clear Q9 Hl Hm;go_wp2_with fail;go_ret;exact⟨rfl,X⟩
      ·have abJ:=Q8.out;rw[h9.out De]at abJ;obtain rfl:=HY.1 abJ;obtain rfl:amW=0:=Wg.aF.neq;clear abJ;go_wp2_with fail;go_ret;exact⟨(by show Ending.returned (.bool (mT !=0))=_;rw[bne_iff_ne.2 De]),X⟩
     obtain⟨de,h9⟩:=ba.Ee xG;replace de:=I de;replace h9:=I h9;have kg:Hid (xp wp c0 hl jv rv):=⟨l7.aF,λy hy=>(uV y hy).aF⟩;have QN:=I av.ext;by_cases De:mT=0
     ·subst De;go_wp2_with fail;have Hl:Own (wp.alloc (.cells #[aq mN ys.length nd] 34)) wp 34 1 eJ.cs (some (wp,0)) 1 1 [⟨⟨mN,ys.length,nd⟩,ys⟩]:=Own.lit rfl eJ.bH rfl rfl af;have Hm:Z w (wp.alloc (.cells #[aq mN ys.length nd] 34)):=X;refine(aaI _ _ _ _ _ _ rv [⟨⟨mN,ys.length,nd⟩,ys⟩] _ (kg.ext X) ⟨Hl.aF,λy hy=>by obtain rfl:=iH.1 hy;exact p8.ext Hm⟩ (by rw[ve.out,de.out (by trivial)];rfl)).mono ?_;rintro e abI⟨rfl,Q9⟩;have aBU:Hid (Z wp abI):=Z.trans X Q9;clear Q9 Hl Hm;go_wp2_with fail;go_ret;exact⟨rfl,X⟩
     have hm:=ve.out;rw[h9.out De]at hm;obtain rfl:=HY.1 hm;obtain rfl:hl=0:=kg.aF.neq;clear hm;go_wp2_with fail;go_ret;exact⟨rfl,X⟩
end Go.Proofs.YtfiiblnenhdlhaaGreat
