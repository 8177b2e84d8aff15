/- Contracts of functions of the program, and what proves them (texts: EP4 EP2b EP3 EZ0 EY1 EY2 EY3 EY4). -/
import Derived.KernelRfl
import Derived.Test.YtaidcaemdkncgaaGreatDoorZAM
import Derived.Test.YtaidcaemdkncgaaGreatDoorZFinSeriesAB
import Derived.Test.YtaidcaemdkncgaaGreatDoorZFinSeriesAC
import Derived.Test.YtaidcaemdkncgaaGreatDoorZFinSeriesAD
import Derived.Test.YtaidcaemdkncgaaGreatDoorZFinSeriesAE
set_option linter.all false
set_option maxRecDepth 100000
set_option maxHeartbeats 8000000
namespace Go.Proofs.YtaidcaemdkncgaaGreatDoor
section
open Go Go.Lg Go.Num
attribute [local irreducible] lrun lwp exThen exBlk keep goodPost ec pt gn od jU sg mg
def cpE (k T:Int) (n1 c1 n2 c2:Nat) (b1 b2:Bool):Int:=if c1≠n1∨c2≠n2 then 3 else if(b1==b2)=decide (k % 2=0)then(if T<1∨1000<T then 2 else if k=2∧n1=1∧n2=1∧T=1 then 20 else 0)else 16
theorem aRr {n1 o1 c1 n2 o2 c2:Nat}{v1 v2:List Int}{b1 b2:Bool}{ix1 ix2:Nat→Option Nat}{k T:Int}(h1:SeD n1 v1 o1 c1 b1 ix1) (h2:SeD n2 v2 o2 c2 b2 ix2) (hk:2≤k∧k≤40):PureGood Tryz.prog 81 [i64 k,.agg [i64 n1,.sl v1.length (ec v1),i64 n2,.sl v2.length (ec v2),i64 T]] (i64 (cpE k T n1 c1 n2 c2 b1 b2)):=by
 have gk1:=h1.chP
 have gk2:=h2.chP
 have gc1:=h1.coP
 have gc2:=h2.coP
 have ge1:=h1.evP
 have ge2:=h2.evP
 have hn1:=h1.n2
 have hn2:=h2.n2
 have hc1:=h1.c2
 have hc2:=h2.c2
 clear h1 h2
 generalize ec v1=x1 at*
 generalize ec v2=x2 at*
 generalize v1.length=w1 at*
 generalize v2.length=w2 at*
 obtain⟨r,hr⟩:∃ r,r=cpE k T n1 c1 n2 c2 b1 b2:=⟨_,rfl⟩
 rw[← hr]
 unfold cpE at hr
 simp only[i64,bl]at*
 refine aA bC Tryz.func81 rfl (by decide) (nt:=102) rfl (rs:=[.tmp 4]) rfl (aZ rfl) ?_
 refine zA5 ?_
 refine aI (α:={i:Nat // i≤2∧(1≤i→c1=n1)∧(2≤i→c2=n2)}) (fun i=>st 102 (lk [(0,.lit (.int .i64 k)),(3,.ptr 0 0),(37,.own 1 0 2 2),(38,.lit (.int .i64 2)),(39,.lit (.int .i64 i.1))]) (cP [(0,⟨58,[.lit (.int .i64 n1),.sl w1 x1,.lit (.int .i64 n2),.sl w2 x2,.lit (.int .i64 T)],false⟩),(1,⟨25,[.lit (.int .i64 n1),.sl w1 x1,.lit (.int .i64 n2),.sl w2 x2],false⟩)]) 2) (fun i=>2-i.1) ⟨0,by omega,by omega,by omega⟩ ?_ ?_
 ·(refine Sub.heapL [0,24] rfl (by decide) ?_ (by simp only[fB];decide) ?_ ?_;all_goals(first|(simp only[aB,aG,dg,renL,renLs,simprocAttr,bl,i64,smE,bV,undef];done) |(simp only[aG,dg,renL,renLs,simprocAttr,bl,i64,smE,bV,undef];(repeat' apply And.intro);all_goals rfl) |(simp only[aG,dg,renL,renLs,simprocAttr,bl,i64,smE,bV,undef]) |skip))
  all_goals(first |done |exact⟨trivial,rfl⟩ |((repeat' apply And.intro);all_goals(first |trivial |rfl)))
 ·rintro⟨i,hi,hA,hB⟩
  simp only[st]
  have hi3:i=0∨i=1∨i=2:=by omega
  rcases hi3 with rfl |rfl |rfl
  ·by_cases hc:(c1:Int)=n1
   ·
    skip
    refine zA5 ?_
    refine⟨⟨1,by omega,fun _=>by omega,by omega⟩,?_,by simp only;omega⟩
    (refine Sub.heapL [0,1] rfl (by decide) ?_ (by simp only[fB];decide) ?_ ?_;all_goals(first|(simp only[aB,aG,dg,renL,renLs,simprocAttr,bl,i64,smE,bV,undef];done) |(simp only[aG,dg,renL,renLs,simprocAttr,bl,i64,smE,bV,undef];(repeat' apply And.intro);all_goals rfl) |(simp only[aG,dg,renL,renLs,simprocAttr,bl,i64,smE,bV,undef]) |skip))
    all_goals(first |done |trace_state)
   ·have hr:r=3:=by rw[hr,if_pos (.inl (by omega))]
    subst hr
    refine aCe hc ?_
    exact aF7 hc
  ·by_cases hc:(c2:Int)=n2
   ·have hA:=hA (by omega)
    refine aCe hc ?_
    refine⟨⟨2,by omega,fun _=>hA,fun _=>by omega⟩,?_,by simp only;omega⟩
    (refine Sub.heapL [0,1] rfl (by decide) ?_ (by simp only[fB];decide) ?_ ?_;all_goals(first|(simp only[aB,aG,dg,renL,renLs,simprocAttr,bl,i64,smE,bV,undef,hc];done) |(simp only[aG,dg,renL,renLs,simprocAttr,bl,i64,smE,bV,undef,hc];(repeat' apply And.intro);all_goals rfl) |(simp only[aG,dg,renL,renLs,simprocAttr,bl,i64,smE,bV,undef,hc]) |skip))
    all_goals(first |done |trace_state)
   ·have hr:r=3:=by rw[hr,if_pos (.inr (by omega))]
    subst hr
    refine aCe hc ?_
    exact aF7 hc
  ·have hA:=hA (by omega)
   have hB:=hB (by omega)
   rw[if_neg (by omega)]at hr
   have hkz:(k % 2==0)=decide (k % 2=0):=by
    by_cases h:k % 2=0
    ·rw[beq_iff_eq.2 h,decide_eq_true h]
    ·rw[beq_eq_false_iff_ne.2 h,decide_eq_false h]
   by_cases hp:(b1==b2)=decide (k % 2=0)
   ·rw[if_pos hp]at hr
    have hx:((b1==b2) !=(k % 2==0))=false:=by rw[hkz,hp,bne_self_eq_false]
    by_cases hT:T<1∨1000<T
    ·rw[if_pos hT]at hr
     subst hr
     rcases hT with hT |hT
     ·skip
      refine aCe hx ?_
      exact aF7 hx
     ·skip
      refine aCe hx ?_
      exact aF7 hx
    ·rw[if_neg hT]at hr
     by_cases e1:k=2
     ·have hbt:(b1==b2)=true:=by rw[hp,e1];rfl
      by_cases e2:(n1:Int)=1
      ·rw[e2]at ge1
       by_cases e3:(n2:Int)=1
       ·rw[e3]at ge2
        by_cases e4:T=1
        ·rw[if_pos ⟨e1,by omega,by omega,e4⟩]at hr
         subst hr
         (repeat(first|apply zO (by decide+kernel)|apply zP (by decide+kernel)|(apply zS;(case h=>constructor<;>decide))|((first|apply cD rfl|apply aR|apply zT rfl (by decide) rfl);(case hs=>(simp(disch:=first|omega|exact kD rfl|exact kX rfl) only[smY,simprocAttr,bl,i64,smE,bV,undef,hbt,e1,e2,e3,e4];exact rfl));first|refine cB ?_|refine cC ?_|refine zq ?_|(case hg=>assumption))))
         ((first|apply dG|apply dI);case hres=>(simp only[iC];simp(disch:=first|omega|exact kD rfl|exact kX rfl) only[smY,simprocAttr,bl,i64,smE,bV,undef,hbt,e1,e2,e3,e4];exact rfl))
         simp(disch:=first|omega|exact kD rfl|exact kX rfl) only[smY,simprocAttr,bl,i64,smE,bV,undef,hbt,e1,e2,e3,e4]
        ·rw[if_neg (by omega)]at hr
         subst hr
         (repeat(first|apply zO (by decide+kernel)|apply zP (by decide+kernel)|(apply zS;(case h=>constructor<;>decide))|((first|apply cD rfl|apply aR|apply zT rfl (by decide) rfl);(case hs=>(simp(disch:=first|omega|exact kD rfl|exact kX rfl) only[smY,simprocAttr,bl,i64,smE,bV,undef,hbt,e1,e2,e3,e4];exact rfl));first|refine cB ?_|refine cC ?_|refine zq ?_|(case hg=>assumption))))
         ((first|apply dG|apply dI);case hres=>(simp only[iC];simp(disch:=first|omega|exact kD rfl|exact kX rfl) only[smY,simprocAttr,bl,i64,smE,bV,undef,hbt,e1,e2,e3,e4];exact rfl))
         simp(disch:=first|omega|exact kD rfl|exact kX rfl) only[smY,simprocAttr,bl,i64,smE,bV,undef,hbt,e1,e2,e3,e4]
       ·rw[if_neg (by omega)]at hr
        subst hr
        (repeat(first|apply zO (by decide+kernel)|apply zP (by decide+kernel)|(apply zS;(case h=>constructor<;>decide))|((first|apply cD rfl|apply aR|apply zT rfl (by decide) rfl);(case hs=>(simp(disch:=first|omega|exact kD rfl|exact kX rfl) only[smY,simprocAttr,bl,i64,smE,bV,undef,hbt,e1,e2,e3];exact rfl));first|refine cB ?_|refine cC ?_|refine zq ?_|(case hg=>assumption))))
        ((first|apply dG|apply dI);case hres=>(simp only[iC];simp(disch:=first|omega|exact kD rfl|exact kX rfl) only[smY,simprocAttr,bl,i64,smE,bV,undef,hbt,e1,e2,e3];exact rfl))
        simp(disch:=first|omega|exact kD rfl|exact kX rfl) only[smY,simprocAttr,bl,i64,smE,bV,undef,hbt,e1,e2,e3]
      ·rw[if_neg (by omega)]at hr
       subst hr
       (repeat(first|apply zO (by decide+kernel)|apply zP (by decide+kernel)|(apply zS;(case h=>constructor<;>decide))|((first|apply cD rfl|apply aR|apply zT rfl (by decide) rfl);(case hs=>(simp(disch:=first|omega|exact kD rfl|exact kX rfl) only[smY,simprocAttr,bl,i64,smE,bV,undef,hbt,e1,e2];exact rfl));first|refine cB ?_|refine cC ?_|refine zq ?_|(case hg=>assumption))))
       ((first|apply dG|apply dI);case hres=>(simp only[iC];simp(disch:=first|omega|exact kD rfl|exact kX rfl) only[smY,simprocAttr,bl,i64,smE,bV,undef,hbt,e1,e2];exact rfl))
       simp(disch:=first|omega|exact kD rfl|exact kX rfl) only[smY,simprocAttr,bl,i64,smE,bV,undef,hbt,e1,e2]
     ·rw[if_neg (by omega)]at hr
      subst hr
      (repeat(first|apply zO (by decide+kernel)|apply zP (by decide+kernel)|(apply zS;(case h=>constructor<;>decide))|((first|apply cD rfl|apply aR|apply zT rfl (by decide) rfl);(case hs=>(simp(disch:=first|omega|exact kD rfl|exact kX rfl) only[smY,simprocAttr,bl,i64,smE,bV,undef,hx,e1];exact rfl));first|refine cB ?_|refine cC ?_|refine zq ?_|(case hg=>assumption))))
      ((first|apply dG|apply dI);case hres=>(simp only[iC];simp(disch:=first|omega|exact kD rfl|exact kX rfl) only[smY,simprocAttr,bl,i64,smE,bV,undef,hx,e1];exact rfl))
      simp(disch:=first|omega|exact kD rfl|exact kX rfl) only[smY,simprocAttr,bl,i64,smE,bV,undef,hx,e1]
   ·rw[if_neg hp]at hr
    subst hr
    have hx:((b1==b2) !=(k % 2==0))=true:=by
     rw[hkz]
     cases h:(b1==b2) <;>cases h':decide (k % 2=0) <;>simp_all
    refine aCe hx ?_
    exact aF7 hx
theorem aBj {k T m1 m2 e:Int}{l1 l2:List Int}(h:((k<2∨40<k)∧e=2)∨((2≤k∧k≤40)∧((¬e=0∧PureGood Tryz.prog 76 [.agg [i64 m1,.sl l1.length (ec l1)]] (i64 e))∨(PureGood Tryz.prog 76 [.agg [i64 m1,.sl l1.length (ec l1)]] (i64 0)∧¬e=0∧PureGood Tryz.prog 76 [.agg [i64 m2,.sl l2.length (ec l2)]] (i64 e))))):PureGood Tryz.prog 81 [i64 k,.agg [i64 m1,.sl l1.length (ec l1),i64 m2,.sl l2.length (ec l2),i64 T]] (i64 e):=by
 generalize ec l1=x1 at*
 generalize ec l2=x2 at*
 simp only[i64]at*
 rcases h with⟨hk |hk,rfl⟩ |⟨hk,⟨he,g⟩ |⟨g,he,g2⟩⟩
 ·refine aA bC Tryz.func81 rfl (by decide) (nt:=102) rfl (rs:=[.tmp 4]) rfl (aZ rfl) ?_
  refine zA5 ?_
  exact zQ2
 ·refine aA bC Tryz.func81 rfl (by decide) (nt:=102) rfl (rs:=[.tmp 4]) rfl (aZ rfl) ?_
  refine zA5 ?_
  exact zQ2
 ·refine aA bC Tryz.func81 rfl (by decide) (nt:=102) rfl (rs:=[.tmp 4]) rfl (aZ rfl) ?_
  refine zA5 ?_
  exact zQ2
 ·refine aA bC Tryz.func81 rfl (by decide) (nt:=102) rfl (rs:=[.tmp 4]) rfl (aZ rfl) ?_
  refine zA5 ?_
  exact zQ2
theorem oI {k T prec m1 m2 e:Int}{l1 l2:List Int}(he:¬e=0) (g:PureGood Tryz.prog 81 [i64 k,.agg [i64 m1,.sl l1.length (ec l1),i64 m2,.sl l2.length (ec l2),i64 T]] (i64 e)):PureGood Tryz.prog 26 [i64 k,.agg [i64 m1,.sl l1.length (ec l1),i64 m2,.sl l2.length (ec l2),i64 T],i64 prec] (eS e):=by
 unfold eS
 generalize ec l1=x1 at*
 generalize ec l2=x2 at*
 simp only[i64]at*
 refine aA bC Tryz.func26 rfl (by decide) (nt:=239) rfl (rs:=[.tmp 6,.tmp 7]) rfl (aZ rfl) ?_
 refine zA5 ?_
 exact zQ2
theorem aRs {k T prec m1 m2 m:Int}{l1 l2:List Int}{e:Nat}(he:1≤e∧e≤100) (g:PureGood Tryz.prog 81 [i64 k,.agg [i64 m1,.sl l1.length (ec l1),i64 m2,.sl l2.length (ec l2),i64 T]] (i64 0)) (go:PureGood Tryz.prog 82 [.agg [i64 m1,.sl l1.length (ec l1)],.agg [i64 m2,.sl l2.length (ec l2)]] (i64 m)) (gf:PureGood Tryz.prog 48 [i64 m] (.tup [.agg [.sl 0 []],i64 e])):PureGood Tryz.prog 26 [i64 k,.agg [i64 m1,.sl l1.length (ec l1),i64 m2,.sl l2.length (ec l2),i64 T],i64 prec] (eS 7):=by
 unfold eS
 generalize ec l1=x1 at*
 generalize ec l2=x2 at*
 simp only[i64]at*
 refine aA bC Tryz.func26 rfl (by decide) (nt:=239) rfl (rs:=[.tmp 6,.tmp 7]) rfl (aZ rfl) ?_
 refine zA5 ?_
 exact zQ2
theorem aXy {k T prec m1 m2 m:Int}{l1 l2:List Int}{W:List LV}{q:Nat}(hp:¬(0≤prec∧prec≤1000)) (hpr: -9223372036854775808≤prec∧prec≤9223372036854775807) (g:PureGood Tryz.prog 81 [i64 k,.agg [i64 m1,.sl l1.length (ec l1),i64 m2,.sl l2.length (ec l2),i64 T]] (i64 0)) (go:PureGood Tryz.prog 82 [.agg [i64 m1,.sl l1.length (ec l1)],.agg [i64 m2,.sl l2.length (ec l2)]] (i64 m)) (gf:PureGood Tryz.prog 48 [i64 m] (.tup [.agg [.sl q W],i64 0])):PureGood Tryz.prog 26 [i64 k,.agg [i64 m1,.sl l1.length (ec l1),i64 m2,.sl l2.length (ec l2),i64 T],i64 prec] (eS 2):=by
 have gin:=aCb prec hpr
 rw[nJ hp]at gin
 unfold eS
 generalize ec l1=x1 at*
 generalize ec l2=x2 at*
 simp only[i64,bl]at*
 refine aA bC Tryz.func26 rfl (by decide) (nt:=239) rfl (rs:=[.tmp 6,.tmp 7]) rfl (aZ rfl) ?_
 refine zA5 ?_
 exact zQ2
theorem aFw {n1 o1 c1 n2 o2 c2:Nat}{v1 v2:List Int}{b1 b2:Bool}{ix1 ix2:Nat→Option Nat}{T:Int}(h1:SeD n1 v1 o1 c1 b1 ix1) (h2:SeD n2 v2 o2 c2 b2 ix2):PureGood Tryz.prog 91 [.agg [i64 n1,.sl v1.length (ec v1),i64 n2,.sl v2.length (ec v2),i64 T]] (i64 (if c1≠n1∨c2≠n2 then 3 else 0)):=by
 have gk1:=h1.chR
 have gk2:=h2.chR
 have gc1:=h1.coR
 have gc2:=h2.coR
 have hn1:=h1.n2
 have hn2:=h2.n2
 have hc1:=h1.c2
 have hc2:=h2.c2
 clear h1 h2
 generalize ec v1=x1 at*
 generalize ec v2=x2 at*
 simp only[i64]at*
 by_cases hc:(c1:Int)=n1
 ·by_cases hc':(c2:Int)=n2
  ·rw[if_neg (by omega)]
   refine aA bC Tryz.func91 rfl (by decide) (nt:=33) rfl (rs:=[.tmp 2]) rfl (aZ rfl) ?_
   (repeat(first|apply zO (by decide+kernel)|apply zP (by decide+kernel)|(apply zS;(case h=>constructor<;>decide))|((first|apply cD rfl|apply aR|apply zT rfl (by decide) rfl);(case hs=>(simp(disch:=first|omega|exact kD rfl|exact kX rfl) only[smY,simprocAttr,bl,i64,smE,bV,undef,hc,hc'];exact rfl));first|refine cB ?_|refine cC ?_|refine zq ?_|(case hg=>assumption))))
   ((first|apply dG|apply dI);case hres=>(simp only[iC];simp(disch:=first|omega|exact kD rfl|exact kX rfl) only[smY,simprocAttr,bl,i64,smE,bV,undef,hc,hc'];exact rfl))
   simp(disch:=first|omega|exact kD rfl|exact kX rfl) only[smY,simprocAttr,bl,i64,smE,bV,undef,hc,hc']
  ·rw[if_pos (.inr (by omega))]
   refine aA bC Tryz.func91 rfl (by decide) (nt:=33) rfl (rs:=[.tmp 2]) rfl (aZ rfl) ?_
   (repeat(first|apply zO (by decide+kernel)|apply zP (by decide+kernel)|(apply zS;(case h=>constructor<;>decide))|((first|apply cD rfl|apply aR|apply zT rfl (by decide) rfl);(case hs=>(simp(disch:=first|omega|exact kD rfl|exact kX rfl) only[smY,simprocAttr,bl,i64,smE,bV,undef,hc,hc'];exact rfl));first|refine cB ?_|refine cC ?_|refine zq ?_|(case hg=>assumption))))
   ((first|apply dG|apply dI);case hres=>(simp only[iC];simp(disch:=first|omega|exact kD rfl|exact kX rfl) only[smY,simprocAttr,bl,i64,smE,bV,undef,hc,hc'];exact rfl))
   simp(disch:=first|omega|exact kD rfl|exact kX rfl) only[smY,simprocAttr,bl,i64,smE,bV,undef,hc,hc']
 ·rw[if_pos (.inl (by omega))]
  refine aA bC Tryz.func91 rfl (by decide) (nt:=33) rfl (rs:=[.tmp 2]) rfl (aZ rfl) ?_
  refine aCe hc ?_
  refine kZ rfl (by decide) rfl ?_
  refine aCe hc ?_
  exact aF7 hc
theorem aIh {T m1 m2 e:Int}{l1 l2:List Int}(h:(¬e=0∧PureGood Tryz.prog 61 [.agg [i64 m1,.sl l1.length (ec l1)]] (i64 e))∨(PureGood Tryz.prog 61 [.agg [i64 m1,.sl l1.length (ec l1)]] (i64 0)∧¬e=0∧PureGood Tryz.prog 61 [.agg [i64 m2,.sl l2.length (ec l2)]] (i64 e))):PureGood Tryz.prog 91 [.agg [i64 m1,.sl l1.length (ec l1),i64 m2,.sl l2.length (ec l2),i64 T]] (i64 e):=by
 generalize ec l1=x1 at*
 generalize ec l2=x2 at*
 simp only[i64]at*
 rcases h with⟨he,g⟩ |⟨g,he,g2⟩
 ·refine aA bC Tryz.func91 rfl (by decide) (nt:=33) rfl (rs:=[.tmp 2]) rfl (aZ rfl) ?_
  refine zA5 ?_
  exact zQ2
 ·refine aA bC Tryz.func91 rfl (by decide) (nt:=33) rfl (rs:=[.tmp 2]) rfl (aZ rfl) ?_
  refine zA5 ?_
  exact zQ2
end
section
open Go Go.Lg Go.Num
attribute [local irreducible] lrun lwp exThen exBlk keep goodPost
section
variable {f:Nat→LV}{h HH:Nat→Option Blk}{nb nt n N P M na x y:Nat}{L:List (Nat×LV)}{E:List (Nat×Blk)}{b0 b1 b2 b3:Blk}{ty:TypeId}{g g':Nat→Blk}{l:Nat→List (Option Rat)}{c:Code}{Φ:Exit→LS→Prop}{a b C:Prop}{v:Bool}{fz:List Nat}
theorem lt4 {b n:Nat}(h:b<4):(b<n+4)=True:=eq_true (by omega)
theorem gz1 (k:∀ HH:Nat→Option Blk,HH 0=some b0→HH 1=some b1→(∀ j,j<M→HH (j+4)=some (g j))→lwp Tryz.prog na c Φ ⟨nt,f,HH,nb⟩):lwp Tryz.prog na c Φ ⟨nt,f,dX ((0,b0)::(1,b1)::E) 4 M g,nb⟩:=k _ rfl rfl fun _ hj=>pI hj
theorem gz2 (k:∀ HH:Nat→Option Blk,HH 0=some b0→HH 1=some b1→HH 2=some b2→(∀ j,j<M→HH (j+4)=some (g j))→lwp Tryz.prog na c Φ ⟨nt,f,HH,nb⟩):lwp Tryz.prog na c Φ ⟨nt,f,dX ((0,b0)::(1,b1)::[(2,b2)]) 4 M g,nb⟩:=k _ rfl rfl rfl fun _ hj=>pI hj
theorem gz3 (k:∀ HH:Nat→Option Blk,HH 0=some b0→HH 1=some b1→HH 2=some b2→HH 3=some b3→(∀ j,j<M→HH (j+4)=some (g j))→lwp Tryz.prog na c Φ ⟨nt,f,HH,nb⟩):lwp Tryz.prog na c Φ ⟨nt,f,dX ((0,b0)::(1,b1)::[(2,b2),(3,b3)]) 4 M g,nb⟩:=k _ rfl rfl rfl rfl fun _ hj=>pI hj
theorem gz4 {S:Nat→LV×LV}{i:Nat}(k:∀ HH:Nat→Option Blk,HH 0=some b0→HH 1=some b1→(i≠0→HH 3=some ⟨80,sC S i,false⟩)→(∀ j,j<M→HH (j+4)=some (g j))→lwp Tryz.prog na c Φ ⟨nt,f,HH,nb⟩):lwp Tryz.prog na c Φ ⟨nt,f,dX ((0,b0)::(1,b1)::nWB 3 i (sC S i)) 4 M g,nb⟩:=
 k _ rfl rfl (fun h=>by unfold nWB;rw[if_neg h];rfl) fun _ hj=>pI hj
theorem fiE (FI:∀ j,j<n→HH (j+4)=some (g' j)) (e:∀ j,g' j=g j) (eI:∀ j,j<n→h (j+4)=HH (j+4):=by intro j hj;simp(disch:=omega) only[bI,if_neg]):∀ j,j<n→h (j+4)=some (g j):=fun j hj=>by rw[eI j hj,FI j hj,e j]
theorem aGp {l':Nat→List (Option Rat)}{j:Nat}(e:l' j=l j):gO l' j=gO l j:=by unfold gO;rw[e]
theorem bWl (F0:HH 0=some b0) (F1:HH 1=some ⟨ty,kI n P n,false⟩) (y x:Nat) (e2:h y=some b2) (fi:∀ j,j<n→h (j+4)=some (gO l j)) (p2:∀ c∈b2.cells,aB c=true:=by exact aFu _ _) (p0:∀ c∈b0.cells,aB c=true:=by simp[aB]) (e0:h 0=HH 0:=by simp(disch:=omega) only[bI,Nat.reduceEqDiff,↓reduceIte,if_neg]) (e1:h 1=HH 1:=by simp(disch:=omega) only[bI,Nat.reduceEqDiff,↓reduceIte,if_neg])
  (hx:1<y∧1<x∧y≠x∧(y<4∨n+4≤y)∧(x<4∨n+4≤x):=by omega) (hf:∀ p∈L,renL (n+4) (jZ [0,1,y,x] 4 fun j=>j+4) p.2=some (f p.1):=by simp(maxSteps:=5000000) only[List.forall_mem_cons,List.not_mem_nil,false_imp_iff,implies_true,and_true,aG,dg,renL,renLs,simprocAttr,bl,i64,smT,smO,smE,lt4,oH,Nat.reduceLT,List.getD_cons_zero,List.getD_cons_succ,↓reduceIte];all_goals(simp only[LV.lit.injEq,Value.int.injEq,true_and,and_true];omega)):
  Sub 0 ⟨nt,f,h,nb⟩ ⟨nt,lk L,dX ((0,b0)::(1,⟨ty,kI n P n,false⟩)::[(2,b2)]) 4 n (gO l),n+4⟩:=
 aUi (e0.trans F0) p0 (e1.trans F1) fi (fun j _=>aFv _ _) (by
  intro p hp
  simp only[List.mem_cons,List.not_mem_nil,or_false]at hp
  subst hp
  exact⟨.inl rfl,e2,p2⟩) hx hf
theorem sz2 (F0:HH 0=some b0) (F1:HH 1=some ⟨ty,kI n P n,false⟩) (F2:HH 2=some b2) (fi:∀ j,j<n→h (j+4)=some (gO l j)) (p2:∀ c∈b2.cells,aB c=true:=by exact aFu _ _) (p0:∀ c∈b0.cells,aB c=true:=by simp[aB]) (e0:h 0=HH 0:=by simp(disch:=omega) only[bI,Nat.reduceEqDiff,↓reduceIte,if_neg]) (e1:h 1=HH 1:=by simp(disch:=omega) only[bI,Nat.reduceEqDiff,↓reduceIte,if_neg]) (e2:h 2=HH 2:=by simp(disch:=omega) only[bI,Nat.reduceEqDiff,↓reduceIte,if_neg])
  (hf:∀ p∈L,renL (n+4) (jZ [0,1,2,n+4+77] 4 fun j=>j+4) p.2=some (f p.1):=by simp(maxSteps:=5000000) only[List.forall_mem_cons,List.not_mem_nil,false_imp_iff,implies_true,and_true,aG,dg,renL,renLs,simprocAttr,bl,i64,smT,smO,smE,lt4,oH,Nat.reduceLT,List.getD_cons_zero,List.getD_cons_succ,↓reduceIte];all_goals(simp only[LV.lit.injEq,Value.int.injEq,true_and,and_true];omega)):
  Sub 0 ⟨nt,f,h,nb⟩ ⟨nt,lk L,dX ((0,b0)::(1,⟨ty,kI n P n,false⟩)::[(2,b2)]) 4 n (gO l),n+4⟩:=bWl F0 F1 2 (n+4+77) (e2.trans F2) fi p2 p0 e0 e1 (by omega) hf
theorem sz3 (F0:HH 0=some b0) (F1:HH 1=some ⟨ty,kI n P n,false⟩) (F2:HH 2=some b2) (x:Nat) (e3:h x=some b3) (p3:∀ c∈b3.cells,aB c=true) (fi:∀ j,j<n→h (j+4)=some (gO l j)) (p2:∀ c∈b2.cells,aB c=true:=by exact aFu _ _) (p0:∀ c∈b0.cells,aB c=true:=by simp[aB]) (e0:h 0=HH 0:=by simp(disch:=omega) only[bI,Nat.reduceEqDiff,↓reduceIte,if_neg]) (e1:h 1=HH 1:=by simp(disch:=omega) only[bI,Nat.reduceEqDiff,↓reduceIte,if_neg]) (e2:h 2=HH 2:=by simp(disch:=omega) only[bI,Nat.reduceEqDiff,↓reduceIte,if_neg])
  (hx:2<x∧(x<4∨n+4≤x):=by omega) (hf:∀ p∈L,renL (n+4) (jZ [0,1,2,x] 4 fun j=>j+4) p.2=some (f p.1):=by simp(maxSteps:=5000000) only[List.forall_mem_cons,List.not_mem_nil,false_imp_iff,implies_true,and_true,aG,dg,renL,renLs,simprocAttr,bl,i64,smT,smO,smE,lt4,oH,Nat.reduceLT,List.getD_cons_zero,List.getD_cons_succ,↓reduceIte];all_goals(simp only[LV.lit.injEq,Value.int.injEq,true_and,and_true];omega)):
  Sub 0 ⟨nt,f,h,nb⟩ ⟨nt,lk L,dX ((0,b0)::(1,⟨ty,kI n P n,false⟩)::[(2,b2),(3,b3)]) 4 n (gO l),n+4⟩:=
 aUi (e0.trans F0) p0 (e1.trans F1) fi (fun j _=>aFv _ _) (by
  intro p hp
  simp only[List.mem_cons,List.not_mem_nil,or_false]at hp
  rcases hp with rfl |rfl
  ·exact⟨.inl rfl,e2.trans F2,p2⟩
  ·exact⟨.inr rfl,e3,p3⟩) (by omega) hf
theorem bD2 {z a:Nat}(hz:z≠a):bY h [a] z=h z:=by
 rw[cM]
 have:(z∈[a])=False:=by simp[hz]
 simp only[this,↓reduceIte]
 cases h z <;>rfl
theorem sz4 {S:Nat→LV×LV}{i:Nat}(F0:HH 0=some b0) (F1:HH 1=some ⟨ty,kI n P n,false⟩) (FI:∀ j,j<n→HH (j+4)=some (gOz l i j)) (hi:i<n) (x z:Nat) (hz:z=i+4) (hS:∀ j,∃ a nn cs,(S j).1=i64 a∧(S j).2= .sl nn cs) (ex:h x=some ⟨80,sC S (i+1),false⟩) (ei:h z=some ⟨47,oc (l i),true⟩) (eI:∀ j,j<n→j≠i→h (j+4)=HH (j+4):=by intro j hj hne;simp(disch:=omega) only[bI,bD2,if_neg]) (p0:∀ c∈b0.cells,aB c=true:=by simp[aB]) (e0:h 0=HH 0:=by simp(disch:=omega) only[bI,bD2,Nat.reduceEqDiff,↓reduceIte,if_neg]) (e1:h 1=HH 1:=by simp(disch:=omega) only[bI,bD2,Nat.reduceEqDiff,↓reduceIte,if_neg])
  (hx:1<x∧x≠n+4+777∧(x<4∨n+4≤x):=by omega) (hf:∀ p∈L,renL (n+4) (jZ [0,1,n+4+777,x] 4 fun j=>j+4) p.2=some (f p.1):=by simp(maxSteps:=5000000) only[nW0,nWs,List.forall_mem_cons,List.not_mem_nil,false_imp_iff,implies_true,and_true,aG,dg,renL,renLs,simprocAttr,bl,i64,smT,smO,smE,lt4,oH,Nat.reduceLT,List.getD_cons_zero,List.getD_cons_succ,↓reduceIte];all_goals(simp only[LV.lit.injEq,Value.int.injEq,true_and,and_true];omega)):
  Sub 0 ⟨nt,f,h,nb⟩ ⟨nt,lk L,dX ((0,b0)::(1,⟨ty,kI n P n,false⟩)::nWB 3 (i+1) (sC S (i+1))) 4 n (gOz l (i+1)),n+4⟩:=by
 subst hz
 refine aUi (y:=n+4+777) (x:=x) (e0.trans F0) p0 (e1.trans F1) (fun j hj=> ?_) (fun j _=>aIf _ _ _) ?_ (by omega) hf
 ·by_cases ej:j=i
  ·subst ej
   rw[ei]
   unfold gOz
   rw[decide_eq_true (by omega)]
  ·rw[eI j hj ej,FI j hj]
   unfold gOz
   rw[show decide (j<i)=decide (j<i+1)by by_cases c:j<i <;>simp[c] <;>omega]
 ·rw[cLi]
  intro p hp
  simp only[List.mem_cons,List.not_mem_nil,or_false]at hp
  subst hp
  exact⟨.inr rfl,ex,aOf hS _⟩
theorem cs4 [Decidable a] [Decidable b] [Decidable C] (h:v=(decide a && decide b && decide C)):(a∧b∧C∧v=true)∨(a∧b∧¬C∧v=false)∨(a∧¬b∧¬b∧v=false)∨(¬a∧¬a∧¬a∧v=false):=by
 subst h
 by_cases x:a <;>by_cases y:b <;>by_cases z:C <;>simp[x,y,z]
end
end
section
open Go Go.Lg Go.Num
attribute [local irreducible] lrun lwp exThen exBlk keep goodPost sg mg oc op ec kI zc zI rz cL lS ocD sC
theorem aIi {k prec m n T:Nat}{n1 o1 c1 n2 o2 c2:Nat}{v1 v2:List Int}{b1 b2:Bool}{ix1 ix2:Nat→Option Nat}(h1:SeD n1 v1 o1 c1 b1 ix1) (h2:SeD n2 v2 o2 c2 b2 ix2) (k1:2≤k) (k2:k≤40) (hp:prec≤20) (hZ:ZtD m n) (hm1:m % o1=0) (hm2:m % o2=0) (T1:1≤T) (T2:T≤1000)
  {W:List LV}{R:List Rat}{oo:Int}
  (gchk:PureGood Tryz.prog 81 [i64 k,.agg [i64 n1,.sl v1.length (ec v1),i64 n2,.sl v2.length (ec v2),i64 T]] (i64 0))
  (gord:PureGood Tryz.prog 82 [.agg [i64 n1,.sl v1.length (ec v1)],.agg [i64 n2,.sl v2.length (ec v2)]] (i64 m))
  (gF:PureGood Tryz.prog 48 [i64 m] (.tup [.agg [.sl (n+1) W],i64 0]))
  (gC:n1=1→PureGood Tryz.prog 17 [i64 k,.agg [i64 n2,.sl v2.length (ec v2)]] (.tup [.sl R.length (qc R),i64 oo,i64 0])) (hRl:R.length≤n) (hRq:∀ j,lq (R.getD j 0)≤1000)
  (S:Nat→LV×LV) (X:Nat→LV) (both:Bool) (hb:both=(decide (k=2) && decide (n1=1) && decide (n2=1)))
  (hS:∀ j,gI (S j).1=true∧gI (S j).2=true∧∃ a nn cs,(S j).1=i64 a∧(S j).2= .sl nn cs) (hX:∀ j,∃ nn cs,X j= .sl nn cs)
  (o0:Nat→Option Rat) (f0:Nat→Rat) (hf0:∀ j,f0 j=R.getD j 0 / (((-2*(k:Int):Int)):Rat)) (ho0:∀ j,o0 j=if n1=1 then o0I f0 R.length j else none)
  (gra:∀ j,j<n→PureGood Tryz.prog 90 [.sl prec (op (cL o0 (sY ix1 ix2 m o1 o2) (zI m) (lS k) prec (max prec 1) 0 0 j)),i64 T,bl both] (X j))
  (gno:∀ j,j<n→PureGood Tryz.prog 89 [.agg [i64 0,X j]] (.tup [.agg [(S j).1,(S j).2],i64 0])):
  PureGood Tryz.prog 26 [i64 k,.agg [i64 n1,.sl v1.length (ec v1),i64 n2,.sl v2.length (ec v2),i64 T],i64 prec] (.tup [.sl n (sC S n),i64 0]):=by
 obtain⟨m1,m2,nn1,nn2,_,hpz,hzl,hzs⟩:=hZ
 have gin:=aCb (prec:Int) (by omega)
 rw[qA (by omega)]at gin
 have hn1:((n+1:Nat):Int)-1=(n:Int):=by omega
 have hmm:1≤n1∧n1≤60:=⟨h1.n1,h1.n2⟩
 have hmm2:1≤n2∧n2≤60:=⟨h2.n1,h2.n2⟩
 obtain⟨te,hte⟩:∃ te,te=sY ix1 ix2 m o1 o2:=⟨_,rfl⟩
 rw[← hte]at gra
 simp only[i64,bl]at gchk gord gF gC gin gra gno
 refine aA bC Tryz.func26 rfl (by decide) (nt:=239) rfl (rs:=[.tmp 6,.tmp 7]) rfl (aZ rfl) ?_
 refine pK hn1 ?_
 refine aI (α:={i:Nat // i≤n}) (fun i=>st 239 (lk [(0,.lit (.int .i64 k)),(2,.lit (.int .i64 prec)),(4,.ptr 0 0),(9,.lit (.int .i64 m)),(13,.own 1 0 n 1),(63,.lit (.int .i64 n)),(64,.lit (.int .i64 i.1))]) (dX ((0,⟨58,[.lit (.int .i64 n1),.sl v1.length (ec v1),.lit (.int .i64 n2),.sl v2.length (ec v2),.lit (.int .i64 T)],false⟩)::(1,⟨29,kI n prec i.1,false⟩)::[]) 4 (i.1) (gO fun _=>List.replicate prec none)) (i.1+4)) (fun i=>n-i.1) ⟨0,by omega⟩ ?_ ?_
 ·simp only[st]
  have hN0:(0<0+4)=True:=eq_true (by omega)
  have hN1:(1<0+4)=True:=eq_true (by omega)
  have hN2:(2<0+4)=True:=eq_true (by omega)
  have hN3:(3<0+4)=True:=eq_true (by omega)
  refine bWc (c:=34) (y:=1001) (x:=1002) (τ:=fun j=>j+2000) (C':=List.replicate n nilL) ?_ (by simp[aB]) ?_ ?_ (fun j hj=>by omega) (fun j hj=>by omega) (by intro p hp;simp at hp) (by omega) (fun i j hi=>by omega) (fun j hj=>by omega) ?_
  ·simp only[bI,Nat.reduceEqDiff,↓reduceIte]
  ·simp only[bI,Nat.reduceEqDiff,↓reduceIte]
   all_goals(first |done |rfl)
  ·rw[bJj];exact cJ (fun c hc=>by rw[List.eq_of_mem_replicate hc];rfl)
  ·simp(maxSteps:=5000000) only[List.forall_mem_cons,List.not_mem_nil,false_imp_iff,implies_true,and_true,aG,dg,renL,renLs,simprocAttr,bl,i64,smT,smO,smE,hn1,hN0,hN1,hN2,hN3,oH,Nat.reduceLT,List.getD_cons_zero,List.getD_cons_succ,↓reduceIte]
   all_goals(first |done |trace_state)
 ·rintro⟨i,hi⟩
  simp only[st]
  refine gz1 fun HH F0 F1 FI=> ?_
  by_cases hlt:i<n
  ·have hg:=bJi (P:=prec) hlt
   have hkl:=aKx n prec i
   (repeat(first|apply zO (by decide+kernel)|apply zP (by decide+kernel)|(apply zS;(case h=>constructor<;>decide))|((first|apply cD rfl|apply aR|apply zT rfl (by decide) rfl);(case hs=>(simp(disch:=first|omega|exact kD rfl|exact kX rfl) only[smY,simprocAttr,bl,i64,smT,smO,smE,F0,F1,hg,hkl,lU];exact rfl));first|refine cB ?_|refine cC ?_|refine zq ?_|(case hg=>assumption))))
   refine⟨⟨i+1,by omega⟩,?_,by simp only;omega⟩
   have hN0:(0<(i+1)+4)=True:=eq_true (by omega)
   have hN1:(1<(i+1)+4)=True:=eq_true (by omega)
   have hN2:(2<(i+1)+4)=True:=eq_true (by omega)
   have hN3:(3<(i+1)+4)=True:=eq_true (by omega)
   refine bWc (M:=i+1) (c:=1) (y:=i+4+20) (x:=i+4+21) (τ:=fun j=>if j=i then i+4+1+2+3 else j+4) ?_ (by simp[aB]) ?_ (aOj hlt (fun j hj=>if_neg (by omega)) (if_pos rfl)) ?_ (fun j hj=>aFv _ _) (by intro p hp;simp at hp) (by omega) (fun a b ha hb e=>by split at e <;>split at e <;>omega) (fun j hj=>by split <;>omega) ?_
   ·simp(disch:=omega) only[bI,Nat.reduceEqDiff,↓reduceIte,if_neg,F0]
   ·simp(disch:=omega) only[bI,Nat.reduceEqDiff,↓reduceIte,if_neg]
    all_goals(first |done |trace_state)
   ·intro j hj
    by_cases e:j=i
    ·subst e
     simp(disch:=omega) only[bI,if_neg,↓reduceIte]
     all_goals(first |done |rfl |trace_state)
    ·simp(disch:=omega) only[bI,if_neg,↓reduceIte,e,FI j (by omega)]
   ·simp(maxSteps:=5000000) only[List.forall_mem_cons,List.not_mem_nil,false_imp_iff,implies_true,and_true,aG,dg,renL,renLs,simprocAttr,bl,i64,smT,smO,smE,F0,F1,hg,hkl,lU,hN0,hN1,hN2,hN3,oH,Nat.reduceLT,List.getD_cons_zero,List.getD_cons_succ,↓reduceIte]
    all_goals(first |done |trace_state)
  ·obtain rfl:n=i:=by omega
   (repeat(first|apply zO (by decide+kernel)|apply zP (by decide+kernel)|(apply zS;(case h=>constructor<;>decide))|((first|apply cD rfl|apply aR|apply zT rfl (by decide) rfl);(case hs=>(simp(disch:=first|omega|exact kD rfl|exact kX rfl) only[smY,simprocAttr,bl,i64,smT,smO,smE,F0,F1];exact rfl));first|refine cB ?_|refine cC ?_|refine zq ?_|(case hg=>assumption))))
   refine aI (α:={e:Nat // e≤m}) (fun e=>st 239 (lk [(0,.lit (.int .i64 k)),(2,.lit (.int .i64 prec)),(4,.ptr 0 0),(9,.lit (.int .i64 m)),(13,.own 1 0 n 1),(15,.own 2 0 m 1),(76,.lit (.int .i64 m)),(77,.lit (.int .i64 e.1))]) (dX ((0,⟨58,[.lit (.int .i64 n1),.sl v1.length (ec v1),.lit (.int .i64 n2),.sl v2.length (ec v2),.lit (.int .i64 T)],false⟩)::(1,⟨29,kI n prec n,false⟩)::[(2,⟨30,zc m e.1,false⟩)]) 4 (n) (gO fun _=>List.replicate prec none)) (n+4)) (fun e=>m-e.1) ⟨0,by omega⟩ ?_ ?_
   ·simp only[st]
    exact bWl F0 F1 (n+4+1+1) (n+4+77) (by simp(disch:=omega) only[bI,Nat.reduceEqDiff,↓reduceIte,if_neg,aUj];all_goals(first |done |rfl)) (fiE FI fun _=>rfl)
   ·rintro⟨e,he⟩
    simp only[st]
    refine gz2 fun HH F0 F1 F2 FI=> ?_
    by_cases hlt:e<m
    ·have gz:=hpz e hlt
     rw[bD,bX]at gz
     have hzl:=bDz m e
     have hzst:=bWd hlt
     generalize (zI m e).length=zl at*
     generalize qc (rz (zI m e))=ZQ at*
     simp only[i64]at gz
     (repeat(first|apply zO (by decide+kernel)|apply zP (by decide+kernel)|(apply zS;(case h=>constructor<;>decide))|((first|apply cD rfl|apply aR|apply zT rfl (by decide) rfl);(case hs=>(simp(disch:=first|omega|exact kD rfl|exact kX rfl) only[smY,simprocAttr,bl,i64,smT,smO,smE,F0,F1,F2,hzl,hzst,lU];exact rfl));first|refine cB ?_|refine cC ?_|refine zq ?_|(case hg=>assumption))))
     refine⟨⟨e+1,by omega⟩,?_,by simp only;omega⟩
     exact bWl F0 F1 (2) (n+4+77) (by simp(disch:=omega) only[bI,Nat.reduceEqDiff,↓reduceIte,if_neg,aUj];all_goals(first |done |rfl)) (fiE FI fun _=>rfl)
    ·obtain rfl:m=e:=by omega
     (repeat((fail_if_success (refine bWf ?_));first|apply zO (by decide+kernel)|apply zP (by decide+kernel)|(apply zS;(case h=>constructor<;>decide))|((first|apply cD rfl|apply aR|apply zT rfl (by decide) rfl);(case hs=>(simp(disch:=first|omega|exact kD rfl|exact kX rfl) only[smY,simprocAttr,bl,i64,smT,smO,smE,F0,F1,F2];exact rfl));first|refine cB ?_|refine cC ?_|refine zq ?_|(case hg=>assumption))))
     refine aDl (α:=Unit) (fun _=>st 239 (lk [(0,.lit (.int .i64 k)),(2,.lit (.int .i64 prec)),(4,.ptr 0 0),(9,.lit (.int .i64 m)),(13,.own 1 0 n 1),(15,.own 2 0 m 1)]) (dX ((0,⟨58,[.lit (.int .i64 n1),.sl v1.length (ec v1),.lit (.int .i64 n2),.sl v2.length (ec v2),.lit (.int .i64 T)],false⟩)::(1,⟨29,kI n prec n,false⟩)::[(2,⟨30,zc m m,false⟩)]) 4 (n) (gO (cL o0 te (zI m) (lS k) prec 1 0 0))) (n+4)) ?_ ?_
     ·by_cases hc1:n1=1
      ·have ho0:∀ j,o0 j=o0I f0 R.length j:=fun j=>by rw[ho0 j,if_pos hc1]
       have gC:=gC hc1
       have hc1i:(n1:Int)=1:=by omega
       by_cases hp0:prec=0
       ·have hpi:(prec:Int)=0:=by omega
        refine aL3 (nd hc1i hpi) ?_
        refine⟨(),?_⟩
        exact sz2 F0 F1 F2 (fiE FI fun j=>aGp (by rw[show cL o0 te (zI m) (lS k) prec 1 0 0 j=List.replicate prec none by subst hp0;with_unfolding_all rfl]))
       ·have hpi:(0:Int)<prec:=by omega
        have hpn:0<prec:=by omega
        have hq0:(((-2*(k:Int):Int)):Rat)≠0:=by
         intro e
         have:=Rat.intCast_inj.1 (e.trans Rat.intCast_zero.symm)
         omega
        refine aL3 hc1i ?_
        refine aI (α:={i:Nat // i≤R.length}) (fun i=>st 239 (lk [(0,.lit (.int .i64 k)),(2,.lit (.int .i64 prec)),(4,.ptr 0 0),(9,.lit (.int .i64 m)),(13,.own 1 0 n 1),(15,.own 2 0 m 1),(106,.sl R.length (qc R)),(107,.lit (.int .i64 R.length)),(108,.lit (.int .i64 i.1))]) (dX ((0,⟨58,[.lit (.int .i64 n1),.sl v1.length (ec v1),.lit (.int .i64 n2),.sl v2.length (ec v2),.lit (.int .i64 T)],false⟩)::(1,⟨29,kI n prec n,false⟩)::[(2,⟨30,zc m m,false⟩)]) 4 (n) (gO (cL (o0I f0 i.1) te (zI m) (lS k) prec 1 0 0))) (n+4)) (fun i=>R.length-i.1) ⟨0,by omega⟩ ?_ ?_
        ·simp only[st]
         exact sz2 F0 F1 F2 (fiE FI fun j=>aGp (by rw[aOg (o0I f0 0) (by unfold o0I;rw[if_neg (by omega)])]))
        ·rintro⟨i,hi⟩
         simp only[st]
         refine gz2 fun HH F0 F1 F2 FI=> ?_
         by_cases hlt:i<R.length
         ·have FIi:=FI i (by omega)
          unfold gO at FIi
          have hql:=aRn (o0I f0 i) te (zI m) (lS k) prec 1 0 0 i
          have hol:=aA4 (cL (o0I f0 i) te (zI m) (lS k) prec 1 0 0 i)
          rw[hql]at hol
          have hset:=kT (l:=cL (o0I f0 i) te (zI m) (lS k) prec 1 0 0 i) (j:=0) (by omega) (f0 i)
          rw[bDu]at hset
          have g1:=gW (-2*(k:Int)) (by omega)
          have b2:=aJv (z:= -2*(k:Int)) (by omega)
          have b3:=hRq i
          have g2:=tP (R.getD i 0) (((-2*(k:Int):Int)):Rat) hq0 (by omega) (by omega)
          rw[← hf0 i]at g2
          have hg:=aRp (P:=prec) (show i<n by omega) (show i<n by omega)
          have hkl:=aKx n prec n
          generalize f0 i=FV at*
          generalize hRi:R.getD i 0=RV at*
          generalize (((-2*(k:Int):Int)):Rat)=KV at*
          generalize oc (cL (o0I f0 i) te (zI m) (lS k) prec 1 0 0 i)=OC at*
          simp only[aH,i64]at g1 g2
          have hne:(i=n+4)=False:=eq_false (by omega)
          have h4:(4≤prec*4)=True:=eq_true (by omega)
          simp only[Nat.zero_mul,List.take_zero,List.nil_append,Nat.zero_add,List.cons_append]at hset
          (repeat(first|apply zO (by decide+kernel)|apply zP (by decide+kernel)|(apply zS;(case h=>constructor<;>decide))|((first|apply cD rfl|apply aR|apply zT rfl (by decide) rfl);(case hs=>(simp(disch:=first|omega|exact kD rfl|exact kX rfl) only[smY,simprocAttr,bl,i64,smT,smO,smE,F0,F1,F2,hg,hkl,FIi,hol,lU,hRi,hne,h4];exact rfl));first|refine cB ?_|refine cC ?_|refine zq ?_|(case hg=>assumption))))
          refine⟨⟨i+1,by omega⟩,?_,by simp only;omega⟩
          refine sz2 F0 F1 F2 ?_
          intro j hj
          by_cases e:j=i
          ·subst e
           simp(disch:=omega) only[bI,if_neg,↓reduceIte,hset]
           all_goals(first |done |rfl |trace_state)
          ·simp(disch:=omega) only[bI,if_neg,FI j hj]
           unfold gO
           rw[bOj (o0:=o0I f0 i) (o1:=o0I f0 (i+1)) (show o0I f0 i j=o0I f0 (i+1) j by
            unfold o0I
            by_cases c:j<i
            ·rw[if_pos c,if_pos (by omega)]
            ·rw[if_neg c,if_neg (by omega)])]
         ·obtain rfl:i=R.length:=by omega
          refine zA8 ?_
          refine⟨(),?_⟩
          exact sz2 F0 F1 F2 (fiE FI fun j=>aGp (by rw[bOj (ho0 j)]))
      ·have ho0:∀ j,o0 j=none:=fun j=>by rw[ho0 j,if_neg hc1]
       have hc1i:¬(n1:Int)=1:=by omega
       refine aL3 hc1i ?_
       refine⟨(),?_⟩
       exact sz2 F0 F1 F2 (fiE FI fun j=>aGp (by rw[aOg o0 (ho0 j)]))
     ·rintro -
      simp only[st]
      refine gz2 fun HH F0 F1 F2 FI=> ?_
      refine zA8 ?_
      refine aI (α:={N:Nat // 1≤N∧N≤max prec 1}) (fun N=>st 239 (lk [(0,.lit (.int .i64 k)),(2,.lit (.int .i64 prec)),(4,.ptr 0 0),(9,.lit (.int .i64 m)),(13,.own 1 0 n 1),(15,.own 2 0 m 1),(22,.lit (.int .i64 N.1))]) (dX ((0,⟨58,[.lit (.int .i64 n1),.sl v1.length (ec v1),.lit (.int .i64 n2),.sl v2.length (ec v2),.lit (.int .i64 T)],false⟩)::(1,⟨29,kI n prec n,false⟩)::[(2,⟨30,zc m m,false⟩)]) 4 (n) (gO (cL o0 te (zI m) (lS k) prec N.1 0 0))) (n+4)) (fun N=>prec-N.1) ⟨1,by omega,by omega⟩ ?_ ?_
      ·simp only[st]
       exact sz2 F0 F1 F2 (fiE FI fun _=>rfl)
      ·rintro⟨N,hPos,hN⟩
       simp only[st]
       refine gz2 fun HH F0 F1 F2 FI=> ?_
       by_cases hlt:N<prec
       ·skip
        refine zA8 ?_
        refine aI (α:={D:Nat // D≤N}) (fun D=>st 239 (lk [(0,.lit (.int .i64 k)),(2,.lit (.int .i64 prec)),(4,.ptr 0 0),(9,.lit (.int .i64 m)),(13,.own 1 0 n 1),(15,.own 2 0 m 1),(22,.lit (.int .i64 N)),(23,.lit (.int .i64 ((D.1:Int)+1)))]) (dX ((0,⟨58,[.lit (.int .i64 n1),.sl v1.length (ec v1),.lit (.int .i64 n2),.sl v2.length (ec v2),.lit (.int .i64 T)],false⟩)::(1,⟨29,kI n prec n,false⟩)::[(2,⟨30,zc m m,false⟩)]) 4 (n) (gO (cL o0 te (zI m) (lS k) prec N D.1 0))) (n+4)) (fun D=>N-D.1) ⟨0,by omega⟩ ?_ ?_
        ·simp only[st]
         exact sz2 F0 F1 F2 (fiE FI fun _=>rfl)
        ·rintro⟨D,hD⟩
         simp only[st]
         refine gz2 fun HH F0 F1 F2 FI=> ?_
         by_cases hlD:D<N
         ·have hd0:¬((D:Int)+1)=0:=by omega
          have qd:((N:Int)) % ((D:Int)+1)=((N % (D+1):Nat):Int):=rfl
          have qq:((N:Int)) / ((D:Int)+1)=((N / (D+1):Nat):Int):=rfl
          have hmod:N % (D+1)≤N:=Nat.mod_le _ _
          by_cases hdv:N % (D+1)=0
          ·have hq1:1≤N / (D+1):=Nat.div_pos (by omega) (by omega)
           have hq2:N / (D+1)≤N:=Nat.div_le_self _ _
           obtain⟨x,hx⟩:∃ x,N / (D+1)=x+1:=⟨N / (D+1)-1,by omega⟩
           obtain⟨te1,te2,te3⟩:=aUh (ix1:=ix1) (ix2:=ix2) (m:=m) (o1:=o1) (o2:=o2) hdv hx
           rw[← hte]at te1 te2 te3
           have qq':((N:Int)) / ((D:Int)+1)=(x:Int)+1:=by rw[qq,hx];rfl
           rw[hdv]at qd
           cases hi1:ix1 x with
           |none=>
            have g1:=(kW h1 (m:=m) (show x<60 by omega) hi1).1
            have hs:te N D=none:=te1 hi1
            cases hi2:ix2 D with
            |none=>
             have g2:=(kW h2 (m:=m) (show D<60 by omega) hi2).1
             simp only[i64,bl]at g1 g2
             refine aL3 (nd qd qq') ?_
             refine⟨⟨D+1,by omega⟩,?_,by simp only;omega⟩
             exact sz2 F0 F1 F2 (fiE FI fun j=>aGp (by rw[aC6 hs]))
            |some j=>
             obtain⟨g2,_,hjm⟩:=iL h2 (show D<60 by omega) hi2 hm2 m1 (by omega)
             generalize j*(m / o2)=J at*
             simp only[i64,bl]at g1 g2
             refine aL3 (nd qd qq') ?_
             refine⟨⟨D+1,by omega⟩,?_,by simp only;omega⟩
             exact sz2 F0 F1 F2 (fiE FI fun j=>aGp (by rw[aC6 hs]))
           |some i=>
            obtain⟨g1,_,him⟩:=iL h1 (show x<60 by omega) hi1 hm1 m1 (by omega)
            cases hi2:ix2 D with
            |none=>
             have g2:=(kW h2 (m:=m) (show D<60 by omega) hi2).1
             have hs:te N D=none:=te2 hi2
             generalize i*(m / o1)=I at*
             simp only[i64,bl]at g1 g2
             refine aL3 (nd qd qq') ?_
             refine⟨⟨D+1,by omega⟩,?_,by simp only;omega⟩
             exact sz2 F0 F1 F2 (fiE FI fun j=>aGp (by rw[aC6 hs]))
            |some j=>
             obtain⟨g2,_,hjm⟩:=iL h2 (show D<60 by omega) hi2 hm2 m1 (by omega)
             obtain⟨e,he⟩:∃ e,(i*(m / o1)+j*(m / o2)) % m=e:=⟨_,rfl⟩
             have hem:e<m:=by rw[← he];exact Nat.mod_lt _ (by omega)
             have hteD:te N D=some e:=by rw[te3 i j hi1 hi2,he]
             have qe:((i*(m / o1):Nat):Int)+((j*(m / o2):Nat):Int)=((i*(m / o1)+j*(m / o2):Nat):Int):=rfl
             have qm:(((i*(m / o1):Nat):Int)+((j*(m / o2):Nat):Int)) % (m:Int)=(e:Int):=by
               rw[← he];rfl
             have ek:((k:Int)-1)=((k-1:Nat):Int):=by omega
             have w2:=aXv (D+1) (k-1) (by omega) (by omega) (by omega)
             have epw:((D+1:Nat):Int)^(k-1)=lS k D:=by with_unfolding_all rfl
             rw[epw]at w2
             have lpw:=aC4 (k:=k) (D:=D) k2 (by omega)
             have lpq:=aT9 (k:=k) (D:=D) k2 (by omega)
             have w3:=nQ (lS k D) (by omega)
             have eD:((D+1:Nat):Int)=(D:Int)+1:=by omega
             rw[eD]at w2
             have hzg:=bWe hem
             have hzcl:=bDz m m
             have hze:=hzl e hem
             have hzse:=hzs e hem
             have hrl:=bX (zI m e)
             clear te1 te2 te3 hi1 hi2
             generalize hKQ:((lS k D:Int):Rat)=KQ at*
             generalize hKZ:lS k D=KZ at*
             generalize i*(m / o1)=I at*
             generalize j*(m / o2)=J at*
             simp only[aW,aH,i64,bl]at g1 g2 w2 w3
             refine aL3 (nd qd (nd qq' (nd qe (nd he (nd ek (nd hzg hzcl)))))) ?_
             refine aI (α:={a:Nat // a≤(zI m e).length}) (fun a=>st 239 (lk [(0,.lit (.int .i64 k)),(2,.lit (.int .i64 prec)),(4,.ptr 0 0),(9,.lit (.int .i64 m)),(13,.own 1 0 n 1),(15,.own 2 0 m 1),(22,.lit (.int .i64 N)),(23,.lit (.int .i64 ((D:Int)+1))),(28,.ptr 3 0),(177,.sl (zI m e).length (qc (rz (zI m e)))),(178,.lit (.int .i64 (zI m e).length)),(179,.lit (.int .i64 a.1))]) (dX ((0,⟨58,[.lit (.int .i64 n1),.sl v1.length (ec v1),.lit (.int .i64 n2),.sl v2.length (ec v2),.lit (.int .i64 T)],false⟩)::(1,⟨29,kI n prec n,false⟩)::[(2,⟨30,zc m m,false⟩),(3,⟨47,[sg (KQ).num,mg (KQ).num,sg ((KQ).den:Int),mg ((KQ).den:Int)],false⟩)]) 4 (n) (gO (cL o0 te (zI m) (lS k) prec N D a.1))) (n+4)) (fun a=>(zI m e).length-a.1) ⟨0,by omega⟩ ?_ ?_
             · simp only[st]
               exact sz3 F0 F1 F2 (n+4+3+4+12+10+6+5) (by simp(disch:=omega) only[bI,Nat.reduceEqDiff,↓reduceIte,if_pos,if_neg];all_goals(first |done |rfl)) (by simp only[List.forall_mem_cons,List.not_mem_nil,false_imp_iff,implies_true,and_true];exact⟨s9 _,s10 _,s9 _,s10 _⟩) (fiE FI fun _=>rfl)
             · rintro⟨a,ha⟩
               simp only[st]
               refine gz3 fun HH F0 F1 F2 F3 FI=> ?_
               by_cases hla:a<(zI m e).length
               · have FIa:=FI a (by omega)
                 unfold gO at FIa
                 have hcl:=aRn o0 te (zI m) (lS k) prec N D a a
                 have hol:=aA4 (cL o0 te (zI m) (lS k) prec N D a a)
                 rw[hcl]at hol
                 have eg:=bV9 (o0:=o0) (te:=te) (z:=zI m) (p:=lS k) (N:=N) (D:=D) (a:=a) (j:=a) hlt
                 rw[bV7 hPos]at eg
                 have hsL:=bWa (o0:=o0) (te:=te) (z:=zI m) (p:=lS k) (P:=prec) (a:=a) hPos hteD hla
                 have hov:=aKw (te:=te N) (k:=k) (m:=m) (n:=n) (j:=a) (by omega) D
                 have hqb:=aRf (te:=te N) (k:=k) (m:=m) (n:=n) k2 hzs (fun D e h=>by rw[hte]at h;exact aKj m1 h) (D:=D) (by omega) (i:=a) (by omega)
                 rw[← hov]at hqb
                 have hkm:(zI m e).getD a 0∈zI m e:=by
                   rw[show(zI m e).getD a 0=(zI m e)[a]by simp[List.getD,hla]]
                   exact List.getElem_mem hla
                 have hl10:=aN7 (hzse _ hkm)
                 have e1:=mD (zI m e) a
                 have hg:=aRp (P:=prec) (show a<n by omega) (show a<n by omega)
                 have hkl:=aKx n prec n
                 have hNa:(N*4+4≤prec*4)=True:=eq_true (by omega)
                 have hne:(a=n+4)=False:=eq_false (by omega)
                 have gm:=gE KQ ((((zI m e).getD a 0:Int)):Rat) (by omega) (by omega)
                 have lm:=kK KQ ((((zI m e).getD a 0:Int)):Rat)
                 have hsL':(cL o0 te (zI m) (lS k) prec N D a a).set N (some ((ocD (te N) (zI m) (lS k) a D).getD 0+KQ*((((zI m e).getD a 0:Int)):Rat)))=cL o0 te (zI m) (lS k) prec N D (a+1) a:=by
                   rw[← hKQ,← hKZ]
                   exact hsL
                 clear hsL hov hKQ
                 generalize ((((zI m e).getD a 0:Int)):Rat)=ZA at*
                 cases hoc:ocD (te N) (zI m) (lS k) a D with
                 |none=>
                  rw[hoc]at eg hsL'
                  rw[Option.getD_none,Rat.zero_add]at hsL'
                  have ga:=aHr (KQ*ZA) (by omega)
                  rw[z4p]at ga
                  have hset:=kT (l:=(cL o0 te (zI m) (lS k) prec N D a a)) (j:=N) (by omega) (KQ*ZA)
                  rw[hsL']at hset
                  generalize KQ*ZA=FV at*
                  simp only[aH,i64]at gm ga
                  (repeat(first|apply zO (by decide+kernel)|apply zP (by decide+kernel)|(apply zS;(case h=>constructor<;>decide))|((first|apply cD rfl|apply aR|apply zT rfl (by decide) rfl);(case hs=>(simp(disch:=first|omega|exact kD rfl|exact kX rfl) only[smY,simprocAttr,bl,i64,smT,smO,smE,F0,F1,F2,F3,hg,hkl,FIa,hol,lU,e1,eg,hNa,hne];exact rfl));first|refine cB ?_|refine cC ?_|refine zq ?_|(case hg=>assumption))))
                  refine⟨⟨a+1,by omega⟩,?_,by simp only;omega⟩
                  refine sz3 F0 F1 F2 (3) (by simp(disch:=omega) only[bI,Nat.reduceEqDiff,↓reduceIte,if_pos,if_neg,F3];all_goals(first |done |rfl)) (by simp only[List.forall_mem_cons,List.not_mem_nil,false_imp_iff,implies_true,and_true];exact⟨s9 _,s10 _,s9 _,s10 _⟩) ?_
                  intro j hj
                  by_cases ej:j=a
                  · subst ej
                    simp(disch:=omega) only[bI,if_neg,↓reduceIte,hset]
                    all_goals(first |done |rfl |trace_state)
                  · simp(disch:=omega) only[bI,if_neg,FI j hj]
                    unfold gO
                    rw[aOk ej]
                 |some q=>
                  rw[hoc]at eg hsL' hqb
                  rw[Option.getD_some]at hsL' hqb
                  have ga:=kN q (KQ*ZA) (by omega) (by omega)
                  have hset:=kT (l:=(cL o0 te (zI m) (lS k) prec N D a a)) (j:=N) (by omega) (q+KQ*ZA)
                  rw[hsL']at hset
                  generalize q+KQ*ZA=FV at*
                  generalize KQ*ZA=MV at*
                  simp only[aH,i64]at gm ga
                  (repeat(first|apply zO (by decide+kernel)|apply zP (by decide+kernel)|(apply zS;(case h=>constructor<;>decide))|((first|apply cD rfl|apply aR|apply zT rfl (by decide) rfl);(case hs=>(simp(disch:=first|omega|exact kD rfl|exact kX rfl) only[smY,simprocAttr,bl,i64,smT,smO,smE,F0,F1,F2,F3,hg,hkl,FIa,hol,lU,e1,eg,hNa,hne];exact rfl));first|refine cB ?_|refine cC ?_|refine zq ?_|(case hg=>assumption))))
                  refine⟨⟨a+1,by omega⟩,?_,by simp only;omega⟩
                  refine sz3 F0 F1 F2 (3) (by simp(disch:=omega) only[bI,Nat.reduceEqDiff,↓reduceIte,if_pos,if_neg,F3];all_goals(first |done |rfl)) (by simp only[List.forall_mem_cons,List.not_mem_nil,false_imp_iff,implies_true,and_true];exact⟨s9 _,s10 _,s9 _,s10 _⟩) ?_
                  intro j hj
                  by_cases ej:j=a
                  · subst ej
                    simp(disch:=omega) only[bI,if_neg,↓reduceIte,hset]
                    all_goals(first |done |rfl |trace_state)
                  · simp(disch:=omega) only[bI,if_neg,FI j hj]
                    unfold gO
                    rw[aOk ej]
               · obtain rfl:a=(zI m e).length:=by omega
                 (repeat(first|apply zO (by decide+kernel)|apply zP (by decide+kernel)|(apply zS;(case h=>constructor<;>decide))|((first|apply cD rfl|apply aR|apply zT rfl (by decide) rfl);(case hs=>(simp(disch:=first|omega|exact kD rfl|exact kX rfl) only[smY,simprocAttr,bl,i64,smT,smO,smE,F0,F1,F2,F3];exact rfl));first|refine cB ?_|refine cC ?_|refine zq ?_|(case hg=>assumption))))
                 refine⟨⟨D+1,by omega⟩,?_,by simp only;omega⟩
                 exact sz2 F0 F1 F2 (fiE FI fun j=>aGp (by rw[bJl hteD]))
          ·have hs:te N D=none:=by
            rw[hte]
            unfold sY
            rw[if_neg hdv]
           generalize hR0:N % (D+1)=R0 at*
           refine aL3 qd ?_
           refine⟨⟨D+1,by omega⟩,?_,by simp only;omega⟩
           exact sz2 F0 F1 F2 (fiE FI fun j=>aGp (by rw[aC6 hs]))
         ·obtain rfl:D=N:=by omega
          refine zA8 ?_
          refine⟨⟨D+1,by omega,by omega⟩,?_,by simp only;omega⟩
          exact sz2 F0 F1 F2 (fiE FI fun j=>aGp (by rw[bJk hPos]))
       ·have hNe:N=max prec 1:=by omega
        subst hNe
        refine zA8 ?_
        refine aI (α:={i:Nat // i≤n}) (fun i=>st 239 (lk [(0,.lit (.int .i64 k)),(4,.ptr 0 0),(13,.own 1 0 n 1),(31,nW 3 i.1),(203,.lit (.int .i64 n)),(204,.lit (.int .i64 i.1))]) (dX ((0,⟨58,[.lit (.int .i64 n1),.sl v1.length (ec v1),.lit (.int .i64 n2),.sl v2.length (ec v2),.lit (.int .i64 T)],false⟩)::(1,⟨29,kI n prec n,false⟩)::nWB 3 i.1 (sC S i.1)) 4 (n) (gOz (cL o0 te (zI m) (lS k) prec (max prec 1) 0 0) i.1)) (n+4)) (fun i=>n-i.1) ⟨0,by omega⟩ ?_ ?_
        ·simp only[st]
         have hm0:(0∈([]:List Nat))=False:=by simp
         have hm1:(1∈([]:List Nat))=False:=by simp
         have hN0:(0<n+4)=True:=eq_true (by omega)
         have hN1:(1<n+4)=True:=eq_true (by omega)
         have hN2:(2<n+4)=True:=eq_true (by omega)
         have hN3:(3<n+4)=True:=eq_true (by omega)
         refine aUi (y:=n+4+777) (x:=n+4+778) ?_ (by simp[aB]) ?_ ?_ (fun j _=>aIf _ _ _) ?_ (by omega) ?_
         ·simp(disch:=omega) only[bI,cM,Nat.reduceEqDiff,↓reduceIte,if_neg,F0,hm0,hm1,Option.map_some]
          all_goals(first |done |rfl |trace_state)
         ·simp(disch:=omega) only[bI,cM,Nat.reduceEqDiff,↓reduceIte,if_neg,F1,hm0,hm1,Option.map_some]
          all_goals(first |done |rfl |trace_state)
         ·intro j hj
          simp(disch:=omega) only[bI,if_neg,FI j hj]
          unfold gO gOz
          rw[decide_eq_false (by omega)]
         ·intro p hp
          simp[nWB]at hp
         ·simp(maxSteps:=5000000) only[nW0,nWs,List.forall_mem_cons,List.not_mem_nil,false_imp_iff,implies_true,and_true,aG,dg,renL,renLs,simprocAttr,bl,i64,smT,smO,smE,F0,F1,F2,hN0,hN1,hN2,hN3,oH,Nat.reduceLT,List.getD_cons_zero,List.getD_cons_succ,↓reduceIte]
          all_goals(first |done |trace_state)
        ·rintro⟨i,hi⟩
         simp only[st]
         refine gz4 fun HH F0 F1 F3 FI=> ?_
         have hbI:both=(decide ((k:Int)=2) && decide ((n1:Int)=1) && decide ((n2:Int)=1)):=by
          have q:∀ a b:Nat,decide (a=b)=decide ((a:Int)=(b:Int)):=fun a b=>decide_eq_decide.2 (by omega)
          rw[hb,q,q,q];rfl
         have hsl:=aKu S i
         have hst:(sC S i).take (i*2)=sC S i:=List.take_of_length_le (by omega)
         by_cases hin:i<n
         ·have hg:=aRp (P:=prec) hin hin
          have hkl:=aKx n prec n
          obtain⟨_,_,sa,sn,scs,es1,es2⟩:=hS i
          obtain⟨xn,xcs,ex⟩:=hX i
          have g1:=gra i hin
          have g2:=gno i hin
          rw[ex]at g1 g2
          rw[es1,es2]at g2
          have hsc:=aKv S i
          rw[es1,es2]at hsc
          have hib:(i+1)*64≤140737488355328:=by omega
          have FIi:HH (i+4)=some ⟨47,oc (cL o0 te (zI m) (lS k) prec (max prec 1) 0 0 i),false⟩:=by
           rw[FI i hin]
           unfold gOz
           rw[decide_eq_false (by omega)]
          have hcl:=aRn o0 te (zI m) (lS k) prec (max prec 1) 0 0 i
          have hol:=aA4 (cL o0 te (zI m) (lS k) prec (max prec 1) 0 0 i)
          rw[hcl]at hol
          simp only[i64]at g1 g2 hsc
          generalize hCF:cL o0 te (zI m) (lS k) prec (max prec 1) 0 0 i=CFi at*
          by_cases h0:i=0
          ·have hsc1:sC S 1=[.lit (.int .i64 sa), .sl sn scs]:=by
            have e:sC S (0+1)=sC S 0++_:=h0 ▸ hsc
            rw[e,show sC S 0=[]by with_unfolding_all rfl,List.nil_append]
           have FIi:HH 4=some ⟨47,oc CFi,false⟩:=by rw[← FIi,h0]
           subst h0
           rw[List.drop_zero,Nat.zero_add]at hg
           rw[nW0]
           rcases cs4 hbI with⟨e1,e2,e3,hbv⟩ |⟨e1,e2,e3,hbv⟩ |⟨e1,e2,e3,hbv⟩ |⟨e1,e2,e3,hbv⟩
           all_goals
            rw[hbv]at g1
            (repeat(first|apply zO (by decide+kernel)|apply zP (by decide+kernel)|(apply zS;(case h=>constructor<;>decide))|((first|apply cD rfl|apply aR|apply zT rfl (by decide) rfl);(case hs=>(simp(disch:=first|omega|exact kD rfl|exact kX rfl) only[smY,simprocAttr,bl,i64,smT,smO,smE,F0,F1,hg,hkl,FIi,hol,lU,@lD,@iA,e1,e2,e3];exact rfl));first|refine cB ?_|refine cC ?_|refine zq ?_|(case hg=>assumption))))
            refine⟨⟨0+1,by omega⟩,?_,by simp only;omega⟩
            exact sz4 F0 F1 FI (by omega) (n+4+1+2+29+3) (4) rfl (fun j=>(hS j).2.2) (by simp(disch:=omega) only[bI,cM,Nat.reduceEqDiff,↓reduceIte,if_pos,if_neg,hsc1,Nat.zero_add];all_goals(first |done |rfl)) (by simp(disch:=omega) only[bI,cM,if_neg,FIi,List.mem_singleton,Option.map_some,↓reduceIte,hCF])
          ·have F3':=F3 h0
           rw[nWn h0]
           rcases cs4 hbI with⟨e1,e2,e3,hbv⟩ |⟨e1,e2,e3,hbv⟩ |⟨e1,e2,e3,hbv⟩ |⟨e1,e2,e3,hbv⟩
           all_goals
            rw[hbv]at g1
            (repeat(first|apply zO (by decide+kernel)|apply zP (by decide+kernel)|(apply zS;(case h=>constructor<;>decide))|((first|apply cD rfl|apply aR|apply zT rfl (by decide) rfl);(case hs=>(simp(disch:=first|omega|exact kD rfl|exact kX rfl) only[smY,simprocAttr,bl,i64,smT,smO,smE,F0,F1,hg,hkl,FIi,hol,lU,@lD,@iA,F3',hsl,hst,hib,e1,e2,e3];exact rfl));first|refine cB ?_|refine cC ?_|refine zq ?_|(case hg=>assumption))))
            refine⟨⟨i+1,by omega⟩,?_,by simp only;omega⟩
            exact sz4 F0 F1 FI (by omega) (n+4+1+2+29+3) (i+4) rfl (fun j=>(hS j).2.2) (by simp(disch:=omega) only[bI,cM,Nat.reduceEqDiff,↓reduceIte,if_pos,if_neg,hsc,Nat.zero_add];all_goals(first |done |rfl)) (by simp(disch:=omega) only[bI,cM,if_neg,FIi,List.mem_singleton,Option.map_some,↓reduceIte,hCF])
         ·obtain rfl:n=i:=by omega
          have F3':=F3 (by omega)
          have h0:¬n=0:=by omega
          have hpv:=fun(h:Nat→Option Blk) (ok:Nat→Bool) (k:Nat)=>lK (h:=h) (ok:=ok) (k:=k) (aUd (S:=S) (fun j=>⟨(hS j).1,(hS j).2.1⟩) n)
          rw[nWn h0]
          (repeat(first|apply zO (by decide+kernel)|apply zP (by decide+kernel)|(apply zS;(case h=>constructor<;>decide))|((first|apply cD rfl|apply aR|apply zT rfl (by decide) rfl);(case hs=>(simp(disch:=first|omega|exact kD rfl|exact kX rfl) only[smY,simprocAttr,bl,i64,smT,smO,smE,F0,F1,F3',hsl,hst,hpv];exact rfl));first|refine cB ?_|refine cC ?_|refine zq ?_|(case hg=>assumption))))
          ((first|apply dG|apply dI);case hres=>(simp only[iC];simp(disch:=first|omega|exact kD rfl|exact kX rfl) only[smY,simprocAttr,bl,i64,smT,smO,smE,F0,F1,F3',hsl,hst,hpv];exact rfl))
          simp(disch:=first|omega|exact kD rfl|exact kX rfl) only[smY,simprocAttr,bl,i64,smT,smO,smE,F0,F1,F3',hsl,hst,hpv]
end
section
open Go Go.Lg Go.Num
noncomputable def bD3 (m e:Nat):Bool:=dvC (dF m) ((dF m).length-1) (e+2-(dF m).length) (unZ e) fun r=>Nat.ble (bR r).length ((dF m).length-1) && (bR r).all fun z=>Nat.ble z.natAbs 10
noncomputable def bD4 (m:Nat):Bool:=match evo aXk 124 [.lit (.int .i64 (.ofNat m))]with
 |some (.lit (.int .i64 (.ofNat e)))=>Nat.beq e 0
 |_=>false
theorem cGe {m e:Nat}(hm:m∈qS) (h:bD3 m e=true):(zI m e).length≤(dF m).length-1∧∀ z∈zI m e,z.natAbs≤10:=by
 obtain⟨c1,c2,c3,c4⟩:=wE hm
 unfold bD3 at h
 rw[bDd (by omega)]at h
 have e1:bR (dvI (dF m) (e+2-(dF m).length) (unZ e))=zI m e:=rfl
 rw[e1]at h
 simpa only[Bool.and_eq_true,Nat.ble_eq,List.all_eq_true]using h
theorem cGf {m:Nat}(h:bD4 m=true):PureGood Tryz.prog 124 [i64 m] (i64 0):=by
 unfold bD4 at h
 split at h
 ·rename_i e he
  have:=Nat.eq_of_beq_eq_true h
  subst this
  exact dE vM he
 ·cases h
theorem bWm:(qS.all fun m=>(List.range m).all (bD3 m))=true:=by kernel_rfl
theorem bWn:qS.all bD4=true:=by kernel_rfl
theorem bJn:∀ m∈qS,(Nat.ble 2 (dF m).length && Nat.ble (dF m).length 13)=true:=by
 have h:(qS.all fun m=>Nat.ble 2 (dF m).length && Nat.ble (dF m).length 13)=true:=by decide+kernel
 exact List.all_eq_true.1 h
attribute [local irreducible] lrun lwp exThen exBlk keep goodPost sg mg oc op
theorem aRu {m e:Nat}(hm:m∈qS) (he:e<m):PureGood Tryz.prog 175 [i64 m,i64 e,bF 1] (encF (rz (zI m e))):=by
 obtain⟨m1,m2⟩:=bDf hm
 have gf:=oE hm
 have gn:=wF hm (unO e) (D:=1) (L:=1) (by decide) (by decide+kernel) (by omega) (by rw[lE];omega) (fun j=>by
  rw[aKd,mD,aKf]
  refine aKg ?_
  split <;>decide) (fun q hq=>by
  unfold unO at hq
  simp only[List.mem_append,List.mem_replicate,List.mem_singleton]at hq
  rcases hq with⟨_,h⟩ |h
  ·cases h
  ·injection h with h
   rw[h]
   decide+kernel)
 rw[aRc hm,lE]at gn
 have hset:=kT (l:=List.replicate (e+1) none) (j:=e) (by simp) 1
 have e1:(List.replicate (e+1) (none:Option Rat)).set e (some 1)=unO e:=by
  unfold unO
  rw[List.replicate_succ',List.set_append_right _ _ (by simp)]
  simp
 rw[e1]at hset
 have hl:=lE e
 have q:(e:Int).tmod (m:Int)=e:=Int.tmod_eq_of_lt (by omega) (by omega)
 have q2:(e:Int) % (m:Int)=e:=Int.emod_eq_of_lt (by omega) (by omega)
 have q3:e % m=e:=Nat.mod_eq_of_lt he
 generalize rz (zI m e)=R at*
 generalize mB (dF m)=W at*
 generalize (dF m).length=cl at*
 simp only[bD,aH,i64]at*
 refine aA bC Tryz.func175 rfl (by decide) (nt:=39) rfl (rs:=[.tmp 6]) rfl (aZ rfl) ?_
 (repeat(first|apply zO (by decide+kernel)|apply zP (by decide+kernel)|(apply zS;(case h=>constructor<;>decide))|((first|apply cD rfl|apply aR|apply zT rfl (by decide) rfl);(case hs=>(simp(disch:=first|omega|exact kD rfl|exact kX rfl) only[smY,simprocAttr,bl,i64,smT,smO,hset,lD,@iA,hl,q,q2,q3];exact rfl));first|refine cB ?_|refine cC ?_|refine zq ?_|(case hg=>assumption))))
 ((first|apply dG|apply dI);case hres=>(simp only[iC];simp(disch:=first|omega|exact kD rfl|exact kX rfl) only[smY,simprocAttr,bl,i64,smT,smO,hset,lD,@iA,hl,q,q2,q3];exact rfl))
 simp(disch:=first|omega|exact kD rfl|exact kX rfl) only[smY,simprocAttr,bl,i64,smT,smO,hset,lD,@iA,hl,q,q2,q3]
theorem aRv {m e:Nat}(hm:m∈qS) (he:e<m):PureGood Tryz.prog 84 [i64 m,i64 e] (.tup [encF (rz (zI m e)),i64 0]):=by
 have g1:=cGf (List.all_eq_true.1 bWn m hm)
 have g2:=aRu hm he
 have g3:=gW 1 (by omega)
 rw[show((1:Int):Rat)=1 from rfl]at g3
 generalize rz (zI m e)=R at*
 simp only[bD,aH,i64]at*
 refine aA bC Tryz.func84 rfl (by decide) (nt:=16) rfl (rs:=[.tmp 4,.tmp 5]) rfl (aZ rfl) ?_
 refine zU ?_
 exact zQ5
end
section
open Go Go.Lg Go.Num
def nVi (b m:Nat):LV:=if m=0 then nilL else .own b 0 m 2
def nBi (b m:Nat) (cs:List LV):List (Nat×Blk):=if m=0 then[]else[(b,⟨45,cs,false⟩)]
theorem uP (b:Nat):nVi b 0=nilL:=rfl
theorem oJ {b m:Nat}(h:m=0):nVi b m=nilL:=if_pos h
theorem oK {b m:Nat}(h:m≠0):nVi b m= .own b 0 m 2:=if_neg h
theorem fY (b m:Nat):nVi b (m+1)= .own b 0 (m+1) 2:=rfl
theorem oN {b m:Nat}{cs:List LV}(h:m=0):nBi b m cs=[]:=if_pos h
theorem oO {b m:Nat}{cs:List LV}(h:m≠0):nBi b m cs=[(b,⟨45,cs,false⟩)]:=if_neg h
theorem uQ (b:Nat) (cs:List LV):nBi b 0 cs=[]:=rfl
theorem fZ (b m:Nat) (cs:List LV):nBi b (m+1) cs=[(b,⟨45,cs,false⟩)]:=rfl
theorem sG {L:List Int}{m:Nat}(h:m<L.length):L.take (m+1)=L.take m++[L.getD m 0]:=by
 rw[List.take_succ_eq_append_getElem h]
 simp[List.getD,h]
theorem mX (l:List Int):nU l= .sl l.length (ic l):=rfl
theorem zR (L:List Int) (m:Nat):(ic L).take (m*2)=ic (L.take m):=by
 rcases Nat.lt_or_ge m L.length with h |h
 ·have e:ic L=ic (L.take m)++ic (L.drop m):=by
   conv=>lhs;rw[← List.take_append_drop m L]
   simp only[ic,List.flatMap_append]
  have hl:(ic (L.take m)).length=m*2:=by rw[tW,List.length_take];omega
  rw[e,← hl,List.take_left]
 ·rw[List.take_of_length_le h,List.take_of_length_le (by rw[tW];omega)]
theorem bD5:∀ {a b:List Int},rz a=rz b→a=b
 |[],[],_=>rfl
 |[],_::_,h=>by cases h
 |_::_,[],h=>by cases h
 |x::a,y::b,h=>by
  have h:((x:Int):Rat)::rz a=((y:Int):Rat)::rz b:=h
  injection h with h1 h2
  rw[Rat.intCast_inj.1 h1,bD5 h2]
theorem sH (L:List Int):∃ m,m≤L.length∧bR L=L.take m∧(∀ j,m≤j→L.getD j 0=0)∧(0<m→L.getD (m-1) 0≠0):=by
 obtain⟨m,h1,h2,h3,h4⟩:=jX (rz L)
 rw[bX]at h1
 refine⟨m,h1,bD5 ?_,fun j hj=> ?_,fun h e=>h4 h ?_⟩
 ·rw[oC,h2]
  simp[rz,List.map_take]
 ·have:=h3 j hj
  rw[mD]at this
  exact Rat.intCast_inj.1 (this.trans Rat.intCast_zero.symm)
 ·rw[mD,e];rfl
attribute [local irreducible] lrun lwp exThen exBlk keep goodPost sg mg
theorem iB (L:List Int) (hl:L.length≤100000) (hf:∀ j,j<L.length→len (L.getD j 0)≤100000):PureGood Tryz.prog 345 [nU L] (nU (bR L)):=by
 obtain⟨k,hk0,hkt,hk1,hk2⟩:=sH L
 obtain⟨N,hlen⟩:∃ N,L.length=N:=⟨_,rfl⟩
 have hkl:(bR L).length=k:=by rw[hkt,List.length_take];omega
 rw[mX,mX,hkl,hkt,hlen]
 rw[hlen]at hk0 hl hf
 refine aA bC Tryz.func345 rfl (by decide) (nt:=38) rfl (rs:=[.tmp 2]) rfl (aZ rfl) ?_
 refine dM ?_
 refine aI (α:={m:Nat // m≤N}) (fun m=>st 38 (lk [(0,.sl N (ic L)),(3,nVi 0 m.1),(4,i64 m.1)]) (cP (nBi 0 m.1 (ic (L.take m.1)))) 1) (fun m=>N-m.1) ⟨0,by omega⟩ ?_ ?_
 ·simp only[uP,uQ]
  (refine Sub.plain ?_;simp only[aG,dg,renL,renLs,simprocAttr,bl,i64,smT])
  all_goals(first |done |simp)
 ·rintro⟨m,hm⟩
  simp only[st]
  by_cases hlt:m<N
  ·have g2:=fC (L.getD m 0) (by have:=hf m (by omega);omega)
   have happ:=sG (L:=L) (m:=m) (by omega)
   have htl:(L.take m).length=m:=by rw[List.length_take];omega
   generalize hq:L.getD m 0=q at*
   simp only[aW]at g2
   by_cases h0:m=0
   ·simp only[oJ h0,oN h0]
    refine cW hq ?_
    refine⟨⟨m+1,by omega⟩,?_,by simp only;omega⟩
    subst h0
    simp only[fY,fZ]
    (refine Sub.heapL [12] rfl (by decide) ?_ (by simp only[fB];decide) ?_ ?_;all_goals(first|(simp only[aB,aG,dg,renL,renLs,simprocAttr,bl,i64,smT];done) |(simp only[aG,dg,renL,renLs,simprocAttr,bl,i64,smT];(repeat' apply And.intro);all_goals rfl) |(simp only[aG,dg,renL,renLs,simprocAttr,bl,i64,smT]) |skip))
    have e:L.take 1=[q]:=happ
    all_goals(first |done |(rw[e,← aAu]))
   ·simp only[oK h0,oO h0]
    refine cW hq ?_
    refine⟨⟨m+1,by omega⟩,?_,by simp only;omega⟩
    simp only[fY,fZ]
    (refine Sub.heapL [12] rfl (by decide) ?_ (by simp only[fB];decide) ?_ ?_;all_goals(first|(simp only[aB,aG,dg,renL,renLs,simprocAttr,bl,i64,smT];done) |(simp only[aG,dg,renL,renLs,simprocAttr,bl,i64,smT];(repeat' apply And.intro);all_goals rfl) |(simp only[aG,dg,renL,renLs,simprocAttr,bl,i64,smT]) |skip))
    all_goals(first |done |(rw[happ,← tX]))
  ·obtain rfl:m=N:=by omega
   have htL:L.take m=L:=List.take_of_length_le (by omega)
   rw[htL]
   by_cases h0:m=0
   ·simp only[oJ h0,oN h0]
    obtain rfl:k=0:=by omega
    subst h0
    (refine dM ?_;refine aI (α:=Unit) (fun _=>st 38 (lk [(3,nilL),(5,i64 0)]) (cP []) 0) (fun _=>0) () (by(refine Sub.plain ?_;simp only[aG,dg,renL,renLs,simprocAttr,bl,i64,smT]);all_goals done) (fun _=> ?_);simp only[st];refine dM ?_;refine kZ rfl (by decide) rfl ?_;refine dM ?_;((first|apply dG|apply dI);case hres=>(simp only[iC];simp(disch:=first|omega|exact kD rfl|exact kX rfl) only[smY,simprocAttr,bl,i64,smT];exact rfl));simp(disch:=first|omega|exact kD rfl|exact kX rfl) only[smY,simprocAttr,bl,i64,smT];first |done |rfl)
   ·simp only[oK h0,oO h0]
    refine dM ?_
    refine aI (α:={j:Nat // k≤j∧j≤m}) (fun j=>st 38 (lk [(3,.own 0 0 m 2),(5,i64 j.1)]) (cP [(0,⟨45,ic L,false⟩)]) 1) (fun j=>j.1) ⟨m,by omega,Nat.le_refl _⟩ ?_ ?_
    ·exact zL0 [0]
    ·rintro⟨j,hj1,hj2⟩
     simp only[st]
     rcases j with _ |j
     ·obtain rfl:k=0:=by omega
      refine dM ?_
      refine kZ rfl (by decide) rfl ?_
      refine dM ?_
      (((first|apply dG|apply dI);case hres=>(simp only[iC];simp(disch:=first|omega|exact kD rfl|exact kX rfl) only[smY,simprocAttr,bl,i64,smT];exact rfl));simp(disch:=first|omega|exact kD rfl|exact kX rfl) only[smY,simprocAttr,bl,i64,smT];first |done |rfl |(simp only[zR];simp(disch:=first|omega|exact kD rfl|exact kX rfl) only[smY,simprocAttr,bl,i64,smT];done) |(simp only[zR];simp(disch:=first|omega|exact kD rfl|exact kX rfl) only[smY,simprocAttr,bl,i64,smT];rfl))
     ·have g3:=rL (L.getD j 0) (by have:=hf j (by omega);omega)
      have e3:((j+1:Nat):Int)-1=(j:Int):=by omega
      have hic:(ic L).length=m*2:=by rw[tW,hlen]
      by_cases hjk:k=j+1
      ·have hnz:¬(L.getD j 0).sign=0:=fun e=>by
        have:=hk2 (by omega)
        rw[hjk,Nat.add_sub_cancel]at this
        exact this (Int.sign_eq_zero_iff_zero.1 e)
       subst hjk
       generalize hq:L.getD j 0=q at*
       generalize q.sign=s at*
       simp only[aW,i64]at g3
       refine cW (nd hq e3) ?_
       (((first|apply dG|apply dI);case hres=>(simp only[iC];simp(disch:=first|omega|exact kD rfl|exact kX rfl) only[smY,simprocAttr,bl,i64,smT,hq,e3];exact rfl));simp(disch:=first|omega|exact kD rfl|exact kX rfl) only[smY,simprocAttr,bl,i64,smT,hq,e3];first |done |rfl |(simp only[zR];simp(disch:=first|omega|exact kD rfl|exact kX rfl) only[smY,simprocAttr,bl,i64,smT,hq,e3];done) |(simp only[zR];simp(disch:=first|omega|exact kD rfl|exact kX rfl) only[smY,simprocAttr,bl,i64,smT,hq,e3];rfl))
      ·have hz:(L.getD j 0).sign=0:=by
        rw[hk1 j (by omega)]
        rfl
       rw[hz]at g3
       generalize hq:L.getD j 0=q at*
       simp only[aW,i64]at g3
       refine cW (nd hq e3) ?_
       refine⟨⟨j,by omega,by omega⟩,?_,by simp only;omega⟩
       exact zL0 [0]
end
section
open Go Go.Lg Go.Num
def aOm (l:List Int):Prop:=l.length≤200∧∀ j,(l.getD j 0).natAbs≤100000
theorem fP {z:Int}(h:z.natAbs<4294967296):len z≤1:=bG (e:=1) (by omega)
def aKz (f g:List Int):List Int:=(List.range (max f.length g.length)).map fun i=>f.getD i 0+g.getD i 0
def aBk (f:List Int) (a:Int):List Int:=f.map fun z=>z*a
def cvS (a b:List Int) (n:Nat):Nat→Int
 |0=>0
 |i+1=>if i<a.length∧n-i<b.length then cvS a b n i+a.getD i 0*b.getD (n-i) 0 else cvS a b n i
def aRw (a b:List Int):List Int:=(List.range (a.length+b.length-1)).map fun n=>cvS a b n (n+1)
theorem bD6 {f g:List Int}{i:Nat}(h:i<max f.length g.length):(aKz f g).getD i 0=f.getD i 0+g.getD i 0:=by
 unfold aKz
 simp only[List.getD,List.getElem?_map,List.getElem?_range h,Option.map_some,Option.getD_some]
theorem bD7 (f:List Int) (a:Int) (i:Nat):(aBk f a).getD i 0=f.getD i 0*a:=by
 unfold aBk
 rcases Nat.lt_or_ge i f.length with h |h
 ·simp[List.getD,h]
 ·simp[List.getD,h]
theorem bD8 {a b:List Int}{n:Nat}(h:n<a.length+b.length-1):(aRw a b).getD n 0=cvS a b n (n+1):=by
 unfold aRw
 simp[List.getD,h]
theorem aUm {a b:List Int}{n B:Nat}(ha:∀ j,(a.getD j 0).natAbs≤B) (hb:∀ j,(b.getD j 0).natAbs≤B):∀ i,(cvS a b n i).natAbs≤i*(B*B)
 |0=>by simp[cvS]
 |i+1=>by
  have ih:=aUm (n:=n) ha hb i
  have hm:(a.getD i 0*b.getD (n-i) 0).natAbs≤B*B:=by
    rw[Int.natAbs_mul]
    exact Nat.mul_le_mul (ha i) (hb _)
  unfold cvS
  rw[Nat.add_mul,Nat.one_mul]
  split
  · have:=Int.natAbs_add_le (cvS a b n i) (a.getD i 0*b.getD (n-i) 0)
    omega
  · omega
attribute [local irreducible] lrun lwp exThen exBlk keep goodPost sg mg
theorem aIj (f:List Int) (i:Nat) (hi:i≤1000) (hl:f.length≤1000) (hf:∀ j,(f.getD j 0).natAbs≤100000):PureGood Tryz.prog 351 [.sl f.length (ic f),i64 i] (aO (f.getD i 0)):=by
 have g0:=qC 0 (by omega)
 have g1:=fC (f.getD i 0) (by have:=fP (z:=f.getD i 0) (by have:=hf i;omega);omega)
 by_cases h:i<f.length
 ·generalize hq:f.getD i 0=q at*
  simp only[aW,i64]at*
  refine aA bC Tryz.func351 rfl (by decide) (nt:=19) rfl (rs:=[.cell 4 45]) rfl (aZ rfl) ?_
  refine cW hq ?_
  exact aL4 hq
 ·have hz:f.getD i 0=0:=by simp[List.getD,Nat.le_of_not_lt h]
  rw[hz]
  simp only[aW,i64]at*
  refine aA bC Tryz.func351 rfl (by decide) (nt:=19) rfl (rs:=[.cell 4 45]) rfl (aZ rfl) ?_
  refine dM ?_
  exact mJ
theorem aFx (f g:List Int) (hf:aOm f) (hg:aOm g):PureGood Tryz.prog 348 [nU f,nU g] (nU (bR (aKz f g))):=by
 obtain⟨lf,bf⟩:=hf
 obtain⟨lg,bg⟩:=hg
 obtain⟨L,hL⟩:∃ L,L=aKz f g:=⟨_,rfl⟩
 have hlen:L.length=max f.length g.length:=by rw[hL];simp[aKz]
 have hget:∀ i,i<max f.length g.length→L.getD i 0=f.getD i 0+g.getD i 0:=fun i hi=>by rw[hL];exact bD6 hi
 have gN:=iB L (by omega) (fun j hj=>by
  rw[hget j (by omega)]
  have h1:=bf j
  have h2:=bg j
  have:=fP (z:=f.getD j 0+g.getD j 0) (by omega)
  omega)
 rw[← hL]
 clear hL
 obtain⟨N,hN⟩:∃ N,max f.length g.length=N:=⟨_,rfl⟩
 rw[hN]at hlen hget
 simp only[mX,hlen]at gN⊢
 generalize ic (bR L)=Z at*
 generalize (bR L).length=zl at*
 refine aA bC Tryz.func348 rfl (by decide) (nt:=31) rfl (rs:=[.tmp 4]) rfl (aZ rfl) ?_
 refine dM ?_
 refine aI (α:={m:Nat // m≤N}) (fun m=>st 31 (lk [(0,.sl f.length (ic f)),(1,.sl g.length (ic g)),(5,nVi 0 m.1),(6,.lit (.int .i64 m.1))]) (cP (nBi 0 m.1 (ic (L.take m.1)))) 1) (fun m=>N-m.1) ⟨0,by omega⟩ ?_ ?_
 ·simp only[uP,uQ]
  (refine Sub.plain ?_;simp only[aG,dg,renL,renLs,simprocAttr,bl,i64,smT])
  all_goals(first |done |simp)
 ·rintro⟨m,hm⟩
  simp only[st]
  by_cases hlt:m<N
  ·have g1:=aIj f m (by omega) (by omega) bf
   have g2:=aIj g m (by omega) (by omega) bg
   have h1:=bf m
   have h2:=bg m
   have l1:=fP (z:=f.getD m 0) (by omega)
   have l2:=fP (z:=g.getD m 0) (by omega)
   have g3:=qE (f.getD m 0) (g.getD m 0) (by omega) (by omega)
   rw[← hget m hlt]at g3
   have happ:=sG (L:=L) (m:=m) (by omega)
   have htl:(L.take m).length=m:=by rw[List.length_take];omega
   generalize L.getD m 0=S at*
   generalize f.getD m 0=x at*
   generalize g.getD m 0=y at*
   simp only[aW,i64]at g1 g2 g3
   by_cases hfm:m<f.length
   ·have hfi:((m:Int)<(f.length:Int)):=by omega
    by_cases h0:m=0
    ·simp only[oJ h0,oN h0]
     refine cW hN ?_
     refine⟨⟨m+1,by omega⟩,?_,by simp only;omega⟩
     subst h0
     simp only[fY,fZ]
     (refine Sub.heapL [20] rfl (by decide) ?_ (by simp only[fB];decide) ?_ ?_;all_goals(first|(simp only[aB,aG,dg,renL,renLs,simprocAttr,bl,i64,smT];done) |(simp only[aG,dg,renL,renLs,simprocAttr,bl,i64,smT];(repeat' apply And.intro);all_goals rfl) |(simp only[aG,dg,renL,renLs,simprocAttr,bl,i64,smT]) |skip))
     have e:L.take 1=[S]:=happ
     all_goals(first |done |(rw[e,← aAu];first |done |exact⟨trivial,rfl⟩) |trace_state)
    ·simp only[oK h0,oO h0]
     refine cW hN ?_
     refine⟨⟨m+1,by omega⟩,?_,by simp only;omega⟩
     simp only[fY,fZ]
     (refine Sub.heapL [20] rfl (by decide) ?_ (by simp only[fB];decide) ?_ ?_;all_goals(first|(simp only[aB,aG,dg,renL,renLs,simprocAttr,bl,i64,smT];done) |(simp only[aG,dg,renL,renLs,simprocAttr,bl,i64,smT];(repeat' apply And.intro);all_goals rfl) |(simp only[aG,dg,renL,renLs,simprocAttr,bl,i64,smT]) |skip))
     all_goals(first |done |(rw[happ,← tX];first |done |exact⟨trivial,rfl⟩) |trace_state)
   ·have hgm:m<g.length:=by omega
    by_cases h0:m=0
    ·simp only[oJ h0,oN h0]
     refine cW hN ?_
     refine⟨⟨m+1,by omega⟩,?_,by simp only;omega⟩
     subst h0
     simp only[fY,fZ]
     (refine Sub.heapL [20] rfl (by decide) ?_ (by simp only[fB];decide) ?_ ?_;all_goals(first|(simp only[aB,aG,dg,renL,renLs,simprocAttr,bl,i64,smT];done) |(simp only[aG,dg,renL,renLs,simprocAttr,bl,i64,smT];(repeat' apply And.intro);all_goals rfl) |(simp only[aG,dg,renL,renLs,simprocAttr,bl,i64,smT]) |skip))
     have e:L.take 1=[S]:=happ
     all_goals(first |done |(rw[e,← aAu];first |done |exact⟨trivial,rfl⟩) |trace_state)
    ·simp only[oK h0,oO h0]
     refine cW hN ?_
     refine⟨⟨m+1,by omega⟩,?_,by simp only;omega⟩
     simp only[fY,fZ]
     (refine Sub.heapL [20] rfl (by decide) ?_ (by simp only[fB];decide) ?_ ?_;all_goals(first|(simp only[aB,aG,dg,renL,renLs,simprocAttr,bl,i64,smT];done) |(simp only[aG,dg,renL,renLs,simprocAttr,bl,i64,smT];(repeat' apply And.intro);all_goals rfl) |(simp only[aG,dg,renL,renLs,simprocAttr,bl,i64,smT]) |skip))
     all_goals(first |done |(rw[happ,← tX];first |done |exact⟨trivial,rfl⟩) |trace_state)
  ·obtain rfl:m=N:=by omega
   have htL:L.take m=L:=List.take_of_length_le (by omega)
   rw[htL]
   by_cases h0:m=0
   ·try(exfalso;omega)
    all_goals
     simp only[oJ h0,oN h0]
     have hL0:L=[]:=List.eq_nil_of_length_eq_zero (by omega)
     rw[hL0]at gN
     rw[show ic []=[]from rfl]at gN
     subst h0
     refine dM ?_
     exact mJ
   ·simp only[oK h0,oO h0]
    refine dM ?_
    exact mJ
theorem aK0 (f:List Int) (a:Int) (hf:aOm f) (ha:a.natAbs≤1000):PureGood Tryz.prog 350 [nU f,aO a] (nU (bR (aBk f a))):=by
 obtain⟨lf,bf⟩:=hf
 obtain⟨L,hL⟩:∃ L,L=aBk f a:=⟨_,rfl⟩
 have hlen:L.length=f.length:=by rw[hL];simp[aBk]
 have hget:∀ i,L.getD i 0=f.getD i 0*a:=fun i=>by rw[hL];exact bD7 f a i
 have hb:∀ j,(f.getD j 0*a).natAbs<4294967296:=fun j=>by
  rw[Int.natAbs_mul]
  have:=Nat.mul_le_mul (bf j) ha
  omega
 have gN:=iB L (by omega) (fun j hj=>by
  rw[hget j]
  have:=fP (hb j)
  omega)
 rw[← hL]
 clear hL
 obtain⟨N,hN⟩:∃ N,f.length=N:=⟨_,rfl⟩
 rw[hN]at hlen lf
 simp only[mX,hlen,hN,aW]at gN⊢
 have lA:=fP (z:=a) (by omega)
 generalize ic (bR L)=Z at*
 generalize (bR L).length=zl at*
 refine aA bC Tryz.func350 rfl (by decide) (nt:=24) rfl (rs:=[.tmp 4]) rfl (aZ rfl) ?_
 refine dM ?_
 refine aI (α:={m:Nat // m≤N}) (fun m=>st 24 (lk [(0,.sl N (ic f)),(3,.ptr 0 0),(5,nVi 1 m.1),(6,.lit (.int .i64 m.1))]) (cP ((0,⟨45,[sg a,mg a],false⟩)::nBi 1 m.1 (ic (L.take m.1)))) 2) (fun m=>N-m.1) ⟨0,by omega⟩ ?_ ?_
 ·simp only[uP,uQ]
  exact zL0 [0,99]
 ·rintro⟨m,hm⟩
  simp only[st]
  by_cases hlt:m<N
  ·have l1:=fP (z:=f.getD m 0) (by have:=bf m;omega)
   have g3:=fN (f.getD m 0) a (by omega) (by omega)
   rw[← hget m]at g3
   have happ:=sG (L:=L) (m:=m) (by omega)
   have htl:(L.take m).length=m:=by rw[List.length_take];omega
   generalize L.getD m 0=S at*
   generalize hx:f.getD m 0=x at*
   simp only[aW,i64]at g3
   by_cases h0:m=0
   ·simp only[oJ h0,oN h0]
    refine cW (nd hx hN) ?_
    refine⟨⟨m+1,by omega⟩,?_,by simp only;omega⟩
    subst h0
    simp only[fY,fZ]
    (refine Sub.heapL [0,14] rfl (by decide) ?_ (by simp only[fB];decide) ?_ ?_;all_goals(first|(simp only[aB,aG,dg,renL,renLs,simprocAttr,bl,i64,smT];done) |(simp only[aG,dg,renL,renLs,simprocAttr,bl,i64,smT];(repeat' apply And.intro);all_goals rfl) |(simp only[aG,dg,renL,renLs,simprocAttr,bl,i64,smT]) |skip))
    have e:L.take 1=[S]:=happ
    all_goals(first |done |(rw[e,← aAu];first |done |exact⟨trivial,rfl⟩) |trace_state)
   ·simp only[oK h0,oO h0]
    refine cW (nd hx hN) ?_
    refine⟨⟨m+1,by omega⟩,?_,by simp only;omega⟩
    simp only[fY,fZ]
    (refine Sub.heapL [0,14] rfl (by decide) ?_ (by simp only[fB];decide) ?_ ?_;all_goals(first|(simp only[aB,aG,dg,renL,renLs,simprocAttr,bl,i64,smT];done) |(simp only[aG,dg,renL,renLs,simprocAttr,bl,i64,smT];(repeat' apply And.intro);all_goals rfl) |(simp only[aG,dg,renL,renLs,simprocAttr,bl,i64,smT]) |skip))
    all_goals(first |done |(rw[happ,← tX];first |done |exact⟨trivial,rfl⟩) |trace_state)
  ·obtain rfl:m=N:=by omega
   have htL:L.take m=L:=List.take_of_length_le (by omega)
   rw[htL]
   by_cases h0:m=0
   ·try(exfalso;omega)
    all_goals
     simp only[oJ h0,oN h0]
     have hL0:L=[]:=List.eq_nil_of_length_eq_zero (by omega)
     rw[hL0]at gN
     rw[show ic []=[]from rfl]at gN
     subst h0
     refine dM ?_
     exact mJ
   ·simp only[oK h0,oO h0]
    refine dM ?_
    exact mJ
theorem aRx (f g:List Int) (hf:aOm f) (hg:aOm g) (hs:aOm (bR (aBk g (-1)))):PureGood Tryz.prog 342 [nU f,nU g] (nU (bR (aKz f (bR (aBk g (-1)))))):=by
 have g0:=qC (-1) (by omega)
 have g1:=aK0 g (-1) hg (by decide)
 have g2:=aFx f _ hf hs
 generalize bR (aKz f (bR (aBk g (-1))))=A at*
 generalize bR (aBk g (-1))=B at*
 simp only[mX,aW,i64]at*
 refine aA bC Tryz.func342 rfl (by decide) (nt:=10) rfl (rs:=[.tmp 4]) rfl (aZ rfl) ?_
 refine dM ?_
 exact mJ
theorem aK1 (f:List Int) (n:Nat) (hn:n≤200) (hf:aOm f):PureGood Tryz.prog 343 [nU f,i64 n] (nU (if(bR f).length=0 then[]else List.replicate n 0++bR f)):=by
 obtain⟨lf,bf⟩:=hf
 have gN:=iB f (by omega) (fun j hj=>by have:=fP (z:=f.getD j 0) (by have:=bf j;omega);omega)
 have hlt:=(sH f)
 have hzl:(bR f).length≤200:=by
  obtain⟨q,h1,h2,_⟩:=hlt
  rw[h2,List.length_take]
  omega
 have gz:=qC 0 (by omega)
 generalize bR f=A at*
 by_cases h0:A.length=0
 ·have hA:A=[]:=List.eq_nil_of_length_eq_zero h0
  subst hA
  rw[if_pos (show([]:List Int).length=0 from rfl)]
  simp only[mX,i64]at*
  refine aA bC Tryz.func343 rfl (by decide) (nt:=25) rfl (rs:=[.tmp 4]) rfl (aZ rfl) ?_
  refine dM ?_
  refine zR1 ?_
  simp(disch:=first|omega|exact kD rfl|exact kX rfl) only[smY,simprocAttr,bl,i64,smT]
  all_goals(first |done |rfl)
 ·rw[if_neg h0]
  have hrl:∀ m,(ic (List.replicate m (0:Int))).length=m*2:=fun m=>by rw[tW,List.length_replicate]
  have hrt:∀ m,(ic (List.replicate m (0:Int))).take (m*2)=ic (List.replicate m 0):=fun m=>List.take_of_length_le (by rw[hrl];omega)
  have hal:=tW A
  have hat:(ic A).take (A.length*2)=ic A:=List.take_of_length_le (by omega)
  have happ:ic (List.replicate n 0)++ic A=ic (List.replicate n 0++A):=by simp only[ic,List.flatMap_append]
  have hlen:(List.replicate n (0:Int)++A).length=n+A.length:=by simp
  have hft:(ic (List.replicate n 0++A)).take ((n+A.length)*2)=ic (List.replicate n 0++A):=List.take_of_length_le (by rw[tW,hlen];omega)
  have hA0:(A.length=0)=False:=eq_false h0
  simp only[mX,aW,i64]at gN gz⊢
  rw[hlen]
  refine aA bC Tryz.func343 rfl (by decide) (nt:=25) rfl (rs:=[.tmp 4]) rfl (aZ rfl) ?_
  refine dM ?_
  refine aI (α:={m:Nat // m≤n}) (fun m=>st 25 (lk [(1,.lit (.int .i64 n)),(5,.sl A.length (ic A)),(6,nVi 0 m.1),(7,.lit (.int .i64 m.1))]) (cP (nBi 0 m.1 (ic (List.replicate m.1 0)))) 1) (fun m=>n-m.1) ⟨0,by omega⟩ ?_ ?_
  ·simp only[uP,uQ]
   (refine Sub.plain ?_;simp only[aG,dg,renL,renLs,simprocAttr,bl,i64,smT])
   all_goals(first |done |simp)
  ·rintro⟨m,hm⟩
   simp only[st]
   have hap2:ic (List.replicate m 0)++[sg 0,mg 0]=ic (List.replicate (m+1) 0):=by rw[tX,← List.replicate_succ']
   by_cases hlt:m<n
   ·by_cases h0:m=0
    ·simp only[oJ h0,oN h0]
     refine dM ?_
     refine⟨⟨m+1,by omega⟩,?_,by simp only;omega⟩
     subst h0
     simp only[fY,fZ]
     (refine Sub.heapL [7] rfl (by decide) ?_ (by simp only[fB];decide) ?_ ?_;all_goals(first|(simp only[aB,aG,dg,renL,renLs,simprocAttr,bl,i64,smT];done) |(simp only[aG,dg,renL,renLs,simprocAttr,bl,i64,smT];(repeat' apply And.intro);all_goals rfl) |(simp only[aG,dg,renL,renLs,simprocAttr,bl,i64,smT]) |skip))
     all_goals(first |done |(rw[← hap2];rfl) |trace_state)
    ·simp only[oK h0,oO h0]
     refine cW (nd hrl hrt) ?_
     refine⟨⟨m+1,by omega⟩,?_,by simp only;omega⟩
     simp only[fY,fZ]
     (refine Sub.heapL [7] rfl (by decide) ?_ (by simp only[fB];decide) ?_ ?_;all_goals(first|(simp only[aB,aG,dg,renL,renLs,simprocAttr,bl,i64,smT];done) |(simp only[aG,dg,renL,renLs,simprocAttr,bl,i64,smT];(repeat' apply And.intro);all_goals rfl) |(simp only[aG,dg,renL,renLs,simprocAttr,bl,i64,smT]) |skip))
     all_goals(first |done |(rw[hap2]) |trace_state)
   ·obtain rfl:m=n:=by omega
    by_cases h0:m=0
    ·simp only[oJ h0,oN h0]
     subst h0
     rw[List.replicate_zero,List.nil_append,Nat.zero_add]
     refine cW (nd hal (nd hat hA0)) ?_
     exact aL4 (nd hal (nd hat hA0))
    ·simp only[oK h0,oO h0]
     refine cW (nd hrl (nd hrt (nd hal (nd hat (nd happ hft))))) ?_
     exact aL4 (nd hrl (nd hrt (nd hal (nd hat (nd happ hft)))))
theorem aRy (f g:List Int) (lf:f.length≤200) (bf:∀ j,(f.getD j 0).natAbs≤1000) (lg:g.length≤200) (bg:∀ j,(g.getD j 0).natAbs≤1000):PureGood Tryz.prog 349 [nU f,nU g] (nU (if(bR f).length=0∨(bR g).length=0 then[]else bR (aRw (bR f) (bR g)))):=by
 have tb:∀ l:List Int,l.length≤200→(∀ j,(l.getD j 0).natAbs≤1000)→(bR l).length≤200∧∀ j,((bR l).getD j 0).natAbs≤1000:=by
  intro l hl hb
  obtain⟨q,h1,h2,_⟩:=sH l
  rw[h2,List.length_take]
  refine⟨by omega,fun j=> ?_⟩
  by_cases hj:j<q
  ·have:(l.take q).getD j 0=l.getD j 0:=by simp[List.getD,hj]
   rw[this]
   exact hb j
  ·have:(l.take q).getD j 0=0:=by rw[List.getD,List.getElem?_take,if_neg hj];rfl
   rw[this]
   decide
 obtain⟨hA1,hAb⟩:=tb f lf bf
 obtain⟨hB1,hBb⟩:=tb g lg bg
 have gf:=iB f (by omega) (fun j hj=>by have:=fP (z:=f.getD j 0) (by have:=bf j;omega);omega)
 have gg:=iB g (by omega) (fun j hj=>by have:=fP (z:=g.getD j 0) (by have:=bg j;omega);omega)
 have gz:=qC 0 (by omega)
 generalize bR f=A at*
 generalize bR g=B at*
 have hcb:=fun m i=>aUm (a:=A) (b:=B) (n:=m) (B:=1000) hAb hBb i
 have hcv0:∀ m,cvS A B m 0=0:=fun _=>rfl
 obtain⟨L,hL⟩:∃ L,L=aRw A B:=⟨_,rfl⟩
 obtain⟨la,hA⟩:∃ la,A.length=la:=⟨_,rfl⟩
 obtain⟨lb,hB⟩:∃ lb,B.length=lb:=⟨_,rfl⟩
 rw[hA,hB]
 rw[hA]at hA1
 rw[hB]at hB1
 by_cases hz:la=0∨lb=0
 ·rw[if_pos hz]
  simp only[mX,i64]at gf gg gz⊢
  rw[hA]at gf
  rw[hB]at gg
  by_cases h:la=0
  ·subst h
   refine aA bC Tryz.func349 rfl (by decide) (nt:=70) rfl (rs:=[.tmp 4]) rfl (aZ rfl) ?_
   refine dM ?_
   refine zR1 ?_
   simp(disch:=first|omega|exact kD rfl|exact kX rfl) only[smY,simprocAttr,bl,i64,smT]
   all_goals(first |done |rfl)
  ·obtain rfl:lb=0:=by omega
   refine aA bC Tryz.func349 rfl (by decide) (nt:=70) rfl (rs:=[.tmp 4]) rfl (aZ rfl) ?_
   refine dM ?_
   refine zR1 ?_
   simp(disch:=first|omega|exact kD rfl|exact kX rfl) only[smY,simprocAttr,bl,i64,smT]
   all_goals(first |done |rfl)
 ·rw[if_neg hz]
  have hlen:L.length=la+lb-1:=by rw[hL];simp[aRw,hA,hB]
  have hget:∀ n,n<la+lb-1→L.getD n 0=cvS A B n (n+1):=fun n hn=>by rw[hL];exact bD8 (by rw[hA,hB];exact hn)
  have gN:=iB L (by omega) (fun j hj=>by
   rw[hget j (by omega)]
   have:=hcb j (j+1)
   have h2:=Nat.mul_le_mul_right (1000*1000) (show j+1≤401 by omega)
   have:=fP (z:=cvS A B j (j+1)) (by omega)
   omega)
  rw[← hL]
  clear hL
  obtain⟨N,hN⟩:∃ N,la+lb-1=N:=⟨_,rfl⟩
  have hNi:(la:Int)+(lb:Int)-1=(N:Int):=by omega
  rw[hN]at hlen hget
  simp only[mX,aW,i64]at gf gg gz gN⊢
  rw[hA]at gf
  rw[hB]at gg
  rw[hlen]at gN
  generalize ic (bR L)=Z at*
  generalize (bR L).length=zl at*
  refine aA bC Tryz.func349 rfl (by decide) (nt:=70) rfl (rs:=[.tmp 4]) rfl (aZ rfl) ?_
  refine dM ?_
  refine aI (α:={m:Nat // m≤N}) (fun m=>st 70 (lk [(5,.sl la (ic A)),(6,.sl lb (ic B)),(7,nVi 0 m.1),(8,.lit (.int .i64 m.1))]) (cP (nBi 0 m.1 (ic (L.take m.1)))) 1) (fun m=>N-m.1) ⟨0,by omega⟩ ?_ ?_
  ·simp only[uP,uQ]
   (refine Sub.plain ?_;simp only[aG,dg,renL,renLs,simprocAttr,bl,i64,smT])
   all_goals(first |done |simp)
  ·rintro⟨m,hm⟩
   simp only[st]
   by_cases hlt:m<N
   ·have happ:=sG (L:=L) (m:=m) (by omega)
    have htl:(L.take m).length=m:=by rw[List.length_take];omega
    by_cases h0:m=0
    ·simp only[oJ h0,oN h0]
     have hL0:L.take m=[]:=by rw[h0];rfl
     refine cW (nd hA (nd hB hNi)) ?_
     refine aI (α:={i:Nat // i≤m+1}) (fun i=>st 70 (lk [(5,.sl la (ic A)),(6,.sl lb (ic B)),(7,nilL),(8,.lit (.int .i64 m)),(9,.ptr 0 0),(10,.lit (.int .i64 i.1))]) (cP ((0,⟨45,[sg (cvS A B m i.1),mg (cvS A B m i.1)],false⟩)::[])) 2) (fun i=>m+1-i.1) ⟨0,by omega⟩ ?_ ?_
     ·(refine Sub.heapL [10,99] rfl (by decide) ?_ (by simp only[fB];decide) ?_ ?_;all_goals(first|(simp only[aB,aG,dg,renL,renLs,simprocAttr,bl,i64,smT,hA,hB,hNi];done) |(simp only[aG,dg,renL,renLs,simprocAttr,bl,i64,smT,hA,hB,hNi];(repeat' apply And.intro);all_goals rfl) |(simp only[aG,dg,renL,renLs,simprocAttr,bl,i64,smT,hA,hB,hNi]) |skip))
      all_goals(first |done |((repeat' apply And.intro);all_goals(first |trivial |rfl |(rw[hcv0];rfl))) |trace_state)
     ·rintro⟨i,hi⟩
      simp only[st]
      have hci:=hcb m i
      have hcs:cvS A B m (i+1)=if i<la∧m-i<lb then cvS A B m i+A.getD i 0*B.getD (m-i) 0 else cvS A B m i:=by rw[cvS,hA,hB]
      have lc:=fP (z:=cvS A B m i) (by have:=Nat.mul_le_mul_right (1000*1000) (show i≤401 by omega);omega)
      by_cases hli:i<m+1
      ·have hmi:(m:Int)-(i:Int)=((m-i:Nat):Int):=by omega
       by_cases c1:i<la
       ·by_cases c2:m-i<lb
        ·rw[if_pos ⟨c1,c2⟩]at hcs
         have lx:=fP (z:=A.getD i 0) (by have:=hAb i;omega)
         have ly:=fP (z:=B.getD (m-i) 0) (by have:=hBb (m-i);omega)
         have g1:=fN (A.getD i 0) (B.getD (m-i) 0) (by omega) (by omega)
         have lm:len (A.getD i 0*B.getD (m-i) 0)≤1:=fP (by
          rw[Int.natAbs_mul]
          have:=Nat.mul_le_mul (hAb i) (hBb (m-i))
          omega)
         have g2:=qE (cvS A B m i) (A.getD i 0*B.getD (m-i) 0) (by omega) (by omega)
         rw[← hcs]at g2
         generalize A.getD i 0*B.getD (m-i) 0=P at*
         generalize hx:A.getD i 0=x at*
         generalize hy:B.getD (m-i) 0=y at*
         generalize hmi2:m-i=d at*
         simp only[aW]at g1 g2
         refine cW (nd hx (nd hy (nd hA (nd hB hmi)))) ?_
         refine⟨⟨i+1,by omega⟩,?_,by simp only;omega⟩
         exact zL0 [0,1]
        ·try(exfalso;omega)
         all_goals
          rw[if_neg (fun h=>c2 h.2)]at hcs
          generalize hmi2:m-i=d at*
          refine cW (nd hA (nd hB hmi)) ?_
          refine⟨⟨i+1,by omega⟩,?_,by simp only;omega⟩
          simp only[hcs]
          exact zL0 [0,1]
       ·try(exfalso;omega)
        all_goals
         rw[if_neg (fun h=>c1 h.1)]at hcs
         refine cW (nd hA hB) ?_
         refine⟨⟨i+1,by omega⟩,?_,by simp only;omega⟩
         simp only[hcs]
         exact zL0 [0,1]
      ·obtain rfl:i=m+1:=by omega
       rw[← hget m hlt]at lc⊢
       generalize L.getD m 0=S at*
       refine cW (nd hA (nd hB htl)) ?_
       refine⟨⟨m+1,by omega⟩,?_,by simp only;omega⟩
       try subst h0
       simp only[fY,fZ]
       (refine Sub.heapL [8] rfl (by decide) ?_ (by simp only[fB];decide) ?_ ?_;all_goals(first|(simp only[aB,aG,dg,renL,renLs,simprocAttr,bl,i64,smT];done) |(simp only[aG,dg,renL,renLs,simprocAttr,bl,i64,smT];(repeat' apply And.intro);all_goals rfl) |(simp only[aG,dg,renL,renLs,simprocAttr,bl,i64,smT]) |skip))
       all_goals(first |done |(rw[happ,← tX];done) |(rw[show List.take 1 L=[S]from happ.trans (by rw[hL0];rfl),← aAu];first |done |exact⟨trivial,rfl⟩) |trace_state)
    ·have hL0:True:=trivial
     simp only[oK h0,oO h0]
     refine cW (nd hA (nd hB hNi)) ?_
     refine aI (α:={i:Nat // i≤m+1}) (fun i=>st 70 (lk [(5,.sl la (ic A)),(6,.sl lb (ic B)),(7,.own 1 0 m 2),(8,.lit (.int .i64 m)),(9,.ptr 0 0),(10,.lit (.int .i64 i.1))]) (cP ((0,⟨45,[sg (cvS A B m i.1),mg (cvS A B m i.1)],false⟩)::[(1,⟨45,ic (L.take m),false⟩)])) 2) (fun i=>m+1-i.1) ⟨0,by omega⟩ ?_ ?_
     ·(refine Sub.heapL [10,0] rfl (by decide) ?_ (by simp only[fB];decide) ?_ ?_;all_goals(first|(simp only[aB,aG,dg,renL,renLs,simprocAttr,bl,i64,smT,hA,hB,hNi];done) |(simp only[aG,dg,renL,renLs,simprocAttr,bl,i64,smT,hA,hB,hNi];(repeat' apply And.intro);all_goals rfl) |(simp only[aG,dg,renL,renLs,simprocAttr,bl,i64,smT,hA,hB,hNi]) |skip))
      all_goals(first |done |((repeat' apply And.intro);all_goals(first |trivial |rfl |(rw[hcv0];rfl))) |trace_state)
     ·rintro⟨i,hi⟩
      simp only[st]
      have hci:=hcb m i
      have hcs:cvS A B m (i+1)=if i<la∧m-i<lb then cvS A B m i+A.getD i 0*B.getD (m-i) 0 else cvS A B m i:=by rw[cvS,hA,hB]
      have lc:=fP (z:=cvS A B m i) (by have:=Nat.mul_le_mul_right (1000*1000) (show i≤401 by omega);omega)
      by_cases hli:i<m+1
      ·have hmi:(m:Int)-(i:Int)=((m-i:Nat):Int):=by omega
       by_cases c1:i<la
       ·by_cases c2:m-i<lb
        ·rw[if_pos ⟨c1,c2⟩]at hcs
         have lx:=fP (z:=A.getD i 0) (by have:=hAb i;omega)
         have ly:=fP (z:=B.getD (m-i) 0) (by have:=hBb (m-i);omega)
         have g1:=fN (A.getD i 0) (B.getD (m-i) 0) (by omega) (by omega)
         have lm:len (A.getD i 0*B.getD (m-i) 0)≤1:=fP (by
          rw[Int.natAbs_mul]
          have:=Nat.mul_le_mul (hAb i) (hBb (m-i))
          omega)
         have g2:=qE (cvS A B m i) (A.getD i 0*B.getD (m-i) 0) (by omega) (by omega)
         rw[← hcs]at g2
         generalize A.getD i 0*B.getD (m-i) 0=P at*
         generalize hx:A.getD i 0=x at*
         generalize hy:B.getD (m-i) 0=y at*
         generalize hmi2:m-i=d at*
         simp only[aW]at g1 g2
         refine cW (nd hx (nd hy (nd hA (nd hB hmi)))) ?_
         refine⟨⟨i+1,by omega⟩,?_,by simp only;omega⟩
         exact zL0 [0,1]
        ·try(exfalso;omega)
         all_goals
          rw[if_neg (fun h=>c2 h.2)]at hcs
          generalize hmi2:m-i=d at*
          refine cW (nd hA (nd hB hmi)) ?_
          refine⟨⟨i+1,by omega⟩,?_,by simp only;omega⟩
          simp only[hcs]
          exact zL0 [0,1]
       ·try(exfalso;omega)
        all_goals
         rw[if_neg (fun h=>c1 h.1)]at hcs
         refine cW (nd hA hB) ?_
         refine⟨⟨i+1,by omega⟩,?_,by simp only;omega⟩
         simp only[hcs]
         exact zL0 [0,1]
      ·obtain rfl:i=m+1:=by omega
       rw[← hget m hlt]at lc⊢
       generalize L.getD m 0=S at*
       refine cW (nd hA (nd hB htl)) ?_
       refine⟨⟨m+1,by omega⟩,?_,by simp only;omega⟩
       try subst h0
       simp only[fY,fZ]
       (refine Sub.heapL [8] rfl (by decide) ?_ (by simp only[fB];decide) ?_ ?_;all_goals(first|(simp only[aB,aG,dg,renL,renLs,simprocAttr,bl,i64,smT];done) |(simp only[aG,dg,renL,renLs,simprocAttr,bl,i64,smT];(repeat' apply And.intro);all_goals rfl) |(simp only[aG,dg,renL,renLs,simprocAttr,bl,i64,smT]) |skip))
       all_goals(first |done |(rw[happ,← tX];done) |(rw[show List.take 1 L=[S]from happ.trans (by rw[hL0];rfl),← aAu];first |done |exact⟨trivial,rfl⟩) |trace_state)
   ·obtain rfl:m=N:=by omega
    have htL:L.take m=L:=List.take_of_length_le (by omega)
    rw[htL]
    by_cases h0:m=0
    ·try(exfalso;omega)
     all_goals
      simp only[oJ h0,oN h0]
      have hL0:L=[]:=List.eq_nil_of_length_eq_zero (by omega)
      rw[hL0]at gN
      rw[show ic []=[]from rfl]at gN
      subst h0
      refine dM ?_
      exact mJ
    ·simp only[oK h0,oO h0]
     refine dM ?_
     exact mJ
end
section
open Go Go.Lg Go.Num
def zV (B:Nat) (l:List Int):Bool:=Nat.ble l.length 100 && l.all fun z=>Nat.ble z.natAbs B
theorem aC8 {B:Nat}{l:List Int}(h:zV B l=true) (j:Nat):(l.getD j 0).natAbs≤B:=by
 unfold zV at h
 rw[Bool.and_eq_true,List.all_eq_true]at h
 by_cases hj:j<l.length
 ·have e:l.getD j 0=l[j]:=by simp[List.getD,hj]
  rw[e]
  exact Nat.le_of_ble_eq_true (h.2 _ (List.getElem_mem hj))
 ·have:l.getD j 0=0:=by simp[List.getD,Nat.le_of_not_lt hj]
  rw[this]
  exact Nat.zero_le _
theorem aC9 {B:Nat}{l:List Int}(h:zV B l=true):l.length≤100:=by
 unfold zV at h
 rw[Bool.and_eq_true]at h
 exact Nat.le_of_ble_eq_true h.1
theorem aUn {B:Nat}(hB:B≤1000000):∀ {l:List Int},(∀ z∈l,Nat.ble z.natAbs B=true)→mB l=ic l
 |[],_=>rfl
 |z::l,h=>by
  have ih:=aUn hB (l:=l) (fun z hz=>h z (by simp[hz]))
  have hz:=Nat.le_of_ble_eq_true (h z (by simp))
  show wrI z++mB l=[sg z,mg z]++ic l
  rw[ih,aJk (Nat.lt_of_lt_of_le (m:=4294967296) (by omega) (Nat.le_self_pow (by decide) _))]
theorem xL {B:Nat}{l:List Int}(hB:B≤1000000) (h:zV B l=true):mB l=ic l:=by
 unfold zV at h
 rw[Bool.and_eq_true,List.all_eq_true]at h
 exact aUn hB h.2
def r5A (f g:List Int):List Int:=bR (aKz f g)
def r5S (f g:List Int):List Int:=bR (aKz f (bR (aBk g (-1))))
def r5M (f g:List Int):List Int:=bif Nat.beq (bR f).length 0 ||Nat.beq (bR g).length 0 then[]else bR (aRw (bR f) (bR g))
def aFy (K:List Int→List Int→List Int) (c:List Int→List Int→Bool) (args:List LV):Option LV:=match args with
 |[.sl k cs,.sl k' cs']=>match aCi cs,aCi cs' with
  |some f,some g=>bif Nat.beq k f.length && Nat.beq k' g.length && zV 1000 f && zV 1000 g && c f g && zV 1000 (K f g)then some (.sl (K f g).length (mB (K f g)))else none
  |_,_=>none
 |_=>none
theorem aK2 {K:List Int→List Int→List Int}{c:List Int→List Int→Bool}{F:FuncId}(hK:∀ f g,zV 1000 f=true→zV 1000 g=true→c f g=true→PureGood Tryz.prog F [nU f,nU g] (nU (K f g))) {args:List LV}{r:LV}(h:aFy K c args=some r):PureGood Tryz.prog F args r:=by
 unfold aFy at h
 split at h
 ·split at h
  ·rename_i f g h1 h2
   cases hb:(Nat.beq _ f.length && Nat.beq _ g.length && zV 1000 f && zV 1000 g && c f g && zV 1000 (K f g))with
   |true=>
    rw[hb,cond_true]at h
    cases h
    simp only[Bool.and_eq_true,Nat.beq_eq]at hb
    obtain⟨⟨⟨⟨⟨rfl,rfl⟩,b1⟩,b2⟩,b3⟩,b4⟩:=hb
    rw[lC h1,lC h2,xL (by decide) b1,xL (by decide) b2,xL (by decide) b4]
    exact hK f g b1 b2 b3
   |false=>rw[hb,cond_false]at h;cases h
  ·cases h
 ·cases h
theorem vR {l:List Int}(h:zV 1000 l=true):aOm l:=⟨by have:=aC9 h;omega,fun j=>by have:=aC8 h j;omega⟩
theorem bWo {args:List LV}{r:LV}(h:aFy r5A (fun _ _=>true) args=some r):PureGood Tryz.prog 348 args r:=aK2 (fun f g hf hg _=>aFx f g (vR hf) (vR hg)) h
theorem bWp {args:List LV}{r:LV}(h:aFy r5S (fun _ g=>zV 1000 (bR (aBk g (-1)))) args=some r):PureGood Tryz.prog 342 args r:=aK2 (fun f g hf hg hs=>aRx f g (vR hf) (vR hg) (vR hs)) h
theorem bWq {args:List LV}{r:LV}(h:aFy r5M (fun _ _=>true) args=some r):PureGood Tryz.prog 349 args r:=aK2 (fun f g hf hg _=>by
 have:=aRy f g (by have:=aC9 hf;omega) (aC8 hf) (by have:=aC9 hg;omega) (aC8 hg)
 have e:r5M f g=if(bR f).length=0∨(bR g).length=0 then[]else bR (aRw (bR f) (bR g)):=by
  unfold r5M
  have b:∀ n:Nat,Nat.beq n 0=decide (n=0):=fun n=>by cases n <;>rfl
  simp only[b]
  by_cases h1:(bR f).length=0
  ·simp[h1]
  ·by_cases h2:(bR g).length=0
   ·simp[h1,h2]
   ·simp[h1,h2]
 rw[e]
 exact this) h
def aUo (args:List LV):Option LV:=match args with
 |[.sl k cs]=>match aCi cs with
  |some f=>bif Nat.beq k f.length && zV 1000 f && zV 1000 (bR f)then some (.sl (bR f).length (mB (bR f)))else none
  |none=>none
 |_=>none
theorem bD9 {args:List LV}{r:LV}(h:aUo args=some r):PureGood Tryz.prog 345 args r:=by
 unfold aUo at h
 split at h
 ·split at h
  ·rename_i f h1
   cases hb:(Nat.beq _ f.length && zV 1000 f && zV 1000 (bR f))with
   |true=>
    rw[hb,cond_true]at h
    cases h
    simp only[Bool.and_eq_true,Nat.beq_eq]at hb
    obtain⟨⟨rfl,b1⟩,b2⟩:=hb
    rw[lC h1,xL (by decide) b1,xL (by decide) b2]
    exact iB f (by have:=aC9 b1;omega) (fun j hj=>by have:=fP (z:=f.getD j 0) (by have:=aC8 b1 j;omega);omega)
   |false=>rw[hb,cond_false]at h;cases h
  ·cases h
 ·cases h
def aUp (args:List LV):Option LV:=match args with
 |[.sl k cs,.lit (.int .i64 (.ofNat n))]=>match aCi cs with
  |some f=>bif Nat.beq k f.length && zV 1000 f && zV 1000 (bR f) && Nat.ble n 100 then(bif Nat.beq (bR f).length 0 then some (.sl 0 [])else bif zV 1000 (List.replicate n 0++bR f)then some (.sl (List.replicate n 0++bR f).length (mB (List.replicate n 0++bR f)))else none)else none
  |none=>none
 |_=>none
theorem bEa {args:List LV}{r:LV}(h:aUp args=some r):PureGood Tryz.prog 343 args r:=by
 unfold aUp at h
 split at h
 ·rename_i k cs n
  split at h
  ·rename_i f h1
   cases hb:(Nat.beq k f.length && zV 1000 f && zV 1000 (bR f) && Nat.ble n 100)with
   |true=>
    rw[hb,cond_true]at h
    simp only[Bool.and_eq_true,Nat.beq_eq,Nat.ble_eq]at hb
    obtain⟨⟨⟨rfl,b1⟩,b2⟩,b3⟩:=hb
    have g:=aK1 f n (by omega) (vR b1)
    rw[lC h1,xL (by decide) b1]
    cases h0:Nat.beq (bR f).length 0 with
    |true=>
     rw[h0,cond_true]at h
     cases h
     rw[if_pos (Nat.eq_of_beq_eq_true h0)]at g
     exact g
    |false=>
     rw[h0,cond_false]at h
     rw[if_neg (fun e=>by rw[e]at h0;cases h0)]at g
     cases h3:zV 1000 (List.replicate n 0++bR f)with
     |true=>
      rw[h3,cond_true]at h
      cases h
      rw[xL (by decide) h3]
      exact g
     |false=>rw[h3,cond_false]at h;cases h
   |false=>rw[hb,cond_false]at h;cases h
  ·cases h
 ·cases h
def bOm (f:FuncId) (args:List LV):Option LV:=bif Nat.beq f 349 then aFy r5M (fun _ _=>true) args else bif Nat.beq f 348 then aFy r5A (fun _ _=>true) args else bif Nat.beq f 342 then aFy r5S (fun _ g=>zV 1000 (bR (aBk g (-1)))) args else bif Nat.beq f 345 then aUo args else bif Nat.beq f 343 then aUp args else aXk f args
theorem bEb:fR Tryz.prog bOm:=by
 intro f args r h
 exact aU (f0:=349) (g:=aFy r5M (fun _ _=>true)) (fun _ _ h=>bWq h) (aU (f0:=348) (g:=aFy r5A (fun _ _=>true)) (fun _ _ h=>bWo h) (aU (f0:=342) (g:=aFy r5S (fun _ g=>zV 1000 (bR (aBk g (-1))))) (fun _ _ h=>bWp h) (aU (f0:=345) (g:=aUo) (fun _ _ h=>bD9 h) (aU (f0:=343) (g:=aUp) (fun _ _ h=>bEa h) vM)))) f args r h
noncomputable def eZ (m:Nat):Bool:=match evo bOm 296 [.lit (.int .i64 (.ofNat m))]with
 |some (.agg [.sl k cs])=>(match aCi cs with
  |some l=>Nat.beq k (dF m).length && eqZ l (dF m)
  |none=>false)
 |_=>false
noncomputable def bEc (m:Nat):Bool:=match evo aXk 320 [.sl (dF m).length (mB (dF m))]with
 |some (.sl k cs)=>(match aGg k cs with
  |some l=>eqZ l (dF m)
  |none=>false)
 |_=>false
theorem cGh {m:Nat}(h:eZ m=true):PureGood Tryz.prog 296 [i64 m] (.agg [.sl (dF m).length (mB (dF m))]):=by
 unfold eZ at h
 split at h
 ·rename_i k cs he
  split at h
  ·rename_i l hl
   rw[Bool.and_eq_true]at h
   have e2:=Nat.eq_of_beq_eq_true h.1
   have e3:=uC h.2
   subst e3
   have e4:=lC hl
   rw[e4,e2]at he
   exact dE bEb he
  ·cases h
 ·cases h
theorem cGi {m:Nat}(h:bEc m=true):PureGood Tryz.prog 320 [.sl (dF m).length (mB (dF m))] (encF (rz (dF m))):=by
 unfold bEc at h
 split at h
 ·rename_i k cs he
  split at h
  ·rename_i l hl
   obtain⟨rfl,rfl,_⟩:=pF hl
   have e3:=uC h
   subst e3
   have g:=dE vM he
   rw[bD,bX]
   exact g
  ·cases h
 ·cases h
end
section
open Go Go.Lg Go.Num
attribute [local irreducible] lrun lwp exThen exBlk keep goodPost sg mg oc op
theorem aOn {m e:Nat}(hm:m∈qS) (he:e<m) (gf:PureGood Tryz.prog 296 [i64 m] (.agg [.sl (dF m).length (mB (dF m))])) (gof:PureGood Tryz.prog 320 [.sl (dF m).length (mB (dF m))] (encF (rz (dF m)))):PureGood Tryz.prog 258 [i64 m,i64 e] (encF (rz (zI m e))):=by
 obtain⟨m1,m2⟩:=bDf hm
 obtain⟨c1,c2,c3,c4⟩:=wE hm
 have g1:=aHh 1 (by omega)
 rw[show((1:Int):Rat)=1 from rfl]at g1
 have g2:=aN6 e m he (by omega)
 have g3:=aKe e (by omega)
 have gnN:=aNz (unO e) (by rw[lE];omega) (by rw[lE];omega) (fun q hq=>by
  unfold unO at hq
  simp only[List.mem_append,List.mem_replicate,List.mem_singleton]at hq
  rcases hq with⟨_,h⟩ |h
  ·cases h
  ·injection h with h
   rw[h]
   decide+kernel)
 have hz:=aRc (e:=e) hm
 have htl:=uI (ov (unO e))
 rw[aA9,lE]at htl
 obtain⟨Q,gd⟩:=aNt (.sl (unO e).length (op (unO e))) ⟨_,_,rfl⟩ (bQ (ov (unO e))) gnN (aFl _) (rz (dF m)) (Dn:=1) (L:=1) (by decide) (by decide+kernel) (by omega) (by omega) (fun j=>by
  rw[jC,aKd,mD,aKf]
  refine aKg ?_
  split <;>decide) c1 (by rw[bX];omega) (by rw[bX];omega) (by rw[bX];exact c4)
 rw[hz,lE]at gd
 have hul:=lE e
 generalize hu:unO e=U at*
 have hop:=op_len U
 rw[hul]at hop
 generalize rz (zI m e)=R at*
 generalize rz (dF m)=G at*
 generalize mB (dF m)=W at*
 generalize (dF m).length=cl at*
 clear gnN htl hz c1 c4
 have g4:PureGood Tryz.prog 295 [.agg [.sl cl W],.sl (e+1) (op U)] (encF R):=by
  generalize op U=X at*
  simp only[bD,i64]at*
  refine aA bC Tryz.func295 rfl (by decide) (nt:=16) rfl (rs:=[.tmp 4]) rfl (aZ rfl) ?_
  refine zU ?_
  exact zQ5
 generalize op U=X at*
 simp only[bD,aH,i64]at*
 refine aA bC Tryz.func258 rfl (by decide) (nt:=13) rfl (rs:=[.tmp 4]) rfl (aZ rfl) ?_
 refine zU ?_
 exact zQ5
end
end Go.Proofs.YtaidcaemdkncgaaGreatDoor
