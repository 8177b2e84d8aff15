/- Contracts of functions of the program, and what proves them (texts: EP3 EZ0 EY1 EY2 EY3 EY4). -/
import Derived.KernelRfl
import Derived.Test.YtaidcaemdkncgaaGreatDoorZSAM
import Derived.Test.YtaidcaemdkncgaaGreatDoorZSAQ
import Derived.Test.YtaidcaemdkncgaaGreatDoorZSAR
import Derived.Test.YtaidcaemdkncgaaGreatDoorZSBH
import Derived.Test.YtaidcaemdkncgaaGreatDoorZSBJ
set_option linter.all false
set_option maxRecDepth 100000
set_option maxHeartbeats 8000000
namespace Go.Proofs.YtaidcaemdkncgaaGreatDoor
section
open Go Go.Lg Go.Num
attribute [local irreducible] lrun lwp exThen exBlk keep goodPost sg mg oc op ec kI zc zI rz cL kM ocD sC
theorem wX {k prec m n T:Nat}{n1 o1 c1 n2 o2 c2:Nat}{v1 v2:List Int}{b1 b2:Bool}{ix1 ix2:Nat→Option Nat}(h1:SeD n1 v1 o1 c1 b1 ix1) (h2:SeD n2 v2 o2 c2 b2 ix2) (k1:2≤k) (k2:k≤40) (hp:prec≤20) (hZ:ZtD m n) (hm1:m % o1=0) (hm2:m % o2=0) (T1:1≤T) (T2:T≤1000)
  {W:List LV}{R:List Rat}{oo:Int}
  (gchk:PGd 81 [i64 k,.agg [i64 n1,.sl v1.length (ec v1),i64 n2,.sl v2.length (ec v2),i64 T]] (i64 0))
  (gord:PGd 82 [.agg [i64 n1,.sl v1.length (ec v1)],.agg [i64 n2,.sl v2.length (ec v2)]] (i64 m))
  (gF:PGd 48 [i64 m] (.tup [.agg [.sl (n+1) W],i64 0]))
  (gC:n1=1→PGd 17 [i64 k,.agg [i64 n2,.sl v2.length (ec v2)]] (.tup [.sl R.length (qc R),i64 oo,i64 0])) (hRl:R.length≤n) (hRq:∀ j,lq (R.getD j 0)≤1000)
  (S:Nat→LV×LV) (X:Nat→LV) (both:Bool) (hb:both=(decide (k=2) && decide (n1=1) && decide (n2=1)))
  (hS:∀ j,fK (S j).1=true∧fK (S j).2=true∧∃ a nn cs,(S j).1=i64 a∧(S j).2= .sl nn cs) (hX:∀ j,∃ nn cs,X j= .sl nn cs)
  (o0:Nat→Option Rat) (f0:Nat→Rat) (hf0:∀ j,f0 j=R.getD j 0 / (((-2*(k:Int):Int)):Rat)) (ho0:∀ j,o0 j=if n1=1 then o0I f0 R.length j else none)
  (gra:∀ j,j<n→PGd 90 [.sl prec (op (cL o0 (rR ix1 ix2 m o1 o2) (zI m) (kM k) prec (max prec 1) 0 0 j)),i64 T,bl both] (X j))
  (gno:∀ j,j<n→PGd 89 [.agg [i64 0,X j]] (.tup [.agg [(S j).1,(S j).2],i64 0])):
  PGd 26 [i64 k,.agg [i64 n1,.sl v1.length (ec v1),i64 n2,.sl v2.length (ec v2),i64 T],i64 prec] (.tup [.sl n (sC S n),i64 0]):=by
 obtain⟨m1,m2,nn1,nn2,_,hpz,hzl,hzs⟩:=hZ;have gin:=qF (prec:Int) (by omega);rw[nS (by omega)]at gin
 have hn1:((n+1:Nat):Int)-1=(n:Int):=by omega
 have hmm:1≤n1∧n1≤60:=⟨h1.n1,h1.n2⟩;have hmm2:1≤n2∧n2≤60:=⟨h2.n1,h2.n2⟩;obtain⟨te,hte⟩:∃ te,te=rR ix1 ix2 m o1 o2:=⟨_,rfl⟩;rw[← hte]at gra
 simp only[i64,bl]at gchk gord gF gC gin gra gno;refine aA aV Tryz.func26 rfl (by decide) (nt:=239) rfl (rs:=[.tmp 6,.tmp 7]) rfl (aW rfl) ?_;refine kK hn1 ?_;refine aG (α:={i:Nat // i≤n}) (fun i=>st 239 (lk [(0,.lit (.int .i64 k)),(2,.lit (.int .i64 prec)),(4,.ptr 0 0),(9,.lit (.int .i64 m)),(13,.own 1 0 n 1),(63,.lit (.int .i64 n)),(64,.lit (.int .i64 i.1))]) (eE ((0,⟨58,[.lit (.int .i64 n1),.sl v1.length (ec v1),.lit (.int .i64 n2),.sl v2.length (ec v2),.lit (.int .i64 T)],false⟩)::(1,⟨29,kI n prec i.1,false⟩)::[]) 4 (i.1) (gO fun _=>List.replicate prec none)) (i.1+4)) (fun i=>n-i.1) ⟨0,by omega⟩ ?_ ?_
 ·simp only[st];have hN0:(0<0+4)=True:=eq_true (by omega);have hN1:(1<0+4)=True:=eq_true (by omega);have hN2:(2<0+4)=True:=eq_true (by omega);have hN3:(3<0+4)=True:=eq_true (by omega);refine bWs (c:=34) (y:=1001) (x:=1002) (τ:=fun j=>j+2000) (C':=List.replicate n nilL) ?_ (by simp[aB]) ?_ ?_ (fun j hj=>by omega) (fun j hj=>by omega) (by intro p hp;simp at hp) (by omega) (fun i j hi=>by omega) (fun j hj=>by omega) ?_
  ·simp only[bJ,Nat.reduceEqDiff,↓reduceIte]
  ·simp only[bJ,Nat.reduceEqDiff,↓reduceIte];all_goals(first |done |rfl)
  ·rw[bMj];exact cM (fun c hc=>by rw[List.eq_of_mem_replicate hc];rfl)
  ·simp(maxSteps:=5000000) only[List.forall_mem_cons,List.not_mem_nil,false_imp_iff,implies_true,and_true,aI,simprocAttr,bl,i64,smT,smO,smE,hn1,hN0,hN1,hN2,hN3,oZ,Nat.reduceLT,List.getD_cons_zero,List.getD_cons_succ,↓reduceIte];all_goals(first |done |trace_state)
 ·rintro⟨i,hi⟩;simp only[st];refine gz1 fun HH F0 F1 FI=> ?_
  by_cases hlt:i<n
  ·have hg:=bMi (P:=prec) hlt;have hkl:=aMn n prec i
   (repeat(first|apply zO (by decide+kernel)|apply zP (by decide+kernel)|(apply zS;(case h=>constructor<;>decide))|((first|apply cB rfl|apply aS|apply zT rfl (by decide) rfl);(case hs=>(simp(disch:=first|omega|exact kD rfl|exact kX rfl) only[smY,simprocAttr,bl,i64,smT,smO,smE,F0,F1,hg,hkl,mB];exact rfl));first|refine bZ ?_|refine cA ?_|refine zq ?_|(case hg=>assumption))))
   refine⟨⟨i+1,by omega⟩,?_,by simp only;omega⟩;have hN0:(0<(i+1)+4)=True:=eq_true (by omega);have hN1:(1<(i+1)+4)=True:=eq_true (by omega);have hN2:(2<(i+1)+4)=True:=eq_true (by omega);have hN3:(3<(i+1)+4)=True:=eq_true (by omega);refine bWs (M:=i+1) (c:=1) (y:=i+4+20) (x:=i+4+21) (τ:=fun j=>if j=i then i+4+1+2+3 else j+4) ?_ (by simp[aB]) ?_ (aQf hlt (fun j hj=>if_neg (by omega)) (if_pos rfl)) ?_ (fun j hj=>aHd _ _) (by intro p hp;simp at hp) (by omega) (fun a b ha hb e=>by split at e <;>split at e <;>omega) (fun j hj=>by split <;>omega) ?_
   ·simp(disch:=omega) only[bJ,Nat.reduceEqDiff,↓reduceIte,if_neg,F0]
   ·simp(disch:=omega) only[bJ,Nat.reduceEqDiff,↓reduceIte,if_neg];all_goals(first |done |trace_state)
   ·intro j hj;by_cases e:j=i
    ·subst e;simp(disch:=omega) only[bJ,if_neg,↓reduceIte];all_goals(first |done |rfl |trace_state)
    ·simp(disch:=omega) only[bJ,if_neg,↓reduceIte,e,FI j (by omega)]
   ·simp(maxSteps:=5000000) only[List.forall_mem_cons,List.not_mem_nil,false_imp_iff,implies_true,and_true,aI,simprocAttr,bl,i64,smT,smO,smE,F0,F1,hg,hkl,mB,hN0,hN1,hN2,hN3,oZ,Nat.reduceLT,List.getD_cons_zero,List.getD_cons_succ,↓reduceIte];all_goals(first |done |trace_state)
  ·obtain rfl:n=i:=by omega
   (repeat(first|apply zO (by decide+kernel)|apply zP (by decide+kernel)|(apply zS;(case h=>constructor<;>decide))|((first|apply cB rfl|apply aS|apply zT rfl (by decide) rfl);(case hs=>(simp(disch:=first|omega|exact kD rfl|exact kX rfl) only[smY,simprocAttr,bl,i64,smT,smO,smE,F0,F1];exact rfl));first|refine bZ ?_|refine cA ?_|refine zq ?_|(case hg=>assumption))))
   refine aG (α:={e:Nat // e≤m}) (fun e=>st 239 (lk [(0,.lit (.int .i64 k)),(2,.lit (.int .i64 prec)),(4,.ptr 0 0),(9,.lit (.int .i64 m)),(13,.own 1 0 n 1),(15,.own 2 0 m 1),(76,.lit (.int .i64 m)),(77,.lit (.int .i64 e.1))]) (eE ((0,⟨58,[.lit (.int .i64 n1),.sl v1.length (ec v1),.lit (.int .i64 n2),.sl v2.length (ec v2),.lit (.int .i64 T)],false⟩)::(1,⟨29,kI n prec n,false⟩)::[(2,⟨30,zc m e.1,false⟩)]) 4 (n) (gO fun _=>List.replicate prec none)) (n+4)) (fun e=>m-e.1) ⟨0,by omega⟩ ?_ ?_
   ·simp only[st];exact bWx F0 F1 (n+4+1+1) (n+4+77) (by simp(disch:=omega) only[bJ,Nat.reduceEqDiff,↓reduceIte,if_neg,aW5];all_goals(first |done |rfl)) (fiE FI fun _=>rfl)
   ·rintro⟨e,he⟩;simp only[st];refine gz2 fun HH F0 F1 F2 FI=> ?_
    by_cases hlt:e<m
    ·have gz:=hpz e hlt;rw[bE,bX]at gz
     have hzl:=bGt m e;have hzst:=bWt hlt;generalize (zI m e).length=zl at*;generalize qc (rz (zI m e))=ZQ at*;simp only[i64]at gz
     (repeat(first|apply zO (by decide+kernel)|apply zP (by decide+kernel)|(apply zS;(case h=>constructor<;>decide))|((first|apply cB rfl|apply aS|apply zT rfl (by decide) rfl);(case hs=>(simp(disch:=first|omega|exact kD rfl|exact kX rfl) only[smY,simprocAttr,bl,i64,smT,smO,smE,F0,F1,F2,hzl,hzst,mB];exact rfl));first|refine bZ ?_|refine cA ?_|refine zq ?_|(case hg=>assumption))))
     refine⟨⟨e+1,by omega⟩,?_,by simp only;omega⟩;exact bWx F0 F1 (2) (n+4+77) (by simp(disch:=omega) only[bJ,Nat.reduceEqDiff,↓reduceIte,if_neg,aW5];all_goals(first |done |rfl)) (fiE FI fun _=>rfl)
    ·obtain rfl:m=e:=by omega
     (repeat((fail_if_success (refine bWv ?_));first|apply zO (by decide+kernel)|apply zP (by decide+kernel)|(apply zS;(case h=>constructor<;>decide))|((first|apply cB rfl|apply aS|apply zT rfl (by decide) rfl);(case hs=>(simp(disch:=first|omega|exact kD rfl|exact kX rfl) only[smY,simprocAttr,bl,i64,smT,smO,smE,F0,F1,F2];exact rfl));first|refine bZ ?_|refine cA ?_|refine zq ?_|(case hg=>assumption))))
     refine aEu (α:=Unit) (fun _=>st 239 (lk [(0,.lit (.int .i64 k)),(2,.lit (.int .i64 prec)),(4,.ptr 0 0),(9,.lit (.int .i64 m)),(13,.own 1 0 n 1),(15,.own 2 0 m 1)]) (eE ((0,⟨58,[.lit (.int .i64 n1),.sl v1.length (ec v1),.lit (.int .i64 n2),.sl v2.length (ec v2),.lit (.int .i64 T)],false⟩)::(1,⟨29,kI n prec n,false⟩)::[(2,⟨30,zc m m,false⟩)]) 4 (n) (gO (cL o0 te (zI m) (kM k) prec 1 0 0))) (n+4)) ?_ ?_
     ·by_cases hc1:n1=1
      ·have ho0:∀ j,o0 j=o0I f0 R.length j:=fun j=>by rw[ho0 j,if_pos hc1]
       have gC:=gC hc1;have hc1i:(n1:Int)=1:=by omega
       by_cases hp0:prec=0
       ·have hpi:(prec:Int)=0:=by omega
        refine aNu (nd hc1i hpi) ?_;refine⟨(),?_⟩;exact sz2 F0 F1 F2 (fiE FI fun j=>aId (by rw[show cL o0 te (zI m) (kM k) prec 1 0 0 j=List.replicate prec none by subst hp0;with_unfolding_all rfl]))
       ·have hpi:(0:Int)<prec:=by omega
        have hpn:0<prec:=by omega
        have hq0:(((-2*(k:Int):Int)):Rat)≠0:=by
         intro e;have:=Rat.intCast_inj.1 (e.trans Rat.intCast_zero.symm);omega
        refine aNu hc1i ?_;refine aG (α:={i:Nat // i≤R.length}) (fun i=>st 239 (lk [(0,.lit (.int .i64 k)),(2,.lit (.int .i64 prec)),(4,.ptr 0 0),(9,.lit (.int .i64 m)),(13,.own 1 0 n 1),(15,.own 2 0 m 1),(106,.sl R.length (qc R)),(107,.lit (.int .i64 R.length)),(108,.lit (.int .i64 i.1))]) (eE ((0,⟨58,[.lit (.int .i64 n1),.sl v1.length (ec v1),.lit (.int .i64 n2),.sl v2.length (ec v2),.lit (.int .i64 T)],false⟩)::(1,⟨29,kI n prec n,false⟩)::[(2,⟨30,zc m m,false⟩)]) 4 (n) (gO (cL (o0I f0 i.1) te (zI m) (kM k) prec 1 0 0))) (n+4)) (fun i=>R.length-i.1) ⟨0,by omega⟩ ?_ ?_
        ·simp only[st];exact sz2 F0 F1 F2 (fiE FI fun j=>aId (by rw[aQd (o0I f0 0) (by unfold o0I;rw[if_neg (by omega)])]))
        ·rintro⟨i,hi⟩;simp only[st];refine gz2 fun HH F0 F1 F2 FI=> ?_
         by_cases hlt:i<R.length
         ·have FIi:=FI i (by omega);unfold gO at FIi;have hql:=aTw (o0I f0 i) te (zI m) (kM k) prec 1 0 0 i;have hol:=aB5 (cL (o0I f0 i) te (zI m) (kM k) prec 1 0 0 i);rw[hql]at hol
          have hset:=lH (l:=cL (o0I f0 i) te (zI m) (kM k) prec 1 0 0 i) (j:=0) (by omega) (f0 i);rw[bGo]at hset
          have g1:=iG (-2*(k:Int)) (by omega);have b2:=aF7 (z:= -2*(k:Int)) (by omega);have b3:=hRq i;have g2:=uT (R.getD i 0) (((-2*(k:Int):Int)):Rat) hq0 (by omega) (by omega);rw[← hf0 i]at g2
          have hg:=aTy (P:=prec) (show i<n by omega) (show i<n by omega);have hkl:=aMn n prec n;generalize f0 i=FV at*;generalize hRi:R.getD i 0=RV at*;generalize (((-2*(k:Int):Int)):Rat)=KV at*;generalize oc (cL (o0I f0 i) te (zI m) (kM k) prec 1 0 0 i)=OC at*;simp only[aH,i64]at g1 g2;have hne:(i=n+4)=False:=eq_false (by omega);have h4:(4≤prec*4)=True:=eq_true (by omega);simp only[Nat.zero_mul,List.take_zero,List.nil_append,Nat.zero_add,List.cons_append]at hset
          (repeat(first|apply zO (by decide+kernel)|apply zP (by decide+kernel)|(apply zS;(case h=>constructor<;>decide))|((first|apply cB rfl|apply aS|apply zT rfl (by decide) rfl);(case hs=>(simp(disch:=first|omega|exact kD rfl|exact kX rfl) only[smY,simprocAttr,bl,i64,smT,smO,smE,F0,F1,F2,hg,hkl,FIi,hol,mB,hRi,hne,h4];exact rfl));first|refine bZ ?_|refine cA ?_|refine zq ?_|(case hg=>assumption))))
          refine⟨⟨i+1,by omega⟩,?_,by simp only;omega⟩;refine sz2 F0 F1 F2 ?_;intro j hj;by_cases e:j=i
          ·subst e;simp(disch:=omega) only[bJ,if_neg,↓reduceIte,hset];all_goals(first |done |rfl |trace_state)
          ·simp(disch:=omega) only[bJ,if_neg,FI j hj];unfold gO
           rw[bN8 (o0:=o0I f0 i) (o1:=o0I f0 (i+1)) (show o0I f0 i j=o0I f0 (i+1) j by
            unfold o0I;by_cases c:j<i
            ·rw[if_pos c,if_pos (by omega)]
            ·rw[if_neg c,if_neg (by omega)])]
         ·obtain rfl:i=R.length:=by omega
          refine zA9 ?_;refine⟨(),?_⟩;exact sz2 F0 F1 F2 (fiE FI fun j=>aId (by rw[bN8 (ho0 j)]))
      ·have ho0:∀ j,o0 j=none:=fun j=>by rw[ho0 j,if_neg hc1]
       have hc1i:¬(n1:Int)=1:=by omega
       refine aNu hc1i ?_;refine⟨(),?_⟩;exact sz2 F0 F1 F2 (fiE FI fun j=>aId (by rw[aQd o0 (ho0 j)]))
     ·rintro -;simp only[st];refine gz2 fun HH F0 F1 F2 FI=> ?_
      refine zA9 ?_;refine aG (α:={N:Nat // 1≤N∧N≤max prec 1}) (fun N=>st 239 (lk [(0,.lit (.int .i64 k)),(2,.lit (.int .i64 prec)),(4,.ptr 0 0),(9,.lit (.int .i64 m)),(13,.own 1 0 n 1),(15,.own 2 0 m 1),(22,.lit (.int .i64 N.1))]) (eE ((0,⟨58,[.lit (.int .i64 n1),.sl v1.length (ec v1),.lit (.int .i64 n2),.sl v2.length (ec v2),.lit (.int .i64 T)],false⟩)::(1,⟨29,kI n prec n,false⟩)::[(2,⟨30,zc m m,false⟩)]) 4 (n) (gO (cL o0 te (zI m) (kM k) prec N.1 0 0))) (n+4)) (fun N=>prec-N.1) ⟨1,by omega,by omega⟩ ?_ ?_
      ·simp only[st];exact sz2 F0 F1 F2 (fiE FI fun _=>rfl)
      ·rintro⟨N,hPos,hN⟩;simp only[st];refine gz2 fun HH F0 F1 F2 FI=> ?_
       by_cases hlt:N<prec
       ·skip
        refine zA9 ?_;refine aG (α:={D:Nat // D≤N}) (fun D=>st 239 (lk [(0,.lit (.int .i64 k)),(2,.lit (.int .i64 prec)),(4,.ptr 0 0),(9,.lit (.int .i64 m)),(13,.own 1 0 n 1),(15,.own 2 0 m 1),(22,.lit (.int .i64 N)),(23,.lit (.int .i64 ((D.1:Int)+1)))]) (eE ((0,⟨58,[.lit (.int .i64 n1),.sl v1.length (ec v1),.lit (.int .i64 n2),.sl v2.length (ec v2),.lit (.int .i64 T)],false⟩)::(1,⟨29,kI n prec n,false⟩)::[(2,⟨30,zc m m,false⟩)]) 4 (n) (gO (cL o0 te (zI m) (kM k) prec N D.1 0))) (n+4)) (fun D=>N-D.1) ⟨0,by omega⟩ ?_ ?_
        ·simp only[st];exact sz2 F0 F1 F2 (fiE FI fun _=>rfl)
        ·rintro⟨D,hD⟩;simp only[st];refine gz2 fun HH F0 F1 F2 FI=> ?_
         by_cases hlD:D<N
         ·have hd0:¬((D:Int)+1)=0:=by omega
          have qd:((N:Int)) % ((D:Int)+1)=((N % (D+1):Nat):Int):=rfl;have qq:((N:Int)) / ((D:Int)+1)=((N / (D+1):Nat):Int):=rfl;have hmod:N % (D+1)≤N:=Nat.mod_le _ _;by_cases hdv:N % (D+1)=0
          ·have hq1:1≤N / (D+1):=Nat.div_pos (by omega) (by omega);have hq2:N / (D+1)≤N:=Nat.div_le_self _ _;obtain⟨x,hx⟩:∃ x,N / (D+1)=x+1:=⟨N / (D+1)-1,by omega⟩;obtain⟨te1,te2,te3⟩:=aMm (ix1:=ix1) (ix2:=ix2) (m:=m) (o1:=o1) (o2:=o2) hdv hx;rw[← hte]at te1 te2 te3
           have qq':((N:Int)) / ((D:Int)+1)=(x:Int)+1:=by rw[qq,hx];rfl
           rw[hdv]at qd
           cases hi1:ix1 x with
           |none=>
            have g1:=(iW h1 (m:=m) (show x<60 by omega) hi1).1;have hs:te N D=none:=te1 hi1
            cases hi2:ix2 D with
            |none=>
             have g2:=(iW h2 (m:=m) (show D<60 by omega) hi2).1;simp only[i64,bl]at g1 g2;refine aNu (nd qd qq') ?_;refine⟨⟨D+1,by omega⟩,?_,by simp only;omega⟩
             exact sz2 F0 F1 F2 (fiE FI fun j=>aId (by rw[aEf hs]))
            |some j=>
             obtain⟨g2,_,hjm⟩:=fV h2 (show D<60 by omega) hi2 hm2 m1 (by omega);generalize j*(m / o2)=J at*;simp only[i64,bl]at g1 g2;refine aNu (nd qd qq') ?_;refine⟨⟨D+1,by omega⟩,?_,by simp only;omega⟩
             exact sz2 F0 F1 F2 (fiE FI fun j=>aId (by rw[aEf hs]))
           |some i=>
            obtain⟨g1,_,him⟩:=fV h1 (show x<60 by omega) hi1 hm1 m1 (by omega)
            cases hi2:ix2 D with
            |none=>
             have g2:=(iW h2 (m:=m) (show D<60 by omega) hi2).1;have hs:te N D=none:=te2 hi2;generalize i*(m / o1)=I at*;simp only[i64,bl]at g1 g2;refine aNu (nd qd qq') ?_;refine⟨⟨D+1,by omega⟩,?_,by simp only;omega⟩
             exact sz2 F0 F1 F2 (fiE FI fun j=>aId (by rw[aEf hs]))
            |some j=>
             obtain⟨g2,_,hjm⟩:=fV h2 (show D<60 by omega) hi2 hm2 m1 (by omega);obtain⟨e,he⟩:∃ e,(i*(m / o1)+j*(m / o2)) % m=e:=⟨_,rfl⟩;have hem:e<m:=by rw[← he];exact Nat.mod_lt _ (by omega)
             have hteD:te N D=some e:=by rw[te3 i j hi1 hi2,he]
             have qe:((i*(m / o1):Nat):Int)+((j*(m / o2):Nat):Int)=((i*(m / o1)+j*(m / o2):Nat):Int):=rfl
             have qm:(((i*(m / o1):Nat):Int)+((j*(m / o2):Nat):Int)) % (m:Int)=(e:Int):=by
               rw[← he];rfl
             have ek:((k:Int)-1)=((k-1:Nat):Int):=by omega
             have w2:=bAf (D+1) (k-1) (by omega) (by omega) (by omega);have epw:((D+1:Nat):Int)^(k-1)=kM k D:=by with_unfolding_all rfl
             rw[epw]at w2
             have lpw:=aEa (k:=k) (D:=D) k2 (by omega);have lpq:=aWu (k:=k) (D:=D) k2 (by omega);have w3:=oD (kM k D) (by omega);have eD:((D+1:Nat):Int)=(D:Int)+1:=by omega
             rw[eD]at w2
             have hzg:=bWu hem;have hzcl:=bGt m m;have hze:=hzl e hem;have hzse:=hzs e hem;have hrl:=bX (zI m e);clear te1 te2 te3 hi1 hi2;generalize hKQ:((kM k D:Int):Rat)=KQ at*;generalize hKZ:kM k D=KZ at*;generalize i*(m / o1)=I at*;generalize j*(m / o2)=J at*;simp only[aY,aH,i64,bl]at g1 g2 w2 w3;refine aNu (nd qd (nd qq' (nd qe (nd he (nd ek (nd hzg hzcl)))))) ?_;refine aG (α:={a:Nat // a≤(zI m e).length}) (fun a=>st 239 (lk [(0,.lit (.int .i64 k)),(2,.lit (.int .i64 prec)),(4,.ptr 0 0),(9,.lit (.int .i64 m)),(13,.own 1 0 n 1),(15,.own 2 0 m 1),(22,.lit (.int .i64 N)),(23,.lit (.int .i64 ((D:Int)+1))),(28,.ptr 3 0),(177,.sl (zI m e).length (qc (rz (zI m e)))),(178,.lit (.int .i64 (zI m e).length)),(179,.lit (.int .i64 a.1))]) (eE ((0,⟨58,[.lit (.int .i64 n1),.sl v1.length (ec v1),.lit (.int .i64 n2),.sl v2.length (ec v2),.lit (.int .i64 T)],false⟩)::(1,⟨29,kI n prec n,false⟩)::[(2,⟨30,zc m m,false⟩),(3,⟨47,[sg (KQ).num,mg (KQ).num,sg ((KQ).den:Int),mg ((KQ).den:Int)],false⟩)]) 4 (n) (gO (cL o0 te (zI m) (kM k) prec N D a.1))) (n+4)) (fun a=>(zI m e).length-a.1) ⟨0,by omega⟩ ?_ ?_
             · simp only[st];exact sz3 F0 F1 F2 (n+4+3+4+12+10+6+5) (by simp(disch:=omega) only[bJ,Nat.reduceEqDiff,↓reduceIte,if_pos,if_neg];all_goals(first |done |rfl)) (by simp only[List.forall_mem_cons,List.not_mem_nil,false_imp_iff,implies_true,and_true];exact⟨s9 _,s10 _,s9 _,s10 _⟩) (fiE FI fun _=>rfl)
             · rintro⟨a,ha⟩;simp only[st];refine gz3 fun HH F0 F1 F2 F3 FI=> ?_
               by_cases hla:a<(zI m e).length
               · have FIa:=FI a (by omega);unfold gO at FIa;have hcl:=aTw o0 te (zI m) (kM k) prec N D a a;have hol:=aB5 (cL o0 te (zI m) (kM k) prec N D a a);rw[hcl]at hol
                 have eg:=bWp (o0:=o0) (te:=te) (z:=zI m) (p:=kM k) (N:=N) (D:=D) (a:=a) (j:=a) hlt;rw[bWn hPos]at eg
                 have hsL:=bWq (o0:=o0) (te:=te) (z:=zI m) (p:=kM k) (P:=prec) (a:=a) hPos hteD hla;have hov:=aEe (te:=te N) (k:=k) (m:=m) (n:=n) (j:=a) (by omega) D;have hqb:=aTn (te:=te N) (k:=k) (m:=m) (n:=n) k2 hzs (fun D e h=>by rw[hte]at h;exact aG5 m1 h) (D:=D) (by omega) (i:=a) (by omega);rw[← hov]at hqb
                 have hkm:(zI m e).getD a 0∈zI m e:=by
                   rw[show(zI m e).getD a 0=(zI m e)[a]by simp[List.getD,hla]];exact List.getElem_mem hla
                 have hl10:=aP3 (hzse _ hkm);have e1:=mK (zI m e) a;have hg:=aTy (P:=prec) (show a<n by omega) (show a<n by omega);have hkl:=aMn n prec n;have hNa:(N*4+4≤prec*4)=True:=eq_true (by omega);have hne:(a=n+4)=False:=eq_false (by omega);have gm:=gS KQ ((((zI m e).getD a 0:Int)):Rat) (by omega) (by omega);have lm:=jZ KQ ((((zI m e).getD a 0:Int)):Rat)
                 have hsL':(cL o0 te (zI m) (kM k) prec N D a a).set N (some ((ocD (te N) (zI m) (kM k) a D).getD 0+KQ*((((zI m e).getD a 0:Int)):Rat)))=cL o0 te (zI m) (kM k) prec N D (a+1) a:=by
                   rw[← hKQ,← hKZ];exact hsL
                 clear hsL hov hKQ;generalize ((((zI m e).getD a 0:Int)):Rat)=ZA at*
                 cases hoc:ocD (te N) (zI m) (kM k) a D with
                 |none=>
                  rw[hoc]at eg hsL'
                  rw[Option.getD_none,Rat.zero_add]at hsL'
                  have ga:=aJe (KQ*ZA) (by omega);rw[z4p]at ga
                  have hset:=lH (l:=(cL o0 te (zI m) (kM k) prec N D a a)) (j:=N) (by omega) (KQ*ZA);rw[hsL']at hset
                  generalize KQ*ZA=FV at*;simp only[aH,i64]at gm ga
                  (repeat(first|apply zO (by decide+kernel)|apply zP (by decide+kernel)|(apply zS;(case h=>constructor<;>decide))|((first|apply cB rfl|apply aS|apply zT rfl (by decide) rfl);(case hs=>(simp(disch:=first|omega|exact kD rfl|exact kX rfl) only[smY,simprocAttr,bl,i64,smT,smO,smE,F0,F1,F2,F3,hg,hkl,FIa,hol,mB,e1,eg,hNa,hne];exact rfl));first|refine bZ ?_|refine cA ?_|refine zq ?_|(case hg=>assumption))))
                  refine⟨⟨a+1,by omega⟩,?_,by simp only;omega⟩;refine sz3 F0 F1 F2 (3) (by simp(disch:=omega) only[bJ,Nat.reduceEqDiff,↓reduceIte,if_pos,if_neg,F3];all_goals(first |done |rfl)) (by simp only[List.forall_mem_cons,List.not_mem_nil,false_imp_iff,implies_true,and_true];exact⟨s9 _,s10 _,s9 _,s10 _⟩) ?_;intro j hj;by_cases ej:j=a
                  · subst ej;simp(disch:=omega) only[bJ,if_neg,↓reduceIte,hset];all_goals(first |done |rfl |trace_state)
                  · simp(disch:=omega) only[bJ,if_neg,FI j hj];unfold gO
                    rw[aQg ej]
                 |some q=>
                  rw[hoc]at eg hsL' hqb
                  rw[Option.getD_some]at hsL' hqb
                  have ga:=kZ q (KQ*ZA) (by omega) (by omega);have hset:=lH (l:=(cL o0 te (zI m) (kM k) prec N D a a)) (j:=N) (by omega) (q+KQ*ZA);rw[hsL']at hset
                  generalize q+KQ*ZA=FV at*;generalize KQ*ZA=MV at*;simp only[aH,i64]at gm ga
                  (repeat(first|apply zO (by decide+kernel)|apply zP (by decide+kernel)|(apply zS;(case h=>constructor<;>decide))|((first|apply cB rfl|apply aS|apply zT rfl (by decide) rfl);(case hs=>(simp(disch:=first|omega|exact kD rfl|exact kX rfl) only[smY,simprocAttr,bl,i64,smT,smO,smE,F0,F1,F2,F3,hg,hkl,FIa,hol,mB,e1,eg,hNa,hne];exact rfl));first|refine bZ ?_|refine cA ?_|refine zq ?_|(case hg=>assumption))))
                  refine⟨⟨a+1,by omega⟩,?_,by simp only;omega⟩;refine sz3 F0 F1 F2 (3) (by simp(disch:=omega) only[bJ,Nat.reduceEqDiff,↓reduceIte,if_pos,if_neg,F3];all_goals(first |done |rfl)) (by simp only[List.forall_mem_cons,List.not_mem_nil,false_imp_iff,implies_true,and_true];exact⟨s9 _,s10 _,s9 _,s10 _⟩) ?_;intro j hj;by_cases ej:j=a
                  · subst ej;simp(disch:=omega) only[bJ,if_neg,↓reduceIte,hset];all_goals(first |done |rfl |trace_state)
                  · simp(disch:=omega) only[bJ,if_neg,FI j hj];unfold gO;rw[aQg ej]
               · obtain rfl:a=(zI m e).length:=by omega
                 (repeat(first|apply zO (by decide+kernel)|apply zP (by decide+kernel)|(apply zS;(case h=>constructor<;>decide))|((first|apply cB rfl|apply aS|apply zT rfl (by decide) rfl);(case hs=>(simp(disch:=first|omega|exact kD rfl|exact kX rfl) only[smY,simprocAttr,bl,i64,smT,smO,smE,F0,F1,F2,F3];exact rfl));first|refine bZ ?_|refine cA ?_|refine zq ?_|(case hg=>assumption))))
                 refine⟨⟨D+1,by omega⟩,?_,by simp only;omega⟩;exact sz2 F0 F1 F2 (fiE FI fun j=>aId (by rw[bMl hteD]))
          ·have hs:te N D=none:=by
            rw[hte];unfold rR;rw[if_neg hdv]
           generalize hR0:N % (D+1)=R0 at*;refine aNu qd ?_;refine⟨⟨D+1,by omega⟩,?_,by simp only;omega⟩;exact sz2 F0 F1 F2 (fiE FI fun j=>aId (by rw[aEf hs]))
         ·obtain rfl:D=N:=by omega
          refine zA9 ?_;refine⟨⟨D+1,by omega,by omega⟩,?_,by simp only;omega⟩;exact sz2 F0 F1 F2 (fiE FI fun j=>aId (by rw[bMk hPos]))
       ·have hNe:N=max prec 1:=by omega
        subst hNe;refine zA9 ?_;refine aG (α:={i:Nat // i≤n}) (fun i=>st 239 (lk [(0,.lit (.int .i64 k)),(4,.ptr 0 0),(13,.own 1 0 n 1),(31,nW 3 i.1),(203,.lit (.int .i64 n)),(204,.lit (.int .i64 i.1))]) (eE ((0,⟨58,[.lit (.int .i64 n1),.sl v1.length (ec v1),.lit (.int .i64 n2),.sl v2.length (ec v2),.lit (.int .i64 T)],false⟩)::(1,⟨29,kI n prec n,false⟩)::nWB 3 i.1 (sC S i.1)) 4 (n) (gOz (cL o0 te (zI m) (kM k) prec (max prec 1) 0 0) i.1)) (n+4)) (fun i=>n-i.1) ⟨0,by omega⟩ ?_ ?_
        ·simp only[st];have hm0:(0∈([]:List Nat))=False:=by simp
         have hm1:(1∈([]:List Nat))=False:=by simp
         have hN0:(0<n+4)=True:=eq_true (by omega);have hN1:(1<n+4)=True:=eq_true (by omega);have hN2:(2<n+4)=True:=eq_true (by omega);have hN3:(3<n+4)=True:=eq_true (by omega);refine aW4 (y:=n+4+777) (x:=n+4+778) ?_ (by simp[aB]) ?_ ?_ (fun j _=>aJ4 _ _ _) ?_ (by omega) ?_
         ·simp(disch:=omega) only[bJ,cN,Nat.reduceEqDiff,↓reduceIte,if_neg,F0,hm0,hm1,Option.map_some];all_goals(first |done |rfl |trace_state)
         ·simp(disch:=omega) only[bJ,cN,Nat.reduceEqDiff,↓reduceIte,if_neg,F1,hm0,hm1,Option.map_some];all_goals(first |done |rfl |trace_state)
         ·intro j hj;simp(disch:=omega) only[bJ,if_neg,FI j hj];unfold gO gOz;rw[decide_eq_false (by omega)]
         ·intro p hp;simp[nWB]at hp
         ·simp(maxSteps:=5000000) only[nW0,nWs,List.forall_mem_cons,List.not_mem_nil,false_imp_iff,implies_true,and_true,aI,simprocAttr,bl,i64,smT,smO,smE,F0,F1,F2,hN0,hN1,hN2,hN3,oZ,Nat.reduceLT,List.getD_cons_zero,List.getD_cons_succ,↓reduceIte];all_goals(first |done |trace_state)
        ·rintro⟨i,hi⟩;simp only[st];refine gz4 fun HH F0 F1 F3 FI=> ?_
         have hbI:both=(decide ((k:Int)=2) && decide ((n1:Int)=1) && decide ((n2:Int)=1)):=by
          have q:∀ a b:Nat,decide (a=b)=decide ((a:Int)=(b:Int)):=fun a b=>decide_eq_decide.2 (by omega)
          rw[hb,q,q,q];rfl
         have hsl:=tD S i;have hst:(sC S i).take (i*2)=sC S i:=List.take_of_length_le (by omega);by_cases hin:i<n
         ·have hg:=aTy (P:=prec) hin hin;have hkl:=aMn n prec n;obtain⟨_,_,sa,sn,scs,es1,es2⟩:=hS i;obtain⟨xn,xcs,ex⟩:=hX i;have g1:=gra i hin;have g2:=gno i hin;rw[ex]at g1 g2
          rw[es1,es2]at g2
          have hsc:=aAw S i;rw[es1,es2]at hsc
          have hib:(i+1)*64≤140737488355328:=by omega
          have FIi:HH (i+4)=some ⟨47,oc (cL o0 te (zI m) (kM k) prec (max prec 1) 0 0 i),false⟩:=by
           rw[FI i hin];unfold gOz;rw[decide_eq_false (by omega)]
          have hcl:=aTw o0 te (zI m) (kM k) prec (max prec 1) 0 0 i;have hol:=aB5 (cL o0 te (zI m) (kM k) prec (max prec 1) 0 0 i);rw[hcl]at hol
          simp only[i64]at g1 g2 hsc;generalize hCF:cL o0 te (zI m) (kM k) prec (max prec 1) 0 0 i=CFi at*;by_cases h0:i=0
          ·have hsc1:sC S 1=[.lit (.int .i64 sa), .sl sn scs]:=by
            have e:sC S (0+1)=sC S 0++_:=h0 ▸ hsc;rw[e,show sC S 0=[]by with_unfolding_all rfl,List.nil_append]
           have FIi:HH 4=some ⟨47,oc CFi,false⟩:=by rw[← FIi,h0]
           subst h0;rw[List.drop_zero,Nat.zero_add]at hg
           rw[nW0];rcases cs4 hbI with⟨e1,e2,e3,hbv⟩ |⟨e1,e2,e3,hbv⟩ |⟨e1,e2,e3,hbv⟩ |⟨e1,e2,e3,hbv⟩
           all_goals
            rw[hbv]at g1
            (repeat(first|apply zO (by decide+kernel)|apply zP (by decide+kernel)|(apply zS;(case h=>constructor<;>decide))|((first|apply cB rfl|apply aS|apply zT rfl (by decide) rfl);(case hs=>(simp(disch:=first|omega|exact kD rfl|exact kX rfl) only[smY,simprocAttr,bl,i64,smT,smO,smE,F0,F1,hg,hkl,FIi,hol,mB,@lO,@iM,e1,e2,e3];exact rfl));first|refine bZ ?_|refine cA ?_|refine zq ?_|(case hg=>assumption))))
            refine⟨⟨0+1,by omega⟩,?_,by simp only;omega⟩;exact sz4 F0 F1 FI (by omega) (n+4+1+2+29+3) (4) rfl (fun j=>(hS j).2.2) (by simp(disch:=omega) only[bJ,cN,Nat.reduceEqDiff,↓reduceIte,if_pos,if_neg,hsc1,Nat.zero_add];all_goals(first |done |rfl)) (by simp(disch:=omega) only[bJ,cN,if_neg,FIi,List.mem_singleton,Option.map_some,↓reduceIte,hCF])
          ·have F3':=F3 h0;rw[nWn h0];rcases cs4 hbI with⟨e1,e2,e3,hbv⟩ |⟨e1,e2,e3,hbv⟩ |⟨e1,e2,e3,hbv⟩ |⟨e1,e2,e3,hbv⟩
           all_goals
            rw[hbv]at g1
            (repeat(first|apply zO (by decide+kernel)|apply zP (by decide+kernel)|(apply zS;(case h=>constructor<;>decide))|((first|apply cB rfl|apply aS|apply zT rfl (by decide) rfl);(case hs=>(simp(disch:=first|omega|exact kD rfl|exact kX rfl) only[smY,simprocAttr,bl,i64,smT,smO,smE,F0,F1,hg,hkl,FIi,hol,mB,@lO,@iM,F3',hsl,hst,hib,e1,e2,e3];exact rfl));first|refine bZ ?_|refine cA ?_|refine zq ?_|(case hg=>assumption))))
            refine⟨⟨i+1,by omega⟩,?_,by simp only;omega⟩;exact sz4 F0 F1 FI (by omega) (n+4+1+2+29+3) (i+4) rfl (fun j=>(hS j).2.2) (by simp(disch:=omega) only[bJ,cN,Nat.reduceEqDiff,↓reduceIte,if_pos,if_neg,hsc,Nat.zero_add];all_goals(first |done |rfl)) (by simp(disch:=omega) only[bJ,cN,if_neg,FIi,List.mem_singleton,Option.map_some,↓reduceIte,hCF])
         ·obtain rfl:n=i:=by omega
          have F3':=F3 (by omega);have h0:¬n=0:=by omega
          have hpv:=fun(h:Nat→Option Blk) (ok:Nat→Bool) (k:Nat)=>jC (h:=h) (ok:=ok) (k:=k) (aAx (S:=S) (fun j=>⟨(hS j).1,(hS j).2.1⟩) n)
          rw[nWn h0]
          (repeat(first|apply zO (by decide+kernel)|apply zP (by decide+kernel)|(apply zS;(case h=>constructor<;>decide))|((first|apply cB rfl|apply aS|apply zT rfl (by decide) rfl);(case hs=>(simp(disch:=first|omega|exact kD rfl|exact kX rfl) only[smY,simprocAttr,bl,i64,smT,smO,smE,F0,F1,F3',hsl,hst,hpv];exact rfl));first|refine bZ ?_|refine cA ?_|refine zq ?_|(case hg=>assumption))))
          ((first|apply dI|apply dK);case hres=>(simp only[gW];simp(disch:=first|omega|exact kD rfl|exact kX rfl) only[smY,simprocAttr,bl,i64,smT,smO,smE,F0,F1,F3',hsl,hst,hpv];exact rfl))
          simp(disch:=first|omega|exact kD rfl|exact kX rfl) only[smY,simprocAttr,bl,i64,smT,smO,smE,F0,F1,F3',hsl,hst,hpv]
end
section
open Go Go.Lg Go.Num
noncomputable def bGv (m e:Nat):Bool:=dvC (dJ m) ((dJ m).length-1) (e+2-(dJ m).length) (unZ e) fun r=>Nat.ble (bS r).length ((dJ m).length-1) && (bS r).all fun z=>Nat.ble z.natAbs 10
noncomputable def bGw (m:Nat):Bool:=match evo bF2 124 [.lit (.int .i64 (.ofNat m))]with
 |some (.lit (.int .i64 (.ofNat e)))=>Nat.beq e 0
 |_=>false
theorem cHc {m e:Nat}(hm:m∈pF) (h:bGv m e=true):(zI m e).length≤(dJ m).length-1∧∀ z∈zI m e,z.natAbs≤10:=by
 obtain⟨c1,c2,c3,c4⟩:=tT hm;unfold bGv at h;rw[bF6 (by omega)]at h
 have e1:bS (dvI (dJ m) (e+2-(dJ m).length) (unZ e))=zI m e:=rfl;rw[e1]at h
 simpa only[Bool.and_eq_true,Nat.ble_eq,List.all_eq_true]using h
theorem cHd {m:Nat}(h:bGw m=true):PGd 124 [i64 m] (i64 0):=by
 unfold bGw at h;split at h
 ·rename_i e he;have:=Nat.eq_of_beq_eq_true h;subst this;exact cV aAp he
 ·cases h
theorem bWy:(pF.all fun m=>(List.range m).all (bGv m))=true:=by kernel_rfl
theorem bWz:pF.all bGw=true:=by kernel_rfl
theorem bMm:∀ m∈pF,(Nat.ble 2 (dJ m).length && Nat.ble (dJ m).length 13)=true:=by
 have h:(pF.all fun m=>Nat.ble 2 (dJ m).length && Nat.ble (dJ m).length 13)=true:=by decide+kernel
 exact List.all_eq_true.1 h
attribute [local irreducible] lrun lwp exThen exBlk keep goodPost sg mg oc op
theorem aT1 {m e:Nat}(hm:m∈pF) (he:e<m):PGd 175 [i64 m,i64 e,bG 1] (encF (rz (zI m e))):=by
 obtain⟨m1,m2⟩:=bF8 hm;have gf:=oS hm
 have gn:=xK hm (unO e) (D:=1) (L:=1) (by decide) (by decide+kernel) (by omega) (by rw[lP];omega) (fun j=>by
  rw[aL5,mK,aL7];refine aL8 ?_
  split <;>decide) (fun q hq=>by
  unfold unO at hq;simp only[List.mem_append,List.mem_replicate,List.mem_singleton]at hq;rcases hq with⟨_,h⟩ |h
  ·cases h
  ·injection h with h;rw[h]
   decide+kernel)
 rw[aTk hm,lP]at gn
 have hset:=lH (l:=List.replicate (e+1) none) (j:=e) (by simp) 1
 have e1:(List.replicate (e+1) (none:Option Rat)).set e (some 1)=unO e:=by
  unfold unO;rw[List.replicate_succ',List.set_append_right _ _ (by simp)];simp
 rw[e1]at hset
 have hl:=lP e;have q:(e:Int).tmod (m:Int)=e:=Int.tmod_eq_of_lt (by omega) (by omega);have q2:(e:Int) % (m:Int)=e:=Int.emod_eq_of_lt (by omega) (by omega);have q3:e % m=e:=Nat.mod_eq_of_lt he;generalize rz (zI m e)=R at*;generalize mJ (dJ m)=W at*;generalize (dJ m).length=cl at*;simp only[bE,aH,i64]at*;refine aA aV Tryz.func175 rfl (by decide) (nt:=39) rfl (rs:=[.tmp 6]) rfl (aW rfl) ?_
 (repeat(first|apply zO (by decide+kernel)|apply zP (by decide+kernel)|(apply zS;(case h=>constructor<;>decide))|((first|apply cB rfl|apply aS|apply zT rfl (by decide) rfl);(case hs=>(simp(disch:=first|omega|exact kD rfl|exact kX rfl) only[smY,simprocAttr,bl,i64,smT,smO,hset,lO,@iM,hl,q,q2,q3];exact rfl));first|refine bZ ?_|refine cA ?_|refine zq ?_|(case hg=>assumption))))
 ((first|apply dI|apply dK);case hres=>(simp only[gW];simp(disch:=first|omega|exact kD rfl|exact kX rfl) only[smY,simprocAttr,bl,i64,smT,smO,hset,lO,@iM,hl,q,q2,q3];exact rfl))
 simp(disch:=first|omega|exact kD rfl|exact kX rfl) only[smY,simprocAttr,bl,i64,smT,smO,hset,lO,@iM,hl,q,q2,q3]
theorem aT2 {m e:Nat}(hm:m∈pF) (he:e<m):PGd 84 [i64 m,i64 e] (.tup [encF (rz (zI m e)),i64 0]):=by
 have g1:=cHd (List.all_eq_true.1 bWz m hm);have g2:=aT1 hm he;have g3:=iG 1 (by omega);rw[show((1:Int):Rat)=1 from rfl]at g3
 generalize rz (zI m e)=R at*;simp only[bE,aH,i64]at*;refine aA aV Tryz.func84 rfl (by decide) (nt:=16) rfl (rs:=[.tmp 4,.tmp 5]) rfl (aW rfl) ?_;refine zA4 ?_;exact zQ5
end
section
open Go Go.Lg Go.Num
def nVi (b m:Nat):LV:=if m=0 then nilL else .own b 0 m 2
def nBi (b m:Nat) (cs:List LV):List (Nat×Blk):=if m=0 then[]else[(b,⟨45,cs,false⟩)]
theorem vR (b:Nat):nVi b 0=nilL:=rfl
theorem pA {b m:Nat}(h:m=0):nVi b m=nilL:=if_pos h
theorem pB {b m:Nat}(h:m≠0):nVi b m= .own b 0 m 2:=if_neg h
theorem gI (b m:Nat):nVi b (m+1)= .own b 0 (m+1) 2:=rfl
theorem pD {b m:Nat}{cs:List LV}(h:m=0):nBi b m cs=[]:=if_pos h
theorem pE {b m:Nat}{cs:List LV}(h:m≠0):nBi b m cs=[(b,⟨45,cs,false⟩)]:=if_neg h
theorem vS (b:Nat) (cs:List LV):nBi b 0 cs=[]:=rfl
theorem gJ (b m:Nat) (cs:List LV):nBi b (m+1) cs=[(b,⟨45,cs,false⟩)]:=rfl
theorem tF {L:List Int}{m:Nat}(h:m<L.length):L.take (m+1)=L.take m++[L.getD m 0]:=by
 rw[List.take_succ_eq_append_getElem h];simp[List.getD,h]
theorem nF (l:List Int):oH l= .sl l.length (ic l):=rfl
theorem aA1 (L:List Int) (m:Nat):(ic L).take (m*2)=ic (L.take m):=by
 rcases Nat.lt_or_ge m L.length with h |h
 ·have e:ic L=ic (L.take m)++ic (L.drop m):=by
   conv=>lhs;rw[← List.take_append_drop m L]
   simp only[ic,List.flatMap_append]
  have hl:(ic (L.take m)).length=m*2:=by rw[uY,List.length_take];omega
  rw[e,← hl,List.take_left]
 ·rw[List.take_of_length_le h,List.take_of_length_le (by rw[uY];omega)]
theorem bGx:∀ {a b:List Int},rz a=rz b→a=b
 |[],[],_=>rfl
 |[],_::_,h=>by cases h
 |_::_,[],h=>by cases h
 |x::a,y::b,h=>by
  have h:((x:Int):Rat)::rz a=((y:Int):Rat)::rz b:=h;injection h with h1 h2;rw[Rat.intCast_inj.1 h1,bGx h2]
theorem tG (L:List Int):∃ m,m≤L.length∧bS L=L.take m∧(∀ j,m≤j→L.getD j 0=0)∧(0<m→L.getD (m-1) 0≠0):=by
 obtain⟨m,h1,h2,h3,h4⟩:=kF (rz L);rw[bX]at h1
 refine⟨m,h1,bGx ?_,fun j hj=> ?_,fun h e=>h4 h ?_⟩
 ·rw[oQ,h2];simp[rz,List.map_take]
 ·have:=h3 j hj;rw[mK]at this
  exact Rat.intCast_inj.1 (this.trans Rat.intCast_zero.symm)
 ·rw[mK,e];rfl
attribute [local irreducible] lrun lwp exThen exBlk keep goodPost sg mg
theorem iP (L:List Int) (hl:L.length≤100000) (hf:∀ j,j<L.length→len (L.getD j 0)≤100000):PGd 345 [oH L] (oH (bS L)):=by
 obtain⟨k,hk0,hkt,hk1,hk2⟩:=tG L;obtain⟨N,hlen⟩:∃ N,L.length=N:=⟨_,rfl⟩;have hkl:(bS L).length=k:=by rw[hkt,List.length_take];omega
 rw[nF,nF,hkl,hkt,hlen];rw[hlen]at hk0 hl hf
 refine aA aV Tryz.func345 rfl (by decide) (nt:=38) rfl (rs:=[.tmp 2]) rfl (aW rfl) ?_;refine dP ?_;refine aG (α:={m:Nat // m≤N}) (fun m=>st 38 (lk [(0,.sl N (ic L)),(3,nVi 0 m.1),(4,i64 m.1)]) (cG (nBi 0 m.1 (ic (L.take m.1)))) 1) (fun m=>N-m.1) ⟨0,by omega⟩ ?_ ?_
 ·simp only[vR,vS]
  (refine Sub.plain ?_;simp only[aI,simprocAttr,bl,i64,smT])
  all_goals(first |done |simp)
 ·rintro⟨m,hm⟩;simp only[st];by_cases hlt:m<N
  ·have g2:=fG (L.getD m 0) (by have:=hf m (by omega);omega);have happ:=tF (L:=L) (m:=m) (by omega);have htl:(L.take m).length=m:=by rw[List.length_take];omega
   generalize hq:L.getD m 0=q at*;simp only[aY]at g2;by_cases h0:m=0
   ·simp only[pA h0,pD h0];refine cZ hq ?_;refine⟨⟨m+1,by omega⟩,?_,by simp only;omega⟩;subst h0;simp only[gI,gJ]
    (refine fY [12] ?_ ?_ ?_;all_goals(first|(simp only[aB,aI,simprocAttr,bl,i64,smT];done) |(simp only[aI,simprocAttr,bl,i64,smT];try((repeat' apply And.intro);all_goals rfl)) |skip))
    have e:L.take 1=[q]:=happ;all_goals(first |done |(rw[e,← aBv]))
   ·simp only[pB h0,pE h0];refine cZ hq ?_;refine⟨⟨m+1,by omega⟩,?_,by simp only;omega⟩;simp only[gI,gJ]
    (refine fY [12] ?_ ?_ ?_;all_goals(first|(simp only[aB,aI,simprocAttr,bl,i64,smT];done) |(simp only[aI,simprocAttr,bl,i64,smT];try((repeat' apply And.intro);all_goals rfl)) |skip))
    all_goals(first |done |(rw[happ,← uZ]))
  ·obtain rfl:m=N:=by omega
   have htL:L.take m=L:=List.take_of_length_le (by omega);rw[htL];by_cases h0:m=0
   ·simp only[pA h0,pD h0];obtain rfl:k=0:=by omega
    subst h0
    (refine dP ?_;refine aG (α:=Unit) (fun _=>st 38 (lk [(3,nilL),(5,i64 0)]) (cG []) 0) (fun _=>0) () (by(refine Sub.plain ?_;simp only[aI,simprocAttr,bl,i64,smT]);all_goals done) (fun _=> ?_);simp only[st];refine dP ?_;refine fX rfl (by decide) rfl ?_;refine dP ?_;((first|apply dI|apply dK);case hres=>(simp only[gW];simp(disch:=first|omega|exact kD rfl|exact kX rfl) only[smY,simprocAttr,bl,i64,smT];exact rfl));simp(disch:=first|omega|exact kD rfl|exact kX rfl) only[smY,simprocAttr,bl,i64,smT];first |done |rfl)
   ·simp only[pB h0,pE h0];refine dP ?_;refine aG (α:={j:Nat // k≤j∧j≤m}) (fun j=>st 38 (lk [(3,.own 0 0 m 2),(5,i64 j.1)]) (cG [(0,⟨45,ic L,false⟩)]) 1) (fun j=>j.1) ⟨m,by omega,Nat.le_refl _⟩ ?_ ?_
    ·exact zL0 [0]
    ·rintro⟨j,hj1,hj2⟩;simp only[st];rcases j with _ |j
     ·obtain rfl:k=0:=by omega
      refine dP ?_;refine fX rfl (by decide) rfl ?_;refine dP ?_
      (((first|apply dI|apply dK);case hres=>(simp only[gW];simp(disch:=first|omega|exact kD rfl|exact kX rfl) only[smY,simprocAttr,bl,i64,smT];exact rfl));simp(disch:=first|omega|exact kD rfl|exact kX rfl) only[smY,simprocAttr,bl,i64,smT];first |done |rfl |(simp only[aA1];simp(disch:=first|omega|exact kD rfl|exact kX rfl) only[smY,simprocAttr,bl,i64,smT];done) |(simp only[aA1];simp(disch:=first|omega|exact kD rfl|exact kX rfl) only[smY,simprocAttr,bl,i64,smT];rfl))
     ·have g3:=sM (L.getD j 0) (by have:=hf j (by omega);omega);have e3:((j+1:Nat):Int)-1=(j:Int):=by omega
      have hic:(ic L).length=m*2:=by rw[uY,hlen]
      by_cases hjk:k=j+1
      ·have hnz:¬(L.getD j 0).sign=0:=fun e=>by
        have:=hk2 (by omega);rw[hjk,Nat.add_sub_cancel]at this
        exact this (Int.sign_eq_zero_iff_zero.1 e)
       subst hjk;generalize hq:L.getD j 0=q at*;generalize q.sign=s at*;simp only[aY,i64]at g3;refine cZ (nd hq e3) ?_
       (((first|apply dI|apply dK);case hres=>(simp only[gW];simp(disch:=first|omega|exact kD rfl|exact kX rfl) only[smY,simprocAttr,bl,i64,smT,hq,e3];exact rfl));simp(disch:=first|omega|exact kD rfl|exact kX rfl) only[smY,simprocAttr,bl,i64,smT,hq,e3];first |done |rfl |(simp only[aA1];simp(disch:=first|omega|exact kD rfl|exact kX rfl) only[smY,simprocAttr,bl,i64,smT,hq,e3];done) |(simp only[aA1];simp(disch:=first|omega|exact kD rfl|exact kX rfl) only[smY,simprocAttr,bl,i64,smT,hq,e3];rfl))
      ·have hz:(L.getD j 0).sign=0:=by
        rw[hk1 j (by omega)];rfl
       rw[hz]at g3
       generalize hq:L.getD j 0=q at*;simp only[aY,i64]at g3;refine cZ (nd hq e3) ?_;refine⟨⟨j,by omega,by omega⟩,?_,by simp only;omega⟩;exact zL0 [0]
end
section
open Go Go.Lg Go.Num
def aQh (l:List Int):Prop:=l.length≤200∧∀ j,(l.getD j 0).natAbs≤100000
theorem fW {z:Int}(h:z.natAbs<4294967296):len z≤1:=bH (e:=1) (by omega)
def aMo (f g:List Int):List Int:=(List.range (max f.length g.length)).map fun i=>f.getD i 0+g.getD i 0
def aCj (f:List Int) (a:Int):List Int:=f.map fun z=>z*a
def cvS (a b:List Int) (n:Nat):Nat→Int
 |0=>0
 |i+1=>if i<a.length∧n-i<b.length then cvS a b n i+a.getD i 0*b.getD (n-i) 0 else cvS a b n i
def aT3 (a b:List Int):List Int:=(List.range (a.length+b.length-1)).map fun n=>cvS a b n (n+1)
theorem bGy {f g:List Int}{i:Nat}(h:i<max f.length g.length):(aMo f g).getD i 0=f.getD i 0+g.getD i 0:=by
 unfold aMo;simp only[List.getD,List.getElem?_map,List.getElem?_range h,Option.map_some,Option.getD_some]
theorem bGz (f:List Int) (a:Int) (i:Nat):(aCj f a).getD i 0=f.getD i 0*a:=by
 unfold aCj;rcases Nat.lt_or_ge i f.length with h |h
 ·simp[List.getD,h]
 ·simp[List.getD,h]
theorem bG0 {a b:List Int}{n:Nat}(h:n<a.length+b.length-1):(aT3 a b).getD n 0=cvS a b n (n+1):=by
 unfold aT3;simp[List.getD,h]
theorem aW6 {a b:List Int}{n B:Nat}(ha:∀ j,(a.getD j 0).natAbs≤B) (hb:∀ j,(b.getD j 0).natAbs≤B):∀ i,(cvS a b n i).natAbs≤i*(B*B)
 |0=>by simp[cvS]
 |i+1=>by
  have ih:=aW6 (n:=n) ha hb i
  have hm:(a.getD i 0*b.getD (n-i) 0).natAbs≤B*B:=by
    rw[Int.natAbs_mul];exact Nat.mul_le_mul (ha i) (hb _)
  unfold cvS;rw[Nat.add_mul,Nat.one_mul];split
  · have:=Int.natAbs_add_le (cvS a b n i) (a.getD i 0*b.getD (n-i) 0);omega
  · omega
attribute [local irreducible] lrun lwp exThen exBlk keep goodPost sg mg
theorem aJ5 (f:List Int) (i:Nat) (hi:i≤1000) (hl:f.length≤1000) (hf:∀ j,(f.getD j 0).natAbs≤100000):PGd 351 [.sl f.length (ic f),i64 i] (aO (f.getD i 0)):=by
 have g0:=qW 0 (by omega);have g1:=fG (f.getD i 0) (by have:=fW (z:=f.getD i 0) (by have:=hf i;omega);omega);by_cases h:i<f.length
 ·generalize hq:f.getD i 0=q at*;simp only[aY,i64]at*;refine aA aV Tryz.func351 rfl (by decide) (nt:=19) rfl (rs:=[.cell 4 45]) rfl (aW rfl) ?_;refine cZ hq ?_;exact aKn hq
 ·have hz:f.getD i 0=0:=by simp[List.getD,Nat.le_of_not_lt h]
  rw[hz];simp only[aY,i64]at*;refine aA aV Tryz.func351 rfl (by decide) (nt:=19) rfl (rs:=[.cell 4 45]) rfl (aW rfl) ?_;refine dP ?_;exact lU
theorem aHf (f g:List Int) (hf:aQh f) (hg:aQh g):PGd 348 [oH f,oH g] (oH (bS (aMo f g))):=by
 obtain⟨lf,bf⟩:=hf;obtain⟨lg,bg⟩:=hg;obtain⟨L,hL⟩:∃ L,L=aMo f g:=⟨_,rfl⟩;have hlen:L.length=max f.length g.length:=by rw[hL];simp[aMo]
 have hget:∀ i,i<max f.length g.length→L.getD i 0=f.getD i 0+g.getD i 0:=fun i hi=>by rw[hL];exact bGy hi
 have gN:=iP L (by omega) (fun j hj=>by
  rw[hget j (by omega)];have h1:=bf j;have h2:=bg j;have:=fW (z:=f.getD j 0+g.getD j 0) (by omega)
  omega)
 rw[← hL];clear hL;obtain⟨N,hN⟩:∃ N,max f.length g.length=N:=⟨_,rfl⟩;rw[hN]at hlen hget
 simp only[nF,hlen]at gN⊢;generalize ic (bS L)=Z at*;generalize (bS L).length=zl at*;refine aA aV Tryz.func348 rfl (by decide) (nt:=31) rfl (rs:=[.tmp 4]) rfl (aW rfl) ?_;refine dP ?_;refine aG (α:={m:Nat // m≤N}) (fun m=>st 31 (lk [(0,.sl f.length (ic f)),(1,.sl g.length (ic g)),(5,nVi 0 m.1),(6,.lit (.int .i64 m.1))]) (cG (nBi 0 m.1 (ic (L.take m.1)))) 1) (fun m=>N-m.1) ⟨0,by omega⟩ ?_ ?_
 ·simp only[vR,vS]
  (refine Sub.plain ?_;simp only[aI,simprocAttr,bl,i64,smT])
  all_goals(first |done |simp)
 ·rintro⟨m,hm⟩;simp only[st];by_cases hlt:m<N
  ·have g1:=aJ5 f m (by omega) (by omega) bf;have g2:=aJ5 g m (by omega) (by omega) bg;have h1:=bf m;have h2:=bg m;have l1:=fW (z:=f.getD m 0) (by omega);have l2:=fW (z:=g.getD m 0) (by omega);have g3:=qY (f.getD m 0) (g.getD m 0) (by omega) (by omega);rw[← hget m hlt]at g3
   have happ:=tF (L:=L) (m:=m) (by omega);have htl:(L.take m).length=m:=by rw[List.length_take];omega
   generalize L.getD m 0=S at*;generalize f.getD m 0=x at*;generalize g.getD m 0=y at*;simp only[aY,i64]at g1 g2 g3;by_cases hfm:m<f.length
   ·have hfi:((m:Int)<(f.length:Int)):=by omega
    by_cases h0:m=0
    ·simp only[pA h0,pD h0];refine cZ hN ?_;refine⟨⟨m+1,by omega⟩,?_,by simp only;omega⟩;subst h0;simp only[gI,gJ]
     (refine fY [20] ?_ ?_ ?_;all_goals(first|(simp only[aB,aI,simprocAttr,bl,i64,smT];done) |(simp only[aI,simprocAttr,bl,i64,smT];try((repeat' apply And.intro);all_goals rfl)) |skip))
     have e:L.take 1=[S]:=happ;all_goals(first |done |(rw[e,← aBv];first |done |exact⟨trivial,rfl⟩) |trace_state)
    ·simp only[pB h0,pE h0];refine cZ hN ?_;refine⟨⟨m+1,by omega⟩,?_,by simp only;omega⟩;simp only[gI,gJ]
     (refine fY [20] ?_ ?_ ?_;all_goals(first|(simp only[aB,aI,simprocAttr,bl,i64,smT];done) |(simp only[aI,simprocAttr,bl,i64,smT];try((repeat' apply And.intro);all_goals rfl)) |skip))
     all_goals(first |done |(rw[happ,← uZ];first |done |exact⟨trivial,rfl⟩) |trace_state)
   ·have hgm:m<g.length:=by omega
    by_cases h0:m=0
    ·simp only[pA h0,pD h0];refine cZ hN ?_;refine⟨⟨m+1,by omega⟩,?_,by simp only;omega⟩;subst h0;simp only[gI,gJ]
     (refine fY [20] ?_ ?_ ?_;all_goals(first|(simp only[aB,aI,simprocAttr,bl,i64,smT];done) |(simp only[aI,simprocAttr,bl,i64,smT];try((repeat' apply And.intro);all_goals rfl)) |skip))
     have e:L.take 1=[S]:=happ;all_goals(first |done |(rw[e,← aBv];first |done |exact⟨trivial,rfl⟩) |trace_state)
    ·simp only[pB h0,pE h0];refine cZ hN ?_;refine⟨⟨m+1,by omega⟩,?_,by simp only;omega⟩;simp only[gI,gJ]
     (refine fY [20] ?_ ?_ ?_;all_goals(first|(simp only[aB,aI,simprocAttr,bl,i64,smT];done) |(simp only[aI,simprocAttr,bl,i64,smT];try((repeat' apply And.intro);all_goals rfl)) |skip))
     all_goals(first |done |(rw[happ,← uZ];first |done |exact⟨trivial,rfl⟩) |trace_state)
  ·obtain rfl:m=N:=by omega
   have htL:L.take m=L:=List.take_of_length_le (by omega);rw[htL];by_cases h0:m=0
   ·try(exfalso;omega)
    all_goals
     simp only[pA h0,pD h0];have hL0:L=[]:=List.eq_nil_of_length_eq_zero (by omega);rw[hL0]at gN
     rw[show ic []=[]from rfl]at gN
     subst h0;refine dP ?_;exact lU
   ·simp only[pB h0,pE h0];refine dP ?_;exact lU
theorem aMp (f:List Int) (a:Int) (hf:aQh f) (ha:a.natAbs≤1000):PGd 350 [oH f,aO a] (oH (bS (aCj f a))):=by
 obtain⟨lf,bf⟩:=hf;obtain⟨L,hL⟩:∃ L,L=aCj f a:=⟨_,rfl⟩;have hlen:L.length=f.length:=by rw[hL];simp[aCj]
 have hget:∀ i,L.getD i 0=f.getD i 0*a:=fun i=>by rw[hL];exact bGz f a i
 have hb:∀ j,(f.getD j 0*a).natAbs<4294967296:=fun j=>by
  rw[Int.natAbs_mul];have:=Nat.mul_le_mul (bf j) ha;omega
 have gN:=iP L (by omega) (fun j hj=>by
  rw[hget j];have:=fW (hb j)
  omega)
 rw[← hL];clear hL;obtain⟨N,hN⟩:∃ N,f.length=N:=⟨_,rfl⟩;rw[hN]at hlen lf
 simp only[nF,hlen,hN,aY]at gN⊢;have lA:=fW (z:=a) (by omega);generalize ic (bS L)=Z at*;generalize (bS L).length=zl at*;refine aA aV Tryz.func350 rfl (by decide) (nt:=24) rfl (rs:=[.tmp 4]) rfl (aW rfl) ?_;refine dP ?_;refine aG (α:={m:Nat // m≤N}) (fun m=>st 24 (lk [(0,.sl N (ic f)),(3,.ptr 0 0),(5,nVi 1 m.1),(6,.lit (.int .i64 m.1))]) (cG ((0,⟨45,[sg a,mg a],false⟩)::nBi 1 m.1 (ic (L.take m.1)))) 2) (fun m=>N-m.1) ⟨0,by omega⟩ ?_ ?_
 ·simp only[vR,vS];exact zL0 [0,99]
 ·rintro⟨m,hm⟩;simp only[st];by_cases hlt:m<N
  ·have l1:=fW (z:=f.getD m 0) (by have:=bf m;omega);have g3:=fU (f.getD m 0) a (by omega) (by omega);rw[← hget m]at g3
   have happ:=tF (L:=L) (m:=m) (by omega);have htl:(L.take m).length=m:=by rw[List.length_take];omega
   generalize L.getD m 0=S at*;generalize hx:f.getD m 0=x at*;simp only[aY,i64]at g3;by_cases h0:m=0
   ·simp only[pA h0,pD h0];refine cZ (nd hx hN) ?_;refine⟨⟨m+1,by omega⟩,?_,by simp only;omega⟩;subst h0;simp only[gI,gJ]
    (refine fY [0,14] ?_ ?_ ?_;all_goals(first|(simp only[aB,aI,simprocAttr,bl,i64,smT];done) |(simp only[aI,simprocAttr,bl,i64,smT];try((repeat' apply And.intro);all_goals rfl)) |skip))
    have e:L.take 1=[S]:=happ;all_goals(first |done |(rw[e,← aBv];first |done |exact⟨trivial,rfl⟩) |trace_state)
   ·simp only[pB h0,pE h0];refine cZ (nd hx hN) ?_;refine⟨⟨m+1,by omega⟩,?_,by simp only;omega⟩;simp only[gI,gJ]
    (refine fY [0,14] ?_ ?_ ?_;all_goals(first|(simp only[aB,aI,simprocAttr,bl,i64,smT];done) |(simp only[aI,simprocAttr,bl,i64,smT];try((repeat' apply And.intro);all_goals rfl)) |skip))
    all_goals(first |done |(rw[happ,← uZ];first |done |exact⟨trivial,rfl⟩) |trace_state)
  ·obtain rfl:m=N:=by omega
   have htL:L.take m=L:=List.take_of_length_le (by omega);rw[htL];by_cases h0:m=0
   ·try(exfalso;omega)
    all_goals
     simp only[pA h0,pD h0];have hL0:L=[]:=List.eq_nil_of_length_eq_zero (by omega);rw[hL0]at gN
     rw[show ic []=[]from rfl]at gN
     subst h0;refine dP ?_;exact lU
   ·simp only[pB h0,pE h0];refine dP ?_;exact lU
theorem aT4 (f g:List Int) (hf:aQh f) (hg:aQh g) (hs:aQh (bS (aCj g (-1)))):PGd 342 [oH f,oH g] (oH (bS (aMo f (bS (aCj g (-1)))))):=by
 have g0:=qW (-1) (by omega);have g1:=aMp g (-1) hg (by decide);have g2:=aHf f _ hf hs;generalize bS (aMo f (bS (aCj g (-1))))=A at*;generalize bS (aCj g (-1))=B at*;simp only[nF,aY,i64]at*;refine aA aV Tryz.func342 rfl (by decide) (nt:=10) rfl (rs:=[.tmp 4]) rfl (aW rfl) ?_;refine dP ?_;exact lU
theorem aMq (f:List Int) (n:Nat) (hn:n≤200) (hf:aQh f):PGd 343 [oH f,i64 n] (oH (if(bS f).length=0 then[]else List.replicate n 0++bS f)):=by
 obtain⟨lf,bf⟩:=hf;have gN:=iP f (by omega) (fun j hj=>by have:=fW (z:=f.getD j 0) (by have:=bf j;omega);omega);have hlt:=(tG f)
 have hzl:(bS f).length≤200:=by
  obtain⟨q,h1,h2,_⟩:=hlt;rw[h2,List.length_take];omega
 have gz:=qW 0 (by omega);generalize bS f=A at*;by_cases h0:A.length=0
 ·have hA:A=[]:=List.eq_nil_of_length_eq_zero h0;subst hA;rw[if_pos (show([]:List Int).length=0 from rfl)];simp only[nF,i64]at*;refine aA aV Tryz.func343 rfl (by decide) (nt:=25) rfl (rs:=[.tmp 4]) rfl (aW rfl) ?_;refine dP ?_;refine zR1 ?_;simp(disch:=first|omega|exact kD rfl|exact kX rfl) only[smY,simprocAttr,bl,i64,smT];all_goals(first |done |rfl)
 ·rw[if_neg h0];have hrl:∀ m,(ic (List.replicate m (0:Int))).length=m*2:=fun m=>by rw[uY,List.length_replicate]
  have hrt:∀ m,(ic (List.replicate m (0:Int))).take (m*2)=ic (List.replicate m 0):=fun m=>List.take_of_length_le (by rw[hrl];omega)
  have hal:=uY A;have hat:(ic A).take (A.length*2)=ic A:=List.take_of_length_le (by omega);have happ:ic (List.replicate n 0)++ic A=ic (List.replicate n 0++A):=by simp only[ic,List.flatMap_append]
  have hlen:(List.replicate n (0:Int)++A).length=n+A.length:=by simp
  have hft:(ic (List.replicate n 0++A)).take ((n+A.length)*2)=ic (List.replicate n 0++A):=List.take_of_length_le (by rw[uY,hlen];omega);have hA0:(A.length=0)=False:=eq_false h0;simp only[nF,aY,i64]at gN gz⊢;rw[hlen];refine aA aV Tryz.func343 rfl (by decide) (nt:=25) rfl (rs:=[.tmp 4]) rfl (aW rfl) ?_;refine dP ?_;refine aG (α:={m:Nat // m≤n}) (fun m=>st 25 (lk [(1,.lit (.int .i64 n)),(5,.sl A.length (ic A)),(6,nVi 0 m.1),(7,.lit (.int .i64 m.1))]) (cG (nBi 0 m.1 (ic (List.replicate m.1 0)))) 1) (fun m=>n-m.1) ⟨0,by omega⟩ ?_ ?_
  ·simp only[vR,vS]
   (refine Sub.plain ?_;simp only[aI,simprocAttr,bl,i64,smT])
   all_goals(first |done |simp)
  ·rintro⟨m,hm⟩;simp only[st];have hap2:ic (List.replicate m 0)++[sg 0,mg 0]=ic (List.replicate (m+1) 0):=by rw[uZ,← List.replicate_succ']
   by_cases hlt:m<n
   ·by_cases h0:m=0
    ·simp only[pA h0,pD h0];refine dP ?_;refine⟨⟨m+1,by omega⟩,?_,by simp only;omega⟩;subst h0;simp only[gI,gJ]
     (refine fY [7] ?_ ?_ ?_;all_goals(first|(simp only[aB,aI,simprocAttr,bl,i64,smT];done) |(simp only[aI,simprocAttr,bl,i64,smT];try((repeat' apply And.intro);all_goals rfl)) |skip))
     all_goals(first |done |(rw[← hap2];rfl) |trace_state)
    ·simp only[pB h0,pE h0];refine cZ (nd hrl hrt) ?_;refine⟨⟨m+1,by omega⟩,?_,by simp only;omega⟩;simp only[gI,gJ]
     (refine fY [7] ?_ ?_ ?_;all_goals(first|(simp only[aB,aI,simprocAttr,bl,i64,smT];done) |(simp only[aI,simprocAttr,bl,i64,smT];try((repeat' apply And.intro);all_goals rfl)) |skip))
     all_goals(first |done |(rw[hap2]) |trace_state)
   ·obtain rfl:m=n:=by omega
    by_cases h0:m=0
    ·simp only[pA h0,pD h0];subst h0;rw[List.replicate_zero,List.nil_append,Nat.zero_add];refine cZ (nd hal (nd hat hA0)) ?_;exact aKn (nd hal (nd hat hA0))
    ·simp only[pB h0,pE h0];refine cZ (nd hrl (nd hrt (nd hal (nd hat (nd happ hft))))) ?_;exact aKn (nd hrl (nd hrt (nd hal (nd hat (nd happ hft)))))
theorem aT5 (f g:List Int) (lf:f.length≤200) (bf:∀ j,(f.getD j 0).natAbs≤1000) (lg:g.length≤200) (bg:∀ j,(g.getD j 0).natAbs≤1000):PGd 349 [oH f,oH g] (oH (if(bS f).length=0∨(bS g).length=0 then[]else bS (aT3 (bS f) (bS g)))):=by
 have tb:∀ l:List Int,l.length≤200→(∀ j,(l.getD j 0).natAbs≤1000)→(bS l).length≤200∧∀ j,((bS l).getD j 0).natAbs≤1000:=by
  intro l hl hb;obtain⟨q,h1,h2,_⟩:=tG l;rw[h2,List.length_take];refine⟨by omega,fun j=> ?_⟩;by_cases hj:j<q
  ·have:(l.take q).getD j 0=l.getD j 0:=by simp[List.getD,hj]
   rw[this];exact hb j
  ·have:(l.take q).getD j 0=0:=by rw[List.getD,List.getElem?_take,if_neg hj];rfl
   rw[this];decide
 obtain⟨hA1,hAb⟩:=tb f lf bf;obtain⟨hB1,hBb⟩:=tb g lg bg;have gf:=iP f (by omega) (fun j hj=>by have:=fW (z:=f.getD j 0) (by have:=bf j;omega);omega);have gg:=iP g (by omega) (fun j hj=>by have:=fW (z:=g.getD j 0) (by have:=bg j;omega);omega);have gz:=qW 0 (by omega);generalize bS f=A at*;generalize bS g=B at*;have hcb:=fun m i=>aW6 (a:=A) (b:=B) (n:=m) (B:=1000) hAb hBb i
 have hcv0:∀ m,cvS A B m 0=0:=fun _=>rfl
 obtain⟨L,hL⟩:∃ L,L=aT3 A B:=⟨_,rfl⟩;obtain⟨la,hA⟩:∃ la,A.length=la:=⟨_,rfl⟩;obtain⟨lb,hB⟩:∃ lb,B.length=lb:=⟨_,rfl⟩;rw[hA,hB];rw[hA]at hA1
 rw[hB]at hB1
 by_cases hz:la=0∨lb=0
 ·rw[if_pos hz];simp only[nF,i64]at gf gg gz⊢;rw[hA]at gf
  rw[hB]at gg
  by_cases h:la=0
  ·subst h;refine aA aV Tryz.func349 rfl (by decide) (nt:=70) rfl (rs:=[.tmp 4]) rfl (aW rfl) ?_;refine dP ?_;refine zR1 ?_;simp(disch:=first|omega|exact kD rfl|exact kX rfl) only[smY,simprocAttr,bl,i64,smT];all_goals(first |done |rfl)
  ·obtain rfl:lb=0:=by omega
   refine aA aV Tryz.func349 rfl (by decide) (nt:=70) rfl (rs:=[.tmp 4]) rfl (aW rfl) ?_;refine dP ?_;refine zR1 ?_;simp(disch:=first|omega|exact kD rfl|exact kX rfl) only[smY,simprocAttr,bl,i64,smT];all_goals(first |done |rfl)
 ·rw[if_neg hz];have hlen:L.length=la+lb-1:=by rw[hL];simp[aT3,hA,hB]
  have hget:∀ n,n<la+lb-1→L.getD n 0=cvS A B n (n+1):=fun n hn=>by rw[hL];exact bG0 (by rw[hA,hB];exact hn)
  have gN:=iP L (by omega) (fun j hj=>by
   rw[hget j (by omega)];have:=hcb j (j+1);have h2:=Nat.mul_le_mul_right (1000*1000) (show j+1≤401 by omega);have:=fW (z:=cvS A B j (j+1)) (by omega)
   omega)
  rw[← hL];clear hL;obtain⟨N,hN⟩:∃ N,la+lb-1=N:=⟨_,rfl⟩;have hNi:(la:Int)+(lb:Int)-1=(N:Int):=by omega
  rw[hN]at hlen hget
  simp only[nF,aY,i64]at gf gg gz gN⊢;rw[hA]at gf
  rw[hB]at gg
  rw[hlen]at gN
  generalize ic (bS L)=Z at*;generalize (bS L).length=zl at*;refine aA aV Tryz.func349 rfl (by decide) (nt:=70) rfl (rs:=[.tmp 4]) rfl (aW rfl) ?_;refine dP ?_;refine aG (α:={m:Nat // m≤N}) (fun m=>st 70 (lk [(5,.sl la (ic A)),(6,.sl lb (ic B)),(7,nVi 0 m.1),(8,.lit (.int .i64 m.1))]) (cG (nBi 0 m.1 (ic (L.take m.1)))) 1) (fun m=>N-m.1) ⟨0,by omega⟩ ?_ ?_
  ·simp only[vR,vS]
   (refine Sub.plain ?_;simp only[aI,simprocAttr,bl,i64,smT])
   all_goals(first |done |simp)
  ·rintro⟨m,hm⟩;simp only[st];by_cases hlt:m<N
   ·have happ:=tF (L:=L) (m:=m) (by omega);have htl:(L.take m).length=m:=by rw[List.length_take];omega
    by_cases h0:m=0
    ·simp only[pA h0,pD h0];have hL0:L.take m=[]:=by rw[h0];rfl
     refine cZ (nd hA (nd hB hNi)) ?_;refine aG (α:={i:Nat // i≤m+1}) (fun i=>st 70 (lk [(5,.sl la (ic A)),(6,.sl lb (ic B)),(7,nilL),(8,.lit (.int .i64 m)),(9,.ptr 0 0),(10,.lit (.int .i64 i.1))]) (cG ((0,⟨45,[sg (cvS A B m i.1),mg (cvS A B m i.1)],false⟩)::[])) 2) (fun i=>m+1-i.1) ⟨0,by omega⟩ ?_ ?_
     ·(refine fY [10,99] ?_ ?_ ?_;all_goals(first|(simp only[aB,aI,simprocAttr,bl,i64,smT,hA,hB,hNi];done) |(simp only[aI,simprocAttr,bl,i64,smT,hA,hB,hNi];try((repeat' apply And.intro);all_goals rfl)) |skip))
      all_goals(first |done |((repeat' apply And.intro);all_goals(first |trivial |rfl |(rw[hcv0];rfl))) |trace_state)
     ·rintro⟨i,hi⟩;simp only[st];have hci:=hcb m i;have hcs:cvS A B m (i+1)=if i<la∧m-i<lb then cvS A B m i+A.getD i 0*B.getD (m-i) 0 else cvS A B m i:=by rw[cvS,hA,hB]
      have lc:=fW (z:=cvS A B m i) (by have:=Nat.mul_le_mul_right (1000*1000) (show i≤401 by omega);omega);by_cases hli:i<m+1
      ·have hmi:(m:Int)-(i:Int)=((m-i:Nat):Int):=by omega
       by_cases c1:i<la
       ·by_cases c2:m-i<lb
        ·rw[if_pos ⟨c1,c2⟩]at hcs
         have lx:=fW (z:=A.getD i 0) (by have:=hAb i;omega);have ly:=fW (z:=B.getD (m-i) 0) (by have:=hBb (m-i);omega);have g1:=fU (A.getD i 0) (B.getD (m-i) 0) (by omega) (by omega)
         have lm:len (A.getD i 0*B.getD (m-i) 0)≤1:=fW (by
          rw[Int.natAbs_mul];have:=Nat.mul_le_mul (hAb i) (hBb (m-i))
          omega)
         have g2:=qY (cvS A B m i) (A.getD i 0*B.getD (m-i) 0) (by omega) (by omega);rw[← hcs]at g2
         generalize A.getD i 0*B.getD (m-i) 0=P at*;generalize hx:A.getD i 0=x at*;generalize hy:B.getD (m-i) 0=y at*;generalize hmi2:m-i=d at*;simp only[aY]at g1 g2;refine cZ (nd hx (nd hy (nd hA (nd hB hmi)))) ?_;refine⟨⟨i+1,by omega⟩,?_,by simp only;omega⟩;exact zL0 [0,1]
        ·try(exfalso;omega)
         all_goals
          rw[if_neg (fun h=>c2 h.2)]at hcs
          generalize hmi2:m-i=d at*;refine cZ (nd hA (nd hB hmi)) ?_;refine⟨⟨i+1,by omega⟩,?_,by simp only;omega⟩;simp only[hcs];exact zL0 [0,1]
       ·try(exfalso;omega)
        all_goals
         rw[if_neg (fun h=>c1 h.1)]at hcs
         refine cZ (nd hA hB) ?_;refine⟨⟨i+1,by omega⟩,?_,by simp only;omega⟩;simp only[hcs];exact zL0 [0,1]
      ·obtain rfl:i=m+1:=by omega
       rw[← hget m hlt]at lc⊢
       generalize L.getD m 0=S at*;refine cZ (nd hA (nd hB htl)) ?_;refine⟨⟨m+1,by omega⟩,?_,by simp only;omega⟩;try subst h0
       simp only[gI,gJ]
       (refine fY [8] ?_ ?_ ?_;all_goals(first|(simp only[aB,aI,simprocAttr,bl,i64,smT];done) |(simp only[aI,simprocAttr,bl,i64,smT];try((repeat' apply And.intro);all_goals rfl)) |skip))
       all_goals(first |done |(rw[happ,← uZ];done) |(rw[show List.take 1 L=[S]from happ.trans (by rw[hL0];rfl),← aBv];first |done |exact⟨trivial,rfl⟩) |trace_state)
    ·have hL0:True:=trivial;simp only[pB h0,pE h0];refine cZ (nd hA (nd hB hNi)) ?_;refine aG (α:={i:Nat // i≤m+1}) (fun i=>st 70 (lk [(5,.sl la (ic A)),(6,.sl lb (ic B)),(7,.own 1 0 m 2),(8,.lit (.int .i64 m)),(9,.ptr 0 0),(10,.lit (.int .i64 i.1))]) (cG ((0,⟨45,[sg (cvS A B m i.1),mg (cvS A B m i.1)],false⟩)::[(1,⟨45,ic (L.take m),false⟩)])) 2) (fun i=>m+1-i.1) ⟨0,by omega⟩ ?_ ?_
     ·(refine fY [10,0] ?_ ?_ ?_;all_goals(first|(simp only[aB,aI,simprocAttr,bl,i64,smT,hA,hB,hNi];done) |(simp only[aI,simprocAttr,bl,i64,smT,hA,hB,hNi];try((repeat' apply And.intro);all_goals rfl)) |skip))
      all_goals(first |done |((repeat' apply And.intro);all_goals(first |trivial |rfl |(rw[hcv0];rfl))) |trace_state)
     ·rintro⟨i,hi⟩;simp only[st];have hci:=hcb m i;have hcs:cvS A B m (i+1)=if i<la∧m-i<lb then cvS A B m i+A.getD i 0*B.getD (m-i) 0 else cvS A B m i:=by rw[cvS,hA,hB]
      have lc:=fW (z:=cvS A B m i) (by have:=Nat.mul_le_mul_right (1000*1000) (show i≤401 by omega);omega);by_cases hli:i<m+1
      ·have hmi:(m:Int)-(i:Int)=((m-i:Nat):Int):=by omega
       by_cases c1:i<la
       ·by_cases c2:m-i<lb
        ·rw[if_pos ⟨c1,c2⟩]at hcs
         have lx:=fW (z:=A.getD i 0) (by have:=hAb i;omega);have ly:=fW (z:=B.getD (m-i) 0) (by have:=hBb (m-i);omega);have g1:=fU (A.getD i 0) (B.getD (m-i) 0) (by omega) (by omega)
         have lm:len (A.getD i 0*B.getD (m-i) 0)≤1:=fW (by
          rw[Int.natAbs_mul];have:=Nat.mul_le_mul (hAb i) (hBb (m-i))
          omega)
         have g2:=qY (cvS A B m i) (A.getD i 0*B.getD (m-i) 0) (by omega) (by omega);rw[← hcs]at g2
         generalize A.getD i 0*B.getD (m-i) 0=P at*;generalize hx:A.getD i 0=x at*;generalize hy:B.getD (m-i) 0=y at*;generalize hmi2:m-i=d at*;simp only[aY]at g1 g2;refine cZ (nd hx (nd hy (nd hA (nd hB hmi)))) ?_;refine⟨⟨i+1,by omega⟩,?_,by simp only;omega⟩;exact zL0 [0,1]
        ·try(exfalso;omega)
         all_goals
          rw[if_neg (fun h=>c2 h.2)]at hcs
          generalize hmi2:m-i=d at*;refine cZ (nd hA (nd hB hmi)) ?_;refine⟨⟨i+1,by omega⟩,?_,by simp only;omega⟩;simp only[hcs];exact zL0 [0,1]
       ·try(exfalso;omega)
        all_goals
         rw[if_neg (fun h=>c1 h.1)]at hcs
         refine cZ (nd hA hB) ?_;refine⟨⟨i+1,by omega⟩,?_,by simp only;omega⟩;simp only[hcs];exact zL0 [0,1]
      ·obtain rfl:i=m+1:=by omega
       rw[← hget m hlt]at lc⊢
       generalize L.getD m 0=S at*;refine cZ (nd hA (nd hB htl)) ?_;refine⟨⟨m+1,by omega⟩,?_,by simp only;omega⟩;try subst h0
       simp only[gI,gJ]
       (refine fY [8] ?_ ?_ ?_;all_goals(first|(simp only[aB,aI,simprocAttr,bl,i64,smT];done) |(simp only[aI,simprocAttr,bl,i64,smT];try((repeat' apply And.intro);all_goals rfl)) |skip))
       all_goals(first |done |(rw[happ,← uZ];done) |(rw[show List.take 1 L=[S]from happ.trans (by rw[hL0];rfl),← aBv];first |done |exact⟨trivial,rfl⟩) |trace_state)
   ·obtain rfl:m=N:=by omega
    have htL:L.take m=L:=List.take_of_length_le (by omega);rw[htL];by_cases h0:m=0
    ·try(exfalso;omega)
     all_goals
      simp only[pA h0,pD h0];have hL0:L=[]:=List.eq_nil_of_length_eq_zero (by omega);rw[hL0]at gN
      rw[show ic []=[]from rfl]at gN
      subst h0;refine dP ?_;exact lU
    ·simp only[pB h0,pE h0];refine dP ?_;exact lU
end
section
open Go Go.Lg Go.Num
def smN (B:Nat) (l:List Int):Bool:=Nat.ble l.length 100 && l.all fun z=>Nat.ble z.natAbs B
theorem aEg {B:Nat}{l:List Int}(h:smN B l=true) (j:Nat):(l.getD j 0).natAbs≤B:=by
 unfold smN at h;rw[Bool.and_eq_true,List.all_eq_true]at h
 by_cases hj:j<l.length
 ·have e:l.getD j 0=l[j]:=by simp[List.getD,hj]
  rw[e];exact Nat.le_of_ble_eq_true (h.2 _ (List.getElem_mem hj))
 ·have:l.getD j 0=0:=by simp[List.getD,Nat.le_of_not_lt hj]
  rw[this];exact Nat.zero_le _
theorem aEh {B:Nat}{l:List Int}(h:smN B l=true):l.length≤100:=by
 unfold smN at h;rw[Bool.and_eq_true]at h
 exact Nat.le_of_ble_eq_true h.1
theorem aW7 {B:Nat}(hB:B≤1000000):∀ {l:List Int},(∀ z∈l,Nat.ble z.natAbs B=true)→mJ l=ic l
 |[],_=>rfl
 |z::l,h=>by
  have ih:=aW7 hB (l:=l) (fun z hz=>h z (by simp[hz]));have hz:=Nat.le_of_ble_eq_true (h z (by simp));show wrI z++mJ l=[sg z,mg z]++ic l;rw[ih,aLa (Nat.lt_of_lt_of_le (m:=4294967296) (by omega) (Nat.le_self_pow (by decide) _))]
theorem yR {B:Nat}{l:List Int}(hB:B≤1000000) (h:smN B l=true):mJ l=ic l:=by
 unfold smN at h;rw[Bool.and_eq_true,List.all_eq_true]at h
 exact aW7 hB h.2
def r5A (f g:List Int):List Int:=bS (aMo f g)
def r5S (f g:List Int):List Int:=bS (aMo f (bS (aCj g (-1))))
def r5M (f g:List Int):List Int:=bif Nat.beq (bS f).length 0 ||Nat.beq (bS g).length 0 then[]else bS (aT3 (bS f) (bS g))
def aHg (K:List Int→List Int→List Int) (c:List Int→List Int→Bool) (args:List LV):Option LV:=match args with
 |[.sl k cs,.sl k' cs']=>match aDm cs,aDm cs' with
  |some f,some g=>bif Nat.beq k f.length && Nat.beq k' g.length && smN 1000 f && smN 1000 g && c f g && smN 1000 (K f g)then some (.sl (K f g).length (mJ (K f g)))else none
  |_,_=>none
 |_=>none
theorem aMr {K:List Int→List Int→List Int}{c:List Int→List Int→Bool}{F:FuncId}(hK:∀ f g,smN 1000 f=true→smN 1000 g=true→c f g=true→PGd F [oH f,oH g] (oH (K f g))) {args:List LV}{r:LV}(h:aHg K c args=some r):PGd F args r:=by
 unfold aHg at h;split at h
 ·split at h
  ·rename_i f g h1 h2
   cases hb:(Nat.beq _ f.length && Nat.beq _ g.length && smN 1000 f && smN 1000 g && c f g && smN 1000 (K f g))with
   |true=>
    rw[hb,cond_true]at h
    cases h
    simp only[Bool.and_eq_true,Nat.beq_eq]at hb;obtain⟨⟨⟨⟨⟨rfl,rfl⟩,b1⟩,b2⟩,b3⟩,b4⟩:=hb;rw[lN h1,lN h2,yR (by decide) b1,yR (by decide) b2,yR (by decide) b4]
    exact hK f g b1 b2 b3
   |false=>rw[hb,cond_false]at h;cases h
  ·cases h
 ·cases h
theorem wY {l:List Int}(h:smN 1000 l=true):aQh l:=⟨by have:=aEh h;omega,fun j=>by have:=aEg h j;omega⟩
theorem bW0 {args:List LV}{r:LV}(h:aHg r5A (fun _ _=>true) args=some r):PGd 348 args r:=aMr (fun f g hf hg _=>aHf f g (wY hf) (wY hg)) h
theorem bW1 {args:List LV}{r:LV}(h:aHg r5S (fun _ g=>smN 1000 (bS (aCj g (-1)))) args=some r):PGd 342 args r:=aMr (fun f g hf hg hs=>aT4 f g (wY hf) (wY hg) (wY hs)) h
theorem bW2 {args:List LV}{r:LV}(h:aHg r5M (fun _ _=>true) args=some r):PGd 349 args r:=aMr (fun f g hf hg _=>by
 have:=aT5 f g (by have:=aEh hf;omega) (aEg hf) (by have:=aEh hg;omega) (aEg hg)
 have e:r5M f g=if(bS f).length=0∨(bS g).length=0 then[]else bS (aT3 (bS f) (bS g)):=by
  unfold r5M;have b:∀ n:Nat,Nat.beq n 0=decide (n=0):=fun n=>by cases n <;>rfl
  simp only[b];by_cases h1:(bS f).length=0
  ·simp[h1]
  ·by_cases h2:(bS g).length=0
   ·simp[h1,h2]
   ·simp[h1,h2]
 rw[e]
 exact this) h
def aW8 (args:List LV):Option LV:=match args with
 |[.sl k cs]=>match aDm cs with
  |some f=>bif Nat.beq k f.length && smN 1000 f && smN 1000 (bS f)then some (.sl (bS f).length (mJ (bS f)))else none
  |none=>none
 |_=>none
theorem bG1 {args:List LV}{r:LV}(h:aW8 args=some r):PGd 345 args r:=by
 unfold aW8 at h;split at h
 ·split at h
  ·rename_i f h1
   cases hb:(Nat.beq _ f.length && smN 1000 f && smN 1000 (bS f))with
   |true=>
    rw[hb,cond_true]at h
    cases h
    simp only[Bool.and_eq_true,Nat.beq_eq]at hb;obtain⟨⟨rfl,b1⟩,b2⟩:=hb;rw[lN h1,yR (by decide) b1,yR (by decide) b2]
    exact iP f (by have:=aEh b1;omega) (fun j hj=>by have:=fW (z:=f.getD j 0) (by have:=aEg b1 j;omega);omega)
   |false=>rw[hb,cond_false]at h;cases h
  ·cases h
 ·cases h
def aW9 (args:List LV):Option LV:=match args with
 |[.sl k cs,.lit (.int .i64 (.ofNat n))]=>match aDm cs with
  |some f=>bif Nat.beq k f.length && smN 1000 f && smN 1000 (bS f) && Nat.ble n 100 then(bif Nat.beq (bS f).length 0 then some (.sl 0 [])else bif smN 1000 (List.replicate n 0++bS f)then some (.sl (List.replicate n 0++bS f).length (mJ (List.replicate n 0++bS f)))else none)else none
  |none=>none
 |_=>none
theorem bG2 {args:List LV}{r:LV}(h:aW9 args=some r):PGd 343 args r:=by
 unfold aW9 at h;split at h
 ·rename_i k cs n;split at h
  ·rename_i f h1
   cases hb:(Nat.beq k f.length && smN 1000 f && smN 1000 (bS f) && Nat.ble n 100)with
   |true=>
    rw[hb,cond_true]at h
    simp only[Bool.and_eq_true,Nat.beq_eq,Nat.ble_eq]at hb;obtain⟨⟨⟨rfl,b1⟩,b2⟩,b3⟩:=hb;have g:=aMq f n (by omega) (wY b1);rw[lN h1,yR (by decide) b1]
    cases h0:Nat.beq (bS f).length 0 with
    |true=>
     rw[h0,cond_true]at h
     cases h
     rw[if_pos (Nat.eq_of_beq_eq_true h0)]at g
     exact g
    |false=>
     rw[h0,cond_false]at h
     rw[if_neg (fun e=>by rw[e]at h0;cases h0)]at g
     cases h3:smN 1000 (List.replicate n 0++bS f)with
     |true=>
      rw[h3,cond_true]at h
      cases h
      rw[yR (by decide) h3]
      exact g
     |false=>rw[h3,cond_false]at h;cases h
   |false=>rw[hb,cond_false]at h;cases h
  ·cases h
 ·cases h
def bOa (f:FuncId) (args:List LV):Option LV:=bif Nat.beq f 349 then aHg r5M (fun _ _=>true) args else bif Nat.beq f 348 then aHg r5A (fun _ _=>true) args else bif Nat.beq f 342 then aHg r5S (fun _ g=>smN 1000 (bS (aCj g (-1)))) args else bif Nat.beq f 345 then aW8 args else bif Nat.beq f 343 then aW9 args else bF2 f args
theorem bG3:eV Tryz.prog bOa:=by
 intro f args r h;exact aR (f0:=349) (g:=aHg r5M (fun _ _=>true)) (fun _ _ h=>bW2 h) (aR (f0:=348) (g:=aHg r5A (fun _ _=>true)) (fun _ _ h=>bW0 h) (aR (f0:=342) (g:=aHg r5S (fun _ g=>smN 1000 (bS (aCj g (-1))))) (fun _ _ h=>bW1 h) (aR (f0:=345) (g:=aW8) (fun _ _ h=>bG1 h) (aR (f0:=343) (g:=aW9) (fun _ _ h=>bG2 h) aAp)))) f args r h
noncomputable def fD (m:Nat):Bool:=match evo bOa 296 [.lit (.int .i64 (.ofNat m))]with
 |some (.agg [.sl k cs])=>(match aDm cs with
  |some l=>Nat.beq k (dJ m).length && eqZ l (dJ m)
  |none=>false)
 |_=>false
noncomputable def bG4 (m:Nat):Bool:=match evo bF2 320 [.sl (dJ m).length (mJ (dJ m))]with
 |some (.sl k cs)=>(match aH2 k cs with
  |some l=>eqZ l (dJ m)
  |none=>false)
 |_=>false
theorem cHf {m:Nat}(h:fD m=true):PGd 296 [i64 m] (.agg [.sl (dJ m).length (mJ (dJ m))]):=by
 unfold fD at h;split at h
 ·rename_i k cs he;split at h
  ·rename_i l hl;rw[Bool.and_eq_true]at h
   have e2:=Nat.eq_of_beq_eq_true h.1;have e3:=vD h.2;subst e3;have e4:=lN hl;rw[e4,e2]at he
   exact cV bG3 he
  ·cases h
 ·cases h
theorem cHg {m:Nat}(h:bG4 m=true):PGd 320 [.sl (dJ m).length (mJ (dJ m))] (encF (rz (dJ m))):=by
 unfold bG4 at h;split at h
 ·rename_i k cs he;split at h
  ·rename_i l hl;obtain⟨rfl,rfl,_⟩:=pZ hl;have e3:=vD h;subst e3;have g:=cV aAp he;rw[bE,bX];exact g
  ·cases h
 ·cases h
end
section
open Go Go.Lg Go.Num
attribute [local irreducible] lrun lwp exThen exBlk keep goodPost sg mg oc op
theorem aQi {m e:Nat}(hm:m∈pF) (he:e<m) (gf:PGd 296 [i64 m] (.agg [.sl (dJ m).length (mJ (dJ m))])) (gof:PGd 320 [.sl (dJ m).length (mJ (dJ m))] (encF (rz (dJ m)))):PGd 258 [i64 m,i64 e] (encF (rz (zI m e))):=by
 obtain⟨m1,m2⟩:=bF8 hm;obtain⟨c1,c2,c3,c4⟩:=tT hm;have g1:=aI6 1 (by omega);rw[show((1:Int):Rat)=1 from rfl]at g1
 have g2:=aP2 e m he (by omega);have g3:=aL6 e (by omega)
 have gnN:=aPu (unO e) (by rw[lP];omega) (by rw[lP];omega) (fun q hq=>by
  unfold unO at hq;simp only[List.mem_append,List.mem_replicate,List.mem_singleton]at hq;rcases hq with⟨_,h⟩ |h
  ·cases h
  ·injection h with h;rw[h]
   decide+kernel)
 have hz:=aTk (e:=e) hm;have htl:=rP (ov (unO e));rw[aCa,lP]at htl
 obtain⟨Q,gd⟩:=aPi (.sl (unO e).length (op (unO e))) ⟨_,_,rfl⟩ (bQ (ov (unO e))) gnN (aGu _) (rz (dJ m)) (Dn:=1) (L:=1) (by decide) (by decide+kernel) (by omega) (by omega) (fun j=>by
  rw[iN,aL5,mK,aL7];refine aL8 ?_
  split <;>decide) c1 (by rw[bX];omega) (by rw[bX];omega) (by rw[bX];exact c4)
 rw[hz,lP]at gd
 have hul:=lP e;generalize hu:unO e=U at*;have hop:=op_len U;rw[hul]at hop
 generalize rz (zI m e)=R at*;generalize rz (dJ m)=G at*;generalize mJ (dJ m)=W at*;generalize (dJ m).length=cl at*;clear gnN htl hz c1 c4
 have g4:PGd 295 [.agg [.sl cl W],.sl (e+1) (op U)] (encF R):=by
  generalize op U=X at*;simp only[bE,i64]at*;refine aA aV Tryz.func295 rfl (by decide) (nt:=16) rfl (rs:=[.tmp 4]) rfl (aW rfl) ?_;refine zA4 ?_;exact zQ5
 generalize op U=X at*;simp only[bE,aH,i64]at*;refine aA aV Tryz.func258 rfl (by decide) (nt:=13) rfl (rs:=[.tmp 4]) rfl (aW rfl) ?_;refine zA4 ?_;exact zQ5
end
end Go.Proofs.YtaidcaemdkncgaaGreatDoor
