/- Contracts of functions of the program, and what proves them (texts: X6). -/
import Derived.Test.YtbajpjjbaffnnaaGreatZBC
import Derived.Test.YtbajpjjbaffnnaaGreatZCE
set_option linter.all false
namespace Go.Proofs.YtbajpjjbaffnnaaGreat
open Go Go.Lg Go.Num
set_option maxRecDepth 100000
set_option maxHeartbeats 8000000
attribute [local irreducible] Go.Lg.lrun Go.Lg.lwp Go.Lg.exThen Go.Lg.exBlk Go.Lg.keep Go.Lg.goodPost sg mg sS qs sv svM spM oc mC dc ec psum etaM etaK etaC
def lowS (n : Nat) (xs : List Int) : Int := psum (exL n xs) xs.length
theorem expand_in {n : Nat} {xs : List Int} (ok : EtaOk n xs) (g0 : PureGood Tryz.prog 24 [.agg [i64 n, .sl xs.length (ec xs)]] (i64 0)) (prec : Int) (hp : -100 ≤ prec ∧ prec ≤ 1000) (h : Int) (hlow : lowS n xs = 24 * h) (hh : -100 ≤ h) (N : Nat) (hN : prec - h - 1 = N)
  {a : Nat → Rat} (P : ProdOk (etaC n xs N) a) : PureGood Tryz.prog 15 [.agg [i64 n,.sl xs.length (ec xs)],i64 prec] (.tup [.agg [i64 h,.sl (N + 1) (qc (aP a (N + 1)))],i64 0]) := by
 have n1 := ok.n1
 have n2 := ok.n2
 have hl := ok.len
 have l1 := ok.len_le
 have lc := etaC_len n xs N
 have P1 := P.len
 have g1 := sums_good ok
 have gd := divisors_good n1 n2
 have dl := divL_length n
 rw [← hl] at gd dl
 have kp := prod_good P h hh (by rw [lc];omega)
 have ec0 : etaC n xs N = etaK n xs N xs.length := by rw [etaC]
 rw [lc] at kp P1
 have lkk := fun k => etaK_len n xs N k
 have lm := fun k m => etaM_len n xs N k m
 have b0 := ok.s1 (Nat.le_refl xs.length)
 unfold lowS at hlow
 have t1 : (psum (exL n xs) xs.length).tmod 24 = 0 := by rw [hlow];exact Int.mul_tmod_right ..
 have t2 : (psum (exL n xs) xs.length).tdiv 24 = h := by rw [hlow];exact Int.mul_tdiv_cancel_left _ (by omega)
 have tn : (prec - h - 1).toNat = N := by omega
 have hz := etaK_zero n xs N
 generalize psum (exS xs) xs.length = s0 at *
 generalize psum (exL n xs) xs.length = s1 at *
 generalize psum (exH n xs) xs.length = s2 at *
 simp only [encQ_sm,i64] at *
 refine good_of_lwp mix Tryz.func15 rfl (by decide) (nt := 106) rfl (rs := [.cell 4 31,.tmp 5]) rfl (nle rfl) ?_
 (repeat (first|apply zO (by decide +kernel)|apply zP (by decide +kernel)|(apply zS;(case h=>constructor<;>decide))|((first|apply l_go rfl|apply c_dec|apply zT rfl (by decide) rfl);(case hs=>(simp (disch := first|omega|exact kD rfl|exact kX rfl) only [smY,simprocAttr,bl,i64,smT,smO,smE,smM,t1,t2,tn];exact rfl));first|refine c_bt ?_|refine c_bf ?_|refine zq ?_|(case hg=>assumption))))
 refine w_loop (α := {k : Nat // k ≤ xs.length}) (fun k => st 106 (lk [(2,.ptr 0 0),(4,.ptr 1 0),(10,i64 h),(11,.own 2 0 N 1),(58,.sl xs.length (ec (divL n))),(59,i64 xs.length),(60,i64 k.1)]) (lkH [(0,⟨24,[i64 n,.sl xs.length (ec xs)],false⟩),(1,⟨31,[i64 0,nilL],false⟩),(2,⟨3,ec (etaK n xs N k.1),false⟩)]) 3) (fun k => xs.length - k.1) ⟨0,by omega⟩ ?_ ?_
 ·(refine Sub.heapL [0,1,38] rfl (by decide) ?_ (by simp only [smL];decide) ?_ ?_;all_goals (first|(simp only [plainC,smF,dg,renL,renLs,simprocAttr,bl,i64,smT,smO,smE,smM];done) | (simp only [smF,dg,renL,renLs,simprocAttr,bl,i64,smT,smO,smE,smM];(repeat' apply And.intro);all_goals rfl) | (simp only [smF,dg,renL,renLs,simprocAttr,bl,i64,smT,smO,smE,smM]) | skip))
  all_goals (first | done | (rw [hz,← ec_zeros];exact ⟨trivial,trivial,rfl⟩))
 ·rintro ⟨k,hk⟩
  simp only [st]
  have lk0 := lkk k
  by_cases hkl : k < xs.length
  ·obtain ⟨d,e1,e2,e3,e4,e5⟩ := divL_get (n := n) (k := k) (hl ▸ hkl)
   have hd : dvs n k = d := e5
   have hfirst := etaM_first n xs N k
   rw [hd] at hfirst
   rw [← hfirst]
   have c0 := ok.get k
   have hset := fun t => etaM_set (n := n) (xs := xs) (N := N) (k := k) (t := t) (by rw [hd];omega)
   have hlast := fun m (hm : N < m) => etaM_last (n := n) (xs := xs) (N := N) (k := k) hm
   have hbd := fun m i => etaM_bd ok hkl N m i
   simp only [hd] at hset
   generalize hx : xs.getD k 0 = x at *
   (repeat (first|apply zO (by decide +kernel)|apply zP (by decide +kernel)|(apply zS;(case h=>constructor<;>decide))|((first|apply l_go rfl|apply c_dec|apply zT rfl (by decide) rfl);(case hs=>(simp (disch := first|omega|exact kD rfl|exact kX rfl) only [smY,simprocAttr,bl,i64,smT,smO,smE,smM,e1];exact rfl));first|refine c_bt ?_|refine c_bf ?_|refine zq ?_|(case hg=>assumption))))
   refine w_loop (α := {p : Nat × Nat // p.2 = p.1 * d ∧ 1 ≤ p.2 ∧ p.2 ≤ N + d}) (fun p => st 106 (lk [(2,.ptr 0 0),(4,.ptr 1 0),(10,i64 h),(11,.own 2 0 N 1),(12,i64 k),(13,i64 d),(14,i64 p.1.2),(58,.sl xs.length (ec (divL n))),(59,i64 xs.length),(60,i64 k)]) (lkH [(0,⟨24,[i64 n,.sl xs.length (ec xs)],false⟩),(1,⟨31,[i64 0,nilL],false⟩),(2,⟨3,ec (etaM n xs N k p.1.2),false⟩)]) 3) (fun p => N + d - p.1.2) ⟨(1,d),by simp,e2,by simp only;omega⟩ ?_ ?_
   ·(refine Sub.heapL [0,1,2] rfl (by decide) ?_ (by simp only [smL];decide) ?_ ?_;all_goals (first|(simp only [plainC,smF,dg,renL,renLs,simprocAttr,bl,i64,smT,smO,smE,smM];done) | (simp only [smF,dg,renL,renLs,simprocAttr,bl,i64,smT,smO,smE,smM];(repeat' apply And.intro);all_goals rfl) | (simp only [smF,dg,renL,renLs,simprocAttr,bl,i64,smT,smO,smE,smM]) | skip))
   ·rintro ⟨⟨t,m⟩,hm,hm1,hm2⟩
    simp only at hm hm1 hm2
    simp only [st]
    have lm0 := lm k m
    by_cases hmN : m ≤ N
    ·have hs := hset t (by omega) (by omega)
     rw [← hm] at hs
     have e6 : ((m : Int) - 1).toNat = m - 1 := by omega
     have b1 := hbd m (m - 1)
     (repeat (first|apply zO (by decide +kernel)|apply zP (by decide +kernel)|(apply zS;(case h=>constructor<;>decide))|((first|apply l_go rfl|apply c_dec|apply zT rfl (by decide) rfl);(case hs=>(simp (disch := first|omega|exact kD rfl|exact kX rfl) only [smY,simprocAttr,bl,i64,smT,smO,smE,smM,e6,hx];exact rfl));first|refine c_bt ?_|refine c_bf ?_|refine zq ?_|(case hg=>assumption))))
     refine ⟨⟨(t + 1,m + d),by simp only;rw [Nat.add_mul,Nat.one_mul,hm],by simp only;omega,by simp only;omega⟩,?_,by simp only;omega⟩
     (refine Sub.heapL [0,1,2] rfl (by decide) ?_ (by simp only [smL];decide) ?_ ?_;all_goals (first|(simp only [plainC,smF,dg,renL,renLs,simprocAttr,bl,i64,smT,smO,smE,smM];done) | (simp only [smF,dg,renL,renLs,simprocAttr,bl,i64,smT,smO,smE,smM];(repeat' apply And.intro);all_goals rfl) | (simp only [smF,dg,renL,renLs,simprocAttr,bl,i64,smT,smO,smE,smM]) | skip))
     rw [hs]
     exact ⟨trivial,trivial,rfl⟩
    ·have hs := hlast m (by omega)
     (repeat (first|apply zO (by decide +kernel)|apply zP (by decide +kernel)|(apply zS;(case h=>constructor<;>decide))|((first|apply l_go rfl|apply c_dec|apply zT rfl (by decide) rfl);(case hs=>(simp (disch := first|omega|exact kD rfl|exact kX rfl) only [smY,simprocAttr,bl,i64,smT,smO,smE,smM];exact rfl));first|refine c_bt ?_|refine c_bf ?_|refine zq ?_|(case hg=>assumption))))
     refine ⟨⟨k + 1,by omega⟩,?_,by simp only;omega⟩
     (refine Sub.heapL [0,1,2] rfl (by decide) ?_ (by simp only [smL];decide) ?_ ?_;all_goals (first|(simp only [plainC,smF,dg,renL,renLs,simprocAttr,bl,i64,smT,smO,smE,smM];done) | (simp only [smF,dg,renL,renLs,simprocAttr,bl,i64,smT,smO,smE,smM];(repeat' apply And.intro);all_goals rfl) | (simp only [smF,dg,renL,renLs,simprocAttr,bl,i64,smT,smO,smE,smM]) | skip))
     rw [hs]
     exact ⟨trivial,trivial,rfl⟩
  ·obtain rfl : k = xs.length := by omega
   rw [← ec0] at lk0 ⊢
   have hbc := etaC_getD_bd ok N
   (repeat (first|apply zO (by decide +kernel)|apply zP (by decide +kernel)|(apply zS;(case h=>constructor<;>decide))|((first|apply l_go rfl|apply c_dec|apply zT rfl (by decide) rfl);(case hs=>(simp (disch := first|omega|exact kD rfl|exact kX rfl) only [smY,simprocAttr,bl,i64,smT,smO,smE,smM];exact rfl));first|refine c_bt ?_|refine c_bf ?_|refine zq ?_|(case hg=>assumption))))
   refine w_loop (α := {i : Nat // i ≤ N}) (fun i => st 106 (lk [(4,.ptr 0 0),(10,i64 h),(15,.own 2 0 i.1 4),(89,.own 1 0 N 1),(90,i64 N),(91,i64 i.1)]) (lkH [(0,⟨31,[i64 0,nilL],false⟩),(1,⟨3,ec (etaC n xs N),false⟩),(2,⟨46,mC (fun j => (((etaC n xs N).getD j 0 : Int) : Rat)) N i.1,false⟩)]) 3) (fun i => N - i.1) ⟨0,by omega⟩ ?_ ?_
   ·(refine Sub.heapL [1,2,6] rfl (by decide) ?_ (by simp only [smL];decide) ?_ ?_;all_goals (first|(simp only [plainC,smF,dg,renL,renLs,simprocAttr,bl,i64,smT,smO,smE,smM];done) | (simp only [smF,dg,renL,renLs,simprocAttr,bl,i64,smT,smO,smE,smM];(repeat' apply And.intro);all_goals rfl) | (simp only [smF,dg,renL,renLs,simprocAttr,bl,i64,smT,smO,smE,smM]) | skip))
    rw [mC_zero fun j => (((etaC n xs N).getD j 0 : Int) : Rat)]
    exact ⟨trivial,trivial,rfl⟩
   ·rintro ⟨i,hi⟩
    simp only [st]
    by_cases hiN : i < N
    ·have b1 := hbc i
     have r1 := qof_good ((etaC n xs N).getD i 0) (by omega)
     have hs := mC_succ (a := fun j => (((etaC n xs N).getD j 0 : Int) : Rat)) (N := N) (i := i) rfl
     have hla := aP_len (fun j => (((etaC n xs N).getD j 0 : Int) : Rat)) i
     generalize hv : (etaC n xs N).getD i 0 = v at *
     generalize ((v : Int) : Rat) = w at *
     simp only [encQ_sm,i64] at r1
     (repeat (first|apply zO (by decide +kernel)|apply zP (by decide +kernel)|(apply zS;(case h=>constructor<;>decide))|((first|apply l_go rfl|apply c_dec|apply zT rfl (by decide) rfl);(case hs=>(simp (disch := first|omega|exact kD rfl|exact kX rfl) only [smY,simprocAttr,bl,i64,smT,smO,smE,smM,hv];exact rfl));first|refine c_bt ?_|refine c_bf ?_|refine zq ?_|(case hg=>assumption))))
     refine ⟨⟨i + 1,by omega⟩,?_,by simp only;omega⟩
     (refine Sub.heapL [0,1,11] rfl (by decide) ?_ (by simp only [smL];decide) ?_ ?_;all_goals (first|(simp only [plainC,smF,dg,renL,renLs,simprocAttr,bl,i64,smT,smO,smE,smM];done) | (simp only [smF,dg,renL,renLs,simprocAttr,bl,i64,smT,smO,smE,smM];(repeat' apply And.intro);all_goals rfl) | (simp only [smF,dg,renL,renLs,simprocAttr,bl,i64,smT,smO,smE,smM]) | skip))
     rw [← hs]
     exact ⟨trivial,trivial,rfl⟩
    ·obtain rfl : i = N := by omega
     have hcq : aP (fun j => (((etaC n xs i).getD j 0 : Int) : Rat)) i = cQ (etaC n xs i) i := rfl
     (repeat (first|apply zO (by decide +kernel)|apply zP (by decide +kernel)|(apply zS;(case h=>constructor<;>decide))|((first|apply l_go rfl|apply c_dec|apply zT rfl (by decide) rfl);(case hs=>(simp (disch := first|omega|exact kD rfl|exact kX rfl) only [smY,simprocAttr,bl,i64,smT,smO,smE,smM,hcq];exact rfl));first|refine c_bt ?_|refine c_bf ?_|refine zq ?_|(case hg=>assumption))))
     ((first|apply g_ret|apply g_end);case hres => (simp only [smR];simp (disch := first|omega|exact kD rfl|exact kX rfl) only [smY,simprocAttr,bl,i64,smT,smO,smE,smM,hcq];exact rfl))
     simp (disch := first|omega|exact kD rfl|exact kX rfl) only [smY,simprocAttr,bl,i64,smT,smO,smE,smM,hcq]
end Go.Proofs.YtbajpjjbaffnnaaGreat