/- Contracts of functions of the program, and what proves them (texts: E7). -/
import Derived.Test.YtbajpjjbaffnnaaGreatZBC
import Derived.Test.YtbajpjjbaffnnaaGreatZBF
import Derived.Test.YtbajpjjbaffnnaaGreatZBH
set_option linter.all false
namespace Go.Proofs.YtbajpjjbaffnnaaGreat
open Go Go.Lg Go.Num
set_option maxRecDepth 100000
set_option maxHeartbeats 4000000
attribute [local irreducible] Go.Lg.lrun Go.Lg.lwp Go.Lg.exThen Go.Lg.exBlk Go.Lg.keep Go.Lg.goodPost sg mg ec
theorem gcdA_good (a b : Nat) (ha : a ≤ 1000000000000) (hb : b ≤ 1000000000000) : PureGood Tryz.prog 29 [i64 a,i64 b] (i64 (Nat.gcd a b)) := by
 generalize hgg : Nat.gcd a b = g
 refine good_of_lwp mix Tryz.func29 rfl (by decide) (nt := 15) rfl (rs := [.tmp 4]) rfl (nle rfl) ?_
 (repeat (first|apply zO (by decide +kernel)|apply zP (by decide +kernel)|(apply zS;(case h=>constructor<;>decide))|((first|apply l_go rfl|apply c_dec|apply zT rfl (by decide) rfl);(case hs=>(simp (disch := first|omega|exact kD rfl|exact kX rfl) only [smY,simprocAttr,bl,i64,smS];exact rfl));first|refine c_bt ?_|refine c_bf ?_|refine zq ?_|(case hg=>assumption))))
 refine w_loop (α := {p : Nat × Nat // Nat.gcd p.1 p.2 = g ∧ p.1 ≤ 1000000000000 ∧ p.2 ≤ 1000000000000}) (fun p => st 15 (lk [(0,i64 p.1.1),(1,i64 p.1.2)]) (lkH []) 0) (fun p => p.1.2) ⟨(a,b),hgg,ha,hb⟩ ?_ ?_
 ·(refine Sub.plain ?_;simp only [smF,dg,renL,renLs,simprocAttr,bl,i64,smS])
 ·rintro ⟨⟨x,y⟩,hg,hx,hy⟩
  simp only at hg hx hy
  simp only [st]
  by_cases hy0 : y = 0
  ·subst hy0
   rw [Nat.gcd_zero_right] at hg
   subst hg
   have hmx : (if (0 : Int) > (if 0 - (x : Int) > x then 0 - (x : Int) else x) then 0 else (if 0 - (x : Int) > x then 0 - (x : Int) else x)) = x := by
    rw [if_neg (show ¬ (0 - (x : Int) > x) by omega),if_neg (by omega)]
   (repeat (first|apply zO (by decide +kernel)|apply zP (by decide +kernel)|(apply zS;(case h=>constructor<;>decide))|((first|apply l_go rfl|apply c_dec|apply zT rfl (by decide) rfl);(case hs=>(simp (disch := first|omega|exact kD rfl|exact kX rfl) only [smY,simprocAttr,bl,i64,smS,hmx];exact rfl));first|refine c_bt ?_|refine c_bf ?_|refine zq ?_|(case hg=>assumption))))
   ((first|apply g_ret|apply g_end);case hres => (simp only [smR];simp (disch := first|omega|exact kD rfl|exact kX rfl) only [smY,simprocAttr,bl,i64,smS,hmx];exact rfl))
   simp (disch := first|omega|exact kD rfl|exact kX rfl) only [smY,simprocAttr,bl,i64,smS,hmx]
  ·have hmod : x % y < y := Nat.mod_lt _ (by omega)
   have hy1 : ¬ (y : Int) = 0 := by omega
   (repeat (first|apply zO (by decide +kernel)|apply zP (by decide +kernel)|(apply zS;(case h=>constructor<;>decide))|((first|apply l_go rfl|apply c_dec|apply zT rfl (by decide) rfl);(case hs=>(simp (disch := first|omega|exact kD rfl|exact kX rfl) only [smY,simprocAttr,bl,i64,smS];exact rfl));first|refine c_bt ?_|refine c_bf ?_|refine zq ?_|(case hg=>assumption))))
   refine ⟨⟨(y,x % y),?_,hy,by simp only;omega⟩,?_,hmod⟩
   ·simp only
    rw [← hg,Nat.gcd_comm x y,Nat.gcd_rec y x,Nat.gcd_comm]
   ·(refine Sub.plain ?_;simp only [smF,dg,renL,renLs,simprocAttr,bl,i64,smS])
theorem rgcdA_good (a b : Nat) (ha : a ≤ 1000000000000) (hb : b ≤ 1000000000000) : PureGood Tryz.prog 93 [i64 a,i64 b] (i64 (Nat.gcd a b)) := by
 generalize hgg : Nat.gcd a b = g
 refine good_of_lwp mix Tryz.func93 rfl (by decide) (nt := 31) rfl (rs := [.tmp 4]) rfl (nle rfl) ?_
 (repeat (first|apply zO (by decide +kernel)|apply zP (by decide +kernel)|(apply zS;(case h=>constructor<;>decide))|((first|apply l_go rfl|apply c_dec|apply zT rfl (by decide) rfl);(case hs=>(simp (disch := first|omega|exact kD rfl|exact kX rfl) only [smY,simprocAttr,bl,i64,u64,smS];exact rfl));first|refine c_bt ?_|refine c_bf ?_|refine zq ?_|(case hg=>assumption))))
 refine w_loop (α := {p : Nat × Nat // Nat.gcd p.1 p.2 = g ∧ p.1 ≤ 1000000000000 ∧ p.2 ≤ 1000000000000}) (fun p => st 31 (lk [(5,u64 p.1.1),(6,u64 p.1.2)]) (lkH []) 0) (fun p => p.1.2) ⟨(a,b),hgg,ha,hb⟩ ?_ ?_
 ·(refine Sub.plain ?_;simp only [smF,dg,renL,renLs,simprocAttr,bl,i64,u64,smS])
 ·rintro ⟨⟨x,y⟩,hg,hx,hy⟩
  simp only at hg hx hy
  simp only [st]
  by_cases hy0 : y = 0
  ·subst hy0
   rw [Nat.gcd_zero_right] at hg
   subst hg
   (repeat (first|apply zO (by decide +kernel)|apply zP (by decide +kernel)|(apply zS;(case h=>constructor<;>decide))|((first|apply l_go rfl|apply c_dec|apply zT rfl (by decide) rfl);(case hs=>(simp (disch := first|omega|exact kD rfl|exact kX rfl) only [smY,simprocAttr,bl,i64,u64,smS];exact rfl));first|refine c_bt ?_|refine c_bf ?_|refine zq ?_|(case hg=>assumption))))
   ((first|apply g_ret|apply g_end);case hres => (simp only [smR];simp (disch := first|omega|exact kD rfl|exact kX rfl) only [smY,simprocAttr,bl,i64,u64,smS];exact rfl))
   simp (disch := first|omega|exact kD rfl|exact kX rfl) only [smY,simprocAttr,bl,i64,u64,smS]
  ·have hmod : x % y < y := Nat.mod_lt _ (by omega)
   have hy1 : ¬ (y : Int) = 0 := by omega
   (repeat (first|apply zO (by decide +kernel)|apply zP (by decide +kernel)|(apply zS;(case h=>constructor<;>decide))|((first|apply l_go rfl|apply c_dec|apply zT rfl (by decide) rfl);(case hs=>(simp (disch := first|omega|exact kD rfl|exact kX rfl) only [smY,simprocAttr,bl,i64,u64,smS];exact rfl));first|refine c_bt ?_|refine c_bf ?_|refine zq ?_|(case hg=>assumption))))
   refine ⟨⟨(y,x % y),?_,hy,by simp only;omega⟩,?_,hmod⟩
   ·simp only
    rw [← hg,Nat.gcd_comm x y,Nat.gcd_rec y x,Nat.gcd_comm]
   ·(refine Sub.plain ?_;simp only [smF,dg,renL,renLs,simprocAttr,bl,i64,u64,smS])
theorem eta_part_good {n c d : Nat} (hn : 1 ≤ n) (hn2 : n ≤ 600) (c0 : 1 ≤ c) (hc2 : c ≤ 600) (d0 : 1 ≤ d) (hd2 : d ≤ 600) (hc : n % c = 0) (hd : n % d = 0) :
  PureGood Tryz.prog 118 [i64 n,i64 c,i64 d] (encQ (Rat.divInt ((wA n c d : Nat) : Int) ((24 * n : Nat) : Int))) := by
 have g1 := gcdA_good c d (by omega) (by omega)
 have hdv : n / c ≤ n := Nat.div_le_self _ _
 have g2 := gcdA_good c (n / c) (by omega) (by omega)
 have l1 := gcd_le (d := d) c0
 have l2 := gcd_le (d := n / c) c0
 have p2 : 0 < Nat.gcd c (n / c) := Nat.gcd_pos_of_pos_left _ c0
 have he := part_eq hn hc hd c0 d0
 generalize Rat.divInt ((wA n c d : Nat) : Int) ((24 * n : Nat) : Int) = r at *
 generalize Nat.gcd c d = g at *
 generalize Nat.gcd c (n / c) = h at *
 generalize hq : n / c = q at *
 have b1 : g * g ≤ 600 * 600 := Nat.mul_le_mul (by omega) (by omega)
 have b2 : g * g * n ≤ 600 * 600 * 600 := Nat.mul_le_mul b1 hn2
 have b3 : 24 * h * c ≤ 24 * 600 * 600 := Nat.mul_le_mul (Nat.mul_le_mul (by omega) (by omega)) (by omega)
 have b4 : 24 * h * c * d ≤ 24 * 600 * 600 * 600 := Nat.mul_le_mul b3 hd2
 have p4 : 0 < 24 * h * c * d := Nat.mul_pos (Nat.mul_pos (Nat.mul_pos (by omega) p2) c0) d0
 have s1 := lq_i64 (z := ((g * g * n : Nat) : Int)) (by omega)
 have s2 := lq_i64 (z := ((24 * h * c * d : Nat) : Int)) (by omega)
 have q1 := qof_good ((g * g * n : Nat) : Int) (by omega)
 have q2 := qof_good ((24 * h * c * d : Nat) : Int) (by omega)
 have q3 := quo_good (((g * g * n : Nat) : Int) : Rat) (((24 * h * c * d : Nat) : Int) : Rat) (by
  intro e
  have := Rat.intCast_inj.1 (e.trans Rat.intCast_zero.symm)
  omega) (by omega) (by omega)
 rw [he] at q3
 clear he
 have e1 : (g : Int) * g = ((g * g : Nat) : Int) := by simp
 have e2 : ((g * g : Nat) : Int) * (n : Int) = ((g * g * n : Nat) : Int) := by simp
 have e3 : (24 : Int) * (h : Int) = ((24 * h : Nat) : Int) := by omega
 have e4 : ((24 * h : Nat) : Int) * (c : Int) = ((24 * h * c : Nat) : Int) := by simp
 have e5 : ((24 * h * c : Nat) : Int) * (d : Int) = ((24 * h * c * d : Nat) : Int) := by simp
 generalize g * g = x1 at *
 generalize x1 * n = x2 at *
 have b0 : 24 * h ≤ 14400 := by omega
 generalize 24 * h = x3 at *
 generalize x3 * c = x4 at *
 generalize x4 * d = x5 at *
 simp only [encQ_sm,i64] at *
 refine good_of_lwp mix Tryz.func118 rfl (by decide) (nt := 35) rfl (rs := [.cell 6 46]) rfl (nle rfl) ?_
 (repeat (first|apply zO (by decide +kernel)|apply zP (by decide +kernel)|(apply zS;(case h=>constructor<;>decide))|((first|apply l_go rfl|apply c_dec|apply zT rfl (by decide) rfl);(case hs=>(simp (disch := first|omega|exact kD rfl|exact kX rfl) only [smY,simprocAttr,bl,i64,smS,hq,e1,e2,e3,e4,e5];exact rfl));first|refine c_bt ?_|refine c_bf ?_|refine zq ?_|(case hg=>assumption))))
 ((first|apply g_ret|apply g_end);case hres => (simp only [smR];simp (disch := first|omega|exact kD rfl|exact kX rfl) only [smY,simprocAttr,bl,i64,smS,hq,e1,e2,e3,e4,e5];exact rfl))
 simp (disch := first|omega|exact kD rfl|exact kX rfl) only [smY,simprocAttr,bl,i64,smS,hq,e1,e2,e3,e4,e5]
theorem order_in {n : Nat} {xs : List Int} (h : EtaOk n xs) {c : Nat} (c0 : 1 ≤ c) (hc : n % c = 0) : PureGood Tryz.prog 82 [.agg [i64 n,.sl xs.length (ec xs)],i64 c] (encQ (ordQ n xs c xs.length)) := by
 have n1 := h.n1
 have n2 := h.n2
 have hl := h.len
 have l1 := h.len_le
 have hcn : c ≤ n := Nat.le_of_dvd (by omega) (Nat.dvd_of_mod_eq_zero hc)
 have g1 := divisors_good n1 n2
 have dl := divL_length n
 rw [← hl] at g1 dl
 have q0 := qof_good 0 (by omega)
 rw [show ((0 : Int) : Rat) = ordQ n xs c 0 by rw [ordQ_zero];rfl] at q0
 simp only [encQ_sm,i64] at *
 refine good_of_lwp mix Tryz.func82 rfl (by decide) (nt := 34) rfl (rs := [.cell 4 46]) rfl (nle rfl) ?_
 (repeat (first|apply zO (by decide +kernel)|apply zP (by decide +kernel)|(apply zS;(case h=>constructor<;>decide))|((first|apply l_go rfl|apply c_dec|apply zT rfl (by decide) rfl);(case hs=>(simp (disch := first|omega|exact kD rfl|exact kX rfl) only [smY,simprocAttr,bl,i64,smS,smE];exact rfl));first|refine c_bt ?_|refine c_bf ?_|refine zq ?_|(case hg=>assumption))))
 refine w_loop (α := {k : Nat // k ≤ xs.length}) (fun k => st 34 (lk [(1,i64 c),(2,.ptr 0 0),(4,.ptr 1 0),(5,.ptr 2 0),(11,.sl xs.length (ec (divL n))),(12,i64 xs.length),(13,i64 k.1)]) (lkH [(0,⟨24,[i64 n,.sl xs.length (ec xs)],false⟩),(1,⟨46,[bl false,.lit (.slice none 0 0),bl false,.lit (.slice none 0 0)],false⟩),(2,⟨46,[sg (ordQ n xs c k.1).num,mg (ordQ n xs c k.1).num,sg ((ordQ n xs c k.1).den : Int),mg ((ordQ n xs c k.1).den : Int)],false⟩)]) 3) (fun k => xs.length - k.1) ⟨0,by omega⟩ ?_ ?_
 ·(refine Sub.heapL [0,1,3] rfl (by decide) ?_ (by simp only [smL];decide) ?_ ?_;all_goals (first|(simp only [plainC,smF,dg,renL,renLs,simprocAttr,bl,i64,smS,smE];done) | (simp only [smF,dg,renL,renLs,simprocAttr,bl,i64,smS,smE];(repeat' apply And.intro);all_goals rfl) | (simp only [smF,dg,renL,renLs,simprocAttr,bl,i64,smS,smE]) | skip))
 ·rintro ⟨k,hk⟩
  simp only [st]
  by_cases h1 : k < xs.length
  ·obtain ⟨d,e1,e2,e3,e4,e5⟩ := divL_get (n := n) (k := k) (hl ▸ h1)
   have c0' := h.get k
   have r1 := eta_part_good (n := n) (c := c) (d := d) n1 n2 c0 (by omega) e2 (by omega) hc e4
   have es := ordQ_succ (n := n) xs c k
   rw [e5] at es
   have b1 := lq_ord h c0 (by omega) hk
   have b2 : lq (Rat.divInt ((wA n c d : Nat) : Int) ((24 * n : Nat) : Int)) ≤ 3 := lq_over n1 n2 (by have := wA_bd (d := d) n2 c0 (by omega);omega)
   have q1 := qof_good (xs.getD k 0) (by omega)
   have b3 := lq_i64 (z := xs.getD k 0) (by omega)
   have q2 := qmul_good (Rat.divInt ((wA n c d : Nat) : Int) ((24 * n : Nat) : Int)) ((xs.getD k 0 : Int) : Rat) (by omega) (by omega)
   have b4 := lq_mul (Rat.divInt ((wA n c d : Nat) : Int) ((24 * n : Nat) : Int)) ((xs.getD k 0 : Int) : Rat)
   have q3 := qadd_good (ordQ n xs c k) (Rat.divInt ((wA n c d : Nat) : Int) ((24 * n : Nat) : Int) * ((xs.getD k 0 : Int) : Rat)) (by omega) (by omega)
   rw [← es] at q3
   clear es b1 b2 b3 b4
   generalize Rat.divInt ((wA n c d : Nat) : Int) ((24 * n : Nat) : Int) = u at *
   generalize hx : xs.getD k 0 = x at *
   generalize hv : u * ((x : Int) : Rat) = v at *
   simp only [encQ_sm,i64] at *
   (repeat (first|apply zO (by decide +kernel)|apply zP (by decide +kernel)|(apply zS;(case h=>constructor<;>decide))|((first|apply l_go rfl|apply c_dec|apply zT rfl (by decide) rfl);(case hs=>(simp (disch := first|omega|exact kD rfl|exact kX rfl) only [smY,simprocAttr,bl,i64,smS,smE,e1,hx];exact rfl));first|refine c_bt ?_|refine c_bf ?_|refine zq ?_|(case hg=>assumption))))
   refine ⟨⟨k + 1,by omega⟩,?_,by simp only;omega⟩
   (refine Sub.heapL [0,1,2] rfl (by decide) ?_ (by simp only [smL];decide) ?_ ?_;all_goals (first|(simp only [plainC,smF,dg,renL,renLs,simprocAttr,bl,i64,smS,smE];done) | (simp only [smF,dg,renL,renLs,simprocAttr,bl,i64,smS,smE];(repeat' apply And.intro);all_goals rfl) | (simp only [smF,dg,renL,renLs,simprocAttr,bl,i64,smS,smE]) | skip))
  ·obtain rfl : k = xs.length := by omega
   (repeat (first|apply zO (by decide +kernel)|apply zP (by decide +kernel)|(apply zS;(case h=>constructor<;>decide))|((first|apply l_go rfl|apply c_dec|apply zT rfl (by decide) rfl);(case hs=>(simp (disch := first|omega|exact kD rfl|exact kX rfl) only [smY,simprocAttr,bl,i64,smS,smE];exact rfl));first|refine c_bt ?_|refine c_bf ?_|refine zq ?_|(case hg=>assumption))))
   ((first|apply g_ret|apply g_end);case hres => (simp only [smR];simp (disch := first|omega|exact kD rfl|exact kX rfl) only [smY,simprocAttr,bl,i64,smS,smE];exact rfl))
   simp (disch := first|omega|exact kD rfl|exact kX rfl) only [smY,simprocAttr,bl,i64,smS,smE]
end Go.Proofs.YtbajpjjbaffnnaaGreat