/- Contracts of functions of the program, and what proves them (texts: L7 ClsD). -/
import Derived.Test.YteecamhdbilmoaaGreatDoorZAO
import Derived.Test.YteecamhdbilmoaaGreatDoorZFinMultiplicativeAC
set_option linter.all false
namespace Go.Proofs.YteecamhdbilmoaaGreatDoor
open Go Go.Lg Go.Num
set_option maxRecDepth 100000
set_option maxHeartbeats 8000000
attribute [local irreducible] Go.Lg.lrun Go.Lg.lwp Go.Lg.exThen Go.Lg.exBlk Go.Lg.keep Go.Lg.goodPost sg mg oc mC twP tw bq kr chi eK gB cSer op oqp
theorem gcdN_good (a b : Nat) (ha : a ≤ 1000) (hb : b ≤ 1000) : PureGood Tryz.prog 32 [i64 a,i64 b] (i64 (Nat.gcd a b)) := by
 generalize hgg : Nat.gcd a b = g
 simp only [i64]
 refine good_of_lwp mix Tryz.func32 rfl (by decide) (nt := 15) rfl (rs := [.tmp 4]) rfl (nle rfl) ?_
 (repeat (first|apply zO (by decide +kernel)|apply zP (by decide +kernel)|(apply zS;(case h=>constructor<;>decide))|((first|apply l_go rfl|apply c_dec|apply zT rfl (by decide) rfl);(case hs=>(simp (disch := first|omega|exact kD rfl|exact kX rfl) only [smY,simprocAttr,bl,i64,smT];exact rfl));first|refine c_bt ?_|refine c_bf ?_|refine zq ?_|(case hg=>assumption))))
 refine w_loop (α := {p : Nat × Nat // Nat.gcd p.1 p.2 = g ∧ p.1 ≤ 1000 ∧ p.2 ≤ 1000}) (fun p => st 15 (lk [(0,i64 p.1.1),(1,i64 p.1.2)]) (lkH []) 0) (fun p => p.1.2) ⟨(a,b),hgg,ha,hb⟩ ?_ ?_
 ·(refine Sub.plain ?_;simp only [smF,dg,renL,renLs,simprocAttr,bl,i64,smT])
  all_goals (first | done | ((repeat' apply And.intro);all_goals (first | trivial | rfl)))
 ·rintro ⟨⟨x,y⟩,hg,hx,hy⟩
  simp only at hg hx hy
  simp only [st]
  by_cases hy0 : y = 0
  ·subst hy0
   rw [Nat.gcd_zero_right] at hg
   subst hg
   have hmx : (if (0 : Int) > (if 0 - (x : Int) > x then 0 - (x : Int) else x) then 0 else (if 0 - (x : Int) > x then 0 - (x : Int) else x)) = x := by
    rw [if_neg (show ¬ (0 - (x : Int) > x) by omega),if_neg (by omega)]
   (repeat (first|apply zO (by decide +kernel)|apply zP (by decide +kernel)|(apply zS;(case h=>constructor<;>decide))|((first|apply l_go rfl|apply c_dec|apply zT rfl (by decide) rfl);(case hs=>(simp (disch := first|omega|exact kD rfl|exact kX rfl) only [smY,simprocAttr,bl,i64,smT,hmx];exact rfl));first|refine c_bt ?_|refine c_bf ?_|refine zq ?_|(case hg=>assumption))))
   ((first|apply g_ret|apply g_end);case hres => (simp only [smR];simp (disch := first|omega|exact kD rfl|exact kX rfl) only [smY,simprocAttr,bl,i64,smT,hmx];exact rfl))
   simp (disch := first|omega|exact kD rfl|exact kX rfl) only [smY,simprocAttr,bl,i64,smT,hmx]
  ·have hmod : x % y < y := Nat.mod_lt _ (by omega)
   have hy1 : ¬ (y : Int) = 0 := by omega
   (repeat (first|apply zO (by decide +kernel)|apply zP (by decide +kernel)|(apply zS;(case h=>constructor<;>decide))|((first|apply l_go rfl|apply c_dec|apply zT rfl (by decide) rfl);(case hs=>(simp (disch := first|omega|exact kD rfl|exact kX rfl) only [smY,simprocAttr,bl,i64,smT];exact rfl));first|refine c_bt ?_|refine c_bf ?_|refine zq ?_|(case hg=>assumption))))
   refine ⟨⟨(y,x % y),?_,hy,by simp only;omega⟩,?_,hmod⟩
   ·simp only
    rw [← hg,Nat.gcd_comm x y,Nat.gcd_rec y x,Nat.gcd_comm]
   ·(refine Sub.plain ?_;simp only [smF,dg,renL,renLs,simprocAttr,bl,i64,smT])
    all_goals (first | done | ((repeat' apply And.intro);all_goals (first | trivial | rfl)))
theorem lawMultiplicative_good (k d1 d2 t prec n : Int) (rk : -9223372036854775808 ≤ k ∧ k ≤ 9223372036854775807) (r1 : -9223372036854775808 ≤ d1 ∧ d1 ≤ 9223372036854775807) (r2 : -9223372036854775808 ≤ d2 ∧ d2 ≤ 9223372036854775807) (rt : -9223372036854775808 ≤ t ∧ t ≤ 9223372036854775807) (rp : -9223372036854775808 ≤ prec ∧ prec ≤ 9223372036854775807) (rn : -9223372036854775808 ≤ n ∧ n ≤ 9223372036854775807) : PureGood Tryz.prog 7 [.agg [i64 k,i64 d1,i64 d2,i64 t,i64 prec],i64 n] (.lit (.bool true)) := by
 have ha := awake_good
 obtain ⟨_,q1⟩ := qd_good d1 r1
 obtain ⟨_,q2⟩ := qd_good d2 r2
 by_cases c1 : k < 0
 ·simp only [i64,bl] at *
  refine good_of_lwp mix Tryz.func7 rfl (by decide) (nt := 114) rfl (rs := [.tmp 4]) rfl (nle rfl) ?_
  (repeat (first|apply zO (by decide +kernel)|apply zP (by decide +kernel)|(apply zS;(case h=>constructor<;>decide))|((first|apply l_go rfl|apply c_dec|apply zT rfl (by decide) rfl);(case hs=>(simp (disch := first|omega|exact kD rfl|exact kX rfl) only [smY,simprocAttr,bl,i64,smT];exact rfl));first|refine c_bt ?_|refine c_bf ?_|refine zq ?_|(case hg=>assumption))))
  refine l_cskip rfl (by decide) rfl ?_
  (repeat (first|apply zO (by decide +kernel)|apply zP (by decide +kernel)|(apply zS;(case h=>constructor<;>decide))|((first|apply l_go rfl|apply c_dec|apply zT rfl (by decide) rfl);(case hs=>(simp (disch := first|omega|exact kD rfl|exact kX rfl) only [smY,simprocAttr,bl,i64,smT];exact rfl));first|refine c_bt ?_|refine c_bf ?_|refine zq ?_|(case hg=>assumption))))
  refine l_cskip rfl (by decide) rfl ?_
  (repeat (first|apply zO (by decide +kernel)|apply zP (by decide +kernel)|(apply zS;(case h=>constructor<;>decide))|((first|apply l_go rfl|apply c_dec|apply zT rfl (by decide) rfl);(case hs=>(simp (disch := first|omega|exact kD rfl|exact kX rfl) only [smY,simprocAttr,bl,i64,smT];exact rfl));first|refine c_bt ?_|refine c_bf ?_|refine zq ?_|(case hg=>assumption))))
  refine l_cskip rfl (by decide) rfl ?_
  (repeat (first|apply zO (by decide +kernel)|apply zP (by decide +kernel)|(apply zS;(case h=>constructor<;>decide))|((first|apply l_go rfl|apply c_dec|apply zT rfl (by decide) rfl);(case hs=>(simp (disch := first|omega|exact kD rfl|exact kX rfl) only [smY,simprocAttr,bl,i64,smT];exact rfl));first|refine c_bt ?_|refine c_bf ?_|refine zq ?_|(case hg=>assumption))))
  ((first|apply g_ret|apply g_end);case hres => (simp only [smR];simp (disch := first|omega|exact kD rfl|exact kX rfl) only [smY,simprocAttr,bl,i64,smT];exact rfl))
  simp (disch := first|omega|exact kD rfl|exact kX rfl) only [smY,simprocAttr,bl,i64,smT]
 by_cases c2 : 40 < k
 ·simp only [i64,bl] at *
  refine good_of_lwp mix Tryz.func7 rfl (by decide) (nt := 114) rfl (rs := [.tmp 4]) rfl (nle rfl) ?_
  (repeat (first|apply zO (by decide +kernel)|apply zP (by decide +kernel)|(apply zS;(case h=>constructor<;>decide))|((first|apply l_go rfl|apply c_dec|apply zT rfl (by decide) rfl);(case hs=>(simp (disch := first|omega|exact kD rfl|exact kX rfl) only [smY,simprocAttr,bl,i64,smT];exact rfl));first|refine c_bt ?_|refine c_bf ?_|refine zq ?_|(case hg=>assumption))))
  refine l_cskip rfl (by decide) rfl ?_
  (repeat (first|apply zO (by decide +kernel)|apply zP (by decide +kernel)|(apply zS;(case h=>constructor<;>decide))|((first|apply l_go rfl|apply c_dec|apply zT rfl (by decide) rfl);(case hs=>(simp (disch := first|omega|exact kD rfl|exact kX rfl) only [smY,simprocAttr,bl,i64,smT];exact rfl));first|refine c_bt ?_|refine c_bf ?_|refine zq ?_|(case hg=>assumption))))
  refine l_cskip rfl (by decide) rfl ?_
  (repeat (first|apply zO (by decide +kernel)|apply zP (by decide +kernel)|(apply zS;(case h=>constructor<;>decide))|((first|apply l_go rfl|apply c_dec|apply zT rfl (by decide) rfl);(case hs=>(simp (disch := first|omega|exact kD rfl|exact kX rfl) only [smY,simprocAttr,bl,i64,smT];exact rfl));first|refine c_bt ?_|refine c_bf ?_|refine zq ?_|(case hg=>assumption))))
  refine l_cskip rfl (by decide) rfl ?_
  (repeat (first|apply zO (by decide +kernel)|apply zP (by decide +kernel)|(apply zS;(case h=>constructor<;>decide))|((first|apply l_go rfl|apply c_dec|apply zT rfl (by decide) rfl);(case hs=>(simp (disch := first|omega|exact kD rfl|exact kX rfl) only [smY,simprocAttr,bl,i64,smT];exact rfl));first|refine c_bt ?_|refine c_bf ?_|refine zq ?_|(case hg=>assumption))))
  ((first|apply g_ret|apply g_end);case hres => (simp only [smR];simp (disch := first|omega|exact kD rfl|exact kX rfl) only [smY,simprocAttr,bl,i64,smT];exact rfl))
  simp (disch := first|omega|exact kD rfl|exact kX rfl) only [smY,simprocAttr,bl,i64,smT]
 by_cases c3 : ¬ d1 ∈ fdL
 ·have e1 : fdL.contains d1 = false := by
   cases e : fdL.contains d1 with
   | false => rfl
   | true => exact absurd (List.contains_iff_mem.1 e) c3
  rw [e1] at q1
  simp only [i64,bl] at *
  refine good_of_lwp mix Tryz.func7 rfl (by decide) (nt := 114) rfl (rs := [.tmp 4]) rfl (nle rfl) ?_
  (repeat (first|apply zO (by decide +kernel)|apply zP (by decide +kernel)|(apply zS;(case h=>constructor<;>decide))|((first|apply l_go rfl|apply c_dec|apply zT rfl (by decide) rfl);(case hs=>(simp (disch := first|omega|exact kD rfl|exact kX rfl) only [smY,simprocAttr,bl,i64,smT];exact rfl));first|refine c_bt ?_|refine c_bf ?_|refine zq ?_|(case hg=>assumption))))
  refine l_cskip rfl (by decide) rfl ?_
  (repeat (first|apply zO (by decide +kernel)|apply zP (by decide +kernel)|(apply zS;(case h=>constructor<;>decide))|((first|apply l_go rfl|apply c_dec|apply zT rfl (by decide) rfl);(case hs=>(simp (disch := first|omega|exact kD rfl|exact kX rfl) only [smY,simprocAttr,bl,i64,smT];exact rfl));first|refine c_bt ?_|refine c_bf ?_|refine zq ?_|(case hg=>assumption))))
  refine l_cskip rfl (by decide) rfl ?_
  (repeat (first|apply zO (by decide +kernel)|apply zP (by decide +kernel)|(apply zS;(case h=>constructor<;>decide))|((first|apply l_go rfl|apply c_dec|apply zT rfl (by decide) rfl);(case hs=>(simp (disch := first|omega|exact kD rfl|exact kX rfl) only [smY,simprocAttr,bl,i64,smT];exact rfl));first|refine c_bt ?_|refine c_bf ?_|refine zq ?_|(case hg=>assumption))))
  ((first|apply g_ret|apply g_end);case hres => (simp only [smR];simp (disch := first|omega|exact kD rfl|exact kX rfl) only [smY,simprocAttr,bl,i64,smT];exact rfl))
  simp (disch := first|omega|exact kD rfl|exact kX rfl) only [smY,simprocAttr,bl,i64,smT]
 replace c3 := Classical.not_not.1 c3
 rw [List.contains_iff_mem.2 c3] at q1
 by_cases c4 : ¬ d2 ∈ fdL
 ·have e1 : fdL.contains d2 = false := by
   cases e : fdL.contains d2 with
   | false => rfl
   | true => exact absurd (List.contains_iff_mem.1 e) c4
  rw [e1] at q2
  simp only [i64,bl] at *
  refine good_of_lwp mix Tryz.func7 rfl (by decide) (nt := 114) rfl (rs := [.tmp 4]) rfl (nle rfl) ?_
  (repeat (first|apply zO (by decide +kernel)|apply zP (by decide +kernel)|(apply zS;(case h=>constructor<;>decide))|((first|apply l_go rfl|apply c_dec|apply zT rfl (by decide) rfl);(case hs=>(simp (disch := first|omega|exact kD rfl|exact kX rfl) only [smY,simprocAttr,bl,i64,smT];exact rfl));first|refine c_bt ?_|refine c_bf ?_|refine zq ?_|(case hg=>assumption))))
  refine l_cskip rfl (by decide) rfl ?_
  (repeat (first|apply zO (by decide +kernel)|apply zP (by decide +kernel)|(apply zS;(case h=>constructor<;>decide))|((first|apply l_go rfl|apply c_dec|apply zT rfl (by decide) rfl);(case hs=>(simp (disch := first|omega|exact kD rfl|exact kX rfl) only [smY,simprocAttr,bl,i64,smT];exact rfl));first|refine c_bt ?_|refine c_bf ?_|refine zq ?_|(case hg=>assumption))))
  ((first|apply g_ret|apply g_end);case hres => (simp only [smR];simp (disch := first|omega|exact kD rfl|exact kX rfl) only [smY,simprocAttr,bl,i64,smT];exact rfl))
  simp (disch := first|omega|exact kD rfl|exact kX rfl) only [smY,simprocAttr,bl,i64,smT]
 replace c4 := Classical.not_not.1 c4
 rw [List.contains_iff_mem.2 c4] at q2
 by_cases c5 : t < 1
 ·simp only [i64,bl] at *
  refine good_of_lwp mix Tryz.func7 rfl (by decide) (nt := 114) rfl (rs := [.tmp 4]) rfl (nle rfl) ?_
  (repeat (first|apply zO (by decide +kernel)|apply zP (by decide +kernel)|(apply zS;(case h=>constructor<;>decide))|((first|apply l_go rfl|apply c_dec|apply zT rfl (by decide) rfl);(case hs=>(simp (disch := first|omega|exact kD rfl|exact kX rfl) only [smY,simprocAttr,bl,i64,smT];exact rfl));first|refine c_bt ?_|refine c_bf ?_|refine zq ?_|(case hg=>assumption))))
  refine l_cskip rfl (by decide) rfl ?_
  (repeat (first|apply zO (by decide +kernel)|apply zP (by decide +kernel)|(apply zS;(case h=>constructor<;>decide))|((first|apply l_go rfl|apply c_dec|apply zT rfl (by decide) rfl);(case hs=>(simp (disch := first|omega|exact kD rfl|exact kX rfl) only [smY,simprocAttr,bl,i64,smT];exact rfl));first|refine c_bt ?_|refine c_bf ?_|refine zq ?_|(case hg=>assumption))))
  ((first|apply g_ret|apply g_end);case hres => (simp only [smR];simp (disch := first|omega|exact kD rfl|exact kX rfl) only [smY,simprocAttr,bl,i64,smT];exact rfl))
  simp (disch := first|omega|exact kD rfl|exact kX rfl) only [smY,simprocAttr,bl,i64,smT]
 by_cases c6 : 40 < t
 ·simp only [i64,bl] at *
  refine good_of_lwp mix Tryz.func7 rfl (by decide) (nt := 114) rfl (rs := [.tmp 4]) rfl (nle rfl) ?_
  (repeat (first|apply zO (by decide +kernel)|apply zP (by decide +kernel)|(apply zS;(case h=>constructor<;>decide))|((first|apply l_go rfl|apply c_dec|apply zT rfl (by decide) rfl);(case hs=>(simp (disch := first|omega|exact kD rfl|exact kX rfl) only [smY,simprocAttr,bl,i64,smT];exact rfl));first|refine c_bt ?_|refine c_bf ?_|refine zq ?_|(case hg=>assumption))))
  refine l_cskip rfl (by decide) rfl ?_
  (repeat (first|apply zO (by decide +kernel)|apply zP (by decide +kernel)|(apply zS;(case h=>constructor<;>decide))|((first|apply l_go rfl|apply c_dec|apply zT rfl (by decide) rfl);(case hs=>(simp (disch := first|omega|exact kD rfl|exact kX rfl) only [smY,simprocAttr,bl,i64,smT];exact rfl));first|refine c_bt ?_|refine c_bf ?_|refine zq ?_|(case hg=>assumption))))
  ((first|apply g_ret|apply g_end);case hres => (simp only [smR];simp (disch := first|omega|exact kD rfl|exact kX rfl) only [smY,simprocAttr,bl,i64,smT];exact rfl))
  simp (disch := first|omega|exact kD rfl|exact kX rfl) only [smY,simprocAttr,bl,i64,smT]
 by_cases c7 : n < 1
 ·simp only [i64,bl] at *
  refine good_of_lwp mix Tryz.func7 rfl (by decide) (nt := 114) rfl (rs := [.tmp 4]) rfl (nle rfl) ?_
  (repeat (first|apply zO (by decide +kernel)|apply zP (by decide +kernel)|(apply zS;(case h=>constructor<;>decide))|((first|apply l_go rfl|apply c_dec|apply zT rfl (by decide) rfl);(case hs=>(simp (disch := first|omega|exact kD rfl|exact kX rfl) only [smY,simprocAttr,bl,i64,smT];exact rfl));first|refine c_bt ?_|refine c_bf ?_|refine zq ?_|(case hg=>assumption))))
  refine l_cskip rfl (by decide) rfl ?_
  (repeat (first|apply zO (by decide +kernel)|apply zP (by decide +kernel)|(apply zS;(case h=>constructor<;>decide))|((first|apply l_go rfl|apply c_dec|apply zT rfl (by decide) rfl);(case hs=>(simp (disch := first|omega|exact kD rfl|exact kX rfl) only [smY,simprocAttr,bl,i64,smT];exact rfl));first|refine c_bt ?_|refine c_bf ?_|refine zq ?_|(case hg=>assumption))))
  ((first|apply g_ret|apply g_end);case hres => (simp only [smR];simp (disch := first|omega|exact kD rfl|exact kX rfl) only [smY,simprocAttr,bl,i64,smT];exact rfl))
  simp (disch := first|omega|exact kD rfl|exact kX rfl) only [smY,simprocAttr,bl,i64,smT]
 by_cases c8 : 25 < n
 ·simp only [i64,bl] at *
  refine good_of_lwp mix Tryz.func7 rfl (by decide) (nt := 114) rfl (rs := [.tmp 4]) rfl (nle rfl) ?_
  (repeat (first|apply zO (by decide +kernel)|apply zP (by decide +kernel)|(apply zS;(case h=>constructor<;>decide))|((first|apply l_go rfl|apply c_dec|apply zT rfl (by decide) rfl);(case hs=>(simp (disch := first|omega|exact kD rfl|exact kX rfl) only [smY,simprocAttr,bl,i64,smT];exact rfl));first|refine c_bt ?_|refine c_bf ?_|refine zq ?_|(case hg=>assumption))))
  refine l_cskip rfl (by decide) rfl ?_
  (repeat (first|apply zO (by decide +kernel)|apply zP (by decide +kernel)|(apply zS;(case h=>constructor<;>decide))|((first|apply l_go rfl|apply c_dec|apply zT rfl (by decide) rfl);(case hs=>(simp (disch := first|omega|exact kD rfl|exact kX rfl) only [smY,simprocAttr,bl,i64,smT];exact rfl));first|refine c_bt ?_|refine c_bf ?_|refine zq ?_|(case hg=>assumption))))
  ((first|apply g_ret|apply g_end);case hres => (simp only [smR];simp (disch := first|omega|exact kD rfl|exact kX rfl) only [smY,simprocAttr,bl,i64,smT];exact rfl))
  simp (disch := first|omega|exact kD rfl|exact kX rfl) only [smY,simprocAttr,bl,i64,smT]
 obtain ⟨K,rfl⟩ : ∃ m : Nat,k = m := ⟨k.toNat,by omega⟩
 obtain ⟨T,rfl⟩ : ∃ m : Nat,t = m := ⟨t.toNat,by omega⟩
 obtain ⟨N,rfl⟩ : ∃ m : Nat,n = m := ⟨n.toNat,by omega⟩
 have gg := gcdN_good T N (by omega) (by omega)
 by_cases c9 : Nat.gcd T N = 1
 ·rw [c9] at gg
  have hTN : T * N ≤ 40 * 25 := Nat.mul_le_mul (by omega) (by omega)
  have hTN1 : 1 ≤ T * N := Nat.mul_pos (by omega) (by omega)
  obtain ⟨s1,_⟩ := sum_ok K T d1 d2 c3 c4 (by omega) (by omega) (by omega)
  obtain ⟨s2,_⟩ := sum_ok K N d1 d2 c3 c4 (by omega) (by omega) (by omega)
  obtain ⟨s3,_⟩ := sum_ok K (T * N) d1 d2 c3 c4 (by omega) (by omega) (by omega)
  have l1 := lq_tw (k := K) (n := T) c3 c4 (by omega) (by omega)
  have l2 := lq_tw (k := K) (n := N) c3 c4 (by omega) (by omega)
  have l3 := lq_tw (k := K) (n := T * N) c3 c4 (by omega) (by omega)
  have hm := rmul_good (tw K d1 d2 T) (tw K d1 d2 N) (by omega) (by omega)
  have he := tw_mul c3 c4 K (t := T) (n := N) (by omega) (by omega) (by omega) (by omega) c9
  rw [← he] at hm
  have hs := rsame_good (tw K d1 d2 (T * N)) (tw K d1 d2 (T * N)) (by omega) (by omega)
  rw [dec_t rfl] at hs
  clear he
  have hmul : (T : Int) * (N : Int) = ((T * N : Nat) : Int) := by simp
  generalize T * N = TN at *
  generalize tw K d1 d2 TN = z3 at *
  generalize tw K d1 d2 T = z1 at *
  generalize tw K d1 d2 N = z2 at *
  simp only [i64,bl,encI_sm] at *
  refine good_of_lwp mix Tryz.func7 rfl (by decide) (nt := 114) rfl (rs := [.tmp 4]) rfl (nle rfl) ?_
  (repeat (first|apply zO (by decide +kernel)|apply zP (by decide +kernel)|(apply zS;(case h=>constructor<;>decide))|((first|apply l_go rfl|apply c_dec|apply zT rfl (by decide) rfl);(case hs=>(simp (disch := first|omega|exact kD rfl|exact kX rfl) only [smY,simprocAttr,bl,i64,smT,hmul];exact rfl));first|refine c_bt ?_|refine c_bf ?_|refine zq ?_|(case hg=>assumption))))
  ((first|apply g_ret|apply g_end);case hres => (simp only [smR];simp (disch := first|omega|exact kD rfl|exact kX rfl) only [smY,simprocAttr,bl,i64,smT,hmul];exact rfl))
  simp (disch := first|omega|exact kD rfl|exact kX rfl) only [smY,simprocAttr,bl,i64,smT,hmul]
 ·have c9' : ¬ ((Nat.gcd T N : Nat) : Int) = 1 := by omega
  generalize Nat.gcd T N = G at *
  simp only [i64,bl] at *
  refine good_of_lwp mix Tryz.func7 rfl (by decide) (nt := 114) rfl (rs := [.tmp 4]) rfl (nle rfl) ?_
  (repeat (first|apply zO (by decide +kernel)|apply zP (by decide +kernel)|(apply zS;(case h=>constructor<;>decide))|((first|apply l_go rfl|apply c_dec|apply zT rfl (by decide) rfl);(case hs=>(simp (disch := first|omega|exact kD rfl|exact kX rfl) only [smY,simprocAttr,bl,i64,smT];exact rfl));first|refine c_bt ?_|refine c_bf ?_|refine zq ?_|(case hg=>assumption))))
  ((first|apply g_ret|apply g_end);case hres => (simp only [smR];simp (disch := first|omega|exact kD rfl|exact kX rfl) only [smY,simprocAttr,bl,i64,smT];exact rfl))
  simp (disch := first|omega|exact kD rfl|exact kX rfl) only [smY,simprocAttr,bl,i64,smT]
end Go.Proofs.YteecamhdbilmoaaGreatDoor
namespace Go.Proofs.YteecamhdbilmoaaGreatDoor
open Go Go.Lg Go.ChangeShapes Go.WideShapes Go.ChangeAt Go.RowKit
set_option maxRecDepth 100000
theorem cDat : Tryz.prog.cellsOf 35 = 5 := by kernel_rfl
theorem cIntD : Tryz.prog.cellsOf 3 = 1 := by kernel_rfl
section
variable {H : Type} {enc : TypeId × Value → H} {w : World} {base : Nat} {spare : Nat → Bool} {held : Bool}
def datV (a b c e f : Int) : Value := .agg #[.int .i64 a,.int .i64 b,.int .i64 c,.int .i64 e,.int .i64 f]
def datD (a b c e f : Int) : DataW H := .agg [.lit (.int .i64 a),.lit (.int .i64 b),.lit (.int .i64 c),.lit (.int .i64 e),.lit (.int .i64 f)]
theorem open_dat {r : Reach} {b0 : Nat} {v : Value} {d : DataW H} {ps : List MemPlace} (hval : Value.okWide Tryz.prog w r b0 35 v) (hd : DataW.Trod enc Tryz.prog w base spare held 35 v d ps) :
  ∃ a b c e f,v = datV a b c e f ∧ d = datD a b c e f ∧ ps = [] ∧ (Lit.int .i64 a).wf = true ∧ (Lit.int .i64 b).wf = true ∧ (Lit.int .i64 c).wf = true ∧ (Lit.int .i64 e).wf = true ∧ (Lit.int .i64 f).wf = true := by
 obtain ⟨cs,rfl,h2⟩ := okWide_struct Tryz.underlying35 hval
 rw [cDat] at h2
 obtain ⟨fuel,hf⟩ := hd
 obtain ⟨xs,n,rfl,hx,hlen,hn,hel⟩ := DataW.trod_struct Tryz.underlying35 hf
 obtain ⟨l⟩ := cs
 match l,h2 with
 | [c0,c1,c2,c3,c4],_ =>
   match xs,hn with
   | [x0,x1,x2,x3,x4],_ =>
     have hc : (Value.agg #[c0,c1,c2,c3,c4]).cells = #[c0,c1,c2,c3,c4] := rfl
     have e0 : DataW.trod enc Tryz.prog w base spare held n 3 (([c0,c1,c2,c3,c4].drop 0).take (Tryz.prog.cellsOf 3)) = some x0 := hel 0 _ rfl
     have e1 : DataW.trod enc Tryz.prog w base spare held n 3 (([c0,c1,c2,c3,c4].drop 1).take (Tryz.prog.cellsOf 3)) = some x1 := hel 1 _ rfl
     have e2 : DataW.trod enc Tryz.prog w base spare held n 3 (([c0,c1,c2,c3,c4].drop 2).take (Tryz.prog.cellsOf 3)) = some x2 := hel 2 _ rfl
     have e3 : DataW.trod enc Tryz.prog w base spare held n 3 (([c0,c1,c2,c3,c4].drop 3).take (Tryz.prog.cellsOf 3)) = some x3 := hel 3 _ rfl
     have e4 : DataW.trod enc Tryz.prog w base spare held n 3 (([c0,c1,c2,c3,c4].drop 4).take (Tryz.prog.cellsOf 3)) = some x4 := hel 4 _ rfl
     simp only [hc,cIntD,List.drop_zero,List.drop_succ_cons,List.take_succ_cons,List.take_zero,List.getElem?_cons_zero,List.getElem?_cons_succ] at e0 e1 e2 e3 e4
     obtain ⟨a0,a1,rfl,w0⟩ := DataW.trod_int Tryz.underlying3 e0
     obtain ⟨b0,b1,rfl,w1⟩ := DataW.trod_int Tryz.underlying3 e1
     obtain ⟨g0,g1,rfl,w2⟩ := DataW.trod_int Tryz.underlying3 e2
     obtain ⟨h0,h1,rfl,w3⟩ := DataW.trod_int Tryz.underlying3 e3
     obtain ⟨k0,k1,rfl,w4⟩ := DataW.trod_int Tryz.underlying3 e4
     simp only [List.cons.injEq,and_true] at a1 b1 g1 h1 k1
     subst a1 b1 g1 h1 k1
     obtain ⟨hx1,hx2⟩ := Prod.mk.inj hx
     exact ⟨_,_,_,_,_,rfl,hx1,by simpa using hx2,w0,w1,w2,w3,w4⟩
theorem shut_dat {a b c e f : Int} (w0 : (Lit.int .i64 a).wf = true) (w1 : (Lit.int .i64 b).wf = true) (w2 : (Lit.int .i64 c).wf = true) (w3 : (Lit.int .i64 e).wf = true) (w4 : (Lit.int .i64 f).wf = true) :
  DataW.Trod enc Tryz.prog w base spare held 35 (datV a b c e f) (datD a b c e f) [] := by
 have hc : (datV a b c e f).cells = #[.int .i64 a,.int .i64 b,.int .i64 c,.int .i64 e,.int .i64 f] := rfl
 refine ⟨2,?_⟩
 have := trod_struct_mk (enc := enc) (w := w) (base := base) (spare := spare) (held := held) (n := 1) (cs := [.int .i64 a,.int .i64 b,.int .i64 c,.int .i64 e,.int .i64 f]) (xs := [(.lit (.int .i64 a),[]),(.lit (.int .i64 b),[]),(.lit (.int .i64 c),[]),(.lit (.int .i64 e),[]),(.lit (.int .i64 f),[])]) Tryz.underlying35 (by rw [cDat];rfl) (by
  simp [cIntD,DataW.trod,Tryz.underlying3,w0,w1,w2,w3,w4])
 rw [hc]
 exact this
theorem rep_dat {St : Nat → Prop} {hp : Array Obj} {μ : Nat → Option (Nat × Nat)} (a b c e f : Int) : Rep St hp μ (.agg [.lit (.int .i64 a),.lit (.int .i64 b),.lit (.int .i64 c),.lit (.int .i64 e),.lit (.int .i64 f)]) (datV a b c e f) := by
 refine Rep.agg (us := [.int .i64 a,.int .i64 b,.int .i64 c,.int .i64 e,.int .i64 f]) rfl (by simp [Value.oneCell']) ?_
 intro j x u hc hu
 match j with
 | 0 => simp at hc hu;subst hc;subst hu;exact .lit _
 | 1 => simp at hc hu;subst hc;subst hu;exact .lit _
 | 2 => simp at hc hu;subst hc;subst hu;exact .lit _
 | 3 => simp at hc hu;subst hc;subst hu;exact .lit _
 | 4 => simp at hc hu;subst hc;subst hu;exact .lit _
 | j + 5 => simp at hc
end
end Go.Proofs.YteecamhdbilmoaaGreatDoor