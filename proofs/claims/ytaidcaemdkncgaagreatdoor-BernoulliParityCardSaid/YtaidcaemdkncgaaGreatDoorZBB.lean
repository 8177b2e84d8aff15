/- Contracts of functions of the program, and what proves them (texts: D2 D5 D7p D8p BC2 BC3). -/
import Derived.Test.YtaidcaemdkncgaaGreatDoorZAT
import Derived.Test.YtaidcaemdkncgaaGreatDoorZAU
import Derived.Test.YtaidcaemdkncgaaGreatDoorZAX
import Derived.Test.YtaidcaemdkncgaaGreatDoorZAZ
set_option linter.all false
set_option maxRecDepth 100000
set_option maxHeartbeats 8000000
namespace Go.Proofs.YtaidcaemdkncgaaGreatDoor
open Go Go.Lg Go.Num
attribute [local irreducible] Go.Lg.lrun Go.Lg.lwp Go.Lg.exThen Go.Lg.exBlk Go.Lg.keep Go.Lg.goodPost sg mg bq
end Go.Proofs.YtaidcaemdkncgaaGreatDoor
namespace Go.Proofs.YtaidcaemdkncgaaGreatDoor
open Go Go.Lg Go.Num
attribute [local irreducible] Go.Lg.lrun Go.Lg.lwp Go.Lg.exThen Go.Lg.exBlk Go.Lg.keep Go.Lg.goodPost sg mg bq
theorem pow_unit3 {z : Int} (h : z.natAbs ≤ 1) (n : Nat) : z ^ (if n = 0 then 0 else 2 + n % 2) = z ^ n := by
 have h3 : z = 0 ∨ z = 1 ∨ z = -1 := by omega
 by_cases h0 : n = 0
 ·subst h0;rfl
 ·rw [if_neg h0]
  rcases h3 with rfl | rfl | rfl
  ·rw [Int.zero_pow (by omega),Int.zero_pow h0]
  ·rw [Int.one_pow,Int.one_pow]
  ·have key : ∀ k : Nat,(-1 : Int) ^ (2 * k) = 1 := fun k => by rw [Int.pow_mul];show (1 : Int) ^ k = 1;exact Int.one_pow
   rcases Nat.mod_two_eq_zero_or_one n with h | h
   ·rw [h]
    conv => rhs;rw [show n = 2 * (n / 2) by omega,key]
    rfl
   ·rw [h]
    conv => rhs;rw [show n = 2 * (n / 2) + 1 by omega,Int.pow_succ,key]
    rfl
theorem qpow_good (q : Rat) (n : Nat) (hn : n ≤ 100) (hq : lq q ≤ 50) : PureGood Tryz.prog 136 [encQ q,i64 n] (.tup [encQ (q ^ n),i64 0]) := by
 have h1 := qnorm_good q (by omega)
 have h2 := qbits_good q (by omega)
 have hb : qbits q = max (nbits q.num.natAbs) (nbits q.den) := rfl
 have l1 : len q.num ≤ 50 := by unfold lq at hq;omega
 have l2 : len (q.den : Int) ≤ 50 := by unfold lq at hq;omega
 have b1 := nbits_len q.num.natAbs
 have b2 := nbits_len q.den
 have e2 : (digs q.den).length ≤ 50 := by unfold len at l2;rwa [Int.natAbs_natCast] at l2
 have e1 : (digs q.num.natAbs).length ≤ 50 := l1
 have hbb : qbits q ≤ 1600 := by omega
 have hdiv : ∀ s : Nat,s ≤ 1600 → 1 < s → n ≤ 1048576 / s := fun s h1 h2 => (Nat.le_div_iff_mul_le (by omega)).2 (by have : n * s ≤ 100 * 1600 := Nat.mul_le_mul hn h1;omega)
 by_cases hs : qbits q ≤ 1
 ·have n1 := nbits_lt q.num.natAbs
  have n2 := nbits_lt q.den
  have t1 : 2 ^ nbits q.num.natAbs ≤ 2 ^ 1 := Nat.pow_le_pow_right (by omega) (by omega)
  have t2 : 2 ^ nbits q.den ≤ 2 ^ 1 := Nat.pow_le_pow_right (by omega) (by omega)
  have u1 : q.num.natAbs ≤ 1 := by omega
  have u2 : q.den = 1 := by have := q.den_nz;omega
  have hqn : q = (q.num : Rat) := by apply Rat.ext <;> simp [u2]
  have hpw := pow_unit3 u1 n
  have hpq : ((q.num ^ n : Int) : Rat) = q ^ n := by rw [Rat.intCast_pow,← hqn]
  have hln : len (q.num ^ n) ≤ 1 := by
   have : (q.num ^ n).natAbs ≤ 1 := by rw [Int.natAbs_pow];exact Nat.le_trans (Nat.pow_le_pow_left u1 n) (by rw [Nat.one_pow];omega)
   exact len_pow_lt (e := 1) (by omega)
  have w1 := whole_good (q.num ^ n) (by omega)
  rw [hpq] at w1
  have hnb : nbits q.num.natAbs ≤ 1 := by omega
  by_cases h0 : n = 0
  ·subst h0
   have p1 := pow_good q.num 0 (by omega) (.inl hnb) (by omega)
   rw [Int.natCast_zero] at *
   generalize q ^ 0 = r at *
   generalize qbits q = S at *
   clear hqn hpq hpw
   simp only [encQ_sm,encI_sm,i64] at *
   refine good_of_lwp mix Tryz.func136 rfl (by decide) (nt := 83) rfl (rs := [.cell 4 47,.tmp 5]) rfl (nle rfl) ?_
   (repeat(first|refine zW ?_|refine zG1 ?_|refine zD1 ?_|refine zT1 ?_))
   exact zQ1
  ·have p1 := pow_good q.num (2 + n % 2) (by omega) (.inl hnb) (by omega)
   rw [if_neg h0] at hpw
   rw [hpw,show ((2 + n % 2 : Nat) : Int) = 2 + (n : Int) % 2 by omega] at p1
   generalize q.num ^ n = z at *
   generalize q ^ n = r at *
   generalize qbits q = S at *
   clear hqn hpq hpw
   simp only [encQ_sm,encI_sm,i64] at *
   refine good_of_lwp mix Tryz.func136 rfl (by decide) (nt := 83) rfl (rs := [.cell 4 47,.tmp 5]) rfl (nle rfl) ?_
   (repeat(first|refine zW ?_|refine zG1 ?_|refine zD1 ?_|refine zT1 ?_))
   exact zQ1
 ·have hd1 := hdiv (qbits q) hbb (by omega)
  have hcast : (1048576 : Int) / (qbits q : Int) = ((1048576 / qbits q : Nat) : Int) := rfl
  have p1 := pow_good q.num n (by omega) (by by_cases h : nbits q.num.natAbs ≤ 1;exact .inl h;exact .inr (hdiv _ (by omega) (by omega))) (by omega)
  have p2 := pow_good (q.den : Int) n (by omega) (by rw [Int.natAbs_natCast];by_cases h : nbits q.den ≤ 1;exact .inl h;exact .inr (hdiv _ (by omega) (by omega))) (by omega)
  have m1 := len_pow q.num n
  have m2 := len_pow (q.den : Int) n
  have m3 : n * len q.num ≤ 100 * 50 := Nat.mul_le_mul hn l1
  have m4 : n * len (q.den : Int) ≤ 100 * 50 := Nat.mul_le_mul hn l2
  have o1 := over_good (q.num ^ n) ((q.den : Int) ^ n) (by omega) (by omega)
  rw [← pow_divInt] at o1
  have hmx : (if 0 - (n : Int) > (n : Int) then 0 - (n : Int) else (n : Int)) = (n : Int) := by split <;> omega
  have hdn : ((1048576 / qbits q : Nat) : Int) ≤ 1048576 := by have := Nat.div_le_self 1048576 (qbits q);omega
  generalize 1048576 / qbits q = M at *
  generalize qbits q = S at *
  simp only [encQ_sm,encI_sm,i64] at *
  clear hdiv hb b1 b2 e1 e2 m1 m2 m3 m4
  refine good_of_lwp mix Tryz.func136 rfl (by decide) (nt := 83) rfl (rs := [.cell 4 47,.tmp 5]) rfl (nle rfl) ?_
  (repeat (first|refine zW ?_|((first|apply l_go rfl|apply c_dec|apply zT rfl (by decide) rfl);(case hs=>(simp (disch := first|omega|exact kD rfl|exact kX rfl) only [smY,simprocAttr,bl,i64,smT,hmx,hcast];exact rfl));first|refine c_bt ?_|refine c_bf ?_|refine zq ?_|(case hg=>assumption))))
  ((first|apply g_ret|apply g_end);case hres => (simp only [smR];simp (disch := first|omega|exact kD rfl|exact kX rfl) only [smY,simprocAttr,bl,i64,smT,hmx,hcast];exact rfl))
  simp (disch := first|omega|exact kD rfl|exact kX rfl) only [smY,simprocAttr,bl,i64,smT,hmx,hcast]
theorem bp_bpL (n : Nat) : bp n (n + 1) = bpL n := rfl
theorem hor_horQ (f : List Rat) (x : Rat) : hor f x = horQ f x := rfl
theorem evalB_good {n : Nat} (hn : n ≤ 41) (x : Rat) (hx : lq x ≤ 1000) : PureGood Tryz.prog 131 [encF (bp n (n + 1)),encQ x] (encQ (horQ (bpL n) x)) ∧ lq (horQ (bpL n) x) ≤ 100000 := by
 have hh : ∀ k,lq (horQ ((bpL n).drop k) x) ≤ 100000 := fun k => lq_horB hx (by omega) hn
 have h0 := hh 0
 rw [List.drop_zero] at h0
 refine ⟨?_,h0⟩
 rw [bp_bpL,← hor_horQ]
 refine eval_good (bpL n) x (by rw [← bp_bpL,bp_length];omega) (by omega) (fun c hc => by have := bp_small (n := n) (by omega) (n + 1) c hc;omega) (fun k => by rw [hor_horQ];have := hh k;omega) (fun k => ?_)
 rw [hor_horQ]
 have h1 := hh k
 have h2 := lq_mul (horQ ((bpL n).drop k) x) x
 omega
end Go.Proofs.YtaidcaemdkncgaaGreatDoor
namespace Go.Proofs.YtaidcaemdkncgaaGreatDoor
open Go Go.Lg Go.Num
attribute [local irreducible] Go.Lg.lrun Go.Lg.lwp Go.Lg.exThen Go.Lg.exBlk Go.Lg.keep Go.Lg.goodPost sg mg bq bpL horQ
theorem rpower_good (a k : Nat) (ha : a ≤ 10000) (hk : k ≤ 41) : PureGood Tryz.prog 152 [i64 a,i64 k] (encI ((a : Int) ^ k)) := by
 have h1 := baseZ_good 1 (by omega)
 have h2 := baseZ_good (a : Int) (by omega)
 simp only [encI_sm,i64] at *
 refine good_of_lwp mix Tryz.func152 rfl (by decide) (nt := 16) rfl (rs := [.cell 4 45]) rfl (nle rfl) ?_
 (repeat(first|refine zW ?_|refine zG4 ?_|refine zD4 ?_|refine zT4 ?_))
 refine w_loop (α := {j : Nat // j ≤ k}) (fun j => st 16 (lk [(0,i64 a),(1,i64 ((k - j.1 : Nat) : Int)),(4,.ptr 0 0),(5,.ptr 1 0)]) (lkH [(0,⟨45,[bl false,.lit (.slice none 0 0)],false⟩),(1,⟨45,[sg ((a : Int) ^ j.1),mg ((a : Int) ^ j.1)],false⟩)]) 2) (fun j => k - j.1) ⟨0,by omega⟩ ?_ ?_
 ·(refine Sub.heapL [0,2] rfl (by decide) ?_ (by simp only [smL];decide) ?_ ?_;all_goals (first|(simp only [plainC,smF,dg,renL,renLs,simprocAttr,bl,i64,smS];done) | (simp only [smF,dg,renL,renLs,simprocAttr,bl,i64,smS];(repeat' apply And.intro);all_goals rfl) | (simp only [smF,dg,renL,renLs,simprocAttr,bl,i64,smS]) | skip))
  all_goals (first | done | (simp;done) | exact ⟨rfl,rfl⟩)
 ·rintro ⟨j,hj⟩
  simp only [st]
  by_cases hjk : j < k
  ·have l1 := len_npow (n := a) (k := j) (by omega) (by omega)
   have l2 : len (a : Int) ≤ 1 := len_pow_lt (e := 1) (by omega)
   have m1 := rmul_good ((a : Int) ^ j) a (by omega) (by omega)
   rw [← Int.pow_succ] at m1
   have e1 : ((k - j : Nat) : Int) - 1 = ((k - (j + 1) : Nat) : Int) := by omega
   generalize hz : k - j = z at *
   simp only [encI_sm] at m1
   (repeat (first|refine zW ?_|((first|apply l_go rfl|apply c_dec|apply zT rfl (by decide) rfl);(case hs=>(simp (disch := first|omega|exact kD rfl|exact kX rfl) only [smY,simprocAttr,bl,i64,smS,e1];exact rfl));first|refine c_bt ?_|refine c_bf ?_|refine zq ?_|(case hg=>assumption))))
   refine ⟨⟨j + 1,by omega⟩,?_,by simp only;omega⟩
   (refine Sub.heapL [0,1] rfl (by decide) ?_ (by simp only [smL];decide) ?_ ?_;all_goals (first|(simp only [plainC,smF,dg,renL,renLs,simprocAttr,bl,i64,smS];done) | (simp only [smF,dg,renL,renLs,simprocAttr,bl,i64,smS];(repeat' apply And.intro);all_goals rfl) | (simp only [smF,dg,renL,renLs,simprocAttr,bl,i64,smS]) | skip))
   all_goals (first | done | exact ⟨rfl,rfl⟩)
  ·obtain rfl : j = k := by omega
   rw [Nat.sub_self]
   (repeat(first|refine zW ?_|refine zG4 ?_|refine zD4 ?_|refine zT4 ?_))
   exact zQ4
end Go.Proofs.YtaidcaemdkncgaaGreatDoor
namespace Go.Proofs.YtaidcaemdkncgaaGreatDoor
open Go Go.Lg Go.Num
attribute [local irreducible] Go.Lg.lrun Go.Lg.lwp Go.Lg.exThen Go.Lg.exBlk Go.Lg.keep Go.Lg.goodPost sg mg bq bpL horQ trm qsum
theorem reval_good {n : Nat} (hn : n ≤ 41) (x : Rat) (hx : lq x ≤ 1000) : PureGood Tryz.prog 153 [encF (bp n (n + 1)),encQ x] (encQ (horQ (bpL n) x)) := by
 have hh : ∀ k,lq (horQ ((bpL n).drop k) x) ≤ 100000 := fun k => lq_horB hx (by omega) hn
 have h0 := rqof_good 0 (by omega)
 rw [show ((0 : Int) : Rat) = 0 from rfl] at h0
 have hl := bp_length n (n + 1)
 have hbp : bp n (n + 1) = bpL n := bp_bpL n
 have hnil : horQ ((bpL n).drop (n + 1)) x = 0 := by
  rw [List.drop_of_length_le (by rw [← hbp,bp_length];exact Nat.le_refl _)]
  unfold horQ
  rfl
 have hst : ∀ k,k < n + 1 → horQ ((bpL n).drop k) x = horQ ((bpL n).drop (k + 1)) x * x + (bp n (n + 1)).getD k 0 := by
  intro k hk
  have hk2 : k < (bpL n).length := by rw [← hbp,bp_length];exact hk
  rw [List.drop_eq_getElem_cons hk2,hbp]
  have : (bpL n).getD k 0 = (bpL n)[k] := by simp [hk2]
  rw [this]
  unfold horQ
  rfl
 have hm : ∀ k,k < n + 1 → lq ((bp n (n + 1)).getD k 0) ≤ 30 := by
  intro k hk
  have hk2 : k < (bp n (n + 1)).length := by rw [hl];exact hk
  have : (bp n (n + 1)).getD k 0 = (bp n (n + 1))[k] := by simp [hk2]
  rw [this]
  exact bp_small (by omega) _ _ (List.getElem_mem _)
 have hfin : horQ (bpL n) x = horQ ((bpL n).drop 0) x := by rw [List.drop_zero]
 rw [hfin,encF_qc,hl]
 generalize hL : bp n (n + 1) = L at *
 clear hbp hL hfin
 rw [encQ_sm,i64] at *
 refine good_of_lwp mix Tryz.func153 rfl (by decide) (nt := 24) rfl (rs := [.cell 4 47]) rfl (nle rfl) ?_
 (repeat(first|refine zW ?_|refine zG1 ?_|refine zD1 ?_|refine zT1 ?_))
 refine w_loop (α := {k : Nat // k ≤ n + 1}) (fun k => st 24 (lk [(0,.sl (n + 1) (qc L)),(3,.ptr 0 0),(4,.ptr 1 0),(5,.ptr 2 0),(6,i64 ((k.1 : Int) - 1))]) (lkH [(0,⟨47,[sg (x).num,mg (x).num,sg ((x).den : Int),mg ((x).den : Int)],false⟩),(1,⟨47,[bl false,.lit (.slice none 0 0),bl false,.lit (.slice none 0 0)],false⟩),(2,⟨47,[sg (horQ ((bpL n).drop k.1) x).num,mg (horQ ((bpL n).drop k.1) x).num,sg ((horQ ((bpL n).drop k.1) x).den : Int),mg ((horQ ((bpL n).drop k.1) x).den : Int)],false⟩)]) 3) (fun k => k.1) ⟨n + 1,Nat.le_refl _⟩ ?_ ?_
 ·(refine Sub.heapL [0,1,3] rfl (by decide) ?_ (by simp only [smL];decide) ?_ ?_;all_goals (first|(simp only [plainC,smF,dg,renL,renLs,simprocAttr,bl,i64,smT];done) | (simp only [smF,dg,renL,renLs,simprocAttr,bl,i64,smT];(repeat' apply And.intro);all_goals rfl) | (simp only [smF,dg,renL,renLs,simprocAttr,bl,i64,smT]) | skip))
  ·rw [hnil]
   exact ⟨trivial,trivial,rfl⟩
  ·exact ⟨trivial,rfl,rfl,rfl,rfl⟩
 ·rintro ⟨k,hk⟩
  simp only [st]
  rcases k with _ | k
  ·(repeat(first|refine zW ?_|refine zG1 ?_|refine zD1 ?_|refine zT1 ?_))
   refine zR1 ?_
   simp (disch := first|omega|exact kD rfl|exact kX rfl) only [smY,simprocAttr,bl,i64,smT]
   rw [encQ_sm]
  ·have e1 := hh (k + 1)
   have e2 := hm k (by omega)
   have e3 := lq_mul (horQ ((bpL n).drop (k + 1)) x) x
   have m1 := rqmul_good (horQ ((bpL n).drop (k + 1)) x) x (by omega) (by omega)
   have a1 := rqadd_good (horQ ((bpL n).drop (k + 1)) x * x) (L.getD k 0) (by omega) (by omega)
   rw [← hst k (by omega)] at a1
   generalize hc : L.getD k 0 = c at *
   generalize horQ ((bpL n).drop (k + 1)) x * x = y at *
   generalize horQ ((bpL n).drop (k + 1)) x = z at *
   simp only [encQ_sm] at m1 a1
   (repeat (first|refine zW ?_|((first|apply l_go rfl|apply c_dec|apply zT rfl (by decide) rfl);(case hs=>(simp (disch := first|omega|exact kD rfl|exact kX rfl) only [smY,simprocAttr,bl,i64,smT,hc];exact rfl));first|refine c_bt ?_|refine c_bf ?_|refine zq ?_|(case hg=>assumption))))
   refine ⟨⟨k,by omega⟩,?_,Nat.lt_succ_self k⟩
   (refine Sub.heapL [0,1,2] rfl (by decide) ?_ (by simp only [smL];decide) ?_ ?_;all_goals (first|(simp only [plainC,smF,dg,renL,renLs,simprocAttr,bl,i64,smT];done) | (simp only [smF,dg,renL,renLs,simprocAttr,bl,i64,smT];(repeat' apply And.intro);all_goals rfl) | (simp only [smF,dg,renL,renLs,simprocAttr,bl,i64,smT]) | skip))
   ·simp only [true_and]
    (simp only [LV.lit.injEq,Value.int.injEq,true_and,and_true,dg,LV.sl.injEq];omega)
   ·exact ⟨trivial,rfl,rfl,rfl,rfl⟩
theorem trm_eq (k f j : Nat) : trm k f j = ((f : Int) : Rat) ^ (k - 1) * horQ (bpL k) (Rat.divInt ((j + 1 : Nat) : Int) (f : Int)) := by unfold trm;rfl
theorem rparts_good (k f : Nat) (hk1 : 1 ≤ k) (hk : k ≤ 40) (hf : 1 ≤ f) (hf2 : f ≤ 60) : PureGood Tryz.prog 67 [i64 k,i64 f] (encF (smd k f f)) := by
 have p1 := rPolynomial_good (k : Int) (by omega)
 rw [encPoly,if_pos (by omega),if_pos (by omega),Int.toNat_natCast] at p1
 have pw := rpower_good f (k - 1) (by omega) (by omega)
 have lpw := len_npow (n := f) (k := k - 1) (by omega) (by omega)
 have w1 := rwhole_good ((f : Int) ^ (k - 1)) (by omega)
 rw [Rat.intCast_pow] at w1
 have lw := lq_powQ ((f : Int) : Rat) (k - 1)
 have lf : lq ((f : Int) : Rat) ≤ 2 := lq_small (by omega) (by omega)
 have lw2 : (k - 1) * lq ((f : Int) : Rat) ≤ 40 * 2 := Nat.mul_le_mul (by omega) lf
 have step : ∀ j : Nat, j < f → PureGood Tryz.prog 53 [i64 ((j + 1 : Nat) : Int), i64 f] (encQ (Rat.divInt ((j + 1 : Nat) : Int) (f : Int))) ∧
   PureGood Tryz.prog 153 [encF (bp k (k + 1)),encQ (Rat.divInt ((j + 1 : Nat) : Int) (f : Int))] (encQ (horQ (bpL k) (Rat.divInt ((j + 1 : Nat) : Int) (f : Int)))) ∧
   PureGood Tryz.prog 150 [encQ (((f : Int) : Rat) ^ (k - 1)),encQ (horQ (bpL k) (Rat.divInt ((j + 1 : Nat) : Int) (f : Int)))] (encQ (trm k f j)) := by
  intro j hj
  have la : len ((j + 1 : Nat) : Int) ≤ 1 := len_pow_lt (e := 1) (by omega)
  have lf : len (f : Int) ≤ 1 := len_pow_lt (e := 1) (by omega)
  have ld := lq_divInt (n := ((j + 1 : Nat) : Int)) (d := (f : Int)) (by omega)
  have ev := evalB_good (n := k) (by omega) (Rat.divInt ((j + 1 : Nat) : Int) (f : Int)) (by unfold lq;omega)
  refine ⟨frac_good _ _ (by omega) (by omega),reval_good (by omega) _ (by unfold lq;omega),?_⟩
  rw [trm_eq]
  exact rqmul_good _ _ (by omega) (by have := ev.2;omega)
 clear lw lw2 lf lpw
 have hk2 : ((k - 1 : Nat) : Int) = (k : Int) - 1 := by omega
 have hl := bp_length k (k + 1)
 rw [encF_qc,hl] at p1
 rw [encF_qc,smd_length]
 simp only [encF_qc,hl] at step
 generalize bp k (k + 1) = L at *
 rw [hk2] at pw
 generalize ((f : Int) : Rat) ^ (k - 1) = P at *
 generalize (f : Int) ^ (k - 1) = F at *
 simp only [encI_sm,encQ_sm,i64] at p1 pw w1 step ⊢
 have b1 : smd k f 1 = [trm k f 0] := rfl
 obtain ⟨w2,w3,w4⟩ := step 0 (by omega)
 rw [show ((0 + 1 : Nat) : Int) = 1 from rfl] at w2
 generalize horQ (bpL k) (Rat.divInt ((0 + 1 : Nat) : Int) (f : Int)) = E0 at *
 generalize Rat.divInt ((0 + 1 : Nat) : Int) (f : Int) = D0 at *
 generalize ht0 : trm k f 0 = T0 at *
 refine good_of_lwp mix Tryz.func67 rfl (by decide) (nt := 34) rfl (rs := [.tmp 4]) rfl (nle rfl) ?_
 (repeat(first|refine zW ?_|refine zG1 ?_|refine zD1 ?_|refine zT1 ?_))
 refine loop_more (s' := ?_) (fun Φ hΦ => ?_) ?_
 rotate_left
 ·(repeat(first|refine zW ?_|refine zG1 ?_|refine zD1 ?_|refine zT1 ?_))
  exact hΦ
 refine w_loop (α := {n : Nat // 1 ≤ n ∧ n ≤ f}) (fun n => st 34 (lk [(0,i64 k),(1,i64 f),(5,.sl (k + 1) (qc L)),(7,.own 0 0 n.1 4),(8,i64 ((n.1 + 1 : Nat) : Int))]) (lkH [(0,⟨47,qc (smd k f n.1),false⟩)]) 1) (fun n => f - n.1) ⟨1,by omega,hf⟩ ?_ ?_
 ·(refine Sub.heap1 26 ?_ (by simp only [smF,dg,renL,renLs,simprocAttr,bl,i64,smT];exact rfl) ?_ ?_;all_goals (first | exact dgs_plain _ | with_reducible rfl | (simp only [smF,dg,renL,renLs,simprocAttr,bl,i64,smT])|skip))
  rw [b1,← qc_one]
 ·rintro ⟨n,hn1,hn⟩
  simp only [st]
  have hls := smd_length k f n
  by_cases hlt : n < f
  ·obtain ⟨w2,w3,w4⟩ := step n hlt
   have happ := smd_succ k f n
   generalize hN : n + 1 = N at *
   generalize horQ (bpL k) (Rat.divInt (N : Int) (f : Int)) = E at *
   generalize Rat.divInt (N : Int) (f : Int) = D at *
   generalize trm k f n = T at *
   (repeat(first|refine zW ?_|refine zG1 ?_|refine zD1 ?_|refine zT1 ?_))
   refine ⟨⟨N,by omega,by omega⟩,?_,by simp only;omega⟩
   (refine Sub.heap1 17 ?_ (by simp only [smF,dg,renL,renLs,simprocAttr,bl,i64,smT];exact rfl) ?_ ?_;all_goals (first | exact dgs_plain _ | with_reducible rfl | (simp only [smF,dg,renL,renLs,simprocAttr,bl,i64,smT])|skip))
   ·simp only [true_and,hN]
   ·rw [happ,← qc_app]
  ·obtain rfl : n = f := by omega
   (repeat(first|refine zW ?_|refine zG1 ?_|refine zD1 ?_|refine zT1 ?_))
   exact zQ1
theorem summands_good (k f : Nat) (hk1 : 1 ≤ k) (hk : k ≤ 40) (hf : 1 ≤ f) (hf2 : f ≤ 60) : PureGood Tryz.prog 58 [i64 k,i64 f] (encF (smd k f f)) := by
 have p1 := polynomial_good k (by omega)
 have of := qof_good (f : Int) (by omega)
 have lf : lq ((f : Int) : Rat) ≤ 2 := lq_small (by omega) (by omega)
 have pw := qpow_good ((f : Int) : Rat) (k - 1) (by omega) (by omega)
 have lw := lq_powQ ((f : Int) : Rat) (k - 1)
 have lw2 : (k - 1) * lq ((f : Int) : Rat) ≤ 40 * 2 := Nat.mul_le_mul (by omega) lf
 have bf := of_good (f : Int) (by omega)
 have step : ∀ j : Nat, j < f → PureGood Tryz.prog 123 [i64 ((j + 1 : Nat) : Int)] (encI ((j + 1 : Nat) : Int)) ∧ PureGood Tryz.prog 137 [encI ((j + 1 : Nat) : Int), encI (f : Int)] (.tup [encQ (Rat.divInt ((j + 1 : Nat) : Int) (f : Int)), i64 0]) ∧
   PureGood Tryz.prog 131 [encF (bp k (k + 1)),encQ (Rat.divInt ((j + 1 : Nat) : Int) (f : Int))] (encQ (horQ (bpL k) (Rat.divInt ((j + 1 : Nat) : Int) (f : Int)))) ∧
   PureGood Tryz.prog 74 [encQ (((f : Int) : Rat) ^ (k - 1)),encQ (horQ (bpL k) (Rat.divInt ((j + 1 : Nat) : Int) (f : Int)))] (encQ (trm k f j)) := by
  intro j hj
  have la : len ((j + 1 : Nat) : Int) ≤ 1 := len_pow_lt (e := 1) (by omega)
  have lf : len (f : Int) ≤ 1 := len_pow_lt (e := 1) (by omega)
  have ld := lq_divInt (n := ((j + 1 : Nat) : Int)) (d := (f : Int)) (by omega)
  have ev := evalB_good (n := k) (by omega) (Rat.divInt ((j + 1 : Nat) : Int) (f : Int)) (by unfold lq;omega)
  have mk := make_good ((j + 1 : Nat) : Int) f (by omega) (by omega) (by omega)
  rw [← encI_nat] at mk
  refine ⟨of_good _ (by omega),mk,ev.1,?_⟩
  rw [trm_eq]
  exact qmul_good _ _ (by omega) (by have := ev.2;omega)
 clear lw lw2 lf
 have hk2 : ((k - 1 : Nat) : Int) = (k : Int) - 1 := by omega
 have hl := bp_length k (k + 1)
 rw [encF_qc,hl] at p1
 rw [encF_qc,smd_length]
 simp only [encF_qc,hl] at step
 generalize bp k (k + 1) = L at *
 rw [hk2] at pw
 generalize ((f : Int) : Rat) ^ (k - 1) = P at *
 generalize ((f : Int) : Rat) = FQ at *
 simp only [encI_sm,encQ_sm,i64] at p1 pw of bf step ⊢
 have b1 : smd k f 1 = [trm k f 0] := rfl
 obtain ⟨w1,w2,w3,w4⟩ := step 0 (by omega)
 rw [show ((0 + 1 : Nat) : Int) = 1 from rfl] at w1 w2 w3 w4
 generalize horQ (bpL k) (Rat.divInt (1 : Int) (f : Int)) = E0 at *
 generalize Rat.divInt (1 : Int) (f : Int) = D0 at *
 generalize ht0 : trm k f 0 = T0 at *
 refine good_of_lwp mix Tryz.func58 rfl (by decide) (nt := 44) rfl (rs := [.tmp 4]) rfl (nle rfl) ?_
 (repeat(first|refine zW ?_|refine zG1 ?_|refine zD1 ?_|refine zT1 ?_))
 refine loop_more (s' := ?_) (fun Φ hΦ => ?_) ?_
 rotate_left
 ·(repeat(first|refine zW ?_|refine zG1 ?_|refine zD1 ?_|refine zT1 ?_))
  exact hΦ
 refine w_loop (α := {n : Nat // 1 ≤ n ∧ n ≤ f}) (fun n => st 44 (lk [(0,i64 k),(1,i64 f),(5,.sl (k + 1) (qc L)),(6,.ptr 1 0),(8,.own 0 0 n.1 4),(9,i64 ((n.1 + 1 : Nat) : Int))]) (lkH [(0,⟨47,qc (smd k f n.1),false⟩),(1,⟨47,[sg (P).num,mg (P).num,sg ((P).den : Int),mg ((P).den : Int)],false⟩)]) 2) (fun n => f - n.1) ⟨1,by omega,hf⟩ ?_ ?_
 ·(refine Sub.heapL [38,12] rfl (by decide) ?_ (by simp only [smL];decide) ?_ ?_;all_goals (first|(simp only [plainC,smF,dg,renL,renLs,simprocAttr,bl,i64,smT];done) | (simp only [smF,dg,renL,renLs,simprocAttr,bl,i64,smT];(repeat' apply And.intro);all_goals rfl) | (simp only [smF,dg,renL,renLs,simprocAttr,bl,i64,smT]) | skip))
  rw [b1,← qc_one]
 ·rintro ⟨n,hn1,hn⟩
  simp only [st]
  have hls := smd_length k f n
  by_cases hlt : n < f
  ·obtain ⟨w1,w2,w3,w4⟩ := step n hlt
   have happ := smd_succ k f n
   generalize hN : n + 1 = N at *
   generalize horQ (bpL k) (Rat.divInt (N : Int) (f : Int)) = E at *
   generalize Rat.divInt (N : Int) (f : Int) = D at *
   generalize trm k f n = T at *
   (repeat(first|refine zW ?_|refine zG1 ?_|refine zD1 ?_|refine zT1 ?_))
   refine ⟨⟨N,by omega,by omega⟩,?_,by simp only;omega⟩
   (refine Sub.heapL [23,1] rfl (by decide) ?_ (by simp only [smL];decide) ?_ ?_;all_goals (first|(simp only [plainC,smF,dg,renL,renLs,simprocAttr,bl,i64,smT];done) | (simp only [smF,dg,renL,renLs,simprocAttr,bl,i64,smT];(repeat' apply And.intro);all_goals rfl) | (simp only [smF,dg,renL,renLs,simprocAttr,bl,i64,smT]) | skip))
   ·simp only [true_and,hN]
   ·rw [happ,← qc_app]
  ·obtain rfl : n = f := by omega
   (repeat(first|refine zW ?_|refine zG1 ?_|refine zD1 ?_|refine zT1 ?_))
   exact zQ1
end Go.Proofs.YtaidcaemdkncgaaGreatDoor
namespace Go.Proofs.YtaidcaemdkncgaaGreatDoor
open Go Go.Lg Go.Num
theorem pvs_oc2 {h : Nat → Option Blk} {ok : Nat → Bool} {k : Nat} : ∀ l : List (Option Rat),pvs h ok (k + 1) (oc l) = some (op l,[])
 | [] => rfl
 | none :: l => by
   have e1 : oc (none :: l) = .lit (.bool false) :: .lit (.slice none 0 0) :: .lit (.bool false) :: .lit (.slice none 0 0) :: oc l := rfl
   rw [e1]
   simp only [pvs_cons,pvs_oc2 l,pv_bool,pv_nil,Option.bind_some,Option.map_some]
   rfl
 | some q :: l => by
   have e1 : oc (some q :: l) = sg q.num :: mg q.num :: sg (q.den : Int) :: mg (q.den : Int) :: oc l := by
     show qcells q ++ oc l = _
     rw [qcells_sm];rfl
   have e2 : op (some q :: l) = sg q.num :: mg q.num :: sg (q.den : Int) :: mg (q.den : Int) :: op l := by
     show qcells q ++ op l = _
     rw [qcells_sm];rfl
   rw [e1,e2]
   simp only [pvs_cons,pvs_oc2 l,pv_pure (pure_sg _),pv_pure (pure_mg _),Option.bind_some,Option.map_some]
   rfl
theorem oc_take2 {l : List (Option Rat)} {m : Nat} (h : m = l.length * 4) : (oc l).take m = oc l := List.take_of_length_le (by rw [oc_len];omega)
def remQ (g t : List Rat) : List Rat := trimQ (divR g (t.length + 1 - g.length) t)
theorem remQ_short {g t : List Rat} (h : t.length < g.length) : remQ g t = trimQ t := by
 unfold remQ
 rw [show t.length + 1 - g.length = 0 by omega,divR]
theorem lastQ_trim (f : List Rat) : lastQ (trimQ f) := by
 obtain ⟨n,hn⟩ : ∃ n,f.length = n := ⟨_,rfl⟩
 induction n generalizing f with
 | zero =>
   have : f = [] := List.length_eq_zero_iff.1 hn
   subst this
   intro h
   simp [trimQ_nil] at h
 | succ n ih =>
   have e : f = f.take n ++ [f.getD n 0] := by
     have h1 := List.take_succ_eq_append_getElem (l := f) (i := n) (by omega)
     have h2 : f.getD n 0 = f[n] := by simp [List.getD,show n < f.length by omega]
     rw [h2,← h1,List.take_of_length_le (by omega)]
   have hl : (f.take n).length = n := by rw [List.length_take];omega
   by_cases hz : f.getD n 0 = 0
   · rw [e,hz,trimQ_snoc_z]
     exact ih _ hl
   · rw [e,trimQ_snoc_nz _ hz]
     intro _
     simp only [List.length_append,List.length_cons,List.length_nil,Nat.add_sub_cancel]
     simpa [List.getD,hl] using hz
theorem trimQ_getD (f : List Rat) (j : Nat) : (trimQ f).getD j 0 = f.getD j 0 := by
 obtain ⟨n,hn⟩ : ∃ n,f.length = n := ⟨_,rfl⟩
 induction n generalizing f with
 | zero =>
   have : f = [] := List.length_eq_zero_iff.1 hn
   subst this
   rfl
 | succ n ih =>
   have e : f = f.take n ++ [f.getD n 0] := by
     have h1 := List.take_succ_eq_append_getElem (l := f) (i := n) (by omega)
     have h2 : f.getD n 0 = f[n] := by simp [List.getD,show n < f.length by omega]
     rw [h2,← h1,List.take_of_length_le (by omega)]
   have hl : (f.take n).length = n := by rw [List.length_take];omega
   by_cases hz : f.getD n 0 = 0
   · have e1 : trimQ f = trimQ (f.take n) := by
       conv => lhs;rw [e,hz]
       exact trimQ_snoc_z _
     rw [e1,ih _ hl]
     rcases Nat.lt_trichotomy j n with h | h | h
     · simp [List.getD,h]
     · subst h;rw [hz];simp [List.getD,hl]
     · have h3 : (f.take n).length ≤ j := by omega
       simp only [List.getD,List.getElem?_eq_none h3,List.getElem?_eq_none (show f.length ≤ j by omega)]
   · have e1 : trimQ f = f := by
       conv => lhs;rw [e]
       rw [trimQ_snoc_nz _ hz,← e]
     rw [e1]
theorem trimQ_le (f : List Rat) : (trimQ f).length ≤ f.length := by
 unfold trimQ
 rw [List.length_reverse]
 have h := (List.dropWhile_sublist (l := f.reverse) (· == 0)).length_le
 rwa [List.length_reverse] at h
theorem smlL_of {D : Int} {L : Nat} {f : List Rat} (hD : D ≠ 0) (hK : len D ≤ 60) (hL : L ≤ 4000) (h : ∀ j,frm D L (f.getD j 0)) : smlL f := by
 intro q hq
 obtain ⟨j,hj,rfl⟩ := List.getElem_of_mem hq
 have := h j
 rw [show f.getD j 0 = f[j] by simp [List.getD,hj]] at this
 exact sml_of (by have := this.lq hD hK;omega)
attribute [local irreducible] Go.Lg.lrun Go.Lg.lwp Go.Lg.exThen Go.Lg.exBlk Go.Lg.keep Go.Lg.goodPost sg mg oc op
theorem qdm_good (F : List (Option Rat)) (g : List Rat) {D : Int} {L : Nat} (hD : D ≠ 0) (hK : len D ≤ 60) (hL : L ≤ 3000) (hF : F.length ≤ 500) (hf : ∀ j, frm D L ((ov F).getD j 0)) (hq : ∀ q, some q ∈ F → lq q ≤ 100000) (hg : ∀ b ∈ g, one1 b) (hg1 : 1 ≤ g.length) (hg2 : g.length ≤ 500) (hm : g.getD (g.length - 1) 0 = 1) :
  ∃ Q : List Rat,PureGood Tryz.prog 230 [.sl F.length (op F),encF g] (.tup [encF Q,encF (remQ g (trimQ (ov F))),i64 0]) := by
 have lg : lastQ g := fun _ => by rw [hm];decide
 have hsg : ∀ c ∈ g,lq c ≤ 100000 := fun c hc => by
  rcases hg c hc with rfl | rfl | rfl
  all_goals decide +kernel
 have sgl : smlL g := fun c hc => sml_of (by
  rcases hg c hc with rfl | rfl | rfl
  all_goals decide +kernel)
 have gn1 := qpnorm_good g (by omega) hsg
 rw [trimQ_last lg] at gn1
 have gn2 := qpnorm_op F (by omega) hq
 have lt := lastQ_trim (ov F)
 have ht : ∀ j,frm D L ((trimQ (ov F)).getD j 0) := fun j => by rw [trimQ_getD];exact hf j
 have htl := trimQ_le (ov F)
 rw [ov_len] at htl
 have st := smlL_of hD hK (by omega) ht
 generalize trimQ (ov F) = t at *
 by_cases hs : t.length < g.length
 ·have gd := qdivS_short t g lt st hs (by omega)
  refine ⟨[],?_⟩
  rw [remQ_short hs,trimQ_last lt]
  have e0 : encF [] = .sl 0 [] := by rw [encF_qc];rfl
  rw [e0]
  simp only [encF_qc,i64] at *
  refine good_of_lwp mix Tryz.func230 rfl (by decide) (nt := 21) rfl (rs := [.tmp 4,.tmp 5,.tmp 6]) rfl (nle rfl) ?_
  (repeat(first|refine zW ?_|refine zG1 ?_|refine zD1 ?_|refine zT1 ?_))
  exact zQ1
 ·obtain ⟨q',h1,h2,h3⟩ := divS_ok hD hK hg (t.length + 1 - g.length) L (List.replicate (t.length + 1 - g.length) none) t (by omega) ht (fun j h1 h2 => by rw [List.length_replicate] at h2;omega)
  obtain ⟨Q,rfl,hQl⟩ := opt_somes (q := q') (fun j hj => h3 j (by omega))
  rw [List.length_map,List.length_replicate] at h2
  have hR := divR_len g (t.length + 1 - g.length) t
  have gd := qdivS_long t g Q (divR g (t.length + 1 - g.length) t) (t.length + 1 - g.length) lt st sgl hg1 (by omega) (by omega) (by omega) (by omega) (by rw [hm];decide) (by rw [hm];exact h1) (by omega) (by omega)
  refine ⟨trimQ Q,?_⟩
  unfold remQ
  generalize trimQ Q = tQ at *
  generalize trimQ (divR g (t.length + 1 - g.length) t) = tR at *
  simp only [encF_qc,i64] at *
  refine good_of_lwp mix Tryz.func230 rfl (by decide) (nt := 21) rfl (rs := [.tmp 4,.tmp 5,.tmp 6]) rfl (nle rfl) ?_
  (repeat(first|refine zW ?_|refine zG1 ?_|refine zD1 ?_|refine zT1 ?_))
  exact zQ1
theorem qcmp_same (q : Rat) (h : lq q ≤ 100000) : PureGood Tryz.prog 216 [encQ q,encQ q] (i64 0) := by
 have g1 := qsub_good q q (by omega) (by omega)
 rw [Rat.sub_self] at g1
 have g2 := qsign_good 0 (by decide +kernel)
 rw [show (0 : Rat).num.sign = 0 from rfl] at g2
 simp only [encQ_sm,i64] at *
 refine good_of_lwp mix Tryz.func216 rfl (by decide) (nt := 9) rfl (rs := [.tmp 4]) rfl (nle rfl) ?_
 (repeat(first|refine zW ?_|refine zG1 ?_|refine zD1 ?_|refine zT1 ?_))
 exact zQ1
theorem open_h {n : Nat} (hn : n ∈ nFC) (h1 : 1 ≤ (cyF n).length - 1) (h2 : (cyF n).length ≤ 13) (hm : (rz (cyF n)).getD ((cyF n).length - 1) 0 = 1) (H : Nat → Option Blk) :
  HGood Tryz.prog 126 [.agg [.sl (cyF n).length (wrI2 (cyF n))]] H 10 (.tup [.ptr 40 0,i64 0]) (upd (upd H 10 (some ⟨101,[.sl (cyF n).length (wrI2 (cyF n))],false⟩)) 40 (some ⟨253,[.sl (cyF n).length (qc (rz (cyF n))),i64 ((cyF n).length - 1 : Nat)],false⟩)) 100 := by
 obtain ⟨z1,z2⟩ := zn_good hn
 have r1 := qof_good 1 (by omega)
 have r2 := qcmp_same 1 (by decide +kernel)
 have hl := rz_len (cyF n)
 rw [encF_qc,hl] at z2
 have e1 : (((cyF n).length : Int) - 1).toNat = (cyF n).length - 1 := by omega
 have e2 : ((cyF n).length : Int) - 1 = (((cyF n).length - 1 : Nat) : Int) := by omega
 refine heap_of_lwp mix Tryz.func126 rfl (by decide) (nt := 32) rfl (rs := [.tmp 2,.tmp 3]) rfl (nle rfl) ?_
 simp only [encQ_sm,i64] at *
 (repeat (first|refine zW ?_|((first|apply l_go rfl|apply c_dec|apply zT rfl (by decide) rfl);(case hs=>(simp (disch := first|omega|exact kD rfl|exact kX rfl) only [smY,simprocAttr,bl,i64,smT,e1,e2,hm];exact rfl));first|refine c_bt ?_|refine c_bf ?_|refine zq ?_|(case hg=>assumption))))
 exact ⟨by simp only [smR];try rfl,rfl,by simp only [List.length_cons,List.length_nil];omega⟩
theorem rnormal_h (F : List (Option Rat)) (g : List Rat) (Q R : List Rat) (hd : PureGood Tryz.prog 230 [.sl F.length (op F), encF g] (.tup [encF Q, encF R, i64 0])) (x : LV) (nb : Nat) (H : Nat → Option Blk) (b : Nat) (hb : H b = some ⟨253, [.sl g.length (qc g), x], false⟩) :
  HGood Tryz.prog 143 [.ptr b 0,.sl F.length (op F)] H nb (encF R) H (nb + 100) := by
 refine heap_of_lwp mix Tryz.func143 rfl (by decide) (nt := 19) rfl (rs := [.tmp 4]) rfl (nle rfl) ?_
 simp only [encF_qc,i64] at *
 (repeat (first|refine zW ?_|((first|apply l_go rfl|apply c_dec|apply zT rfl (by decide) rfl);(case hs=>(simp (disch := first|omega|exact kD rfl|exact kX rfl) only [smY,simprocAttr,bl,i64,smT,hb];exact rfl));first|refine c_bt ?_|refine c_bf ?_|refine zq ?_|(case hg=>assumption))))
 exact ⟨by simp only [smR];try rfl,rfl,by simp only [List.length_cons,List.length_nil];omega⟩
def cyB (n : Nat) : Bool := ((cyF n).all fun z => z == 0 || z == 1 || z == -1) && Nat.ble 2 (cyF n).length && Nat.ble (cyF n).length 13 && ((cyF n).getD ((cyF n).length - 1) 0 == 1)
theorem cy_all : nFC.all cyB = true := by decide +kernel
theorem cy_ok {n : Nat} (h : n ∈ nFC) : (∀ b ∈ rz (cyF n),one1 b) ∧ 2 ≤ (cyF n).length ∧ (cyF n).length ≤ 13 ∧ (rz (cyF n)).getD ((cyF n).length - 1) 0 = 1 := by
 have h1 := List.all_eq_true.1 cy_all n h
 unfold cyB at h1
 simp only [Bool.and_eq_true,Nat.ble_eq,beq_iff_eq,List.all_eq_true,Bool.or_eq_true] at h1
 obtain ⟨⟨⟨h2,h3⟩,h4⟩,h5⟩ := h1
 refine ⟨fun b hb => ?_,h3,h4,by rw [rz_get,h5];rfl⟩
 obtain ⟨z,hz,rfl⟩ := List.mem_map.1 hb
 rcases h2 z hz with (rfl | rfl) | rfl
 ·exact .inr (.inl rfl)
 ·exact .inl rfl
 ·exact .inr (.inr rfl)
theorem nfnormal_good {n : Nat} (hn : n ∈ nFC) (F : List (Option Rat)) {D : Int} {L : Nat} (hD : D ≠ 0) (hK : len D ≤ 60) (hL : L ≤ 3000) (hF : F.length ≤ 500) (hf : ∀ j, frm D L ((ov F).getD j 0)) (hq : ∀ q, some q ∈ F → lq q ≤ 100000) :
  PureGood Tryz.prog 60 [.agg [.sl (cyF n).length (wrI2 (cyF n))],.sl F.length (op F)] (.tup [encF (remQ (rz (cyF n)) (trimQ (ov F))),i64 0]) := by
 obtain ⟨c1,c2,c3,c4⟩ := cy_ok hn
 have hl := rz_len (cyF n)
 obtain ⟨Q,gd⟩ := qdm_good F (rz (cyF n)) hD hK hL hF hf hq c1 (by omega) (by omega) (by rw [hl];exact c4)
 have gh := rnormal_h F (rz (cyF n)) Q _ gd
 rw [hl] at gh
 generalize remQ (rz (cyF n)) (trimQ (ov F)) = R at *
 have go := open_h hn (by omega) c3 c4
 have hop := op_len F
 simp only [encF_qc,i64] at *
 refine good_of_lwp mix Tryz.func60 rfl (by decide) (nt := 19) rfl (rs := [.tmp 4,.tmp 5]) rfl (nle rfl) ?_
 (repeat (first|refine zW ?_|((first|apply l_go rfl|apply c_dec|apply zT rfl (by decide) rfl);(case hs=>(simp (disch := first|omega|exact kD rfl|exact kX rfl) only [smY,simprocAttr,bl,i64,smT,@op_take,op_len];exact rfl));first|refine c_bt ?_|refine c_bf ?_|refine zq ?_|(case hg=>assumption))))
 refine l_hcall' rfl rfl rfl rfl (by decide) rfl (by simp (disch := first|omega|exact kD rfl|exact kX rfl) only [smY,simprocAttr,bl,i64,smT,@op_take,op_len];try exact rfl) (go _) (by decide) ?_
 (repeat (first|refine zW ?_|((first|apply l_go rfl|apply c_dec|apply zT rfl (by decide) rfl);(case hs=>(simp (disch := first|omega|exact kD rfl|exact kX rfl) only [smY,simprocAttr,bl,i64,smT,@op_take,op_len];exact rfl));first|refine c_bt ?_|refine c_bf ?_|refine zq ?_|(case hg=>assumption))))
 refine l_hcall' (by simp only [List.size_toArray,List.length_cons,List.length_nil,Nat.reduceAdd,Nat.max_def,Nat.reduceLeDiff,↓reduceIte];exact rfl) rfl rfl rfl (by decide) rfl (by simp (disch := first|omega|exact kD rfl|exact kX rfl) only [smY,simprocAttr,bl,i64,smT,@op_take,op_len];try exact rfl) (gh _ _ _ 40 (by simp (disch := first|omega|exact kD rfl|exact kX rfl) only [smY,simprocAttr,bl,i64,smT,@op_take,op_len];try exact rfl)) (by decide) ?_
 (repeat (first|refine zW ?_|((first|apply l_go rfl|apply c_dec|apply zT rfl (by decide) rfl);(case hs=>(simp (disch := first|omega|exact kD rfl|exact kX rfl) only [smY,simprocAttr,bl,i64,smT,@op_take,op_len];exact rfl));first|refine c_bt ?_|refine c_bf ?_|refine zq ?_|(case hg=>assumption))))
 ((first|apply g_ret|apply g_end);case hres => (simp only [smR];simp (disch := first|omega|exact kD rfl|exact kX rfl) only [smY,simprocAttr,bl,i64,smT,@op_take,op_len];exact rfl))
 simp (disch := first|omega|exact kD rfl|exact kX rfl) only [smY,simprocAttr,bl,i64,smT,@op_take,op_len]
end Go.Proofs.YtaidcaemdkncgaaGreatDoor
namespace Go.Proofs.YtaidcaemdkncgaaGreatDoor
open Go Go.Lg Go.Num
attribute [local irreducible] Go.Lg.lrun Go.Lg.lwp Go.Lg.exThen Go.Lg.exBlk Go.Lg.keep Go.Lg.goodPost sg mg oc
theorem new_take {P : Program} [Laid P] {f : FuncId} {args : List LV} {n sz : Nat} {ty : TypeId} {cells : List LV} (h : NewGood P f args n sz ty cells) (m : Nat) : NewGood P f args n sz ty (cells.take m) := by
 obtain ⟨hen,hpl,hgood⟩ := h
 refine ⟨hen,fun c hc => hpl c (List.mem_of_mem_take hc),fun w St vs hSt hLd hvs => ?_⟩
 refine (hgood w St vs hSt hLd hvs).mono ?_
 rintro e w' ⟨v,St',g,cs,rfl,hv,hge,hlt,hns,hg,hle,hr,h1,hrest⟩
 have hl : (cells.take m).length ≤ cells.length := by rw [List.length_take];omega
 have et : cs.toList.take (cells.take m).length = (cs.toList.take cells.length).take (cells.take m).length := by
  rw [List.take_take,Nat.min_eq_left hl]
 have e2 : cells.take m = cells.take (cells.take m).length := by rw [List.length_take,← List.take_take,List.take_length]
 refine ⟨v,St',g,cs,rfl,hv,hge,hlt,hns,hg,by omega,?_,fun u hu => h1 u ?_,hrest⟩
 ·rw [et]
  refine ⟨?_,fun i c u hc hu => ?_⟩
  ·have := hr.1
   rw [List.length_take,List.length_take]
   omega
  ·rw [List.getElem?_take] at hu hc
   split at hu
   ·split at hc
    ·exact hr.2 i c u hc hu
    ·cases hc
   ·cases hu
 ·rw [et] at hu
  exact List.mem_of_mem_take hu
theorem take_snoc {L : List Rat} {m : Nat} (h : m < L.length) : L.take (m + 1) = L.take m ++ [L.getD m 0] := by
 rw [List.take_succ_eq_append_getElem h]
 simp [List.getD,h]
theorem qc_take' (L : List Rat) (m : Nat) : (qc L).take (m * 4) = qc (L.take m) := by
 rcases Nat.lt_or_ge m L.length with h | h
 ·have e : qc L = qc (L.take m) ++ qc (L.drop m) := by
   conv => lhs;rw [← List.take_append_drop m L]
   simp only [qc,List.flatMap_append]
  have hl : (qc (L.take m)).length = m * 4 := by rw [qc_len,List.length_take];omega
  rw [e,← hl,List.take_left]
 ·rw [List.take_of_length_le h,List.take_of_length_le (by rw [qc_len];omega)]
theorem trimQ_prefix (L : List Rat) : ∃ m,m ≤ L.length ∧ trimQ L = L.take m ∧ (∀ j,m ≤ j → L.getD j 0 = 0) ∧ (0 < m → L.getD (m - 1) 0 ≠ 0) := by
 obtain ⟨n,hn⟩ : ∃ n,L.length = n := ⟨_,rfl⟩
 induction n generalizing L with
 | zero =>
   have : L = [] := List.length_eq_zero_iff.1 hn
   subst this
   exact ⟨0,Nat.le_refl _,rfl,fun j _ => by simp,fun h => by omega⟩
 | succ n ih =>
   have e : L = L.take n ++ [L.getD n 0] := by
     rw [← take_snoc (by omega),List.take_of_length_le (by omega)]
   by_cases hz : L.getD n 0 = 0
   · have hl : (L.take n).length = n := by rw [List.length_take];omega
     obtain ⟨m,h1,h2,h3,h4⟩ := ih (L.take n) hl
     have hg : ∀ j,j < n → (L.take n).getD j 0 = L.getD j 0 := fun j hj => by simp [List.getD,hj]
     refine ⟨m,by omega,?_,fun j hj => ?_,fun hm => ?_⟩
     · have e2 : trimQ L = trimQ (L.take n) := by
         conv => lhs;rw [e,hz]
         exact trimQ_snoc_z _
       rw [e2,h2,List.take_take,Nat.min_eq_left (by omega)]
     · rcases Nat.lt_or_ge j n with h | h
       · rw [← hg j h];exact h3 j hj
       · by_cases hjn : j = n
         · subst hjn;exact hz
         · simp [List.getD,show L.length ≤ j by omega]
     · rw [← hg (m - 1) (by omega)];exact h4 hm
   · refine ⟨n + 1,by omega,?_,fun j hj => by simp [List.getD,show L.length ≤ j by omega],fun _ => hz⟩
     rw [List.take_of_length_le (by omega)]
     conv => lhs;rw [e]
     conv => rhs;rw [e]
     exact trimQ_snoc_nz _ hz
theorem rpnorm_good (L : List Rat) (hl : L.length ≤ 100000) (hf : ∀ j,j < L.length → lq (L.getD j 0) ≤ 100000) : PureGood Tryz.prog 72 [encF L] (encF (trimQ L)) := by
 obtain ⟨k,hk0,hkt,hk1,hk2⟩ := trimQ_prefix L
 obtain ⟨N,hlen⟩ : ∃ N,L.length = N := ⟨_,rfl⟩
 have hkl : (trimQ L).length = k := by rw [hkt,List.length_take];omega
 rw [encF_qc,encF_qc,hkl,hkt,hlen]
 rw [hlen] at hk0 hl hf
 refine good_of_lwp mix Tryz.func72 rfl (by decide) (nt := 38) rfl (rs := [.tmp 2]) rfl (nle rfl) ?_
 (repeat(first|refine zW ?_|refine zG1 ?_|refine zD1 ?_|refine zT1 ?_))
 refine w_loop (α := {m : Nat // m ≤ N}) (fun m => st 38 (lk [(0,.sl N (qc L)),(3,nV 0 m.1),(4,i64 m.1)]) (lkH (nB 0 m.1 (qc (L.take m.1)))) 1) (fun m => N - m.1) ⟨0,by omega⟩ ?_ ?_
 ·simp only [nV_zero,nB_zero]
  (refine Sub.plain ?_;simp only [smF,dg,renL,renLs,simprocAttr,bl,i64,smT])
  all_goals (first | done | simp)
 ·rintro ⟨m,hm⟩
  simp only [st]
  by_cases hlt : m < N
  ·have g2 := rqnorm_good (L.getD m 0) (by have := hf m (by omega);omega)
   have happ := take_snoc (L := L) (m := m) (by omega)
   have htl : (L.take m).length = m := by rw [List.length_take];omega
   generalize hq : L.getD m 0 = q at *
   simp only [encQ_sm] at g2
   by_cases h0 : m = 0
   ·simp only [nV_of h0,nB_of h0]
    (repeat (first|refine zW ?_|((first|apply l_go rfl|apply c_dec|apply zT rfl (by decide) rfl);(case hs=>(simp (disch := first|omega|exact kD rfl|exact kX rfl) only [smY,simprocAttr,bl,i64,smT,hq];exact rfl));first|refine c_bt ?_|refine c_bf ?_|refine zq ?_|(case hg=>assumption))))
    refine ⟨⟨m + 1,by omega⟩,?_,by simp only;omega⟩
    subst h0
    simp only [nV_succ,nB_succ]
    (refine Sub.heapL [12] rfl (by decide) ?_ (by simp only [smL];decide) ?_ ?_;all_goals (first|(simp only [plainC,smF,dg,renL,renLs,simprocAttr,bl,i64,smT];done) | (simp only [smF,dg,renL,renLs,simprocAttr,bl,i64,smT];(repeat' apply And.intro);all_goals rfl) | (simp only [smF,dg,renL,renLs,simprocAttr,bl,i64,smT]) | skip))
    have e : L.take 1 = [q] := happ
    all_goals (first | done | (rw [e,← qc_one]))
   ·simp only [nV_ne h0,nB_ne h0]
    (repeat (first|refine zW ?_|((first|apply l_go rfl|apply c_dec|apply zT rfl (by decide) rfl);(case hs=>(simp (disch := first|omega|exact kD rfl|exact kX rfl) only [smY,simprocAttr,bl,i64,smT,hq];exact rfl));first|refine c_bt ?_|refine c_bf ?_|refine zq ?_|(case hg=>assumption))))
    refine ⟨⟨m + 1,by omega⟩,?_,by simp only;omega⟩
    simp only [nV_succ,nB_succ]
    (refine Sub.heapL [12] rfl (by decide) ?_ (by simp only [smL];decide) ?_ ?_;all_goals (first|(simp only [plainC,smF,dg,renL,renLs,simprocAttr,bl,i64,smT];done) | (simp only [smF,dg,renL,renLs,simprocAttr,bl,i64,smT];(repeat' apply And.intro);all_goals rfl) | (simp only [smF,dg,renL,renLs,simprocAttr,bl,i64,smT]) | skip))
    all_goals (first | done | (rw [happ,← qc_app]))
  ·obtain rfl : m = N := by omega
   have htL : L.take m = L := List.take_of_length_le (by omega)
   rw [htL]
   by_cases h0 : m = 0
   ·simp only [nV_of h0,nB_of h0]
    obtain rfl : k = 0 := by omega
    subst h0
    ((repeat(first|refine zW ?_|refine zG1 ?_|refine zD1 ?_|refine zT1 ?_));refine w_loop (α := Unit) (fun _ => st 38 (lk [(3,nilL),(5,i64 0)]) (lkH []) 0) (fun _ => 0) () (by (refine Sub.plain ?_;simp only [smF,dg,renL,renLs,simprocAttr,bl,i64,smT]);all_goals done) (fun _ => ?_);simp only [st];(repeat(first|refine zW ?_|refine zG1 ?_|refine zD1 ?_|refine zT1 ?_));refine l_cskip rfl (by decide) rfl ?_;(repeat(first|refine zW ?_|refine zG1 ?_|refine zD1 ?_|refine zT1 ?_));refine zR1 ?_;simp (disch := first|omega|exact kD rfl|exact kX rfl) only [smY,simprocAttr,bl,i64,smT];first | done | rfl)
   ·simp only [nV_ne h0,nB_ne h0]
    (repeat(first|refine zW ?_|refine zG1 ?_|refine zD1 ?_|refine zT1 ?_))
    refine w_loop (α := {j : Nat // k ≤ j ∧ j ≤ m}) (fun j => st 38 (lk [(3,.own 0 0 m 4),(5,i64 j.1)]) (lkH [(0,⟨47,qc L,false⟩)]) 1) (fun j => j.1) ⟨m,by omega,Nat.le_refl _⟩ ?_ ?_
    ·(refine Sub.heapL [0] rfl (by decide) ?_ (by simp only [smL];decide) ?_ ?_;all_goals (first|(simp only [plainC,smF,dg,renL,renLs,simprocAttr,bl,i64,smT];done) | (simp only [smF,dg,renL,renLs,simprocAttr,bl,i64,smT];(repeat' apply And.intro);all_goals rfl) | (simp only [smF,dg,renL,renLs,simprocAttr,bl,i64,smT]) | skip))
     all_goals (first | done | simp)
    ·rintro ⟨j,hj1,hj2⟩
     simp only [st]
     rcases j with _ | j
     ·obtain rfl : k = 0 := by omega
      (repeat(first|refine zW ?_|refine zG1 ?_|refine zD1 ?_|refine zT1 ?_))
      refine l_cskip rfl (by decide) rfl ?_
      (repeat(first|refine zW ?_|refine zG1 ?_|refine zD1 ?_|refine zT1 ?_))
      (refine zR1 ?_;simp (disch := first|omega|exact kD rfl|exact kX rfl) only [smY,simprocAttr,bl,i64,smT];first | done | rfl | (simp only [qc_take'];simp (disch := first|omega|exact kD rfl|exact kX rfl) only [smY,simprocAttr,bl,i64,smT];done) | (simp only [qc_take'];simp (disch := first|omega|exact kD rfl|exact kX rfl) only [smY,simprocAttr,bl,i64,smT];rfl))
     ·have g3 := rqsign_good (L.getD j 0) (by have := hf j (by omega);omega)
      have e3 : ((j + 1 : Nat) : Int) - 1 = (j : Int) := by omega
      have hqc : (qc L).length = m * 4 := by rw [qc_len,hlen]
      by_cases hjk : k = j + 1
      ·have hnz : ¬ (L.getD j 0).num.sign = 0 := fun e => by
        have := hk2 (by omega)
        rw [hjk,Nat.add_sub_cancel] at this
        exact this (Rat.num_eq_zero.1 (Int.sign_eq_zero_iff_zero.1 e))
       subst hjk
       generalize hq : L.getD j 0 = q at *
       generalize q.num.sign = s at *
       simp only [encQ_sm,i64] at g3
       (repeat (first|refine zW ?_|((first|apply l_go rfl|apply c_dec|apply zT rfl (by decide) rfl);(case hs=>(simp (disch := first|omega|exact kD rfl|exact kX rfl) only [smY,simprocAttr,bl,i64,smT,hq,e3];exact rfl));first|refine c_bt ?_|refine c_bf ?_|refine zq ?_|(case hg=>assumption))))
       (((first|apply g_ret|apply g_end);case hres => (simp only [smR];simp (disch := first|omega|exact kD rfl|exact kX rfl) only [smY,simprocAttr,bl,i64,smT,hq,e3];exact rfl));simp (disch := first|omega|exact kD rfl|exact kX rfl) only [smY,simprocAttr,bl,i64,smT,hq,e3];first | done | rfl | (simp only [qc_take'];simp (disch := first|omega|exact kD rfl|exact kX rfl) only [smY,simprocAttr,bl,i64,smT,hq,e3];done) | (simp only [qc_take'];simp (disch := first|omega|exact kD rfl|exact kX rfl) only [smY,simprocAttr,bl,i64,smT,hq,e3];rfl))
      ·have hz : (L.getD j 0).num.sign = 0 := by
        rw [hk1 j (by omega)]
        rfl
       rw [hz] at g3
       generalize hq : L.getD j 0 = q at *
       simp only [encQ_sm,i64] at g3
       (repeat (first|refine zW ?_|((first|apply l_go rfl|apply c_dec|apply zT rfl (by decide) rfl);(case hs=>(simp (disch := first|omega|exact kD rfl|exact kX rfl) only [smY,simprocAttr,bl,i64,smT,hq,e3];exact rfl));first|refine c_bt ?_|refine c_bf ?_|refine zq ?_|(case hg=>assumption))))
       refine ⟨⟨j,by omega,by omega⟩,?_,by simp only;omega⟩
       (refine Sub.heapL [0] rfl (by decide) ?_ (by simp only [smL];decide) ?_ ?_;all_goals (first|(simp only [plainC,smF,dg,renL,renLs,simprocAttr,bl,i64,smT];done) | (simp only [smF,dg,renL,renLs,simprocAttr,bl,i64,smT];(repeat' apply And.intro);all_goals rfl) | (simp only [smF,dg,renL,renLs,simprocAttr,bl,i64,smT]) | skip))
       all_goals (first | done | simp)
theorem rpnorm_new (L : List Rat) (hl1 : 1 ≤ L.length) (hl : L.length ≤ 100000) (hf : ∀ j,j < L.length → lq (L.getD j 0) ≤ 100000) : NewGood Tryz.prog 72 [encF L] (trimQ L).length 4 47 (qc (trimQ L)) := by
 obtain ⟨k,hk0,hkt,hk1,hk2⟩ := trimQ_prefix L
 obtain ⟨N,hlen⟩ : ∃ N,L.length = N := ⟨_,rfl⟩
 have hkl : (trimQ L).length = k := by rw [hkt,List.length_take];omega
 have hq : qc (trimQ L) = (qc L).take (k * 4) := by rw [hkt,qc_take']
 rw [hq,hkl]
 refine new_take ?_ _
 rw [encF_qc,hlen]
 rw [hlen] at hk0 hl hf hl1
 refine new_of_lwp mix Tryz.func72 rfl (by decide) (nt := 38) rfl (rs := [.tmp 2]) rfl (nle rfl) (qc_all s9 s10 _) ?_
 (repeat(first|refine zW ?_|refine zG1 ?_|refine zD1 ?_|refine zT1 ?_))
 refine w_loop (α := {m : Nat // m ≤ N}) (fun m => st 38 (lk [(0,.sl N (qc L)),(3,nV 0 m.1),(4,i64 m.1)]) (lkH (nB 0 m.1 (qc (L.take m.1)))) 1) (fun m => N - m.1) ⟨0,by omega⟩ ?_ ?_
 ·simp only [nV_zero,nB_zero]
  (refine Sub.plain ?_;simp only [smF,dg,renL,renLs,simprocAttr,bl,i64,smT])
  all_goals (first | done | simp)
 ·rintro ⟨m,hm⟩
  simp only [st]
  by_cases hlt : m < N
  ·have g2 := rqnorm_good (L.getD m 0) (by have := hf m (by omega);omega)
   have happ := take_snoc (L := L) (m := m) (by omega)
   have htl : (L.take m).length = m := by rw [List.length_take];omega
   generalize hq : L.getD m 0 = q at *
   simp only [encQ_sm] at g2
   by_cases h0 : m = 0
   ·simp only [nV_of h0,nB_of h0]
    (repeat (first|refine zW ?_|((first|apply l_go rfl|apply c_dec|apply zT rfl (by decide) rfl);(case hs=>(simp (disch := first|omega|exact kD rfl|exact kX rfl) only [smY,simprocAttr,bl,i64,smT,hq];exact rfl));first|refine c_bt ?_|refine c_bf ?_|refine zq ?_|(case hg=>assumption))))
    refine ⟨⟨m + 1,by omega⟩,?_,by simp only;omega⟩
    subst h0
    simp only [nV_succ,nB_succ]
    (refine Sub.heapL [12] rfl (by decide) ?_ (by simp only [smL];decide) ?_ ?_;all_goals (first|(simp only [plainC,smF,dg,renL,renLs,simprocAttr,bl,i64,smT];done) | (simp only [smF,dg,renL,renLs,simprocAttr,bl,i64,smT];(repeat' apply And.intro);all_goals rfl) | (simp only [smF,dg,renL,renLs,simprocAttr,bl,i64,smT]) | skip))
    have e : L.take 1 = [q] := happ
    all_goals (first | done | (rw [e,← qc_one]))
   ·simp only [nV_ne h0,nB_ne h0]
    (repeat (first|refine zW ?_|((first|apply l_go rfl|apply c_dec|apply zT rfl (by decide) rfl);(case hs=>(simp (disch := first|omega|exact kD rfl|exact kX rfl) only [smY,simprocAttr,bl,i64,smT,hq];exact rfl));first|refine c_bt ?_|refine c_bf ?_|refine zq ?_|(case hg=>assumption))))
    refine ⟨⟨m + 1,by omega⟩,?_,by simp only;omega⟩
    simp only [nV_succ,nB_succ]
    (refine Sub.heapL [12] rfl (by decide) ?_ (by simp only [smL];decide) ?_ ?_;all_goals (first|(simp only [plainC,smF,dg,renL,renLs,simprocAttr,bl,i64,smT];done) | (simp only [smF,dg,renL,renLs,simprocAttr,bl,i64,smT];(repeat' apply And.intro);all_goals rfl) | (simp only [smF,dg,renL,renLs,simprocAttr,bl,i64,smT]) | skip))
    all_goals (first | done | (rw [happ,← qc_app]))
  ·obtain rfl : m = N := by omega
   have htL : L.take m = L := List.take_of_length_le (by omega)
   rw [htL]
   by_cases h0 : m = 0
   ·simp only [nV_of h0,nB_of h0]
    obtain rfl : k = 0 := by omega
    subst h0
    (omega)
   ·simp only [nV_ne h0,nB_ne h0]
    (repeat(first|refine zW ?_|refine zG1 ?_|refine zD1 ?_|refine zT1 ?_))
    refine w_loop (α := {j : Nat // k ≤ j ∧ j ≤ m}) (fun j => st 38 (lk [(3,.own 0 0 m 4),(5,i64 j.1)]) (lkH [(0,⟨47,qc L,false⟩)]) 1) (fun j => j.1) ⟨m,by omega,Nat.le_refl _⟩ ?_ ?_
    ·(refine Sub.heapL [0] rfl (by decide) ?_ (by simp only [smL];decide) ?_ ?_;all_goals (first|(simp only [plainC,smF,dg,renL,renLs,simprocAttr,bl,i64,smT];done) | (simp only [smF,dg,renL,renLs,simprocAttr,bl,i64,smT];(repeat' apply And.intro);all_goals rfl) | (simp only [smF,dg,renL,renLs,simprocAttr,bl,i64,smT]) | skip))
     all_goals (first | done | simp)
    ·rintro ⟨j,hj1,hj2⟩
     simp only [st]
     rcases j with _ | j
     ·obtain rfl : k = 0 := by omega
      (repeat(first|refine zW ?_|refine zG1 ?_|refine zD1 ?_|refine zT1 ?_))
      refine l_cskip rfl (by decide) rfl ?_
      (repeat(first|refine zW ?_|refine zG1 ?_|refine zD1 ?_|refine zT1 ?_))
      ((apply n_ret;(case hres => (simp only [smR];simp (disch := first|omega|exact kD rfl|exact kX rfl) only [smY,simprocAttr,bl,i64,smT];exact rfl));(case h0 => (simp only [smF,dg,renL,renLs,simprocAttr,bl,i64,smT];exact rfl));(case hf => rfl));try rfl)
     ·have g3 := rqsign_good (L.getD j 0) (by have := hf j (by omega);omega)
      have e3 : ((j + 1 : Nat) : Int) - 1 = (j : Int) := by omega
      have hqc : (qc L).length = m * 4 := by rw [qc_len,hlen]
      by_cases hjk : k = j + 1
      ·have hnz : ¬ (L.getD j 0).num.sign = 0 := fun e => by
        have := hk2 (by omega)
        rw [hjk,Nat.add_sub_cancel] at this
        exact this (Rat.num_eq_zero.1 (Int.sign_eq_zero_iff_zero.1 e))
       subst hjk
       generalize hq : L.getD j 0 = q at *
       generalize q.num.sign = s at *
       simp only [encQ_sm,i64] at g3
       (repeat (first|refine zW ?_|((first|apply l_go rfl|apply c_dec|apply zT rfl (by decide) rfl);(case hs=>(simp (disch := first|omega|exact kD rfl|exact kX rfl) only [smY,simprocAttr,bl,i64,smT,hq,e3];exact rfl));first|refine c_bt ?_|refine c_bf ?_|refine zq ?_|(case hg=>assumption))))
       ((apply n_ret;(case hres => (simp only [smR];simp (disch := first|omega|exact kD rfl|exact kX rfl) only [smY,simprocAttr,bl,i64,smT,hq,e3];exact rfl));(case h0 => (simp only [smF,dg,renL,renLs,simprocAttr,bl,i64,smT,hq,e3];exact rfl));(case hf => rfl));try rfl)
      ·have hz : (L.getD j 0).num.sign = 0 := by
        rw [hk1 j (by omega)]
        rfl
       rw [hz] at g3
       generalize hq : L.getD j 0 = q at *
       simp only [encQ_sm,i64] at g3
       (repeat (first|refine zW ?_|((first|apply l_go rfl|apply c_dec|apply zT rfl (by decide) rfl);(case hs=>(simp (disch := first|omega|exact kD rfl|exact kX rfl) only [smY,simprocAttr,bl,i64,smT,hq,e3];exact rfl));first|refine c_bt ?_|refine c_bf ?_|refine zq ?_|(case hg=>assumption))))
       refine ⟨⟨j,by omega,by omega⟩,?_,by simp only;omega⟩
       (refine Sub.heapL [0] rfl (by decide) ?_ (by simp only [smL];decide) ?_ ?_;all_goals (first|(simp only [plainC,smF,dg,renL,renLs,simprocAttr,bl,i64,smT];done) | (simp only [smF,dg,renL,renLs,simprocAttr,bl,i64,smT];(repeat' apply And.intro);all_goals rfl) | (simp only [smF,dg,renL,renLs,simprocAttr,bl,i64,smT]) | skip))
       all_goals (first | done | simp)
end Go.Proofs.YtaidcaemdkncgaaGreatDoor