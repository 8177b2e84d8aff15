/- Contracts of functions of the program, and what proves them (texts: X3 X4 X5 X7 X8 NumY M2 PR). -/
import Derived.Test.YtbajpjjbaffnnaaGreatZBC
import Derived.Test.YtbajpjjbaffnnaaGreatZBJ
import Derived.Test.YtbajpjjbaffnnaaGreatZBQ
import Derived.Test.YtbajpjjbaffnnaaGreatZBR
import Derived.Test.YtbajpjjbaffnnaaGreatZCA
import Derived.Test.YtbajpjjbaffnnaaGreatZCC
import Derived.Test.YtbajpjjbaffnnaaGreatZCD
import Derived.Test.YtbajpjjbaffnnaaGreatZCE
import Derived.Test.YtbajpjjbaffnnaaGreatZCF
set_option linter.all false
namespace Go.Proofs.YtbajpjjbaffnnaaGreat
open Go Go.Lg Go.Num
set_option maxRecDepth 100000
set_option maxHeartbeats 8000000
attribute [local irreducible] Go.Lg.lrun Go.Lg.lwp Go.Lg.exThen Go.Lg.exBlk Go.Lg.keep Go.Lg.goodPost sg mg sS qs sv svM spM oc mC dc
end Go.Proofs.YtbajpjjbaffnnaaGreat
namespace Go.Proofs.YtbajpjjbaffnnaaGreat
open Go Go.Lg Go.Num
set_option maxRecDepth 100000
set_option maxHeartbeats 8000000
attribute [local irreducible] Go.Lg.lrun Go.Lg.lwp Go.Lg.exThen Go.Lg.exBlk Go.Lg.keep Go.Lg.goodPost sg mg sS qs sv svM spM oc mC dc
theorem rzero_good (q : Rat) (hq : lq q ≤ 1000) (h : q.num ≠ 0) : PureGood Tryz.prog 113 [encQ q] (bl false) := by
 have r1 := rqnorm_good q (by omega)
 have hl : (digs q.num.natAbs).length ≠ 0 := by
  intro e
  have h2 := digs_eq_nil.1 (List.eq_nil_of_length_eq_zero e)
  omega
 have hl2 : (digs q.num.natAbs).length ≤ 1000 := by unfold lq len at hq;omega
 simp only [encQ_sm] at *
 refine good_of_lwp mix Tryz.func113 rfl (by decide) (nt := 9) rfl (rs := [.tmp 2]) rfl (nle rfl) ?_
 (repeat (first|apply zO (by decide +kernel)|apply zP (by decide +kernel)|(apply zS;(case h=>constructor<;>decide))|((first|apply l_go rfl|apply c_dec|apply zT rfl (by decide) rfl);(case hs=>(simp (disch := first|omega|exact kD rfl|exact kX rfl) only [smY,simprocAttr,bl,i64,smT,lenL_mg];exact rfl));first|refine c_bt ?_|refine c_bf ?_|refine zq ?_|(case hg=>assumption))))
 ((first|apply g_ret|apply g_end);case hres => (simp only [smR];simp (disch := first|omega|exact kD rfl|exact kX rfl) only [smY,simprocAttr,bl,i64,smT,lenL_mg];exact rfl))
 simp (disch := first|omega|exact kD rfl|exact kX rfl) only [smY,simprocAttr,bl,i64,smT,lenL_mg]
end Go.Proofs.YtbajpjjbaffnnaaGreat
namespace Go.Proofs.YtbajpjjbaffnnaaGreat
open Go Go.Lg Go.Num
set_option maxRecDepth 100000
set_option maxHeartbeats 8000000
attribute [local irreducible] Go.Lg.lrun Go.Lg.lwp Go.Lg.exThen Go.Lg.exBlk Go.Lg.keep Go.Lg.goodPost sg mg sS qs sv svM spM oc mC dc
end Go.Proofs.YtbajpjjbaffnnaaGreat
namespace Go.Proofs.YtbajpjjbaffnnaaGreat
open Go Go.Lg Go.Num
set_option maxRecDepth 100000
set_option maxHeartbeats 8000000
attribute [local irreducible] Go.Lg.lrun Go.Lg.lwp Go.Lg.exThen Go.Lg.exBlk Go.Lg.keep Go.Lg.goodPost sg mg sS qs sv svM spM oc mC dc ec psum etaM etaK etaC
end Go.Proofs.YtbajpjjbaffnnaaGreat
namespace Go.Proofs.YtbajpjjbaffnnaaGreat
open Go Go.Lg Go.Num
set_option maxRecDepth 100000
set_option maxHeartbeats 8000000
attribute [local irreducible] Go.Lg.lrun Go.Lg.lwp Go.Lg.exThen Go.Lg.exBlk Go.Lg.keep Go.Lg.goodPost sg mg sS qs sv svM spM oc mC dc ec psum etaM etaK etaC
theorem sameSeries_good (f : Int) (hf : -9223372036854775808 ≤ f ∧ f ≤ 9223372036854775807) (l : List Rat) (hl : l.length ≤ 1000000) (hb : ∀ q ∈ l,lq q ≤ 100000) : PureGood Tryz.prog 17 [.agg [i64 f,.sl l.length (qc l)],.agg [i64 f,.sl l.length (qc l)]] (.lit (.bool true)) := by
 have g := sameRats_self l hb (by omega)
 rw [encF_qc] at g
 refine good_of_lwp mix Tryz.func17 rfl (by decide) (nt := 17) rfl (rs := [.tmp 4]) rfl (nle rfl) ?_
 (repeat (first|apply zO (by decide +kernel)|apply zP (by decide +kernel)|(apply zS;(case h=>constructor<;>decide))|((first|apply l_go rfl|apply c_dec|apply zT rfl (by decide) rfl);(case hs=>(simp (disch := first|omega|exact kD rfl|exact kX rfl) only [smY,simprocAttr,bl,i64,smT,smE];exact rfl));first|refine c_bt ?_|refine c_bf ?_|refine zq ?_|(case hg=>assumption))))
 ((first|apply g_ret|apply g_end);case hres => (simp only [smR];simp (disch := first|omega|exact kD rfl|exact kX rfl) only [smY,simprocAttr,bl,i64,smT,smE];exact rfl))
 simp (disch := first|omega|exact kD rfl|exact kX rfl) only [smY,simprocAttr,bl,i64,smT,smE]
theorem rFirst_good (lv : Int) (xs : List Int) (hlv : -9223372036854775808 ≤ lv ∧ lv ≤ 9223372036854775807) (hl : xs.length ≤ 1000000) : PureGood Tryz.prog 14 [.agg [i64 lv, .sl xs.length (ec xs)]]
  (.tup [i64 (if etaErr lv xs = 0 ∧ psum (exL lv.toNat xs) xs.length % 24 = 0 then psum (exL lv.toNat xs) xs.length / 24 else 0),i64 (if etaErr lv xs = 0 then (if psum (exL lv.toNat xs) xs.length % 24 = 0 then 0 else 6) else etaErr lv xs)]) := by
 have g0 := rcheck_good lv xs hlv hl
 by_cases h : etaErr lv xs = 0
 ·obtain ⟨n,rfl,ok⟩ := etaOk_of h
  rw [h] at g0
  rw [if_pos h,Int.toNat_natCast]
  have n1 := ok.n1
  have n2 := ok.n2
  have g1 := rsum1_good ok
  have b0 := ok.s1 (Nat.le_refl xs.length)
  have ht := tmod_iff (psum (exL n xs) xs.length) 24
  by_cases h4 : psum (exL n xs) xs.length % 24 = 0
  ·rw [if_pos ⟨h,h4⟩,if_pos h4]
   have t1 := ht.2 h4
   have t2 : (psum (exL n xs) xs.length).tdiv 24 = psum (exL n xs) xs.length / 24 := Int.tdiv_eq_ediv_of_dvd (Int.dvd_of_emod_eq_zero h4)
   clear ht
   generalize psum (exL n xs) xs.length = s1 at *
   have b1 : -2880000 ≤ s1 / 24 ∧ s1 / 24 ≤ 2880000 := by omega
   clear h4
   generalize s1 / 24 = h at *
   simp only [i64] at *
   refine good_of_lwp mix Tryz.func14 rfl (by decide) (nt := 17) rfl (rs := [.tmp 2,.tmp 3]) rfl (nle rfl) ?_
   (repeat (first|apply zO (by decide +kernel)|apply zP (by decide +kernel)|(apply zS;(case h=>constructor<;>decide))|((first|apply l_go rfl|apply c_dec|apply zT rfl (by decide) rfl);(case hs=>(simp (disch := first|omega|exact kD rfl|exact kX rfl) only [smY,simprocAttr,bl,i64,smT,smE,t1,t2];exact rfl));first|refine c_bt ?_|refine c_bf ?_|refine zq ?_|(case hg=>assumption))))
   ((first|apply g_ret|apply g_end);case hres => (simp only [smR];simp (disch := first|omega|exact kD rfl|exact kX rfl) only [smY,simprocAttr,bl,i64,smT,smE,t1,t2];exact rfl))
   simp (disch := first|omega|exact kD rfl|exact kX rfl) only [smY,simprocAttr,bl,i64,smT,smE,t1,t2]
  ·rw [if_neg (fun e => h4 e.2),if_neg h4]
   have t1 : ¬ (psum (exL n xs) xs.length).tmod 24 = 0 := fun e => h4 (ht.1 e)
   clear ht
   generalize psum (exL n xs) xs.length = s1 at *
   simp only [i64] at *
   refine good_of_lwp mix Tryz.func14 rfl (by decide) (nt := 17) rfl (rs := [.tmp 2,.tmp 3]) rfl (nle rfl) ?_
   (repeat (first|apply zO (by decide +kernel)|apply zP (by decide +kernel)|(apply zS;(case h=>constructor<;>decide))|((first|apply l_go rfl|apply c_dec|apply zT rfl (by decide) rfl);(case hs=>(simp (disch := first|omega|exact kD rfl|exact kX rfl) only [smY,simprocAttr,bl,i64,smT,smE];exact rfl));first|refine c_bt ?_|refine c_bf ?_|refine zq ?_|(case hg=>assumption))))
   ((first|apply g_ret|apply g_end);case hres => (simp only [smR];simp (disch := first|omega|exact kD rfl|exact kX rfl) only [smY,simprocAttr,bl,i64,smT,smE];exact rfl))
   simp (disch := first|omega|exact kD rfl|exact kX rfl) only [smY,simprocAttr,bl,i64,smT,smE]
 ·rw [if_neg h,if_neg (fun e => h e.1)]
  generalize etaErr lv xs = er at *
  simp only [i64] at *
  refine good_of_lwp mix Tryz.func14 rfl (by decide) (nt := 17) rfl (rs := [.tmp 2,.tmp 3]) rfl (nle rfl) ?_
  (repeat (first|apply zO (by decide +kernel)|apply zP (by decide +kernel)|(apply zS;(case h=>constructor<;>decide))|((first|apply l_go rfl|apply c_dec|apply zT rfl (by decide) rfl);(case hs=>(simp (disch := first|omega|exact kD rfl|exact kX rfl) only [smY,simprocAttr,bl,i64,smT,smE];exact rfl));first|refine c_bt ?_|refine c_bf ?_|refine zq ?_|(case hg=>assumption))))
  ((first|apply g_ret|apply g_end);case hres => (simp only [smR];simp (disch := first|omega|exact kD rfl|exact kX rfl) only [smY,simprocAttr,bl,i64,smT,smE];exact rfl))
  simp (disch := first|omega|exact kD rfl|exact kX rfl) only [smY,simprocAttr,bl,i64,smT,smE]
end Go.Proofs.YtbajpjjbaffnnaaGreat
namespace Go.Num
def rsum (f : Nat → Rat) : Nat → Rat
 | 0 => 0
 | n + 1 => rsum f n + f n
theorem rsum_zero (f : Nat → Rat) : rsum f 0 = 0 := rfl
theorem rsum_succ (f : Nat → Rat) (n : Nat) : rsum f (n + 1) = rsum f n + f n := rfl
theorem rsum_congr {f g : Nat → Rat} : ∀ {n : Nat},(∀ i,i < n → f i = g i) → rsum f n = rsum g n
 | 0,_ => rfl
 | n + 1,h => by rw [rsum,rsum,rsum_congr (n := n) (fun k hk => h k (by omega)),h n (by omega)]
theorem rsum_add (f g : Nat → Rat) : ∀ n,rsum (fun i => f i + g i) n = rsum f n + rsum g n
 | 0 => (Rat.add_zero 0).symm
 | n + 1 => by
   rw [rsum,rsum,rsum,rsum_add f g n,Rat.add_assoc,Rat.add_assoc,← Rat.add_assoc (rsum g n),Rat.add_comm (rsum g n),Rat.add_assoc]
theorem rsum_mul (c : Rat) (f : Nat → Rat) : ∀ n,rsum (fun i => c * f i) n = c * rsum f n
 | 0 => (Rat.mul_zero c).symm
 | n + 1 => by rw [rsum,rsum,rsum_mul c f n,Rat.mul_add]
theorem rsum_exch (G : Nat → Nat → Rat) : ∀ m,rsum (fun i => rsum (fun k => G k (i - 1 - k)) i) (m + 1) = rsum (fun k => rsum (G k) (m - k)) m
 | 0 => Rat.add_zero 0
 | m + 1 => by
   rw [rsum_succ _ (m + 1),rsum_exch G m]
   have e : rsum (fun k => rsum (G k) (m + 1 - k)) (m + 1) = rsum (fun k => rsum (G k) (m - k) + G k (m - k)) (m + 1) := rsum_congr (fun k hk => by
     rw [show m + 1 - k = m - k + 1 by omega,rsum_succ])
   rw [e,rsum_add,rsum_succ (fun k => rsum (G k) (m - k)) m,Nat.sub_self,rsum_zero,Rat.add_zero]
   rfl
theorem rsum_first (f : Nat → Rat) : ∀ n,rsum f (n + 1) = f 0 + rsum (fun i => f (i + 1)) n
 | 0 => by rw [rsum,rsum,rsum,Rat.add_comm]
 | n + 1 => by rw [rsum_succ f (n + 1),rsum_first f n,rsum_succ _ n,Rat.add_assoc]
theorem rsum_rev (f : Nat → Rat) : ∀ n,rsum f (n + 1) = rsum (fun i => f (n - i)) (n + 1)
 | 0 => rfl
 | n + 1 => by
   rw [rsum_first (fun i => f (n + 1 - i)) (n + 1),rsum_succ f (n + 1),rsum_rev f n,Rat.add_comm]
   simp only [Nat.sub_zero,Nat.add_sub_add_right]
def cvR (a b : Nat → Rat) (n i : Nat) : Rat := rsum (fun j => a j * b (n - j)) i
theorem cvR_zero (a b : Nat → Rat) (n : Nat) : cvR a b n 0 = 0 := rfl
theorem cvR_succ (a b : Nat → Rat) (n i : Nat) : cvR a b n (i + 1) = cvR a b n i + a i * b (n - i) := rfl
def cvA (a b : Nat → Rat) (n : Nat) : Rat := cvR a b n (n + 1)
theorem cvA_comm (a b : Nat → Rat) (n : Nat) : cvA a b n = cvA b a n := by
 unfold cvA cvR
 rw [rsum_rev]
 refine rsum_congr (fun i hi => ?_)
 rw [show n - (n - i) = i by omega,Rat.mul_comm]
theorem qs_rsum (s : Nat → Int) (a : Nat → Rat) (n : Nat) : ∀ i,qs s a n i = rsum (fun k => (s (k + 1) : Rat) * a (n - 1 - k)) i
 | 0 => rfl
 | i + 1 => by rw [qs,rsum,qs_rsum s a n i]
structure RecA (s : Nat → Int) (a : Nat → Rat) : Prop where
 z : a 0 = 1
 step : ∀ n : Nat,((n : Int) : Rat) * a n = -(qs s a n n)
theorem natR_ne {n : Nat} (h : n ≠ 0) : ((n : Int) : Rat) ≠ 0 := fun e => h (by
 have := Rat.intCast_inj.1 (e.trans Rat.intCast_zero.symm)
 omega)
theorem mul_div_same {x q : Rat} (h : x ≠ 0) : x * (q / x) = q := by
 rw [Rat.div_def,Rat.mul_comm q,← Rat.mul_assoc,Rat.mul_inv_cancel x h,Rat.one_mul]
theorem rec_aQ (s : Nat → Int) : RecA s (aQ s) := by
 refine ⟨by rw [aQ,aL,fac];rfl,fun n => ?_⟩
 cases n with
 | zero => rw [qs_zero];exact Rat.zero_mul _
 | succ n => rw [aQ_step,mul_div_same (natR_ne (by omega))]
theorem rec_half {s : Nat → Int} {a : Nat → Rat} (b : Nat → Rat) (h : RecA s a) (n : Nat) : rsum (fun i => (((i : Nat) : Int) : Rat) * a i * b (n - i)) (n + 1) = -(qs s (cvA a b) n n) := by
 have e1 : rsum (fun i => (((i : Nat) : Int) : Rat) * a i * b (n - i)) (n + 1) = rsum (fun i => rsum (fun k => (fun k j => -1 * (s (k + 1) : Rat) * (a j * b (n - (j + k + 1)))) k (i - 1 - k)) i) (n + 1) := by
  refine rsum_congr (fun i hi => ?_)
  rw [h.step,qs_rsum]
  have e : ∀ x y : Rat,-x * y = (-1 * y) * x := fun x y => by rw [Rat.neg_mul,Rat.neg_mul,Rat.neg_mul,Rat.one_mul,Rat.mul_comm]
  rw [e,← rsum_mul]
  refine rsum_congr (fun k hk => ?_)
  simp only
  rw [show i - 1 - k + k + 1 = i by omega,Rat.mul_assoc,Rat.mul_assoc,Rat.mul_comm (b (n - i)),Rat.mul_assoc]
 rw [e1,rsum_exch (fun k j => -1 * (s (k + 1) : Rat) * (a j * b (n - (j + k + 1)))) n,qs_rsum]
 have e2 : ∀ x : Rat,-x = -1 * x := fun x => by rw [Rat.neg_mul,Rat.one_mul]
 rw [e2 (rsum (fun k => (s (k + 1) : Rat) * cvA a b (n - 1 - k)) n),← rsum_mul]
 refine rsum_congr (fun k hk => ?_)
 rw [rsum_mul,Rat.mul_assoc]
 unfold cvA cvR
 rw [show n - 1 - k + 1 = n - k by omega]
 congr 2
 refine rsum_congr (fun j hj => ?_)
 rw [show n - (j + k + 1) = n - 1 - k - j by omega]
theorem qs_addS (s t : Nat → Int) (a : Nat → Rat) (n : Nat) : ∀ i,qs (fun k => s k + t k) a n i = qs s a n i + qs t a n i
 | 0 => (Rat.add_zero 0).symm
 | i + 1 => by
   rw [qs,qs,qs,qs_addS s t a n i,Rat.intCast_add,Rat.add_mul,Rat.add_assoc,Rat.add_assoc,← Rat.add_assoc (qs t a n i),Rat.add_comm (qs t a n i),Rat.add_assoc]
theorem qs_congr {s : Nat → Int} {a b : Nat → Rat} {n : Nat} (h : ∀ j,j < n → a j = b j) : ∀ i,i ≤ n → qs s a n i = qs s b n i
 | 0,_ => rfl
 | i + 1,hi => by rw [qs,qs,qs_congr h i (by omega),h (n - 1 - i) (by omega)]
theorem rec_prod {s t : Nat → Int} {a b : Nat → Rat} (ha : RecA s a) (hb : RecA t b) : RecA (fun k => s k + t k) (cvA a b) := by
 refine ⟨?_,fun n => ?_⟩
 ·unfold cvA
  rw [cvR_succ,cvR_zero,ha.z,hb.z,Rat.zero_add,Rat.mul_one]
 ·have h1 := rec_half b ha n
  have h2 := rec_half a hb n
  rw [rsum_rev] at h2
  have e : rsum (fun i => (((i : Nat) : Int) : Rat) * a i * b (n - i)) (n + 1) + rsum (fun i => (fun i => (((i : Nat) : Int) : Rat) * b i * a (n - i)) (n - i)) (n + 1) = ((n : Int) : Rat) * cvA a b n := by
   rw [← rsum_add]
   unfold cvA cvR
   rw [← rsum_mul]
   refine rsum_congr (fun i hi => ?_)
   simp only
   rw [show n - (n - i) = i by omega,Rat.mul_assoc,Rat.mul_assoc,Rat.mul_comm (b (n - i)),← Rat.add_mul,← Rat.intCast_add]
   congr 2
   omega
  rw [← e,h1,h2,qs_addS,Rat.neg_add]
  congr 2
  exact qs_congr (fun j _ => cvA_comm b a j) n (Nat.le_refl _)
theorem rec_unique {s : Nat → Int} {a b : Nat → Rat} (ha : RecA s a) (hb : RecA s b) : ∀ n m,m ≤ n → a m = b m
 | 0,m,hm => by
   obtain rfl : m = 0 := by omega
   rw [ha.z,hb.z]
 | n + 1,m,hm => by
   have ih := rec_unique ha hb n
   rcases Nat.lt_or_ge n m with h2 | h2
   · obtain rfl : m = n + 1 := by omega
     have h1 := ha.step (n + 1)
     have h3 := hb.step (n + 1)
     rw [qs_congr (b := b) (fun j hj => ih j (by omega)) (n + 1) (Nat.le_refl _),← h3] at h1
     have hn := natR_ne (n := n + 1) (by omega)
     have e : ∀ y : Rat,(((n + 1 : Nat) : Int) : Rat)⁻¹ * ((((n + 1 : Nat) : Int) : Rat) * y) = y := fun y => by
       rw [← Rat.mul_assoc,Rat.inv_mul_cancel _ hn,Rat.one_mul]
     rw [← e (a (n + 1)),h1,e]
   · exact ih m h2
theorem aQ_prod (s t : Nat → Int) (n : Nat) : cvA (aQ s) (aQ t) n = aQ (fun k => s k + t k) n :=
 rec_unique (rec_prod (rec_aQ s) (rec_aQ t)) (rec_aQ _) n n (Nat.le_refl _)
theorem lq_cvR {a b : Nat → Rat} {n : Nat} (ha : ∀ i,i ≤ n → lq (a i) ≤ 100) (hb : ∀ i,i ≤ n → lq (b i) ≤ 100) : ∀ i,i ≤ n + 1 → lq (cvR a b n i) + 401 ≤ 402 * 2 ^ i
 | 0,_ => by rw [cvR_zero];decide +kernel
 | i + 1,hi => by
   have h1 := lq_cvR ha hb i (by omega)
   have h2 := lq_mul (a i) (b (n - i))
   have h3 := lq_add (cvR a b n i) (a i * b (n - i))
   have h4 := ha i (by omega)
   have h5 := hb (n - i) (by omega)
   rw [cvR_succ,Nat.pow_succ]
   omega
theorem lq_cvR' {a b : Nat → Rat} {n : Nat} (hn : n ≤ 23) (ha : ∀ i,i ≤ n → lq (a i) ≤ 100) (hb : ∀ i,i ≤ n → lq (b i) ≤ 100) {i : Nat} (hi : i ≤ n + 1) : lq (cvR a b n i) ≤ 8000000000 := by
 have h1 := lq_cvR ha hb i hi
 have h2 : 2 ^ i ≤ 2 ^ 24 := Nat.pow_le_pow_right (by decide) (by omega)
 have h3 : (2 : Nat) ^ 24 = 16777216 := by decide
 omega
theorem psum_adZ {A B : List Int} (h : A.length = B.length) (w : Nat → Int) (n : Nat) : psum (fun j => w j * (adZ A B).getD j 0) n = psum (fun j => w j * A.getD j 0) n + psum (fun j => w j * B.getD j 0) n := by
 rw [← psum_add]
 exact psum_congr (fun j _ => by rw [adZ_get h,Int.mul_add])
theorem s1_adZ {L : Nat} {A B : List Int} (h : A.length = B.length) (n : Nat) : psum (exL L (adZ A B)) n = psum (exL L A) n + psum (exL L B) n := psum_adZ h (fun j => (divL L).getD j 0) n
theorem ordQ_adZ {L : Nat} {A B : List Int} (h : A.length = B.length) (d n : Nat) : ordQ L (adZ A B) d n = ordQ L A d n + ordQ L B d n := by
 unfold ordQ
 have e : psum (oA L d (adZ A B)) n = psum (oA L d A) n + 1 * psum (oA L d B) n := by
  rw [Int.one_mul]
  exact psum_adZ h (fun j => ((wA L d ((divN L).getD j 0) : Nat) : Int)) n
 rw [e,divInt_lin,Rat.intCast_one,Rat.one_mul]
theorem sv_adZ {A B : List Int} (h : A.length = B.length) (d : Nat → Nat) (k i : Nat) : sv d (exS (adZ A B)) k i = sv d (exS A) k i + sv d (exS B) k i := by
 unfold sv
 rw [← psum_add]
 refine psum_congr (fun j _ => ?_)
 unfold svS exS
 rw [adZ_get h]
 split <;> simp
theorem etaC_adZ {L : Nat} {A B : List Int} (h : A.length = B.length) (N : Nat) : etaC L (adZ A B) N = adZ (etaC L A N) (etaC L B N) := by
 have hl : (etaC L A N).length = (etaC L B N).length := by rw [etaC_len,etaC_len]
 refine List.ext_getElem (by rw [adZ_len hl,etaC_len,etaC_len]) (fun i h1 h2 => ?_)
 rw [etaC_len] at h1
 rw [getD_elem,getD_elem,adZ_get hl,etaC_get h1,etaC_get h1,etaC_get h1,adZ_len h,← h,sv_adZ h]
theorem sS_adZ {c d : List Int} (h : c.length = d.length) : sS (adZ c d) = fun n => sS c n + sS d n := by
 funext n
 unfold sS
 rw [adZ_len h,← h]
 unfold sv
 rw [← psum_add]
 refine psum_congr (fun j _ => ?_)
 unfold svS dc
 rw [adZ_get h]
 split
 ·rw [Int.mul_add]
 ·simp
theorem eta_prod {L : Nat} {A B : List Int} (h : A.length = B.length) (N n : Nat) : cvA (aQ (sS (etaC L A N))) (aQ (sS (etaC L B N))) n = aQ (sS (etaC L (adZ A B) N)) n := by
 rw [etaC_adZ h,sS_adZ (by rw [etaC_len,etaC_len]),aQ_prod]
theorem adZ_ok {L : Nat} {A B : List Int} (hA : EtaOk L A) (hB : EtaOk L B) (h : ∀ x ∈ adZ A B,-200 ≤ x ∧ x ≤ 200) : EtaOk L (adZ A B) :=
 ⟨hA.n1,hA.n2,by rw [adZ_len (hA.len.trans hB.len.symm)];exact hA.len,h⟩
theorem aQ_lq {n : Nat} {xs : List Int} (h : EtaOk n xs) {N : Nat} (hN : N ≤ 60) {i : Nat} (hi : i ≤ 60) : lq (aQ (sS (etaC n xs N)) i) ≤ 100 := by
 have hl := etaC_len n xs N
 have hc0 : ∀ j,j < (etaC n xs N).length → -4800 ≤ (etaC n xs N).getD j 0 ∧ (etaC n xs N).getD j 0 ≤ 4800 := fun j _ => etaC_getD_bd h N j
 have hs : ∀ i,1 ≤ i → i ≤ 60 → (sS (etaC n xs N) i).natAbs ≤ 17280000 := by
  intro i _ _
  have := sv_bd (d := fun j => j + 1) (x := dc (etaC n xs N)) (B := 288000) (k := (etaC n xs N).length) (by omega) (fun j hj => mul_bd (A := 60) (B := 4800) (by omega) (hc0 j hj)) i (etaC n xs N).length (Nat.le_refl _)
  unfold sS
  omega
 have h1 := aL_bd hs i hi i (Nat.le_refl _)
 have h2 := len_at (e := 57) (bd_60 h1 hi hi (by decide))
 obtain ⟨h3,h4⟩ := lq_divInt (n := (aL (sS (etaC n xs N)) i).getD i 0) (facI_ne i)
 have h5 := len_fac hi
 unfold lq aQ
 omega
end Go.Num
namespace Go.Proofs.YtbajpjjbaffnnaaGreat
open Go Go.Lg Go.Num
set_option maxRecDepth 100000
set_option maxHeartbeats 8000000
attribute [local irreducible] Go.Lg.lrun Go.Lg.lwp Go.Lg.exThen Go.Lg.exBlk Go.Lg.keep Go.Lg.goodPost sg mg oc mC cvR cvA
theorem svalid_gen (x : Int) (M : Nat) (cs : List LV) (h1 : -100 ≤ x) (h2 : x + M ≤ 1000) : PureGood Tryz.prog 104 [.agg [i64 x,.sl M cs]] (bl true) := by
 simp only [i64,bl]
 refine good_of_lwp mix Tryz.func104 rfl (by decide) (nt := 20) rfl (rs := [.tmp 2]) rfl (nle rfl) ?_
 (repeat (first|apply zO (by decide +kernel)|apply zP (by decide +kernel)|(apply zS;(case h=>constructor<;>decide))|((first|apply l_go rfl|apply c_dec|apply zT rfl (by decide) rfl);(case hs=>(simp (disch := first|omega|exact kD rfl|exact kX rfl) only [smY,simprocAttr,bl,i64,smT,smO,smM];exact rfl));first|refine c_bt ?_|refine c_bf ?_|refine zq ?_|(case hg=>assumption))))
 ((first|apply g_ret|apply g_end);case hres => (simp only [smR];simp (disch := first|omega|exact kD rfl|exact kX rfl) only [smY,simprocAttr,bl,i64,smT,smO,smM];exact rfl))
 simp (disch := first|omega|exact kD rfl|exact kX rfl) only [smY,simprocAttr,bl,i64,smT,smO,smM]
theorem tidy_gen (h : Int) (a : Nat → Rat) (N : Nat) (h1 : -100 ≤ h) (hN : 1 ≤ N) (h2 : h + N ≤ 1000) (a0 : a 0 ≠ 0) (ba : ∀ i,i < N → lq (a i) ≤ 1000) : PureGood Tryz.prog 105 [.agg [i64 h,.sl N (qc (aP a N))]] (.agg [i64 h,.sl N (qc (aP a N))]) := by
 have g := build_gen h a N h1 hN h2 a0 ba
 have hl := aP_len a N
 simp only [i64] at *
 refine good_of_lwp mix Tryz.func105 rfl (by decide) (nt := 14) rfl (rs := [.cell 2 31]) rfl (nle rfl) ?_
 (repeat (first|apply zO (by decide +kernel)|apply zP (by decide +kernel)|(apply zS;(case h=>constructor<;>decide))|((first|apply l_go rfl|apply c_dec|apply zT rfl (by decide) rfl);(case hs=>(simp (disch := first|omega|exact kD rfl|exact kX rfl) only [smY,simprocAttr,bl,i64,smT,smO,smM];exact rfl));first|refine c_bt ?_|refine c_bf ?_|refine zq ?_|(case hg=>assumption))))
 ((first|apply g_ret|apply g_end);case hres => (simp only [smR];simp (disch := first|omega|exact kD rfl|exact kX rfl) only [smY,simprocAttr,bl,i64,smT,smO,smM];exact rfl))
 simp (disch := first|omega|exact kD rfl|exact kX rfl) only [smY,simprocAttr,bl,i64,smT,smO,smM]
theorem smulR_good (x y : Nat → Rat) (f g : Int) (N : Nat) (hN : 1 ≤ N) (hN2 : N ≤ 24) (hf : -12 ≤ f ∧ f ≤ 24) (hg : -12 ≤ g ∧ g ≤ 24) (hx : ∀ i, i < N → lq (x i) ≤ 100) (hy : ∀ i, i < N → lq (y i) ≤ 100) (x0 : x 0 = 1) (y0 : y 0 = 1) (hz : ∀ m, m < N → lq (cvA x y m) ≤ 100) :
  PureGood Tryz.prog 49 [.agg [i64 f,.sl N (qc (aP x N))],.agg [i64 g,.sl N (qc (aP y N))]] (.tup [.agg [i64 (f + g),.sl N (qc (aP (cvA x y) N))],i64 0]) := by
 have bc : ∀ m,m < N → ∀ i,i ≤ m + 1 → lq (cvR x y m i) ≤ 8000000000 := fun m hm i hi => lq_cvR' (by omega) (fun j hj => hx j (by omega)) (fun j hj => hy j (by omega)) hi
 have v1 := svalid_gen f N (qc (aP x N)) (by omega) (by omega)
 have v2 := svalid_gen g N (qc (aP y N)) (by omega) (by omega)
 have t1 := tidy_gen f x N (by omega) hN (by omega) (by rw [x0];decide) (fun i hi => Nat.le_trans (hx i hi) (by omega))
 have t2 := tidy_gen g y N (by omega) hN (by omega) (by rw [y0];decide) (fun i hi => Nat.le_trans (hy i hi) (by omega))
 have z0 : cvA x y 0 = 1 := by
  unfold cvA
  rw [cvR_succ,cvR_zero,x0,y0,Rat.zero_add,Rat.mul_one]
 have gb := build_gen (f + g) (cvA x y) N (by omega) hN (by omega) (by rw [z0];decide) (fun i hi => Nat.le_trans (hz i hi) (by omega))
 have hlx := aP_len x N
 have hly := aP_len y N
 have hlz := aP_len (cvA x y) N
 have hmn : (if 1000 - (f + g) < (if (N : Int) < (N : Int) then (N : Int) else (N : Int)) then 1000 - (f + g) else (if (N : Int) < (N : Int) then (N : Int) else (N : Int))) = (N : Int) := by
  rw [if_neg (show ¬ ((N : Int) < (N : Int)) by omega),if_neg (by omega)]
 have hmx : (if (N : Int) > 0 then (N : Int) else 0) = (N : Int) := if_pos (by omega)
 clear z0
 simp only [i64,bl] at v1 v2 t1 t2 gb ⊢
 refine good_of_lwp mix Tryz.func49 rfl (by decide) (nt := 95) rfl (rs := [.cell 4 31,.tmp 5]) rfl (nle rfl) ?_
 (repeat (first|apply zO (by decide +kernel)|apply zP (by decide +kernel)|(apply zS;(case h=>constructor<;>decide))|((first|apply l_go rfl|apply c_dec|apply zT rfl (by decide) rfl);(case hs=>(simp (disch := first|omega|exact kD rfl|exact kX rfl) only [smY,simprocAttr,bl,i64,smT,smO,smM,hmn,hmx];exact rfl));first|refine c_bt ?_|refine c_bf ?_|refine zq ?_|(case hg=>assumption))))
 refine w_loop (α := {m : Nat // m ≤ N}) (fun m => st 95 (lk [(2,.ptr 0 0),(3,.ptr 1 0),(4,.ptr 2 0),(6,i64 (f + g)),(8,.own 3 0 m.1 4),(42,i64 N),(43,i64 m.1)]) (lkH [(0,⟨31,[i64 f,.sl N (qc (aP x N))],false⟩),(1,⟨31,[i64 g,.sl N (qc (aP y N))],false⟩),(2,⟨31,[i64 0,nilL],false⟩),(3,⟨46,mC (cvA x y) N m.1,false⟩)]) 4) (fun m => N - m.1) ⟨0,by omega⟩ ?_ ?_
 ·-- X: bl,i64,smT,smO,smM,mC_zero (cvA x y)
  (refine Sub.heapL [0,1,2,36] rfl (by decide) ?_ (by simp only [smL];decide) ?_ ?_;all_goals (first|(simp only [plainC,smF,dg,renL,renLs,simprocAttr,bl,i64,smT,smO,smM];done) | (simp only [smF,dg,renL,renLs,simprocAttr,bl,i64,smT,smO,smM];(repeat' apply And.intro);all_goals rfl) | (simp only [smF,dg,renL,renLs,simprocAttr,bl,i64,smT,smO,smM]) | skip))
  all_goals (first | done | ((repeat' apply And.intro);all_goals (first | trivial | rfl | (rw [mC_zero (cvA x y)]))))
 ·-- X: bl,i64,smT,smO,smM
  rintro ⟨m,hm⟩
  simp only [st]
  have hlm := aP_len (cvA x y) m
  by_cases hlt : m < N
  ·have r0 := qof_good 0 (by omega)
   rw [show ((0 : Int) : Rat) = cvR x y m 0 from Rat.intCast_zero.trans (cvR_zero x y m).symm] at r0
   simp only [encQ_sm,i64] at r0
   (repeat (first|apply zO (by decide +kernel)|apply zP (by decide +kernel)|(apply zS;(case h=>constructor<;>decide))|((first|apply l_go rfl|apply c_dec|apply zT rfl (by decide) rfl);(case hs=>(simp (disch := first|omega|exact kD rfl|exact kX rfl) only [smY,simprocAttr,bl,i64,smT,smO,smM];exact rfl));first|refine c_bt ?_|refine c_bf ?_|refine zq ?_|(case hg=>assumption))))
   refine w_loop (α := {i : Nat // i ≤ m + 1}) (fun i => st 95 (lk [(2,.ptr 0 0),(3,.ptr 1 0),(4,.ptr 2 0),(6,i64 (f + g)),(8,.own 3 0 m 4),(9,i64 m),(10,.ptr 4 0),(11,i64 i.1),(42,i64 N),(43,i64 m)]) (lkH [(0,⟨31,[i64 f,.sl N (qc (aP x N))],false⟩),(1,⟨31,[i64 g,.sl N (qc (aP y N))],false⟩),(2,⟨31,[i64 0,nilL],false⟩),(3,⟨46,mC (cvA x y) N m,false⟩),(4,⟨46,[sg (cvR x y m i.1).num,mg (cvR x y m i.1).num,sg ((cvR x y m i.1).den : Int),mg ((cvR x y m i.1).den : Int)],false⟩)]) 5) (fun i => m + 1 - i.1) ⟨0,by omega⟩ ?_ ?_
   ·(refine Sub.heapL [0,1,2,3,8] rfl (by decide) ?_ (by simp only [smL];decide) ?_ ?_;all_goals (first|(simp only [plainC,smF,dg,renL,renLs,simprocAttr,bl,i64,smT,smO,smM];done) | (simp only [smF,dg,renL,renLs,simprocAttr,bl,i64,smT,smO,smM];(repeat' apply And.intro);all_goals rfl) | (simp only [smF,dg,renL,renLs,simprocAttr,bl,i64,smT,smO,smM]) | skip))
    all_goals (first | done | ((repeat' apply And.intro);all_goals (first | trivial | rfl)))
   ·rintro ⟨i,hi⟩
    simp only [st]
    by_cases hil : i ≤ m
    ·have e1 : (aP x N).getD i 0 = x i := aP_get (by omega)
     have e2 : (aP y N).getD (m - i) 0 = y (m - i) := aP_get (by omega)
     have hc : ((m : Int) - (i : Int)).toNat = m - i := by omega
     have b1 := hx i (by omega)
     have b2 := hy (m - i) (by omega)
     have b3 := bc m (by omega) i (by omega)
     have s1 := qsign_good (x i) (by omega)
     have s2 := qsign_good (y (m - i)) (by omega)
     have r1 := qmul_good (x i) (y (m - i)) (by omega) (by omega)
     have l1 := lq_mul (x i) (y (m - i))
     have r2 := qadd_good (cvR x y m i) (x i * y (m - i)) (by omega) (by omega)
     have es : cvR x y m i + x i * y (m - i) = cvR x y m (i + 1) := (cvR_succ x y m i).symm
     rw [es] at r2
     by_cases n1 : (x i).num.sign = 0
     ·have ex : cvR x y m (i + 1) = cvR x y m i := by
       rw [← es,Rat.num_eq_zero.1 (Int.sign_eq_zero_iff_zero.1 n1),Rat.zero_mul,Rat.add_zero]
      rw [n1] at s1
      clear es r1 r2 s2 n1
      generalize x i = xi at *
      generalize y (m - i) = yi at *
      simp only [encQ_sm,i64] at s1
      (repeat (first|apply zO (by decide +kernel)|apply zP (by decide +kernel)|(apply zS;(case h=>constructor<;>decide))|((first|apply l_go rfl|apply c_dec|apply zT rfl (by decide) rfl);(case hs=>(simp (disch := first|omega|exact kD rfl|exact kX rfl) only [smY,simprocAttr,bl,i64,smT,smO,smM,e1,e2,hc];exact rfl));first|refine c_bt ?_|refine c_bf ?_|refine zq ?_|(case hg=>assumption))))
      refine l_cskip rfl (by decide) rfl ?_
      (repeat (first|apply zO (by decide +kernel)|apply zP (by decide +kernel)|(apply zS;(case h=>constructor<;>decide))|((first|apply l_go rfl|apply c_dec|apply zT rfl (by decide) rfl);(case hs=>(simp (disch := first|omega|exact kD rfl|exact kX rfl) only [smY,simprocAttr,bl,i64,smT,smO,smM,e1,e2,hc];exact rfl));first|refine c_bt ?_|refine c_bf ?_|refine zq ?_|(case hg=>assumption))))
      refine ⟨⟨i + 1,by omega⟩,?_,by simp only;omega⟩
      simp only
      rw [ex]
      (refine Sub.heapL [0,1,2,3,4] rfl (by decide) ?_ (by simp only [smL];decide) ?_ ?_;all_goals (first|(simp only [plainC,smF,dg,renL,renLs,simprocAttr,bl,i64,smT,smO,smM];done) | (simp only [smF,dg,renL,renLs,simprocAttr,bl,i64,smT,smO,smM];(repeat' apply And.intro);all_goals rfl) | (simp only [smF,dg,renL,renLs,simprocAttr,bl,i64,smT,smO,smM]) | skip))
      all_goals (first | done | ((repeat' apply And.intro);all_goals (first | trivial | rfl)))
     ·by_cases n2 : (y (m - i)).num.sign = 0
      ·have ex : cvR x y m (i + 1) = cvR x y m i := by
        rw [← es,Rat.num_eq_zero.1 (Int.sign_eq_zero_iff_zero.1 n2),Rat.mul_zero,Rat.add_zero]
       rw [n2] at s2
       clear es r1 r2 n2
       generalize (x i).num.sign = sg1 at *
       generalize x i = xi at *
       generalize y (m - i) = yi at *
       simp only [encQ_sm,i64] at s1 s2
       (repeat (first|apply zO (by decide +kernel)|apply zP (by decide +kernel)|(apply zS;(case h=>constructor<;>decide))|((first|apply l_go rfl|apply c_dec|apply zT rfl (by decide) rfl);(case hs=>(simp (disch := first|omega|exact kD rfl|exact kX rfl) only [smY,simprocAttr,bl,i64,smT,smO,smM,e1,e2,hc];exact rfl));first|refine c_bt ?_|refine c_bf ?_|refine zq ?_|(case hg=>assumption))))
       refine ⟨⟨i + 1,by omega⟩,?_,by simp only;omega⟩
       simp only
       rw [ex]
       (refine Sub.heapL [0,1,2,3,4] rfl (by decide) ?_ (by simp only [smL];decide) ?_ ?_;all_goals (first|(simp only [plainC,smF,dg,renL,renLs,simprocAttr,bl,i64,smT,smO,smM];done) | (simp only [smF,dg,renL,renLs,simprocAttr,bl,i64,smT,smO,smM];(repeat' apply And.intro);all_goals rfl) | (simp only [smF,dg,renL,renLs,simprocAttr,bl,i64,smT,smO,smM]) | skip))
       all_goals (first | done | ((repeat' apply And.intro);all_goals (first | trivial | rfl)))
      ·clear es
       generalize (x i).num.sign = sg1 at *
       generalize (y (m - i)).num.sign = sg2 at *
       generalize x i * y (m - i) = pr at *
       generalize x i = xi at *
       generalize y (m - i) = yi at *
       simp only [encQ_sm,i64] at s1 s2 r1 r2
       (repeat (first|apply zO (by decide +kernel)|apply zP (by decide +kernel)|(apply zS;(case h=>constructor<;>decide))|((first|apply l_go rfl|apply c_dec|apply zT rfl (by decide) rfl);(case hs=>(simp (disch := first|omega|exact kD rfl|exact kX rfl) only [smY,simprocAttr,bl,i64,smT,smO,smM,e1,e2,hc];exact rfl));first|refine c_bt ?_|refine c_bf ?_|refine zq ?_|(case hg=>assumption))))
       refine ⟨⟨i + 1,by omega⟩,?_,by simp only;omega⟩
       (refine Sub.heapL [0,1,2,3,4] rfl (by decide) ?_ (by simp only [smL];decide) ?_ ?_;all_goals (first|(simp only [plainC,smF,dg,renL,renLs,simprocAttr,bl,i64,smT,smO,smM];done) | (simp only [smF,dg,renL,renLs,simprocAttr,bl,i64,smT,smO,smM];(repeat' apply And.intro);all_goals rfl) | (simp only [smF,dg,renL,renLs,simprocAttr,bl,i64,smT,smO,smM]) | skip))
       all_goals (first | done | ((repeat' apply And.intro);all_goals (first | trivial | rfl)))
    ·obtain rfl : i = m + 1 := by omega
     have hzm : cvA x y m = cvR x y m (m + 1) := by with_unfolding_all rfl
     generalize cvR x y m (m + 1) = cv at *
     (repeat (first|apply zO (by decide +kernel)|apply zP (by decide +kernel)|(apply zS;(case h=>constructor<;>decide))|((first|apply l_go rfl|apply c_dec|apply zT rfl (by decide) rfl);(case hs=>(simp (disch := first|omega|exact kD rfl|exact kX rfl) only [smY,simprocAttr,bl,i64,smT,smO,smM];exact rfl));first|refine c_bt ?_|refine c_bf ?_|refine zq ?_|(case hg=>assumption))))
     refine ⟨⟨m + 1,by omega⟩,?_,by simp only;omega⟩
     (refine Sub.heapL [0,1,2,11] rfl (by decide) ?_ (by simp only [smL];decide) ?_ ?_;all_goals (first|(simp only [plainC,smF,dg,renL,renLs,simprocAttr,bl,i64,smT,smO,smM];done) | (simp only [smF,dg,renL,renLs,simprocAttr,bl,i64,smT,smO,smM];(repeat' apply And.intro);all_goals rfl) | (simp only [smF,dg,renL,renLs,simprocAttr,bl,i64,smT,smO,smM]) | skip))
     all_goals (first | done | ((repeat' apply And.intro);all_goals (first | trivial | rfl | (rw [mC_succ (a := cvA x y) (N := N) (i := m) hzm]))))
  ·obtain rfl : m = N := by omega
   (repeat (first|apply zO (by decide +kernel)|apply zP (by decide +kernel)|(apply zS;(case h=>constructor<;>decide))|((first|apply l_go rfl|apply c_dec|apply zT rfl (by decide) rfl);(case hs=>(simp (disch := first|omega|exact kD rfl|exact kX rfl) only [smY,simprocAttr,bl,i64,smT,smO,smM];exact rfl));first|refine c_bt ?_|refine c_bf ?_|refine zq ?_|(case hg=>assumption))))
   ((first|apply g_ret|apply g_end);case hres => (simp only [smR];simp (disch := first|omega|exact kD rfl|exact kX rfl) only [smY,simprocAttr,bl,i64,smT,smO,smM];exact rfl))
   simp (disch := first|omega|exact kD rfl|exact kX rfl) only [smY,simprocAttr,bl,i64,smT,smO,smM]
end Go.Proofs.YtbajpjjbaffnnaaGreat
namespace Go.Proofs.YtbajpjjbaffnnaaGreat
open Go Go.Lg Go.Num
set_option maxRecDepth 100000
set_option maxHeartbeats 8000000
attribute [local irreducible] Go.Lg.lrun Go.Lg.lwp Go.Lg.exThen Go.Lg.exBlk Go.Lg.keep Go.Lg.goodPost ec sg mg cvR cvA aQ sS etaC etaK psum ordQ adZ mdL lvP
theorem order_eta {n : Nat} {xs : List Int} (h : EtaOk n xs) {d : Nat} (d1 : 1 ≤ d) (hd : n % d = 0) : PureGood Tryz.prog 27 [.agg [i64 n,.sl xs.length (ec xs)],i64 d] (.tup [encQ (ordQ n xs d xs.length),i64 0]) := by
 have n1 := h.n1
 have n2 := h.n2
 have l1 := h.len_le
 have hcn : d ≤ n := Nat.le_of_dvd (by omega) (Nat.dvd_of_mod_eq_zero hd)
 have g := Order_good n xs (by omega) (by omega) d (by omega)
 have ok : ordOk n xs d := ⟨etaErr_zero h,by omega,by omega⟩
 unfold ordN ordD ordE at g
 rw [if_pos ok,if_pos ok,if_pos (etaErr_zero h),if_pos ok,Int.toNat_natCast,Int.toNat_natCast] at g
 rw [encQ_sm]
 exact g
theorem first_ex {n : Nat} {xs : List Int} (h : EtaOk n xs) : ∃ v e : Int,PureGood Tryz.prog 14 [.agg [i64 n,.sl xs.length (ec xs)]] (.tup [i64 v,i64 e]) ∧ (-2880000 ≤ v ∧ v ≤ 2880000) ∧ (e = 0 → psum (exL n xs) xs.length = 24 * v) := by
 have n2 := h.n2
 have l1 := h.len_le
 have b := h.s1 (Nat.le_refl _)
 have g := rFirst_good n xs (by omega) (by omega)
 rw [Int.toNat_natCast] at g
 simp only [etaErr_zero h,true_and,if_true] at g
 refine ⟨_,_,g,?_,?_⟩
 ·split <;> omega
 ·split
  ·intro _;omega
  ·intro e;cases e
theorem lawProducts_in {n k : Nat} {xs ys : List Int} (hx : EtaOk n xs) (hy : EtaOk k ys) (hL : lvP n k ≤ 600) (hall : ∀ x ∈ prL n k xs ys, -200 ≤ x ∧ x ≤ 200) (pr : Int) (N : Nat) (hp : pr = (N : Int) + 1) (hN : N ≤ 23) (ha : PureGood Tryz.prog 13 [] (.lit (.bool true))) :
  PureGood Tryz.prog 8 [.agg [i64 n,.sl xs.length (ec xs)],.agg [i64 k,.sl ys.length (ec ys)],i64 pr] (.lit (.bool true)) := by
 have n1 := hx.n1
 have n2 := hx.n2
 have k1 := hy.n1
 have k2 := hy.n2
 have l1 := hx.len_le
 have l2 := hy.len_le
 obtain ⟨p1,p2,p3⟩ := lvP_facts n1 k1
 have hA := hx.md p1 hL 1
 have hB := hy.md p1 hL 1
 have gt := etimes_gen hx hy hL _ (fun _ => rfl) (fun h => absurd hall h)
 have gc1 := rcheck_good n xs (by omega) (by omega)
 have gc2 := rcheck_good k ys (by omega) (by omega)
 rw [etaErr_zero hx] at gc1
 rw [etaErr_zero hy] at gc2
 have gr1 := raise_eta hx p1 hL p2
 have gr2 := raise_eta hy p1 hL p3
 have gd := adivisors_good p1 hL
 obtain ⟨v1,e1,gf1,bv1,hv1⟩ := first_ex hx
 obtain ⟨v2,e2,gf2,bv2,hv2⟩ := first_ex hy
 have s1 := raise_e1 hx p1 p2
 have s2 := raise_e1 hy p1 p3
 have c1 := fun N => raise_etaC hx p1 p2 N
 have c2 := fun N => raise_etaC hy p1 p3 N
 unfold prL at hall gt
 generalize mdL (divL (lvP n k)) (divL n) xs 1 = A at *
 generalize mdL (divL (lvP n k)) (divL k) ys 1 = B at *
 have hAB : A.length = B.length := hA.len.trans hB.len.symm
 have hZ := adZ_ok hA hB hall
 have hzl := adZ_len hAB
 have hz1 := fun m => s1_adZ (L := lvP n k) hAB m
 have hzo := fun d m => ordQ_adZ (L := lvP n k) hAB d m
 have hzp := fun m => eta_prod (L := lvP n k) hAB N m
 have lZ := hZ.len_le
 rw [← hZ.len] at gt gd
 generalize adZ A B = Z at *
 generalize lvP n k = L at *
 rw [← hAB] at gr2
 rw [← hzl] at gr1 gr2
 have dl := divL_length L
 rw [← hZ.len] at dl
 have or1 := fun (d : Nat) (d1 : 1 ≤ d) (hd : L % d = 0) => order_eta hA d1 hd
 have or2 := fun (d : Nat) (d1 : 1 ≤ d) (hd : L % d = 0) => order_eta hB d1 hd
 have or3 := fun (d : Nat) (d1 : 1 ≤ d) (hd : L % d = 0) => order_eta hZ d1 hd
 have bq1 := fun (d : Nat) (d1 : 1 ≤ d) (d2 : d ≤ 600) => lq_ord hA d1 d2 (Nat.le_refl _)
 have bq2 := fun (d : Nat) (d1 : 1 ≤ d) (d2 : d ≤ 600) => lq_ord hB d1 d2 (Nat.le_refl _)
 have bq3 := fun (d : Nat) (d1 : 1 ≤ d) (d2 : d ≤ 600) => lq_ord hZ d1 d2 (Nat.le_refl _)
 rw [← hAB] at or2 bq2
 rw [← hzl] at or1 or2 bq1 bq2
 have hpr : 1 ≤ pr ∧ pr ≤ 24 := by omega
 have nn := hZ.len
 simp only [shp] at gt gr1 gr2
 simp only [i64,bl] at gc1 gc2 gt gr1 gr2 gd gf1 gf2 ⊢
 refine good_of_lwp mix Tryz.func8 rfl (by decide) (nt := 219) rfl (rs := [.tmp 6]) rfl (nle rfl) ?_
 (repeat (first|apply zO (by decide +kernel)|apply zP (by decide +kernel)|(apply zS;(case h=>constructor<;>decide))|((first|apply l_go rfl|apply c_dec|apply zT rfl (by decide) rfl);(case hs=>(simp (disch := first|omega|exact kD rfl|exact kX rfl) only [smY,simprocAttr,bl,i64,smE,smT,shp,ec_nil,undefL,undef];exact rfl));first|refine c_bt ?_|refine c_bf ?_|refine zq ?_|(case hg=>assumption))))
 refine w_loop (α := {i : Nat // i ≤ Z.length}) (fun i => st 219 (lk [(2,i64 pr),(3,.ptr 0 0),(4,.ptr 1 0),(7,.ptr 2 0),(9,.ptr 3 0),(11,.ptr 4 0),(13,.sl Z.length (ec (divL L))),(15,i64 i.1)]) (lkH [(0,⟨24,[i64 n,.sl xs.length (ec xs)],false⟩),(1,⟨24,[i64 k,.sl ys.length (ec ys)],false⟩),(2,⟨24,[i64 L,.sl Z.length (ec Z)],false⟩),(3,⟨24,[i64 L,.sl Z.length (ec A)],false⟩),(4,⟨24,[i64 L,.sl Z.length (ec B)],false⟩)]) 5) (fun i => Z.length - i.1) ⟨0,by omega⟩ ?_ ?_
 ·simp only [i64]
  (refine Sub.heapL [0,1,25,37,47] rfl (by decide) ?_ (by simp only [smL];decide) ?_ ?_;all_goals (first|(simp only [plainC,smF,dg,renL,renLs,simprocAttr,bl,i64,smE,smT,shp,ec_nil,undefL,undef];done) | (simp only [smF,dg,renL,renLs,simprocAttr,bl,i64,smE,smT,shp,ec_nil,undefL,undef];(repeat' apply And.intro);all_goals rfl) | (simp only [smF,dg,renL,renLs,simprocAttr,bl,i64,smE,smT,shp,ec_nil,undefL,undef]) | skip))
  all_goals (first | done | trace_state)
 ·rintro ⟨i,hi⟩
  simp only [st]
  by_cases hlt : i < Z.length
  ·obtain ⟨d,d1,d2,d3,d4,d5⟩ := divL_get (n := L) (k := i) (by omega)
   have r1 := or1 d d2 d4
   have r2 := or2 d d2 d4
   have r3 := or3 d d2 d4
   have b1 := bq1 d d2 (by omega)
   have b2 := bq2 d d2 (by omega)
   have b3 := bq3 d d2 (by omega)
   have ez := hzo d Z.length
   have r4 := rqadd_good (ordQ L A d Z.length) (ordQ L B d Z.length) (by omega) (by omega)
   rw [← ez] at r4
   have r5 := rqsame_good (ordQ L Z d Z.length) (ordQ L Z d Z.length) (by omega) (by omega)
   rw [decide_eq_true rfl] at r5
   clear ez hzo or1 or2 or3 bq1 bq2 bq3
   generalize ordQ L A d Z.length = q1 at *
   generalize ordQ L B d Z.length = q2 at *
   generalize ordQ L Z d Z.length = q3 at *
   simp only [encQ_sm,i64,bl] at r1 r2 r3 r4 r5
   (repeat (first|apply zO (by decide +kernel)|apply zP (by decide +kernel)|(apply zS;(case h=>constructor<;>decide))|((first|apply l_go rfl|apply c_dec|apply zT rfl (by decide) rfl);(case hs=>(simp (disch := first|omega|exact kD rfl|exact kX rfl) only [smY,simprocAttr,bl,i64,smE,smT,shp,ec_nil,undefL,undef,d1];exact rfl));first|refine c_bt ?_|refine c_bf ?_|refine zq ?_|(case hg=>assumption))))
   refine ⟨⟨i + 1,by omega⟩,?_,by simp only;omega⟩
   (refine Sub.heapL [0,1,2,3,4] rfl (by decide) ?_ (by simp only [smL];decide) ?_ ?_;all_goals (first|(simp only [plainC,smF,dg,renL,renLs,simprocAttr,bl,i64,smE,smT,shp,ec_nil,undefL,undef];done) | (simp only [smF,dg,renL,renLs,simprocAttr,bl,i64,smE,smT,shp,ec_nil,undefL,undef];(repeat' apply And.intro);all_goals rfl) | (simp only [smF,dg,renL,renLs,simprocAttr,bl,i64,smE,smT,shp,ec_nil,undefL,undef]) | skip))
   all_goals (first | done | trace_state)
  ·obtain rfl : i = Z.length := by omega
   clear hzo or1 or2 or3 bq1 bq2 bq3
   by_cases a1 : e1 = 0
   ·by_cases a2 : e2 = 0
    ·subst a1 a2
     by_cases a3 : v1 < -12
     ·
      generalize ec xs = cx at *
      generalize ec ys = cy at *
      generalize ec A = cA at *
      generalize ec B = cB at *
      generalize ec Z = cZ at *
      simp only [i64] at *
      (repeat (first|apply zO (by decide +kernel)|apply zP (by decide +kernel)|(apply zS;(case h=>constructor<;>decide))|((first|apply l_go rfl|apply c_dec|apply zT rfl (by decide) rfl);(case hs=>(simp (disch := first|omega|exact kD rfl|exact kX rfl) only [smY,simprocAttr,bl,i64,smE,smT,shp,ec_nil,undefL,undef];exact rfl));first|refine c_bt ?_|refine c_bf ?_|refine zq ?_|(case hg=>assumption))))
      ((first|apply g_ret|apply g_end);case hres => (simp only [smR];simp (disch := first|omega|exact kD rfl|exact kX rfl) only [smY,simprocAttr,bl,i64,smE,smT,shp,ec_nil,undefL,undef];exact rfl))
      simp (disch := first|omega|exact kD rfl|exact kX rfl) only [smY,simprocAttr,bl,i64,smE,smT,shp,ec_nil,undefL,undef]
     ·by_cases a4 : v2 < -12
      ·
       generalize ec xs = cx at *
       generalize ec ys = cy at *
       generalize ec A = cA at *
       generalize ec B = cB at *
       generalize ec Z = cZ at *
       simp only [i64] at *
       (repeat (first|apply zO (by decide +kernel)|apply zP (by decide +kernel)|(apply zS;(case h=>constructor<;>decide))|((first|apply l_go rfl|apply c_dec|apply zT rfl (by decide) rfl);(case hs=>(simp (disch := first|omega|exact kD rfl|exact kX rfl) only [smY,simprocAttr,bl,i64,smE,smT,shp,ec_nil,undefL,undef];exact rfl));first|refine c_bt ?_|refine c_bf ?_|refine zq ?_|(case hg=>assumption))))
       ((first|apply g_ret|apply g_end);case hres => (simp only [smR];simp (disch := first|omega|exact kD rfl|exact kX rfl) only [smY,simprocAttr,bl,i64,smE,smT,shp,ec_nil,undefL,undef];exact rfl))
       simp (disch := first|omega|exact kD rfl|exact kX rfl) only [smY,simprocAttr,bl,i64,smE,smT,shp,ec_nil,undefL,undef]
      ·by_cases a5 : v1 > 24
       ·
        generalize ec xs = cx at *
        generalize ec ys = cy at *
        generalize ec A = cA at *
        generalize ec B = cB at *
        generalize ec Z = cZ at *
        simp only [i64] at *
        (repeat (first|apply zO (by decide +kernel)|apply zP (by decide +kernel)|(apply zS;(case h=>constructor<;>decide))|((first|apply l_go rfl|apply c_dec|apply zT rfl (by decide) rfl);(case hs=>(simp (disch := first|omega|exact kD rfl|exact kX rfl) only [smY,simprocAttr,bl,i64,smE,smT,shp,ec_nil,undefL,undef];exact rfl));first|refine c_bt ?_|refine c_bf ?_|refine zq ?_|(case hg=>assumption))))
        ((first|apply g_ret|apply g_end);case hres => (simp only [smR];simp (disch := first|omega|exact kD rfl|exact kX rfl) only [smY,simprocAttr,bl,i64,smE,smT,shp,ec_nil,undefL,undef];exact rfl))
        simp (disch := first|omega|exact kD rfl|exact kX rfl) only [smY,simprocAttr,bl,i64,smE,smT,shp,ec_nil,undefL,undef]
       ·by_cases a6 : v2 > 24
        ·
         generalize ec xs = cx at *
         generalize ec ys = cy at *
         generalize ec A = cA at *
         generalize ec B = cB at *
         generalize ec Z = cZ at *
         simp only [i64] at *
         (repeat (first|apply zO (by decide +kernel)|apply zP (by decide +kernel)|(apply zS;(case h=>constructor<;>decide))|((first|apply l_go rfl|apply c_dec|apply zT rfl (by decide) rfl);(case hs=>(simp (disch := first|omega|exact kD rfl|exact kX rfl) only [smY,simprocAttr,bl,i64,smE,smT,shp,ec_nil,undefL,undef];exact rfl));first|refine c_bt ?_|refine c_bf ?_|refine zq ?_|(case hg=>assumption))))
         ((first|apply g_ret|apply g_end);case hres => (simp only [smR];simp (disch := first|omega|exact kD rfl|exact kX rfl) only [smY,simprocAttr,bl,i64,smE,smT,shp,ec_nil,undefL,undef];exact rfl))
         simp (disch := first|omega|exact kD rfl|exact kX rfl) only [smY,simprocAttr,bl,i64,smE,smT,shp,ec_nil,undefL,undef]
        ·have hv1 := hv1 rfl
         have hv2 := hv2 rfl
         have k1 := check_good n xs (by omega) (by omega)
         have k2 := check_good k ys (by omega) (by omega)
         have k3 := check_good L Z (by omega) (by omega)
         rw [etaErr_zero hx] at k1
         rw [etaErr_zero hy] at k2
         rw [etaErr_zero hZ] at k3
         have P1 := prodOk_aQ (c := etaC n xs N) (by rw [etaC_len];omega) (etaC_small hx N)
         have P2 := prodOk_aQ (c := etaC k ys N) (by rw [etaC_len];omega) (etaC_small hy N)
         have P3 := prodOk_aQ (c := etaC L Z N) (by rw [etaC_len];omega) (etaC_small hZ N)
         have x1 := expand_in hx k1 (v1 + pr) (by omega) v1 (by unfold lowS;exact hv1) (by omega) N (by omega) P1
         have x2 := expand_in hy k2 (v2 + pr) (by omega) v2 (by unfold lowS;exact hv2) (by omega) N (by omega) P2
         have x3 := expand_in hZ k3 (v1 + v2 + pr) (by omega) (v1 + v2) (by
          unfold lowS
          rw [hz1,hzl,s1,hAB,s2,hv1,hv2]
          omega) (by omega) N (by omega) P3
         have b1 : ∀ i,i < N + 1 → lq (aQ (sS (etaC n xs N)) i) ≤ 100 := fun i hi => aQ_lq hx (by omega) (by omega)
         have b2 : ∀ i,i < N + 1 → lq (aQ (sS (etaC k ys N)) i) ≤ 100 := fun i hi => aQ_lq hy (by omega) (by omega)
         have b3 : ∀ i,i < N + 1 → lq (aQ (sS (etaC L Z N)) i) ≤ 100 := fun i hi => aQ_lq hZ (by omega) (by omega)
         rw [c1,c2] at hzp
         have hzp' : cvA (aQ (sS (etaC n xs N))) (aQ (sS (etaC k ys N))) = aQ (sS (etaC L Z N)) := funext hzp
         have z1 := P1.a0
         have z2 := P2.a0
         have xm := smulR_good (aQ (sS (etaC n xs N))) (aQ (sS (etaC k ys N))) v1 v2 (N + 1) (by omega) (by omega) (by omega) (by omega) b1 b2 z1 z2 (by rw [hzp'];exact b3)
         rw [hzp'] at xm
         have hlA : (aP (aQ (sS (etaC L Z N))) (N + 1)).length = N + 1 := aP_len _ _
         have xs' := sameSeries_good (v1 + v2) (by omega) (aP (aQ (sS (etaC L Z N))) (N + 1)) (by omega) (fun q hq => by
          simp only [aP,List.mem_map] at hq
          obtain ⟨i,hi,rfl⟩ := hq
          have := b3 i (List.mem_range.1 hi)
          omega)
         rw [hlA] at xs'
         have q1 := aP_len (aQ (sS (etaC n xs N))) (N + 1)
         have q2 := aP_len (aQ (sS (etaC k ys N))) (N + 1)
         clear P1 P2 P3 b1 b2 b3 z1 z2 hzp hzp' c1 c2 k1 k2 k3 hv1 hv2
         generalize aP (aQ (sS (etaC n xs N))) (N + 1) = r1 at *
         generalize aP (aQ (sS (etaC k ys N))) (N + 1) = r2 at *
         generalize aP (aQ (sS (etaC L Z N))) (N + 1) = r3 at *
         generalize ec xs = cx at *
         generalize ec ys = cy at *
         generalize ec A = cA at *
         generalize ec B = cB at *
         generalize ec Z = cZ at *
         simp only [i64] at *
         (repeat (first|apply zO (by decide +kernel)|apply zP (by decide +kernel)|(apply zS;(case h=>constructor<;>decide))|((first|apply l_go rfl|apply c_dec|apply zT rfl (by decide) rfl);(case hs=>(simp (disch := first|omega|exact kD rfl|exact kX rfl) only [smY,simprocAttr,bl,i64,smE,smT,shp,ec_nil,undefL,undef];exact rfl));first|refine c_bt ?_|refine c_bf ?_|refine zq ?_|(case hg=>assumption))))
         ((first|apply g_ret|apply g_end);case hres => (simp only [smR];simp (disch := first|omega|exact kD rfl|exact kX rfl) only [smY,simprocAttr,bl,i64,smE,smT,shp,ec_nil,undefL,undef];exact rfl))
         simp (disch := first|omega|exact kD rfl|exact kX rfl) only [smY,simprocAttr,bl,i64,smE,smT,shp,ec_nil,undefL,undef]
    ·
     generalize ec xs = cx at *
     generalize ec ys = cy at *
     generalize ec A = cA at *
     generalize ec B = cB at *
     generalize ec Z = cZ at *
     simp only [i64] at *
     (repeat (first|apply zO (by decide +kernel)|apply zP (by decide +kernel)|(apply zS;(case h=>constructor<;>decide))|((first|apply l_go rfl|apply c_dec|apply zT rfl (by decide) rfl);(case hs=>(simp (disch := first|omega|exact kD rfl|exact kX rfl) only [smY,simprocAttr,bl,i64,smE,smT,shp,ec_nil,undefL,undef];exact rfl));first|refine c_bt ?_|refine c_bf ?_|refine zq ?_|(case hg=>assumption))))
     ((first|apply g_ret|apply g_end);case hres => (simp only [smR];simp (disch := first|omega|exact kD rfl|exact kX rfl) only [smY,simprocAttr,bl,i64,smE,smT,shp,ec_nil,undefL,undef];exact rfl))
     simp (disch := first|omega|exact kD rfl|exact kX rfl) only [smY,simprocAttr,bl,i64,smE,smT,shp,ec_nil,undefL,undef]
   ·
    generalize ec xs = cx at *
    generalize ec ys = cy at *
    generalize ec A = cA at *
    generalize ec B = cB at *
    generalize ec Z = cZ at *
    simp only [i64] at *
    (repeat (first|apply zO (by decide +kernel)|apply zP (by decide +kernel)|(apply zS;(case h=>constructor<;>decide))|((first|apply l_go rfl|apply c_dec|apply zT rfl (by decide) rfl);(case hs=>(simp (disch := first|omega|exact kD rfl|exact kX rfl) only [smY,simprocAttr,bl,i64,smE,smT,shp,ec_nil,undefL,undef];exact rfl));first|refine c_bt ?_|refine c_bf ?_|refine zq ?_|(case hg=>assumption))))
    ((first|apply g_ret|apply g_end);case hres => (simp only [smR];simp (disch := first|omega|exact kD rfl|exact kX rfl) only [smY,simprocAttr,bl,i64,smE,smT,shp,ec_nil,undefL,undef];exact rfl))
    simp (disch := first|omega|exact kD rfl|exact kX rfl) only [smY,simprocAttr,bl,i64,smE,smT,shp,ec_nil,undefL,undef]
theorem lawProducts_good (la : Int) (xs : List Int) (hla : -9223372036854775808 ≤ la ∧ la ≤ 9223372036854775807) (lb : Int) (ys : List Int) (hlb : -9223372036854775808 ≤ lb ∧ lb ≤ 9223372036854775807) (pr : Int) (hpr : -9223372036854775808 ≤ pr ∧ pr ≤ 9223372036854775807) : PureGood Tryz.prog 8 [.agg [i64 la,.sl xs.length (ec xs)],.agg [i64 lb,.sl ys.length (ec ys)],i64 pr] (.lit (.bool true)) := by
 have ha := awake_good
 have g1 := rcheck_any la xs hla
 have g2 := rcheck_any lb ys hlb
 by_cases he : etaErr la xs = 0
 ·by_cases hf : etaErr lb ys = 0
  ·by_cases h1 : pr < 1
   ·generalize ec xs = cx at *
    generalize ec ys = cy at *
    rw [he] at g1
    rw [hf] at g2
    clear he hf
    simp only [i64,bl] at *
    refine good_of_lwp mix Tryz.func8 rfl (by decide) (nt := 219) rfl (rs := [.tmp 6]) rfl (nle rfl) ?_
    (repeat (first|apply zO (by decide +kernel)|apply zP (by decide +kernel)|(apply zS;(case h=>constructor<;>decide))|((first|apply l_go rfl|apply c_dec|apply zT rfl (by decide) rfl);(case hs=>(simp (disch := first|omega|exact kD rfl|exact kX rfl) only [smY,simprocAttr,bl,i64,smE,smT,shp,ec_nil,undefL,undef];exact rfl));first|refine c_bt ?_|refine c_bf ?_|refine zq ?_|(case hg=>assumption))))
    ((first|apply g_ret|apply g_end);case hres => (simp only [smR];simp (disch := first|omega|exact kD rfl|exact kX rfl) only [smY,simprocAttr,bl,i64,smE,smT,shp,ec_nil,undefL,undef];exact rfl))
    simp (disch := first|omega|exact kD rfl|exact kX rfl) only [smY,simprocAttr,bl,i64,smE,smT,shp,ec_nil,undefL,undef]
   ·by_cases h2 : pr > 24
    ·generalize ec xs = cx at *
     generalize ec ys = cy at *
     rw [he] at g1
     rw [hf] at g2
     clear he hf
     simp only [i64,bl] at *
     refine good_of_lwp mix Tryz.func8 rfl (by decide) (nt := 219) rfl (rs := [.tmp 6]) rfl (nle rfl) ?_
     (repeat (first|apply zO (by decide +kernel)|apply zP (by decide +kernel)|(apply zS;(case h=>constructor<;>decide))|((first|apply l_go rfl|apply c_dec|apply zT rfl (by decide) rfl);(case hs=>(simp (disch := first|omega|exact kD rfl|exact kX rfl) only [smY,simprocAttr,bl,i64,smE,smT,shp,ec_nil,undefL,undef];exact rfl));first|refine c_bt ?_|refine c_bf ?_|refine zq ?_|(case hg=>assumption))))
     ((first|apply g_ret|apply g_end);case hres => (simp only [smR];simp (disch := first|omega|exact kD rfl|exact kX rfl) only [smY,simprocAttr,bl,i64,smE,smT,shp,ec_nil,undefL,undef];exact rfl))
     simp (disch := first|omega|exact kD rfl|exact kX rfl) only [smY,simprocAttr,bl,i64,smE,smT,shp,ec_nil,undefL,undef]
    ·obtain ⟨n,rfl,hx⟩ := etaOk_of he
     obtain ⟨k,rfl,hy⟩ := etaOk_of hf
     have n1 := hx.n1
     have n2 := hx.n2
     have k1 := hy.n1
     have k2 := hy.n2
     rw [he] at g1
     rw [hf] at g2
     by_cases hL : lvP n k ≤ 600
     ·by_cases hall : ∀ x ∈ prL n k xs ys,-200 ≤ x ∧ x ≤ 200
      ·exact lawProducts_in hx hy hL hall pr (pr.toNat - 1) (by omega) (by omega) ha
      ·have gt := etimes_gen hx hy hL (shp 0 7 (.sl 0 [])) (fun h => absurd h hall) (fun _ => rfl)
       clear hx hy hall he hf hL
       generalize ec xs = cx at *
       generalize ec ys = cy at *
       simp only [i64,bl,shp] at *
       refine good_of_lwp mix Tryz.func8 rfl (by decide) (nt := 219) rfl (rs := [.tmp 6]) rfl (nle rfl) ?_
       (repeat (first|apply zO (by decide +kernel)|apply zP (by decide +kernel)|(apply zS;(case h=>constructor<;>decide))|((first|apply l_go rfl|apply c_dec|apply zT rfl (by decide) rfl);(case hs=>(simp (disch := first|omega|exact kD rfl|exact kX rfl) only [smY,simprocAttr,bl,i64,smE,smT,shp,ec_nil,undefL,undef];exact rfl));first|refine c_bt ?_|refine c_bf ?_|refine zq ?_|(case hg=>assumption))))
       ((first|apply g_ret|apply g_end);case hres => (simp only [smR];simp (disch := first|omega|exact kD rfl|exact kX rfl) only [smY,simprocAttr,bl,i64,smE,smT,shp,ec_nil,undefL,undef];exact rfl))
       simp (disch := first|omega|exact kD rfl|exact kX rfl) only [smY,simprocAttr,bl,i64,smE,smT,shp,ec_nil,undefL,undef]
     ·have gt := etimes_large hx hy (by omega)
      clear hx hy he hf hL
      generalize ec xs = cx at *
      generalize ec ys = cy at *
      simp only [i64,bl,shp] at *
      refine good_of_lwp mix Tryz.func8 rfl (by decide) (nt := 219) rfl (rs := [.tmp 6]) rfl (nle rfl) ?_
      (repeat (first|apply zO (by decide +kernel)|apply zP (by decide +kernel)|(apply zS;(case h=>constructor<;>decide))|((first|apply l_go rfl|apply c_dec|apply zT rfl (by decide) rfl);(case hs=>(simp (disch := first|omega|exact kD rfl|exact kX rfl) only [smY,simprocAttr,bl,i64,smE,smT,shp,ec_nil,undefL,undef];exact rfl));first|refine c_bt ?_|refine c_bf ?_|refine zq ?_|(case hg=>assumption))))
      ((first|apply g_ret|apply g_end);case hres => (simp only [smR];simp (disch := first|omega|exact kD rfl|exact kX rfl) only [smY,simprocAttr,bl,i64,smE,smT,shp,ec_nil,undefL,undef];exact rfl))
      simp (disch := first|omega|exact kD rfl|exact kX rfl) only [smY,simprocAttr,bl,i64,smE,smT,shp,ec_nil,undefL,undef]
  ·generalize etaErr lb ys = er at *
   rw [he] at g1
   clear he
   generalize ec xs = cx at *
   generalize ec ys = cy at *
   simp only [i64,bl] at *
   refine good_of_lwp mix Tryz.func8 rfl (by decide) (nt := 219) rfl (rs := [.tmp 6]) rfl (nle rfl) ?_
   (repeat (first|apply zO (by decide +kernel)|apply zP (by decide +kernel)|(apply zS;(case h=>constructor<;>decide))|((first|apply l_go rfl|apply c_dec|apply zT rfl (by decide) rfl);(case hs=>(simp (disch := first|omega|exact kD rfl|exact kX rfl) only [smY,simprocAttr,bl,i64,smE,smT,shp,ec_nil,undefL,undef];exact rfl));first|refine c_bt ?_|refine c_bf ?_|refine zq ?_|(case hg=>assumption))))
   ((first|apply g_ret|apply g_end);case hres => (simp only [smR];simp (disch := first|omega|exact kD rfl|exact kX rfl) only [smY,simprocAttr,bl,i64,smE,smT,shp,ec_nil,undefL,undef];exact rfl))
   simp (disch := first|omega|exact kD rfl|exact kX rfl) only [smY,simprocAttr,bl,i64,smE,smT,shp,ec_nil,undefL,undef]
 ·generalize etaErr la xs = er at *
  generalize etaErr lb ys = er2 at *
  generalize ec xs = cx at *
  generalize ec ys = cy at *
  simp only [i64,bl] at *
  refine good_of_lwp mix Tryz.func8 rfl (by decide) (nt := 219) rfl (rs := [.tmp 6]) rfl (nle rfl) ?_
  (repeat (first|apply zO (by decide +kernel)|apply zP (by decide +kernel)|(apply zS;(case h=>constructor<;>decide))|((first|apply l_go rfl|apply c_dec|apply zT rfl (by decide) rfl);(case hs=>(simp (disch := first|omega|exact kD rfl|exact kX rfl) only [smY,simprocAttr,bl,i64,smE,smT,shp,ec_nil,undefL,undef];exact rfl));first|refine c_bt ?_|refine c_bf ?_|refine zq ?_|(case hg=>assumption))))
  repeat (refine l_cskip rfl (by decide) rfl ?_;(repeat (first|apply zO (by decide +kernel)|apply zP (by decide +kernel)|(apply zS;(case h=>constructor<;>decide))|((first|apply l_go rfl|apply c_dec|apply zT rfl (by decide) rfl);(case hs=>(simp (disch := first|omega|exact kD rfl|exact kX rfl) only [smY,simprocAttr,bl,i64,smE,smT,shp,ec_nil,undefL,undef];exact rfl));first|refine c_bt ?_|refine c_bf ?_|refine zq ?_|(case hg=>assumption)))))
  ((first|apply g_ret|apply g_end);case hres => (simp only [smR];simp (disch := first|omega|exact kD rfl|exact kX rfl) only [smY,simprocAttr,bl,i64,smE,smT,shp,ec_nil,undefL,undef];exact rfl))
  simp (disch := first|omega|exact kD rfl|exact kX rfl) only [smY,simprocAttr,bl,i64,smE,smT,shp,ec_nil,undefL,undef]
end Go.Proofs.YtbajpjjbaffnnaaGreat