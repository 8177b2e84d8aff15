/- Contracts of functions of the program, and what proves them (texts: C10 Num6 Enc2 C11 C12 Orc). -/
import Derived.Test.YtaidcaemdkncgaaGreatDoorZAH
import Derived.Test.YtaidcaemdkncgaaGreatDoorZAL
set_option linter.all false
set_option maxRecDepth 100000
set_option maxHeartbeats 8000000
namespace Go.Proofs.YtaidcaemdkncgaaGreatDoor
open Go Go.Lg Go.Num
attribute [local irreducible] Go.Lg.lrun Go.Lg.lwp Go.Lg.exThen Go.Lg.exBlk Go.Lg.keep Go.Lg.goodPost
theorem baseZ_good (n : Int) (h : -9223372036854775808 ≤ n ∧ n ≤ 9223372036854775807) : PureGood Tryz.prog 55 [i64 n] (encI n) := by
 have hm : n.natAbs ≤ 9223372036854775808 := by omega
 rw [encI]
 by_cases hneg : n < 0
 ·have hw1 : IntKind.wrap .u64 n = ((18446744073709551616 - n.natAbs : Nat) : Int) := by rw [wrap_u64_mod];omega
  have hw2 : IntKind.wrap .u64 (0 - ((18446744073709551616 - n.natAbs : Nat) : Int)) = (n.natAbs : Int) := by rw [wrap_u64_mod];omega
  generalize n.natAbs = m at *
  refine good_of_lwp mix Tryz.func55 rfl (by decide) (nt := 26) rfl (rs := [.cell 2 45]) rfl (nle rfl) ?_
  (repeat (first|apply zO (by decide +kernel)|apply zP (by decide +kernel)|((fail_if_success refine is_bl ?_);apply zS;(case h=>constructor<;>decide))|((first|apply l_go rfl|apply c_dec);(case hs=>(simp (disch := first|omega|exact kD rfl|exact kX rfl) only [smY,simprocAttr,bl,i64,hw1,hw2];exact rfl));first|refine c_bt ?_|refine c_bf ?_|refine zq ?_)))
  apply w_seq
  apply w_block
  by_cases m0 : m = 0
  ·subst m0
   refine loop_done (s' := ?_) (e := .exit 0) (by simp) (fun Φ hΦ => ?_) ?_
   rotate_left
   ·(repeat(first|refine zW ?_|refine zG3 ?_|refine zD3 ?_|refine zT3 ?_))
    exact hΦ
   (repeat(first|refine zW ?_|refine zG3 ?_|refine zD3 ?_|refine zT3 ?_))
   refine zR3 ?_
   simp (disch := first|omega|exact kD rfl|exact kX rfl) only [smY,simprocAttr,bl,i64]
   rw [digs_zero]
   rfl
  ·skip
   refine loop_more (s' := ?_) (fun Φ hΦ => ?_) ?_
   rotate_left
   ·(repeat(first|refine zW ?_|refine zG3 ?_|refine zD3 ?_|refine zT3 ?_))
    exact hΦ
   by_cases m1 : m / 4294967296 = 0
   ·rw [digs_small m0 (by omega)]
    have hd : (m : Int) / 4294967296 = 0 := by omega
    refine loop_done (s' := ?_) (e := .exit 0) (by simp) (fun Φ hΦ => ?_) ?_
    rotate_left
    ·(repeat(first|refine zW ?_|refine zG3 ?_|refine zD3 ?_|refine zT3 ?_))
     exact hΦ
    (repeat(first|refine zW ?_|refine zG3 ?_|refine zD3 ?_|refine zT3 ?_))
    refine zR3 ?_
    simp (disch := first|omega|exact kD rfl|exact kX rfl) only [smY,simprocAttr,bl,i64]
    simp [dg,dgs,wrap_u32_mod]
   ·rw [digs_pos m0,digs_small m1 (by omega)]
    have hd : (m : Int) / 4294967296 / 4294967296 = 0 := by omega
    refine loop_more (s' := ?_) (fun Φ hΦ => ?_) ?_
    rotate_left
    ·(repeat(first|refine zW ?_|refine zG3 ?_|refine zD3 ?_|refine zT3 ?_))
     exact hΦ
    refine loop_done (s' := ?_) (e := .exit 0) (by simp) (fun Φ hΦ => ?_) ?_
    rotate_left
    ·(repeat(first|refine zW ?_|refine zG3 ?_|refine zD3 ?_|refine zT3 ?_))
     exact hΦ
    (repeat(first|refine zW ?_|refine zG3 ?_|refine zD3 ?_|refine zT3 ?_))
    refine zR3 ?_
    simp (disch := first|omega|exact kD rfl|exact kX rfl) only [smY,simprocAttr,bl,i64]
    simp [dg,dgs,wrap_u32_mod]
 ·have hw1 : IntKind.wrap .u64 n = (n.natAbs : Int) := by rw [wrap_u64_mod];omega
  generalize n.natAbs = m at *
  refine good_of_lwp mix Tryz.func55 rfl (by decide) (nt := 26) rfl (rs := [.cell 2 45]) rfl (nle rfl) ?_
  (repeat (first|apply zO (by decide +kernel)|apply zP (by decide +kernel)|((fail_if_success refine is_bl ?_);apply zS;(case h=>constructor<;>decide))|((first|apply l_go rfl|apply c_dec);(case hs=>(simp (disch := first|omega|exact kD rfl|exact kX rfl) only [smY,simprocAttr,bl,i64,hw1];exact rfl));first|refine c_bt ?_|refine c_bf ?_|refine zq ?_)))
  apply w_seq
  apply w_block
  by_cases m0 : m = 0
  ·subst m0
   refine loop_done (s' := ?_) (e := .exit 0) (by simp) (fun Φ hΦ => ?_) ?_
   rotate_left
   ·(repeat(first|refine zW ?_|refine zG3 ?_|refine zD3 ?_|refine zT3 ?_))
    exact hΦ
   (repeat(first|refine zW ?_|refine zG3 ?_|refine zD3 ?_|refine zT3 ?_))
   refine zR3 ?_
   simp (disch := first|omega|exact kD rfl|exact kX rfl) only [smY,simprocAttr,bl,i64]
   rw [digs_zero]
   rfl
  ·skip
   refine loop_more (s' := ?_) (fun Φ hΦ => ?_) ?_
   rotate_left
   ·(repeat(first|refine zW ?_|refine zG3 ?_|refine zD3 ?_|refine zT3 ?_))
    exact hΦ
   by_cases m1 : m / 4294967296 = 0
   ·rw [digs_small m0 (by omega)]
    have hd : (m : Int) / 4294967296 = 0 := by omega
    refine loop_done (s' := ?_) (e := .exit 0) (by simp) (fun Φ hΦ => ?_) ?_
    rotate_left
    ·(repeat(first|refine zW ?_|refine zG3 ?_|refine zD3 ?_|refine zT3 ?_))
     exact hΦ
    (repeat(first|refine zW ?_|refine zG3 ?_|refine zD3 ?_|refine zT3 ?_))
    refine zR3 ?_
    simp (disch := first|omega|exact kD rfl|exact kX rfl) only [smY,simprocAttr,bl,i64]
    simp [dg,dgs,wrap_u32_mod]
   ·rw [digs_pos m0,digs_small m1 (by omega)]
    have hd : (m : Int) / 4294967296 / 4294967296 = 0 := by omega
    refine loop_more (s' := ?_) (fun Φ hΦ => ?_) ?_
    rotate_left
    ·(repeat(first|refine zW ?_|refine zG3 ?_|refine zD3 ?_|refine zT3 ?_))
     exact hΦ
    refine loop_done (s' := ?_) (e := .exit 0) (by simp) (fun Φ hΦ => ?_) ?_
    rotate_left
    ·(repeat(first|refine zW ?_|refine zG3 ?_|refine zD3 ?_|refine zT3 ?_))
     exact hΦ
    (repeat(first|refine zW ?_|refine zG3 ?_|refine zD3 ?_|refine zT3 ?_))
    refine zR3 ?_
    simp (disch := first|omega|exact kD rfl|exact kX rfl) only [smY,simprocAttr,bl,i64]
    simp [dg,dgs,wrap_u32_mod]
attribute [local irreducible] sg mg
theorem baseQ_good (n : Int) (h : -9223372036854775808 ≤ n ∧ n ≤ 9223372036854775807) : PureGood Tryz.prog 50 [i64 n] (encQ n) := by
 have h1 := baseZ_good n h
 have h2 := baseZ_good 1 (by omega)
 rw [encQ_sm,Rat.num_intCast,Rat.den_intCast,Int.natCast_one]
 rw [encI_sm,i64] at *
 refine good_of_lwp mix Tryz.func50 rfl (by decide) (nt := 7) rfl (rs := [.cell 2 47]) rfl (nle rfl) ?_
 (repeat(first|refine zW ?_|refine zG4 ?_|refine zD4 ?_|refine zT4 ?_))
 exact zQ4
theorem sameRat_good (p q : Rat) (hp : lq p ≤ 1099511627776) (hq : lq q ≤ 1099511627776) : PureGood Tryz.prog 22 [encQ p,encQ q] (bl (decide (p = q))) := by
 unfold lq at hp hq
 have h1 := sameInt_good p.num q.num (by omega) (by omega)
 have h2 := sameInt_good p.den q.den (by omega) (by omega)
 have he : p = q ↔ p.num = q.num ∧ (p.den : Int) = q.den := ⟨fun e => by subst e;exact ⟨rfl,rfl⟩,fun e => Rat.ext e.1 (by omega)⟩
 simp only [encI_sm,encQ_sm,he,bl] at *
 clear he
 generalize (p.den : Int) = dp at *
 generalize (q.den : Int) = dq at *
 generalize p.num = np at *
 generalize q.num = nq at *
 by_cases h3 : np = nq
 ·have h3' : decide (np = nq) = true := by simpa using h3
  rw [h3'] at h1
  simp only [h3,true_and] at *
  refine good_of_lwp mix Tryz.func22 rfl (by decide) (nt := 17) rfl (rs := [.tmp 4]) rfl (nle rfl) ?_
  (repeat(first|refine zW ?_|refine zG4 ?_|refine zD4 ?_|refine zT4 ?_))
  exact zQ4
 ·have h3' : decide (np = nq) = false := by simpa using h3
  rw [h3'] at h1
  simp only [h3,false_and,decide_false] at *
  refine good_of_lwp mix Tryz.func22 rfl (by decide) (nt := 17) rfl (rs := [.tmp 4]) rfl (nle rfl) ?_
  (repeat(first|refine zW ?_|refine zG4 ?_|refine zD4 ?_|refine zT4 ?_))
  refine l_cskip rfl (by decide) rfl ?_
  (repeat(first|refine zW ?_|refine zG4 ?_|refine zD4 ?_|refine zT4 ?_))
  exact zQ4
end Go.Proofs.YtaidcaemdkncgaaGreatDoor
namespace Go.Num
def ch : Nat → Nat → Nat
 | _,0 => 1
 | 0,_ + 1 => 0
 | n + 1,k + 1 => ch n k + ch n (k + 1)
theorem ch_zero (n : Nat) : ch n 0 = 1 := by cases n <;> rfl
theorem ch_gt : ∀ (n k : Nat),n < k → ch n k = 0
 | 0,k + 1,_ => rfl
 | n + 1,k + 1,h => by rw [ch,ch_gt n k (by omega),ch_gt n (k + 1) (by omega)]
theorem ch_self : ∀ n : Nat,ch n n = 1
 | 0 => rfl
 | n + 1 => by rw [ch,ch_self n,ch_gt n (n + 1) (by omega)]
theorem ch_le : ∀ n k : Nat,ch n k ≤ 2 ^ n
 | n,0 => by rw [ch_zero];exact Nat.one_le_two_pow
 | 0,k + 1 => by simp [ch]
 | n + 1,k + 1 => by
   have h1 := ch_le n k
   have h2 := ch_le n (k + 1)
   rw [ch,Nat.pow_succ]
   omega
theorem ch_mul : ∀ n k : Nat,ch n (k + 1) * (k + 1) = ch n k * (n - k)
 | 0,k => by simp [ch]
 | n + 1,0 => by
   have h := ch_mul n 0
   rw [ch_zero] at h ⊢
   rw [ch,ch_zero]
   omega
 | n + 1,k + 1 => by
   have h1 := ch_mul n k
   have h2 := ch_mul n (k + 1)
   rw [ch,ch.eq_3 n k]
   rw [Nat.add_mul,h2,Nat.mul_succ (ch n (k + 1)) (k + 1),h1,Nat.add_mul]
   by_cases h : k + 1 ≤ n
   · obtain ⟨j,rfl⟩ : ∃ j,n = k + 1 + j := ⟨n - (k + 1),by omega⟩
     rw [show k + 1 + j - k = j + 1 by omega,show k + 1 + j - (k + 1) = j by omega,show k + 1 + j + 1 - (k + 1) = j + 1 by omega,Nat.mul_succ (ch (k + 1 + j) (k + 1)) j]
     omega
   · rw [ch_gt n (k + 1) (by omega),show n - k = 0 by omega,show n + 1 - (k + 1) = 0 by omega]
     omega
def rowP (n k : Nat) : List Int := (List.range k).map fun j => (ch n j : Int)
theorem rowP_length (n k : Nat) : (rowP n k).length = k := by simp [rowP]
theorem rowP_succ (n k : Nat) : rowP n (k + 1) = rowP n k ++ [(ch n k : Int)] := by simp [rowP,List.range_succ]
theorem rowP_getD {n k j : Nat} (h : j < k) : (rowP n k).getD j 0 = ch n j := by simp [rowP,h]
def bL : Int := 117288381359406970983270
def bU : List Int := [117288381359406970983270,-58644190679703485491635,19548063559901161830545,0,-3909612711980232366109,0,2792580508557308832935,0,-3909612711980232366109,0,8885483436318709922975,0,-29687278944816929285509,0,136836444919308132813815,0,-831827598778382380483309,0,6447480482572814030229455,0,-62060125931961850334423509,0,726264105946166152143673895,0,-10154857745376400364660802109,0,167196601078381306956319931135,0,-3201765335919225172319660547109,0,70558446956583857937898967065175,0,-1772968208439921418506649377818509,0,50388806092943619857172626414420015,0,-1608217844763097977263566777424008309,0,57275707257898363866531649321536619655,0,-2263264556789521123807814394864273740509,0,98720815151383560847395902019358601568095,0,-4731187154922086023514472442331162912871109,0,248073707230031824271815688716185260902449335,0,-14176208608958377565787153081487291535638488109,0,879764519439969048939855863579482941685333727375,0,-59099012755194024999880431893589136769594730911509,0,4284401066943885675566805652970005387196639671146215,0,-334257452221961966008565390215914584966870907637693309,0,27991373618881717075294980054448641465401013587915729855,0,-2509965409553402879582773192133475171882497240453229617509]
def bq (j : Nat) : Rat := Rat.divInt (bU.getD j 0) bL
def isum (n : Nat) : Nat → Int
 | 0 => 0
 | k + 1 => isum n k + (ch n k : Int) * bU.getD k 0
def bsum (n k : Nat) : Rat := Rat.divInt (isum n k) bL
def bn (k : Nat) : List Rat := (List.range k).map bq
theorem bn_length (k : Nat) : (bn k).length = k := by simp [bn]
theorem bn_succ (k : Nat) : bn (k + 1) = bn k ++ [bq k] := by simp [bn,List.range_succ]
theorem bn_getD {k j : Nat} (h : j < k) : (bn k).getD j 0 = bq j := by simp [bn,h]
theorem bL_ne : bL ≠ 0 := by decide
theorem bsum_zero (n : Nat) : bsum n 0 = 0 := by rw [bsum,isum,Rat.zero_divInt]
theorem divInt_lin (a c u L : Int) : Rat.divInt (a + c * u) L = Rat.divInt a L + (c : Rat) * Rat.divInt u L := by
 rw [Rat.divInt_eq_div,Rat.divInt_eq_div,Rat.divInt_eq_div,Rat.intCast_add,Rat.intCast_mul,Rat.div_def,Rat.div_def,Rat.div_def,Rat.add_mul,Rat.mul_assoc]
theorem bsum_succ (n k : Nat) : bsum n (k + 1) = bsum n k + ((ch n k : Int) : Rat) * bq k := by
 rw [bsum,isum,divInt_lin];rfl
def nxt (l : List Nat) : List Nat := List.zipWith (· + ·) (0 :: l) (l ++ [0])
def prow : Nat → List Nat
 | 0 => [1]
 | n + 1 => nxt (prow n)
theorem prow_get : ∀ n k : Nat,(prow n)[k]? = if k ≤ n then some (ch n k) else none
 | 0,k => by
   cases k with
   | zero => rfl
   | succ k => simp [prow]
 | n + 1,k => by
   rw [prow,nxt,List.getElem?_zipWith]
   have hl : (prow n).length = n + 1 := by
     have h1 := prow_get n n
     have h2 := prow_get n (n + 1)
     rw [if_pos (Nat.le_refl _)] at h1
     rw [if_neg (by omega)] at h2
     obtain ⟨h3,_⟩ := List.getElem?_eq_some_iff.1 h1
     have := List.getElem?_eq_none_iff.1 h2
     omega
   cases k with
   | zero =>
     rw [List.getElem?_append_left (by omega),prow_get n 0]
     simp [ch_zero]
   | succ k =>
     rw [List.getElem?_cons_succ,prow_get n k]
     by_cases h1 : k + 1 ≤ n
     · rw [List.getElem?_append_left (by omega),prow_get n (k + 1),if_pos h1,if_pos (by omega),if_pos (by omega)]
       simp [ch]
     · by_cases h2 : k ≤ n
       · obtain rfl : k = n := by omega
         rw [List.getElem?_append_right (by omega),hl,if_pos h2,if_pos (by omega)]
         simp [ch,ch_gt k (k + 1) (by omega)]
       · rw [if_neg h2,if_neg (by omega)]
def dot : Nat → List Nat → List Int → Int
 | 0,_,_ => 0
 | k + 1,c,l => (c.headD 0 : Int) * l.headD 0 + dot k c.tail l.tail
theorem dot_last : ∀ (k : Nat) (c : List Nat) (l : List Int),dot (k + 1) c l = dot k c l + (c.getD k 0 : Int) * l.getD k 0
 | 0,c,l => by cases c <;> cases l <;> simp [dot]
 | k + 1,c,l => by
   rw [dot,dot_last k c.tail l.tail,dot]
   cases c <;> cases l <;> simp <;> omega
theorem dot_isum (n : Nat) : ∀ k : Nat,k ≤ n + 1 → dot k (prow n) bU = isum n k
 | 0,_ => rfl
 | k + 1,h => by
   rw [dot_last,dot_isum n k (by omega),isum,List.getD_eq_getElem?_getD,prow_get,if_pos (by omega)]
   rfl
theorem bU_check : (List.range 60).all (fun m => decide (dot (m + 1) (prow (m + 2)) bU = (-((m + 1 : Nat) : Int) - 1) * bU.getD (m + 1) 0)) = true := by decide +kernel
theorem isum_last {m : Nat} (h0 : 0 < m) (h : m ≤ 60) : isum (m + 1) m = (-(m : Int) - 1) * bU.getD m 0 := by
 obtain ⟨k,rfl⟩ : ∃ k,m = k + 1 := ⟨m - 1,by omega⟩
 have := List.all_eq_true.1 bU_check k (List.mem_range.2 (by omega))
 rw [← dot_isum _ _ (by omega)]
 exact of_decide_eq_true this
theorem bq_step {m : Nat} (h0 : 0 < m) (h : m ≤ 60) : bsum (m + 1) m / ((-(m : Int) - 1 : Int) : Rat) = bq m := by
 have hne : ((-(m : Int) - 1 : Int) : Rat) ≠ 0 := by
  intro e
  have : (-(m : Int) - 1 : Int) = 0 := by exact_mod_cast e
  omega
 rw [bsum,isum_last h0 h,bq,Rat.divInt_eq_div,Rat.divInt_eq_div,Rat.intCast_mul,Rat.div_def,Rat.div_def,Rat.div_def,Rat.mul_assoc,Rat.mul_comm,Rat.mul_assoc,← Rat.mul_assoc _ ((-(m : Int) - 1 : Int) : Rat),Rat.inv_mul_cancel _ hne,Rat.one_mul,Rat.mul_comm]
theorem bU_small' : bU.all (fun u => Nat.ble (u.natAbs + 1) (2 ^ 200)) = true := by decide +kernel
theorem bU_lt (j : Nat) : (bU.getD j 0).natAbs < 2 ^ 200 := by
 by_cases h : j < bU.length
 ·have h1 := List.all_eq_true.1 bU_small' bU[j] (List.getElem_mem h)
  have e : bU.getD j 0 = bU[j] := by simp [h]
  rw [e]
  exact Nat.le_of_ble_eq_true h1
 ·have e : bU.getD j 0 = 0 := by simp [Nat.le_of_not_lt h]
  rw [e]
  exact Nat.two_pow_pos _
theorem isum_lt (n : Nat) : ∀ k : Nat,(isum n k).natAbs ≤ k * (2 ^ n * 2 ^ 200)
 | 0 => by simp [isum]
 | k + 1 => by
   have h1 := isum_lt n k
   have h2 := Nat.mul_le_mul (ch_le n k) (Nat.le_of_lt (bU_lt k))
   have h3 : ((ch n k : Int) * bU.getD k 0).natAbs = ch n k * (bU.getD k 0).natAbs := by rw [Int.natAbs_mul,Int.natAbs_natCast]
   have h4 := Int.natAbs_add_le (isum n k) ((ch n k : Int) * bU.getD k 0)
   rw [isum,Nat.succ_mul]
   omega
theorem len_pow_lt {a : Int} {e : Nat} (h : a.natAbs < 2 ^ (32 * e)) : len a ≤ e := by
 rw [Nat.pow_mul] at h
 exact length_digs_le h
theorem bL_len : len bL ≤ 3 := len_pow_lt (e := 3) (by decide)
theorem pow_three {x a b c d : Nat} (hx : x ≤ 2 ^ a) (h : a + (b + c) < d) : x * (2 ^ b * 2 ^ c) < 2 ^ d := by
 have h5 : x * (2 ^ b * 2 ^ c) ≤ 2 ^ a * (2 ^ b * 2 ^ c) := Nat.mul_le_mul_right _ hx
 rw [← Nat.pow_add,← Nat.pow_add] at h5
 rw [← Nat.pow_add]
 exact Nat.lt_of_le_of_lt h5 (Nat.pow_lt_pow_right (by omega) h)
theorem len_three {z : Int} {x a b c e : Nat} (hz : z.natAbs ≤ x * (2 ^ b * 2 ^ c)) (hx : x ≤ 2 ^ a) (h : a + (b + c) < 32 * e) : len z ≤ e :=
 len_pow_lt (Nat.lt_of_le_of_lt hz (pow_three hx h))
theorem lq_bsum {n k : Nat} (hn : n ≤ 100) (hk : k ≤ 100) : lq (bsum n k) ≤ 20 := by
 have h1 := isum_lt n k
 have h2 : 2 ^ n ≤ 2 ^ 100 := Nat.pow_le_pow_right (by omega) hn
 have h3 : k * (2 ^ n * 2 ^ 200) ≤ 100 * (2 ^ 100 * 2 ^ 200) := Nat.mul_le_mul hk (Nat.mul_le_mul_right _ h2)
 have h4 : len (isum n k) ≤ 14 := len_three (Nat.le_trans h1 h3) (a := 7) (by decide) (by decide)
 have h5 := lq_divInt (n := isum n k) bL_ne
 have := bL_len
 rw [bsum]
 unfold lq
 omega
theorem lq_bq (j : Nat) : lq (bq j) ≤ 20 := by
 have h4 : len (bU.getD j 0) ≤ 7 := len_pow_lt (e := 7) (Nat.lt_of_lt_of_le (bU_lt j) (Nat.pow_le_pow_right (by omega) (by omega)))
 have h5 := lq_divInt (n := bU.getD j 0) bL_ne
 have := bL_len
 rw [bq]
 unfold lq
 omega
theorem len_ch {n : Nat} (hn : n ≤ 100) (k : Nat) : len (ch n k : Int) ≤ 4 := by
 refine len_pow_lt (e := 4) ?_
 rw [Int.natAbs_natCast]
 exact Nat.lt_of_le_of_lt (Nat.le_trans (ch_le n k) (Nat.pow_le_pow_right (by omega) hn)) (Nat.pow_lt_pow_right (by omega) (by omega))
end Go.Num
namespace Go.Proofs.YtaidcaemdkncgaaGreatDoor
open Go Go.Lg Go.Num
def ic (l : List Int) : List LV := l.flatMap fun z => [sg z,mg z]
def qc (l : List Rat) : List LV := l.flatMap qcells
def encL (l : List Int) : LV := .sl l.length (ic l)
theorem encF_qc (f : List Rat) : encF f = .sl f.length (qc f) := rfl
theorem ic_len (l : List Int) : (ic l).length = l.length * 2 := by induction l with
 | nil => rfl
 | cons a l ih => rw [ic,List.flatMap_cons,List.length_append];rw [ic] at ih;rw [ih,List.length_cons];simp;omega
theorem qc_len (l : List Rat) : (qc l).length = l.length * 4 := by induction l with
 | nil => rfl
 | cons a l ih => rw [qc,List.flatMap_cons,List.length_append];rw [qc] at ih;rw [ih,List.length_cons];simp [qcells];omega
theorem ic_take {l : List Int} {m : Nat} (h : m = l.length * 2) : (ic l).take m = ic l := List.take_of_length_le (by rw [ic_len];omega)
theorem qc_take {l : List Rat} {m : Nat} (h : m = l.length * 4) : (qc l).take m = qc l := List.take_of_length_le (by rw [qc_len];omega)
theorem ic_app (l : List Int) (x : Int) : ic l ++ [sg x,mg x] = ic (l ++ [x]) := by simp [ic]
theorem qc_app (l : List Rat) (x : Rat) : qc l ++ [sg x.num,mg x.num,sg (x.den : Int),mg (x.den : Int)] = qc (l ++ [x]) := by simp [qc,qcells_sm]
theorem qc_one (x : Rat) : [sg x.num,mg x.num,sg (x.den : Int),mg (x.den : Int)] = qc [x] := by simp [qc,qcells_sm]
theorem ic_drop : ∀ (l : List Int) (j : Nat),(ic l).drop (j * 2) = ic (l.drop j)
 | [],j => by simp [ic]
 | q :: f,0 => by simp
 | q :: f,j + 1 => by
   rw [show (j + 1) * 2 = 2 + j * 2 by omega,← List.drop_drop,List.drop_succ_cons,← ic_drop f j]
   rfl
theorem qc_drop (l : List Rat) (j : Nat) : (qc l).drop (j * 4) = qc (l.drop j) := encF_drop l j
theorem ic_td {l : List Int} {j : Nat} (h : j < l.length) : ((ic l).drop (j * 2)).take 2 = [sg (l.getD j 0),mg (l.getD j 0)] := by
 rw [ic_drop,List.drop_eq_getElem_cons h]
 have : l.getD j 0 = l[j] := by simp [h]
 rw [this]
 simp only [ic,List.flatMap_cons]
 simp
theorem qc_td {l : List Rat} {j : Nat} (h : j < l.length) : ((qc l).drop (j * 4)).take 4 = [sg (l.getD j 0).num,mg (l.getD j 0).num,sg ((l.getD j 0).den : Int),mg ((l.getD j 0).den : Int)] := by
 rw [qc_drop,List.drop_eq_getElem_cons h]
 have : l.getD j 0 = l[j] := by simp [h]
 rw [this]
 simp only [qc,List.flatMap_cons,qcells_sm]
 simp
theorem ic_t0 {l : List Int} (h : 0 < l.length) : (ic l).take 2 = [sg (l.getD 0 0),mg (l.getD 0 0)] := by
 have := ic_td h
 rwa [Nat.zero_mul,List.drop_zero] at this
theorem qc_t0 {l : List Rat} (h : 0 < l.length) : (qc l).take 4 = [sg (l.getD 0 0).num,mg (l.getD 0 0).num,sg ((l.getD 0 0).den : Int),mg ((l.getD 0 0).den : Int)] := by
 have := qc_td h
 rwa [Nat.zero_mul,List.drop_zero] at this
theorem pure_sg (z : Int) : pureC (sg z) = true := rfl
theorem pure_mg (z : Int) : pureC (mg z) = true := rfl
theorem ic_all {Q : LV → Prop} (h1 : ∀ z,Q (sg z)) (h2 : ∀ z,Q (mg z)) (l : List Int) : ∀ c ∈ ic l,Q c := by
 intro c hc
 simp only [ic,List.mem_flatMap,List.mem_cons,List.not_mem_nil,or_false] at hc
 obtain ⟨x,_,rfl | rfl⟩ := hc
 ·exact h1 _
 ·exact h2 _
theorem qc_all {Q : LV → Prop} (h1 : ∀ z,Q (sg z)) (h2 : ∀ z,Q (mg z)) (l : List Rat) : ∀ c ∈ qc l,Q c := by
 intro c hc
 simp only [qc,List.mem_flatMap,qcells_sm,List.mem_cons,List.not_mem_nil,or_false] at hc
 obtain ⟨x,_,rfl | rfl | rfl | rfl⟩ := hc
 ·exact h1 _
 ·exact h2 _
 ·exact h1 _
 ·exact h2 _
theorem pvs_ic {h : Nat → Option Blk} {ok : Nat → Bool} {k : Nat} (l : List Int) : pvs h ok (k + 1) (ic l) = some (ic l,[]) := pvs_pure (ic_all pure_sg pure_mg _)
theorem pvs_qc {h : Nat → Option Blk} {ok : Nat → Bool} {k : Nat} (l : List Rat) : pvs h ok (k + 1) (qc l) = some (qc l,[]) := pvs_pure (qc_all pure_sg pure_mg _)
theorem ic_plain (l : List Int) : (∀ c ∈ ic l,plainC c = true) = True := eq_true (ic_all s9 s10 _)
theorem qc_plain (l : List Rat) : (∀ c ∈ qc l,plainC c = true) = True := eq_true (qc_all s9 s10 _)
theorem ren_ic {nb : Nat} {ρ : Nat → Nat} (l : List Int) : renLs nb ρ (ic l) = some (ic l) := rens_plain (ic_all s9 s10 _)
theorem ren_qc {nb : Nat} {ρ : Nat → Nat} (l : List Rat) : renLs nb ρ (qc l) = some (qc l) := rens_plain (qc_all s9 s10 _)
def smT := And.intro ic_len (And.intro qc_len (And.intro @ic_take (And.intro @qc_take (And.intro @ic_td (And.intro @qc_td (And.intro @ic_t0 (And.intro @qc_t0 (And.intro @pvs_ic (And.intro @pvs_qc (And.intro ic_plain (And.intro qc_plain (And.intro @ren_ic (And.intro @ren_qc smS)))))))))))))
end Go.Proofs.YtaidcaemdkncgaaGreatDoor
namespace Go.Proofs.YtaidcaemdkncgaaGreatDoor
open Go Go.Lg Go.Num
attribute [local irreducible] Go.Lg.lrun Go.Lg.lwp Go.Lg.exThen Go.Lg.exBlk Go.Lg.keep Go.Lg.goodPost sg mg
theorem ch_step {n k : Nat} (h : k ≤ n) (h0 : 0 < k) : ((ch n (k - 1) : Int) * ((n : Int) + 1 - k)) / (k : Int) = ch n k ∧ ((ch n (k - 1) : Int) * ((n : Int) + 1 - k)) % (k : Int) = 0 := by
 obtain ⟨j,rfl⟩ : ∃ j,k = j + 1 := ⟨k - 1,by omega⟩
 have h1 := ch_mul n j
 rw [Nat.add_sub_cancel]
 have h2 : ((n : Int) + 1 - ((j + 1 : Nat) : Int)) = ((n - j : Nat) : Int) := by omega
 rw [h2,← Int.natCast_mul,← h1,Int.natCast_mul]
 exact ⟨Int.mul_ediv_cancel _ (by omega),Int.mul_emod_left _ _⟩
theorem row_good (n : Nat) (hn : n ≤ 64) : PureGood Tryz.prog 218 [i64 n] (encL (rowP n (n + 1))) := by
 have h1 := of_good 1 (by omega)
 rw [encL,rowP_length]
 rw [encI_sm,i64] at *
 refine good_of_lwp mix Tryz.func218 rfl (by decide) (nt := 36) rfl (rs := [.tmp 2]) rfl (nle rfl) ?_
 (repeat(first|refine zW ?_|refine zG1 ?_|refine zD1 ?_|refine zT1 ?_))
 refine w_loop (α := {k : Nat // 0 < k ∧ k ≤ n + 1}) (fun k => st 36 (lk [(0,i64 n),(2,nilL),(3,.own 0 0 k.1 2),(4,i64 k.1)]) (lkH [(0,⟨45,ic (rowP n k.1),false⟩)]) 1) (fun k => n + 1 - k.1) ⟨1,by omega,by omega⟩ ?_ ?_
 ·(refine Sub.heap1 2 ?_ (by simp only [smF,dg,renL,renLs,simprocAttr,bl,i64,smT];exact rfl) ?_ ?_;all_goals (first | exact dgs_plain _ | with_reducible rfl | (simp only [smF,dg,renL,renLs,simprocAttr,bl,i64,smT])|skip))
  simp [rowP,ic,ch_zero]
 ·rintro ⟨k,hk0,hk⟩
  simp only [st]
  have hl := rowP_length n k
  by_cases hlt : k ≤ n
  ·have hlc := len_ch (show n ≤ 100 by omega) (k - 1)
   have g1 := of_good ((n : Int) + 1 - k) (by omega)
   have g2 := of_good (k : Int) (by omega)
   have hs1 : len ((n : Int) + 1 - k) ≤ 1 := len_pow_lt (e := 1) (by omega)
   have hs2 : len (k : Int) ≤ 1 := len_pow_lt (e := 1) (by omega)
   have hlm := len_mul (ch n (k - 1) : Int) ((n : Int) + 1 - k)
   have g3 := mul_good (ch n (k - 1)) ((n : Int) + 1 - k) (by omega) (by omega)
   obtain ⟨e1,e2⟩ := ch_step hlt hk0
   have g4 := exact_good ((ch n (k - 1) : Int) * ((n : Int) + 1 - k)) k (by omega) e2 (by omega) (by omega)
   rw [e1] at g4
   have hget : (rowP n k).getD (k - 1) 0 = (ch n (k - 1) : Int) := rowP_getD (by omega)
   have happ := rowP_succ n k
   simp only [encI_sm,i64] at g1 g2 g3 g4
   (repeat (first|refine zW ?_|((first|apply l_go rfl|apply c_dec|apply zT rfl (by decide) rfl);(case hs=>(simp (disch := first|omega|exact kD rfl|exact kX rfl) only [smY,simprocAttr,bl,i64,smT,hget];exact rfl));first|refine c_bt ?_|refine c_bf ?_|refine zq ?_|(case hg=>assumption))))
   refine ⟨⟨k + 1,by omega,by omega⟩,?_,by simp only;omega⟩
   (refine Sub.heap1 27 ?_ (by simp only [smF,dg,renL,renLs,simprocAttr,bl,i64,smT];exact rfl) ?_ ?_;all_goals (first | exact dgs_plain _ | with_reducible rfl | (simp only [smF,dg,renL,renLs,simprocAttr,bl,i64,smT])|skip))
   rw [happ,← ic_app]
  ·obtain rfl : k = n + 1 := by omega
   (repeat(first|refine zW ?_|refine zG1 ?_|refine zD1 ?_|refine zT1 ?_))
   exact zQ1
theorem rRow_good (n : Nat) (hn : n ≤ 64) : PureGood Tryz.prog 235 [i64 n] (encL (rowP n (n + 1))) := by
 have h1 := baseZ_good 1 (by omega)
 rw [encL,rowP_length]
 rw [encI_sm,i64] at *
 refine good_of_lwp mix Tryz.func235 rfl (by decide) (nt := 40) rfl (rs := [.tmp 2]) rfl (nle rfl) ?_
 (repeat(first|refine zW ?_|refine zG1 ?_|refine zD1 ?_|refine zT1 ?_))
 refine w_loop (α := {i : Nat // i ≤ n}) (fun i => st 40 (lk [(0,i64 n),(2,nilL),(3,.own 0 0 (i.1 + 1) 2),(4,i64 i.1)]) (lkH [(0,⟨45,ic (rowP i.1 (i.1 + 1)),false⟩)]) 1) (fun i => n - i.1) ⟨0,by omega⟩ ?_ ?_
 ·(refine Sub.heap1 2 ?_ (by simp only [smF,dg,renL,renLs,simprocAttr,bl,i64,smT];exact rfl) ?_ ?_;all_goals (first | exact dgs_plain _ | with_reducible rfl | (simp only [smF,dg,renL,renLs,simprocAttr,bl,i64,smT])|skip))
  simp [rowP,ic,ch_zero]
 ·rintro ⟨i,hi⟩
  simp only [st]
  have hl := rowP_length i (i + 1)
  by_cases hlt : i < n
  ·(repeat(first|((fail_if_success refine is_bl ?_);refine zW ?_)|refine zG1 ?_|refine zD1 ?_))
   refine l_call rfl (by decide) rfl (by simp (disch := first|omega|exact kD rfl|exact kX rfl) only [smY,simprocAttr,bl,i64,smT];exact rfl) h1 ?_
   (repeat(first|((fail_if_success refine is_bl ?_);refine zW ?_)|refine zG1 ?_|refine zD1 ?_))
   refine w_loop (α := {k : Nat // 0 < k ∧ k ≤ i + 1}) (fun k => st 40 (lk [(0,i64 n),(2,nilL),(3,.own 0 0 (i + 1) 2),(4,i64 i),(5,.own 1 0 k.1 2),(6,i64 k.1)]) (lkH [(0,⟨45,ic (rowP i (i + 1)),false⟩),(1,⟨45,ic (rowP (i + 1) k.1),false⟩)]) 2) (fun k => i + 1 - k.1) ⟨1,by omega,by omega⟩ ?_ ?_
   ·(refine Sub.heapL [0,5] rfl (by decide) ?_ (by simp only [smL];decide) ?_ ?_;all_goals (first|(simp only [plainC,smF,dg,renL,renLs,simprocAttr,bl,i64,smT];done) | (simp only [smF,dg,renL,renLs,simprocAttr,bl,i64,smT];(repeat' apply And.intro);all_goals rfl) | (simp only [smF,dg,renL,renLs,simprocAttr,bl,i64,smT]) | skip))
    simp [rowP,ic,ch_zero]
   ·rintro ⟨k,hk0,hk⟩
    simp only [st]
    have hl2 := rowP_length (i + 1) k
    by_cases hkl : k ≤ i
    ·have c1 := len_ch (show i ≤ 100 by omega) (k - 1)
     have c2 := len_ch (show i ≤ 100 by omega) k
     have g1 := radd_good (ch i (k - 1)) (ch i k) (by omega) (by omega)
     have e1 : (rowP i (i + 1)).getD (k - 1) 0 = (ch i (k - 1) : Int) := rowP_getD (by omega)
     have e2 : (rowP i (i + 1)).getD k 0 = (ch i k : Int) := rowP_getD (by omega)
     have e3 : (ch i (k - 1) : Int) + (ch i k : Int) = (ch (i + 1) k : Int) := by
      obtain ⟨j,rfl⟩ : ∃ j,k = j + 1 := ⟨k - 1,by omega⟩
      rw [ch,Nat.add_sub_cancel,Int.natCast_add]
     rw [e3] at g1
     have happ := rowP_succ (i + 1) k
     simp only [encI_sm] at g1
     (repeat (first|refine zW ?_|((first|apply l_go rfl|apply c_dec|apply zT rfl (by decide) rfl);(case hs=>(simp (disch := first|omega|exact kD rfl|exact kX rfl) only [smY,simprocAttr,bl,i64,smT,e1,e2];exact rfl));first|refine c_bt ?_|refine c_bf ?_|refine zq ?_|(case hg=>assumption))))
     refine ⟨⟨k + 1,by omega,by omega⟩,?_,by simp only;omega⟩
     (refine Sub.heapL [0,18] rfl (by decide) ?_ (by simp only [smL];decide) ?_ ?_;all_goals (first|(simp only [plainC,smF,dg,renL,renLs,simprocAttr,bl,i64,smT];done) | (simp only [smF,dg,renL,renLs,simprocAttr,bl,i64,smT];(repeat' apply And.intro);all_goals rfl) | (simp only [smF,dg,renL,renLs,simprocAttr,bl,i64,smT]) | skip))
     rw [happ,← ic_app]
     exact ⟨trivial,rfl⟩
    ·obtain rfl : k = i + 1 := by omega
     have happ := rowP_succ (i + 1) (i + 1)
     rw [ch_self] at happ
     (repeat(first|refine zW ?_|refine zG1 ?_|refine zD1 ?_|refine zT1 ?_))
     refine ⟨⟨i + 1,by omega⟩,?_,by simp only;omega⟩
     (refine Sub.heap1 9 ?_ (by simp only [smF,dg,renL,renLs,simprocAttr,bl,i64,smT];exact rfl) ?_ ?_;all_goals (first | exact dgs_plain _ | with_reducible rfl | (simp only [smF,dg,renL,renLs,simprocAttr,bl,i64,smT])|skip))
     rw [happ,← ic_app]
     rfl
  ·obtain rfl : i = n := by omega
   (repeat(first|refine zW ?_|refine zG1 ?_|refine zD1 ?_|refine zT1 ?_))
   exact zQ1
end Go.Proofs.YtaidcaemdkncgaaGreatDoor
namespace Go.Proofs.YtaidcaemdkncgaaGreatDoor
open Go Go.Lg Go.Num
attribute [local irreducible] Go.Lg.lrun Go.Lg.lwp Go.Lg.exThen Go.Lg.exBlk Go.Lg.keep Go.Lg.goodPost sg mg bq bsum
theorem rat_inv_neg (a : Rat) : (-a)⁻¹ = -a⁻¹ := by
 rw [Rat.inv_def,Rat.inv_def,Rat.neg_num,Rat.neg_den,Rat.neg_divInt,Rat.divInt_neg']
theorem neg_div_cast {s : Rat} {m : Nat} : -s / (((m : Int) + 1 : Int) : Rat) = s / ((-(m : Int) - 1 : Int) : Rat) := by
 rw [show (-(m : Int) - 1 : Int) = -((m : Int) + 1) by omega,Rat.intCast_neg,Rat.div_def,Rat.div_def,rat_inv_neg,Rat.neg_mul,Rat.mul_neg]
theorem bq0 : bq 0 = 1 := by decide +kernel
theorem numbers_good (n : Nat) (hn : n ≤ 60) : PureGood Tryz.prog 128 [i64 n] (encF (bn (n + 1))) := by
 have h1 := qof_good 1 (by omega)
 have h0 := qof_good 0 (by omega)
 rw [encF_qc,bn_length]
 rw [show ((1 : Int) : Rat) = bq 0 by rw [bq0];rfl] at h1
 have hb1 : bn 1 = [bq 0] := rfl
 rw [encQ_sm,i64] at *
 refine good_of_lwp mix Tryz.func128 rfl (by decide) (nt := 53) rfl (rs := [.tmp 2]) rfl (nle rfl) ?_
 (repeat(first|refine zW ?_|refine zG1 ?_|refine zD1 ?_|refine zT1 ?_))
 refine w_loop (α := {m : Nat // 0 < m ∧ m ≤ n + 1}) (fun m => st 53 (lk [(0,i64 n),(2,nilL),(3,.own 0 0 m.1 4),(4,i64 m.1)]) (lkH [(0,⟨47,qc (bn m.1),false⟩)]) 1) (fun m => n + 1 - m.1) ⟨1,by omega,by omega⟩ ?_ ?_
 ·(refine Sub.heap1 2 ?_ (by simp only [smF,dg,renL,renLs,simprocAttr,bl,i64,smT];exact rfl) ?_ ?_;all_goals (first | exact dgs_plain _ | with_reducible rfl | (simp only [smF,dg,renL,renLs,simprocAttr,bl,i64,smT])|skip))
  rw [hb1,← qc_one]
 ·rintro ⟨m,hm0,hm⟩
  simp only [st]
  have hl := bn_length m
  by_cases hlt : m ≤ n
  ·have hrow := row_good (m + 1) (by omega)
   rw [encL,rowP_length,i64] at hrow
   have hl2 := rowP_length (m + 1) (m + 1 + 1)
   (repeat(first|((fail_if_success refine is_bl ?_);refine zW ?_)|refine zG1 ?_|refine zD1 ?_))
   refine l_call rfl (by decide) rfl (by simp (disch := first|omega|exact kD rfl|exact kX rfl) only [smY,simprocAttr,bl,i64,smT];exact rfl) h0 ?_
   (repeat(first|((fail_if_success refine is_bl ?_);refine zW ?_)|refine zG1 ?_|refine zD1 ?_))
   refine l_call rfl (by decide) rfl (by simp (disch := first|omega|exact kD rfl|exact kX rfl) only [smY,simprocAttr,bl,i64,smT];exact rfl) hrow ?_
   (repeat(first|((fail_if_success refine is_bl ?_);refine zW ?_)|refine zG1 ?_|refine zD1 ?_))
   refine w_loop (α := {k : Nat // k ≤ m}) (fun k => st 53 (lk [(0,i64 n),(2,nilL),(3,.own 0 0 m 4),(4,i64 m),(5,.ptr 1 0),(6,.sl (m + 1 + 1) (ic (rowP (m + 1) (m + 1 + 1)))),(22,.own 0 0 m 4),(23,i64 m),(24,i64 k.1)]) (lkH [(0,⟨47,qc (bn m),false⟩),(1,⟨47,[sg (bsum (m + 1) k.1).num,mg (bsum (m + 1) k.1).num,sg ((bsum (m + 1) k.1).den : Int),mg ((bsum (m + 1) k.1).den : Int)],false⟩)]) 2) (fun k => m - k.1) ⟨0,by omega⟩ ?_ ?_
   ·(refine Sub.heapL [0,5] rfl (by decide) ?_ (by simp only [smL];decide) ?_ ?_;all_goals (first|(simp only [plainC,smF,dg,renL,renLs,simprocAttr,bl,i64,smT];done) | (simp only [smF,dg,renL,renLs,simprocAttr,bl,i64,smT];(repeat' apply And.intro);all_goals rfl) | (simp only [smF,dg,renL,renLs,simprocAttr,bl,i64,smT]) | skip))
    simp only [bsum_zero]
    exact ⟨trivial,rfl⟩
   ·rintro ⟨k,hk⟩
    simp only [st]
    by_cases hkl : k < m
    ·have c1 := len_ch (show m + 1 ≤ 100 by omega) k
     have c2 := lq_bsum (n := m + 1) (k := k) (by omega) (by omega)
     have c3 := lq_bq k
     have c4 := lq_mul ((ch (m + 1) k : Int) : Rat) (bq k)
     have c5 := lq_int (ch (m + 1) k : Int)
     have g1 := whole_good (ch (m + 1) k) (by omega)
     have g2 := qmul_good ((ch (m + 1) k : Int) : Rat) (bq k) (by omega) (by omega)
     have g3 := qadd_good (bsum (m + 1) k) (((ch (m + 1) k : Int) : Rat) * bq k) (by omega) (by omega)
     rw [← bsum_succ] at g3
     have e1 : (rowP (m + 1) (m + 1 + 1)).getD k 0 = (ch (m + 1) k : Int) := rowP_getD (by omega)
     have e2 : (bn m).getD k 0 = bq k := bn_getD hkl
     simp only [encI_sm,encQ_sm] at g1 g2 g3
     (repeat (first|refine zW ?_|((first|apply l_go rfl|apply c_dec|apply zT rfl (by decide) rfl);(case hs=>(simp (disch := first|omega|exact kD rfl|exact kX rfl) only [smY,simprocAttr,bl,i64,smT,e1,e2];exact rfl));first|refine c_bt ?_|refine c_bf ?_|refine zq ?_|(case hg=>assumption))))
     refine ⟨⟨k + 1,by omega⟩,?_,by simp only;omega⟩
     (refine Sub.heapL [0,1] rfl (by decide) ?_ (by simp only [smL];decide) ?_ ?_;all_goals (first|(simp only [plainC,smF,dg,renL,renLs,simprocAttr,bl,i64,smT];done) | (simp only [smF,dg,renL,renLs,simprocAttr,bl,i64,smT];(repeat' apply And.intro);all_goals rfl) | (simp only [smF,dg,renL,renLs,simprocAttr,bl,i64,smT]) | skip))
    ·obtain rfl : k = m := by omega
     have c2 := lq_bsum (n := k + 1) (k := k) (by omega) (by omega)
     have g1 := qof_good (-(k : Int) - 1) (by omega)
     have c3 := lq_int (-(k : Int) - 1)
     have c4 : len (-(k : Int) - 1) ≤ 1 := len_pow_lt (e := 1) (by omega)
     have hne : ((-(k : Int) - 1 : Int) : Rat) ≠ 0 := by
      intro e
      have : (-(k : Int) - 1 : Int) = 0 := by exact_mod_cast e
      omega
     have g2 := quo_good (bsum (k + 1) k) ((-(k : Int) - 1 : Int) : Rat) hne (by omega) (by omega)
     rw [bq_step hm0 (by omega)] at g2
     simp only [encQ_sm,i64] at g1 g2
     have happ := bn_succ k
     (repeat (first|refine zW ?_|((first|apply l_go rfl|apply c_dec|apply zT rfl (by decide) rfl);(case hs=>(simp (disch := first|omega|exact kD rfl|exact kX rfl) only [smY,simprocAttr,bl,i64,smT,Int.zero_sub];exact rfl));first|refine c_bt ?_|refine c_bf ?_|refine zq ?_|(case hg=>assumption))))
     refine ⟨⟨k + 1,by omega,by omega⟩,?_,by simp only;omega⟩
     (refine Sub.heap1 18 ?_ (by simp only [smF,dg,renL,renLs,simprocAttr,bl,i64,smT];exact rfl) ?_ ?_;all_goals (first | exact dgs_plain _ | with_reducible rfl | (simp only [smF,dg,renL,renLs,simprocAttr,bl,i64,smT])|skip))
     rw [happ,← qc_app]
  ·obtain rfl : m = n + 1 := by omega
   (repeat(first|refine zW ?_|refine zG1 ?_|refine zD1 ?_|refine zT1 ?_))
   exact zQ1
theorem rNumbers_good (n : Nat) (hn : n ≤ 60) : PureGood Tryz.prog 234 [i64 n] (encF (bn (n + 1))) := by
 have h1 := baseQ_good 1 (by omega)
 have h0 := baseQ_good 0 (by omega)
 rw [encF_qc,bn_length]
 rw [show ((1 : Int) : Rat) = bq 0 by rw [bq0];rfl] at h1
 have hb1 : bn 1 = [bq 0] := rfl
 rw [encQ_sm,i64] at *
 refine good_of_lwp mix Tryz.func234 rfl (by decide) (nt := 46) rfl (rs := [.tmp 2]) rfl (nle rfl) ?_
 (repeat(first|refine zW ?_|refine zG1 ?_|refine zD1 ?_|refine zT1 ?_))
 refine w_loop (α := {m : Nat // 0 < m ∧ m ≤ n + 1}) (fun m => st 46 (lk [(0,i64 n),(2,nilL),(3,.own 0 0 m.1 4),(4,i64 m.1)]) (lkH [(0,⟨47,qc (bn m.1),false⟩)]) 1) (fun m => n + 1 - m.1) ⟨1,by omega,by omega⟩ ?_ ?_
 ·(refine Sub.heap1 2 ?_ (by simp only [smF,dg,renL,renLs,simprocAttr,bl,i64,smT];exact rfl) ?_ ?_;all_goals (first | exact dgs_plain _ | with_reducible rfl | (simp only [smF,dg,renL,renLs,simprocAttr,bl,i64,smT])|skip))
  rw [hb1,← qc_one]
 ·rintro ⟨m,hm0,hm⟩
  simp only [st]
  have hl := bn_length m
  by_cases hlt : m ≤ n
  ·have hrow := rRow_good (m + 1) (by omega)
   rw [encL,rowP_length,i64] at hrow
   have hl2 := rowP_length (m + 1) (m + 1 + 1)
   (repeat(first|((fail_if_success refine is_bl ?_);refine zW ?_)|refine zG1 ?_|refine zD1 ?_))
   refine l_call rfl (by decide) rfl (by simp (disch := first|omega|exact kD rfl|exact kX rfl) only [smY,simprocAttr,bl,i64,smT];exact rfl) hrow ?_
   (repeat(first|((fail_if_success refine is_bl ?_);refine zW ?_)|refine zG1 ?_|refine zD1 ?_))
   refine l_call rfl (by decide) rfl (by simp (disch := first|omega|exact kD rfl|exact kX rfl) only [smY,simprocAttr,bl,i64,smT];exact rfl) h0 ?_
   (repeat(first|((fail_if_success refine is_bl ?_);refine zW ?_)|refine zG1 ?_|refine zD1 ?_))
   refine w_loop (α := {k : Nat // k ≤ m}) (fun k => st 46 (lk [(0,i64 n),(2,nilL),(3,.own 0 0 m 4),(4,i64 m),(5,.sl (m + 1 + 1) (ic (rowP (m + 1) (m + 1 + 1)))),(6,.ptr 1 0),(7,i64 k.1)]) (lkH [(0,⟨47,qc (bn m),false⟩),(1,⟨47,[sg (bsum (m + 1) k.1).num,mg (bsum (m + 1) k.1).num,sg ((bsum (m + 1) k.1).den : Int),mg ((bsum (m + 1) k.1).den : Int)],false⟩)]) 2) (fun k => m - k.1) ⟨0,by omega⟩ ?_ ?_
   ·(refine Sub.heapL [0,9] rfl (by decide) ?_ (by simp only [smL];decide) ?_ ?_;all_goals (first|(simp only [plainC,smF,dg,renL,renLs,simprocAttr,bl,i64,smT];done) | (simp only [smF,dg,renL,renLs,simprocAttr,bl,i64,smT];(repeat' apply And.intro);all_goals rfl) | (simp only [smF,dg,renL,renLs,simprocAttr,bl,i64,smT]) | skip))
    simp only [bsum_zero]
    exact ⟨trivial,rfl⟩
   ·rintro ⟨k,hk⟩
    simp only [st]
    by_cases hkl : k < m
    ·have c1 := len_ch (show m + 1 ≤ 100 by omega) k
     have c2 := lq_bsum (n := m + 1) (k := k) (by omega) (by omega)
     have c3 := lq_bq k
     have c4 := lq_mul ((ch (m + 1) k : Int) : Rat) (bq k)
     have c5 := lq_int (ch (m + 1) k : Int)
     have g1 := rwhole_good (ch (m + 1) k) (by omega)
     have g2 := rqmul_good ((ch (m + 1) k : Int) : Rat) (bq k) (by omega) (by omega)
     have g3 := rqadd_good (bsum (m + 1) k) (((ch (m + 1) k : Int) : Rat) * bq k) (by omega) (by omega)
     rw [← bsum_succ] at g3
     have e1 : (rowP (m + 1) (m + 1 + 1)).getD k 0 = (ch (m + 1) k : Int) := rowP_getD (by omega)
     have e2 : (bn m).getD k 0 = bq k := bn_getD hkl
     simp only [encI_sm,encQ_sm] at g1 g2 g3
     (repeat (first|refine zW ?_|((first|apply l_go rfl|apply c_dec|apply zT rfl (by decide) rfl);(case hs=>(simp (disch := first|omega|exact kD rfl|exact kX rfl) only [smY,simprocAttr,bl,i64,smT,e1,e2];exact rfl));first|refine c_bt ?_|refine c_bf ?_|refine zq ?_|(case hg=>assumption))))
     refine ⟨⟨k + 1,by omega⟩,?_,by simp only;omega⟩
     (refine Sub.heapL [0,1] rfl (by decide) ?_ (by simp only [smL];decide) ?_ ?_;all_goals (first|(simp only [plainC,smF,dg,renL,renLs,simprocAttr,bl,i64,smT];done) | (simp only [smF,dg,renL,renLs,simprocAttr,bl,i64,smT];(repeat' apply And.intro);all_goals rfl) | (simp only [smF,dg,renL,renLs,simprocAttr,bl,i64,smT]) | skip))
    ·obtain rfl : k = m := by omega
     have c2 := lq_bsum (n := k + 1) (k := k) (by omega) (by omega)
     have g0 := rqneg_good (bsum (k + 1) k) (by omega)
     have g1 := baseQ_good ((k : Int) + 1) (by omega)
     have c3 := lq_int ((k : Int) + 1)
     have c4 : len ((k : Int) + 1) ≤ 1 := len_pow_lt (e := 1) (by omega)
     have g2 := rratio_good (-bsum (k + 1) k) (((k : Int) + 1 : Int) : Rat) (by rw [lq_neg];omega) (by omega)
     rw [neg_div_cast,bq_step hm0 (by omega)] at g2
     simp only [encQ_sm,i64] at g0 g1 g2
     have happ := bn_succ k
     (repeat(first|refine zW ?_|refine zG1 ?_|refine zD1 ?_|refine zT1 ?_))
     refine ⟨⟨k + 1,by omega,by omega⟩,?_,by simp only;omega⟩
     (refine Sub.heap1 13 ?_ (by simp only [smF,dg,renL,renLs,simprocAttr,bl,i64,smT];exact rfl) ?_ ?_;all_goals (first | exact dgs_plain _ | with_reducible rfl | (simp only [smF,dg,renL,renLs,simprocAttr,bl,i64,smT])|skip))
     rw [happ,← qc_app]
  ·obtain rfl : m = n + 1 := by omega
   (repeat(first|refine zW ?_|refine zG1 ?_|refine zD1 ?_|refine zT1 ?_))
   exact zQ1
def bqN (n : Int) : Int := if 0 ≤ n ∧ n ≤ 60 then (bq n.toNat).num else 0
def bqD (n : Int) : Int := if 0 ≤ n ∧ n ≤ 60 then ((bq n.toNat).den : Int) else 0
def encB (n : Int) : LV := .tup [.agg [sg (bqN n),mg (bqN n),sg (bqD n),mg (bqD n)],i64 (if 0 ≤ n ∧ n ≤ 60 then 0 else 2)]
theorem number_good (n : Int) (h : -9223372036854775808 ≤ n ∧ n ≤ 9223372036854775807) : PureGood Tryz.prog 51 [i64 n] (encB n) := by
 skip
 rw [encB]
 by_cases hr : 0 ≤ n ∧ n ≤ 60
 ·obtain ⟨m,rfl⟩ : ∃ m : Nat,n = m := ⟨n.toNat,by omega⟩
  have hm : m ≤ 60 := by omega
  rw [bqN,bqD,if_pos hr,if_pos hr,if_pos hr,Int.toNat_natCast]
  have g1 := numbers_good m hm
  have hl := bn_length (m + 1)
  have e1 : (bn (m + 1)).getD m 0 = bq m := bn_getD (by omega)
  rw [encF_qc,bn_length] at g1
  rw [i64] at *
  refine good_of_lwp mix Tryz.func51 rfl (by decide) (nt := 16) rfl (rs := [.cell 2 47,.tmp 3]) rfl (nle rfl) ?_
  (repeat (first|refine zW ?_|((first|apply l_go rfl|apply c_dec|apply zT rfl (by decide) rfl);(case hs=>(simp (disch := first|omega|exact kD rfl|exact kX rfl) only [smY,simprocAttr,bl,i64,smT,e1];exact rfl));first|refine c_bt ?_|refine c_bf ?_|refine zq ?_|(case hg=>assumption))))
  ((first|apply g_ret|apply g_end);case hres => (simp only [smR];simp (disch := first|omega|exact kD rfl|exact kX rfl) only [smY,simprocAttr,bl,i64,smT,e1];exact rfl))
  simp (disch := first|omega|exact kD rfl|exact kX rfl) only [smY,simprocAttr,bl,i64,smT,e1]
 ·rw [bqN,bqD,if_neg hr,if_neg hr,if_neg hr,sg0,mg0]
  rw [i64] at *
  by_cases hneg : n < 0
  ·refine good_of_lwp mix Tryz.func51 rfl (by decide) (nt := 16) rfl (rs := [.cell 2 47,.tmp 3]) rfl (nle rfl) ?_
   (repeat(first|refine zW ?_|refine zG1 ?_|refine zD1 ?_|refine zT1 ?_))
   exact zQ1
  ·have hgt : 60 < n := by omega
   refine good_of_lwp mix Tryz.func51 rfl (by decide) (nt := 16) rfl (rs := [.cell 2 47,.tmp 3]) rfl (nle rfl) ?_
   (repeat(first|refine zW ?_|refine zG1 ?_|refine zD1 ?_|refine zT1 ?_))
   exact zQ1
end Go.Proofs.YtaidcaemdkncgaaGreatDoor
namespace Go.Proofs.YtaidcaemdkncgaaGreatDoor
open Go Go.Lg Go.Num
def dgF : Nat → Nat → List Nat
 | 0,_ => []
 | k + 1,n => match n with
   | 0 => []
   | m + 1 => fNat ((m + 1) % 4294967296) fun d => d :: fNat ((m + 1) / 4294967296) fun r => dgF k r
theorem dgF_eq : ∀ (k n : Nat),n < 4294967296 ^ k → dgF k n = digs n
 | 0,n,h => by
   obtain rfl : n = 0 := by simp at h;exact h
   rw [digs_zero];rfl
 | k + 1,0,_ => by rw [digs_zero];rfl
 | k + 1,m + 1,h => by
   rw [Nat.pow_succ] at h
   have := dgF_eq k ((m + 1) / 4294967296) (by omega)
   rw [dgF,fNat_eq,fNat_eq,this,← digs_pos (by omega)]
def rdD : LV → Option Nat
 | .lit (.int .u32 (.ofNat d)) => bif Nat.blt d 4294967296 then some d else none
 | _ => none
def rdDs : List LV → Option (List Nat)
 | [] => some []
 | c :: cs => match rdD c,rdDs cs with
   | some d,some ds => some (d :: ds)
   | _,_ => none
def lastNz : List Nat → Bool
 | [] => true
 | [d] => !(Nat.beq d 0)
 | _ :: ds => lastNz ds
def rdM : LV → Option Nat
 | .sl n cs => match rdDs cs with
   | some ds => bif Nat.beq n ds.length && lastNz ds then some (val ds) else none
   | none => none
 | _ => none
def rdI : LV → LV → Option Int
 | .lit (.bool false),m => (rdM m).map Int.ofNat
 | .lit (.bool true),m => match rdM m with
   | some (k + 1) => some (Int.negSucc k)
   | _ => none
 | _,_ => none
def rdQ : List LV → Option Rat
 | [a,b,c,d] => match rdI a b,rdI c d with
   | some n,some (.ofNat e) => fInt n fun n => fNat e fun e => if h : e ≠ 0 ∧ Nat.Coprime n.natAbs e then some ⟨n,e,h.1,h.2⟩ else none
   | _,_ => none
 | _ => none
def rdF : Nat → List LV → Option (List Rat)
 | 0,[] => some []
 | k + 1,a :: b :: c :: d :: r => match rdQ [a,b,c,d],rdF k r with
   | some q,some f => some (q :: f)
   | _,_ => none
 | _,_ => none
theorem rdD_ok {c : LV} {d : Nat} (h : rdD c = some d) : c = .lit (.int .u32 (d : Int)) ∧ d < 4294967296 := by
 unfold rdD at h
 split at h
 ·rename_i e
  cases hb : Nat.blt e 4294967296 with
  | true =>
    rw [hb] at h
    cases h
    exact ⟨rfl,Nat.le_of_ble_eq_true hb⟩
  | false => rw [hb] at h;cases h
 ·cases h
theorem rdDs_ok : ∀ {cs : List LV} {ds : List Nat},rdDs cs = some ds → cs = dgs ds ∧ OkD ds
 | [],ds,h => by cases h;exact ⟨rfl,OkD.nil⟩
 | c :: cs,ds,h => by
   unfold rdDs at h
   split at h
   · rename_i d ds' h1 h2
     cases h
     obtain ⟨e1,l1⟩ := rdD_ok h1
     obtain ⟨e2,l2⟩ := rdDs_ok h2
     subst e1
     subst e2
     exact ⟨rfl,OkD.cons l1 l2⟩
   · cases h
theorem lastNz_ok : ∀ {ds : List Nat},lastNz ds = true → ∀ h : ds ≠ [],ds.getLast h ≠ 0
 | [],_,h => absurd rfl h
 | [d],hl,_ => by
   simp only [lastNz,Bool.not_eq_true'] at hl
   intro e
   simp only [List.getLast_singleton] at e
   subst e
   cases hl
 | a :: b :: ds,hl,h => by
   rw [List.getLast_cons (by simp)]
   exact lastNz_ok (ds := b :: ds) hl (by simp)
theorem rdM_ok {m : LV} {n : Nat} (h : rdM m = some n) : m = dg (digs n) := by
 unfold rdM at h
 split at h
 ·rename_i k cs
  split at h
  ·rename_i ds hd
   obtain ⟨e1,e2⟩ := rdDs_ok hd
   cases hb : (Nat.beq k ds.length && lastNz ds) with
   | true =>
     rw [hb] at h
     cases h
     rw [Bool.and_eq_true] at hb
     have hk := Nat.eq_of_beq_eq_true hb.1
     rw [digs_val_last e2 (lastNz_ok hb.2),e1,hk]
     rfl
   | false => rw [hb] at h;cases h
  ·cases h
 ·cases h
theorem rdI_ok {a b : LV} {z : Int} (h : rdI a b = some z) : a = sg z ∧ b = mg z := by
 unfold rdI at h
 split at h
 ·obtain ⟨n,hn,rfl⟩ := Option.map_eq_some_iff.1 h
  rw [rdM_ok hn]
  refine ⟨?_,rfl⟩
  have : ¬ (Int.ofNat n < 0) := by simp
  simp [sg,bl]
 ·split at h
  ·rename_i k hk
   cases h
   rw [rdM_ok hk]
   refine ⟨?_,rfl⟩
   have : Int.negSucc k < 0 := Int.negSucc_lt_zero k
   simp [sg,bl]
  ·cases h
 ·cases h
theorem rdQ_ok {l : List LV} {q : Rat} (h : rdQ l = some q) : l = qcells q := by
 unfold rdQ at h
 split at h
 ·split at h
  ·rename_i a b c d n e h1 h2
   rw [fInt_eq,fNat_eq] at h
   split at h
   ·cases h
    obtain ⟨a1,a2⟩ := rdI_ok h1
    obtain ⟨a3,a4⟩ := rdI_ok h2
    rw [qcells_sm,a1,a2,a3,a4]
    rfl
   ·cases h
  ·cases h
 ·cases h
theorem rdF_ok : ∀ {k : Nat} {l : List LV} {f : List Rat},rdF k l = some f → l = f.flatMap qcells ∧ k = f.length
 | 0,[],f,h => by cases h;exact ⟨rfl,rfl⟩
 | 0,_ :: _,f,h => by cases h
 | k + 1,[],f,h => by cases h
 | k + 1,[_],f,h => by cases h
 | k + 1,[_,_],f,h => by cases h
 | k + 1,[_,_,_],f,h => by cases h
 | k + 1,a :: b :: c :: d :: r,f,h => by
   unfold rdF at h
   split at h
   · rename_i q f' h1 h2
     cases h
     have e1 := rdQ_ok h1
     obtain ⟨e2,e3⟩ := rdF_ok h2
     rw [List.flatMap_cons,← e1,← e2]
     exact ⟨rfl,by simp [e3]⟩
   · cases h
def fQ {α : Type} (q : Rat) (k : Rat → α) : α := fInt q.num fun n => fNat q.den fun e => if h : e ≠ 0 ∧ Nat.Coprime n.natAbs e then k ⟨n,e,h.1,h.2⟩ else k q
theorem fQ_eq {α : Type} (q : Rat) (k : Rat → α) : fQ q k = k q := by
 unfold fQ
 rw [fInt_eq,fNat_eq]
 split <;> rfl
def wrI (z : Int) : List LV := match z with
 | .ofNat n => [.lit (.bool false),dg (dgF 100 n)]
 | .negSucc n => [.lit (.bool true),dg (dgF 100 (n + 1))]
def wrQ (q : Rat) : LV := .agg (wrI q.num ++ wrI q.den)
theorem wrI_eq {z : Int} (h : z.natAbs < 4294967296 ^ 100) : wrI z = [sg z,mg z] := by
 unfold wrI
 split
 ·rename_i n
  rw [dgF_eq _ _ (by simpa using h)]
  simp [sg,mg,bl]
 ·rename_i n
  rw [dgF_eq 100 (n + 1) h]
  simp [sg,mg,bl]
def tiny (q : Rat) : Bool := Nat.ble (q.num.natAbs + 1) (4294967296 ^ 100) && Nat.ble (q.den + 1) (4294967296 ^ 100)
theorem tiny_lq {q : Rat} (h : tiny q = true) : lq q ≤ 200 := by
 unfold tiny at h
 rw [Bool.and_eq_true] at h
 have h1 := Nat.le_of_ble_eq_true h.1
 have h2 := Nat.le_of_ble_eq_true h.2
 unfold lq len
 rw [Int.natAbs_natCast]
 have := length_digs_le (n := q.num.natAbs) (k := 100) (by omega)
 have := length_digs_le (n := q.den) (k := 100) (by omega)
 omega
theorem wrQ_eq {q : Rat} (h : tiny q = true) : wrQ q = encQ q := by
 unfold tiny at h
 rw [Bool.and_eq_true] at h
 rw [wrQ,encQ_sm,wrI_eq (Nat.le_of_ble_eq_true h.1),wrI_eq (by rw [Int.natAbs_natCast];exact Nat.le_of_ble_eq_true h.2)]
 rfl
def horT (x : Rat) : List Rat → Option Rat
 | [] => some 0
 | c :: f => match horT x f with
   | some s => fQ (s * x) fun m => fQ (m + c) fun r => bif tiny m && tiny r && tiny c then some r else none
   | none => none
theorem horT_ok (x : Rat) : ∀ {f : List Rat} {r : Rat},horT x f = some r → r = hor f x ∧ (∀ c ∈ f,lq c ≤ 200) ∧ ∀ k,lq (hor (f.drop k) x) ≤ 200 ∧ lq (hor (f.drop k) x * x) ≤ 200 + lq x
 | [],r,h => by
   cases h
   refine ⟨rfl,by simp,fun k => ?_⟩
   rw [List.drop_nil]
   have : hor [] x = 0 := rfl
   rw [this,Rat.zero_mul]
   have : lq 0 ≤ 200 := tiny_lq (by decide +kernel)
   omega
 | c :: f,r,h => by
   unfold horT at h
   split at h
   · rename_i s hs
     obtain ⟨e1,e2,e3⟩ := horT_ok x hs
     rw [fQ_eq,fQ_eq] at h
     cases hb : (tiny (s * x) && tiny (s * x + c) && tiny c) with
     | true =>
       rw [hb] at h
       simp only [Bool.and_eq_true] at hb
       cases h
       have he : s * x + c = hor (c :: f) x := by rw [e1];rfl
       refine ⟨he,?_,fun k => ?_⟩
       · intro d hd
         rcases List.mem_cons.1 hd with rfl | hd
         · exact tiny_lq hb.2
         · exact e2 d hd
       · cases k with
         | zero =>
           rw [List.drop_zero,← he]
           have h1 := tiny_lq hb.1.2
           have h2 := lq_mul (s * x + c) x
           omega
         | succ k =>
           rw [List.drop_succ_cons]
           exact e3 k
     | false => rw [hb] at h;cases h
   · cases h
def orcEval (args : List LV) : Option LV :=
 match args with
 | [.sl n cs,.agg l] => match rdF n cs,rdQ l with
   | some f,some x => match horT x f with
     | some r => bif tiny x && tiny r && Nat.ble f.length 100 then some (wrQ r) else none
     | none => none
   | _,_ => none
 | _ => none
theorem orcEval_ok {args : List LV} {r : LV} (h : orcEval args = some r) : PureGood Tryz.prog 131 args r := by
 unfold orcEval at h
 split at h
 ·rename_i n cs l
  split at h
  ·rename_i f x h1 h2
   obtain ⟨e1,e2⟩ := rdF_ok h1
   have e3 := rdQ_ok h2
   split at h
   ·rename_i q hq
    obtain ⟨a1,a2,a3⟩ := horT_ok x hq
    cases hb : (tiny x && tiny q && Nat.ble f.length 100) with
    | true =>
      rw [hb] at h
      simp only [Bool.and_eq_true] at hb
      cases h
      have hx := tiny_lq hb.1.1
      have hl := Nat.le_of_ble_eq_true hb.2
      rw [wrQ_eq hb.1.2,a1,e1,e2,e3]
      exact eval_good f x (by omega) (by omega) (fun c hc => by have := a2 c hc;omega) (fun k => by have := (a3 k).1;omega) (fun k => by have := (a3 k).2;omega)
    | false => rw [hb] at h;cases h
   ·cases h
  ·cases h
 ·cases h
def orcQ2 (g : Rat → Rat → Rat) (args : List LV) : Option LV :=
 match args with
 | [.agg l,.agg m] => match rdQ l,rdQ m with
   | some x,some y => fQ (g x y) fun r => bif tiny x && tiny y && tiny r then some (wrQ r) else none
   | _,_ => none
 | _ => none
theorem orcQ2_ok {fid : FuncId} {g : Rat → Rat → Rat} (hg : ∀ p q,lq p ≤ 34359738368 → lq q ≤ 34359738368 → PureGood Tryz.prog fid [encQ p,encQ q] (encQ (g p q))) {args : List LV} {r : LV} (h : orcQ2 g args = some r) : PureGood Tryz.prog fid args r := by
 unfold orcQ2 at h
 split at h
 ·split at h
  ·rename_i l m x y h1 h2
   rw [fQ_eq] at h
   cases hb : (tiny x && tiny y && tiny (g x y)) with
   | true =>
     rw [hb] at h
     simp only [Bool.and_eq_true] at hb
     cases h
     have hx := tiny_lq hb.1.1
     have hy := tiny_lq hb.1.2
     rw [wrQ_eq hb.2,rdQ_ok h1,rdQ_ok h2]
     exact hg x y (by omega) (by omega)
   | false => rw [hb] at h;cases h
  ·cases h
 ·cases h
def orcLen (args : List LV) : Option LV :=
 match args with
 | [.lit (.int .u64 (.ofNat n))] => bif Nat.blt n 18446744073709551616 then fNat (Lib.bitLen n) fun k => some (i64 k) else none
 | _ => none
theorem orcLen_ok {args : List LV} {r : LV} (h : orcLen args = some r) : PureGood Tryz.prog 257 args r := by
 unfold orcLen at h
 split at h
 ·rename_i n
  cases hb : Nat.blt n 18446744073709551616 with
  | true =>
    rw [hb,cond_true,fNat_eq] at h
    cases h
    exact len_good (x := n) (Nat.le_of_ble_eq_true hb)
  | false => rw [hb] at h;cases h
 ·cases h
def orcLen32 (args : List LV) : Option LV :=
 match args with
 | [.lit (.int .u32 (.ofNat n))] => bif Nat.blt n 4294967296 then fNat (Lib.bitLen n) fun k => some (i64 k) else none
 | _ => none
theorem orcLen32_ok {args : List LV} {r : LV} (h : orcLen32 args = some r) : PureGood Tryz.prog 293 args r := by
 unfold orcLen32 at h
 split at h
 ·rename_i n
  cases hb : Nat.blt n 4294967296 with
  | true =>
    rw [hb,cond_true,fNat_eq] at h
    cases h
    exact len32_good (x := n) (Nat.le_of_ble_eq_true hb)
  | false => rw [hb] at h;cases h
 ·cases h
def orcClone (args : List LV) : Option LV :=
 match args with
 | [m] => match rdM m with
   | some n => bif Nat.ble (n + 1) (4294967296 ^ 100) then some m else none
   | none => none
 | _ => none
theorem orcClone_ok {args : List LV} {r : LV} (h : orcClone args = some r) : PureGood Tryz.prog 255 args r := by
 unfold orcClone at h
 split at h
 ·split at h
  ·rename_i m n hn
   cases hb : Nat.ble (n + 1) (4294967296 ^ 100) with
   | true =>
     rw [hb,cond_true] at h
     cases h
     rw [rdM_ok hn]
     have := length_digs_le (n := n) (k := 100) (Nat.le_of_ble_eq_true hb)
     exact clone_good _ (by omega)
   | false => rw [hb] at h;cases h
  ·cases h
 ·cases h
theorem orc_nil : OrcOk Tryz.prog fun _ _ => none := fun _ _ _ h => nomatch h
theorem orc_cons {f0 : Nat} {g : List LV → Option LV} {o : FuncId → List LV → Option LV} (hg : ∀ args r,g args = some r → PureGood Tryz.prog f0 args r) (ho : OrcOk Tryz.prog o) : OrcOk Tryz.prog (fun f args => bif Nat.beq f f0 then g args else o f args) := by
 intro f args r h
 simp only at h
 cases h1 : Nat.beq f f0 with
 | true => rw [h1] at h;rw [Nat.eq_of_beq_eq_true h1];exact hg args r h
 | false => rw [h1] at h;exact ho f args r h
def orc (f : FuncId) (args : List LV) : Option LV :=
 bif Nat.beq f 131 then orcEval args else bif Nat.beq f 59 then orcQ2 (· + ·) args else bif Nat.beq f 74 then orcQ2 (· * ·) args else bif Nat.beq f 130 then orcQ2 (· - ·) args else bif Nat.beq f 69 then orcQ2 (· + ·) args else bif Nat.beq f 150 then orcQ2 (· * ·) args else bif Nat.beq f 161 then orcQ2 (· - ·) args else bif Nat.beq f 257 then orcLen args else bif Nat.beq f 293 then orcLen32 args else bif Nat.beq f 255 then orcClone args else none
theorem orc_ok : OrcOk Tryz.prog orc := by
 intro f args r h
 exact orc_cons (f0 := 131) (g := orcEval) (fun _ _ => orcEval_ok) (orc_cons (f0 := 59) (g := orcQ2 (· + ·)) (fun _ _ => orcQ2_ok (g := (· + ·)) (fun p q a b => qadd_good p q a b)) (orc_cons (f0 := 74) (g := orcQ2 (· * ·)) (fun _ _ => orcQ2_ok (g := (· * ·)) (fun p q a b => qmul_good p q a b)) (orc_cons (f0 := 130) (g := orcQ2 (· - ·)) (fun _ _ => orcQ2_ok (g := (· - ·)) (fun p q a b => qsub_good p q a b)) (orc_cons (f0 := 69) (g := orcQ2 (· + ·)) (fun _ _ => orcQ2_ok (g := (· + ·)) (fun p q a b => rqadd_good p q a b)) (orc_cons (f0 := 150) (g := orcQ2 (· * ·)) (fun _ _ => orcQ2_ok (g := (· * ·)) (fun p q a b => rqmul_good p q a b)) (orc_cons (f0 := 161) (g := orcQ2 (· - ·)) (fun _ _ => orcQ2_ok (g := (· - ·)) (fun p q a b => rqsub_good p q a b)) (orc_cons (f0 := 257) (g := orcLen) (fun _ _ => orcLen_ok) (orc_cons (f0 := 293) (g := orcLen32) (fun _ _ => orcLen32_ok) (orc_cons (f0 := 255) (g := orcClone) (fun _ _ => orcClone_ok) orc_nil))))))))) f args r h
end Go.Proofs.YtaidcaemdkncgaaGreatDoor