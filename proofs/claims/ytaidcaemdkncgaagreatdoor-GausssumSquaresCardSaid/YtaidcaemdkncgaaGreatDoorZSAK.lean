/- Contracts of functions of the program, and what proves them (texts: C5 Num5 C6 C7 C8). -/
import Derived.Test.YtaidcaemdkncgaaGreatDoorZSAF
import Derived.Test.YtaidcaemdkncgaaGreatDoorZSAJ
set_option linter.all false
set_option maxRecDepth 100000
set_option maxHeartbeats 8000000
namespace Go.Proofs.YtaidcaemdkncgaaGreatDoor
open Go Go.Lg Go.Num
attribute [local irreducible] Go.Lg.lrun Go.Lg.lwp Go.Lg.exThen Go.Lg.exBlk Go.Lg.keep Go.Lg.goodPost
theorem rsplit_good (n : Nat) (h : n < 18446744073709551616) : PureGood Tryz.prog 289 [u64 n] (dg (digs n)) := by
 have h1 := rtrim_good (ds := [n % 4294967296,n / 4294967296]) (OkD.cons (by omega) (OkD.cons (by omega) OkD.nil)) (by simp)
 rw [val2 h] at h1
 have hdg : dg [n % 4294967296,n / 4294967296] = .sl 2 [.lit (.int .u32 ((n % 4294967296 : Nat) : Int)),.lit (.int .u32 ((n / 4294967296 : Nat) : Int))] := rfl
 rw [hdg] at h1
 simp only [u64]
 refine good_of_lwp mix Tryz.func289 rfl (by decide) (nt := 10) rfl (rs := [.tmp 2]) rfl (nle rfl) ?_
 have f1 : (n : Int) % 4294967296 = ((n % 4294967296 : Nat) : Int) := by omega
 have f2 : (n : Int) / 4294967296 = ((n / 4294967296 : Nat) : Int) := by omega
 (repeat(first|refine zW ?_|refine zG0 ?_|refine zD0 ?_))
 simp only [wrap_u32_mod,f1,f2]
 refine l_call rfl (by decide) rfl (by simp (disch := first|omega|exact kD rfl|exact kX rfl) only [smY,simprocAttr,bl,u32,u64,i64];exact rfl) h1 ?_
 (repeat(first|refine zW ?_|refine zG0 ?_|refine zD0 ?_))
 exact zQ0
theorem rword_good {a : List Nat} (ha : OkD a) (hl : a.length ≤ 2) : PureGood Tryz.prog 288 [dg a] (u64 (val a)) := by
 unfold u64
 refine good_of_lwp mix Tryz.func288 rfl (by decide) (nt := 21) rfl (rs := [.tmp 2]) rfl (nle rfl) ?_
 (repeat(first|refine zW ?_|refine zG0 ?_|refine zD0 ?_))
 refine w_loop (α := {k : Nat // k ≤ a.length}) (fun k => st 21 (lk [(0,dg a),(3,u64 (val (a.drop k.1))),(4,i64 ((k.1 : Int) - 1))]) (lkH []) 0) (fun k => k.1) ⟨a.length,Nat.le_refl _⟩ ?_ ?_
 ·(refine Sub.plain ?_;simp only [smF,dg,renL,renLs,simprocAttr,bl,u32,u64,i64])
  simp [val]
 ·rintro ⟨k,hk⟩
  simp only [st,u64,i64]
  rcases k with _ | k
  ·(repeat(first|refine zW ?_|refine zG0 ?_|refine zD0 ?_))
   exact zQ0
  ·have hx := ha.getD k
   have hd := val_drop_next a k
   have hlt : val (a.drop (k + 1)) < 4294967296 := by
    have := val_lt (ha.drop (k + 1))
    have h1 : (a.drop (k + 1)).length ≤ 1 := by rw [List.length_drop];omega
    have h2 : 4294967296 ^ (a.drop (k + 1)).length ≤ 4294967296 ^ 1 := Nat.pow_le_pow_right (by omega) h1
    omega
   generalize val (a.drop (k + 1)) = v at *
   (repeat(first|refine zW ?_|refine zG0 ?_|refine zD0 ?_))
   refine ⟨⟨k,by omega⟩,?_,Nat.lt_succ_self k⟩
   (refine Sub.plain ?_;simp only [smF,dg,renL,renLs,simprocAttr,bl,u32,u64,i64])
   simp only [true_and,LV.lit.injEq,Value.int.injEq]
   omega
theorem nbits_half {x : Nat} (h : 0 < x) : nbits (x / 2) + 1 = nbits x := by
 rcases Nat.lt_or_ge x 2 with h2 | h2
 ·obtain rfl : x = 1 := by omega
  decide
 ·have h0 : x / 2 ≠ 0 := by omega
  have h1 := nbits_le h0
  have h3 := nbits_lt (x / 2)
  have hp : 0 < nbits (x / 2) := by unfold nbits;rw [if_neg h0];omega
  refine (nbits_of (n := x) (k := nbits (x / 2)) ?_ ?_).symm
  ·obtain ⟨m,hm⟩ : ∃ m,nbits (x / 2) = m + 1 := ⟨nbits (x / 2) - 1,by omega⟩
   rw [hm,Nat.add_sub_cancel] at h1
   rw [hm,Nat.pow_succ]
   omega
  ·rw [Nat.pow_succ]
   omega
theorem rbits_good (b : Bool) (n : Nat) (hl : (digs n).length ≤ 1099511627776) : PureGood Tryz.prog 329 [.agg [bl b,dg (digs n)]] (i64 (nbits n)) := by
 unfold bl i64
 have h1 := rtrim_digs hl
 by_cases h0 : n = 0
 ·subst h0
  simp only [digs_zero] at h1 ⊢
  refine good_of_lwp mix Tryz.func329 rfl (by decide) (nt := 29) rfl (rs := [.tmp 2]) rfl (nle rfl) ?_
  (repeat(first|refine zW ?_|refine zG0 ?_|refine zD0 ?_|refine zT0 ?_))
  refine zR0 ?_
  simp (disch := first|omega|exact kD rfl|exact kX rfl) only [smY,simprocAttr,bl,u32,u64,i64]
  rfl
 have hlen : 0 < (digs n).length := by rw [List.length_pos_iff,Ne,digs_eq_nil];exact h0
 have htop := (digs_ok n).getD ((digs n).length - 1)
 have hnz := digs_last h0
 have hnb : nbits n = 32 * ((digs n).length - 1) + nbits ((digs n).getD ((digs n).length - 1) 0) := by
  have hp : 0 < nbits ((digs n).getD ((digs n).length - 1) 0) := by unfold nbits;rw [if_neg hnz];omega
  have := nbits_top (k := nbits ((digs n).getD ((digs n).length - 1) 0) - 1) h0 rfl (nbits_le hnz) (by rw [Nat.sub_add_cancel hp];exact nbits_lt _)
  omega
 generalize hT : (digs n).getD ((digs n).length - 1) 0 = T at *
 have hTb : nbits T ≤ 32 := by
  have := nbits_mono (show T ≤ 4294967295 by omega)
  have e : nbits 4294967295 = 32 := by decide
  omega
 have hil : (((digs n).length : Int) - 1) = (((digs n).length - 1 : Nat) : Int) := by omega
 refine good_of_lwp mix Tryz.func329 rfl (by decide) (nt := 29) rfl (rs := [.tmp 2]) rfl (nle rfl) ?_
 (repeat(first|refine zW ?_|refine zG0 ?_|refine zD0 ?_|refine zT0 ?_))
 refine w_loop (α := {p : Nat × Nat // p.1 + nbits p.2 = nbits n ∧ p.2 < 4294967296 ∧ p.1 ≤ nbits n}) (fun p => st 29 (lk [(4,i64 p.1.1),(5,u32 p.1.2)]) (lkH []) 0) (fun p => p.1.2) ⟨(32 * ((digs n).length - 1),T),hnb.symm,htop,by simp only;omega⟩ ?_ ?_
 ·(refine Sub.plain ?_;simp only [smF,dg,renL,renLs,simprocAttr,bl,u32,u64,i64])
  rw [hT]
  simp only [and_true,LV.lit.injEq,Value.int.injEq,true_and]
  omega
 ·rintro ⟨⟨m,x⟩,hm,hx,hm2⟩
  simp only at hm hx hm2
  simp only [st,i64,u32]
  have hnl := nbits_len n
  by_cases h0 : 0 < x
  ·have hh := nbits_half h0
   (repeat(first|refine zW ?_|refine zG0 ?_|refine zD0 ?_))
   refine ⟨⟨(m + 1,x / 2),by simp only;omega,by simp only;omega,by simp only;omega⟩,?_,by simp only;omega⟩
   (refine Sub.plain ?_;simp only [smF,dg,renL,renLs,simprocAttr,bl,u32,u64,i64])
   simp only [true_and,LV.lit.injEq,Value.int.injEq]
   omega
  ·obtain rfl : x = 0 := by omega
   have e0 : nbits 0 = 0 := rfl
   (repeat(first|refine zW ?_|refine zG0 ?_|refine zD0 ?_))
   refine zR0 ?_
   simp (disch := first|omega|exact kD rfl|exact kX rfl) only [smY,simprocAttr,bl,u32,u64,i64]
   rw [← hm,e0];rfl
theorem pow_mod32 {n : Nat} : 4294967296 ^ (n / 32) * 2 ^ (n % 32) = 2 ^ n := by
 rw [pow32,← Nat.pow_add]
 congr 1
 omega
theorem take_all_snoc (l : List Nat) (c : Nat) : (l ++ [c]).take (l.length + 1) = l ++ [c] := List.take_of_length_le (by simp)
theorem p32_le (n : Nat) : 2 ^ (n % 32) ≤ 2147483648 := by
 have : 2 ^ (n % 32) ≤ 2 ^ 31 := Nat.pow_le_pow_right (by omega) (by omega)
 omega
set_option maxHeartbeats 1000000 in
theorem rshifted_good {a : List Nat} (ha : OkD a) (n : Nat) (la : a.length ≤ 274877906944) (hn : n ≤ 17592186044416) : PureGood Tryz.prog 330 [dg a,i64 n] (dg (digs (val a * 2 ^ n))) := by
 unfold i64
 refine good_of_lwp mix Tryz.func330 rfl (by decide) (nt := 42) rfl (rs := [.tmp 4]) rfl (nle rfl) ?_
 (repeat(first|refine zW ?_|refine zG0 ?_|refine zD0 ?_))
 refine w_loop (α := {p : Nat × List Nat × Nat // p.1 ≤ a.length ∧ p.2.1.length = n / 32 + p.1 ∧ OkD p.2.1 ∧ p.2.2 < 2 ^ (n % 32) ∧ val p.2.1 + 4294967296 ^ (n / 32 + p.1) * p.2.2 = val (a.take p.1) * 2 ^ n})
  (fun p => st 42 (lk [(0,dg a),(1,i64 n),(5,.own 0 0 (n / 32 + p.1.1) 1),(6,u64 p.1.2.2),(7,i64 p.1.1)]) (lkH [(0,⟨185,dgs p.1.2.1,false⟩)]) 1) (fun p => a.length - p.1.1) ⟨(0,List.replicate (n / 32) 0,0),by simp,by simp,OkD.replicate _,Nat.pow_pos (by omega),by simp [val_replicate,val]⟩ ?_ ?_
 ·(refine Sub.heap1 3 ?_ (by simp only [smF,dg,renL,renLs,simprocAttr,bl,u32,u64,i64];exact rfl) ?_ ?_;all_goals (first | exact dgs_plain _ | with_reducible rfl | (simp only [smF,dg,renL,renLs,simprocAttr,bl,u32,u64,i64])|skip))
  ·rw [show (((n : Nat) : Int) / 32).toNat = n / 32 by omega]
   exact ⟨trivial,trivial,rfl⟩
  ·rw [show (((n : Nat) : Int) / 32).toNat = n / 32 by omega]
   simp [dgs]
 ·rintro ⟨⟨i,l,c⟩,hi,hlen,hok,hc,he⟩
  simp only at hi hlen hok hc he
  simp only [st]
  have hx := ha.getD i
  have hp := p32_le n
  have hc' : c < 4294967296 := by omega
  have hcast : (((n : Int) % 32)) = ((n % 32 : Nat) : Int) := by omega
  by_cases h1 : i < a.length
  ·have hxp : a.getD i 0 * 2 ^ (n % 32) ≤ 4294967295 * 2147483648 := Nat.mul_le_mul (by omega) hp
   have ew : IntKind.u64.wrap (IntKind.u64.wrap (((a.getD i 0 : Nat) : Int) * 2 ^ ((n : Int) % 32).toNat) + (c : Int)) = ((a.getD i 0 * 2 ^ (n % 32) + c : Nat) : Int) := by
    rw [show ((n : Int) % 32).toNat = n % 32 by omega]
    have : (((a.getD i 0 : Nat) : Int) * 2 ^ (n % 32)) = ((a.getD i 0 * 2 ^ (n % 32) : Nat) : Int) := by simp
    rw [this,wrap_u64_mod,wrap_u64_mod]
    generalize a.getD i 0 * 2 ^ (n % 32) = t at *
    omega
   (repeat(first|refine zW ?_|refine zG0 ?_|refine zD0 ?_))
   refine ⟨⟨(i + 1,l ++ [(a.getD i 0 * 2 ^ (n % 32) + c) % 4294967296],(a.getD i 0 * 2 ^ (n % 32) + c) / 4294967296),by simp only;omega,by simp [hlen];omega,hok.append (OkD.cons (by omega) OkD.nil),?_,?_⟩,?_,by simp only;omega⟩
   ·simp only
    have h2 : a.getD i 0 * 2 ^ (n % 32) + c < 4294967296 * 2 ^ (n % 32) := by
     have : a.getD i 0 * 2 ^ (n % 32) + 2 ^ (n % 32) ≤ 4294967296 * 2 ^ (n % 32) := by
      rw [← Nat.succ_mul];exact Nat.mul_le_mul_right _ hx
     omega
    exact Nat.div_lt_of_lt_mul h2
   ·simp only
    rw [val_snoc,hlen,val_take_next,← Nat.add_assoc,Nat.pow_succ,Nat.add_mul,← he]
    have e : 4294967296 ^ i * a.getD i 0 * 2 ^ n = 4294967296 ^ (n / 32 + i) * (a.getD i 0 * 2 ^ (n % 32)) := by
     rw [← pow_mod32,Nat.pow_add]
     simp only [Nat.mul_comm,Nat.mul_left_comm,Nat.mul_assoc]
    rw [e]
    have h3 := Nat.mod_add_div (a.getD i 0 * 2 ^ (n % 32) + c) 4294967296
    generalize a.getD i 0 * 2 ^ (n % 32) = t at *
    generalize (t + c) / 4294967296 = hi at *
    generalize (t + c) % 4294967296 = lo at *
    generalize 4294967296 ^ (n / 32 + i) = q at *
    rw [Nat.mul_assoc q,Nat.add_assoc,← Nat.mul_add,h3,Nat.mul_add]
    omega
   ·simp only []
    (refine Sub.heap1 21 ?_ (by simp only [smF,dg,renL,renLs,simprocAttr,bl,u32,u64,i64];exact rfl) ?_ ?_;all_goals (first | exact dgs_plain _ | with_reducible rfl | (simp only [smF,dg,renL,renLs,simprocAttr,bl,u32,u64,i64])|skip))
    ·rw [ew]
     exact ⟨trivial,trivial,by rw [Nat.add_assoc],rfl⟩
    ·rw [ew,wrap_u32_mod,List.take_of_length_le (by omega),dgs_snoc]
     rfl
  ·obtain rfl : i = a.length := by omega
   rw [List.take_of_length_le (Nat.le_refl _)] at he
   have hfin : val (l ++ [c]) = val a * 2 ^ n := by rw [val_snoc,hlen];exact he
   have htr := rtrim_good (hok.append (OkD.cons hc' OkD.nil)) (by simp [hlen];omega)
   rw [hfin] at htr
   (repeat(first|refine zW ?_|refine zG0 ?_|refine zD0 ?_))
   rw [List.take_of_length_le (by omega),← dgs_snoc]
   rw [show n / 32 + a.length = l.length by omega]
   refine l_call rfl (by decide) rfl (by simp (disch := first|omega|exact kD rfl|exact kX rfl) only [smY,simprocAttr,bl,u32,u64,i64,take_all_snoc,List.length_append,List.length_singleton];exact rfl) htr ?_
   (repeat (first|refine zW ?_|((first|apply l_go rfl|apply c_dec);(case hs=>(simp (disch := first|omega|exact kD rfl|exact kX rfl) only [smY,simprocAttr,bl,u32,u64,i64,take_all_snoc,List.length_append,List.length_singleton];exact rfl));first|refine c_bt ?_|refine c_bf ?_|refine zq ?_)))
   ((first|apply g_ret|apply g_end);case hres => (simp only [smR];simp (disch := first|omega|exact kD rfl|exact kX rfl) only [smY,simprocAttr,bl,u32,u64,i64,take_all_snoc,List.length_append,List.length_singleton];exact rfl))
   simp (disch := first|omega|exact kD rfl|exact kX rfl) only [smY,simprocAttr,bl,u32,u64,i64,take_all_snoc,List.length_append,List.length_singleton]
end Go.Proofs.YtaidcaemdkncgaaGreatDoor
namespace Go.Num
theorem val_at {q : List Nat} {j : Nat} (h : j < q.length) : val q = val (q.take j) + 4294967296 ^ j * (q.getD j 0 + 4294967296 * val (q.drop (j + 1))) := by
 rw [val_split q j (by omega),← val_drop_next]
theorem val_set {q : List Nat} {j d : Nat} (h : j < q.length) : val (q.set j d) = val (q.take j) + 4294967296 ^ j * (d + 4294967296 * val (q.drop (j + 1))) := by
 have h2 : j < (q.set j d).length := by simpa using h
 rw [val_at h2]
 have e1 : (q.set j d).take j = q.take j := by rw [List.take_set_of_le (Nat.le_refl _)]
 have e2 : (q.set j d).getD j 0 = d := by simp [List.getD,h]
 have e3 : (q.set j d).drop (j + 1) = q.drop (j + 1) := by rw [List.drop_set_of_lt (by omega)]
 rw [e1,e2,e3]
theorem bit_set {q : List Nat} (ho : OkD q) {k m : Nat} (hk : k / 32 < q.length) (hv : val q = 2 ^ (k + 1) * m) :
  q.getD (k / 32) 0 + 2 ^ (k % 32) < 4294967296 ∧ val (q.set (k / 32) (q.getD (k / 32) 0 + 2 ^ (k % 32))) = val q + 2 ^ k := by
 have hp : 2 ^ k = 4294967296 ^ (k / 32) * 2 ^ (k % 32) := by
  rw [pow32,← Nat.pow_add];congr 1;omega
 constructor
 ·have h1 := val_at hk
  have hlow : val (q.take (k / 32)) < 4294967296 ^ (k / 32) := by
   have := val_lt (ho.take (k / 32))
   rwa [List.length_take,Nat.min_eq_left (by omega)] at this
  have hd := ho.getD (k / 32)
  rw [hv,Nat.pow_succ,hp] at h1
  generalize hq : q.getD (k / 32) 0 = d at *
  generalize val (q.drop (k / 32 + 1)) = R at *
  generalize val (q.take (k / 32)) = L at *
  have hpos : 0 < 4294967296 ^ (k / 32) := Nat.pow_pos (by omega)
  generalize 4294967296 ^ (k / 32) = P at *
  have hL : L = 0 := by
   have h2 : L = P * (2 ^ (k % 32) * 2 * m) - P * (d + 4294967296 * R) := by
    rw [Nat.mul_assoc P,Nat.mul_assoc P] at h1;omega
   rw [← Nat.mul_sub] at h2
   rcases Nat.eq_zero_or_pos (2 ^ (k % 32) * 2 * m - (d + 4294967296 * R)) with h | h
   ·rw [h2,h,Nat.mul_zero]
   ·have := Nat.le_mul_of_pos_right P h
    omega
  subst hL
  rw [Nat.zero_add,Nat.mul_assoc P,Nat.mul_assoc P] at h1
  have h3 := Nat.eq_of_mul_eq_mul_left hpos h1
  obtain ⟨t,ht⟩ : ∃ t,4294967296 = 2 ^ (k % 32) * 2 * t := ⟨2 ^ (31 - k % 32),by
   rw [← Nat.pow_succ,← Nat.pow_add,show k % 32 + 1 + (31 - k % 32) = 32 by omega]⟩
  have hs : 0 < 2 ^ (k % 32) := Nat.pow_pos (by omega)
  generalize 2 ^ (k % 32) = s at *
  have h4 : d = s * 2 * (m - t * R) := by
   have h5 : 4294967296 * R = s * 2 * (t * R) := by rw [← Nat.mul_assoc,← ht]
   rw [Nat.mul_sub,← h5]
   omega
  generalize m - t * R = u at *
  subst h4
  have h6 : u < t := by
   rw [ht] at hd
   exact Nat.lt_of_mul_lt_mul_left hd
  have h7 : s * 2 * (u + 1) ≤ s * 2 * t := Nat.mul_le_mul_left _ h6
  rw [Nat.mul_add,← ht] at h7
  omega
 ·rw [val_set hk,val_at hk,hp]
  generalize 4294967296 ^ (k / 32) = P
  generalize 2 ^ (k % 32) = s
  rw [Nat.mul_add,Nat.mul_add,Nat.mul_add]
  omega
theorem div_step {x y k : Nat} : (y * 2 ^ k ≤ x % (y * 2 ^ (k + 1)) → 0 < y → x / (y * 2 ^ k) = 2 * (x / (y * 2 ^ (k + 1))) + 1 ∧ x % (y * 2 ^ k) = x % (y * 2 ^ (k + 1)) - y * 2 ^ k) ∧
  (¬ y * 2 ^ k ≤ x % (y * 2 ^ (k + 1)) → 0 < y → x / (y * 2 ^ k) = 2 * (x / (y * 2 ^ (k + 1))) ∧ x % (y * 2 ^ k) = x % (y * 2 ^ (k + 1))) := by
 have hT : y * 2 ^ (k + 1) = 2 * (y * 2 ^ k) := by rw [Nat.pow_succ];simp only [Nat.mul_comm,Nat.mul_left_comm]
 rw [hT]
 have hpos : 0 < y → 0 < y * 2 ^ k := fun h => Nat.mul_pos h (Nat.pow_pos (by omega))
 generalize y * 2 ^ k = T at *
 have h1 := Nat.mod_add_div x (2 * T)
 have h0 : ∀ r q : Nat,0 < T → r < T → x = r + T * q → x / T = q ∧ x % T = r := fun r q hp hr hx => by
  subst hx
  rw [Nat.add_mul_div_left _ _ hp,Nat.add_mul_mod_self_left,Nat.div_eq_of_lt hr,Nat.mod_eq_of_lt hr,Nat.zero_add]
  exact ⟨rfl,rfl⟩
 refine ⟨fun h hy => ?_,fun h hy => ?_⟩
 ·have hp := hpos hy
  have hlt := Nat.mod_lt x (show 0 < 2 * T by omega)
  generalize x % (2 * T) = r at *
  generalize x / (2 * T) = q at *
  refine h0 (r - T) (2 * q + 1) hp (by omega) ?_
  rw [Nat.mul_add,← Nat.mul_assoc,Nat.mul_comm T 2,← h1]
  omega
 ·have hp := hpos hy
  generalize x % (2 * T) = r at *
  generalize x / (2 * T) = q at *
  refine h0 r (2 * q) hp (by omega) ?_
  rw [← Nat.mul_assoc,Nat.mul_comm T 2,← h1]
end Go.Num
namespace Go.Proofs.YtaidcaemdkncgaaGreatDoor
open Go Go.Lg Go.Num
attribute [local irreducible] Go.Lg.lrun Go.Lg.lwp Go.Lg.exThen Go.Lg.exBlk Go.Lg.keep Go.Lg.goodPost
def dQ (x y : Nat) : List Nat := if (digs x).length ≤ 2 ∧ (digs y).length ≤ 2 then digs (x / y) else if nbits x < nbits y then [] else padL ((nbits x - nbits y) / 32 + 1) (x / y)
theorem quo_lt {x y : Nat} (hy : 0 < y) (h : nbits y ≤ nbits x) : x < y * 2 ^ (nbits x - nbits y + 1) := by
 have h1 := nbits_lt x
 have h2 := nbits_le (show y ≠ 0 by omega)
 have h3 : 0 < nbits y := by unfold nbits;rw [if_neg (by omega)];omega
 have h4 : 2 ^ (nbits y - 1) * 2 ^ (nbits x - nbits y + 1) ≤ y * 2 ^ (nbits x - nbits y + 1) := Nat.mul_le_mul_right _ h2
 rw [← Nat.pow_add,show nbits y - 1 + (nbits x - nbits y + 1) = nbits x by omega] at h4
 omega
theorem dQ_small {x y : Nat} (h : x < y) : x / y = 0 := Nat.div_eq_of_lt h
theorem quo_pad {x y : Nat} (hy : 0 < y) (h : nbits y ≤ nbits x) : x / y < 4294967296 ^ ((nbits x - nbits y) / 32 + 1) := by
 have h1 := quo_lt hy h
 have h2 : x / y < 2 ^ (nbits x - nbits y + 1) := Nat.div_lt_of_lt_mul h1
 rw [pow32]
 have h3 : 2 ^ (nbits x - nbits y + 1) ≤ 2 ^ (32 * ((nbits x - nbits y) / 32 + 1)) := Nat.pow_le_pow_right (by omega) (by omega)
 omega
theorem dQ_ok (x y : Nat) : OkD (dQ x y) := by
 unfold dQ
 split
 ·exact digs_ok _
 ·split
  ·exact OkD.nil
  ·exact padL_ok _ _
theorem dQ_val {x y : Nat} (hy : 0 < y) : val (dQ x y) = x / y := by
 unfold dQ
 split
 ·exact val_digs _
 ·split
  ·rename_i h
   have : x < y := by
    rcases Nat.lt_or_ge x y with h2 | h2
    ·exact h2
    ·have := nbits_mono h2;omega
   rw [dQ_small this];rfl
  ·exact val_padL (quo_pad hy (by omega))
theorem dQ_len {x y : Nat} : (dQ x y).length ≤ (digs x).length + 1 := by
 unfold dQ
 split
 ·have := length_le_of_le (Nat.div_le_self x y);omega
 ·split
  ·simp
  ·rw [padL_length]
   have := nbits_len x
   omega
set_option maxHeartbeats 2000000 in
theorem rdivided_good (x y : Nat) (hy : 0 < y) (lx : (digs x).length ≤ 137438953472) (ly : (digs y).length ≤ 137438953472) : PureGood Tryz.prog 309 [dg (digs x),dg (digs y)] (.tup [dg (dQ x y),dg (digs (x % y))]) := by
 have hox := digs_ok x
 have hoy := digs_ok y
 unfold dQ
 by_cases h2 : (digs x).length ≤ 2 ∧ (digs y).length ≤ 2
 ·rw [if_pos h2]
  obtain ⟨h2,h3⟩ := h2
  have w1 := rword_good hox h2
  have w2 := rword_good hoy h3
  rw [val_digs] at w1 w2
  have hxl : x < 18446744073709551616 := by
   have := lt_pow_digs x
   have h4 : 4294967296 ^ (digs x).length ≤ 4294967296 ^ 2 := Nat.pow_le_pow_right (by omega) h2
   omega
  have hyl : y < 18446744073709551616 := by
   have := lt_pow_digs y
   have h4 : 4294967296 ^ (digs y).length ≤ 4294967296 ^ 2 := Nat.pow_le_pow_right (by omega) h3
   omega
  have hq : x / y ≤ x := Nat.div_le_self x y
  have hr : x % y < y := Nat.mod_lt _ hy
  have s1 := rsplit_good (x / y) (by omega)
  have s2 := rsplit_good (x % y) (by omega)
  have hq1 : x / y < 18446744073709551616 := by omega
  have hq0 := Int.natCast_nonneg (x / y)
  have hy0 : ¬ (y : Int) = 0 := by omega
  simp only [u64] at w1 w2 s1 s2
  refine good_of_lwp mix Tryz.func309 rfl (by decide) (nt := 78) rfl (rs := [.tmp 4,.tmp 5]) rfl (nle rfl) ?_
  (repeat(first|refine zW ?_|refine zG0 ?_|refine zD0 ?_))
  refine l_call rfl (by decide) rfl (by simp (disch := first|omega|exact kD rfl|exact kX rfl) only [smY,simprocAttr,bl,u32,u64,i64];exact rfl) w1 ?_
  (repeat(first|refine zW ?_|refine zG0 ?_|refine zD0 ?_))
  refine l_call rfl (by decide) rfl (by simp (disch := first|omega|exact kD rfl|exact kX rfl) only [smY,simprocAttr,bl,u32,u64,i64];exact rfl) w2 ?_
  (repeat(first|refine zW ?_|refine zG0 ?_|refine zD0 ?_))
  refine l_call rfl (by decide) rfl (by simp (disch := first|omega|exact kD rfl|exact kX rfl) only [smY,simprocAttr,bl,u32,u64,i64];exact rfl) s1 ?_
  (repeat(first|refine zW ?_|refine zG0 ?_|refine zD0 ?_))
  refine l_call rfl (by decide) rfl (by simp (disch := first|omega|exact kD rfl|exact kX rfl) only [smY,simprocAttr,bl,u32,u64,i64];exact rfl) w1 ?_
  (repeat(first|refine zW ?_|refine zG0 ?_|refine zD0 ?_))
  refine l_call rfl (by decide) rfl (by simp (disch := first|omega|exact kD rfl|exact kX rfl) only [smY,simprocAttr,bl,u32,u64,i64];exact rfl) w2 ?_
  (repeat(first|refine zW ?_|refine zG0 ?_|refine zD0 ?_))
  refine l_call rfl (by decide) rfl (by simp (disch := first|omega|exact kD rfl|exact kX rfl) only [smY,simprocAttr,bl,u32,u64,i64];exact rfl) s2 ?_
  (repeat(first|refine zW ?_|refine zG0 ?_|refine zD0 ?_))
  exact zQ0
 rw [if_neg h2]
 have hb1 := rbits_good false x (by omega)
 have hb2 := rbits_good false y (by omega)
 have nl1 := nbits_len x
 have nl2 := nbits_len y
 simp only [bl,i64] at hb1 hb2
 by_cases h3 : (digs x).length ≤ 2
 ·have h4 : ¬ (digs y).length ≤ 2 := fun h => h2 ⟨h3,h⟩
  refine good_of_lwp mix Tryz.func309 rfl (by decide) (nt := 78) rfl (rs := [.tmp 4,.tmp 5]) rfl (nle rfl) ?_
  (repeat(first|refine zW ?_|refine zG0 ?_|refine zD0 ?_))
  refine l_call rfl (by decide) rfl (by simp (disch := first|omega|exact kD rfl|exact kX rfl) only [smY,simprocAttr,bl,u32,u64,i64];exact rfl) hb1 ?_
  (repeat(first|refine zW ?_|refine zG0 ?_|refine zD0 ?_))
  refine l_call rfl (by decide) rfl (by simp (disch := first|omega|exact kD rfl|exact kX rfl) only [smY,simprocAttr,bl,u32,u64,i64];exact rfl) hb2 ?_
  by_cases hs : nbits x < nbits y
  ·have hxy : x < y := by
    rcases Nat.lt_or_ge x y with h2 | h2
    ·exact h2
    ·have := nbits_mono h2;omega
   rw [if_pos hs,Nat.mod_eq_of_lt hxy]
   (repeat(first|refine zW ?_|refine zG0 ?_|refine zD0 ?_))
   refine zR0 ?_
   simp (disch := first|omega|exact kD rfl|exact kX rfl) only [smY,simprocAttr,bl,u32,u64,i64]
   rfl
  rw [if_neg hs]
  obtain ⟨d,hd⟩ : ∃ d,nbits x = nbits y + d := ⟨nbits x - nbits y,by omega⟩
  have hqp := quo_pad hy (x := x) (by omega)
  have hql := quo_lt hy (x := x) (by omega)
  rw [hd,Nat.add_sub_cancel_left] at hqp hql
  rw [hd,Nat.add_sub_cancel_left]
  have hdi : ((nbits y : Nat) : Int) + (d : Int) - ((nbits y : Nat) : Int) = (d : Int) := by omega
  (repeat(first|refine zW ?_|refine zG0 ?_|refine zD0 ?_))
  refine w_loop (α := {p : Nat × List Nat // p.1 ≤ d + 1 ∧ p.2.length = d / 32 + 1 ∧ OkD p.2 ∧ val p.2 = 2 ^ p.1 * (x / (y * 2 ^ p.1))})
   (fun p => st 78 (lk [(0,dg (digs x)),(1,dg (digs y)),(4,nilL),(5,nilL),(6,dg (digs (x % (y * 2 ^ p.1.1)))),(8,.own 0 0 (d / 32 + 1) 1),(9,i64 ((p.1.1 : Int) - 1))]) (lkH [(0,⟨185,dgs p.1.2,false⟩)]) 1) (fun p => p.1.1)
   ⟨(d + 1,List.replicate (d / 32 + 1) 0),by simp,by simp,OkD.replicate _,by simp only;rw [val_replicate,Nat.div_eq_of_lt hql,Nat.mul_zero]⟩ ?_ ?_
  ·simp only [Nat.mod_eq_of_lt hql]
   (refine Sub.heap1 25 ?_ (by simp only [smF,dg,renL,renLs,simprocAttr,bl,u32,u64,i64];exact rfl) ?_ ?_;all_goals (first | exact dgs_plain _ | with_reducible rfl | (simp only [smF,dg,renL,renLs,simprocAttr,bl,u32,u64,i64])|skip))
   ·rw [hdi,show ((d : Int) / 32 + 1).toNat = d / 32 + 1 by omega]
    simp only [true_and,and_true,LV.lit.injEq,Value.int.injEq]
    omega
   ·rw [hdi,show ((d : Int) / 32 + 1).toNat = d / 32 + 1 by omega]
    simp [dgs]
  ·rintro ⟨⟨K,q⟩,hK,hq,hoq,hv⟩
   simp only at hK hq hoq hv
   simp only [st]
   rcases K with _ | k
   ·rw [Nat.pow_zero,Nat.one_mul,Nat.mul_one] at hv
    have hpad := eq_padL hoq hq hv
    simp only [Nat.pow_zero,Nat.mul_one]
    (repeat(first|refine zW ?_|refine zG0 ?_|refine zD0 ?_))
    refine zR0 ?_
    simp (disch := first|omega|exact kD rfl|exact kX rfl) only [smY,simprocAttr,bl,u32,u64,i64]
    rw [← hpad,List.take_of_length_le (by omega),← hq]
   ·have hk1 : ((k + 1 : Nat) : Int) - 1 = (k : Int) := by omega
    have hsh := rshifted_good hoy k (by omega) (by omega)
    rw [val_digs] at hsh
    have hRx : x % (y * 2 ^ (k + 1)) ≤ x := Nat.mod_le _ _
    have hRl := length_le_of_le hRx
    have hTl : (digs (y * 2 ^ k)).length ≤ 1099511627776 := by
     have h5 := length_mul y (2 ^ k)
     have h6 : (digs (2 ^ k)).length ≤ k + 1 := length_digs_le (by
      rw [pow32];exact Nat.pow_lt_pow_right (by omega) (by omega))
     have h7 := len_nbits (2 ^ k)
     have h8 : nbits (2 ^ k) = k + 1 := nbits_of (Nat.le_refl _) (by rw [Nat.pow_succ];have := Nat.pow_pos (n := k) (show 0 < 2 by omega);omega)
     omega
    have hstep := div_step (x := x) (y := y) (k := k)
    have hset := bit_set hoq (k := k) (by rw [hq];omega) hv
    have hxq := hoq.getD (k / 32)
    have hp := p32_le k
    generalize hT : y * 2 ^ k = T at *
    generalize hR : x % (y * 2 ^ (k + 1)) = R at *
    have hbl := rbelow_good (digs_ok R) (digs_ok T) (by rw [val_digs]) (by rw [val_digs]) (by omega) hTl
    rw [val_digs,val_digs] at hbl
    simp only [i64,hk1] at hsh ⊢
    (repeat(first|refine zW ?_|refine zG5 ?_|refine zD5 ?_))
    refine l_call rfl (by decide) rfl (by simp (disch := first|omega|exact kD rfl|exact kX rfl) only [smY,simprocAttr,bl,u32,u64,i64,hk1];exact rfl) hsh ?_
    (repeat(first|refine zW ?_|refine zG5 ?_|refine zD5 ?_))
    simp only [bl] at hbl
    by_cases hge : T ≤ R
    ·rw [decide_eq_false (by omega)] at hbl
     have hmi := rminus_good (digs_ok R) (digs_ok T) (by omega) (length_le_of_le hge) (by rw [val_digs,val_digs];exact hge)
     rw [val_digs,val_digs] at hmi
     have htr := rtrim_good (padL_ok (digs R).length (R - T)) (by rw [padL_length];omega)
     rw [val_padL rsub_lt] at htr
     obtain ⟨e1,e2⟩ := hstep.1 hge hy
     refine l_call rfl (by decide) rfl (by simp (disch := first|omega|exact kD rfl|exact kX rfl) only [smY,simprocAttr,bl,u32,u64,i64,hk1];exact rfl) hbl ?_
     (repeat(first|refine zW ?_|refine zG5 ?_|refine zD5 ?_))
     refine l_call rfl (by decide) rfl (by simp (disch := first|omega|exact kD rfl|exact kX rfl) only [smY,simprocAttr,bl,u32,u64,i64,hk1];exact rfl) hmi ?_
     (repeat(first|refine zW ?_|refine zG5 ?_|refine zD5 ?_))
     refine l_call rfl (by decide) rfl (by simp (disch := first|omega|exact kD rfl|exact kX rfl) only [smY,simprocAttr,bl,u32,u64,i64,hk1];exact rfl) htr ?_
     (repeat(first|refine zW ?_|refine zG5 ?_|refine zD5 ?_))
     refine ⟨⟨(k,q.set (k / 32) (q.getD (k / 32) 0 + 2 ^ (k % 32))),by simp only;omega,by simp [hq],hoq.set hset.1,?_⟩,?_,Nat.lt_succ_self k⟩
     ·simp only
      rw [hset.2,hv,hT,e1,Nat.pow_succ,Nat.mul_add,Nat.mul_one,Nat.mul_assoc]
     ·simp only [hT,e2]
      (refine Sub.heap1 0 ?_ (by simp only [smF,dg,renL,renLs,simprocAttr,bl,u32,u64,i64,hk1];exact rfl) ?_ ?_;all_goals (first | exact dgs_plain _ | with_reducible rfl | (simp only [smF,dg,renL,renLs,simprocAttr,bl,u32,u64,i64,hk1])|skip))
      ·have ep : IntKind.u32.wrap (1 * 2 ^ (k % 32)) = ((2 ^ (k % 32) : Nat) : Int) := by
        have : (1 : Int) * 2 ^ (k % 32) = ((2 ^ (k % 32) : Nat) : Int) := by simp
        rw [this,wrap_u32_mod]
        generalize 2 ^ (k % 32) = p at *
        omega
       rw [show ((k : Int) / 32).toNat = k / 32 by omega,show ((k : Int) % 32).toNat = k % 32 by omega,ep]
       have hs1 := hset.1
       generalize 2 ^ (k % 32) = p at *
       rw [show ((((q.getD (k / 32) 0 : Nat) : Int) + (p : Int)) % 4294967296).toNat = q.getD (k / 32) 0 + p by omega]
    ·rw [decide_eq_true (by omega)] at hbl
     obtain ⟨e1,e2⟩ := hstep.2 hge hy
     refine l_call rfl (by decide) rfl (by simp (disch := first|omega|exact kD rfl|exact kX rfl) only [smY,simprocAttr,bl,u32,u64,i64,hk1];exact rfl) hbl ?_
     (repeat(first|refine zW ?_|refine zG5 ?_|refine zD5 ?_))
     refine ⟨⟨(k,q),by simp only;omega,hq,hoq,?_⟩,?_,Nat.lt_succ_self k⟩
     ·simp only
      rw [hT,e1,hv,Nat.pow_succ,Nat.mul_assoc]
     ·simp only [hT,e2]
      (refine Sub.heap1 0 ?_ (by simp only [smF,dg,renL,renLs,simprocAttr,bl,u32,u64,i64,hk1];exact rfl) ?_ ?_;all_goals (first | exact dgs_plain _ | with_reducible rfl | (simp only [smF,dg,renL,renLs,simprocAttr,bl,u32,u64,i64,hk1])|skip))
 ·
  refine good_of_lwp mix Tryz.func309 rfl (by decide) (nt := 78) rfl (rs := [.tmp 4,.tmp 5]) rfl (nle rfl) ?_
  (repeat(first|refine zW ?_|refine zG0 ?_|refine zD0 ?_))
  refine l_call rfl (by decide) rfl (by simp (disch := first|omega|exact kD rfl|exact kX rfl) only [smY,simprocAttr,bl,u32,u64,i64];exact rfl) hb1 ?_
  (repeat(first|refine zW ?_|refine zG0 ?_|refine zD0 ?_))
  refine l_call rfl (by decide) rfl (by simp (disch := first|omega|exact kD rfl|exact kX rfl) only [smY,simprocAttr,bl,u32,u64,i64];exact rfl) hb2 ?_
  by_cases hs : nbits x < nbits y
  ·have hxy : x < y := by
    rcases Nat.lt_or_ge x y with h2 | h2
    ·exact h2
    ·have := nbits_mono h2;omega
   rw [if_pos hs,Nat.mod_eq_of_lt hxy]
   (repeat(first|refine zW ?_|refine zG0 ?_|refine zD0 ?_))
   refine zR0 ?_
   simp (disch := first|omega|exact kD rfl|exact kX rfl) only [smY,simprocAttr,bl,u32,u64,i64]
   rfl
  rw [if_neg hs]
  obtain ⟨d,hd⟩ : ∃ d,nbits x = nbits y + d := ⟨nbits x - nbits y,by omega⟩
  have hqp := quo_pad hy (x := x) (by omega)
  have hql := quo_lt hy (x := x) (by omega)
  rw [hd,Nat.add_sub_cancel_left] at hqp hql
  rw [hd,Nat.add_sub_cancel_left]
  have hdi : ((nbits y : Nat) : Int) + (d : Int) - ((nbits y : Nat) : Int) = (d : Int) := by omega
  (repeat(first|refine zW ?_|refine zG0 ?_|refine zD0 ?_))
  refine w_loop (α := {p : Nat × List Nat // p.1 ≤ d + 1 ∧ p.2.length = d / 32 + 1 ∧ OkD p.2 ∧ val p.2 = 2 ^ p.1 * (x / (y * 2 ^ p.1))})
   (fun p => st 78 (lk [(0,dg (digs x)),(1,dg (digs y)),(4,nilL),(5,nilL),(6,dg (digs (x % (y * 2 ^ p.1.1)))),(8,.own 0 0 (d / 32 + 1) 1),(9,i64 ((p.1.1 : Int) - 1))]) (lkH [(0,⟨185,dgs p.1.2,false⟩)]) 1) (fun p => p.1.1)
   ⟨(d + 1,List.replicate (d / 32 + 1) 0),by simp,by simp,OkD.replicate _,by simp only;rw [val_replicate,Nat.div_eq_of_lt hql,Nat.mul_zero]⟩ ?_ ?_
  ·simp only [Nat.mod_eq_of_lt hql]
   (refine Sub.heap1 25 ?_ (by simp only [smF,dg,renL,renLs,simprocAttr,bl,u32,u64,i64];exact rfl) ?_ ?_;all_goals (first | exact dgs_plain _ | with_reducible rfl | (simp only [smF,dg,renL,renLs,simprocAttr,bl,u32,u64,i64])|skip))
   ·rw [hdi,show ((d : Int) / 32 + 1).toNat = d / 32 + 1 by omega]
    simp only [true_and,and_true,LV.lit.injEq,Value.int.injEq]
    omega
   ·rw [hdi,show ((d : Int) / 32 + 1).toNat = d / 32 + 1 by omega]
    simp [dgs]
  ·rintro ⟨⟨K,q⟩,hK,hq,hoq,hv⟩
   simp only at hK hq hoq hv
   simp only [st]
   rcases K with _ | k
   ·rw [Nat.pow_zero,Nat.one_mul,Nat.mul_one] at hv
    have hpad := eq_padL hoq hq hv
    simp only [Nat.pow_zero,Nat.mul_one]
    (repeat(first|refine zW ?_|refine zG0 ?_|refine zD0 ?_))
    refine zR0 ?_
    simp (disch := first|omega|exact kD rfl|exact kX rfl) only [smY,simprocAttr,bl,u32,u64,i64]
    rw [← hpad,List.take_of_length_le (by omega),← hq]
   ·have hk1 : ((k + 1 : Nat) : Int) - 1 = (k : Int) := by omega
    have hsh := rshifted_good hoy k (by omega) (by omega)
    rw [val_digs] at hsh
    have hRx : x % (y * 2 ^ (k + 1)) ≤ x := Nat.mod_le _ _
    have hRl := length_le_of_le hRx
    have hTl : (digs (y * 2 ^ k)).length ≤ 1099511627776 := by
     have h5 := length_mul y (2 ^ k)
     have h6 : (digs (2 ^ k)).length ≤ k + 1 := length_digs_le (by
      rw [pow32];exact Nat.pow_lt_pow_right (by omega) (by omega))
     have h7 := len_nbits (2 ^ k)
     have h8 : nbits (2 ^ k) = k + 1 := nbits_of (Nat.le_refl _) (by rw [Nat.pow_succ];have := Nat.pow_pos (n := k) (show 0 < 2 by omega);omega)
     omega
    have hstep := div_step (x := x) (y := y) (k := k)
    have hset := bit_set hoq (k := k) (by rw [hq];omega) hv
    have hxq := hoq.getD (k / 32)
    have hp := p32_le k
    generalize hT : y * 2 ^ k = T at *
    generalize hR : x % (y * 2 ^ (k + 1)) = R at *
    have hbl := rbelow_good (digs_ok R) (digs_ok T) (by rw [val_digs]) (by rw [val_digs]) (by omega) hTl
    rw [val_digs,val_digs] at hbl
    simp only [i64,hk1] at hsh ⊢
    (repeat(first|refine zW ?_|refine zG5 ?_|refine zD5 ?_))
    refine l_call rfl (by decide) rfl (by simp (disch := first|omega|exact kD rfl|exact kX rfl) only [smY,simprocAttr,bl,u32,u64,i64,hk1];exact rfl) hsh ?_
    (repeat(first|refine zW ?_|refine zG5 ?_|refine zD5 ?_))
    simp only [bl] at hbl
    by_cases hge : T ≤ R
    ·rw [decide_eq_false (by omega)] at hbl
     have hmi := rminus_good (digs_ok R) (digs_ok T) (by omega) (length_le_of_le hge) (by rw [val_digs,val_digs];exact hge)
     rw [val_digs,val_digs] at hmi
     have htr := rtrim_good (padL_ok (digs R).length (R - T)) (by rw [padL_length];omega)
     rw [val_padL rsub_lt] at htr
     obtain ⟨e1,e2⟩ := hstep.1 hge hy
     refine l_call rfl (by decide) rfl (by simp (disch := first|omega|exact kD rfl|exact kX rfl) only [smY,simprocAttr,bl,u32,u64,i64,hk1];exact rfl) hbl ?_
     (repeat(first|refine zW ?_|refine zG5 ?_|refine zD5 ?_))
     refine l_call rfl (by decide) rfl (by simp (disch := first|omega|exact kD rfl|exact kX rfl) only [smY,simprocAttr,bl,u32,u64,i64,hk1];exact rfl) hmi ?_
     (repeat(first|refine zW ?_|refine zG5 ?_|refine zD5 ?_))
     refine l_call rfl (by decide) rfl (by simp (disch := first|omega|exact kD rfl|exact kX rfl) only [smY,simprocAttr,bl,u32,u64,i64,hk1];exact rfl) htr ?_
     (repeat(first|refine zW ?_|refine zG5 ?_|refine zD5 ?_))
     refine ⟨⟨(k,q.set (k / 32) (q.getD (k / 32) 0 + 2 ^ (k % 32))),by simp only;omega,by simp [hq],hoq.set hset.1,?_⟩,?_,Nat.lt_succ_self k⟩
     ·simp only
      rw [hset.2,hv,hT,e1,Nat.pow_succ,Nat.mul_add,Nat.mul_one,Nat.mul_assoc]
     ·simp only [hT,e2]
      (refine Sub.heap1 0 ?_ (by simp only [smF,dg,renL,renLs,simprocAttr,bl,u32,u64,i64,hk1];exact rfl) ?_ ?_;all_goals (first | exact dgs_plain _ | with_reducible rfl | (simp only [smF,dg,renL,renLs,simprocAttr,bl,u32,u64,i64,hk1])|skip))
      ·have ep : IntKind.u32.wrap (1 * 2 ^ (k % 32)) = ((2 ^ (k % 32) : Nat) : Int) := by
        have : (1 : Int) * 2 ^ (k % 32) = ((2 ^ (k % 32) : Nat) : Int) := by simp
        rw [this,wrap_u32_mod]
        generalize 2 ^ (k % 32) = p at *
        omega
       rw [show ((k : Int) / 32).toNat = k / 32 by omega,show ((k : Int) % 32).toNat = k % 32 by omega,ep]
       have hs1 := hset.1
       generalize 2 ^ (k % 32) = p at *
       rw [show ((((q.getD (k / 32) 0 : Nat) : Int) + (p : Int)) % 4294967296).toNat = q.getD (k / 32) 0 + p by omega]
    ·rw [decide_eq_true (by omega)] at hbl
     obtain ⟨e1,e2⟩ := hstep.2 hge hy
     refine l_call rfl (by decide) rfl (by simp (disch := first|omega|exact kD rfl|exact kX rfl) only [smY,simprocAttr,bl,u32,u64,i64,hk1];exact rfl) hbl ?_
     (repeat(first|refine zW ?_|refine zG5 ?_|refine zD5 ?_))
     refine ⟨⟨(k,q),by simp only;omega,hq,hoq,?_⟩,?_,Nat.lt_succ_self k⟩
     ·simp only
      rw [hT,e1,hv,Nat.pow_succ,Nat.mul_assoc]
     ·simp only [hT,e2]
      (refine Sub.heap1 0 ?_ (by simp only [smF,dg,renL,renLs,simprocAttr,bl,u32,u64,i64,hk1];exact rfl) ?_ ?_;all_goals (first | exact dgs_plain _ | with_reducible rfl | (simp only [smF,dg,renL,renLs,simprocAttr,bl,u32,u64,i64,hk1])|skip))
end Go.Proofs.YtaidcaemdkncgaaGreatDoor
namespace Go.Proofs.YtaidcaemdkncgaaGreatDoor
open Go Go.Lg Go.Num
attribute [local irreducible] Go.Lg.lrun Go.Lg.lwp Go.Lg.exThen Go.Lg.exBlk Go.Lg.keep Go.Lg.goodPost
set_option maxHeartbeats 2000000 in
theorem reuclid_good (x y : Int) (hy : y ≠ 0) (lx : len x ≤ 137438953472) (ly : len y ≤ 137438953472) : PureGood Tryz.prog 290 [encI x,encI y] (.tup [encI (x / y),encI (x % y)]) := by
 have hn1 := rnorm_good x (by omega)
 have hn2 := rnorm_good y (by omega)
 have habs := rabs_good y (by omega)
 have hlr : len ((x.natAbs % y.natAbs : Nat) : Int) ≤ 137438953472 := by
  have h1 := Nat.mod_lt x.natAbs (Int.natAbs_pos.2 hy)
  exact Nat.le_trans (len_le_of (by rw [Int.natAbs_natCast];omega)) ly
 have hsub := rsub_good (y.natAbs : Int) ((x.natAbs % y.natAbs : Nat) : Int) (by unfold len at ly ⊢;rw [Int.natAbs_natCast];omega) (by omega)
 unfold len at lx ly hlr
 rw [Int.natAbs_natCast] at hlr
 have hyp := Int.natAbs_pos.2 hy
 have hd := rdivided_good x.natAbs y.natAbs hyp lx ly
 have hrs := rsigned_good (neg := false) (digs_ok (x.natAbs % y.natAbs)) (by omega)
 rw [val_digs,if_neg (by decide)] at hrs
 have hQo := dQ_ok x.natAbs y.natAbs
 have hQv := dQ_val (x := x.natAbs) hyp
 have hQl := dQ_len (x := x.natAbs) (y := y.natAbs)
 have hqs := rsigned_good (neg := (decide (x < 0) != decide (y < 0))) hQo (by omega)
 have hpl := rplus_good hQo (b := [1]) (OkD.cons (by omega) OkD.nil) (by omega) (by simp)
 have hpv : val (padL (max (dQ x.natAbs y.natAbs).length [1].length + 1) (val (dQ x.natAbs y.natAbs) + val [1])) = val (dQ x.natAbs y.natAbs) + 1 := by
  refine val_padL ?_
  have h1 := val_lt hQo
  have h2 : 4294967296 ^ (dQ x.natAbs y.natAbs).length ≤ 4294967296 ^ (max (dQ x.natAbs y.natAbs).length [1].length) := Nat.pow_le_pow_right (by omega) (by omega)
  rw [Nat.pow_succ]
  simp only [val] at *
  omega
 have hps := rsigned_good (neg := !decide (y < 0)) (padL_ok (max (dQ x.natAbs y.natAbs).length [1].length + 1) (val (dQ x.natAbs y.natAbs) + val [1])) (by rw [padL_length];simp;omega)
 generalize padL (max (dQ x.natAbs y.natAbs).length [1].length + 1) (val (dQ x.natAbs y.natAbs) + val [1]) = S at *
 rw [hpv,hQv] at hps
 rw [hQv] at hqs
 generalize dQ x.natAbs y.natAbs = D at *
 have hdg1 : dg [1] = .sl 1 [.lit (.int .u32 1)] := rfl
 rw [hdg1] at hpl
 have ed := ediv_abs (x := x) hy
 have hmn : ((x.natAbs % y.natAbs : Nat) : Int).natAbs = x.natAbs % y.natAbs := rfl
 have hpos : (0 < (digs (x.natAbs % y.natAbs)).length) ↔ x.natAbs % y.natAbs ≠ 0 := by
  rw [List.length_pos_iff,Ne,digs_eq_nil]
 have hcall := hd
 by_cases hx : x < 0 ∧ x.natAbs % y.natAbs ≠ 0
 ·obtain ⟨hx,h0⟩ := hx
  obtain ⟨e1,e2⟩ := ed.2.2 hx h0
  have hp1 := hpos.2 h0
  rw [show (y.natAbs : Int) - ((x.natAbs % y.natAbs : Nat) : Int) = x % y by rw [e2];have := Nat.mod_lt x.natAbs hyp;omega] at hsub
  have e3 : (if (!decide (y < 0)) = true then -((x.natAbs / y.natAbs + 1 : Nat) : Int) else ((x.natAbs / y.natAbs + 1 : Nat) : Int)) = x / y := by
   rw [e1]
   by_cases hy0 : y < 0 <;> simp [hx,hy0]
  rw [e3] at hps
  clear ed e1 e2 e3 hqs hpos
  simp only [encI,bl,hmn,Int.natAbs_natCast] at hn1 hn2 habs hsub hrs hps ⊢
  refine good_of_lwp mix Tryz.func290 rfl (by decide) (nt := 52) rfl (rs := [.cell 4 45,.cell 5 45]) rfl (nle rfl) ?_
  (repeat(first|refine zW ?_|refine zG0 ?_|refine zD0 ?_))
  refine l_call rfl (by decide) rfl (by simp (disch := first|omega|exact kD rfl|exact kX rfl) only [smY,simprocAttr,bl,u32,u64,i64];exact rfl) hn1 ?_
  (repeat(first|refine zW ?_|refine zG0 ?_|refine zD0 ?_))
  refine l_call rfl (by decide) rfl (by simp (disch := first|omega|exact kD rfl|exact kX rfl) only [smY,simprocAttr,bl,u32,u64,i64];exact rfl) hn2 ?_
  (repeat(first|refine zW ?_|refine zG0 ?_|refine zD0 ?_))
  refine l_call rfl (by decide) rfl (by simp (disch := first|omega|exact kD rfl|exact kX rfl) only [smY,simprocAttr,bl,u32,u64,i64];exact rfl) hd ?_
  (repeat(first|refine zW ?_|refine zG0 ?_|refine zD0 ?_))
  refine l_call rfl (by decide) rfl (by simp (disch := first|omega|exact kD rfl|exact kX rfl) only [smY,simprocAttr,bl,u32,u64,i64];exact rfl) hrs ?_
  (repeat(first|refine zW ?_|refine zG0 ?_|refine zD0 ?_))
  refine l_call rfl (by decide) rfl (by simp (disch := first|omega|exact kD rfl|exact kX rfl) only [smY,simprocAttr,bl,u32,u64,i64];exact rfl) hpl ?_
  (repeat(first|refine zW ?_|refine zG0 ?_|refine zD0 ?_))
  refine l_call rfl (by decide) rfl (by simp (disch := first|omega|exact kD rfl|exact kX rfl) only [smY,simprocAttr,bl,u32,u64,i64];exact rfl) hps ?_
  (repeat(first|refine zW ?_|refine zG0 ?_|refine zD0 ?_))
  refine l_call rfl (by decide) rfl (by simp (disch := first|omega|exact kD rfl|exact kX rfl) only [smY,simprocAttr,bl,u32,u64,i64];exact rfl) habs ?_
  (repeat(first|refine zW ?_|refine zG0 ?_|refine zD0 ?_))
  refine l_call rfl (by decide) rfl (by simp (disch := first|omega|exact kD rfl|exact kX rfl) only [smY,simprocAttr,bl,u32,u64,i64];exact rfl) hsub ?_
  (repeat(first|refine zW ?_|refine zG0 ?_|refine zD0 ?_))
  exact zQ0
 ·have hE : x / y = (if (decide (x < 0) != decide (y < 0)) = true then -((x.natAbs / y.natAbs : Nat) : Int) else ((x.natAbs / y.natAbs : Nat) : Int)) ∧ x % y = ((x.natAbs % y.natAbs : Nat) : Int) := by
   by_cases h1 : x < 0
   ·exact ed.2.1 h1 (Decidable.byContradiction fun h => hx ⟨h1,h⟩)
   ·exact ed.1 (by omega)
  obtain ⟨e1,e2⟩ := hE
  rw [← e1] at hqs
  have hx' : ¬ (x < 0 ∧ 0 < (digs (x.natAbs % y.natAbs)).length) := fun ⟨h1,h2⟩ => hx ⟨h1,hpos.1 h2⟩
  rw [e2]
  clear ed e1 e2 hpos hps hsub habs
  simp only [encI,bl,hmn,Int.natAbs_natCast] at hn1 hn2 hrs hqs ⊢
  generalize hx0 : decide (x < 0) = n1 at *
  generalize decide (y < 0) = n2 at *
  cases n1 with
  | true =>
    have h2 : ¬ 0 < (digs (x.natAbs % y.natAbs)).length := fun h => hx' ⟨of_decide_eq_true hx0,h⟩
    cases n2 with
    | true =>
      simp only [bne_self_eq_false] at hqs
      refine good_of_lwp mix Tryz.func290 rfl (by decide) (nt := 52) rfl (rs := [.cell 4 45,.cell 5 45]) rfl (nle rfl) ?_
      (repeat(first|refine zW ?_|refine zG0 ?_|refine zD0 ?_))
      refine l_call rfl (by decide) rfl (by simp (disch := first|omega|exact kD rfl|exact kX rfl) only [smY,simprocAttr,bl,u32,u64,i64];exact rfl) hn1 ?_
      (repeat(first|refine zW ?_|refine zG0 ?_|refine zD0 ?_))
      refine l_call rfl (by decide) rfl (by simp (disch := first|omega|exact kD rfl|exact kX rfl) only [smY,simprocAttr,bl,u32,u64,i64];exact rfl) hn2 ?_
      (repeat(first|refine zW ?_|refine zG0 ?_|refine zD0 ?_))
      refine l_call rfl (by decide) rfl (by simp (disch := first|omega|exact kD rfl|exact kX rfl) only [smY,simprocAttr,bl,u32,u64,i64];exact rfl) hd ?_
      (repeat(first|refine zW ?_|refine zG0 ?_|refine zD0 ?_))
      refine l_call rfl (by decide) rfl (by simp (disch := first|omega|exact kD rfl|exact kX rfl) only [smY,simprocAttr,bl,u32,u64,i64];exact rfl) hrs ?_
      (repeat(first|refine zW ?_|refine zG0 ?_|refine zD0 ?_))
      refine l_call rfl (by decide) rfl (by simp (disch := first|omega|exact kD rfl|exact kX rfl) only [smY,simprocAttr,bl,u32,u64,i64];exact rfl) hqs ?_
      (repeat(first|refine zW ?_|refine zG0 ?_|refine zD0 ?_))
      exact zQ0
    | false =>
      simp only [Bool.true_bne,Bool.not_false] at hqs
      refine good_of_lwp mix Tryz.func290 rfl (by decide) (nt := 52) rfl (rs := [.cell 4 45,.cell 5 45]) rfl (nle rfl) ?_
      (repeat(first|refine zW ?_|refine zG0 ?_|refine zD0 ?_))
      refine l_call rfl (by decide) rfl (by simp (disch := first|omega|exact kD rfl|exact kX rfl) only [smY,simprocAttr,bl,u32,u64,i64];exact rfl) hn1 ?_
      (repeat(first|refine zW ?_|refine zG0 ?_|refine zD0 ?_))
      refine l_call rfl (by decide) rfl (by simp (disch := first|omega|exact kD rfl|exact kX rfl) only [smY,simprocAttr,bl,u32,u64,i64];exact rfl) hn2 ?_
      (repeat(first|refine zW ?_|refine zG0 ?_|refine zD0 ?_))
      refine l_call rfl (by decide) rfl (by simp (disch := first|omega|exact kD rfl|exact kX rfl) only [smY,simprocAttr,bl,u32,u64,i64];exact rfl) hd ?_
      (repeat(first|refine zW ?_|refine zG0 ?_|refine zD0 ?_))
      refine l_call rfl (by decide) rfl (by simp (disch := first|omega|exact kD rfl|exact kX rfl) only [smY,simprocAttr,bl,u32,u64,i64];exact rfl) hrs ?_
      (repeat(first|refine zW ?_|refine zG0 ?_|refine zD0 ?_))
      refine l_call rfl (by decide) rfl (by simp (disch := first|omega|exact kD rfl|exact kX rfl) only [smY,simprocAttr,bl,u32,u64,i64];exact rfl) hqs ?_
      (repeat(first|refine zW ?_|refine zG0 ?_|refine zD0 ?_))
      exact zQ0
  | false =>
    cases n2 with
    | true =>
      simp only [Bool.false_bne] at hqs
      refine good_of_lwp mix Tryz.func290 rfl (by decide) (nt := 52) rfl (rs := [.cell 4 45,.cell 5 45]) rfl (nle rfl) ?_
      (repeat(first|refine zW ?_|refine zG0 ?_|refine zD0 ?_))
      refine l_call rfl (by decide) rfl (by simp (disch := first|omega|exact kD rfl|exact kX rfl) only [smY,simprocAttr,bl,u32,u64,i64];exact rfl) hn1 ?_
      (repeat(first|refine zW ?_|refine zG0 ?_|refine zD0 ?_))
      refine l_call rfl (by decide) rfl (by simp (disch := first|omega|exact kD rfl|exact kX rfl) only [smY,simprocAttr,bl,u32,u64,i64];exact rfl) hn2 ?_
      (repeat(first|refine zW ?_|refine zG0 ?_|refine zD0 ?_))
      refine l_call rfl (by decide) rfl (by simp (disch := first|omega|exact kD rfl|exact kX rfl) only [smY,simprocAttr,bl,u32,u64,i64];exact rfl) hd ?_
      (repeat(first|refine zW ?_|refine zG0 ?_|refine zD0 ?_))
      refine l_call rfl (by decide) rfl (by simp (disch := first|omega|exact kD rfl|exact kX rfl) only [smY,simprocAttr,bl,u32,u64,i64];exact rfl) hrs ?_
      (repeat(first|refine zW ?_|refine zG0 ?_|refine zD0 ?_))
      refine l_call rfl (by decide) rfl (by simp (disch := first|omega|exact kD rfl|exact kX rfl) only [smY,simprocAttr,bl,u32,u64,i64];exact rfl) hqs ?_
      (repeat(first|refine zW ?_|refine zG0 ?_|refine zD0 ?_))
      exact zQ0
    | false =>
      simp only [bne_self_eq_false] at hqs
      refine good_of_lwp mix Tryz.func290 rfl (by decide) (nt := 52) rfl (rs := [.cell 4 45,.cell 5 45]) rfl (nle rfl) ?_
      (repeat(first|refine zW ?_|refine zG0 ?_|refine zD0 ?_))
      refine l_call rfl (by decide) rfl (by simp (disch := first|omega|exact kD rfl|exact kX rfl) only [smY,simprocAttr,bl,u32,u64,i64];exact rfl) hn1 ?_
      (repeat(first|refine zW ?_|refine zG0 ?_|refine zD0 ?_))
      refine l_call rfl (by decide) rfl (by simp (disch := first|omega|exact kD rfl|exact kX rfl) only [smY,simprocAttr,bl,u32,u64,i64];exact rfl) hn2 ?_
      (repeat(first|refine zW ?_|refine zG0 ?_|refine zD0 ?_))
      refine l_call rfl (by decide) rfl (by simp (disch := first|omega|exact kD rfl|exact kX rfl) only [smY,simprocAttr,bl,u32,u64,i64];exact rfl) hd ?_
      (repeat(first|refine zW ?_|refine zG0 ?_|refine zD0 ?_))
      refine l_call rfl (by decide) rfl (by simp (disch := first|omega|exact kD rfl|exact kX rfl) only [smY,simprocAttr,bl,u32,u64,i64];exact rfl) hrs ?_
      (repeat(first|refine zW ?_|refine zG0 ?_|refine zD0 ?_))
      refine l_call rfl (by decide) rfl (by simp (disch := first|omega|exact kD rfl|exact kX rfl) only [smY,simprocAttr,bl,u32,u64,i64];exact rfl) hqs ?_
      (repeat(first|refine zW ?_|refine zG0 ?_|refine zD0 ?_))
      exact zQ0
end Go.Proofs.YtaidcaemdkncgaaGreatDoor
namespace Go.Proofs.YtaidcaemdkncgaaGreatDoor
open Go Go.Lg Go.Num
attribute [local irreducible] Go.Lg.lrun Go.Lg.lwp Go.Lg.exThen Go.Lg.exBlk Go.Lg.keep Go.Lg.goodPost
theorem rdiv_good (x y : Int) (hy : y ≠ 0) (lx : len x ≤ 137438953472) (ly : len y ≤ 137438953472) : PureGood Tryz.prog 243 [encI x,encI y] (encI (x / y)) := by
 have h1 := reuclid_good x y hy lx ly
 generalize hq : x / y = q at *
 generalize hr : x % y = r at *
 simp only [encI,bl] at h1 ⊢
 refine good_of_lwp mix Tryz.func243 rfl (by decide) (nt := 14) rfl (rs := [.cell 4 45]) rfl (nle rfl) ?_
 (repeat(first|refine zW ?_|refine zG0 ?_|refine zD0 ?_|refine zT0 ?_))
 exact zQ0
def icells (z : Nat) : List LV := [bl false,dg (digs z)]
set_option maxHeartbeats 2000000 in
theorem rgcd_good (x y : Int) (lx : len x ≤ 137438953472) (ly : len y ≤ 137438953472) : PureGood Tryz.prog 240 [encI x,encI y] (encI ((Int.gcd x y : Nat) : Int)) := by
 have h1 := rabs_good x (by omega)
 have h2 := rabs_good y (by omega)
 unfold len at lx ly
 rw [encI_nat] at h1 h2 ⊢
 have hG : Int.gcd x y = Nat.gcd x.natAbs y.natAbs := rfl
 rw [hG]
 generalize x.natAbs = a at *
 generalize y.natAbs = b at *
 by_cases hs : (digs a).length ≤ 2 ∧ (digs b).length ≤ 2
 ·obtain ⟨ha2,hb2⟩ := hs
  have w1 := rword_good (digs_ok a) ha2
  have w2 := rword_good (digs_ok b) hb2
  rw [val_digs] at w1 w2
  have hp2 : ∀ n,(digs n).length ≤ 2 → n < 18446744073709551616 := fun n h => by
   have := lt_pow_digs n
   have h4 : 4294967296 ^ (digs n).length ≤ 4294967296 ^ 2 := Nat.pow_le_pow_right (by omega) h
   omega
  have hal := hp2 a ha2
  have hbl := hp2 b hb2
  simp only [encN,encI,bl,u64] at h1 h2 w1 w2 ⊢
  refine good_of_lwp mix Tryz.func240 rfl (by decide) (nt := 53) rfl (rs := [.cell 4 45]) rfl (nle rfl) ?_
  (repeat(first|refine zW ?_|refine zG0 ?_|refine zD0 ?_|refine zT0 ?_))
  refine w_loop (α := {p : Nat × Nat // Nat.gcd p.1 p.2 = Nat.gcd a b ∧ p.1 < 18446744073709551616 ∧ p.2 < 18446744073709551616}) (fun p => st 53 (lk [(4,.ptr 0 0),(7,u64 p.1.1),(8,u64 p.1.2)]) (lkH [(0,⟨45,[bl false,.lit (.slice none 0 0)],false⟩)]) 1) (fun p => p.1.2) ⟨(a,b),rfl,hal,hbl⟩ ?_ ?_
  ·(refine Sub.heap1 2 ?_ (by simp only [smF,dg,renL,renLs,simprocAttr,bl,u32,u64,i64];exact rfl) ?_ ?_;all_goals (first | exact dgs_plain _ | with_reducible rfl | (simp only [smF,dg,renL,renLs,simprocAttr,bl,u32,u64,i64])|skip))
   all_goals simp [plainC]
  ·rintro ⟨⟨m,n⟩,hg,hm,hn⟩
   simp only at hg hm hn
   simp only [st,u64,bl]
   by_cases hn0 : 0 < n
   ·have hmod : m % n < n := Nat.mod_lt _ hn0
    have hmod0 := Int.natCast_nonneg (m % n)
    have hmod1 : m % n < 18446744073709551616 := by omega
    have hn00 : ¬ (n : Int) = 0 := by omega
    (repeat(first|refine zW ?_|refine zG0 ?_|refine zD0 ?_))
    refine ⟨⟨(n,m % n),?_,hn,hmod1⟩,?_,hmod⟩
    ·simp only
     rw [← hg,Nat.gcd_comm m n,Nat.gcd_rec n m,Nat.gcd_comm]
    ·(refine Sub.heap1 0 ?_ (by simp only [smF,dg,renL,renLs,simprocAttr,bl,u32,u64,i64];exact rfl) ?_ ?_;all_goals (first | exact dgs_plain _ | with_reducible rfl | (simp only [smF,dg,renL,renLs,simprocAttr,bl,u32,u64,i64])|skip))
     all_goals simp [plainC]
   ·obtain rfl : n = 0 := by omega
    rw [Nat.gcd_zero_right] at hg
    rw [← hg]
    have hsp := rsplit_good m hm
    have hml : (digs m).length ≤ 2 := length_digs_le (k := 2) (by omega)
    have hsg := rsigned_good (neg := false) (digs_ok m) (by omega)
    rw [val_digs,if_neg (by decide),encI_nat] at hsg
    simp only [encN,bl,u64] at hsp hsg
    (repeat(first|refine zW ?_|refine zG0 ?_|refine zD0 ?_|refine zT0 ?_))
    exact zQ0
 ·simp only [encN,bl] at h1 h2 ⊢
  by_cases ha2 : (digs a).length ≤ 2
  ·have hb2 : ¬ (digs b).length ≤ 2 := fun h => hs ⟨ha2,h⟩
   refine good_of_lwp mix Tryz.func240 rfl (by decide) (nt := 53) rfl (rs := [.cell 4 45]) rfl (nle rfl) ?_
   (repeat(first|refine zW ?_|refine zG0 ?_|refine zD0 ?_|refine zT0 ?_))
   refine w_loop (α := {p : Nat × Nat // Nat.gcd p.1 p.2 = Nat.gcd a b ∧ (digs p.1).length ≤ 137438953472 ∧ (digs p.2).length ≤ 137438953472}) (fun p => st 53 (lk [(4,.ptr 0 0),(5,.ptr 1 0),(6,.ptr 2 0)]) (lkH [(0,⟨45,[bl false,.lit (.slice none 0 0)],false⟩),(1,⟨45,icells p.1.1,false⟩),(2,⟨45,icells p.1.2,false⟩)]) 3) (fun p => p.1.2) ⟨(a,b),rfl,lx,ly⟩ ?_ ?_
   ·(refine Sub.heapL [2,7,8] rfl (by decide) ?_ (by simp only [smL];decide) ?_ ?_;all_goals (first|(simp only [plainC,smF,dg,renL,renLs,simprocAttr,bl,u32,u64,i64];done) | (simp only [smF,dg,renL,renLs,simprocAttr,bl,u32,u64,i64];(repeat' apply And.intro);all_goals rfl) | (simp only [smF,dg,renL,renLs,simprocAttr,bl,u32,u64,i64]) | skip))
    all_goals (simp [icells,bl,renL,dg,plainC];try rfl)
   ·rintro ⟨⟨m,n⟩,hg,hm,hn⟩
    simp only at hg hm hn
    simp only [st,bl,icells]
    by_cases hn0 : n = 0
    ·subst hn0
     rw [Nat.gcd_zero_right] at hg
     rw [← hg]
     have hz : (digs 0).length = 0 := by simp [digs_zero]
     (repeat(first|refine zW ?_|refine zG0 ?_|refine zD0 ?_))
     exact zQ0
    ·have hnl : 0 < (digs n).length := List.length_pos_iff.2 (fun e => hn0 (digs_eq_nil.1 e))
     have he := reuclid_good (m : Int) (n : Int) (by omega) (by unfold len;rw [Int.natAbs_natCast];exact hm) (by unfold len;rw [Int.natAbs_natCast];exact hn)
     rw [← Int.natCast_ediv,← Int.natCast_emod,encI_nat,encI_nat,encI_nat,encI_nat] at he
     simp only [encN,bl] at he
     have hmod : m % n < n := Nat.mod_lt _ (by omega)
     have hml : (digs (m % n)).length ≤ 137438953472 := Nat.le_trans (length_le_of_le (by omega)) hn
     (repeat(first|refine zW ?_|refine zG0 ?_|refine zD0 ?_|refine zT0 ?_))
     refine ⟨⟨(n,m % n),?_,hn,hml⟩,?_,hmod⟩
     ·simp only
      rw [← hg,Nat.gcd_comm m n,Nat.gcd_rec n m,Nat.gcd_comm]
     ·(refine Sub.heapL [0,1,2] rfl (by decide) ?_ (by simp only [smL];decide) ?_ ?_;all_goals (first|(simp only [plainC,smF,dg,renL,renLs,simprocAttr,bl,u32,u64,i64];done) | (simp only [smF,dg,renL,renLs,simprocAttr,bl,u32,u64,i64];(repeat' apply And.intro);all_goals rfl) | (simp only [smF,dg,renL,renLs,simprocAttr,bl,u32,u64,i64]) | skip))
      all_goals (simp [icells,bl,renL,dg,plainC];try rfl)
  ·refine good_of_lwp mix Tryz.func240 rfl (by decide) (nt := 53) rfl (rs := [.cell 4 45]) rfl (nle rfl) ?_
   (repeat(first|refine zW ?_|refine zG0 ?_|refine zD0 ?_|refine zT0 ?_))
   refine w_loop (α := {p : Nat × Nat // Nat.gcd p.1 p.2 = Nat.gcd a b ∧ (digs p.1).length ≤ 137438953472 ∧ (digs p.2).length ≤ 137438953472}) (fun p => st 53 (lk [(4,.ptr 0 0),(5,.ptr 1 0),(6,.ptr 2 0)]) (lkH [(0,⟨45,[bl false,.lit (.slice none 0 0)],false⟩),(1,⟨45,icells p.1.1,false⟩),(2,⟨45,icells p.1.2,false⟩)]) 3) (fun p => p.1.2) ⟨(a,b),rfl,lx,ly⟩ ?_ ?_
   ·(refine Sub.heapL [2,7,8] rfl (by decide) ?_ (by simp only [smL];decide) ?_ ?_;all_goals (first|(simp only [plainC,smF,dg,renL,renLs,simprocAttr,bl,u32,u64,i64];done) | (simp only [smF,dg,renL,renLs,simprocAttr,bl,u32,u64,i64];(repeat' apply And.intro);all_goals rfl) | (simp only [smF,dg,renL,renLs,simprocAttr,bl,u32,u64,i64]) | skip))
    all_goals (simp [icells,bl,renL,dg,plainC];try rfl)
   ·rintro ⟨⟨m,n⟩,hg,hm,hn⟩
    simp only at hg hm hn
    simp only [st,bl,icells]
    by_cases hn0 : n = 0
    ·subst hn0
     rw [Nat.gcd_zero_right] at hg
     rw [← hg]
     have hz : (digs 0).length = 0 := by simp [digs_zero]
     (repeat(first|refine zW ?_|refine zG0 ?_|refine zD0 ?_))
     exact zQ0
    ·have hnl : 0 < (digs n).length := List.length_pos_iff.2 (fun e => hn0 (digs_eq_nil.1 e))
     have he := reuclid_good (m : Int) (n : Int) (by omega) (by unfold len;rw [Int.natAbs_natCast];exact hm) (by unfold len;rw [Int.natAbs_natCast];exact hn)
     rw [← Int.natCast_ediv,← Int.natCast_emod,encI_nat,encI_nat,encI_nat,encI_nat] at he
     simp only [encN,bl] at he
     have hmod : m % n < n := Nat.mod_lt _ (by omega)
     have hml : (digs (m % n)).length ≤ 137438953472 := Nat.le_trans (length_le_of_le (by omega)) hn
     (repeat(first|refine zW ?_|refine zG0 ?_|refine zD0 ?_|refine zT0 ?_))
     refine ⟨⟨(n,m % n),?_,hn,hml⟩,?_,hmod⟩
     ·simp only
      rw [← hg,Nat.gcd_comm m n,Nat.gcd_rec n m,Nat.gcd_comm]
     ·(refine Sub.heapL [0,1,2] rfl (by decide) ?_ (by simp only [smL];decide) ?_ ?_;all_goals (first|(simp only [plainC,smF,dg,renL,renLs,simprocAttr,bl,u32,u64,i64];done) | (simp only [smF,dg,renL,renLs,simprocAttr,bl,u32,u64,i64];(repeat' apply And.intro);all_goals rfl) | (simp only [smF,dg,renL,renLs,simprocAttr,bl,u32,u64,i64]) | skip))
      all_goals (simp [icells,bl,renL,dg,plainC];try rfl)
end Go.Proofs.YtaidcaemdkncgaaGreatDoor