/- Contracts of functions of the program, and what proves them (texts: C1 C2 C3 C4). -/
import Derived.Test.YtaidcaemdkncgaaGreatDoorZSAI
set_option linter.all false
set_option maxRecDepth 100000
set_option maxHeartbeats 8000000
namespace Go.Proofs.YtaidcaemdkncgaaGreatDoor
open Go Go.Lg Go.Num
attribute [local irreducible] Go.Lg.lrun Go.Lg.lwp Go.Lg.exThen Go.Lg.exBlk Go.Lg.keep Go.Lg.goodPost
theorem rtrim_raw (ds : List Nat) (hlen : ds.length ≤ 1099511627776) : PureGood Tryz.prog 248 [dg ds] (dg (trimL ds)) := by
 refine good_of_lwp mix Tryz.func248 rfl (by decide) (nt := 23) rfl (rs := [.tmp 2]) rfl (nle rfl) ?_
 (repeat(first|refine zW ?_|refine zG0 ?_|refine zD0 ?_))
 refine w_loop (α := {k : Nat // k ≤ ds.length ∧ trimL ds = trimL (ds.take k)}) (fun k => st 23 (lk [(0,dg ds),(2,nilL),(3,i64 k.1)]) (lkH []) 0) (fun k => k.1) ⟨ds.length,Nat.le_refl _,by simp⟩ ?_ ?_
 ·(refine Sub.plain ?_;simp only [smF,dg,renL,renLs,simprocAttr,bl,u32,u64,i64])
 ·rintro ⟨k,hk,ht⟩
  simp only [st]
  rcases k with _ | k
  ·(repeat(first|refine zW ?_|refine zG0 ?_|refine zD0 ?_))
   refine zR0 ?_
   simp (disch := first|omega|exact kD rfl|exact kX rfl) only [smY,simprocAttr,bl,u32,u64,i64]
   rw [ht]
   rfl
  ·have hg : (ds.take (k + 1)).getD k 0 = ds.getD k 0 := by simp [List.getD,List.getElem?_take]
   have hlen2 : (ds.take (k + 1)).length = k + 1 := by rw [List.length_take];omega
   by_cases h0 : ds.getD k 0 = 0
   ·(repeat(first|refine zW ?_|refine zG0 ?_|refine zD0 ?_))
    refine ⟨⟨k,by omega,by rw [ht,trimL_take_zero (by omega) h0]⟩,?_,Nat.lt_succ_self k⟩
    (refine Sub.plain ?_;simp only [smF,dg,renL,renLs,simprocAttr,bl,u32,u64,i64])
    simp only [Int.add_sub_cancel,and_self]
   ·(repeat(first|refine zW ?_|refine zG0 ?_|refine zD0 ?_))
    refine zR0 ?_
    simp (disch := first|omega|exact kD rfl|exact kX rfl) only [smY,simprocAttr,bl,u32,u64,i64]
    rw [ht,trimL_take_nz (by omega) h0]
    simp [dg,Nat.min_eq_left hk]
theorem rtrim_good {ds : List Nat} (hok : OkD ds) (hlen : ds.length ≤ 1099511627776) : PureGood Tryz.prog 248 [dg ds] (dg (digs (val ds))) := by
 rw [← trimL_digs hok];exact rtrim_raw ds hlen
theorem rtrim_digs {n : Nat} (hlen : (digs n).length ≤ 1099511627776) : PureGood Tryz.prog 248 [dg (digs n)] (dg (digs n)) := by
 have := rtrim_good (digs_ok n) hlen
 rwa [val_digs] at this
theorem rnormD_good {neg : Bool} {ds : List Nat} (hok : OkD ds) (hlen : ds.length ≤ 1099511627776) :
  PureGood Tryz.prog 236 [.agg [bl neg,dg ds]] (encI (if neg then -(val ds : Int) else (val ds : Int))) := by
 unfold bl
 refine good_of_lwp mix Tryz.func236 rfl (by decide) (nt := 16) rfl (rs := [.cell 2 45]) rfl (nle rfl) ?_
 (repeat(first|refine zW ?_|refine zG0 ?_|refine zD0 ?_))
 refine l_call rfl (by decide) rfl (by simp (disch := first|omega|exact kD rfl|exact kX rfl) only [smY,simprocAttr,bl,u32,u64,i64];exact rfl) (rtrim_good hok hlen) ?_
 (repeat(first|refine zW ?_|refine zG0 ?_|refine zD0 ?_))
 have hl2 := length_trim_le hok
 have e : (0 < (digs (val ds)).length) ↔ 0 < val ds := by
  rw [List.length_pos_iff,Ne,digs_eq_nil];omega
 cases neg with
 | false =>
   (repeat(first|refine zW ?_|refine zG0 ?_|refine zD0 ?_))
   refine zR0 ?_
   simp (disch := first|omega|exact kD rfl|exact kX rfl) only [smY,simprocAttr,bl,u32,u64,i64]
   simp [encI,bl,dg]
 | true =>
   (repeat(first|refine zW ?_|refine zG0 ?_|refine zD0 ?_))
   refine zR0 ?_
   simp (disch := first|omega|exact kD rfl|exact kX rfl) only [smY,simprocAttr,bl,u32,u64,i64]
   simp [encI,bl,dg,e]
theorem rsigned_good {neg : Bool} {ds : List Nat} (hok : OkD ds) (hlen : ds.length ≤ 1099511627776) :
  PureGood Tryz.prog 244 [bl neg,dg ds] (encI (if neg then -(val ds : Int) else (val ds : Int))) := by
 have h1 := rnormD_good (neg := neg) hok hlen
 generalize (if neg then -(val ds : Int) else (val ds : Int)) = z at *
 simp only [encI,bl] at h1 ⊢
 refine good_of_lwp mix Tryz.func244 rfl (by decide) (nt := 9) rfl (rs := [.cell 4 45]) rfl (nle rfl) ?_
 (repeat(first|refine zW ?_|refine zG0 ?_|refine zD0 ?_|refine zT0 ?_))
 exact zQ0
theorem sgn_val (z : Int) : (if decide (z < 0) = true then -(val (digs z.natAbs) : Int) else (val (digs z.natAbs) : Int)) = z := by
 rw [val_digs]
 by_cases h : z < 0
 ·simp [h];omega
 ·simp [h];omega
theorem rnorm_good (z : Int) (hlen : len z ≤ 1099511627776) : PureGood Tryz.prog 236 [encI z] (encI z) := by
 have := rnormD_good (neg := decide (z < 0)) (digs_ok z.natAbs) hlen
 rwa [sgn_val] at this
theorem rneg_good (z : Int) (hlen : len z ≤ 1099511627776) : PureGood Tryz.prog 241 [encI z] (encI (-z)) := by
 have h1 := rsigned_good (neg := !decide (z < 0)) (digs_ok z.natAbs) hlen
 have e : (if (!decide (z < 0)) = true then -(val (digs z.natAbs) : Int) else (val (digs z.natAbs) : Int)) = -z := by
  rw [val_digs]
  by_cases h : z < 0
  ·simp [h];omega
  ·simp [h];omega
 rw [e] at h1
 generalize hz : -z = y at *
 simp only [encI,bl] at h1 ⊢
 refine good_of_lwp mix Tryz.func241 rfl (by decide) (nt := 9) rfl (rs := [.cell 2 45]) rfl (nle rfl) ?_
 (repeat(first|refine zW ?_|refine zG0 ?_|refine zD0 ?_|refine zT0 ?_))
 exact zQ0
theorem rabs_good (z : Int) (hlen : len z ≤ 1099511627776) : PureGood Tryz.prog 287 [encI z] (encI (z.natAbs : Int)) := by
 have h1 := rsigned_good (neg := false) (digs_ok z.natAbs) hlen
 rw [val_digs,if_neg (by decide)] at h1
 generalize (z.natAbs : Int) = y at *
 simp only [encI,bl] at h1 ⊢
 refine good_of_lwp mix Tryz.func287 rfl (by decide) (nt := 6) rfl (rs := [.cell 2 45]) rfl (nle rfl) ?_
 (repeat(first|refine zW ?_|refine zG0 ?_|refine zD0 ?_|refine zT0 ?_))
 exact zQ0
theorem rsign_good (z : Int) (hlen : len z ≤ 1099511627776) : PureGood Tryz.prog 239 [encI z] (i64 z.sign) := by
 have h1 := rnorm_good z hlen
 have hd : (digs z.natAbs).length = 0 ↔ z = 0 := by
  rw [List.length_eq_zero_iff,digs_eq_nil];omega
 unfold len at hlen
 simp only [encI,bl,i64] at h1 ⊢
 refine good_of_lwp mix Tryz.func239 rfl (by decide) (nt := 12) rfl (rs := [.tmp 2]) rfl (nle rfl) ?_
 (repeat(first|refine zW ?_|refine zG0 ?_|refine zD0 ?_|refine zT0 ?_))
 by_cases h0 : z = 0
 ·have h00 := hd.2 h0
  (repeat(first|refine zW ?_|refine zG0 ?_|refine zD0 ?_))
  refine zR0 ?_
  simp (disch := first|omega|exact kD rfl|exact kX rfl) only [smY,simprocAttr,bl,u32,u64,i64]
  subst h0;rfl
 have h00 : ¬ (digs z.natAbs).length = 0 := fun h => h0 (hd.1 h)
 by_cases hn : z < 0
 ·(repeat(first|refine zW ?_|refine zG0 ?_|refine zD0 ?_))
  refine zR0 ?_
  simp (disch := first|omega|exact kD rfl|exact kX rfl) only [smY,simprocAttr,bl,u32,u64,i64]
  rw [Int.sign_eq_neg_one_of_neg hn]
 ·(repeat(first|refine zW ?_|refine zG0 ?_|refine zD0 ?_))
  refine zR0 ?_
  simp (disch := first|omega|exact kD rfl|exact kX rfl) only [smY,simprocAttr,bl,u32,u64,i64]
  rw [Int.sign_eq_one_of_pos (by omega)]
theorem val2 {m : Nat} (h : m < 18446744073709551616) : val [m % 4294967296,m / 4294967296] = m := by
 simp only [val];omega
theorem rof_good (n : Int) (h : -9223372036854775808 ≤ n ∧ n ≤ 9223372036854775807) : PureGood Tryz.prog 237 [i64 n] (encI n) := by
 have hm : n.natAbs < 18446744073709551616 := by omega
 have h1 := rsigned_good (neg := decide (n < 0)) (ds := [n.natAbs % 4294967296,n.natAbs / 4294967296]) (OkD.cons (by omega) (OkD.cons (by omega) OkD.nil)) (by simp)
 rw [val2 hm] at h1
 have e : (if decide (n < 0) = true then -(n.natAbs : Int) else (n.natAbs : Int)) = n := by
  by_cases h : n < 0
  ·simp [h];omega
  ·simp [h];omega
 rw [e] at h1
 have hdg : dg [n.natAbs % 4294967296,n.natAbs / 4294967296] = .sl 2 [.lit (.int .u32 ((n.natAbs % 4294967296 : Nat) : Int)),.lit (.int .u32 ((n.natAbs / 4294967296 : Nat) : Int))] := rfl
 rw [hdg] at h1
 simp only [encI,bl,i64] at h1 ⊢
 refine good_of_lwp mix Tryz.func237 rfl (by decide) (nt := 19) rfl (rs := [.cell 2 45]) rfl (nle rfl) ?_
 by_cases hn : n < 0
 ·have e2 : (0 - n % 18446744073709551616) % 18446744073709551616 = (n.natAbs : Int) := by omega
  have f1 : (n.natAbs : Int) % 4294967296 = ((n.natAbs % 4294967296 : Nat) : Int) := by omega
  have f2 : (n.natAbs : Int) / 4294967296 % 4294967296 = ((n.natAbs / 4294967296 : Nat) : Int) := by omega
  rw [decide_eq_true hn] at h1 ⊢
  (repeat(first|refine zW ?_|refine zG0 ?_|refine zD0 ?_))
  simp only [wrap_u64_mod,wrap_u32_mod,e2,f1,f2]
  refine l_call rfl (by decide) rfl (by simp (disch := first|omega|exact kD rfl|exact kX rfl) only [smY,simprocAttr,bl,u32,u64,i64];exact rfl) h1 ?_
  (repeat(first|refine zW ?_|refine zG0 ?_|refine zD0 ?_))
  exact zQ0
 ·have f1 : n % 4294967296 = ((n.natAbs % 4294967296 : Nat) : Int) := by omega
  have f2 : n / 4294967296 = ((n.natAbs / 4294967296 : Nat) : Int) := by omega
  rw [decide_eq_false hn] at h1 ⊢
  (repeat(first|refine zW ?_|refine zG0 ?_|refine zD0 ?_))
  simp only [wrap_u32_mod,f1,f2]
  refine l_call rfl (by decide) rfl (by simp (disch := first|omega|exact kD rfl|exact kX rfl) only [smY,simprocAttr,bl,u32,u64,i64];exact rfl) h1 ?_
  (repeat(first|refine zW ?_|refine zG0 ?_|refine zD0 ?_))
  exact zQ0
theorem rbelow_good {a b : List Nat} (ha : OkD a) (hb : OkD b) (na : digs (val a) = a) (nb : digs (val b) = b) (la : a.length ≤ 1099511627776) (lb : b.length ≤ 1099511627776) :
  PureGood Tryz.prog 246 [dg a,dg b] (bl (decide (val a < val b))) := by
 unfold bl
 refine good_of_lwp mix Tryz.func246 rfl (by decide) (nt := 41) rfl (rs := [.tmp 4]) rfl (nle rfl) ?_
 by_cases hl : a.length = b.length
 ·(repeat(first|refine zW ?_|refine zG0 ?_|refine zD0 ?_))
  refine w_loop (α := {k : Nat // k ≤ a.length ∧ a.drop k = b.drop k}) (fun k => st 41 (lk [(0,dg a),(1,dg b),(4,bl false),(5,i64 ((k.1 : Int) - 1))]) (lkH []) 0) (fun k => k.1) ⟨a.length,Nat.le_refl _,by rw [List.drop_of_length_le (Nat.le_refl _),List.drop_of_length_le (by omega)]⟩ ?_ ?_
  ·(refine Sub.plain ?_;simp only [smF,dg,renL,renLs,simprocAttr,bl,u32,u64,i64])
  ·rintro ⟨k,hk,hd⟩
   simp only [st,bl]
   rcases k with _ | k
   ·(repeat(first|refine zW ?_|refine zG0 ?_|refine zD0 ?_))
    refine zR0 ?_
    simp (disch := first|omega|exact kD rfl|exact kX rfl) only [smY,simprocAttr,bl,u32,u64,i64]
    simp only [List.drop_zero] at hd
    simp [hd]
   ·have hx := ha.getD k
    have hy := hb.getD k
    by_cases he : a.getD k 0 = b.getD k 0
    ·(repeat(first|refine zW ?_|refine zG0 ?_|refine zD0 ?_))
     refine ⟨⟨k,by omega,?_⟩,?_,Nat.lt_succ_self k⟩
     ·rw [drop_cons (by omega),drop_cons (by omega : k < b.length),he,hd]
     ·(refine Sub.plain ?_;simp only [smF,dg,renL,renLs,simprocAttr,bl,u32,u64,i64])
      simp only [Int.add_sub_cancel,and_self]
    ·by_cases hlt : a.getD k 0 < b.getD k 0
     ·(repeat(first|refine zW ?_|refine zG0 ?_|refine zD0 ?_))
      refine zR0 ?_
      simp (disch := first|omega|exact kD rfl|exact kX rfl) only [smY,simprocAttr,bl,u32,u64,i64]
      have := cmp_at ha hl (by omega) hd hlt
      simp [this]
     ·(repeat(first|refine zW ?_|refine zG0 ?_|refine zD0 ?_))
      refine zR0 ?_
      simp (disch := first|omega|exact kD rfl|exact kX rfl) only [smY,simprocAttr,bl,u32,u64,i64]
      have := cmp_at hb hl.symm (by omega) hd.symm (by omega)
      simp
      omega
 ·by_cases hlt : a.length < b.length
  ·(repeat(first|refine zW ?_|refine zG0 ?_|refine zD0 ?_))
   refine zR0 ?_
   simp (disch := first|omega|exact kD rfl|exact kX rfl) only [smY,simprocAttr,bl,u32,u64,i64]
   have : val a < val b := lt_of_length_lt (by rw [na,nb];exact hlt)
   simp [this]
  ·(repeat(first|refine zW ?_|refine zG0 ?_|refine zD0 ?_))
   refine zR0 ?_
   simp (disch := first|omega|exact kD rfl|exact kX rfl) only [smY,simprocAttr,bl,u32,u64,i64]
   have : val b < val a := lt_of_length_lt (by rw [na,nb];omega)
   simp
   omega
set_option maxHeartbeats 1000000 in
theorem rsameD_good (n1 n2 : Bool) {a b : List Nat} (ha : OkD a) (hb : OkD b) (la : a.length ≤ 1099511627776) (lb : b.length ≤ 1099511627776) : PureGood Tryz.prog 242 [.agg [bl n1,dg a],.agg [bl n2,dg b]] (bl (decide (n1 = n2 ∧ a = b))) := by
 unfold bl
 refine good_of_lwp mix Tryz.func242 rfl (by decide) (nt := 38) rfl (rs := [.tmp 4]) rfl (nle rfl) ?_
 by_cases hne : n1 = n2
 case neg =>
  have hneq : (n1 != n2) = true := by simp [hne]
  (repeat (first|refine zW ?_|((first|apply l_go rfl|apply c_dec);(case hs=>(simp (disch := first|omega|exact kD rfl|exact kX rfl) only [smY,simprocAttr,bl,u32,u64,i64,hneq];exact rfl));first|refine c_bt ?_|refine c_bf ?_|refine zq ?_)))
  ((first|apply g_ret|apply g_end);case hres => (simp only [smR];simp (disch := first|omega|exact kD rfl|exact kX rfl) only [smY,simprocAttr,bl,u32,u64,i64,hneq];exact rfl))
  simp (disch := first|omega|exact kD rfl|exact kX rfl) only [smY,simprocAttr,bl,u32,u64,i64,hneq]
  all_goals simp [hne]
 subst hne
 by_cases h2 : a.length = b.length
 case neg =>
  have : ¬ (a = b) := fun e => h2 (by rw [e])
  (repeat(first|refine zW ?_|refine zG7 ?_|refine zD7 ?_))
  refine zR7 ?_
  simp (disch := first|omega|exact kD rfl|exact kX rfl) only [smY,simprocAttr,bl,u32,u64,i64,bne_self_eq_false]
  all_goals simp [this]
 (repeat(first|refine zW ?_|refine zG7 ?_|refine zD7 ?_))
 refine w_loop (α := {k : Nat // k ≤ a.length ∧ a.take k = b.take k}) (fun k => st 38 (lk [(2,.ptr 0 0),(3,.ptr 1 0),(4,bl false),(5,i64 (k.1 : Int))]) (lkH [(0,⟨45,[bl n1,dg a],false⟩),(1,⟨45,[bl n1,dg b],false⟩)]) 2) (fun k => a.length - k.1) ⟨0,Nat.zero_le _,rfl⟩ ?_ ?_
 ·(refine Sub.heap2 0 1 (by decide) ?_ (by simp only [smF,dg,renL,renLs,simprocAttr,bl,u32,u64,i64,bne_self_eq_false];exact rfl) (by simp only [smF,dg,renL,renLs,simprocAttr,bl,u32,u64,i64,bne_self_eq_false];exact rfl) ?_ ?_ ?_ ?_;all_goals (first | exact dgs_plain _ | with_reducible rfl | (simp only [smF,dg,renL,renLs,simprocAttr,bl,u32,u64,i64,bne_self_eq_false])|skip))
  ·simp [plainC]
  ·simp [plainC]
 ·rintro ⟨k,hk,hd⟩
  simp only [st,bl]
  by_cases hk2 : k < a.length
  ·have hx := ha.getD k
   have hy := hb.getD k
   by_cases he : a.getD k 0 = b.getD k 0
   ·(repeat(first|refine zW ?_|refine zG7 ?_|refine zD7 ?_))
    refine ⟨⟨k + 1,by omega,?_⟩,?_,by simp only;omega⟩
    ·rw [take_snoc hk2,take_snoc (by omega : k < b.length),he,hd]
    ·(refine Sub.heap2 0 1 (by decide) ?_ (by simp only [smF,dg,renL,renLs,simprocAttr,bl,u32,u64,i64,bne_self_eq_false];exact rfl) (by simp only [smF,dg,renL,renLs,simprocAttr,bl,u32,u64,i64,bne_self_eq_false];exact rfl) ?_ ?_ ?_ ?_;all_goals (first | exact dgs_plain _ | with_reducible rfl | (simp only [smF,dg,renL,renLs,simprocAttr,bl,u32,u64,i64,bne_self_eq_false])|skip))
     ·simp [plainC]
     ·simp [plainC]
   ·have hab : a ≠ b := fun e => he (by rw [e])
    (repeat(first|refine zW ?_|refine zG7 ?_|refine zD7 ?_))
    refine zR7 ?_
    simp (disch := first|omega|exact kD rfl|exact kX rfl) only [smY,simprocAttr,bl,u32,u64,i64,bne_self_eq_false]
    all_goals simp [hab]
  ·have hab : a = b := by
    rwa [List.take_of_length_le (by omega),List.take_of_length_le (by omega)] at hd
   (repeat(first|refine zW ?_|refine zG7 ?_|refine zD7 ?_))
   refine zR7 ?_
   simp (disch := first|omega|exact kD rfl|exact kX rfl) only [smY,simprocAttr,bl,u32,u64,i64,bne_self_eq_false]
   all_goals simp [hab]
theorem natAbs_ext {x y : Int} (h1 : decide (x < 0) = decide (y < 0)) (h2 : digs x.natAbs = digs y.natAbs) : x = y := by
 have h3 : x.natAbs = y.natAbs := by rw [← val_digs x.natAbs,← val_digs y.natAbs,h2]
 have h4 : (x < 0) ↔ (y < 0) := decide_eq_decide.1 h1
 omega
theorem encI_ext (x y : Int) : decide (decide (x < 0) = decide (y < 0) ∧ digs x.natAbs = digs y.natAbs) = decide (x = y) := by
 by_cases h : x = y
 ·subst h;simp
 ·rw [decide_eq_false h,decide_eq_false]
  exact fun ⟨h1,h2⟩ => h (natAbs_ext h1 h2)
theorem rsame_good (x y : Int) (lx : len x ≤ 1099511627776) (ly : len y ≤ 1099511627776) : PureGood Tryz.prog 242 [encI x,encI y] (bl (decide (x = y))) := by
 rw [← encI_ext]
 exact rsameD_good _ _ (digs_ok _) (digs_ok _) lx ly
end Go.Proofs.YtaidcaemdkncgaaGreatDoor
namespace Go.Proofs.YtaidcaemdkncgaaGreatDoor
open Go Go.Lg Go.Num
attribute [local irreducible] Go.Lg.lrun Go.Lg.lwp Go.Lg.exThen Go.Lg.exBlk Go.Lg.keep Go.Lg.goodPost
def outV (l : List Nat) : LV := if l = [] then nilL else .own 0 0 l.length 1
def outB (l : List Nat) : List (Nat × Blk) := if l = [] then [] else [(0,⟨185,dgs l,false⟩)]
theorem outV_nil : outV [] = nilL := rfl
theorem outB_nil : outB [] = [] := rfl
theorem outV_ne {l : List Nat} (h : l ≠ []) : outV l = .own 0 0 l.length 1 := if_neg h
theorem outB_ne {l : List Nat} (h : l ≠ []) : outB l = [(0,⟨185,dgs l,false⟩)] := if_neg h
theorem outV_snoc (l : List Nat) (d : Nat) : outV (l ++ [d]) = .own 0 0 (l.length + 1) 1 := by simp [outV]
theorem outB_snoc (l : List Nat) (d : Nat) : outB (l ++ [d]) = [(0,⟨185,dgs (l ++ [d]),false⟩)] := by simp [outB]
theorem dgs_snoc (l : List Nat) (d : Nat) : dgs (l ++ [d]) = dgs l ++ [.lit (.int .u32 d)] := by simp [dgs]
theorem take_len {a : List Nat} {k : Nat} (h : a.length ≤ k) : a.getD k 0 = 0 := by simp [List.getD,h]
set_option maxHeartbeats 4000000 in
theorem rplus_good {a b : List Nat} (ha : OkD a) (hb : OkD b) (la : a.length ≤ 1099511627776) (lb : b.length ≤ 1099511627776) :
  PureGood Tryz.prog 245 [dg a,dg b] (dg (padL (max a.length b.length + 1) (val a + val b))) := by
 refine good_of_lwp mix Tryz.func245 rfl (by decide) (nt := 56) rfl (rs := [.tmp 4]) rfl (nle rfl) ?_
 (repeat(first|refine zW ?_|refine zG0 ?_|refine zD0 ?_))
 refine w_loop (α := {p : Nat × List Nat × Nat // p.1 ≤ max a.length b.length ∧ p.2.1.length = p.1 ∧ OkD p.2.1 ∧ p.2.2 ≤ 1 ∧ val p.2.1 + 4294967296 ^ p.1 * p.2.2 = val (a.take p.1) + val (b.take p.1)})
  (fun p => st 56 (lk [(0,dg a),(1,dg b),(4,nilL),(5,outV p.1.2.1),(6,u64 p.1.2.2),(7,i64 p.1.1)]) (lkH (outB p.1.2.1)) 1) (fun p => max a.length b.length - p.1.1) ⟨(0,[],0),by simp,by simp,OkD.nil,by simp,by simp [val]⟩ ?_ ?_
 ·simp only [outV_nil,outB_nil]
  (refine Sub.plain ?_;simp only [smF,dg,renL,renLs,simprocAttr,bl,u32,u64,i64])
 ·rintro ⟨⟨k,l,c⟩,hk,hlen,hok,hc,he⟩
  simp only at hk hlen hok hc he
  simp only [st]
  have hx := ha.getD k
  have hy := hb.getD k
  by_cases hl : l = []
  ·subst hl
   simp only [List.length_nil] at hlen
   subst hlen
   simp only [outV_nil,outB_nil]
   by_cases h1 : 0 < a.length
   ·by_cases h2 : 0 < b.length
    ·skip
     (repeat(first|refine zW ?_|refine zG0 ?_|refine zD0 ?_))
     refine ⟨⟨(0 + 1,[] ++ [(c + a.getD 0 0 + b.getD 0 0) % 4294967296],(c + a.getD 0 0 + b.getD 0 0) / 4294967296),by simp only;omega,by simp,OkD.cons (by omega) OkD.nil,by simp only;omega,?_⟩,?_,by simp only;omega⟩
     ·simp only
      rw [val_snoc,List.length_nil,val_take_next,val_take_next,Nat.pow_succ]
      exact add_next he (by omega)
     ·simp only [outV_snoc,outB_snoc]
      simp only [List.nil_append,List.length_nil]
      (refine Sub.heap1 41 ?_ (by simp only [smF,dg,renL,renLs,simprocAttr,bl,u32,u64,i64];exact rfl) ?_ ?_;all_goals (first | exact dgs_plain _ | with_reducible rfl | (simp only [smF,dg,renL,renLs,simprocAttr,bl,u32,u64,i64])|skip))
      ·simp only [true_and,LV.lit.injEq,Value.int.injEq]
       omega
      ·simp only [dgs,List.map_cons,List.map_nil,wrap_u32_mod,List.cons.injEq,and_true,LV.lit.injEq,Value.int.injEq,true_and]
       omega
    ·have h0 := take_len (Nat.le_of_not_lt h2)
     (repeat(first|refine zW ?_|refine zG0 ?_|refine zD0 ?_))
     refine ⟨⟨(0 + 1,[] ++ [(c + a.getD 0 0) % 4294967296],(c + a.getD 0 0) / 4294967296),by simp only;omega,by simp,OkD.cons (by omega) OkD.nil,by simp only;omega,?_⟩,?_,by simp only;omega⟩
     ·simp only
      rw [val_snoc,List.length_nil,val_take_next,val_take_next,Nat.pow_succ]
      exact add_next he (by omega)
     ·simp only [outV_snoc,outB_snoc]
      simp only [List.nil_append,List.length_nil]
      (refine Sub.heap1 33 ?_ (by simp only [smF,dg,renL,renLs,simprocAttr,bl,u32,u64,i64];exact rfl) ?_ ?_;all_goals (first | exact dgs_plain _ | with_reducible rfl | (simp only [smF,dg,renL,renLs,simprocAttr,bl,u32,u64,i64])|skip))
      ·simp only [true_and,LV.lit.injEq,Value.int.injEq]
       omega
      ·simp only [dgs,List.map_cons,List.map_nil,wrap_u32_mod,List.cons.injEq,and_true,LV.lit.injEq,Value.int.injEq,true_and]
       omega
   ·have h00 := take_len (Nat.le_of_not_lt h1)
    by_cases h2 : 0 < b.length
    ·skip
     (repeat(first|refine zW ?_|refine zG0 ?_|refine zD0 ?_))
     refine ⟨⟨(0 + 1,[] ++ [(c + b.getD 0 0) % 4294967296],(c + b.getD 0 0) / 4294967296),by simp only;omega,by simp,OkD.cons (by omega) OkD.nil,by simp only;omega,?_⟩,?_,by simp only;omega⟩
     ·simp only
      rw [val_snoc,List.length_nil,val_take_next,val_take_next,Nat.pow_succ]
      exact add_next he (by omega)
     ·simp only [outV_snoc,outB_snoc]
      simp only [List.nil_append,List.length_nil]
      (refine Sub.heap1 33 ?_ (by simp only [smF,dg,renL,renLs,simprocAttr,bl,u32,u64,i64];exact rfl) ?_ ?_;all_goals (first | exact dgs_plain _ | with_reducible rfl | (simp only [smF,dg,renL,renLs,simprocAttr,bl,u32,u64,i64])|skip))
      ·simp only [true_and,LV.lit.injEq,Value.int.injEq]
       omega
      ·simp only [dgs,List.map_cons,List.map_nil,wrap_u32_mod,List.cons.injEq,and_true,LV.lit.injEq,Value.int.injEq,true_and]
       omega
    ·have ha0 : a = [] := List.length_eq_zero_iff.1 (by omega)
     have hb0 : b = [] := List.length_eq_zero_iff.1 (by omega)
     subst ha0
     subst hb0
     simp only [List.take_nil,val,Nat.pow_zero,Nat.one_mul,Nat.zero_add,Nat.add_zero] at he
     subst he
     (repeat(first|refine zW ?_|refine zG0 ?_|refine zD0 ?_))
     refine zR0 ?_
     simp (disch := first|omega|exact kD rfl|exact kX rfl) only [smY,simprocAttr,bl,u32,u64,i64]
     rfl
  ·have hk0 : 0 < k := by rw [← hlen];exact List.length_pos_iff.2 hl
   simp only [outV_ne hl,outB_ne hl]
   by_cases h1 : k < a.length
   ·by_cases h2 : k < b.length
    ·skip
     (repeat(first|refine zW ?_|refine zG0 ?_|refine zD0 ?_))
     refine ⟨⟨(k + 1,l ++ [(c + a.getD k 0 + b.getD k 0) % 4294967296],(c + a.getD k 0 + b.getD k 0) / 4294967296),by simp only;omega,by simp [hlen],hok.append (OkD.cons (by omega) OkD.nil),by simp only;omega,?_⟩,?_,by simp only;omega⟩
     ·simp only
      rw [val_snoc,hlen,val_take_next,val_take_next,Nat.pow_succ]
      exact add_next he (by omega)
     ·simp only [outV_snoc,outB_snoc]
      (refine Sub.heap1 41 ?_ (by simp only [smF,dg,renL,renLs,simprocAttr,bl,u32,u64,i64];exact rfl) ?_ ?_;all_goals (first | exact dgs_plain _ | with_reducible rfl | (simp only [smF,dg,renL,renLs,simprocAttr,bl,u32,u64,i64])|skip))
      ·simp only [true_and,LV.lit.injEq,Value.int.injEq]
       omega
      ·simp only [dgs_snoc,wrap_u32_mod,List.append_cancel_left_eq,List.cons.injEq,and_true,LV.lit.injEq,Value.int.injEq,true_and]
       omega
    ·have h0 := take_len (Nat.le_of_not_lt h2)
     (repeat(first|refine zW ?_|refine zG0 ?_|refine zD0 ?_))
     refine ⟨⟨(k + 1,l ++ [(c + a.getD k 0) % 4294967296],(c + a.getD k 0) / 4294967296),by simp only;omega,by simp [hlen],hok.append (OkD.cons (by omega) OkD.nil),by simp only;omega,?_⟩,?_,by simp only;omega⟩
     ·simp only
      rw [val_snoc,hlen,val_take_next,val_take_next,Nat.pow_succ]
      exact add_next he (by omega)
     ·simp only [outV_snoc,outB_snoc]
      (refine Sub.heap1 33 ?_ (by simp only [smF,dg,renL,renLs,simprocAttr,bl,u32,u64,i64];exact rfl) ?_ ?_;all_goals (first | exact dgs_plain _ | with_reducible rfl | (simp only [smF,dg,renL,renLs,simprocAttr,bl,u32,u64,i64])|skip))
      ·simp only [true_and,LV.lit.injEq,Value.int.injEq]
       omega
      ·simp only [dgs_snoc,wrap_u32_mod,List.append_cancel_left_eq,List.cons.injEq,and_true,LV.lit.injEq,Value.int.injEq,true_and]
       omega
   ·have h00 := take_len (Nat.le_of_not_lt h1)
    by_cases h2 : k < b.length
    ·skip
     (repeat(first|refine zW ?_|refine zG0 ?_|refine zD0 ?_))
     refine ⟨⟨(k + 1,l ++ [(c + b.getD k 0) % 4294967296],(c + b.getD k 0) / 4294967296),by simp only;omega,by simp [hlen],hok.append (OkD.cons (by omega) OkD.nil),by simp only;omega,?_⟩,?_,by simp only;omega⟩
     ·simp only
      rw [val_snoc,hlen,val_take_next,val_take_next,Nat.pow_succ]
      exact add_next he (by omega)
     ·simp only [outV_snoc,outB_snoc]
      (refine Sub.heap1 33 ?_ (by simp only [smF,dg,renL,renLs,simprocAttr,bl,u32,u64,i64];exact rfl) ?_ ?_;all_goals (first | exact dgs_plain _ | with_reducible rfl | (simp only [smF,dg,renL,renLs,simprocAttr,bl,u32,u64,i64])|skip))
      ·simp only [true_and,LV.lit.injEq,Value.int.injEq]
       omega
      ·simp only [dgs_snoc,wrap_u32_mod,List.append_cancel_left_eq,List.cons.injEq,and_true,LV.lit.injEq,Value.int.injEq,true_and]
       omega
    ·have hkm : k = max a.length b.length := by omega
     (repeat(first|refine zW ?_|refine zG0 ?_|refine zD0 ?_))
     refine zR0 ?_
     simp (disch := first|omega|exact kD rfl|exact kX rfl) only [smY,simprocAttr,bl,u32,u64,i64]
     rw [List.take_length,← dgs_snoc,List.take_of_length_le (by simp [dgs])]
     simp (disch := first|omega|exact kD rfl|exact kX rfl) only [smY,simprocAttr,bl,u32,u64,i64]
     rw [List.take_of_length_le (by omega),List.take_of_length_le (by omega)] at he
     have hfin : val (l ++ [c]) = val a + val b := by rw [val_snoc,hlen];exact he
     rw [← hkm,← eq_padL (hok.append (OkD.cons (by omega) OkD.nil)) (by simp [hlen]) hfin]
     simp [dg]
set_option maxHeartbeats 4000000 in
theorem rminus_good {a b : List Nat} (ha : OkD a) (hb : OkD b) (la : a.length ≤ 1099511627776) (lb : b.length ≤ a.length) (hv : val b ≤ val a) :
  PureGood Tryz.prog 247 [dg a,dg b] (dg (padL a.length (val a - val b))) := by
 refine good_of_lwp mix Tryz.func247 rfl (by decide) (nt := 46) rfl (rs := [.tmp 4]) rfl (nle rfl) ?_
 (repeat(first|refine zW ?_|refine zG0 ?_|refine zD0 ?_))
 refine w_loop (α := {p : Nat × List Nat × Nat // p.1 ≤ a.length ∧ p.2.1.length = p.1 ∧ OkD p.2.1 ∧ p.2.2 ≤ 1 ∧ val p.2.1 + val (b.take p.1) = val (a.take p.1) + 4294967296 ^ p.1 * p.2.2})
  (fun p => st 46 (lk [(0,dg a),(1,dg b),(4,nilL),(5,outV p.1.2.1),(6,u64 p.1.2.2),(7,i64 p.1.1)]) (lkH (outB p.1.2.1)) 1) (fun p => a.length - p.1.1) ⟨(0,[],0),by simp,by simp,OkD.nil,by simp,by simp [val]⟩ ?_ ?_
 ·simp only [outV_nil,outB_nil]
  (refine Sub.plain ?_;simp only [smF,dg,renL,renLs,simprocAttr,bl,u32,u64,i64])
 ·rintro ⟨⟨k,l,c⟩,hk,hlen,hok,hc,he⟩
  simp only at hk hlen hok hc he
  simp only [st]
  have hx := ha.getD k
  have hy := hb.getD k
  by_cases hl : l = []
  ·subst hl
   simp only [List.length_nil] at hlen
   subst hlen
   simp only [outV_nil,outB_nil]
   by_cases h1 : 0 < a.length
   ·by_cases h2 : 0 < b.length
    ·by_cases h3 : a.getD 0 0 < c + b.getD 0 0
     ·skip
      (repeat(first|refine zW ?_|refine zG0 ?_|refine zD0 ?_))
      refine ⟨⟨(0 + 1,[] ++ [a.getD 0 0 + 4294967296 - (c + b.getD 0 0)],1),by simp only;omega,by simp,OkD.cons (by omega) OkD.nil,by simp only;omega,?_⟩,?_,by simp only;omega⟩
      ·simp only
       rw [val_snoc,List.length_nil,val_take_next,val_take_next,Nat.pow_succ]
       exact sub_next he (by omega)
      ·simp only [outV_snoc,outB_snoc]
       simp only [List.nil_append,List.length_nil]
       (refine Sub.heap1 39 ?_ (by simp only [smF,dg,renL,renLs,simprocAttr,bl,u32,u64,i64];exact rfl) ?_ ?_;all_goals (first | exact dgs_plain _ | with_reducible rfl | (simp only [smF,dg,renL,renLs,simprocAttr,bl,u32,u64,i64])|skip))
       all_goals (simp only [dgs,List.map_cons,List.map_nil,wrap_u32_mod,List.cons.injEq,and_true,LV.lit.injEq,Value.int.injEq,true_and,Int.natCast_zero,Int.natCast_one])
       all_goals omega
     ·skip
      (repeat(first|refine zW ?_|refine zG0 ?_|refine zD0 ?_))
      refine ⟨⟨(0 + 1,[] ++ [a.getD 0 0 - (c + b.getD 0 0)],0),by simp only;omega,by simp,OkD.cons (by omega) OkD.nil,by simp only;omega,?_⟩,?_,by simp only;omega⟩
      ·simp only
       rw [val_snoc,List.length_nil,val_take_next,val_take_next,Nat.pow_succ]
       exact sub_next he (by omega)
      ·simp only [outV_snoc,outB_snoc]
       simp only [List.nil_append,List.length_nil]
       (refine Sub.heap1 35 ?_ (by simp only [smF,dg,renL,renLs,simprocAttr,bl,u32,u64,i64];exact rfl) ?_ ?_;all_goals (first | exact dgs_plain _ | with_reducible rfl | (simp only [smF,dg,renL,renLs,simprocAttr,bl,u32,u64,i64])|skip))
       all_goals (simp only [dgs,List.map_cons,List.map_nil,wrap_u32_mod,List.cons.injEq,and_true,LV.lit.injEq,Value.int.injEq,true_and,Int.natCast_zero,Int.natCast_one])
       all_goals omega
    ·have h0 := take_len (Nat.le_of_not_lt h2)
     by_cases h3 : a.getD 0 0 < c
     ·skip
      (repeat(first|refine zW ?_|refine zG0 ?_|refine zD0 ?_))
      refine ⟨⟨(0 + 1,[] ++ [a.getD 0 0 + 4294967296 - c],1),by simp only;omega,by simp,OkD.cons (by omega) OkD.nil,by simp only;omega,?_⟩,?_,by simp only;omega⟩
      ·simp only
       rw [val_snoc,List.length_nil,val_take_next,val_take_next,Nat.pow_succ]
       exact sub_next he (by omega)
      ·simp only [outV_snoc,outB_snoc]
       simp only [List.nil_append,List.length_nil]
       (refine Sub.heap1 31 ?_ (by simp only [smF,dg,renL,renLs,simprocAttr,bl,u32,u64,i64];exact rfl) ?_ ?_;all_goals (first | exact dgs_plain _ | with_reducible rfl | (simp only [smF,dg,renL,renLs,simprocAttr,bl,u32,u64,i64])|skip))
       all_goals (simp only [dgs,List.map_cons,List.map_nil,wrap_u32_mod,List.cons.injEq,and_true,LV.lit.injEq,Value.int.injEq,true_and,Int.natCast_zero,Int.natCast_one])
       all_goals omega
     ·skip
      (repeat(first|refine zW ?_|refine zG0 ?_|refine zD0 ?_))
      refine ⟨⟨(0 + 1,[] ++ [a.getD 0 0 - c],0),by simp only;omega,by simp,OkD.cons (by omega) OkD.nil,by simp only;omega,?_⟩,?_,by simp only;omega⟩
      ·simp only
       rw [val_snoc,List.length_nil,val_take_next,val_take_next,Nat.pow_succ]
       exact sub_next he (by omega)
      ·simp only [outV_snoc,outB_snoc]
       simp only [List.nil_append,List.length_nil]
       (refine Sub.heap1 27 ?_ (by simp only [smF,dg,renL,renLs,simprocAttr,bl,u32,u64,i64];exact rfl) ?_ ?_;all_goals (first | exact dgs_plain _ | with_reducible rfl | (simp only [smF,dg,renL,renLs,simprocAttr,bl,u32,u64,i64])|skip))
       all_goals (simp only [dgs,List.map_cons,List.map_nil,wrap_u32_mod,List.cons.injEq,and_true,LV.lit.injEq,Value.int.injEq,true_and,Int.natCast_zero,Int.natCast_one])
       all_goals omega
   ·have ha0 : a = [] := List.length_eq_zero_iff.1 (by omega)
    have hb0 : b = [] := List.length_eq_zero_iff.1 (by omega)
    subst ha0
    subst hb0
    (repeat(first|refine zW ?_|refine zG0 ?_|refine zD0 ?_))
    refine zR0 ?_
    simp (disch := first|omega|exact kD rfl|exact kX rfl) only [smY,simprocAttr,bl,u32,u64,i64]
    rfl
  ·have hk0 : 0 < k := by rw [← hlen];exact List.length_pos_iff.2 hl
   simp only [outV_ne hl,outB_ne hl]
   by_cases h1 : k < a.length
   ·by_cases h2 : k < b.length
    ·by_cases h3 : a.getD k 0 < c + b.getD k 0
     ·skip
      (repeat(first|refine zW ?_|refine zG0 ?_|refine zD0 ?_))
      refine ⟨⟨(k + 1,l ++ [a.getD k 0 + 4294967296 - (c + b.getD k 0)],1),by simp only;omega,by simp [hlen],hok.append (OkD.cons (by omega) OkD.nil),by simp only;omega,?_⟩,?_,by simp only;omega⟩
      ·simp only
       rw [val_snoc,hlen,val_take_next,val_take_next,Nat.pow_succ]
       exact sub_next he (by omega)
      ·simp only [outV_snoc,outB_snoc]
       (refine Sub.heap1 39 ?_ (by simp only [smF,dg,renL,renLs,simprocAttr,bl,u32,u64,i64];exact rfl) ?_ ?_;all_goals (first | exact dgs_plain _ | with_reducible rfl | (simp only [smF,dg,renL,renLs,simprocAttr,bl,u32,u64,i64])|skip))
       all_goals (simp only [dgs_snoc,wrap_u32_mod,List.append_cancel_left_eq,List.cons.injEq,and_true,LV.lit.injEq,Value.int.injEq,true_and,Int.natCast_zero,Int.natCast_one])
       all_goals omega
     ·skip
      (repeat(first|refine zW ?_|refine zG0 ?_|refine zD0 ?_))
      refine ⟨⟨(k + 1,l ++ [a.getD k 0 - (c + b.getD k 0)],0),by simp only;omega,by simp [hlen],hok.append (OkD.cons (by omega) OkD.nil),by simp only;omega,?_⟩,?_,by simp only;omega⟩
      ·simp only
       rw [val_snoc,hlen,val_take_next,val_take_next,Nat.pow_succ]
       exact sub_next he (by omega)
      ·simp only [outV_snoc,outB_snoc]
       (refine Sub.heap1 35 ?_ (by simp only [smF,dg,renL,renLs,simprocAttr,bl,u32,u64,i64];exact rfl) ?_ ?_;all_goals (first | exact dgs_plain _ | with_reducible rfl | (simp only [smF,dg,renL,renLs,simprocAttr,bl,u32,u64,i64])|skip))
       all_goals (simp only [dgs_snoc,wrap_u32_mod,List.append_cancel_left_eq,List.cons.injEq,and_true,LV.lit.injEq,Value.int.injEq,true_and,Int.natCast_zero,Int.natCast_one])
       all_goals omega
    ·have h0 := take_len (Nat.le_of_not_lt h2)
     by_cases h3 : a.getD k 0 < c
     ·skip
      (repeat(first|refine zW ?_|refine zG0 ?_|refine zD0 ?_))
      refine ⟨⟨(k + 1,l ++ [a.getD k 0 + 4294967296 - c],1),by simp only;omega,by simp [hlen],hok.append (OkD.cons (by omega) OkD.nil),by simp only;omega,?_⟩,?_,by simp only;omega⟩
      ·simp only
       rw [val_snoc,hlen,val_take_next,val_take_next,Nat.pow_succ]
       exact sub_next he (by omega)
      ·simp only [outV_snoc,outB_snoc]
       (refine Sub.heap1 31 ?_ (by simp only [smF,dg,renL,renLs,simprocAttr,bl,u32,u64,i64];exact rfl) ?_ ?_;all_goals (first | exact dgs_plain _ | with_reducible rfl | (simp only [smF,dg,renL,renLs,simprocAttr,bl,u32,u64,i64])|skip))
       all_goals (simp only [dgs_snoc,wrap_u32_mod,List.append_cancel_left_eq,List.cons.injEq,and_true,LV.lit.injEq,Value.int.injEq,true_and,Int.natCast_zero,Int.natCast_one])
       all_goals omega
     ·skip
      (repeat(first|refine zW ?_|refine zG0 ?_|refine zD0 ?_))
      refine ⟨⟨(k + 1,l ++ [a.getD k 0 - c],0),by simp only;omega,by simp [hlen],hok.append (OkD.cons (by omega) OkD.nil),by simp only;omega,?_⟩,?_,by simp only;omega⟩
      ·simp only
       rw [val_snoc,hlen,val_take_next,val_take_next,Nat.pow_succ]
       exact sub_next he (by omega)
      ·simp only [outV_snoc,outB_snoc]
       (refine Sub.heap1 27 ?_ (by simp only [smF,dg,renL,renLs,simprocAttr,bl,u32,u64,i64];exact rfl) ?_ ?_;all_goals (first | exact dgs_plain _ | with_reducible rfl | (simp only [smF,dg,renL,renLs,simprocAttr,bl,u32,u64,i64])|skip))
       all_goals (simp only [dgs_snoc,wrap_u32_mod,List.append_cancel_left_eq,List.cons.injEq,and_true,LV.lit.injEq,Value.int.injEq,true_and,Int.natCast_zero,Int.natCast_one])
       all_goals omega
   ·have hkm : k = a.length := by omega
    (repeat(first|refine zW ?_|refine zG0 ?_|refine zD0 ?_))
    refine zR0 ?_
    simp (disch := first|omega|exact kD rfl|exact kX rfl) only [smY,simprocAttr,bl,u32,u64,i64]
    rw [List.take_of_length_le (by omega),List.take_of_length_le (by omega)] at he
    have hvr := val_lt hok
    have hc0 : c = 0 := by
     rcases Nat.eq_zero_or_pos c with h | h
     ·exact h
     ·have : c = 1 := by omega
      subst this
      rw [hlen] at hvr
      omega
    subst hc0
    rw [← eq_padL hok (by omega) (show val l = val a - val b by omega)]
    simp [dg]
end Go.Proofs.YtaidcaemdkncgaaGreatDoor
namespace Go.Proofs.YtaidcaemdkncgaaGreatDoor
open Go Go.Lg Go.Num
attribute [local irreducible] Go.Lg.lrun Go.Lg.lwp Go.Lg.exThen Go.Lg.exBlk Go.Lg.keep Go.Lg.goodPost
theorem radd_lt {a b : Nat} : a + b < 4294967296 ^ (max (digs a).length (digs b).length + 1) := by
 have h1 := lt_pow_digs a
 have h2 := lt_pow_digs b
 have h3 : 4294967296 ^ (digs a).length ≤ 4294967296 ^ (max (digs a).length (digs b).length) := Nat.pow_le_pow_right (by omega) (by omega)
 have h4 : 4294967296 ^ (digs b).length ≤ 4294967296 ^ (max (digs a).length (digs b).length) := Nat.pow_le_pow_right (by omega) (by omega)
 rw [Nat.pow_succ]
 omega
theorem rsub_lt {a b : Nat} : a - b < 4294967296 ^ (digs a).length := by
 have h1 := lt_pow_digs a
 omega
set_option maxHeartbeats 2000000 in
theorem radd_good (x y : Int) (lx : len x ≤ 549755813888) (ly : len y ≤ 549755813888) : PureGood Tryz.prog 158 [encI x,encI y] (encI (x + y)) := by
 have hn1 := rnorm_good x (by omega)
 have hn2 := rnorm_good y (by omega)
 unfold len at lx ly
 have hp := rplus_good (digs_ok x.natAbs) (digs_ok y.natAbs) (by omega) (by omega)
 have hb := rbelow_good (digs_ok x.natAbs) (digs_ok y.natAbs) (by rw [val_digs]) (by rw [val_digs]) (by omega) (by omega)
 rw [val_digs,val_digs] at hp hb
 have hs : ∀ (n : Bool) (k v : Nat),k ≤ 1099511627776 → v < 4294967296 ^ k → PureGood Tryz.prog 244 [bl n,dg (padL k v)] (encI (if n then -(v : Int) else (v : Int))) := fun n k v hk hv => by
  have := rsigned_good (neg := n) (padL_ok k v) (by rw [padL_length];exact hk)
  rwa [val_padL hv] at this
 by_cases hne : decide (x < 0) = decide (y < 0)
 ·have h1 := hs (decide (x < 0)) _ _ (by omega) (radd_lt (a := x.natAbs) (b := y.natAbs))
  have e : (if decide (x < 0) = true then -((x.natAbs + y.natAbs : Nat) : Int) else ((x.natAbs + y.natAbs : Nat) : Int)) = x + y := by
   have h4 : (x < 0) ↔ (y < 0) := decide_eq_decide.1 hne
   by_cases h : x < 0
   ·have := h4.1 h;simp [h];omega
   ·have := fun h' => h (h4.2 h');simp [h];omega
  rw [e] at h1
  have heq : (decide (x < 0) == decide (y < 0)) = true := by simp [hne]
  simp only [encI,bl] at hn1 hn2 h1 ⊢
  refine good_of_lwp mix Tryz.func158 rfl (by decide) (nt := 45) rfl (rs := [.cell 4 45]) rfl (nle rfl) ?_
  (repeat (first|refine zW ?_|((first|apply l_go rfl|apply c_dec|apply zT rfl (by decide) rfl);(case hs=>(simp (disch := first|omega|exact kD rfl|exact kX rfl) only [smY,simprocAttr,bl,u32,u64,i64,heq];exact rfl));first|refine c_bt ?_|refine c_bf ?_|refine zq ?_|(case hg=>assumption))))
  ((first|apply g_ret|apply g_end);case hres => (simp only [smR];simp (disch := first|omega|exact kD rfl|exact kX rfl) only [smY,simprocAttr,bl,u32,u64,i64,heq];exact rfl))
  simp (disch := first|omega|exact kD rfl|exact kX rfl) only [smY,simprocAttr,bl,u32,u64,i64,heq]
 have heq : (decide (x < 0) == decide (y < 0)) = false := by simp [hne]
 have hxy : ¬ ((x < 0) ↔ (y < 0)) := fun h => hne (decide_eq_decide.2 h)
 by_cases hlt : x.natAbs < y.natAbs
 ·rw [decide_eq_true hlt] at hb
  have hm := rminus_good (digs_ok y.natAbs) (digs_ok x.natAbs) (by omega) (length_le_of_le (by omega)) (by rw [val_digs,val_digs];omega)
  rw [val_digs,val_digs] at hm
  have h1 := hs (decide (y < 0)) _ _ (by omega) (rsub_lt (a := y.natAbs) (b := x.natAbs))
  have e : (if decide (y < 0) = true then -((y.natAbs - x.natAbs : Nat) : Int) else ((y.natAbs - x.natAbs : Nat) : Int)) = x + y := by
   by_cases h : y < 0
   ·simp [h];omega
   ·simp [h];omega
  rw [e] at h1
  simp only [encI,bl] at hn1 hn2 h1 hb ⊢
  refine good_of_lwp mix Tryz.func158 rfl (by decide) (nt := 45) rfl (rs := [.cell 4 45]) rfl (nle rfl) ?_
  (repeat (first|refine zW ?_|((first|apply l_go rfl|apply c_dec|apply zT rfl (by decide) rfl);(case hs=>(simp (disch := first|omega|exact kD rfl|exact kX rfl) only [smY,simprocAttr,bl,u32,u64,i64,heq];exact rfl));first|refine c_bt ?_|refine c_bf ?_|refine zq ?_|(case hg=>assumption))))
  ((first|apply g_ret|apply g_end);case hres => (simp only [smR];simp (disch := first|omega|exact kD rfl|exact kX rfl) only [smY,simprocAttr,bl,u32,u64,i64,heq];exact rfl))
  simp (disch := first|omega|exact kD rfl|exact kX rfl) only [smY,simprocAttr,bl,u32,u64,i64,heq]
 ·rw [decide_eq_false hlt] at hb
  have hm := rminus_good (digs_ok x.natAbs) (digs_ok y.natAbs) (by omega) (length_le_of_le (by omega)) (by rw [val_digs,val_digs];omega)
  rw [val_digs,val_digs] at hm
  have h1 := hs (decide (x < 0)) _ _ (by omega) (rsub_lt (a := x.natAbs) (b := y.natAbs))
  have e : (if decide (x < 0) = true then -((x.natAbs - y.natAbs : Nat) : Int) else ((x.natAbs - y.natAbs : Nat) : Int)) = x + y := by
   by_cases h : x < 0
   ·simp [h];omega
   ·simp [h];omega
  rw [e] at h1
  simp only [encI,bl] at hn1 hn2 h1 hb ⊢
  refine good_of_lwp mix Tryz.func158 rfl (by decide) (nt := 45) rfl (rs := [.cell 4 45]) rfl (nle rfl) ?_
  (repeat (first|refine zW ?_|((first|apply l_go rfl|apply c_dec|apply zT rfl (by decide) rfl);(case hs=>(simp (disch := first|omega|exact kD rfl|exact kX rfl) only [smY,simprocAttr,bl,u32,u64,i64,heq];exact rfl));first|refine c_bt ?_|refine c_bf ?_|refine zq ?_|(case hg=>assumption))))
  ((first|apply g_ret|apply g_end);case hres => (simp only [smR];simp (disch := first|omega|exact kD rfl|exact kX rfl) only [smY,simprocAttr,bl,u32,u64,i64,heq];exact rfl))
  simp (disch := first|omega|exact kD rfl|exact kX rfl) only [smY,simprocAttr,bl,u32,u64,i64,heq]
theorem rsub_good (x y : Int) (lx : len x ≤ 549755813888) (ly : len y ≤ 549755813888) : PureGood Tryz.prog 310 [encI x,encI y] (encI (x - y)) := by
 have h1 := rneg_good y (by omega)
 have h2 := radd_good x (-y) lx (by rw [len_neg];exact ly)
 rw [← Int.sub_eq_add_neg] at h2
 simp only [encI,bl] at h1 h2 ⊢
 refine good_of_lwp mix Tryz.func310 rfl (by decide) (nt := 9) rfl (rs := [.cell 4 45]) rfl (nle rfl) ?_
 (repeat(first|refine zW ?_|refine zG0 ?_|refine zD0 ?_|refine zT0 ?_))
 exact zQ0
end Go.Proofs.YtaidcaemdkncgaaGreatDoor
namespace Go.Proofs.YtaidcaemdkncgaaGreatDoor
open Go Go.Lg Go.Num
attribute [local irreducible] Go.Lg.lrun Go.Lg.lwp Go.Lg.exThen Go.Lg.exBlk Go.Lg.keep Go.Lg.goodPost
theorem padL_take (k v : Nat) : (padL k v).take k = padL k v := List.take_of_length_le (by rw [padL_length];exact Nat.le_refl _)
set_option maxHeartbeats 4000000 in
theorem rmulD_good (n1 n2 : Bool) {a b : List Nat} (ha : OkD a) (hb : OkD b) (la : a.length ≤ 549755813888) (lb : b.length ≤ 549755813888)
  (ta : PureGood Tryz.prog 248 [dg a] (dg a)) (tb : PureGood Tryz.prog 248 [dg b] (dg b))
  {N : Bool} {D : List Nat} (hsg : PureGood Tryz.prog 244 [bl (n1 != n2),dg (padL (a.length + b.length) (val a * val b))] (.agg [bl N,dg D])) :
  PureGood Tryz.prog 159 [.agg [bl n1,dg a],.agg [bl n2,dg b]] (.agg [bl N,dg D]) := by
 simp only [bl] at hsg ⊢
 refine good_of_lwp mix Tryz.func159 rfl (by decide) (nt := 81) rfl (rs := [.cell 4 45]) rfl (nle rfl) ?_
 (repeat(first|refine zW ?_|refine zG0 ?_|refine zD0 ?_))
 refine l_call rfl (by decide) rfl (by simp (disch := first|omega|exact kD rfl|exact kX rfl) only [smY,simprocAttr,bl,u32,u64,i64];exact rfl) ta ?_
 (repeat(first|refine zW ?_|refine zG0 ?_|refine zD0 ?_))
 refine l_call rfl (by decide) rfl (by simp (disch := first|omega|exact kD rfl|exact kX rfl) only [smY,simprocAttr,bl,u32,u64,i64];exact rfl) tb ?_
 (repeat(first|refine zW ?_|refine zG0 ?_|refine zD0 ?_))
 refine w_loop (α := {p : Nat × List Nat // p.1 ≤ a.length ∧ p.2.length = a.length + b.length ∧ OkD p.2 ∧ val (p.2.take (p.1 + b.length)) = val (a.take p.1) * val b})
  (fun p => st 81 (lk [(2,.ptr 0 0),(3,.ptr 1 0),(4,.ptr 2 0),(5,dg a),(6,dg b),(7,.own 3 0 (a.length + b.length) 1),(8,i64 p.1.1)]) (lkH [(0,⟨45,[bl n1,dg a],false⟩),(1,⟨45,[bl n2,dg b],false⟩),(2,⟨45,[bl false,.lit (.slice none 0 0)],false⟩),(3,⟨185,dgs p.1.2,false⟩)]) 4) (fun p => a.length - p.1.1) ⟨(0,List.replicate (a.length + b.length) 0),by simp,by simp,OkD.replicate _,by simp [List.take_replicate,val_replicate,val]⟩ ?_ ?_
 ·(refine Sub.heapL [0,1,2,16] rfl (by decide) ?_ (by simp only [smL];decide) ?_ ?_;all_goals (first|(simp only [plainC,smF,dg,renL,renLs,simprocAttr,bl,u32,u64,i64];done) | (simp only [smF,dg,renL,renLs,simprocAttr,bl,u32,u64,i64];(repeat' apply And.intro);all_goals rfl) | (simp only [smF,dg,renL,renLs,simprocAttr,bl,u32,u64,i64]) | skip))
  ·exact ⟨trivial,trivial,trivial,by simp [dgs]⟩
  ·exact ⟨by simp [plainC],by simp [plainC],by simp [plainC],dgs_plain _⟩
 ·rintro ⟨⟨i,r⟩,hi,hr,hor,he⟩
  simp only at hi hr hor he
  simp only [st]
  have hx := ha.getD i
  by_cases h3 : i < a.length
  ·(repeat(first|refine zW ?_|refine zG0 ?_|refine zD0 ?_))
   refine w_loop (α := {p : Nat × List Nat × Nat // p.1 ≤ b.length ∧ p.2.1.length = a.length + b.length ∧ OkD p.2.1 ∧ p.2.2 < 4294967296 ∧ p.2.1.drop (i + p.1) = r.drop (i + p.1) ∧ val (p.2.1.take (i + p.1)) + 4294967296 ^ i * 4294967296 ^ p.1 * p.2.2 = val (r.take (i + p.1)) + 4294967296 ^ i * a.getD i 0 * val (b.take p.1)})
    (fun p => st 81 (lk [(2,.ptr 0 0),(3,.ptr 1 0),(4,.ptr 2 0),(5,dg a),(6,dg b),(7,.own 3 0 (a.length + b.length) 1),(8,i64 i),(9,u64 p.1.2.2),(10,i64 p.1.1)]) (lkH [(0,⟨45,[bl n1,dg a],false⟩),(1,⟨45,[bl n2,dg b],false⟩),(2,⟨45,[bl false,.lit (.slice none 0 0)],false⟩),(3,⟨185,dgs p.1.2.1,false⟩)]) 4) (fun p => b.length - p.1.1) ⟨(0,r,0),by simp,hr,hor,by simp,rfl,by simp [val]⟩ ?_ ?_
   ·(refine Sub.heapL [0,1,2,3] rfl (by decide) ?_ (by simp only [smL];decide) ?_ ?_;all_goals (first|(simp only [plainC,smF,dg,renL,renLs,simprocAttr,bl,u32,u64,i64];done) | (simp only [smF,dg,renL,renLs,simprocAttr,bl,u32,u64,i64];(repeat' apply And.intro);all_goals rfl) | (simp only [smF,dg,renL,renLs,simprocAttr,bl,u32,u64,i64]) | skip))
    ·exact ⟨by simp [plainC],by simp [plainC],by simp [plainC],dgs_plain _⟩
   ·rintro ⟨⟨j,q,c⟩,hj,hq,hoq,hc,hd,hv⟩
    simp only at hj hq hoq hc hd hv
    simp only [st]
    have hy := hb.getD j
    have hz := hoq.getD (i + j)
    have hxy := mul_bound hx hy
    by_cases h4 : j < b.length
    ·(repeat(first|refine zW ?_|refine zG0 ?_|refine zD0 ?_))
     refine ⟨⟨(j + 1,q.set (i + j) ((a.getD i 0 * b.getD j 0 + q.getD (i + j) 0 + c) % 4294967296),(a.getD i 0 * b.getD j 0 + q.getD (i + j) 0 + c) / 4294967296),by simp only;omega,by simp [hq],hoq.set (by omega),by simp only;omega,drop_set_next hd,?_⟩,?_,by simp only;omega⟩
     ·simp only
      rw [← Nat.add_assoc i j 1,val_set_next (by omega),val_take_next,val_take_next,Nat.pow_add,Nat.pow_succ,← getD_drop_eq hd,← Nat.mul_assoc (4294967296 ^ i)]
      exact mul_next hv rfl
     ·(refine Sub.heapL [0,1,2,3] rfl (by decide) ?_ (by simp only [smL];decide) ?_ ?_;all_goals (first|(simp only [plainC,smF,dg,renL,renLs,simprocAttr,bl,u32,u64,i64];done) | (simp only [smF,dg,renL,renLs,simprocAttr,bl,u32,u64,i64];(repeat' apply And.intro);all_goals rfl) | (simp only [smF,dg,renL,renLs,simprocAttr,bl,u32,u64,i64]) | skip))
      ·simp only [true_and]
       (simp only [LV.lit.injEq,Value.int.injEq,true_and,and_true,dg,LV.sl.injEq];omega)
      ·have e : ((((a.getD i 0 : Nat) : Int) * (b.getD j 0 : Nat) + (q.getD (i + j) 0 : Nat) + c) % 4294967296).toNat = (a.getD i 0 * b.getD j 0 + q.getD (i + j) 0 + c) % 4294967296 := by omega
       rw [e]
       exact ⟨trivial,trivial,trivial,rfl⟩
      ·exact ⟨by simp [plainC],by simp [plainC],by simp [plainC],dgs_plain _⟩
    ·have hj2 : j = b.length := by omega
     subst hj2
     (repeat(first|refine zW ?_|refine zG0 ?_|refine zD0 ?_))
     refine ⟨⟨(i + 1,q.set (i + b.length) c),by simp only;omega,by simp [hq],hoq.set hc,?_⟩,?_,by simp only;omega⟩
     ·simp only
      rw [Nat.add_right_comm,val_set_next (by omega),Nat.pow_add,hv,List.take_of_length_le (Nat.le_refl _),he,val_take_next,Nat.add_mul]
     ·(refine Sub.heapL [0,1,2,3] rfl (by decide) ?_ (by simp only [smL];decide) ?_ ?_;all_goals (first|(simp only [plainC,smF,dg,renL,renLs,simprocAttr,bl,u32,u64,i64];done) | (simp only [smF,dg,renL,renLs,simprocAttr,bl,u32,u64,i64];(repeat' apply And.intro);all_goals rfl) | (simp only [smF,dg,renL,renLs,simprocAttr,bl,u32,u64,i64]) | skip))
      ·exact ⟨by simp [plainC],by simp [plainC],by simp [plainC],dgs_plain _⟩
  ·have hi2 : i = a.length := by omega
   subst hi2
   rw [List.take_of_length_le (Nat.le_of_eq hr)] at he
   rw [List.take_of_length_le (Nat.le_refl _)] at he
   have hpad := eq_padL hor hr he
   subst hpad
   (repeat (first|refine zW ?_|((first|apply l_go rfl|apply c_dec);(case hs=>(simp (disch := first|omega|exact kD rfl|exact kX rfl) only [smY,simprocAttr,bl,u32,u64,i64,padL_length,padL_take];exact rfl));first|refine c_bt ?_|refine c_bf ?_|refine zq ?_)))
   refine l_call rfl (by decide) rfl (by simp (disch := first|omega|exact kD rfl|exact kX rfl) only [smY,simprocAttr,bl,u32,u64,i64,padL_length,padL_take];exact rfl) hsg ?_
   (repeat (first|refine zW ?_|((first|apply l_go rfl|apply c_dec);(case hs=>(simp (disch := first|omega|exact kD rfl|exact kX rfl) only [smY,simprocAttr,bl,u32,u64,i64,padL_length,padL_take];exact rfl));first|refine c_bt ?_|refine c_bf ?_|refine zq ?_)))
   ((first|apply g_ret|apply g_end);case hres => (simp only [smR];simp (disch := first|omega|exact kD rfl|exact kX rfl) only [smY,simprocAttr,bl,u32,u64,i64,padL_length,padL_take];exact rfl))
   simp (disch := first|omega|exact kD rfl|exact kX rfl) only [smY,simprocAttr,bl,u32,u64,i64,padL_length,padL_take]
theorem rmul_good (x y : Int) (lx : len x ≤ 549755813888) (ly : len y ≤ 549755813888) : PureGood Tryz.prog 159 [encI x,encI y] (encI (x * y)) := by
 unfold len at lx ly
 have hlt : x.natAbs * y.natAbs < 4294967296 ^ ((digs x.natAbs).length + (digs y.natAbs).length) := by
  rw [Nat.pow_add]
  exact Nat.mul_lt_mul'' (lt_pow_digs _) (lt_pow_digs _)
 have hs := rsigned_good (neg := (decide (x < 0) != decide (y < 0))) (padL_ok ((digs x.natAbs).length + (digs y.natAbs).length) (x.natAbs * y.natAbs)) (by rw [padL_length];omega)
 rw [val_padL hlt] at hs
 have e : (if (decide (x < 0) != decide (y < 0)) = true then -((x.natAbs * y.natAbs : Nat) : Int) else ((x.natAbs * y.natAbs : Nat) : Int)) = x * y := by
  rw [Int.natCast_mul]
  by_cases h1 : x < 0
  ·by_cases h2 : y < 0
   ·simp [h1,h2]
    rw [show ((x.natAbs : Nat) : Int) = -x by omega,show ((y.natAbs : Nat) : Int) = -y by omega,Int.neg_mul_neg]
   ·simp [h1,h2]
    rw [show ((x.natAbs : Nat) : Int) = -x by omega,show ((y.natAbs : Nat) : Int) = y by omega,Int.neg_mul,Int.neg_neg]
  ·by_cases h2 : y < 0
   ·simp [h1,h2]
    rw [show ((x.natAbs : Nat) : Int) = x by omega,show ((y.natAbs : Nat) : Int) = -y by omega,Int.mul_neg,Int.neg_neg]
   ·simp [h1,h2]
    rw [show ((x.natAbs : Nat) : Int) = x by omega,show ((y.natAbs : Nat) : Int) = y by omega]
 rw [e] at hs
 have h := rmulD_good (decide (x < 0)) (decide (y < 0)) (digs_ok x.natAbs) (digs_ok y.natAbs) lx ly (rtrim_digs (by omega)) (rtrim_digs (by omega)) (N := decide (x * y < 0)) (D := digs (x * y).natAbs)
 rw [val_digs,val_digs] at h
 exact h hs
end Go.Proofs.YtaidcaemdkncgaaGreatDoor