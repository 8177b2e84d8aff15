/- Contracts of functions of the program, and what proves them (texts: B11). -/
import Derived.Test.YtpkjokknpbclhaaGreatZAF
set_option linter.all false
namespace Go.Proofs.YtpkjokknpbclhaaGreat
open Go Go.Lg Go.Num
set_option maxRecDepth 100000
attribute [local irreducible] Go.Lg.lrun Go.Lg.lwp Go.Lg.exThen Go.Lg.exBlk Go.Lg.keep Go.Lg.goodPost Go.Lg.mutPost
theorem plus_digs {x y : Nat} (lx : (digs x).length ≤ 549755813888) (ly : (digs y).length ≤ 549755813888) : ∃ ds,OkD ds ∧ val ds = x + y ∧ ds.length ≤ 549755813889 ∧ PureGood Tryz.prog 155 [dg (digs x),dg (digs y)] (dg ds) := by
 refine ⟨plusL (digs x) (digs y),padL_ok _ _,?_,by unfold plusL;rw [padL_length];omega,plus_good (digs_ok x) (digs_ok y) (by omega) (by omega)⟩
 unfold plusL
 rw [val_digs,val_digs]
 refine val_padL ?_
 have h1 : 4294967296 ^ (digs x).length ≤ 4294967296 ^ max (digs x).length (digs y).length := Nat.pow_le_pow_right (by omega) (by omega)
 have h2 : 4294967296 ^ (digs y).length ≤ 4294967296 ^ max (digs x).length (digs y).length := Nat.pow_le_pow_right (by omega) (by omega)
 have h3 := lt_pow_digs x
 have h4 := lt_pow_digs y
 rw [Nat.pow_succ]
 omega
theorem less_digs {x y : Nat} (h : y ≤ x) (lx : (digs x).length ≤ 549755813888) : ∃ ds,OkD ds ∧ val ds = x - y ∧ ds.length ≤ 549755813888 ∧ PureGood Tryz.prog 157 [dg (digs x),dg (digs y)] (dg ds) := by
 have hl := length_le_of_le h
 have := less_good (digs_ok x) (digs_ok y) hl (by rw [val_digs,val_digs];exact h) (by omega)
 rw [val_digs,val_digs] at this
 exact ⟨_,padL_ok _ _,val_padL (Nat.lt_of_le_of_lt (Nat.sub_le x y) (lt_pow_digs x)),by rw [padL_length];omega,this⟩
theorem add_inner (x y : Int) (neg : Bool) (n : Nat) (hy : (if neg then -(n : Int) else n) = y) (hx : len x ≤ 549755813888) (hn : (digs n).length ≤ 549755813888) : PureGood Tryz.prog 150 [encI x,bl neg,dg (digs n)] (encI (x + y)) := by
 unfold len at hx
 simp only [encI,bl]
 refine good_of_lwp mix Tryz.func150 rfl (by decide) (nt := 35) rfl (rs := [.cell 6 66]) rfl (nle rfl) ?_
 (repeat (first|apply zO (by decide +kernel)|apply zP (by decide +kernel)|(apply zS;(case h=>constructor<;>decide))|((first|apply l_go rfl|apply c_dec);(case hs=>(simp (disch := first|omega|exact kD rfl|exact kX rfl) only [smY,simprocAttr,bl,u32,u64,i64];exact rfl));first|refine c_bt ?_|refine c_bf ?_|refine zq ?_)))
 refine l_call rfl (by decide) rfl (by simp (disch := first|omega|exact kD rfl|exact kX rfl) only [smY,simprocAttr,bl,u32,u64,i64];exact rfl) (trimmed_digs _ (by omega)) ?_
 by_cases h1 : decide (x < 0) = neg
 ·obtain ⟨ds,h2,h3,h4,hg⟩ := plus_digs hx hn
  subst h1
  have hb : (decide (x < 0) == decide (x < 0)) = true := beq_self_eq_true _
  (repeat (first|apply zO (by decide +kernel)|apply zP (by decide +kernel)|(apply zS;(case h=>constructor<;>decide))|((first|apply l_go rfl|apply c_dec|apply zT rfl (by decide) rfl);(case hs=>(simp (disch := first|omega|exact kD rfl|exact kX rfl) only [smY,simprocAttr,bl,u32,u64,i64];exact rfl));first|refine c_bt ?_|refine c_bf ?_|refine zq ?_|(case hg=>assumption))))
  refine l_call rfl (by decide) rfl (by simp (disch := first|omega|exact kD rfl|exact kX rfl) only [smY,simprocAttr,bl,u32,u64,i64];exact rfl) (signed_val (neg := decide (x < 0)) (z := x + y) h2 (by rw [h3,← hy];by_cases h : x < 0 <;> simp [h] <;> omega) (by omega)) ?_
  simp only [encI]
  (repeat (first|apply zO (by decide +kernel)|apply zP (by decide +kernel)|(apply zS;(case h=>constructor<;>decide))|((first|apply l_go rfl|apply c_dec);(case hs=>(simp (disch := first|omega|exact kD rfl|exact kX rfl) only [smY,simprocAttr,bl,u32,u64,i64];exact rfl));first|refine c_bt ?_|refine c_bf ?_|refine zq ?_)))
  ((first|apply g_ret|apply g_end);case hres => (simp only [smR];simp (disch := first|omega|exact kD rfl|exact kX rfl) only [smY,simprocAttr,bl,u32,u64,i64];exact rfl))
  simp (disch := first|omega|exact kD rfl|exact kX rfl) only [smY,simprocAttr,bl,u32,u64,i64]
 ·have hb : (decide (x < 0) == neg) = false := by simpa using h1
  (repeat (first|apply zO (by decide +kernel)|apply zP (by decide +kernel)|(apply zS;(case h=>constructor<;>decide))|((first|apply l_go rfl|apply c_dec);(case hs=>(simp (disch := first|omega|exact kD rfl|exact kX rfl) only [smY,simprocAttr,bl,u32,u64,i64,hb];exact rfl));first|refine c_bt ?_|refine c_bf ?_|refine zq ?_)))
  refine l_call rfl (by decide) rfl (by simp (disch := first|omega|exact kD rfl|exact kX rfl) only [smY,simprocAttr,bl,u32,u64,i64];exact rfl) (compare_digs (by omega) (by omega)) ?_
  simp only [i64]
  by_cases h2 : n ≤ x.natAbs
  ·obtain ⟨ds,h3,h4,h5,hg⟩ := less_digs h2 hx
   have hc : ¬ cmpN x.natAbs n < 0 := by unfold cmpN;rw [if_neg (by omega)];split <;> simp
   (repeat (first|apply zO (by decide +kernel)|apply zP (by decide +kernel)|(apply zS;(case h=>constructor<;>decide))|((first|apply l_go rfl|apply c_dec|apply zT rfl (by decide) rfl);(case hs=>(simp (disch := first|omega|exact kD rfl|exact kX rfl) only [smY,simprocAttr,bl,u32,u64,i64];exact rfl));first|refine c_bt ?_|refine c_bf ?_|refine zq ?_|(case hg=>assumption))))
   refine l_call rfl (by decide) rfl (by simp (disch := first|omega|exact kD rfl|exact kX rfl) only [smY,simprocAttr,bl,u32,u64,i64];exact rfl) (signed_val (neg := decide (x < 0)) (z := x + y) h3 (by
    rw [h4,← hy]
    cases neg <;> by_cases h : x < 0 <;> simp [h] at h1 ⊢ <;> omega) (by omega)) ?_
   simp only [encI]
   (repeat (first|apply zO (by decide +kernel)|apply zP (by decide +kernel)|(apply zS;(case h=>constructor<;>decide))|((first|apply l_go rfl|apply c_dec);(case hs=>(simp (disch := first|omega|exact kD rfl|exact kX rfl) only [smY,simprocAttr,bl,u32,u64,i64];exact rfl));first|refine c_bt ?_|refine c_bf ?_|refine zq ?_)))
   ((first|apply g_ret|apply g_end);case hres => (simp only [smR];simp (disch := first|omega|exact kD rfl|exact kX rfl) only [smY,simprocAttr,bl,u32,u64,i64];exact rfl))
   simp (disch := first|omega|exact kD rfl|exact kX rfl) only [smY,simprocAttr,bl,u32,u64,i64]
  ·obtain ⟨ds,h3,h4,h5,hg⟩ := less_digs (x := n) (y := x.natAbs) (by omega) hn
   have hc : cmpN x.natAbs n < 0 := by unfold cmpN;rw [if_pos (by omega)];simp
   (repeat (first|apply zO (by decide +kernel)|apply zP (by decide +kernel)|(apply zS;(case h=>constructor<;>decide))|((first|apply l_go rfl|apply c_dec|apply zT rfl (by decide) rfl);(case hs=>(simp (disch := first|omega|exact kD rfl|exact kX rfl) only [smY,simprocAttr,bl,u32,u64,i64];exact rfl));first|refine c_bt ?_|refine c_bf ?_|refine zq ?_|(case hg=>assumption))))
   refine l_call rfl (by decide) rfl (by simp (disch := first|omega|exact kD rfl|exact kX rfl) only [smY,simprocAttr,bl,u32,u64,i64];exact rfl) (signed_val (neg := neg) (z := x + y) h3 (by
    rw [h4,← hy]
    cases neg <;> by_cases h : x < 0 <;> simp [h] at h1 ⊢ <;> omega) (by omega)) ?_
   simp only [encI]
   (repeat (first|apply zO (by decide +kernel)|apply zP (by decide +kernel)|(apply zS;(case h=>constructor<;>decide))|((first|apply l_go rfl|apply c_dec);(case hs=>(simp (disch := first|omega|exact kD rfl|exact kX rfl) only [smY,simprocAttr,bl,u32,u64,i64];exact rfl));first|refine c_bt ?_|refine c_bf ?_|refine zq ?_)))
   ((first|apply g_ret|apply g_end);case hres => (simp only [smR];simp (disch := first|omega|exact kD rfl|exact kX rfl) only [smY,simprocAttr,bl,u32,u64,i64];exact rfl))
   simp (disch := first|omega|exact kD rfl|exact kX rfl) only [smY,simprocAttr,bl,u32,u64,i64]
theorem add_good (x y : Int) (hx : len x ≤ 549755813888) (hy : len y ≤ 549755813888) : PureGood Tryz.prog 139 [encI x,encI y] (encI (x + y)) := by
 have hy' := hy
 unfold len at hy'
 have hi := add_inner x y (decide (y < 0)) y.natAbs (by by_cases h : y < 0 <;> simp [h] <;> omega) hx hy
 simp only [encI,bl] at hi ⊢
 refine good_of_lwp mix Tryz.func139 rfl (by decide) (nt := 12) rfl (rs := [.cell 4 66]) rfl (nle rfl) ?_
 (repeat (first|apply zO (by decide +kernel)|apply zP (by decide +kernel)|(apply zS;(case h=>constructor<;>decide))|((first|apply l_go rfl|apply c_dec);(case hs=>(simp (disch := first|omega|exact kD rfl|exact kX rfl) only [smY,simprocAttr,bl,u32,u64,i64];exact rfl));first|refine c_bt ?_|refine c_bf ?_|refine zq ?_)))
 refine l_call rfl (by decide) rfl (by simp (disch := first|omega|exact kD rfl|exact kX rfl) only [smY,simprocAttr,bl,u32,u64,i64];exact rfl) (trimmed_digs _ (by omega)) ?_
 (repeat (first|apply zO (by decide +kernel)|apply zP (by decide +kernel)|(apply zS;(case h=>constructor<;>decide))|((first|apply l_go rfl|apply c_dec|apply zT rfl (by decide) rfl);(case hs=>(simp (disch := first|omega|exact kD rfl|exact kX rfl) only [smY,simprocAttr,bl,u32,u64,i64];exact rfl));first|refine c_bt ?_|refine c_bf ?_|refine zq ?_|(case hg=>assumption))))
 ((first|apply g_ret|apply g_end);case hres => (simp only [smR];simp (disch := first|omega|exact kD rfl|exact kX rfl) only [smY,simprocAttr,bl,u32,u64,i64];exact rfl))
 simp (disch := first|omega|exact kD rfl|exact kX rfl) only [smY,simprocAttr,bl,u32,u64,i64]
theorem plus_one {x : Nat} (lx : (digs x).length ≤ 549755813888) : ∃ ds,OkD ds ∧ val ds = x + 1 ∧ ds.length ≤ 549755813889 ∧ PureGood Tryz.prog 155 [dg (digs x),.sl 1 [.lit (.int .u32 1)]] (dg ds) := by
 have h1 : digs 1 = [1] := digs_small (by omega) (by omega)
 obtain ⟨ds,a,b,c,h⟩ := plus_digs (x := x) (y := 1) lx (by rw [h1];simp)
 rw [h1] at h
 exact ⟨ds,a,b,c,h⟩
theorem divmod_good (x y : Int) (hy0 : y ≠ 0) (hx : len x ≤ 274877906944) (hy : len y ≤ 274877906944) : PureGood Tryz.prog 159 [encI x,encI y] (.tup [encI (x / y),encI (x % y),i64 0]) := by
 unfold len at hx hy
 have hyn : y.natAbs ≠ 0 := by omega
 have hyl : (digs y.natAbs).length ≠ 0 := fun e => hyn (digs_eq_nil.1 (List.eq_nil_of_length_eq_zero e))
 simp only [encI,bl,i64]
 refine good_of_lwp mix Tryz.func159 rfl (by decide) (nt := 48) rfl (rs := [.cell 4 66,.cell 5 66,.tmp 6]) rfl (nle rfl) ?_
 (repeat (first|apply zO (by decide +kernel)|apply zP (by decide +kernel)|(apply zS;(case h=>constructor<;>decide))|((first|apply l_go rfl|apply c_dec);(case hs=>(simp (disch := first|omega|exact kD rfl|exact kX rfl) only [smY,simprocAttr,bl,u32,u64,i64];exact rfl));first|refine c_bt ?_|refine c_bf ?_|refine zq ?_)))
 refine l_call rfl (by decide) rfl (by simp (disch := first|omega|exact kD rfl|exact kX rfl) only [smY,simprocAttr,bl,u32,u64,i64];exact rfl) (trimmed_digs _ (by omega)) ?_
 (repeat (first|apply zO (by decide +kernel)|apply zP (by decide +kernel)|(apply zS;(case h=>constructor<;>decide))|((first|apply l_go rfl|apply c_dec);(case hs=>(simp (disch := first|omega|exact kD rfl|exact kX rfl) only [smY,simprocAttr,bl,u32,u64,i64];exact rfl));first|refine c_bt ?_|refine c_bf ?_|refine zq ?_)))
 refine l_call rfl (by decide) rfl (by simp (disch := first|omega|exact kD rfl|exact kX rfl) only [smY,simprocAttr,bl,u32,u64,i64];exact rfl) (trimmed_digs _ (by omega)) ?_
 (repeat (first|apply zO (by decide +kernel)|apply zP (by decide +kernel)|(apply zS;(case h=>constructor<;>decide))|((first|apply l_go rfl|apply c_dec);(case hs=>(simp (disch := first|omega|exact kD rfl|exact kX rfl) only [smY,simprocAttr,bl,u32,u64,i64];exact rfl));first|refine c_bt ?_|refine c_bf ?_|refine zq ?_)))
 refine l_call rfl (by decide) rfl (by simp (disch := first|omega|exact kD rfl|exact kX rfl) only [smY,simprocAttr,bl,u32,u64,i64];exact rfl) (divide_good hyn (by omega) (by omega)) ?_
 obtain ⟨en1,en2,en3⟩ := ediv_abs (x := x) hy0
 have hlq : (digs (x.natAbs / y.natAbs)).length ≤ 274877906944 := Nat.le_trans (length_le_of_le (Nat.div_le_self _ _)) hx
 have hlr : (digs (x.natAbs % y.natAbs)).length ≤ 274877906944 := Nat.le_trans (length_le_of_le (Nat.le_of_lt (Nat.mod_lt _ (Nat.pos_of_ne_zero hyn)))) hy
 have hrlt := Nat.mod_lt x.natAbs (Nat.pos_of_ne_zero hyn)
 by_cases h0 : x < 0 ∧ x.natAbs % y.natAbs ≠ 0
 ·obtain ⟨h1,h2⟩ := h0
  obtain ⟨en4,en5⟩ := en3 h1 h2
  have h3 : (digs (x.natAbs % y.natAbs)).length ≠ 0 := fun e => h2 (digs_eq_nil.1 (List.eq_nil_of_length_eq_zero e))
  obtain ⟨ds,p1,p2,p3,p4⟩ := plus_one (x := x.natAbs / y.natAbs) (by omega)
  obtain ⟨es,q1,q2,q3,q4⟩ := less_digs (x := y.natAbs) (y := x.natAbs % y.natAbs) (by omega) (by omega)
  (repeat (first|apply zO (by decide +kernel)|apply zP (by decide +kernel)|(apply zS;(case h=>constructor<;>decide))|((first|apply l_go rfl|apply c_dec|apply zT rfl (by decide) rfl);(case hs=>(simp (disch := first|omega|exact kD rfl|exact kX rfl) only [smY,simprocAttr,bl,u32,u64,i64];exact rfl));first|refine c_bt ?_|refine c_bf ?_|refine zq ?_|(case hg=>assumption))))
  refine l_call rfl (by decide) rfl (by simp (disch := first|omega|exact kD rfl|exact kX rfl) only [smY,simprocAttr,bl,u32,u64,i64];exact rfl) (signed_val (z := x / y) p1 (by rw [en4,p2];by_cases hy : y < 0 <;> simp [h1,hy]) (by omega)) ?_
  simp only [encI]
  (repeat (first|apply zO (by decide +kernel)|apply zP (by decide +kernel)|(apply zS;(case h=>constructor<;>decide))|((first|apply l_go rfl|apply c_dec);(case hs=>(simp (disch := first|omega|exact kD rfl|exact kX rfl) only [smY,simprocAttr,bl,u32,u64,i64];exact rfl));first|refine c_bt ?_|refine c_bf ?_|refine zq ?_)))
  refine l_call rfl (by decide) rfl (by simp (disch := first|omega|exact kD rfl|exact kX rfl) only [smY,simprocAttr,bl,u32,u64,i64];exact rfl) (signed_val (z := x % y) q1 (by rw [en5,q2];simp) (by omega)) ?_
  simp only [encI]
  (repeat (first|apply zO (by decide +kernel)|apply zP (by decide +kernel)|(apply zS;(case h=>constructor<;>decide))|((first|apply l_go rfl|apply c_dec);(case hs=>(simp (disch := first|omega|exact kD rfl|exact kX rfl) only [smY,simprocAttr,bl,u32,u64,i64];exact rfl));first|refine c_bt ?_|refine c_bf ?_|refine zq ?_)))
  ((first|apply g_ret|apply g_end);case hres => (simp only [smR];simp (disch := first|omega|exact kD rfl|exact kX rfl) only [smY,simprocAttr,bl,u32,u64,i64];exact rfl))
  simp (disch := first|omega|exact kD rfl|exact kX rfl) only [smY,simprocAttr,bl,u32,u64,i64]
 ·have h9 : ¬ (x < 0 ∧ ¬ x.natAbs % y.natAbs = 0) := h0
  have hcase : x / y = (if (decide (x < 0) != decide (y < 0)) = true then -((x.natAbs / y.natAbs : Nat) : Int) else ((x.natAbs / y.natAbs : Nat) : Int)) ∧ x % y = ((x.natAbs % y.natAbs : Nat) : Int) := by
   by_cases h1 : x < 0
   ·exact en2 h1 (by omega)
   ·exact en1 (by omega)
  obtain ⟨en4,en5⟩ := hcase
  by_cases h1 : x < 0
  ·have h3 : (digs (x.natAbs % y.natAbs)).length = 0 := by
    have : x.natAbs % y.natAbs = 0 := by omega
    rw [this,digs_zero];rfl
   (repeat (first|apply zO (by decide +kernel)|apply zP (by decide +kernel)|(apply zS;(case h=>constructor<;>decide))|((first|apply l_go rfl|apply c_dec);(case hs=>(simp (disch := first|omega|exact kD rfl|exact kX rfl) only [smY,simprocAttr,bl,u32,u64,i64];exact rfl));first|refine c_bt ?_|refine c_bf ?_|refine zq ?_)))
   refine l_call rfl (by decide) rfl (by simp (disch := first|omega|exact kD rfl|exact kX rfl) only [smY,simprocAttr,bl,u32,u64,i64];exact rfl) (signed_eq (z := x / y) (by rw [en4];by_cases hy : y < 0 <;> simp [h1,hy]) (by omega)) ?_
   simp only [encI]
   (repeat (first|apply zO (by decide +kernel)|apply zP (by decide +kernel)|(apply zS;(case h=>constructor<;>decide))|((first|apply l_go rfl|apply c_dec);(case hs=>(simp (disch := first|omega|exact kD rfl|exact kX rfl) only [smY,simprocAttr,bl,u32,u64,i64];exact rfl));first|refine c_bt ?_|refine c_bf ?_|refine zq ?_)))
   refine l_call rfl (by decide) rfl (by simp (disch := first|omega|exact kD rfl|exact kX rfl) only [smY,simprocAttr,bl,u32,u64,i64];exact rfl) (signed_eq (z := x % y) (by rw [en5];simp) (by omega)) ?_
   simp only [encI]
   (repeat (first|apply zO (by decide +kernel)|apply zP (by decide +kernel)|(apply zS;(case h=>constructor<;>decide))|((first|apply l_go rfl|apply c_dec);(case hs=>(simp (disch := first|omega|exact kD rfl|exact kX rfl) only [smY,simprocAttr,bl,u32,u64,i64];exact rfl));first|refine c_bt ?_|refine c_bf ?_|refine zq ?_)))
   ((first|apply g_ret|apply g_end);case hres => (simp only [smR];simp (disch := first|omega|exact kD rfl|exact kX rfl) only [smY,simprocAttr,bl,u32,u64,i64];exact rfl))
   simp (disch := first|omega|exact kD rfl|exact kX rfl) only [smY,simprocAttr,bl,u32,u64,i64]
  ·skip
   (repeat (first|apply zO (by decide +kernel)|apply zP (by decide +kernel)|(apply zS;(case h=>constructor<;>decide))|((first|apply l_go rfl|apply c_dec);(case hs=>(simp (disch := first|omega|exact kD rfl|exact kX rfl) only [smY,simprocAttr,bl,u32,u64,i64];exact rfl));first|refine c_bt ?_|refine c_bf ?_|refine zq ?_)))
   refine l_call rfl (by decide) rfl (by simp (disch := first|omega|exact kD rfl|exact kX rfl) only [smY,simprocAttr,bl,u32,u64,i64];exact rfl) (signed_eq (z := x / y) (by rw [en4];by_cases hy : y < 0 <;> simp [h1,hy]) (by omega)) ?_
   simp only [encI]
   (repeat (first|apply zO (by decide +kernel)|apply zP (by decide +kernel)|(apply zS;(case h=>constructor<;>decide))|((first|apply l_go rfl|apply c_dec);(case hs=>(simp (disch := first|omega|exact kD rfl|exact kX rfl) only [smY,simprocAttr,bl,u32,u64,i64];exact rfl));first|refine c_bt ?_|refine c_bf ?_|refine zq ?_)))
   refine l_call rfl (by decide) rfl (by simp (disch := first|omega|exact kD rfl|exact kX rfl) only [smY,simprocAttr,bl,u32,u64,i64];exact rfl) (signed_eq (z := x % y) (by rw [en5];simp) (by omega)) ?_
   simp only [encI]
   (repeat (first|apply zO (by decide +kernel)|apply zP (by decide +kernel)|(apply zS;(case h=>constructor<;>decide))|((first|apply l_go rfl|apply c_dec);(case hs=>(simp (disch := first|omega|exact kD rfl|exact kX rfl) only [smY,simprocAttr,bl,u32,u64,i64];exact rfl));first|refine c_bt ?_|refine c_bf ?_|refine zq ?_)))
   ((first|apply g_ret|apply g_end);case hres => (simp only [smR];simp (disch := first|omega|exact kD rfl|exact kX rfl) only [smY,simprocAttr,bl,u32,u64,i64];exact rfl))
   simp (disch := first|omega|exact kD rfl|exact kX rfl) only [smY,simprocAttr,bl,u32,u64,i64]
theorem exact_good (x y : Int) (hy0 : y ≠ 0) (hd : x % y = 0) (hx : len x ≤ 274877906944) (hy : len y ≤ 274877906944) : PureGood Tryz.prog 153 [encI x,encI y] (.tup [encI (x / y),i64 0]) := by
 have hg := divmod_good x y hy0 hx hy
 rw [hd] at hg
 have h0 : (digs 0).length = 0 := by simp [digs_zero]
 simp only [encI,bl,i64,Int.natAbs_zero] at hg ⊢
 refine good_of_lwp mix Tryz.func153 rfl (by decide) (nt := 26) rfl (rs := [.cell 4 66,.tmp 5]) rfl (nle rfl) ?_
 (repeat (first|apply zO (by decide +kernel)|apply zP (by decide +kernel)|(apply zS;(case h=>constructor<;>decide))|((first|apply l_go rfl|apply c_dec|apply zT rfl (by decide) rfl);(case hs=>(simp (disch := first|omega|exact kD rfl|exact kX rfl) only [smY,simprocAttr,bl,u32,u64,i64];exact rfl));first|refine c_bt ?_|refine c_bf ?_|refine zq ?_|(case hg=>assumption))))
 ((first|apply g_ret|apply g_end);case hres => (simp only [smR];simp (disch := first|omega|exact kD rfl|exact kX rfl) only [smY,simprocAttr,bl,u32,u64,i64];exact rfl))
 simp (disch := first|omega|exact kD rfl|exact kX rfl) only [smY,simprocAttr,bl,u32,u64,i64]
theorem clone_digs {x : Nat} (h : (digs x).length ≤ 1099511627776) : PureGood Tryz.prog 99 [dg (digs x)] (dg (digs x)) := clone_good _ h
theorem common_good (x y : Nat) (lx : (digs x).length ≤ 549755813888) (ly : (digs y).length ≤ 549755813888) : PureGood Tryz.prog 158 [dg (digs x),dg (digs y)] (dg (digs (Nat.gcd x y))) := by
 refine good_of_lwp mix Tryz.func158 rfl (by decide) (nt := 42) rfl (rs := [.tmp 4]) rfl (nle rfl) ?_
 (repeat (first|apply zO (by decide +kernel)|apply zP (by decide +kernel)|(apply zS;(case h=>constructor<;>decide))|((first|apply l_go rfl|apply c_dec);(case hs=>(simp (disch := first|omega|exact kD rfl|exact kX rfl) only [smY,simprocAttr,bl,u32,u64,i64];exact rfl));first|refine c_bt ?_|refine c_bf ?_|refine zq ?_)))
 refine w_loop (α := {p : Nat × Nat // Nat.gcd p.1 p.2 = Nat.gcd x y ∧ (digs p.1).length ≤ 549755813888 ∧ (digs p.2).length ≤ 549755813888})
  (fun p => st 42 (lk [(0,dg (digs p.1.1)),(1,dg (digs p.1.2))]) (lkH []) 0) (fun p => p.1.2) ⟨(x,y),rfl,lx,ly⟩ ?_ ?_
 ·(refine Sub.plain ?_;simp only [smF,dg,renL,renLs,simprocAttr,bl,u32,u64,i64])
 ·rintro ⟨⟨a,b⟩,hg,la,lb⟩
  simp only at hg la lb
  simp only [st]
  by_cases hb : b = 0
  ·subst hb
   have h0 : (digs 0).length = 0 := by simp [digs_zero]
   rw [Nat.gcd_zero_right] at hg
   (repeat (first|apply zO (by decide +kernel)|apply zP (by decide +kernel)|(apply zS;(case h=>constructor<;>decide))|((first|apply l_go rfl|apply c_dec);(case hs=>(simp (disch := first|omega|exact kD rfl|exact kX rfl) only [smY,simprocAttr,bl,u32,u64,i64];exact rfl));first|refine c_bt ?_|refine c_bf ?_|refine zq ?_)))
   refine l_call rfl (by decide) rfl (by simp (disch := first|omega|exact kD rfl|exact kX rfl) only [smY,simprocAttr,bl,u32,u64,i64];exact rfl) (clone_digs (by omega)) ?_
   (repeat (first|apply zO (by decide +kernel)|apply zP (by decide +kernel)|(apply zS;(case h=>constructor<;>decide))|((first|apply l_go rfl|apply c_dec);(case hs=>(simp (disch := first|omega|exact kD rfl|exact kX rfl) only [smY,simprocAttr,bl,u32,u64,i64];exact rfl));first|refine c_bt ?_|refine c_bf ?_|refine zq ?_)))
   ((first|apply g_ret|apply g_end);case hres => (simp only [smR];simp (disch := first|omega|exact kD rfl|exact kX rfl) only [smY,simprocAttr,bl,u32,u64,i64];exact rfl))
   simp (disch := first|omega|exact kD rfl|exact kX rfl) only [smY,simprocAttr,bl,u32,u64,i64]
   rw [hg]
  ·have hbl : (digs b).length ≠ 0 := fun e => hb (digs_eq_nil.1 (List.eq_nil_of_length_eq_zero e))
   have hmod := Nat.mod_lt a (Nat.pos_of_ne_zero hb)
   by_cases hs : (digs a).length ≤ 2 ∧ (digs b).length ≤ 2
   ·obtain ⟨ha2,hb2⟩ := hs
    have ba := len_two ha2
    have bb := len_two hb2
    (repeat (first|apply zO (by decide +kernel)|apply zP (by decide +kernel)|(apply zS;(case h=>constructor<;>decide))|((first|apply l_go rfl|apply c_dec);(case hs=>(simp (disch := first|omega|exact kD rfl|exact kX rfl) only [smY,simprocAttr,bl,u32,u64,i64];exact rfl));first|refine c_bt ?_|refine c_bf ?_|refine zq ?_)))
    refine l_call rfl (by decide) rfl (by simp (disch := first|omega|exact kD rfl|exact kX rfl) only [smY,simprocAttr,bl,u32,u64,i64];exact rfl) (word_digs ha2) ?_
    simp only [u64]
    (repeat (first|apply zO (by decide +kernel)|apply zP (by decide +kernel)|(apply zS;(case h=>constructor<;>decide))|((first|apply l_go rfl|apply c_dec);(case hs=>(simp (disch := first|omega|exact kD rfl|exact kX rfl) only [smY,simprocAttr,bl,u32,u64,i64];exact rfl));first|refine c_bt ?_|refine c_bf ?_|refine zq ?_)))
    refine l_call rfl (by decide) rfl (by simp (disch := first|omega|exact kD rfl|exact kX rfl) only [smY,simprocAttr,bl,u32,u64,i64];exact rfl) (word_digs hb2) ?_
    simp only [u64]
    (repeat (first|apply zO (by decide +kernel)|apply zP (by decide +kernel)|(apply zS;(case h=>constructor<;>decide))|((first|apply l_go rfl|apply c_dec);(case hs=>(simp (disch := first|omega|exact kD rfl|exact kX rfl) only [smY,simprocAttr,bl,u32,u64,i64];exact rfl));first|refine c_bt ?_|refine c_bf ?_|refine zq ?_)))
    refine w_loop (α := {p : Nat × Nat // Nat.gcd p.1 p.2 = Nat.gcd x y ∧ p.1 < 18446744073709551616 ∧ p.2 < 18446744073709551616})
     (fun p => st 42 (lk [(5,u64 p.1.1),(6,u64 p.1.2)]) (lkH []) 0) (fun p => p.1.2) ⟨(a,b),hg,ba,bb⟩ ?_ ?_
    ·(refine Sub.plain ?_;simp only [smF,dg,renL,renLs,simprocAttr,bl,u32,u64,i64])
    ·rintro ⟨⟨c,d⟩,hg,lc,ld⟩
     simp only at hg lc ld
     simp only [st]
     by_cases hd : d = 0
     ·subst hd
      rw [Nat.gcd_zero_right] at hg
      (repeat (first|apply zO (by decide +kernel)|apply zP (by decide +kernel)|(apply zS;(case h=>constructor<;>decide))|((first|apply l_go rfl|apply c_dec);(case hs=>(simp (disch := first|omega|exact kD rfl|exact kX rfl) only [smY,simprocAttr,bl,u32,u64,i64];exact rfl));first|refine c_bt ?_|refine c_bf ?_|refine zq ?_)))
      refine l_call rfl (by decide) rfl (by simp (disch := first|omega|exact kD rfl|exact kX rfl) only [smY,simprocAttr,bl,u32,u64,i64];exact rfl) (wide_good c (by omega)) ?_
      (repeat (first|apply zO (by decide +kernel)|apply zP (by decide +kernel)|(apply zS;(case h=>constructor<;>decide))|((first|apply l_go rfl|apply c_dec);(case hs=>(simp (disch := first|omega|exact kD rfl|exact kX rfl) only [smY,simprocAttr,bl,u32,u64,i64];exact rfl));first|refine c_bt ?_|refine c_bf ?_|refine zq ?_)))
      ((first|apply g_ret|apply g_end);case hres => (simp only [smR];simp (disch := first|omega|exact kD rfl|exact kX rfl) only [smY,simprocAttr,bl,u32,u64,i64];exact rfl))
      simp (disch := first|omega|exact kD rfl|exact kX rfl) only [smY,simprocAttr,bl,u32,u64,i64]
      rw [hg]
     ·have hmd := Nat.mod_lt c (Nat.pos_of_ne_zero hd)
      have hnn := Int.natCast_nonneg (c % d)
      (repeat (first|apply zO (by decide +kernel)|apply zP (by decide +kernel)|(apply zS;(case h=>constructor<;>decide))|((first|apply l_go rfl|apply c_dec);(case hs=>(simp (disch := first|omega|exact kD rfl|exact kX rfl) only [smY,simprocAttr,bl,u32,u64,i64];exact rfl));first|refine c_bt ?_|refine c_bf ?_|refine zq ?_)))
      refine ⟨⟨(d,c % d),by simp only;rw [← hg,Nat.gcd_comm,← Nat.gcd_rec,Nat.gcd_comm],ld,by simp only;omega⟩,?_,hmd⟩
      (refine Sub.plain ?_;simp only [smF,dg,renL,renLs,simprocAttr,bl,u32,u64,i64])
   ·have hs' : ¬ ((digs a).length ≤ 2 ∧ (digs b).length ≤ 2) := hs
    by_cases ha2 : (digs a).length ≤ 2
    ·have hb2 : ¬ (digs b).length ≤ 2 := fun h => hs' ⟨ha2,h⟩
     (repeat (first|apply zO (by decide +kernel)|apply zP (by decide +kernel)|(apply zS;(case h=>constructor<;>decide))|((first|apply l_go rfl|apply c_dec);(case hs=>(simp (disch := first|omega|exact kD rfl|exact kX rfl) only [smY,simprocAttr,bl,u32,u64,i64];exact rfl));first|refine c_bt ?_|refine c_bf ?_|refine zq ?_)))
     refine l_call rfl (by decide) rfl (by simp (disch := first|omega|exact kD rfl|exact kX rfl) only [smY,simprocAttr,bl,u32,u64,i64];exact rfl) (divide_good hb la lb) ?_
     (repeat (first|apply zO (by decide +kernel)|apply zP (by decide +kernel)|(apply zS;(case h=>constructor<;>decide))|((first|apply l_go rfl|apply c_dec);(case hs=>(simp (disch := first|omega|exact kD rfl|exact kX rfl) only [smY,simprocAttr,bl,u32,u64,i64];exact rfl));first|refine c_bt ?_|refine c_bf ?_|refine zq ?_)))
     refine ⟨⟨(b,a % b),by simp only;rw [← hg,Nat.gcd_comm,← Nat.gcd_rec,Nat.gcd_comm],lb,by simp only;exact Nat.le_trans (length_le_of_le (Nat.le_of_lt hmod)) lb⟩,?_,hmod⟩
     (refine Sub.plain ?_;simp only [smF,dg,renL,renLs,simprocAttr,bl,u32,u64,i64])
    ·skip
     (repeat (first|apply zO (by decide +kernel)|apply zP (by decide +kernel)|(apply zS;(case h=>constructor<;>decide))|((first|apply l_go rfl|apply c_dec);(case hs=>(simp (disch := first|omega|exact kD rfl|exact kX rfl) only [smY,simprocAttr,bl,u32,u64,i64];exact rfl));first|refine c_bt ?_|refine c_bf ?_|refine zq ?_)))
     refine l_call rfl (by decide) rfl (by simp (disch := first|omega|exact kD rfl|exact kX rfl) only [smY,simprocAttr,bl,u32,u64,i64];exact rfl) (divide_good hb la lb) ?_
     (repeat (first|apply zO (by decide +kernel)|apply zP (by decide +kernel)|(apply zS;(case h=>constructor<;>decide))|((first|apply l_go rfl|apply c_dec);(case hs=>(simp (disch := first|omega|exact kD rfl|exact kX rfl) only [smY,simprocAttr,bl,u32,u64,i64];exact rfl));first|refine c_bt ?_|refine c_bf ?_|refine zq ?_)))
     refine ⟨⟨(b,a % b),by simp only;rw [← hg,Nat.gcd_comm,← Nat.gcd_rec,Nat.gcd_comm],lb,by simp only;exact Nat.le_trans (length_le_of_le (Nat.le_of_lt hmod)) lb⟩,?_,hmod⟩
     (refine Sub.plain ?_;simp only [smF,dg,renL,renLs,simprocAttr,bl,u32,u64,i64])
theorem gcd_good (x y : Int) (hx : len x ≤ 549755813888) (hy : len y ≤ 549755813888) : PureGood Tryz.prog 152 [encI x,encI y] (encI (Int.gcd x y : Nat)) := by
 unfold len at hx hy
 have hl : (digs (Nat.gcd x.natAbs y.natAbs)).length ≤ 1099511627776 := by
  by_cases h : x.natAbs = 0
  ·rw [h,Nat.gcd_zero_left];omega
  ·have := length_le_of_le (Nat.le_of_dvd (Nat.pos_of_ne_zero h) (Nat.gcd_dvd_left x.natAbs y.natAbs))
   omega
 simp only [encI,bl]
 refine good_of_lwp mix Tryz.func152 rfl (by decide) (nt := 13) rfl (rs := [.cell 4 66]) rfl (nle rfl) ?_
 (repeat (first|apply zO (by decide +kernel)|apply zP (by decide +kernel)|(apply zS;(case h=>constructor<;>decide))|((first|apply l_go rfl|apply c_dec);(case hs=>(simp (disch := first|omega|exact kD rfl|exact kX rfl) only [smY,simprocAttr,bl,u32,u64,i64];exact rfl));first|refine c_bt ?_|refine c_bf ?_|refine zq ?_)))
 refine l_call rfl (by decide) rfl (by simp (disch := first|omega|exact kD rfl|exact kX rfl) only [smY,simprocAttr,bl,u32,u64,i64];exact rfl) (trimmed_digs _ (by omega)) ?_
 (repeat (first|apply zO (by decide +kernel)|apply zP (by decide +kernel)|(apply zS;(case h=>constructor<;>decide))|((first|apply l_go rfl|apply c_dec);(case hs=>(simp (disch := first|omega|exact kD rfl|exact kX rfl) only [smY,simprocAttr,bl,u32,u64,i64];exact rfl));first|refine c_bt ?_|refine c_bf ?_|refine zq ?_)))
 refine l_call rfl (by decide) rfl (by simp (disch := first|omega|exact kD rfl|exact kX rfl) only [smY,simprocAttr,bl,u32,u64,i64];exact rfl) (trimmed_digs _ (by omega)) ?_
 (repeat (first|apply zO (by decide +kernel)|apply zP (by decide +kernel)|(apply zS;(case h=>constructor<;>decide))|((first|apply l_go rfl|apply c_dec);(case hs=>(simp (disch := first|omega|exact kD rfl|exact kX rfl) only [smY,simprocAttr,bl,u32,u64,i64];exact rfl));first|refine c_bt ?_|refine c_bf ?_|refine zq ?_)))
 refine l_call rfl (by decide) rfl (by simp (disch := first|omega|exact kD rfl|exact kX rfl) only [smY,simprocAttr,bl,u32,u64,i64];exact rfl) (common_good _ _ (by omega) (by omega)) ?_
 (repeat (first|apply zO (by decide +kernel)|apply zP (by decide +kernel)|(apply zS;(case h=>constructor<;>decide))|((first|apply l_go rfl|apply c_dec);(case hs=>(simp (disch := first|omega|exact kD rfl|exact kX rfl) only [smY,simprocAttr,bl,u32,u64,i64];exact rfl));first|refine c_bt ?_|refine c_bf ?_|refine zq ?_)))
 refine l_call rfl (by decide) rfl (by simp (disch := first|omega|exact kD rfl|exact kX rfl) only [smY,simprocAttr,bl,u32,u64,i64];exact rfl) (signed_eq (neg := false) (z := (Int.gcd x y : Nat)) (by simp [Int.gcd]) hl) ?_
 simp only [encI]
 (repeat (first|apply zO (by decide +kernel)|apply zP (by decide +kernel)|(apply zS;(case h=>constructor<;>decide))|((first|apply l_go rfl|apply c_dec);(case hs=>(simp (disch := first|omega|exact kD rfl|exact kX rfl) only [smY,simprocAttr,bl,u32,u64,i64];exact rfl));first|refine c_bt ?_|refine c_bf ?_|refine zq ?_)))
 ((first|apply g_ret|apply g_end);case hres => (simp only [smR];simp (disch := first|omega|exact kD rfl|exact kX rfl) only [smY,simprocAttr,bl,u32,u64,i64];exact rfl))
 simp (disch := first|omega|exact kD rfl|exact kX rfl) only [smY,simprocAttr,bl,u32,u64,i64]
end Go.Proofs.YtpkjokknpbclhaaGreat