/- Contracts of functions of the program, and what proves them (texts: C1 C2 C3 C4). -/
import Derived.Test.YtlbckpljefadpaaGreatZAI
set_option linter.all false
namespace Go.Proofs.YtlbckpljefadpaaGreat
open Go Go.Lg Go.Num
set_option maxRecDepth 100000
attribute [local irreducible] Go.Lg.lrun Go.Lg.lwp Go.Lg.exThen Go.Lg.exBlk Go.Lg.keep Go.Lg.goodPost
theorem val2 {m : Nat} (h : m < 18446744073709551616) : val [m % 4294967296,m / 4294967296] = m := by
 simp only [val];omega
set_option maxHeartbeats 1000000 in
theorem sameIntD_good (n1 n2 : Bool) {a b : List Nat} (ha : OkD a) (hb : OkD b) (la : a.length ≤ 1099511627776) (lb : b.length ≤ 1099511627776) : PureGood Tryz.prog 72 [.agg [bl n1,dg a],.agg [bl n2,dg b]] (bl (decide (n1 = n2 ∧ a = b))) := by
 unfold bl
 refine good_of_lwp mix Tryz.func72 rfl (by decide) (nt := 38) rfl (rs := [.tmp 4]) rfl (nle rfl) ?_
 by_cases hne : n1 = n2
 case neg =>
  have hneq : (n1 != n2) = true := by simp [hne]
  (repeat (first|apply zO (by decide +kernel)|apply zP (by decide +kernel)|(apply zS;(case h=>constructor<;>decide))|((first|apply l_go rfl|apply c_dec);(case hs=>(simp (disch := first|omega|exact kD rfl|exact kX rfl) only [smY,simprocAttr,bl,u32,u64,i64,hneq];exact rfl));first|refine c_bt ?_|refine c_bf ?_|refine zq ?_)))
  ((first|apply g_ret|apply g_end);case hres => (simp only [smR];simp (disch := first|omega|exact kD rfl|exact kX rfl) only [smY,simprocAttr,bl,u32,u64,i64,hneq];exact rfl))
  simp (disch := first|omega|exact kD rfl|exact kX rfl) only [smY,simprocAttr,bl,u32,u64,i64,hneq]
  all_goals simp [hne]
 subst hne
 by_cases h2 : a.length = b.length
 case neg =>
  have : ¬ (a = b) := fun e => h2 (by rw [e])
  (repeat (first|apply zO (by decide +kernel)|apply zP (by decide +kernel)|(apply zS;(case h=>constructor<;>decide))|((first|apply l_go rfl|apply c_dec);(case hs=>(simp (disch := first|omega|exact kD rfl|exact kX rfl) only [smY,simprocAttr,bl,u32,u64,i64,bne_self_eq_false];exact rfl));first|refine c_bt ?_|refine c_bf ?_|refine zq ?_)))
  ((first|apply g_ret|apply g_end);case hres => (simp only [smR];simp (disch := first|omega|exact kD rfl|exact kX rfl) only [smY,simprocAttr,bl,u32,u64,i64,bne_self_eq_false];exact rfl))
  simp (disch := first|omega|exact kD rfl|exact kX rfl) only [smY,simprocAttr,bl,u32,u64,i64,bne_self_eq_false]
  all_goals simp [this]
 (repeat (first|apply zO (by decide +kernel)|apply zP (by decide +kernel)|(apply zS;(case h=>constructor<;>decide))|((first|apply l_go rfl|apply c_dec);(case hs=>(simp (disch := first|omega|exact kD rfl|exact kX rfl) only [smY,simprocAttr,bl,u32,u64,i64,bne_self_eq_false];exact rfl));first|refine c_bt ?_|refine c_bf ?_|refine zq ?_)))
 refine w_loop (α := {k : Nat // k ≤ a.length ∧ a.take k = b.take k}) (fun k => st 38 (lk [(2,.ptr 0 0),(3,.ptr 1 0),(4,bl false),(5,i64 (k.1 : Int))]) (lkH [(0,⟨80,[bl n1,dg a],false⟩),(1,⟨80,[bl n1,dg b],false⟩)]) 2) (fun k => a.length - k.1) ⟨0,Nat.zero_le _,rfl⟩ ?_ ?_
 ·(refine Sub.heap2 0 1 (by decide) ?_ (by simp only [smF,dg,renL,renLs,simprocAttr,bl,u32,u64,i64,bne_self_eq_false];exact rfl) (by simp only [smF,dg,renL,renLs,simprocAttr,bl,u32,u64,i64,bne_self_eq_false];exact rfl) ?_ ?_ ?_ ?_;all_goals (first | exact dgs_plain _ | with_reducible rfl | (simp only [smF,dg,renL,renLs,simprocAttr,bl,u32,u64,i64,bne_self_eq_false];done) | (simp only [smF,dg,renL,renLs,simprocAttr,bl,u32,u64,i64,bne_self_eq_false]) | skip))
  ·simp [plainC]
  ·simp [plainC]
 ·rintro ⟨k,hk,hd⟩
  simp only [st,bl]
  by_cases hk2 : k < a.length
  ·have hx := ha.getD k
   have hy := hb.getD k
   by_cases he : a.getD k 0 = b.getD k 0
   ·(repeat (first|apply zO (by decide +kernel)|apply zP (by decide +kernel)|(apply zS;(case h=>constructor<;>decide))|((first|apply l_go rfl|apply c_dec);(case hs=>(simp (disch := first|omega|exact kD rfl|exact kX rfl) only [smY,simprocAttr,bl,u32,u64,i64,bne_self_eq_false];exact rfl));first|refine c_bt ?_|refine c_bf ?_|refine zq ?_)))
    refine ⟨⟨k + 1,by omega,?_⟩,?_,by simp only;omega⟩
    ·rw [take_snoc hk2,take_snoc (by omega : k < b.length),he,hd]
    ·(refine Sub.heap2 0 1 (by decide) ?_ (by simp only [smF,dg,renL,renLs,simprocAttr,bl,u32,u64,i64,bne_self_eq_false];exact rfl) (by simp only [smF,dg,renL,renLs,simprocAttr,bl,u32,u64,i64,bne_self_eq_false];exact rfl) ?_ ?_ ?_ ?_;all_goals (first | exact dgs_plain _ | with_reducible rfl | (simp only [smF,dg,renL,renLs,simprocAttr,bl,u32,u64,i64,bne_self_eq_false];done) | (simp only [smF,dg,renL,renLs,simprocAttr,bl,u32,u64,i64,bne_self_eq_false]) | skip))
     ·simp [plainC]
     ·simp [plainC]
   ·have hab : a ≠ b := fun e => he (by rw [e])
    (repeat (first|apply zO (by decide +kernel)|apply zP (by decide +kernel)|(apply zS;(case h=>constructor<;>decide))|((first|apply l_go rfl|apply c_dec);(case hs=>(simp (disch := first|omega|exact kD rfl|exact kX rfl) only [smY,simprocAttr,bl,u32,u64,i64,bne_self_eq_false];exact rfl));first|refine c_bt ?_|refine c_bf ?_|refine zq ?_)))
    ((first|apply g_ret|apply g_end);case hres => (simp only [smR];simp (disch := first|omega|exact kD rfl|exact kX rfl) only [smY,simprocAttr,bl,u32,u64,i64,bne_self_eq_false];exact rfl))
    simp (disch := first|omega|exact kD rfl|exact kX rfl) only [smY,simprocAttr,bl,u32,u64,i64,bne_self_eq_false]
    all_goals simp [hab]
  ·have hab : a = b := by
    rwa [List.take_of_length_le (by omega),List.take_of_length_le (by omega)] at hd
   (repeat (first|apply zO (by decide +kernel)|apply zP (by decide +kernel)|(apply zS;(case h=>constructor<;>decide))|((first|apply l_go rfl|apply c_dec);(case hs=>(simp (disch := first|omega|exact kD rfl|exact kX rfl) only [smY,simprocAttr,bl,u32,u64,i64,bne_self_eq_false];exact rfl));first|refine c_bt ?_|refine c_bf ?_|refine zq ?_)))
   ((first|apply g_ret|apply g_end);case hres => (simp only [smR];simp (disch := first|omega|exact kD rfl|exact kX rfl) only [smY,simprocAttr,bl,u32,u64,i64,bne_self_eq_false];exact rfl))
   simp (disch := first|omega|exact kD rfl|exact kX rfl) only [smY,simprocAttr,bl,u32,u64,i64,bne_self_eq_false]
   all_goals simp [hab]
theorem natAbs_ext {x y : Int} (h1 : decide (x < 0) = decide (y < 0)) (h2 : digs x.natAbs = digs y.natAbs) : x = y := by
 have h3 : x.natAbs = y.natAbs := by rw [← val_digs x.natAbs,← val_digs y.natAbs,h2]
 have h4 : (x < 0) ↔ (y < 0) := decide_eq_decide.1 h1
 omega
theorem encI_ext (x y : Int) : decide (decide (x < 0) = decide (y < 0) ∧ digs x.natAbs = digs y.natAbs) = decide (x = y) := by
 by_cases h : x = y
 ·subst h;simp
 ·rw [decide_eq_false h,decide_eq_false]
  exact fun ⟨h1,h2⟩ => h (natAbs_ext h1 h2)
theorem sameInt_good (x y : Int) (lx : len x ≤ 1099511627776) (ly : len y ≤ 1099511627776) : PureGood Tryz.prog 72 [encI x,encI y] (bl (decide (x = y))) := by
 rw [← encI_ext]
 exact sameIntD_good _ _ (digs_ok _) (digs_ok _) lx ly
end Go.Proofs.YtlbckpljefadpaaGreat
namespace Go.Proofs.YtlbckpljefadpaaGreat
open Go Go.Lg Go.Num
set_option maxRecDepth 100000
attribute [local irreducible] Go.Lg.lrun Go.Lg.lwp Go.Lg.exThen Go.Lg.exBlk Go.Lg.keep Go.Lg.goodPost
end Go.Proofs.YtlbckpljefadpaaGreat
namespace Go.Proofs.YtlbckpljefadpaaGreat
open Go Go.Lg Go.Num
set_option maxRecDepth 100000
attribute [local irreducible] Go.Lg.lrun Go.Lg.lwp Go.Lg.exThen Go.Lg.exBlk Go.Lg.keep Go.Lg.goodPost
end Go.Proofs.YtlbckpljefadpaaGreat
namespace Go.Proofs.YtlbckpljefadpaaGreat
open Go Go.Lg Go.Num
set_option maxRecDepth 100000
attribute [local irreducible] Go.Lg.lrun Go.Lg.lwp Go.Lg.exThen Go.Lg.exBlk Go.Lg.keep Go.Lg.goodPost
end Go.Proofs.YtlbckpljefadpaaGreat