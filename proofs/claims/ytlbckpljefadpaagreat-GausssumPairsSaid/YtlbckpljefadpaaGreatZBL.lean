/- Contracts of functions of the program, and what proves them (texts: GC). -/
import Derived.Test.YtlbckpljefadpaaGreatZBF
import Derived.Test.YtlbckpljefadpaaGreatZBH
import Derived.Test.YtlbckpljefadpaaGreatZBI
import Derived.Test.YtlbckpljefadpaaGreatZBJ
import Derived.Test.YtlbckpljefadpaaGreatZBK
set_option linter.all false
namespace Go.Proofs.YtlbckpljefadpaaGreat
open Go Go.Lg Go.Num
set_option maxRecDepth 100000
set_option maxHeartbeats 4000000
theorem gc_mem : ∀ n ∈ [1,2,3,4,5,6,7,8,9,10,11,12,13,14,15,16,17,18,19,20,21,22,23,24,25,26,27,28,29,30,31,32,33,34,35,36,37,38,39,40,41,42,43,44,45,46,47,48,49,50,51,52,53,54,55,56,57,58,59,60],(prodN (od n)).all (chkCd n) = true := by
 simp only [List.forall_mem_cons]
 exact ⟨gc_1,gc_2,gc_3,gc_4,gc_5,gc_6,gc_7,gc_8,gc_9,gc_10,gc_11,gc_12,gc_13,gc_14,gc_15,gc_16,gc_17,gc_18,gc_19,gc_20,gc_21,gc_22,gc_23,gc_24,gc_25,gc_26,gc_27,gc_28,gc_29,gc_30,gc_31,gc_32,gc_33,gc_34,gc_35,gc_36,gc_37,gc_38,gc_39,gc_40,gc_41,gc_42,gc_43,gc_44,gc_45,gc_46,gc_47,gc_48,gc_49,gc_50,gc_51,gc_52,gc_53,gc_54,gc_55,gc_56,gc_57,gc_58,gc_59,gc_60,by simp⟩
theorem gc_all {n : Nat} (h1 : 1 ≤ n) (h2 : n ≤ 60) {v : List Nat} (hv : v ∈ prodN (od n)) : chkCd n v = true := by
 have h := gc_mem n (by
  have : n ∈ List.range' 1 60 := by rw [List.mem_range'_1];omega
  exact this)
 exact List.all_eq_true.1 h v hv
attribute [local irreducible] Go.Lg.lrun Go.Lg.lwp Go.Lg.exThen Go.Lg.exBlk Go.Lg.keep Go.Lg.goodPost ec pt gn od cerr
theorem lawNorms_of' (hall : ∀ n,∀ v ∈ sml n,chkU 8 n v = true) (m : Int) (l : List Int) (hm : -9223372036854775808 ≤ m ∧ m ≤ 9223372036854775807) : PureGood Tryz.prog 8 [.agg [i64 m,.sl l.length (ec l)]] (.lit (.bool true)) := by
 have ga := awake_good
 have gm := many_good m l
 by_cases h1 : 100 < l.length
 ·rw [dec_t h1] at gm
  simp only [i64,bl] at *
  refine good_of_lwp mix Tryz.func8 rfl (by decide) (nt := 65) rfl (rs := [.tmp 2]) rfl (nle rfl) ?_
  (repeat (first|apply zO (by decide +kernel)|apply zP (by decide +kernel)|(apply zS;(case h=>constructor<;>decide))|((first|apply l_go rfl|apply c_dec|apply zT rfl (by decide) rfl);(case hs=>(simp (disch := first|omega|exact kD rfl|exact kX rfl) only [smY,simprocAttr,bl,i64,smE];exact rfl));first|refine c_bt ?_|refine c_bf ?_|refine zq ?_|(case hg=>assumption))))
  ((first|apply g_ret|apply g_end);case hres => (simp only [smR];simp (disch := first|omega|exact kD rfl|exact kX rfl) only [smY,simprocAttr,bl,i64,smE];exact rfl))
  simp (disch := first|omega|exact kD rfl|exact kX rfl) only [smY,simprocAttr,bl,i64,smE]
 ·rw [dec_f h1] at gm
  have hb : ChB m l := ⟨hm,by omega⟩
  by_cases he : cerr m l = 0
  ·obtain ⟨n,rfl,n1,n2,v,hv,rfl⟩ := cerr_ok he
   rcases chkB_ok (gb_all n1 n2 hv) with h | ⟨h2,h3⟩
   ·exact chkU_ok (hall n v h)
   ·rcases chkCd_ok (gc_all n1 n2 hv) with h | ⟨c,hc⟩
    ·exact chkU_ok (hall n v h)
    ·obtain ⟨e5,e6⟩ := gauss_err7 h2 h3
     simp only [i64,bl] at *
     refine good_of_lwp mix Tryz.func8 rfl (by decide) (nt := 65) rfl (rs := [.tmp 2]) rfl (nle rfl) ?_
     (repeat (first|apply zO (by decide +kernel)|apply zP (by decide +kernel)|(apply zS;(case h=>constructor<;>decide))|((first|apply l_go rfl|apply c_dec|apply zT rfl (by decide) rfl);(case hs=>(simp (disch := first|omega|exact kD rfl|exact kX rfl) only [smY,simprocAttr,bl,i64,smE];exact rfl));first|refine c_bt ?_|refine c_bf ?_|refine zq ?_|(case hg=>assumption))))
     ((first|apply g_ret|apply g_end);case hres => (simp only [smR];simp (disch := first|omega|exact kD rfl|exact kX rfl) only [smY,simprocAttr,bl,i64,smE];exact rfl))
     simp (disch := first|omega|exact kD rfl|exact kX rfl) only [smY,simprocAttr,bl,i64,smE]
  ·have e5 := gauss_err hb he
   have e6 := cond_err hb he
   generalize cerr m l = e at *
   simp only [i64,bl] at *
   refine good_of_lwp mix Tryz.func8 rfl (by decide) (nt := 65) rfl (rs := [.tmp 2]) rfl (nle rfl) ?_
   (repeat (first|apply zO (by decide +kernel)|apply zP (by decide +kernel)|(apply zS;(case h=>constructor<;>decide))|((first|apply l_go rfl|apply c_dec|apply zT rfl (by decide) rfl);(case hs=>(simp (disch := first|omega|exact kD rfl|exact kX rfl) only [smY,simprocAttr,bl,i64,smE];exact rfl));first|refine c_bt ?_|refine c_bf ?_|refine zq ?_|(case hg=>assumption))))
   ((first|apply g_ret|apply g_end);case hres => (simp only [smR];simp (disch := first|omega|exact kD rfl|exact kX rfl) only [smY,simprocAttr,bl,i64,smE];exact rfl))
   simp (disch := first|omega|exact kD rfl|exact kX rfl) only [smY,simprocAttr,bl,i64,smE]
theorem lawPairs_of' (hall : ∀ n,∀ v ∈ sml n,chkU 7 n v = true) (m : Int) (l : List Int) (hm : -9223372036854775808 ≤ m ∧ m ≤ 9223372036854775807) : PureGood Tryz.prog 7 [.agg [i64 m,.sl l.length (ec l)]] (.lit (.bool true)) := by
 have ga := awake_good
 have gm := many_good m l
 by_cases h1 : 100 < l.length
 ·rw [dec_t h1] at gm
  simp only [i64,bl] at *
  refine good_of_lwp mix Tryz.func7 rfl (by decide) (nt := 97) rfl (rs := [.tmp 2]) rfl (nle rfl) ?_
  (repeat (first|apply zO (by decide +kernel)|apply zP (by decide +kernel)|(apply zS;(case h=>constructor<;>decide))|((first|apply l_go rfl|apply c_dec|apply zT rfl (by decide) rfl);(case hs=>(simp (disch := first|omega|exact kD rfl|exact kX rfl) only [smY,simprocAttr,bl,i64,smE];exact rfl));first|refine c_bt ?_|refine c_bf ?_|refine zq ?_|(case hg=>assumption))))
  ((first|apply g_ret|apply g_end);case hres => (simp only [smR];simp (disch := first|omega|exact kD rfl|exact kX rfl) only [smY,simprocAttr,bl,i64,smE];exact rfl))
  simp (disch := first|omega|exact kD rfl|exact kX rfl) only [smY,simprocAttr,bl,i64,smE]
 ·rw [dec_f h1] at gm
  have hb : ChB m l := ⟨hm,by omega⟩
  by_cases he : cerr m l = 0
  ·obtain ⟨n,rfl,n1,n2,v,hv,rfl⟩ := cerr_ok he
   rcases chkB_ok (gb_all n1 n2 hv) with h | ⟨h2,h3⟩
   ·exact chkU_ok (hall n v h)
   ·rcases chkCd_ok (gc_all n1 n2 hv) with h | ⟨c,hc⟩
    ·exact chkU_ok (hall n v h)
    ·obtain ⟨e5,e6⟩ := gauss_err7 h2 h3
     simp only [i64,bl] at *
     refine good_of_lwp mix Tryz.func7 rfl (by decide) (nt := 97) rfl (rs := [.tmp 2]) rfl (nle rfl) ?_
     (repeat (first|apply zO (by decide +kernel)|apply zP (by decide +kernel)|(apply zS;(case h=>constructor<;>decide))|((first|apply l_go rfl|apply c_dec|apply zT rfl (by decide) rfl);(case hs=>(simp (disch := first|omega|exact kD rfl|exact kX rfl) only [smY,simprocAttr,bl,i64,smE];exact rfl));first|refine c_bt ?_|refine c_bf ?_|refine zq ?_|(case hg=>assumption))))
     ((first|apply g_ret|apply g_end);case hres => (simp only [smR];simp (disch := first|omega|exact kD rfl|exact kX rfl) only [smY,simprocAttr,bl,i64,smE];exact rfl))
     simp (disch := first|omega|exact kD rfl|exact kX rfl) only [smY,simprocAttr,bl,i64,smE]
  ·have e5 := gauss_err hb he
   have e6 := cond_err hb he
   generalize cerr m l = e at *
   simp only [i64,bl] at *
   refine good_of_lwp mix Tryz.func7 rfl (by decide) (nt := 97) rfl (rs := [.tmp 2]) rfl (nle rfl) ?_
   (repeat (first|apply zO (by decide +kernel)|apply zP (by decide +kernel)|(apply zS;(case h=>constructor<;>decide))|((first|apply l_go rfl|apply c_dec|apply zT rfl (by decide) rfl);(case hs=>(simp (disch := first|omega|exact kD rfl|exact kX rfl) only [smY,simprocAttr,bl,i64,smE];exact rfl));first|refine c_bt ?_|refine c_bf ?_|refine zq ?_|(case hg=>assumption))))
   ((first|apply g_ret|apply g_end);case hres => (simp only [smR];simp (disch := first|omega|exact kD rfl|exact kX rfl) only [smY,simprocAttr,bl,i64,smE];exact rfl))
   simp (disch := first|omega|exact kD rfl|exact kX rfl) only [smY,simprocAttr,bl,i64,smE]
end Go.Proofs.YtlbckpljefadpaaGreat