/- Contracts of functions of the program, and what proves them (texts: GB). -/
import Derived.Test.YtlbckpljefadpaaGreatZBB
import Derived.Test.YtlbckpljefadpaaGreatZBC
import Derived.Test.YtlbckpljefadpaaGreatZBD
import Derived.Test.YtlbckpljefadpaaGreatZBE
set_option linter.all false
namespace Go.Proofs.YtlbckpljefadpaaGreat
open Go Go.Lg Go.Num
set_option maxRecDepth 100000
set_option maxHeartbeats 4000000
theorem gb_mem : ∀ n ∈ [1,2,3,4,5,6,7,8,9,10,11,12,13,14,15,16,17,18,19,20,21,22,23,24,25,26,27,28,29,30,31,32,33,34,35,36,37,38,39,40,41,42,43,44,45,46,47,48,49,50,51,52,53,54,55,56,57,58,59,60],(prodN (od n)).all (chkB n) = true := by
 simp only [List.forall_mem_cons]
 exact ⟨gb_1,gb_2,gb_3,gb_4,gb_5,gb_6,gb_7,gb_8,gb_9,gb_10,gb_11,gb_12,gb_13,gb_14,gb_15,gb_16,gb_17,gb_18,gb_19,gb_20,gb_21,gb_22,gb_23,gb_24,gb_25,gb_26,gb_27,gb_28,gb_29,gb_30,gb_31,gb_32,gb_33,gb_34,gb_35,gb_36,gb_37,gb_38,gb_39,gb_40,gb_41,gb_42,gb_43,gb_44,gb_45,gb_46,gb_47,gb_48,gb_49,gb_50,gb_51,gb_52,gb_53,gb_54,gb_55,gb_56,gb_57,gb_58,gb_59,gb_60,by simp⟩
theorem gb_all {n : Nat} (h1 : 1 ≤ n) (h2 : n ≤ 60) {v : List Nat} (hv : v ∈ prodN (od n)) : chkB n v = true := by
 have h := gb_mem n (by
  have : n ∈ List.range' 1 60 := by rw [List.mem_range'_1];omega
  exact this)
 exact List.all_eq_true.1 h v hv
attribute [local irreducible] Go.Lg.lrun Go.Lg.lwp Go.Lg.exThen Go.Lg.exBlk Go.Lg.keep Go.Lg.goodPost ec pt gn od cerr
theorem gauss_err7 {m : Int} {l : List Int} (h1 : PureGood Tryz.prog 13 [.agg [i64 m,.sl l.length (ec l)]] (.tup [i64 0,i64 7])) (h2 : PureGood Tryz.prog 15 [.agg [i64 m,.sl l.length (ec l)]] (.tup [i64 0,i64 7])) : PureGood Tryz.prog 16 [.agg [i64 m,.sl l.length (ec l)]] (.tup [.sl 0 [],i64 0,i64 7]) ∧ PureGood Tryz.prog 17 [.agg [i64 m,.sl l.length (ec l)]] (.tup [.sl 0 [],i64 0,i64 7]) := by
 simp only [i64,bl] at *
 constructor
 ·
  refine good_of_lwp mix Tryz.func16 rfl (by decide) (nt := 51) rfl (rs := [.tmp 2,.tmp 3,.tmp 4]) rfl (nle rfl) ?_
  (repeat (first|apply zO (by decide +kernel)|apply zP (by decide +kernel)|(apply zS;(case h=>constructor<;>decide))|((first|apply l_go rfl|apply c_dec|apply zT rfl (by decide) rfl);(case hs=>(simp (disch := first|omega|exact kD rfl|exact kX rfl) only [smY,simprocAttr,bl,i64,smE];exact rfl));first|refine c_bt ?_|refine c_bf ?_|refine zq ?_|(case hg=>assumption))))
  ((first|apply g_ret|apply g_end);case hres => (simp only [smR];simp (disch := first|omega|exact kD rfl|exact kX rfl) only [smY,simprocAttr,bl,i64,smE];exact rfl))
  simp (disch := first|omega|exact kD rfl|exact kX rfl) only [smY,simprocAttr,bl,i64,smE]
 ·
  refine good_of_lwp mix Tryz.func17 rfl (by decide) (nt := 53) rfl (rs := [.tmp 2,.tmp 3,.tmp 4]) rfl (nle rfl) ?_
  (repeat (first|apply zO (by decide +kernel)|apply zP (by decide +kernel)|(apply zS;(case h=>constructor<;>decide))|((first|apply l_go rfl|apply c_dec|apply zT rfl (by decide) rfl);(case hs=>(simp (disch := first|omega|exact kD rfl|exact kX rfl) only [smY,simprocAttr,bl,i64,smE];exact rfl));first|refine c_bt ?_|refine c_bf ?_|refine zq ?_|(case hg=>assumption))))
  ((first|apply g_ret|apply g_end);case hres => (simp only [smR];simp (disch := first|omega|exact kD rfl|exact kX rfl) only [smY,simprocAttr,bl,i64,smE];exact rfl))
  simp (disch := first|omega|exact kD rfl|exact kX rfl) only [smY,simprocAttr,bl,i64,smE]
theorem lawGauss_of' (hall : ∀ n,∀ v ∈ sml n,chkR 4 n v = true) (m : Int) (l : List Int) (hm : -9223372036854775808 ≤ m ∧ m ≤ 9223372036854775807) : PureGood Tryz.prog 4 [.agg [i64 m,.sl l.length (ec l)]] (.lit (.bool true)) := by
 have ga := awake_good
 have gm := many_good m l
 by_cases h1 : 100 < l.length
 ·rw [dec_t h1] at gm
  simp only [i64,bl] at *
  refine good_of_lwp mix Tryz.func4 rfl (by decide) (nt := 40) rfl (rs := [.tmp 2]) rfl (nle rfl) ?_
  (repeat (first|apply zO (by decide +kernel)|apply zP (by decide +kernel)|(apply zS;(case h=>constructor<;>decide))|((first|apply l_go rfl|apply c_dec|apply zT rfl (by decide) rfl);(case hs=>(simp (disch := first|omega|exact kD rfl|exact kX rfl) only [smY,simprocAttr,bl,i64,smE];exact rfl));first|refine c_bt ?_|refine c_bf ?_|refine zq ?_|(case hg=>assumption))))
  ((first|apply g_ret|apply g_end);case hres => (simp only [smR];simp (disch := first|omega|exact kD rfl|exact kX rfl) only [smY,simprocAttr,bl,i64,smE];exact rfl))
  simp (disch := first|omega|exact kD rfl|exact kX rfl) only [smY,simprocAttr,bl,i64,smE]
 ·rw [dec_f h1] at gm
  have hb : ChB m l := ⟨hm,by omega⟩
  have gc := copy_good m l hb.m1 hb.ln
  have s0 := same0
  by_cases he : cerr m l = 0
  ·obtain ⟨n,rfl,n1,n2,v,hv,rfl⟩ := cerr_ok he
   rcases chkB_ok (gb_all n1 n2 hv) with h | ⟨h2,h3⟩
   ·exact chkR_ok (hall n v h)
   ·obtain ⟨e5,e6⟩ := gauss_err7 h2 h3
    simp only [i64,bl] at *
    refine good_of_lwp mix Tryz.func4 rfl (by decide) (nt := 40) rfl (rs := [.tmp 2]) rfl (nle rfl) ?_
    (repeat (first|apply zO (by decide +kernel)|apply zP (by decide +kernel)|(apply zS;(case h=>constructor<;>decide))|((first|apply l_go rfl|apply c_dec|apply zT rfl (by decide) rfl);(case hs=>(simp (disch := first|omega|exact kD rfl|exact kX rfl) only [smY,simprocAttr,bl,i64,smE];exact rfl));first|refine c_bt ?_|refine c_bf ?_|refine zq ?_|(case hg=>assumption))))
    ((first|apply g_ret|apply g_end);case hres => (simp only [smR];simp (disch := first|omega|exact kD rfl|exact kX rfl) only [smY,simprocAttr,bl,i64,smE];exact rfl))
    simp (disch := first|omega|exact kD rfl|exact kX rfl) only [smY,simprocAttr,bl,i64,smE]
  ·have e5 := gauss_err hb he
   have e6 := rgauss_err hb he
   generalize cerr m l = e at *
   simp only [i64,bl] at *
   refine good_of_lwp mix Tryz.func4 rfl (by decide) (nt := 40) rfl (rs := [.tmp 2]) rfl (nle rfl) ?_
   (repeat (first|apply zO (by decide +kernel)|apply zP (by decide +kernel)|(apply zS;(case h=>constructor<;>decide))|((first|apply l_go rfl|apply c_dec|apply zT rfl (by decide) rfl);(case hs=>(simp (disch := first|omega|exact kD rfl|exact kX rfl) only [smY,simprocAttr,bl,i64,smE];exact rfl));first|refine c_bt ?_|refine c_bf ?_|refine zq ?_|(case hg=>assumption))))
   ((first|apply g_ret|apply g_end);case hres => (simp only [smR];simp (disch := first|omega|exact kD rfl|exact kX rfl) only [smY,simprocAttr,bl,i64,smE];exact rfl))
   simp (disch := first|omega|exact kD rfl|exact kX rfl) only [smY,simprocAttr,bl,i64,smE]
end Go.Proofs.YtlbckpljefadpaaGreat