/- Contracts of functions of the program, and what proves them (texts: G7z G8 G9). -/
import Derived.Test.YtlbckpljefadpaaGreatZAX
import Derived.Test.YtlbckpljefadpaaGreatZFinElementsAB
import Derived.Test.YtlbckpljefadpaaGreatZFinElementsAC
import Derived.Test.YtlbckpljefadpaaGreatZFinElementsAD
import Derived.Test.YtlbckpljefadpaaGreatZFinElementsAE
set_option linter.all false
namespace Go.Proofs.YtlbckpljefadpaaGreat
open Go Go.Lg Go.Num
set_option maxRecDepth 100000
theorem ph_mem : ∀ b ∈ [1,17,33,49,65,81,97,113,129,145,161,177,193,209,225,241,257,273,289,305,321,337,353,369,385,401,417,433,449,465,481,497],(List.range 16).all (chkPhs b) = true := by
 simp only [List.forall_mem_cons]
 exact ⟨ph_1,ph_17,ph_33,ph_49,ph_65,ph_81,ph_97,ph_113,ph_129,ph_145,ph_161,ph_177,ph_193,ph_209,ph_225,ph_241,ph_257,ph_273,ph_289,ph_305,ph_321,ph_337,ph_353,ph_369,ph_385,ph_401,ph_417,ph_433,ph_449,ph_465,ph_481,ph_497,by simp⟩
theorem phi_good {n : Nat} (h1 : 1 ≤ n) (h2 : n ≤ 512) : PureGood Tryz.prog 61 [i64 n] (.tup [i64 (phN n n),i64 0]) := by
 have h := ph_mem (1 + (n - 1) / 16 * 16) (by
  have : 1 + (n - 1) / 16 * 16 ∈ (List.range 32).map (fun k => 1 + k * 16) := List.mem_map.2 ⟨(n - 1) / 16,List.mem_range.2 (by omega),rfl⟩
  exact this)
 have h := List.all_eq_true.1 h ((n - 1) % 16) (List.mem_range.2 (by omega))
 have e : Nat.add (1 + (n - 1) / 16 * 16) ((n - 1) % 16) = n := by
  show 1 + (n - 1) / 16 * 16 + (n - 1) % 16 = n
  omega
 unfold chkPhs at h
 rw [e] at h
 unfold chkPh at h
 split at h
 ·rename_i k e h1
  rw [Bool.and_eq_true] at h
  have e1 := Nat.eq_of_beq_eq_true h.1
  have e2 := Nat.eq_of_beq_eq_true h.2
  subst e1
  subst e2
  rw [← phK_eq]
  exact evo_good orcN_ok h1
 ·cases h
end Go.Proofs.YtlbckpljefadpaaGreat
namespace Go.Proofs.YtlbckpljefadpaaGreat
open Go Go.Lg Go.Num
set_option maxRecDepth 100000
set_option maxHeartbeats 4000000
attribute [local irreducible] Go.Lg.lrun Go.Lg.lwp Go.Lg.exThen Go.Lg.exBlk Go.Lg.keep Go.Lg.goodPost ec
theorem large_good {n : Nat} (h1 : 1 ≤ n) (h2 : n ≤ 512) : PureGood Tryz.prog 36 [i64 n] (bl (decide (12 < phN n n))) := by
 have g := phi_good h1 h2
 generalize phN n n = k at *
 by_cases h : 12 < k
 ·rw [dec_t h]
  simp only [i64,bl] at *
  refine good_of_lwp mix Tryz.func36 rfl (by decide) (nt := 12) rfl (rs := [.tmp 2]) rfl (nle rfl) ?_
  (repeat (first|apply zO (by decide +kernel)|apply zP (by decide +kernel)|(apply zS;(case h=>constructor<;>decide))|((first|apply l_go rfl|apply c_dec|apply zT rfl (by decide) rfl);(case hs=>(simp (disch := first|omega|exact kD rfl|exact kX rfl) only [smY,simprocAttr,bl,i64,undefL,undef];exact rfl));first|refine c_bt ?_|refine c_bf ?_|refine zq ?_|(case hg=>assumption))))
  repeat (refine l_cskip rfl (by decide) rfl ?_;(repeat (first|apply zO (by decide +kernel)|apply zP (by decide +kernel)|(apply zS;(case h=>constructor<;>decide))|((first|apply l_go rfl|apply c_dec|apply zT rfl (by decide) rfl);(case hs=>(simp (disch := first|omega|exact kD rfl|exact kX rfl) only [smY,simprocAttr,bl,i64,undefL,undef];exact rfl));first|refine c_bt ?_|refine c_bf ?_|refine zq ?_|(case hg=>assumption)))))
  ((first|apply g_ret|apply g_end);case hres => (simp only [smR];simp (disch := first|omega|exact kD rfl|exact kX rfl) only [smY,simprocAttr,bl,i64,undefL,undef];exact rfl))
  simp (disch := first|omega|exact kD rfl|exact kX rfl) only [smY,simprocAttr,bl,i64,undefL,undef]
 ·rw [dec_f h]
  simp only [i64,bl] at *
  refine good_of_lwp mix Tryz.func36 rfl (by decide) (nt := 12) rfl (rs := [.tmp 2]) rfl (nle rfl) ?_
  (repeat (first|apply zO (by decide +kernel)|apply zP (by decide +kernel)|(apply zS;(case h=>constructor<;>decide))|((first|apply l_go rfl|apply c_dec|apply zT rfl (by decide) rfl);(case hs=>(simp (disch := first|omega|exact kD rfl|exact kX rfl) only [smY,simprocAttr,bl,i64,undefL,undef];exact rfl));first|refine c_bt ?_|refine c_bf ?_|refine zq ?_|(case hg=>assumption))))
  repeat (refine l_cskip rfl (by decide) rfl ?_;(repeat (first|apply zO (by decide +kernel)|apply zP (by decide +kernel)|(apply zS;(case h=>constructor<;>decide))|((first|apply l_go rfl|apply c_dec|apply zT rfl (by decide) rfl);(case hs=>(simp (disch := first|omega|exact kD rfl|exact kX rfl) only [smY,simprocAttr,bl,i64,undefL,undef];exact rfl));first|refine c_bt ?_|refine c_bf ?_|refine zq ?_|(case hg=>assumption)))))
  ((first|apply g_ret|apply g_end);case hres => (simp only [smR];simp (disch := first|omega|exact kD rfl|exact kX rfl) only [smY,simprocAttr,bl,i64,undefL,undef];exact rfl))
  simp (disch := first|omega|exact kD rfl|exact kX rfl) only [smY,simprocAttr,bl,i64,undefL,undef]
def fmd (z : Bool) (num den : Int) : Prop := if z = true then num = 0 ∧ den = 0 else 0 ≤ num ∧ num < den ∧ Int.gcd num den = 1
instance (z : Bool) (num den : Int) : Decidable (fmd z num den) := by unfold fmd;infer_instance
theorem formed_good (z : Bool) (num den : Int) (hn : -9223372036854775808 ≤ num ∧ num ≤ 9223372036854775807) (hd : -9223372036854775808 ≤ den ∧ den ≤ 9223372036854775807) : PureGood Tryz.prog 48 [.agg [bl z,i64 num,i64 den]] (bl (decide (fmd z num den))) := by
 cases z with
 | true =>
   by_cases h1 : num = 0
   · by_cases h2 : den = 0
     · rw [dec_t (by unfold fmd;rw [if_pos rfl];exact ⟨h1,h2⟩)]
       simp only [i64,bl] at *
       refine good_of_lwp mix Tryz.func48 rfl (by decide) (nt := 31) rfl (rs := [.tmp 2]) rfl (nle rfl) ?_
       (repeat (first|apply zO (by decide +kernel)|apply zP (by decide +kernel)|(apply zS;(case h=>constructor<;>decide))|((first|apply l_go rfl|apply c_dec|apply zT rfl (by decide) rfl);(case hs=>(simp (disch := first|omega|exact kD rfl|exact kX rfl) only [smY,simprocAttr,bl,i64,undefL,undef];exact rfl));first|refine c_bt ?_|refine c_bf ?_|refine zq ?_|(case hg=>assumption))))
       repeat (refine l_cskip rfl (by decide) rfl ?_;(repeat (first|apply zO (by decide +kernel)|apply zP (by decide +kernel)|(apply zS;(case h=>constructor<;>decide))|((first|apply l_go rfl|apply c_dec|apply zT rfl (by decide) rfl);(case hs=>(simp (disch := first|omega|exact kD rfl|exact kX rfl) only [smY,simprocAttr,bl,i64,undefL,undef];exact rfl));first|refine c_bt ?_|refine c_bf ?_|refine zq ?_|(case hg=>assumption)))))
       ((first|apply g_ret|apply g_end);case hres => (simp only [smR];simp (disch := first|omega|exact kD rfl|exact kX rfl) only [smY,simprocAttr,bl,i64,undefL,undef];exact rfl))
       simp (disch := first|omega|exact kD rfl|exact kX rfl) only [smY,simprocAttr,bl,i64,undefL,undef]
     · rw [dec_f (by unfold fmd;rw [if_pos rfl];exact fun e => h2 e.2)]
       simp only [i64,bl] at *
       refine good_of_lwp mix Tryz.func48 rfl (by decide) (nt := 31) rfl (rs := [.tmp 2]) rfl (nle rfl) ?_
       (repeat (first|apply zO (by decide +kernel)|apply zP (by decide +kernel)|(apply zS;(case h=>constructor<;>decide))|((first|apply l_go rfl|apply c_dec|apply zT rfl (by decide) rfl);(case hs=>(simp (disch := first|omega|exact kD rfl|exact kX rfl) only [smY,simprocAttr,bl,i64,undefL,undef];exact rfl));first|refine c_bt ?_|refine c_bf ?_|refine zq ?_|(case hg=>assumption))))
       repeat (refine l_cskip rfl (by decide) rfl ?_;(repeat (first|apply zO (by decide +kernel)|apply zP (by decide +kernel)|(apply zS;(case h=>constructor<;>decide))|((first|apply l_go rfl|apply c_dec|apply zT rfl (by decide) rfl);(case hs=>(simp (disch := first|omega|exact kD rfl|exact kX rfl) only [smY,simprocAttr,bl,i64,undefL,undef];exact rfl));first|refine c_bt ?_|refine c_bf ?_|refine zq ?_|(case hg=>assumption)))))
       ((first|apply g_ret|apply g_end);case hres => (simp only [smR];simp (disch := first|omega|exact kD rfl|exact kX rfl) only [smY,simprocAttr,bl,i64,undefL,undef];exact rfl))
       simp (disch := first|omega|exact kD rfl|exact kX rfl) only [smY,simprocAttr,bl,i64,undefL,undef]
   · rw [dec_f (by unfold fmd;rw [if_pos rfl];exact fun e => h1 e.1)]
     simp only [i64,bl] at *
     refine good_of_lwp mix Tryz.func48 rfl (by decide) (nt := 31) rfl (rs := [.tmp 2]) rfl (nle rfl) ?_
     (repeat (first|apply zO (by decide +kernel)|apply zP (by decide +kernel)|(apply zS;(case h=>constructor<;>decide))|((first|apply l_go rfl|apply c_dec|apply zT rfl (by decide) rfl);(case hs=>(simp (disch := first|omega|exact kD rfl|exact kX rfl) only [smY,simprocAttr,bl,i64,undefL,undef];exact rfl));first|refine c_bt ?_|refine c_bf ?_|refine zq ?_|(case hg=>assumption))))
     repeat (refine l_cskip rfl (by decide) rfl ?_;(repeat (first|apply zO (by decide +kernel)|apply zP (by decide +kernel)|(apply zS;(case h=>constructor<;>decide))|((first|apply l_go rfl|apply c_dec|apply zT rfl (by decide) rfl);(case hs=>(simp (disch := first|omega|exact kD rfl|exact kX rfl) only [smY,simprocAttr,bl,i64,undefL,undef];exact rfl));first|refine c_bt ?_|refine c_bf ?_|refine zq ?_|(case hg=>assumption)))))
     ((first|apply g_ret|apply g_end);case hres => (simp only [smR];simp (disch := first|omega|exact kD rfl|exact kX rfl) only [smY,simprocAttr,bl,i64,undefL,undef];exact rfl))
     simp (disch := first|omega|exact kD rfl|exact kX rfl) only [smY,simprocAttr,bl,i64,undefL,undef]
 | false =>
   by_cases h1 : 0 ≤ num
   · by_cases h2 : num < den
     · have gg := gcdI_good num den (by omega) (by omega)
       by_cases h3 : Int.gcd num den = 1
       · rw [dec_t (by unfold fmd;rw [if_neg (by simp)];exact ⟨h1,h2,h3⟩)]
         rw [h3] at gg
         simp only [i64,bl] at *
         refine good_of_lwp mix Tryz.func48 rfl (by decide) (nt := 31) rfl (rs := [.tmp 2]) rfl (nle rfl) ?_
         (repeat (first|apply zO (by decide +kernel)|apply zP (by decide +kernel)|(apply zS;(case h=>constructor<;>decide))|((first|apply l_go rfl|apply c_dec|apply zT rfl (by decide) rfl);(case hs=>(simp (disch := first|omega|exact kD rfl|exact kX rfl) only [smY,simprocAttr,bl,i64,undefL,undef];exact rfl));first|refine c_bt ?_|refine c_bf ?_|refine zq ?_|(case hg=>assumption))))
         repeat (refine l_cskip rfl (by decide) rfl ?_;(repeat (first|apply zO (by decide +kernel)|apply zP (by decide +kernel)|(apply zS;(case h=>constructor<;>decide))|((first|apply l_go rfl|apply c_dec|apply zT rfl (by decide) rfl);(case hs=>(simp (disch := first|omega|exact kD rfl|exact kX rfl) only [smY,simprocAttr,bl,i64,undefL,undef];exact rfl));first|refine c_bt ?_|refine c_bf ?_|refine zq ?_|(case hg=>assumption)))))
         ((first|apply g_ret|apply g_end);case hres => (simp only [smR];simp (disch := first|omega|exact kD rfl|exact kX rfl) only [smY,simprocAttr,bl,i64,undefL,undef];exact rfl))
         simp (disch := first|omega|exact kD rfl|exact kX rfl) only [smY,simprocAttr,bl,i64,undefL,undef]
       · rw [dec_f (by unfold fmd;rw [if_neg (by simp)];exact fun e => h3 e.2.2)]
         have h3' : ¬ ((Int.gcd num den : Nat) : Int) = 1 := by omega
         generalize Int.gcd num den = g at *
         simp only [i64,bl] at *
         refine good_of_lwp mix Tryz.func48 rfl (by decide) (nt := 31) rfl (rs := [.tmp 2]) rfl (nle rfl) ?_
         (repeat (first|apply zO (by decide +kernel)|apply zP (by decide +kernel)|(apply zS;(case h=>constructor<;>decide))|((first|apply l_go rfl|apply c_dec|apply zT rfl (by decide) rfl);(case hs=>(simp (disch := first|omega|exact kD rfl|exact kX rfl) only [smY,simprocAttr,bl,i64,undefL,undef];exact rfl));first|refine c_bt ?_|refine c_bf ?_|refine zq ?_|(case hg=>assumption))))
         repeat (refine l_cskip rfl (by decide) rfl ?_;(repeat (first|apply zO (by decide +kernel)|apply zP (by decide +kernel)|(apply zS;(case h=>constructor<;>decide))|((first|apply l_go rfl|apply c_dec|apply zT rfl (by decide) rfl);(case hs=>(simp (disch := first|omega|exact kD rfl|exact kX rfl) only [smY,simprocAttr,bl,i64,undefL,undef];exact rfl));first|refine c_bt ?_|refine c_bf ?_|refine zq ?_|(case hg=>assumption)))))
         ((first|apply g_ret|apply g_end);case hres => (simp only [smR];simp (disch := first|omega|exact kD rfl|exact kX rfl) only [smY,simprocAttr,bl,i64,undefL,undef];exact rfl))
         simp (disch := first|omega|exact kD rfl|exact kX rfl) only [smY,simprocAttr,bl,i64,undefL,undef]
     · rw [dec_f (by unfold fmd;rw [if_neg (by simp)];exact fun e => h2 e.2.1)]
       simp only [i64,bl] at *
       refine good_of_lwp mix Tryz.func48 rfl (by decide) (nt := 31) rfl (rs := [.tmp 2]) rfl (nle rfl) ?_
       (repeat (first|apply zO (by decide +kernel)|apply zP (by decide +kernel)|(apply zS;(case h=>constructor<;>decide))|((first|apply l_go rfl|apply c_dec|apply zT rfl (by decide) rfl);(case hs=>(simp (disch := first|omega|exact kD rfl|exact kX rfl) only [smY,simprocAttr,bl,i64,undefL,undef];exact rfl));first|refine c_bt ?_|refine c_bf ?_|refine zq ?_|(case hg=>assumption))))
       repeat (refine l_cskip rfl (by decide) rfl ?_;(repeat (first|apply zO (by decide +kernel)|apply zP (by decide +kernel)|(apply zS;(case h=>constructor<;>decide))|((first|apply l_go rfl|apply c_dec|apply zT rfl (by decide) rfl);(case hs=>(simp (disch := first|omega|exact kD rfl|exact kX rfl) only [smY,simprocAttr,bl,i64,undefL,undef];exact rfl));first|refine c_bt ?_|refine c_bf ?_|refine zq ?_|(case hg=>assumption)))))
       ((first|apply g_ret|apply g_end);case hres => (simp only [smR];simp (disch := first|omega|exact kD rfl|exact kX rfl) only [smY,simprocAttr,bl,i64,undefL,undef];exact rfl))
       simp (disch := first|omega|exact kD rfl|exact kX rfl) only [smY,simprocAttr,bl,i64,undefL,undef]
   · rw [dec_f (by unfold fmd;rw [if_neg (by simp)];exact fun e => h1 e.1)]
     simp only [i64,bl] at *
     refine good_of_lwp mix Tryz.func48 rfl (by decide) (nt := 31) rfl (rs := [.tmp 2]) rfl (nle rfl) ?_
     (repeat (first|apply zO (by decide +kernel)|apply zP (by decide +kernel)|(apply zS;(case h=>constructor<;>decide))|((first|apply l_go rfl|apply c_dec|apply zT rfl (by decide) rfl);(case hs=>(simp (disch := first|omega|exact kD rfl|exact kX rfl) only [smY,simprocAttr,bl,i64,undefL,undef];exact rfl));first|refine c_bt ?_|refine c_bf ?_|refine zq ?_|(case hg=>assumption))))
     repeat (refine l_cskip rfl (by decide) rfl ?_;(repeat (first|apply zO (by decide +kernel)|apply zP (by decide +kernel)|(apply zS;(case h=>constructor<;>decide))|((first|apply l_go rfl|apply c_dec|apply zT rfl (by decide) rfl);(case hs=>(simp (disch := first|omega|exact kD rfl|exact kX rfl) only [smY,simprocAttr,bl,i64,undefL,undef];exact rfl));first|refine c_bt ?_|refine c_bf ?_|refine zq ?_|(case hg=>assumption)))))
     ((first|apply g_ret|apply g_end);case hres => (simp only [smR];simp (disch := first|omega|exact kD rfl|exact kX rfl) only [smY,simprocAttr,bl,i64,undefL,undef];exact rfl))
     simp (disch := first|omega|exact kD rfl|exact kX rfl) only [smY,simprocAttr,bl,i64,undefL,undef]
def bothE (n : Int) (z : Bool) (num den e : Int) : Prop := PureGood Tryz.prog 21 [i64 n,.agg [bl z,i64 num,i64 den]] (.tup [.sl 0 [],i64 e]) ∧ PureGood Tryz.prog 22 [i64 n,.agg [bl z,i64 num,i64 den]] (.tup [.sl 0 [],i64 e])
theorem elem_e2 {n num den : Int} {z : Bool} (h : n < 1 ∨ 512 < n) : bothE n z num den 2 := by
 by_cases h1 : n < 1
 ·
  unfold bothE
  simp only [i64,bl] at *
  constructor
  ·
   refine good_of_lwp mix Tryz.func21 rfl (by decide) (nt := 36) rfl (rs := [.tmp 4,.tmp 5]) rfl (nle rfl) ?_
   (repeat (first|apply zO (by decide +kernel)|apply zP (by decide +kernel)|(apply zS;(case h=>constructor<;>decide))|((first|apply l_go rfl|apply c_dec|apply zT rfl (by decide) rfl);(case hs=>(simp (disch := first|omega|exact kD rfl|exact kX rfl) only [smY,simprocAttr,bl,i64,undefL,undef];exact rfl));first|refine c_bt ?_|refine c_bf ?_|refine zq ?_|(case hg=>assumption))))
   repeat (refine l_cskip rfl (by decide) rfl ?_;(repeat (first|apply zO (by decide +kernel)|apply zP (by decide +kernel)|(apply zS;(case h=>constructor<;>decide))|((first|apply l_go rfl|apply c_dec|apply zT rfl (by decide) rfl);(case hs=>(simp (disch := first|omega|exact kD rfl|exact kX rfl) only [smY,simprocAttr,bl,i64,undefL,undef];exact rfl));first|refine c_bt ?_|refine c_bf ?_|refine zq ?_|(case hg=>assumption)))))
   ((first|apply g_ret|apply g_end);case hres => (simp only [smR];simp (disch := first|omega|exact kD rfl|exact kX rfl) only [smY,simprocAttr,bl,i64,undefL,undef];exact rfl))
   simp (disch := first|omega|exact kD rfl|exact kX rfl) only [smY,simprocAttr,bl,i64,undefL,undef]
  ·
   refine good_of_lwp mix Tryz.func22 rfl (by decide) (nt := 77) rfl (rs := [.tmp 4,.tmp 5]) rfl (nle rfl) ?_
   (repeat (first|apply zO (by decide +kernel)|apply zP (by decide +kernel)|(apply zS;(case h=>constructor<;>decide))|((first|apply l_go rfl|apply c_dec|apply zT rfl (by decide) rfl);(case hs=>(simp (disch := first|omega|exact kD rfl|exact kX rfl) only [smY,simprocAttr,bl,i64,undefL,undef];exact rfl));first|refine c_bt ?_|refine c_bf ?_|refine zq ?_|(case hg=>assumption))))
   repeat (refine l_cskip rfl (by decide) rfl ?_;(repeat (first|apply zO (by decide +kernel)|apply zP (by decide +kernel)|(apply zS;(case h=>constructor<;>decide))|((first|apply l_go rfl|apply c_dec|apply zT rfl (by decide) rfl);(case hs=>(simp (disch := first|omega|exact kD rfl|exact kX rfl) only [smY,simprocAttr,bl,i64,undefL,undef];exact rfl));first|refine c_bt ?_|refine c_bf ?_|refine zq ?_|(case hg=>assumption)))))
   ((first|apply g_ret|apply g_end);case hres => (simp only [smR];simp (disch := first|omega|exact kD rfl|exact kX rfl) only [smY,simprocAttr,bl,i64,undefL,undef];exact rfl))
   simp (disch := first|omega|exact kD rfl|exact kX rfl) only [smY,simprocAttr,bl,i64,undefL,undef]
 ·have h2 : 512 < n := by omega
  unfold bothE
  simp only [i64,bl] at *
  constructor
  ·
   refine good_of_lwp mix Tryz.func21 rfl (by decide) (nt := 36) rfl (rs := [.tmp 4,.tmp 5]) rfl (nle rfl) ?_
   (repeat (first|apply zO (by decide +kernel)|apply zP (by decide +kernel)|(apply zS;(case h=>constructor<;>decide))|((first|apply l_go rfl|apply c_dec|apply zT rfl (by decide) rfl);(case hs=>(simp (disch := first|omega|exact kD rfl|exact kX rfl) only [smY,simprocAttr,bl,i64,undefL,undef];exact rfl));first|refine c_bt ?_|refine c_bf ?_|refine zq ?_|(case hg=>assumption))))
   repeat (refine l_cskip rfl (by decide) rfl ?_;(repeat (first|apply zO (by decide +kernel)|apply zP (by decide +kernel)|(apply zS;(case h=>constructor<;>decide))|((first|apply l_go rfl|apply c_dec|apply zT rfl (by decide) rfl);(case hs=>(simp (disch := first|omega|exact kD rfl|exact kX rfl) only [smY,simprocAttr,bl,i64,undefL,undef];exact rfl));first|refine c_bt ?_|refine c_bf ?_|refine zq ?_|(case hg=>assumption)))))
   ((first|apply g_ret|apply g_end);case hres => (simp only [smR];simp (disch := first|omega|exact kD rfl|exact kX rfl) only [smY,simprocAttr,bl,i64,undefL,undef];exact rfl))
   simp (disch := first|omega|exact kD rfl|exact kX rfl) only [smY,simprocAttr,bl,i64,undefL,undef]
  ·
   refine good_of_lwp mix Tryz.func22 rfl (by decide) (nt := 77) rfl (rs := [.tmp 4,.tmp 5]) rfl (nle rfl) ?_
   (repeat (first|apply zO (by decide +kernel)|apply zP (by decide +kernel)|(apply zS;(case h=>constructor<;>decide))|((first|apply l_go rfl|apply c_dec|apply zT rfl (by decide) rfl);(case hs=>(simp (disch := first|omega|exact kD rfl|exact kX rfl) only [smY,simprocAttr,bl,i64,undefL,undef];exact rfl));first|refine c_bt ?_|refine c_bf ?_|refine zq ?_|(case hg=>assumption))))
   repeat (refine l_cskip rfl (by decide) rfl ?_;(repeat (first|apply zO (by decide +kernel)|apply zP (by decide +kernel)|(apply zS;(case h=>constructor<;>decide))|((first|apply l_go rfl|apply c_dec|apply zT rfl (by decide) rfl);(case hs=>(simp (disch := first|omega|exact kD rfl|exact kX rfl) only [smY,simprocAttr,bl,i64,undefL,undef];exact rfl));first|refine c_bt ?_|refine c_bf ?_|refine zq ?_|(case hg=>assumption)))))
   ((first|apply g_ret|apply g_end);case hres => (simp only [smR];simp (disch := first|omega|exact kD rfl|exact kX rfl) only [smY,simprocAttr,bl,i64,undefL,undef];exact rfl))
   simp (disch := first|omega|exact kD rfl|exact kX rfl) only [smY,simprocAttr,bl,i64,undefL,undef]
theorem elem_e7 {n : Nat} {num den : Int} {z : Bool} (h1 : 1 ≤ n) (h2 : n ≤ 512) (h : 12 < phN n n) : bothE n z num den 7 := by
 have g1 := large_good h1 h2
 have g2 := phi28_good n (by omega)
 rw [dec_t h] at g1
 generalize phN n n = k at *
 unfold bothE
 simp only [i64,bl] at *
 constructor
 ·
  refine good_of_lwp mix Tryz.func21 rfl (by decide) (nt := 36) rfl (rs := [.tmp 4,.tmp 5]) rfl (nle rfl) ?_
  (repeat (first|apply zO (by decide +kernel)|apply zP (by decide +kernel)|(apply zS;(case h=>constructor<;>decide))|((first|apply l_go rfl|apply c_dec|apply zT rfl (by decide) rfl);(case hs=>(simp (disch := first|omega|exact kD rfl|exact kX rfl) only [smY,simprocAttr,bl,i64,undefL,undef];exact rfl));first|refine c_bt ?_|refine c_bf ?_|refine zq ?_|(case hg=>assumption))))
  repeat (refine l_cskip rfl (by decide) rfl ?_;(repeat (first|apply zO (by decide +kernel)|apply zP (by decide +kernel)|(apply zS;(case h=>constructor<;>decide))|((first|apply l_go rfl|apply c_dec|apply zT rfl (by decide) rfl);(case hs=>(simp (disch := first|omega|exact kD rfl|exact kX rfl) only [smY,simprocAttr,bl,i64,undefL,undef];exact rfl));first|refine c_bt ?_|refine c_bf ?_|refine zq ?_|(case hg=>assumption)))))
  ((first|apply g_ret|apply g_end);case hres => (simp only [smR];simp (disch := first|omega|exact kD rfl|exact kX rfl) only [smY,simprocAttr,bl,i64,undefL,undef];exact rfl))
  simp (disch := first|omega|exact kD rfl|exact kX rfl) only [smY,simprocAttr,bl,i64,undefL,undef]
 ·
  refine good_of_lwp mix Tryz.func22 rfl (by decide) (nt := 77) rfl (rs := [.tmp 4,.tmp 5]) rfl (nle rfl) ?_
  (repeat (first|apply zO (by decide +kernel)|apply zP (by decide +kernel)|(apply zS;(case h=>constructor<;>decide))|((first|apply l_go rfl|apply c_dec|apply zT rfl (by decide) rfl);(case hs=>(simp (disch := first|omega|exact kD rfl|exact kX rfl) only [smY,simprocAttr,bl,i64,undefL,undef];exact rfl));first|refine c_bt ?_|refine c_bf ?_|refine zq ?_|(case hg=>assumption))))
  repeat (refine l_cskip rfl (by decide) rfl ?_;(repeat (first|apply zO (by decide +kernel)|apply zP (by decide +kernel)|(apply zS;(case h=>constructor<;>decide))|((first|apply l_go rfl|apply c_dec|apply zT rfl (by decide) rfl);(case hs=>(simp (disch := first|omega|exact kD rfl|exact kX rfl) only [smY,simprocAttr,bl,i64,undefL,undef];exact rfl));first|refine c_bt ?_|refine c_bf ?_|refine zq ?_|(case hg=>assumption)))))
  ((first|apply g_ret|apply g_end);case hres => (simp only [smR];simp (disch := first|omega|exact kD rfl|exact kX rfl) only [smY,simprocAttr,bl,i64,undefL,undef];exact rfl))
  simp (disch := first|omega|exact kD rfl|exact kX rfl) only [smY,simprocAttr,bl,i64,undefL,undef]
theorem elem_e3 {n : Nat} {num den : Int} {z : Bool} (h1 : 1 ≤ n) (h2 : n ≤ 512) (h : phN n n ≤ 12) (hn : -9223372036854775808 ≤ num ∧ num ≤ 9223372036854775807) (hd : -9223372036854775808 ≤ den ∧ den ≤ 9223372036854775807) (hf : ¬ fmd z num den) : bothE n z num den 3 := by
 have g1 := large_good h1 h2
 have g2 := phi28_good n (by omega)
 rw [dec_f (show ¬ 12 < phN n n by omega)] at g1
 have g3 := formed_good z num den hn hd
 rw [dec_f hf] at g3
 generalize phN n n = k at *
 unfold fmd at hf
 cases z with
 | true =>
   rw [if_pos rfl] at hf
   by_cases c1 : num = 0
   · have c2 : ¬ den = 0 := fun e => hf ⟨c1,e⟩
     unfold bothE
     simp only [i64,bl] at *
     constructor
     ·
       refine good_of_lwp mix Tryz.func21 rfl (by decide) (nt := 36) rfl (rs := [.tmp 4,.tmp 5]) rfl (nle rfl) ?_
       (repeat (first|apply zO (by decide +kernel)|apply zP (by decide +kernel)|(apply zS;(case h=>constructor<;>decide))|((first|apply l_go rfl|apply c_dec|apply zT rfl (by decide) rfl);(case hs=>(simp (disch := first|omega|exact kD rfl|exact kX rfl) only [smY,simprocAttr,bl,i64,undefL,undef];exact rfl));first|refine c_bt ?_|refine c_bf ?_|refine zq ?_|(case hg=>assumption))))
       repeat (refine l_cskip rfl (by decide) rfl ?_;(repeat (first|apply zO (by decide +kernel)|apply zP (by decide +kernel)|(apply zS;(case h=>constructor<;>decide))|((first|apply l_go rfl|apply c_dec|apply zT rfl (by decide) rfl);(case hs=>(simp (disch := first|omega|exact kD rfl|exact kX rfl) only [smY,simprocAttr,bl,i64,undefL,undef];exact rfl));first|refine c_bt ?_|refine c_bf ?_|refine zq ?_|(case hg=>assumption)))))
       ((first|apply g_ret|apply g_end);case hres => (simp only [smR];simp (disch := first|omega|exact kD rfl|exact kX rfl) only [smY,simprocAttr,bl,i64,undefL,undef];exact rfl))
       simp (disch := first|omega|exact kD rfl|exact kX rfl) only [smY,simprocAttr,bl,i64,undefL,undef]
     ·
       refine good_of_lwp mix Tryz.func22 rfl (by decide) (nt := 77) rfl (rs := [.tmp 4,.tmp 5]) rfl (nle rfl) ?_
       (repeat (first|apply zO (by decide +kernel)|apply zP (by decide +kernel)|(apply zS;(case h=>constructor<;>decide))|((first|apply l_go rfl|apply c_dec|apply zT rfl (by decide) rfl);(case hs=>(simp (disch := first|omega|exact kD rfl|exact kX rfl) only [smY,simprocAttr,bl,i64,undefL,undef];exact rfl));first|refine c_bt ?_|refine c_bf ?_|refine zq ?_|(case hg=>assumption))))
       repeat (refine l_cskip rfl (by decide) rfl ?_;(repeat (first|apply zO (by decide +kernel)|apply zP (by decide +kernel)|(apply zS;(case h=>constructor<;>decide))|((first|apply l_go rfl|apply c_dec|apply zT rfl (by decide) rfl);(case hs=>(simp (disch := first|omega|exact kD rfl|exact kX rfl) only [smY,simprocAttr,bl,i64,undefL,undef];exact rfl));first|refine c_bt ?_|refine c_bf ?_|refine zq ?_|(case hg=>assumption)))))
       ((first|apply g_ret|apply g_end);case hres => (simp only [smR];simp (disch := first|omega|exact kD rfl|exact kX rfl) only [smY,simprocAttr,bl,i64,undefL,undef];exact rfl))
       simp (disch := first|omega|exact kD rfl|exact kX rfl) only [smY,simprocAttr,bl,i64,undefL,undef]
   ·
     unfold bothE
     simp only [i64,bl] at *
     constructor
     ·
       refine good_of_lwp mix Tryz.func21 rfl (by decide) (nt := 36) rfl (rs := [.tmp 4,.tmp 5]) rfl (nle rfl) ?_
       (repeat (first|apply zO (by decide +kernel)|apply zP (by decide +kernel)|(apply zS;(case h=>constructor<;>decide))|((first|apply l_go rfl|apply c_dec|apply zT rfl (by decide) rfl);(case hs=>(simp (disch := first|omega|exact kD rfl|exact kX rfl) only [smY,simprocAttr,bl,i64,undefL,undef];exact rfl));first|refine c_bt ?_|refine c_bf ?_|refine zq ?_|(case hg=>assumption))))
       repeat (refine l_cskip rfl (by decide) rfl ?_;(repeat (first|apply zO (by decide +kernel)|apply zP (by decide +kernel)|(apply zS;(case h=>constructor<;>decide))|((first|apply l_go rfl|apply c_dec|apply zT rfl (by decide) rfl);(case hs=>(simp (disch := first|omega|exact kD rfl|exact kX rfl) only [smY,simprocAttr,bl,i64,undefL,undef];exact rfl));first|refine c_bt ?_|refine c_bf ?_|refine zq ?_|(case hg=>assumption)))))
       ((first|apply g_ret|apply g_end);case hres => (simp only [smR];simp (disch := first|omega|exact kD rfl|exact kX rfl) only [smY,simprocAttr,bl,i64,undefL,undef];exact rfl))
       simp (disch := first|omega|exact kD rfl|exact kX rfl) only [smY,simprocAttr,bl,i64,undefL,undef]
     ·
       refine good_of_lwp mix Tryz.func22 rfl (by decide) (nt := 77) rfl (rs := [.tmp 4,.tmp 5]) rfl (nle rfl) ?_
       (repeat (first|apply zO (by decide +kernel)|apply zP (by decide +kernel)|(apply zS;(case h=>constructor<;>decide))|((first|apply l_go rfl|apply c_dec|apply zT rfl (by decide) rfl);(case hs=>(simp (disch := first|omega|exact kD rfl|exact kX rfl) only [smY,simprocAttr,bl,i64,undefL,undef];exact rfl));first|refine c_bt ?_|refine c_bf ?_|refine zq ?_|(case hg=>assumption))))
       repeat (refine l_cskip rfl (by decide) rfl ?_;(repeat (first|apply zO (by decide +kernel)|apply zP (by decide +kernel)|(apply zS;(case h=>constructor<;>decide))|((first|apply l_go rfl|apply c_dec|apply zT rfl (by decide) rfl);(case hs=>(simp (disch := first|omega|exact kD rfl|exact kX rfl) only [smY,simprocAttr,bl,i64,undefL,undef];exact rfl));first|refine c_bt ?_|refine c_bf ?_|refine zq ?_|(case hg=>assumption)))))
       ((first|apply g_ret|apply g_end);case hres => (simp only [smR];simp (disch := first|omega|exact kD rfl|exact kX rfl) only [smY,simprocAttr,bl,i64,undefL,undef];exact rfl))
       simp (disch := first|omega|exact kD rfl|exact kX rfl) only [smY,simprocAttr,bl,i64,undefL,undef]
 | false =>
   rw [if_neg (by simp)] at hf
   by_cases c1 : den < 1
   ·
     unfold bothE
     simp only [i64,bl] at *
     constructor
     ·
       refine good_of_lwp mix Tryz.func21 rfl (by decide) (nt := 36) rfl (rs := [.tmp 4,.tmp 5]) rfl (nle rfl) ?_
       (repeat (first|apply zO (by decide +kernel)|apply zP (by decide +kernel)|(apply zS;(case h=>constructor<;>decide))|((first|apply l_go rfl|apply c_dec|apply zT rfl (by decide) rfl);(case hs=>(simp (disch := first|omega|exact kD rfl|exact kX rfl) only [smY,simprocAttr,bl,i64,undefL,undef];exact rfl));first|refine c_bt ?_|refine c_bf ?_|refine zq ?_|(case hg=>assumption))))
       repeat (refine l_cskip rfl (by decide) rfl ?_;(repeat (first|apply zO (by decide +kernel)|apply zP (by decide +kernel)|(apply zS;(case h=>constructor<;>decide))|((first|apply l_go rfl|apply c_dec|apply zT rfl (by decide) rfl);(case hs=>(simp (disch := first|omega|exact kD rfl|exact kX rfl) only [smY,simprocAttr,bl,i64,undefL,undef];exact rfl));first|refine c_bt ?_|refine c_bf ?_|refine zq ?_|(case hg=>assumption)))))
       ((first|apply g_ret|apply g_end);case hres => (simp only [smR];simp (disch := first|omega|exact kD rfl|exact kX rfl) only [smY,simprocAttr,bl,i64,undefL,undef];exact rfl))
       simp (disch := first|omega|exact kD rfl|exact kX rfl) only [smY,simprocAttr,bl,i64,undefL,undef]
     ·
       refine good_of_lwp mix Tryz.func22 rfl (by decide) (nt := 77) rfl (rs := [.tmp 4,.tmp 5]) rfl (nle rfl) ?_
       (repeat (first|apply zO (by decide +kernel)|apply zP (by decide +kernel)|(apply zS;(case h=>constructor<;>decide))|((first|apply l_go rfl|apply c_dec|apply zT rfl (by decide) rfl);(case hs=>(simp (disch := first|omega|exact kD rfl|exact kX rfl) only [smY,simprocAttr,bl,i64,undefL,undef];exact rfl));first|refine c_bt ?_|refine c_bf ?_|refine zq ?_|(case hg=>assumption))))
       repeat (refine l_cskip rfl (by decide) rfl ?_;(repeat (first|apply zO (by decide +kernel)|apply zP (by decide +kernel)|(apply zS;(case h=>constructor<;>decide))|((first|apply l_go rfl|apply c_dec|apply zT rfl (by decide) rfl);(case hs=>(simp (disch := first|omega|exact kD rfl|exact kX rfl) only [smY,simprocAttr,bl,i64,undefL,undef];exact rfl));first|refine c_bt ?_|refine c_bf ?_|refine zq ?_|(case hg=>assumption)))))
       ((first|apply g_ret|apply g_end);case hres => (simp only [smR];simp (disch := first|omega|exact kD rfl|exact kX rfl) only [smY,simprocAttr,bl,i64,undefL,undef];exact rfl))
       simp (disch := first|omega|exact kD rfl|exact kX rfl) only [smY,simprocAttr,bl,i64,undefL,undef]
   · by_cases c2 : num < 0
     ·
       unfold bothE
       simp only [i64,bl] at *
       constructor
       ·
         refine good_of_lwp mix Tryz.func21 rfl (by decide) (nt := 36) rfl (rs := [.tmp 4,.tmp 5]) rfl (nle rfl) ?_
         (repeat (first|apply zO (by decide +kernel)|apply zP (by decide +kernel)|(apply zS;(case h=>constructor<;>decide))|((first|apply l_go rfl|apply c_dec|apply zT rfl (by decide) rfl);(case hs=>(simp (disch := first|omega|exact kD rfl|exact kX rfl) only [smY,simprocAttr,bl,i64,undefL,undef];exact rfl));first|refine c_bt ?_|refine c_bf ?_|refine zq ?_|(case hg=>assumption))))
         repeat (refine l_cskip rfl (by decide) rfl ?_;(repeat (first|apply zO (by decide +kernel)|apply zP (by decide +kernel)|(apply zS;(case h=>constructor<;>decide))|((first|apply l_go rfl|apply c_dec|apply zT rfl (by decide) rfl);(case hs=>(simp (disch := first|omega|exact kD rfl|exact kX rfl) only [smY,simprocAttr,bl,i64,undefL,undef];exact rfl));first|refine c_bt ?_|refine c_bf ?_|refine zq ?_|(case hg=>assumption)))))
         ((first|apply g_ret|apply g_end);case hres => (simp only [smR];simp (disch := first|omega|exact kD rfl|exact kX rfl) only [smY,simprocAttr,bl,i64,undefL,undef];exact rfl))
         simp (disch := first|omega|exact kD rfl|exact kX rfl) only [smY,simprocAttr,bl,i64,undefL,undef]
       ·
         refine good_of_lwp mix Tryz.func22 rfl (by decide) (nt := 77) rfl (rs := [.tmp 4,.tmp 5]) rfl (nle rfl) ?_
         (repeat (first|apply zO (by decide +kernel)|apply zP (by decide +kernel)|(apply zS;(case h=>constructor<;>decide))|((first|apply l_go rfl|apply c_dec|apply zT rfl (by decide) rfl);(case hs=>(simp (disch := first|omega|exact kD rfl|exact kX rfl) only [smY,simprocAttr,bl,i64,undefL,undef];exact rfl));first|refine c_bt ?_|refine c_bf ?_|refine zq ?_|(case hg=>assumption))))
         repeat (refine l_cskip rfl (by decide) rfl ?_;(repeat (first|apply zO (by decide +kernel)|apply zP (by decide +kernel)|(apply zS;(case h=>constructor<;>decide))|((first|apply l_go rfl|apply c_dec|apply zT rfl (by decide) rfl);(case hs=>(simp (disch := first|omega|exact kD rfl|exact kX rfl) only [smY,simprocAttr,bl,i64,undefL,undef];exact rfl));first|refine c_bt ?_|refine c_bf ?_|refine zq ?_|(case hg=>assumption)))))
         ((first|apply g_ret|apply g_end);case hres => (simp only [smR];simp (disch := first|omega|exact kD rfl|exact kX rfl) only [smY,simprocAttr,bl,i64,undefL,undef];exact rfl))
         simp (disch := first|omega|exact kD rfl|exact kX rfl) only [smY,simprocAttr,bl,i64,undefL,undef]
     · by_cases c3 : den ≤ num
       ·
         unfold bothE
         simp only [i64,bl] at *
         constructor
         ·
           refine good_of_lwp mix Tryz.func21 rfl (by decide) (nt := 36) rfl (rs := [.tmp 4,.tmp 5]) rfl (nle rfl) ?_
           (repeat (first|apply zO (by decide +kernel)|apply zP (by decide +kernel)|(apply zS;(case h=>constructor<;>decide))|((first|apply l_go rfl|apply c_dec|apply zT rfl (by decide) rfl);(case hs=>(simp (disch := first|omega|exact kD rfl|exact kX rfl) only [smY,simprocAttr,bl,i64,undefL,undef];exact rfl));first|refine c_bt ?_|refine c_bf ?_|refine zq ?_|(case hg=>assumption))))
           repeat (refine l_cskip rfl (by decide) rfl ?_;(repeat (first|apply zO (by decide +kernel)|apply zP (by decide +kernel)|(apply zS;(case h=>constructor<;>decide))|((first|apply l_go rfl|apply c_dec|apply zT rfl (by decide) rfl);(case hs=>(simp (disch := first|omega|exact kD rfl|exact kX rfl) only [smY,simprocAttr,bl,i64,undefL,undef];exact rfl));first|refine c_bt ?_|refine c_bf ?_|refine zq ?_|(case hg=>assumption)))))
           ((first|apply g_ret|apply g_end);case hres => (simp only [smR];simp (disch := first|omega|exact kD rfl|exact kX rfl) only [smY,simprocAttr,bl,i64,undefL,undef];exact rfl))
           simp (disch := first|omega|exact kD rfl|exact kX rfl) only [smY,simprocAttr,bl,i64,undefL,undef]
         ·
           refine good_of_lwp mix Tryz.func22 rfl (by decide) (nt := 77) rfl (rs := [.tmp 4,.tmp 5]) rfl (nle rfl) ?_
           (repeat (first|apply zO (by decide +kernel)|apply zP (by decide +kernel)|(apply zS;(case h=>constructor<;>decide))|((first|apply l_go rfl|apply c_dec|apply zT rfl (by decide) rfl);(case hs=>(simp (disch := first|omega|exact kD rfl|exact kX rfl) only [smY,simprocAttr,bl,i64,undefL,undef];exact rfl));first|refine c_bt ?_|refine c_bf ?_|refine zq ?_|(case hg=>assumption))))
           repeat (refine l_cskip rfl (by decide) rfl ?_;(repeat (first|apply zO (by decide +kernel)|apply zP (by decide +kernel)|(apply zS;(case h=>constructor<;>decide))|((first|apply l_go rfl|apply c_dec|apply zT rfl (by decide) rfl);(case hs=>(simp (disch := first|omega|exact kD rfl|exact kX rfl) only [smY,simprocAttr,bl,i64,undefL,undef];exact rfl));first|refine c_bt ?_|refine c_bf ?_|refine zq ?_|(case hg=>assumption)))))
           ((first|apply g_ret|apply g_end);case hres => (simp only [smR];simp (disch := first|omega|exact kD rfl|exact kX rfl) only [smY,simprocAttr,bl,i64,undefL,undef];exact rfl))
           simp (disch := first|omega|exact kD rfl|exact kX rfl) only [smY,simprocAttr,bl,i64,undefL,undef]
       · have gg := gcd18_good num den (by omega) (by omega)
         have h3' : ¬ ((Int.gcd num den : Nat) : Int) = 1 := fun e => hf ⟨by omega,by omega,by omega⟩
         generalize Int.gcd num den = g at *
         unfold bothE
         simp only [i64,bl] at *
         constructor
         ·
           refine good_of_lwp mix Tryz.func21 rfl (by decide) (nt := 36) rfl (rs := [.tmp 4,.tmp 5]) rfl (nle rfl) ?_
           (repeat (first|apply zO (by decide +kernel)|apply zP (by decide +kernel)|(apply zS;(case h=>constructor<;>decide))|((first|apply l_go rfl|apply c_dec|apply zT rfl (by decide) rfl);(case hs=>(simp (disch := first|omega|exact kD rfl|exact kX rfl) only [smY,simprocAttr,bl,i64,undefL,undef];exact rfl));first|refine c_bt ?_|refine c_bf ?_|refine zq ?_|(case hg=>assumption))))
           repeat (refine l_cskip rfl (by decide) rfl ?_;(repeat (first|apply zO (by decide +kernel)|apply zP (by decide +kernel)|(apply zS;(case h=>constructor<;>decide))|((first|apply l_go rfl|apply c_dec|apply zT rfl (by decide) rfl);(case hs=>(simp (disch := first|omega|exact kD rfl|exact kX rfl) only [smY,simprocAttr,bl,i64,undefL,undef];exact rfl));first|refine c_bt ?_|refine c_bf ?_|refine zq ?_|(case hg=>assumption)))))
           ((first|apply g_ret|apply g_end);case hres => (simp only [smR];simp (disch := first|omega|exact kD rfl|exact kX rfl) only [smY,simprocAttr,bl,i64,undefL,undef];exact rfl))
           simp (disch := first|omega|exact kD rfl|exact kX rfl) only [smY,simprocAttr,bl,i64,undefL,undef]
         ·
           refine good_of_lwp mix Tryz.func22 rfl (by decide) (nt := 77) rfl (rs := [.tmp 4,.tmp 5]) rfl (nle rfl) ?_
           (repeat (first|apply zO (by decide +kernel)|apply zP (by decide +kernel)|(apply zS;(case h=>constructor<;>decide))|((first|apply l_go rfl|apply c_dec|apply zT rfl (by decide) rfl);(case hs=>(simp (disch := first|omega|exact kD rfl|exact kX rfl) only [smY,simprocAttr,bl,i64,undefL,undef];exact rfl));first|refine c_bt ?_|refine c_bf ?_|refine zq ?_|(case hg=>assumption))))
           repeat (refine l_cskip rfl (by decide) rfl ?_;(repeat (first|apply zO (by decide +kernel)|apply zP (by decide +kernel)|(apply zS;(case h=>constructor<;>decide))|((first|apply l_go rfl|apply c_dec|apply zT rfl (by decide) rfl);(case hs=>(simp (disch := first|omega|exact kD rfl|exact kX rfl) only [smY,simprocAttr,bl,i64,undefL,undef];exact rfl));first|refine c_bt ?_|refine c_bf ?_|refine zq ?_|(case hg=>assumption)))))
           ((first|apply g_ret|apply g_end);case hres => (simp only [smR];simp (disch := first|omega|exact kD rfl|exact kX rfl) only [smY,simprocAttr,bl,i64,undefL,undef];exact rfl))
           simp (disch := first|omega|exact kD rfl|exact kX rfl) only [smY,simprocAttr,bl,i64,undefL,undef]
theorem elem_e0 {n : Nat} (h1 : 1 ≤ n) (h2 : n ≤ 512) (h : phN n n ≤ 12) : bothE n true 0 0 0 := by
 have g1 := large_good h1 h2
 have g2 := phi28_good n (by omega)
 rw [dec_f (show ¬ 12 < phN n n by omega)] at g1
 have g3 := formed_good true 0 0 (by omega) (by omega)
 rw [dec_t (by unfold fmd;rw [if_pos rfl];exact ⟨rfl,rfl⟩)] at g3
 generalize phN n n = k at *
 unfold bothE
 simp only [i64,bl] at *
 constructor
 ·
  refine good_of_lwp mix Tryz.func21 rfl (by decide) (nt := 36) rfl (rs := [.tmp 4,.tmp 5]) rfl (nle rfl) ?_
  (repeat (first|apply zO (by decide +kernel)|apply zP (by decide +kernel)|(apply zS;(case h=>constructor<;>decide))|((first|apply l_go rfl|apply c_dec|apply zT rfl (by decide) rfl);(case hs=>(simp (disch := first|omega|exact kD rfl|exact kX rfl) only [smY,simprocAttr,bl,i64,undefL,undef];exact rfl));first|refine c_bt ?_|refine c_bf ?_|refine zq ?_|(case hg=>assumption))))
  repeat (refine l_cskip rfl (by decide) rfl ?_;(repeat (first|apply zO (by decide +kernel)|apply zP (by decide +kernel)|(apply zS;(case h=>constructor<;>decide))|((first|apply l_go rfl|apply c_dec|apply zT rfl (by decide) rfl);(case hs=>(simp (disch := first|omega|exact kD rfl|exact kX rfl) only [smY,simprocAttr,bl,i64,undefL,undef];exact rfl));first|refine c_bt ?_|refine c_bf ?_|refine zq ?_|(case hg=>assumption)))))
  ((first|apply g_ret|apply g_end);case hres => (simp only [smR];simp (disch := first|omega|exact kD rfl|exact kX rfl) only [smY,simprocAttr,bl,i64,undefL,undef];exact rfl))
  simp (disch := first|omega|exact kD rfl|exact kX rfl) only [smY,simprocAttr,bl,i64,undefL,undef]
 ·
  refine good_of_lwp mix Tryz.func22 rfl (by decide) (nt := 77) rfl (rs := [.tmp 4,.tmp 5]) rfl (nle rfl) ?_
  (repeat (first|apply zO (by decide +kernel)|apply zP (by decide +kernel)|(apply zS;(case h=>constructor<;>decide))|((first|apply l_go rfl|apply c_dec|apply zT rfl (by decide) rfl);(case hs=>(simp (disch := first|omega|exact kD rfl|exact kX rfl) only [smY,simprocAttr,bl,i64,undefL,undef];exact rfl));first|refine c_bt ?_|refine c_bf ?_|refine zq ?_|(case hg=>assumption))))
  repeat (refine l_cskip rfl (by decide) rfl ?_;(repeat (first|apply zO (by decide +kernel)|apply zP (by decide +kernel)|(apply zS;(case h=>constructor<;>decide))|((first|apply l_go rfl|apply c_dec|apply zT rfl (by decide) rfl);(case hs=>(simp (disch := first|omega|exact kD rfl|exact kX rfl) only [smY,simprocAttr,bl,i64,undefL,undef];exact rfl));first|refine c_bt ?_|refine c_bf ?_|refine zq ?_|(case hg=>assumption)))))
  ((first|apply g_ret|apply g_end);case hres => (simp only [smR];simp (disch := first|omega|exact kD rfl|exact kX rfl) only [smY,simprocAttr,bl,i64,undefL,undef];exact rfl))
  simp (disch := first|omega|exact kD rfl|exact kX rfl) only [smY,simprocAttr,bl,i64,undefL,undef]
theorem elem_e12 {n : Nat} {num den : Int} (h1 : 1 ≤ n) (h2 : n ≤ 512) (h : phN n n ≤ 12) (hn : -9223372036854775808 ≤ num ∧ num ≤ 9223372036854775807) (hd : -9223372036854775808 ≤ den ∧ den ≤ 9223372036854775807) (hf : fmd false num den) (hdv : ¬ (n : Int).tmod den = 0) : bothE n false num den 12 := by
 have g1 := large_good h1 h2
 have g2 := phi28_good n (by omega)
 rw [dec_f (show ¬ 12 < phN n n by omega)] at g1
 have g3 := formed_good false num den hn hd
 rw [dec_t hf] at g3
 generalize phN n n = k at *
 unfold fmd at hf
 rw [if_neg (by simp)] at hf
 obtain ⟨c1,c2,c3⟩ := hf
 have gg := gcd18_good num den (by omega) (by omega)
 rw [c3] at gg
 rw [Int.tmod_eq_emod_of_nonneg (by omega)] at hdv
 generalize hq : (n : Int) % den = q at *
 unfold bothE
 simp only [i64,bl] at *
 constructor
 ·
  refine good_of_lwp mix Tryz.func21 rfl (by decide) (nt := 36) rfl (rs := [.tmp 4,.tmp 5]) rfl (nle rfl) ?_
  (repeat (first|apply zO (by decide +kernel)|apply zP (by decide +kernel)|(apply zS;(case h=>constructor<;>decide))|((first|apply l_go rfl|apply c_dec|apply zT rfl (by decide) rfl);(case hs=>(simp (disch := first|omega|exact kD rfl|exact kX rfl) only [smY,simprocAttr,bl,i64,undefL,undef,hq];exact rfl));first|refine c_bt ?_|refine c_bf ?_|refine zq ?_|(case hg=>assumption))))
  repeat (refine l_cskip rfl (by decide) rfl ?_;(repeat (first|apply zO (by decide +kernel)|apply zP (by decide +kernel)|(apply zS;(case h=>constructor<;>decide))|((first|apply l_go rfl|apply c_dec|apply zT rfl (by decide) rfl);(case hs=>(simp (disch := first|omega|exact kD rfl|exact kX rfl) only [smY,simprocAttr,bl,i64,undefL,undef,hq];exact rfl));first|refine c_bt ?_|refine c_bf ?_|refine zq ?_|(case hg=>assumption)))))
  ((first|apply g_ret|apply g_end);case hres => (simp only [smR];simp (disch := first|omega|exact kD rfl|exact kX rfl) only [smY,simprocAttr,bl,i64,undefL,undef,hq];exact rfl))
  simp (disch := first|omega|exact kD rfl|exact kX rfl) only [smY,simprocAttr,bl,i64,undefL,undef,hq]
 ·
  refine good_of_lwp mix Tryz.func22 rfl (by decide) (nt := 77) rfl (rs := [.tmp 4,.tmp 5]) rfl (nle rfl) ?_
  (repeat (first|apply zO (by decide +kernel)|apply zP (by decide +kernel)|(apply zS;(case h=>constructor<;>decide))|((first|apply l_go rfl|apply c_dec|apply zT rfl (by decide) rfl);(case hs=>(simp (disch := first|omega|exact kD rfl|exact kX rfl) only [smY,simprocAttr,bl,i64,undefL,undef,hq];exact rfl));first|refine c_bt ?_|refine c_bf ?_|refine zq ?_|(case hg=>assumption))))
  repeat (refine l_cskip rfl (by decide) rfl ?_;(repeat (first|apply zO (by decide +kernel)|apply zP (by decide +kernel)|(apply zS;(case h=>constructor<;>decide))|((first|apply l_go rfl|apply c_dec|apply zT rfl (by decide) rfl);(case hs=>(simp (disch := first|omega|exact kD rfl|exact kX rfl) only [smY,simprocAttr,bl,i64,undefL,undef,hq];exact rfl));first|refine c_bt ?_|refine c_bf ?_|refine zq ?_|(case hg=>assumption)))))
  ((first|apply g_ret|apply g_end);case hres => (simp only [smR];simp (disch := first|omega|exact kD rfl|exact kX rfl) only [smY,simprocAttr,bl,i64,undefL,undef,hq];exact rfl))
  simp (disch := first|omega|exact kD rfl|exact kX rfl) only [smY,simprocAttr,bl,i64,undefL,undef,hq]
theorem lawElem_err {n num den e : Int} {z : Bool} (h : bothE n z num den e) : PureGood Tryz.prog 6 [i64 n,.agg [bl z,i64 num,i64 den]] (.lit (.bool true)) := by
 obtain ⟨g1,g2⟩ := h
 have s0 := same0
 have ga := awake_good
 simp only [i64,bl] at *
 refine good_of_lwp mix Tryz.func6 rfl (by decide) (nt := 31) rfl (rs := [.tmp 4]) rfl (nle rfl) ?_
 (repeat (first|apply zO (by decide +kernel)|apply zP (by decide +kernel)|(apply zS;(case h=>constructor<;>decide))|((first|apply l_go rfl|apply c_dec|apply zT rfl (by decide) rfl);(case hs=>(simp (disch := first|omega|exact kD rfl|exact kX rfl) only [smY,simprocAttr,bl,i64,undefL,undef];exact rfl));first|refine c_bt ?_|refine c_bf ?_|refine zq ?_|(case hg=>assumption))))
 repeat (refine l_cskip rfl (by decide) rfl ?_;(repeat (first|apply zO (by decide +kernel)|apply zP (by decide +kernel)|(apply zS;(case h=>constructor<;>decide))|((first|apply l_go rfl|apply c_dec|apply zT rfl (by decide) rfl);(case hs=>(simp (disch := first|omega|exact kD rfl|exact kX rfl) only [smY,simprocAttr,bl,i64,undefL,undef];exact rfl));first|refine c_bt ?_|refine c_bf ?_|refine zq ?_|(case hg=>assumption)))))
 ((first|apply g_ret|apply g_end);case hres => (simp only [smR];simp (disch := first|omega|exact kD rfl|exact kX rfl) only [smY,simprocAttr,bl,i64,undefL,undef];exact rfl))
 simp (disch := first|omega|exact kD rfl|exact kX rfl) only [smY,simprocAttr,bl,i64,undefL,undef]
end Go.Proofs.YtlbckpljefadpaaGreat
namespace Go.Proofs.YtlbckpljefadpaaGreat
open Go Go.Lg Go.Num
set_option maxRecDepth 100000
def nEl : List Nat := [1,2,3,4,5,6,7,8,9,10,11,12,13,14,15,16,18,20,21,22,24,26,28,30,36,42]
theorem nEl_all : ((List.range 513).all fun n => Nat.beq n 0 || Nat.blt 12 (phK n) || nEl.contains n) = true := by decide +kernel
theorem nEl_ok {n : Nat} (h1 : 1 ≤ n) (h2 : n ≤ 512) (h : phN n n ≤ 12) : n ∈ nEl := by
 have g := List.all_eq_true.1 nEl_all n (List.mem_range.2 (by omega))
 rw [phK_eq,Bool.or_eq_true,Bool.or_eq_true] at g
 rcases g with (g | g) | g
 ·have := Nat.eq_of_beq_eq_true g
  omega
 ·have := Nat.le_of_ble_eq_true g
  omega
 ·exact List.contains_iff_mem.1 g
def fracs (n : Nat) : List (Nat × Nat) := (List.range n).flatMap fun d => bif Nat.beq (n % (d + 1)) 0 then ((List.range (d + 1)).filter fun u => Nat.beq (Nat.gcd u (d + 1)) 1).map fun u => (u,d + 1) else []
theorem fracs_mem {n u d : Nat} (hd : 1 ≤ d) (hn : 1 ≤ n) (h : n % d = 0) (hu : u < d) (hg : Nat.gcd u d = 1) : (u,d) ∈ fracs n := by
 have hle := Nat.le_of_dvd (by omega) (Nat.dvd_of_mod_eq_zero h)
 refine List.mem_flatMap.2 ⟨d - 1,List.mem_range.2 (by omega),?_⟩
 rw [show d - 1 + 1 = d by omega,show Nat.beq (n % d) 0 = true by rw [h];rfl]
 exact List.mem_map.2 ⟨u,List.mem_filter.2 ⟨List.mem_range.2 hu,by rw [hg];rfl⟩,rfl⟩
noncomputable def chkEl (n : Nat) (p : Nat × Nat) : Bool := match evo orcR 6 [.lit (.int .i64 (.ofNat n)),.agg [.lit (.bool false),.lit (.int .i64 (.ofNat p.1)),.lit (.int .i64 (.ofNat p.2))]] with
 | some (.lit (.bool b)) => b
 | _ => false
end Go.Proofs.YtlbckpljefadpaaGreat