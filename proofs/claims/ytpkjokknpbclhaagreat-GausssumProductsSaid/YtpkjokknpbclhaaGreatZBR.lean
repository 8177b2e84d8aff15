/- Contracts of functions of the program, and what proves them (texts: J0). -/
import Derived.Test.YtpkjokknpbclhaaGreatZBG
set_option linter.all false
namespace Go.Proofs.YtpkjokknpbclhaaGreat
open Go Go.Lg Go.Num
set_option maxRecDepth 100000
set_option maxHeartbeats 4000000
theorem lcm_form {a b : Nat} (ha : 1 ≤ a) : a / Nat.gcd a b * b = Nat.lcm a b := by
 unfold Nat.lcm
 exact (Nat.div_mul_right_comm (Nat.gcd_dvd_left a b) b)
theorem lcm_le {a b : Nat} (ha : 1 ≤ a) (hb : 1 ≤ b) : 1 ≤ Nat.lcm a b ∧ Nat.lcm a b ≤ a * b := ⟨Nat.lcm_pos ha hb,Nat.div_le_self _ _⟩
attribute [local irreducible] Go.Lg.lrun Go.Lg.lwp Go.Lg.exThen Go.Lg.exBlk Go.Lg.keep Go.Lg.goodPost
theorem glcm_good (a b : Nat) (ha : 1 ≤ a) (ha2 : a ≤ 100000) (hb : 1 ≤ b) (hb2 : b ≤ 100000) : PureGood Tryz.prog 30 [i64 a,i64 b] (i64 (Nat.lcm a b)) := by
 have hf := lcm_form (b := b) ha
 have gg := gcdI_good (a : Int) (b : Int) (by omega) (by omega)
 have hgc : Int.gcd (a : Int) (b : Int) = Nat.gcd a b := rfl
 rw [hgc] at gg
 have hgp : 0 < Nat.gcd a b := Nat.gcd_pos_of_pos_left _ ha
 have hd := Nat.div_le_self a (Nat.gcd a b)
 have hm : a / Nat.gcd a b * b ≤ 100000 * 100000 := Nat.mul_le_mul (by omega) hb2
 rw [← hf]
 generalize Nat.gcd a b = g at *
 have d1 : (a : Int) / (g : Int) = ((a / g : Nat) : Int) := rfl
 have d2 : ((a / g : Nat) : Int) * (b : Int) = ((a / g * b : Nat) : Int) := by simp
 have hg0 : ¬ (g : Int) = 0 := by omega
 generalize a / g * b = L at *
 generalize a / g = q at *
 simp only [i64] at *
 refine good_of_lwp mix Tryz.func30 rfl (by decide) (nt := 12) rfl (rs := [.tmp 4]) rfl (nle rfl) ?_
 (repeat (first|apply zO (by decide +kernel)|apply zP (by decide +kernel)|(apply zS;(case h=>constructor<;>decide))|((first|apply l_go rfl|apply c_dec|apply zT rfl (by decide) rfl);(case hs=>(simp (disch := first|omega|exact kD rfl|exact kX rfl) only [smY,simprocAttr,bl,i64,d1,d2];exact rfl));first|refine c_bt ?_|refine c_bf ?_|refine zq ?_|(case hg=>assumption))))
 ((first|apply g_ret|apply g_end);case hres => (simp only [smR];simp (disch := first|omega|exact kD rfl|exact kX rfl) only [smY,simprocAttr,bl,i64,d1,d2];exact rfl))
 simp (disch := first|omega|exact kD rfl|exact kX rfl) only [smY,simprocAttr,bl,i64,d1,d2]
theorem rlcm29_good (a b : Nat) (ha : 1 ≤ a) (ha2 : a ≤ 100000) (hb : 1 ≤ b) (hb2 : b ≤ 100000) : PureGood Tryz.prog 33 [i64 a,i64 b] (i64 (Nat.lcm a b)) := by
 have hf := lcm_form (b := b) ha
 have gg := gcd18_good (a : Int) (b : Int) (by omega) (by omega)
 have hgc : Int.gcd (a : Int) (b : Int) = Nat.gcd a b := rfl
 rw [hgc] at gg
 have hgp : 0 < Nat.gcd a b := Nat.gcd_pos_of_pos_left _ ha
 have hd := Nat.div_le_self a (Nat.gcd a b)
 have hm : a / Nat.gcd a b * b ≤ 100000 * 100000 := Nat.mul_le_mul (by omega) hb2
 rw [← hf]
 generalize Nat.gcd a b = g at *
 have d1 : (a : Int) / (g : Int) = ((a / g : Nat) : Int) := rfl
 have d2 : ((a / g : Nat) : Int) * (b : Int) = ((a / g * b : Nat) : Int) := by simp
 have hg0 : ¬ (g : Int) = 0 := by omega
 generalize a / g * b = L at *
 generalize a / g = q at *
 simp only [i64] at *
 refine good_of_lwp mix Tryz.func33 rfl (by decide) (nt := 12) rfl (rs := [.tmp 4]) rfl (nle rfl) ?_
 (repeat (first|apply zO (by decide +kernel)|apply zP (by decide +kernel)|(apply zS;(case h=>constructor<;>decide))|((first|apply l_go rfl|apply c_dec|apply zT rfl (by decide) rfl);(case hs=>(simp (disch := first|omega|exact kD rfl|exact kX rfl) only [smY,simprocAttr,bl,i64,d1,d2];exact rfl));first|refine c_bt ?_|refine c_bf ?_|refine zq ?_|(case hg=>assumption))))
 ((first|apply g_ret|apply g_end);case hres => (simp only [smR];simp (disch := first|omega|exact kD rfl|exact kX rfl) only [smY,simprocAttr,bl,i64,d1,d2];exact rfl))
 simp (disch := first|omega|exact kD rfl|exact kX rfl) only [smY,simprocAttr,bl,i64,d1,d2]
end Go.Proofs.YtpkjokknpbclhaaGreat