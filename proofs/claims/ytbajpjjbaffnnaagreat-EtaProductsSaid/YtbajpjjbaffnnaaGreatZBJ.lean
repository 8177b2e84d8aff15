/- Contracts of functions of the program, and what proves them (texts: E8). -/
import Derived.Test.YtbajpjjbaffnnaaGreatZBC
import Derived.Test.YtbajpjjbaffnnaaGreatZBG
import Derived.Test.YtbajpjjbaffnnaaGreatZBI
set_option linter.all false
namespace Go.Proofs.YtbajpjjbaffnnaaGreat
open Go Go.Lg Go.Num
set_option maxRecDepth 100000
set_option maxHeartbeats 4000000
attribute [local irreducible] Go.Lg.lrun Go.Lg.lwp Go.Lg.exThen Go.Lg.exBlk Go.Lg.keep Go.Lg.goodPost sg mg ec
def ordOk (lv : Int) (xs : List Int) (c : Int) : Prop := etaErr lv xs = 0 ∧ 1 ≤ c ∧ lv % c = 0
instance (lv : Int) (xs : List Int) (c : Int) : Decidable (ordOk lv xs c) := by unfold ordOk;exact inferInstance
def ordN (lv : Int) (xs : List Int) (c : Int) : Int := if ordOk lv xs c then (ordQ lv.toNat xs c.toNat xs.length).num else 0
def ordD (lv : Int) (xs : List Int) (c : Int) : Int := if ordOk lv xs c then ((ordQ lv.toNat xs c.toNat xs.length).den : Int) else 0
def ordE (lv : Int) (xs : List Int) (c : Int) : Int := if etaErr lv xs = 0 then (if ordOk lv xs c then 0 else 12) else etaErr lv xs
theorem Order_good (lv : Int) (xs : List Int) (hlv : -9223372036854775808 ≤ lv ∧ lv ≤ 9223372036854775807) (hl : xs.length ≤ 1000000) (c : Int) (hc : -9223372036854775808 ≤ c ∧ c ≤ 9223372036854775807) : PureGood Tryz.prog 27 [.agg [i64 lv,.sl xs.length (ec xs)],i64 c] (.tup [.agg [sg (ordN lv xs c),mg (ordN lv xs c),sg (ordD lv xs c),mg (ordD lv xs c)],i64 (ordE lv xs c)]) := by
 have g1 := check_good lv xs hlv hl
 unfold ordN ordD ordE
 by_cases h : etaErr lv xs = 0
 ·rw [if_pos h]
  obtain ⟨n,rfl,ok⟩ := etaOk_of h
  rw [h] at g1
  have n1 := ok.n1
  have n2 := ok.n2
  by_cases h2 : ordOk n xs c
  ·rw [if_pos h2,if_pos h2,if_pos h2]
   obtain ⟨_,c1,c2⟩ := h2
   obtain ⟨k,rfl⟩ : ∃ k : Nat,c = k := ⟨c.toNat,by omega⟩
   have c3 : n % k = 0 := by omega
   have hcn : k ≤ n := Nat.le_of_dvd (by omega) (Nat.dvd_of_mod_eq_zero c3)
   have g2 := order_in ok (c := k) (by omega) c3
   rw [Int.toNat_natCast,Int.toNat_natCast]
   generalize ordQ n xs k xs.length = r at *
   simp only [encQ_sm,i64] at *
   refine good_of_lwp mix Tryz.func27 rfl (by decide) (nt := 26) rfl (rs := [.cell 4 46,.tmp 5]) rfl (nle rfl) ?_
   (repeat (first|apply zO (by decide +kernel)|apply zP (by decide +kernel)|(apply zS;(case h=>constructor<;>decide))|((first|apply l_go rfl|apply c_dec|apply zT rfl (by decide) rfl);(case hs=>(simp (disch := first|omega|exact kD rfl|exact kX rfl) only [smY,simprocAttr,bl,i64,smS,smE];exact rfl));first|refine c_bt ?_|refine c_bf ?_|refine zq ?_|(case hg=>assumption))))
   ((first|apply g_ret|apply g_end);case hres => (simp only [smR];simp (disch := first|omega|exact kD rfl|exact kX rfl) only [smY,simprocAttr,bl,i64,smS,smE];exact rfl))
   simp (disch := first|omega|exact kD rfl|exact kX rfl) only [smY,simprocAttr,bl,i64,smS,smE]
  ·rw [if_neg h2,if_neg h2,if_neg h2,sg0,mg0]
   simp only [i64] at *
   by_cases h3 : c < 1
   ·refine good_of_lwp mix Tryz.func27 rfl (by decide) (nt := 26) rfl (rs := [.cell 4 46,.tmp 5]) rfl (nle rfl) ?_
    (repeat (first|apply zO (by decide +kernel)|apply zP (by decide +kernel)|(apply zS;(case h=>constructor<;>decide))|((first|apply l_go rfl|apply c_dec|apply zT rfl (by decide) rfl);(case hs=>(simp (disch := first|omega|exact kD rfl|exact kX rfl) only [smY,simprocAttr,bl,i64,smS,smE];exact rfl));first|refine c_bt ?_|refine c_bf ?_|refine zq ?_|(case hg=>assumption))))
    ((first|apply g_ret|apply g_end);case hres => (simp only [smR];simp (disch := first|omega|exact kD rfl|exact kX rfl) only [smY,simprocAttr,bl,i64,smS,smE];exact rfl))
    simp (disch := first|omega|exact kD rfl|exact kX rfl) only [smY,simprocAttr,bl,i64,smS,smE]
   ·have h4 : ¬ (n : Int) % c = 0 := fun e => h2 ⟨h,by omega,e⟩
    by_cases h5 : (n : Int) < c
    ·refine good_of_lwp mix Tryz.func27 rfl (by decide) (nt := 26) rfl (rs := [.cell 4 46,.tmp 5]) rfl (nle rfl) ?_
     (repeat (first|apply zO (by decide +kernel)|apply zP (by decide +kernel)|(apply zS;(case h=>constructor<;>decide))|((first|apply l_go rfl|apply c_dec|apply zT rfl (by decide) rfl);(case hs=>(simp (disch := first|omega|exact kD rfl|exact kX rfl) only [smY,simprocAttr,bl,i64,smS,smE];exact rfl));first|refine c_bt ?_|refine c_bf ?_|refine zq ?_|(case hg=>assumption))))
     ((first|apply g_ret|apply g_end);case hres => (simp only [smR];simp (disch := first|omega|exact kD rfl|exact kX rfl) only [smY,simprocAttr,bl,i64,smS,smE];exact rfl))
     simp (disch := first|omega|exact kD rfl|exact kX rfl) only [smY,simprocAttr,bl,i64,smS,smE]
    ·refine good_of_lwp mix Tryz.func27 rfl (by decide) (nt := 26) rfl (rs := [.cell 4 46,.tmp 5]) rfl (nle rfl) ?_
     (repeat (first|apply zO (by decide +kernel)|apply zP (by decide +kernel)|(apply zS;(case h=>constructor<;>decide))|((first|apply l_go rfl|apply c_dec|apply zT rfl (by decide) rfl);(case hs=>(simp (disch := first|omega|exact kD rfl|exact kX rfl) only [smY,simprocAttr,bl,i64,smS,smE];exact rfl));first|refine c_bt ?_|refine c_bf ?_|refine zq ?_|(case hg=>assumption))))
     ((first|apply g_ret|apply g_end);case hres => (simp only [smR];simp (disch := first|omega|exact kD rfl|exact kX rfl) only [smY,simprocAttr,bl,i64,smS,smE];exact rfl))
     simp (disch := first|omega|exact kD rfl|exact kX rfl) only [smY,simprocAttr,bl,i64,smS,smE]
 ·rw [if_neg h,if_neg (fun e => h e.1),if_neg (fun e => h e.1),sg0,mg0]
  generalize etaErr lv xs = er at *
  simp only [i64] at *
  refine good_of_lwp mix Tryz.func27 rfl (by decide) (nt := 26) rfl (rs := [.cell 4 46,.tmp 5]) rfl (nle rfl) ?_
  (repeat (first|apply zO (by decide +kernel)|apply zP (by decide +kernel)|(apply zS;(case h=>constructor<;>decide))|((first|apply l_go rfl|apply c_dec|apply zT rfl (by decide) rfl);(case hs=>(simp (disch := first|omega|exact kD rfl|exact kX rfl) only [smY,simprocAttr,bl,i64,smS,smE];exact rfl));first|refine c_bt ?_|refine c_bf ?_|refine zq ?_|(case hg=>assumption))))
  ((first|apply g_ret|apply g_end);case hres => (simp only [smR];simp (disch := first|omega|exact kD rfl|exact kX rfl) only [smY,simprocAttr,bl,i64,smS,smE];exact rfl))
  simp (disch := first|omega|exact kD rfl|exact kX rfl) only [smY,simprocAttr,bl,i64,smS,smE]
end Go.Proofs.YtbajpjjbaffnnaaGreat