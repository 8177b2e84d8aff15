/- Contracts of functions of the program, and what proves them (texts: RE CA). -/
import Derived.Test.YtbajpjjbaffnnaaGreatZBC
import Derived.Test.YtbajpjjbaffnnaaGreatZBY
import Derived.Test.YtbajpjjbaffnnaaGreatZCC
set_option linter.all false
namespace Go.Proofs.YtbajpjjbaffnnaaGreat
open Go Go.Lg Go.Num
set_option maxRecDepth 100000
set_option maxHeartbeats 8000000
attribute [local irreducible] Go.Lg.lrun Go.Lg.lwp Go.Lg.exThen Go.Lg.exBlk Go.Lg.keep Go.Lg.goodPost ec
theorem raise_eta {n m : Nat} {xs : List Int} (hx : EtaOk n xs) (m1 : 1 ≤ m) (m2 : m ≤ 600) (hm : m % n = 0) : PureGood Tryz.prog 48 [.agg [i64 n,.sl xs.length (ec xs)],i64 m] (shp m 0 (.sl (mdL (divL m) (divL n) xs 1).length (ec (mdL (divL m) (divL n) xs 1)))) := by
 have n1 := hx.n1
 have n2 := hx.n2
 have l1 := hx.len_le
 have g1 := check_good n xs (by omega) (by omega)
 rw [etaErr_zero hx] at g1
 have gs := spread_etaP (t := 1) hx m1 m2 (by rw [Nat.mul_one];exact hm)
 have e1 : ((1 : Nat) : Int) = 1 := rfl
 rw [e1] at gs
 have hz := mdL_len (divL m) (divL n) xs 1
 rw [divL_length] at hz
 have h3' : ((m : Int)).tmod (n : Int) = 0 := by
  show ((m % n : Nat) : Int) = 0
  omega
 generalize mdL (divL m) (divL n) xs 1 = Z at *
 rw [← hz] at gs
 simp only [i64,bl] at *
 refine good_of_lwp mix Tryz.func48 rfl (by decide) (nt := 31) rfl (rs := [.cell 4 24,.tmp 5]) rfl (nle rfl) ?_
 (repeat (first|apply zO (by decide +kernel)|apply zP (by decide +kernel)|(apply zS;(case h=>constructor<;>decide))|((first|apply l_go rfl|apply c_dec|apply zT rfl (by decide) rfl);(case hs=>(simp (disch := first|omega|exact kD rfl|exact kX rfl) only [smY,simprocAttr,bl,i64,smE,shp,ec_nil,undefL,undef];exact rfl));first|refine c_bt ?_|refine c_bf ?_|refine zq ?_|(case hg=>assumption))))
 ((first|apply g_ret|apply g_end);case hres => (simp only [smR];simp (disch := first|omega|exact kD rfl|exact kX rfl) only [smY,simprocAttr,bl,i64,smE,shp,ec_nil,undefL,undef];exact rfl))
 simp (disch := first|omega|exact kD rfl|exact kX rfl) only [smY,simprocAttr,bl,i64,smE,shp,ec_nil,undefL,undef]
end Go.Proofs.YtbajpjjbaffnnaaGreat
namespace Go.Proofs.YtbajpjjbaffnnaaGreat
open Go Go.Lg Go.Num
set_option maxRecDepth 100000
set_option maxHeartbeats 4000000
attribute [local irreducible] Go.Lg.lrun Go.Lg.lwp Go.Lg.exThen Go.Lg.exBlk Go.Lg.keep Go.Lg.goodPost ec
theorem rcheck_any (lv : Int) (xs : List Int) (hlv : -9223372036854775808 ≤ lv ∧ lv ≤ 9223372036854775807) : PureGood Tryz.prog 23 [.agg [i64 lv,.sl xs.length (ec xs)]] (i64 (etaErr lv xs)) := by
 by_cases hl : xs.length ≤ 1000000
 ·exact rcheck_good lv xs hlv hl
 ·unfold etaErr
  by_cases h1 : 1 ≤ lv ∧ lv ≤ 600
  ·rw [if_pos h1]
   obtain ⟨n,rfl⟩ : ∃ n : Nat,lv = n := ⟨lv.toNat,by omega⟩
   rw [Int.toNat_natCast]
   have g1 := rdivisors_good (n := n) (by omega) (by omega)
   have l1 := divN_length_le n (by omega)
   rw [if_neg (by omega)]
   simp only [i64] at *
   refine good_of_lwp mix Tryz.func23 rfl (by decide) (nt := 41) rfl (rs := [.tmp 2]) rfl (nle rfl) ?_
   (repeat (first|apply zO (by decide +kernel)|apply zP (by decide +kernel)|(apply zS;(case h=>constructor<;>decide))|((first|apply l_go rfl|apply c_dec|apply zT rfl (by decide) rfl);(case hs=>(simp (disch := first|omega|exact kD rfl|exact kX rfl) only [smY,simprocAttr,bl,i64,smE];exact rfl));first|refine c_bt ?_|refine c_bf ?_|refine zq ?_|(case hg=>assumption))))
   ((first|apply g_ret|apply g_end);case hres => (simp only [smR];simp (disch := first|omega|exact kD rfl|exact kX rfl) only [smY,simprocAttr,bl,i64,smE];exact rfl))
   simp (disch := first|omega|exact kD rfl|exact kX rfl) only [smY,simprocAttr,bl,i64,smE]
  ·rw [if_neg h1]
   by_cases h2 : lv < 1
   ·refine good_of_lwp mix Tryz.func23 rfl (by decide) (nt := 41) rfl (rs := [.tmp 2]) rfl (nle rfl) ?_
    (repeat (first|apply zO (by decide +kernel)|apply zP (by decide +kernel)|(apply zS;(case h=>constructor<;>decide))|((first|apply l_go rfl|apply c_dec|apply zT rfl (by decide) rfl);(case hs=>(simp (disch := first|omega|exact kD rfl|exact kX rfl) only [smY,simprocAttr,bl,i64,smE];exact rfl));first|refine c_bt ?_|refine c_bf ?_|refine zq ?_|(case hg=>assumption))))
    ((first|apply g_ret|apply g_end);case hres => (simp only [smR];simp (disch := first|omega|exact kD rfl|exact kX rfl) only [smY,simprocAttr,bl,i64,smE];exact rfl))
    simp (disch := first|omega|exact kD rfl|exact kX rfl) only [smY,simprocAttr,bl,i64,smE]
   ·refine good_of_lwp mix Tryz.func23 rfl (by decide) (nt := 41) rfl (rs := [.tmp 2]) rfl (nle rfl) ?_
    (repeat (first|apply zO (by decide +kernel)|apply zP (by decide +kernel)|(apply zS;(case h=>constructor<;>decide))|((first|apply l_go rfl|apply c_dec|apply zT rfl (by decide) rfl);(case hs=>(simp (disch := first|omega|exact kD rfl|exact kX rfl) only [smY,simprocAttr,bl,i64,smE];exact rfl));first|refine c_bt ?_|refine c_bf ?_|refine zq ?_|(case hg=>assumption))))
    ((first|apply g_ret|apply g_end);case hres => (simp only [smR];simp (disch := first|omega|exact kD rfl|exact kX rfl) only [smY,simprocAttr,bl,i64,smE];exact rfl))
    simp (disch := first|omega|exact kD rfl|exact kX rfl) only [smY,simprocAttr,bl,i64,smE]
end Go.Proofs.YtbajpjjbaffnnaaGreat