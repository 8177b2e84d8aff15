/- Contracts of functions of the program, and what proves them (texts: KE E1 E2). -/
import Derived.Test.YtbajpjjbaffnnaaGreatZAU
import Derived.Test.YtbajpjjbaffnnaaGreatZAV
import Derived.Test.YtbajpjjbaffnnaaGreatZAW
import Derived.Test.YtbajpjjbaffnnaaGreatZAX
import Derived.Test.YtbajpjjbaffnnaaGreatZAY
import Derived.Test.YtbajpjjbaffnnaaGreatZAZ
import Derived.Test.YtbajpjjbaffnnaaGreatZBA
import Derived.Test.YtbajpjjbaffnnaaGreatZBB
set_option linter.all false
namespace Go.Proofs.YtbajpjjbaffnnaaGreat
open Go Go.Lg Go.Num
set_option maxRecDepth 100000
theorem ke_all {n : Nat} (h1 : 1 ≤ n) (h2 : n ≤ 600) : chkN n = true := by
 obtain ⟨j,i,hi,hj,rfl⟩ : ∃ j i,i < 8 ∧ j < 75 ∧ n = 8 * j + (i + 1) := ⟨(n - 1) / 8,(n - 1) % 8,by omega,by omega,by omega⟩
 match i,hi with
 | 0,_ => exact ke0 j hj
 | 1,_ => exact ke1 j hj
 | 2,_ => exact ke2 j hj
 | 3,_ => exact ke3 j hj
 | 4,_ => exact ke4 j hj
 | 5,_ => exact ke5 j hj
 | 6,_ => exact ke6 j hj
 | 7,_ => exact ke7 j hj
theorem chkN_ok {n : Nat} (h1 : 1 ≤ n) (h2 : n ≤ 600) : chkD n = true ∧ chkR n = true ∧ chkF n = true ∧ chkP n = true := by
 have h := ke_all h1 h2
 unfold chkN at h
 rw [Bool.and_eq_true,Bool.and_eq_true,Bool.and_eq_true] at h
 exact ⟨h.1.1.1,h.1.1.2,h.1.2,h.2⟩
theorem adivisors_good {n : Nat} (h1 : 1 ≤ n) (h2 : n ≤ 600) : PureGood Tryz.prog 25 [i64 n] (.tup [.sl (divN n).length (ec (divL n)),i64 0]) := chkD_ok (chkN_ok h1 h2).1
theorem rdivisors_good {n : Nat} (h1 : 1 ≤ n) (h2 : n ≤ 600) : PureGood Tryz.prog 68 [i64 n] (.sl (divN n).length (ec (divL n))) := chkR_ok (chkN_ok h1 h2).2.1
theorem factor_good {n : Nat} (h1 : 1 ≤ n) (h2 : n ≤ 600) : PureGood Tryz.prog 100 [i64 n] (.tup [.sl (prs n).length (fcs n (prs n)),i64 0]) := chkF_ok (chkN_ok h1 h2).2.2.1
end Go.Proofs.YtbajpjjbaffnnaaGreat
namespace Go.Proofs.YtbajpjjbaffnnaaGreat
open Go Go.Lg Go.Num
set_option maxRecDepth 100000
set_option maxHeartbeats 4000000
attribute [local irreducible] Go.Lg.lrun Go.Lg.lwp Go.Lg.exThen Go.Lg.exBlk Go.Lg.keep Go.Lg.goodPost ec
theorem divisors_good {n : Nat} (h1 : 1 ≤ n) (h2 : n ≤ 600) : PureGood Tryz.prog 64 [i64 n] (.sl (divN n).length (ec (divL n))) := by
 have g1 := adivisors_good h1 h2
 rw [i64] at g1
 refine good_of_lwp mix Tryz.func64 rfl (by decide) (nt := 11) rfl (rs := [.tmp 2]) rfl (nle rfl) ?_
 (repeat (first|apply zO (by decide +kernel)|apply zP (by decide +kernel)|(apply zS;(case h=>constructor<;>decide))|((first|apply l_go rfl|apply c_dec|apply zT rfl (by decide) rfl);(case hs=>(simp (disch := first|omega|exact kD rfl|exact kX rfl) only [smY,simprocAttr,bl,i64,smE];exact rfl));first|refine c_bt ?_|refine c_bf ?_|refine zq ?_|(case hg=>assumption))))
 ((first|apply g_ret|apply g_end);case hres => (simp only [smR];simp (disch := first|omega|exact kD rfl|exact kX rfl) only [smY,simprocAttr,bl,i64,smE];exact rfl))
 simp (disch := first|omega|exact kD rfl|exact kX rfl) only [smY,simprocAttr,bl,i64,smE]
theorem fits_good (xs : List Int) (hl : xs.length ≤ 1000000) : PureGood Tryz.prog 74 [.sl xs.length (ec xs)] (bl (decide (∀ x ∈ xs,-200 ≤ x ∧ x ≤ 200))) := by
 refine good_of_lwp mix Tryz.func74 rfl (by decide) (nt := 18) rfl (rs := [.tmp 2]) rfl (nle rfl) ?_
 (repeat (first|apply zO (by decide +kernel)|apply zP (by decide +kernel)|((fail_if_success refine is_bl ?_);apply zS;(case h=>constructor<;>decide))|((first|apply l_go rfl|apply c_dec);(case hs=>(simp (disch := first|omega|exact kD rfl|exact kX rfl) only [smY,simprocAttr,bl,i64,smE];exact rfl));first|refine c_bt ?_|refine c_bf ?_|refine zq ?_)))
 refine w_loop (α := {i : Nat // i ≤ xs.length ∧ ∀ j,j < i → -200 ≤ xs.getD j 0 ∧ xs.getD j 0 ≤ 200}) (fun i => st 18 (lk [(0,.sl xs.length (ec xs)),(2,bl false),(5,.sl xs.length (ec xs)),(6,i64 xs.length),(7,i64 i.1)]) (lkH []) 0) (fun i => xs.length - i.1) ⟨0,by simp⟩ ?_ ?_
 ·(refine Sub.plain ?_;simp only [smF,dg,renL,renLs,simprocAttr,bl,i64,smE])
 ·rintro ⟨i,hi,hj⟩
  simp only [st]
  by_cases h1 : i < xs.length
  ·have hm : xs.getD i 0 ∈ xs := by
    have e : xs.getD i 0 = xs[i] := by simp [h1]
    rw [e];exact List.getElem_mem h1
   by_cases h3 : xs.getD i 0 < -200
   ·rw [dec_f (p := ∀ x ∈ xs,-200 ≤ x ∧ x ≤ 200) (fun h => by have := h _ hm;omega)]
    (repeat (first|apply zO (by decide +kernel)|apply zP (by decide +kernel)|(apply zS;(case h=>constructor<;>decide))|((first|apply l_go rfl|apply c_dec|apply zT rfl (by decide) rfl);(case hs=>(simp (disch := first|omega|exact kD rfl|exact kX rfl) only [smY,simprocAttr,bl,i64,smE];exact rfl));first|refine c_bt ?_|refine c_bf ?_|refine zq ?_|(case hg=>assumption))))
    ((first|apply g_ret|apply g_end);case hres => (simp only [smR];simp (disch := first|omega|exact kD rfl|exact kX rfl) only [smY,simprocAttr,bl,i64,smE];exact rfl))
    simp (disch := first|omega|exact kD rfl|exact kX rfl) only [smY,simprocAttr,bl,i64,smE]
   ·by_cases h4 : 200 < xs.getD i 0
    ·rw [dec_f (p := ∀ x ∈ xs,-200 ≤ x ∧ x ≤ 200) (fun h => by have := h _ hm;omega)]
     (repeat (first|apply zO (by decide +kernel)|apply zP (by decide +kernel)|(apply zS;(case h=>constructor<;>decide))|((first|apply l_go rfl|apply c_dec|apply zT rfl (by decide) rfl);(case hs=>(simp (disch := first|omega|exact kD rfl|exact kX rfl) only [smY,simprocAttr,bl,i64,smE];exact rfl));first|refine c_bt ?_|refine c_bf ?_|refine zq ?_|(case hg=>assumption))))
     ((first|apply g_ret|apply g_end);case hres => (simp only [smR];simp (disch := first|omega|exact kD rfl|exact kX rfl) only [smY,simprocAttr,bl,i64,smE];exact rfl))
     simp (disch := first|omega|exact kD rfl|exact kX rfl) only [smY,simprocAttr,bl,i64,smE]
    ·(repeat (first|apply zO (by decide +kernel)|apply zP (by decide +kernel)|(apply zS;(case h=>constructor<;>decide))|((first|apply l_go rfl|apply c_dec|apply zT rfl (by decide) rfl);(case hs=>(simp (disch := first|omega|exact kD rfl|exact kX rfl) only [smY,simprocAttr,bl,i64,smE];exact rfl));first|refine c_bt ?_|refine c_bf ?_|refine zq ?_|(case hg=>assumption))))
     refine ⟨⟨i + 1,by omega,fun j hji => ?_⟩,?_,by simp only;omega⟩
     ·rcases Nat.lt_or_ge j i with h5 | h5
      ·exact hj j h5
      ·obtain rfl : j = i := by omega
       omega
     ·(refine Sub.plain ?_;simp only [smF,dg,renL,renLs,simprocAttr,bl,i64,smE])
  ·obtain rfl : i = xs.length := by omega
   rw [dec_t (p := ∀ x ∈ xs,-200 ≤ x ∧ x ≤ 200) (fun x hx => by
    obtain ⟨j,hj1,rfl⟩ := List.getElem_of_mem hx
    have := hj j hj1
    rwa [show xs.getD j 0 = xs[j] by simp [hj1]] at this)]
   (repeat (first|apply zO (by decide +kernel)|apply zP (by decide +kernel)|(apply zS;(case h=>constructor<;>decide))|((first|apply l_go rfl|apply c_dec|apply zT rfl (by decide) rfl);(case hs=>(simp (disch := first|omega|exact kD rfl|exact kX rfl) only [smY,simprocAttr,bl,i64,smE];exact rfl));first|refine c_bt ?_|refine c_bf ?_|refine zq ?_|(case hg=>assumption))))
   ((first|apply g_ret|apply g_end);case hres => (simp only [smR];simp (disch := first|omega|exact kD rfl|exact kX rfl) only [smY,simprocAttr,bl,i64,smE];exact rfl))
   simp (disch := first|omega|exact kD rfl|exact kX rfl) only [smY,simprocAttr,bl,i64,smE]
theorem check_good (lv : Int) (xs : List Int) (hlv : -9223372036854775808 ≤ lv ∧ lv ≤ 9223372036854775807) (hl : xs.length ≤ 1000000) : PureGood Tryz.prog 24 [.agg [i64 lv,.sl xs.length (ec xs)]] (i64 (etaErr lv xs)) := by
 unfold etaErr
 by_cases h1 : 1 ≤ lv ∧ lv ≤ 600
 ·rw [if_pos h1]
  obtain ⟨n,rfl⟩ : ∃ n : Nat,lv = n := ⟨lv.toNat,by omega⟩
  rw [Int.toNat_natCast]
  have g1 := divisors_good (n := n) (by omega) (by omega)
  have g2 := fits_good xs hl
  have l1 := divN_length_le n (by omega)
  by_cases h2 : xs.length = (divN n).length
  ·rw [if_pos h2]
   by_cases h3 : ∀ x ∈ xs,-200 ≤ x ∧ x ≤ 200
   ·rw [if_pos h3]
    rw [dec_t h3] at g2
    rw [i64,bl] at *
    refine good_of_lwp mix Tryz.func24 rfl (by decide) (nt := 23) rfl (rs := [.tmp 2]) rfl (nle rfl) ?_
    (repeat (first|apply zO (by decide +kernel)|apply zP (by decide +kernel)|(apply zS;(case h=>constructor<;>decide))|((first|apply l_go rfl|apply c_dec|apply zT rfl (by decide) rfl);(case hs=>(simp (disch := first|omega|exact kD rfl|exact kX rfl) only [smY,simprocAttr,bl,i64,smE];exact rfl));first|refine c_bt ?_|refine c_bf ?_|refine zq ?_|(case hg=>assumption))))
    ((first|apply g_ret|apply g_end);case hres => (simp only [smR];simp (disch := first|omega|exact kD rfl|exact kX rfl) only [smY,simprocAttr,bl,i64,smE];exact rfl))
    simp (disch := first|omega|exact kD rfl|exact kX rfl) only [smY,simprocAttr,bl,i64,smE]
   ·rw [if_neg h3]
    rw [dec_f h3] at g2
    rw [i64,bl] at *
    refine good_of_lwp mix Tryz.func24 rfl (by decide) (nt := 23) rfl (rs := [.tmp 2]) rfl (nle rfl) ?_
    (repeat (first|apply zO (by decide +kernel)|apply zP (by decide +kernel)|(apply zS;(case h=>constructor<;>decide))|((first|apply l_go rfl|apply c_dec|apply zT rfl (by decide) rfl);(case hs=>(simp (disch := first|omega|exact kD rfl|exact kX rfl) only [smY,simprocAttr,bl,i64,smE];exact rfl));first|refine c_bt ?_|refine c_bf ?_|refine zq ?_|(case hg=>assumption))))
    ((first|apply g_ret|apply g_end);case hres => (simp only [smR];simp (disch := first|omega|exact kD rfl|exact kX rfl) only [smY,simprocAttr,bl,i64,smE];exact rfl))
    simp (disch := first|omega|exact kD rfl|exact kX rfl) only [smY,simprocAttr,bl,i64,smE]
  ·rw [if_neg h2]
   rw [i64] at *
   refine good_of_lwp mix Tryz.func24 rfl (by decide) (nt := 23) rfl (rs := [.tmp 2]) rfl (nle rfl) ?_
   (repeat (first|apply zO (by decide +kernel)|apply zP (by decide +kernel)|(apply zS;(case h=>constructor<;>decide))|((first|apply l_go rfl|apply c_dec|apply zT rfl (by decide) rfl);(case hs=>(simp (disch := first|omega|exact kD rfl|exact kX rfl) only [smY,simprocAttr,bl,i64,smE];exact rfl));first|refine c_bt ?_|refine c_bf ?_|refine zq ?_|(case hg=>assumption))))
   ((first|apply g_ret|apply g_end);case hres => (simp only [smR];simp (disch := first|omega|exact kD rfl|exact kX rfl) only [smY,simprocAttr,bl,i64,smE];exact rfl))
   simp (disch := first|omega|exact kD rfl|exact kX rfl) only [smY,simprocAttr,bl,i64,smE]
 ·rw [if_neg h1]
  by_cases h2 : lv < 1
  ·refine good_of_lwp mix Tryz.func24 rfl (by decide) (nt := 23) rfl (rs := [.tmp 2]) rfl (nle rfl) ?_
   (repeat (first|apply zO (by decide +kernel)|apply zP (by decide +kernel)|(apply zS;(case h=>constructor<;>decide))|((first|apply l_go rfl|apply c_dec|apply zT rfl (by decide) rfl);(case hs=>(simp (disch := first|omega|exact kD rfl|exact kX rfl) only [smY,simprocAttr,bl,i64,smE];exact rfl));first|refine c_bt ?_|refine c_bf ?_|refine zq ?_|(case hg=>assumption))))
   ((first|apply g_ret|apply g_end);case hres => (simp only [smR];simp (disch := first|omega|exact kD rfl|exact kX rfl) only [smY,simprocAttr,bl,i64,smE];exact rfl))
   simp (disch := first|omega|exact kD rfl|exact kX rfl) only [smY,simprocAttr,bl,i64,smE]
  ·refine good_of_lwp mix Tryz.func24 rfl (by decide) (nt := 23) rfl (rs := [.tmp 2]) rfl (nle rfl) ?_
   (repeat (first|apply zO (by decide +kernel)|apply zP (by decide +kernel)|(apply zS;(case h=>constructor<;>decide))|((first|apply l_go rfl|apply c_dec|apply zT rfl (by decide) rfl);(case hs=>(simp (disch := first|omega|exact kD rfl|exact kX rfl) only [smY,simprocAttr,bl,i64,smE];exact rfl));first|refine c_bt ?_|refine c_bf ?_|refine zq ?_|(case hg=>assumption))))
   ((first|apply g_ret|apply g_end);case hres => (simp only [smR];simp (disch := first|omega|exact kD rfl|exact kX rfl) only [smY,simprocAttr,bl,i64,smE];exact rfl))
   simp (disch := first|omega|exact kD rfl|exact kX rfl) only [smY,simprocAttr,bl,i64,smE]
theorem sums_good {n : Nat} {xs : List Int} (h : EtaOk n xs) : PureGood Tryz.prog 63 [.agg [i64 n,.sl xs.length (ec xs)]] (.tup [i64 (psum (exS xs) xs.length),i64 (psum (exL n xs) xs.length),i64 (psum (exH n xs) xs.length)]) := by
 have n1 := h.n1
 have n2 := h.n2
 have hl := h.len
 have l1 := h.len_le
 have g1 := divisors_good n1 n2
 have dl := divL_length n
 rw [← hl] at g1 dl
 rw [i64] at *
 refine good_of_lwp mix Tryz.func63 rfl (by decide) (nt := 48) rfl (rs := [.tmp 2,.tmp 3,.tmp 4]) rfl (nle rfl) ?_
 (repeat (first|apply zO (by decide +kernel)|apply zP (by decide +kernel)|(apply zS;(case h=>constructor<;>decide))|((first|apply l_go rfl|apply c_dec|apply zT rfl (by decide) rfl);(case hs=>(simp (disch := first|omega|exact kD rfl|exact kX rfl) only [smY,simprocAttr,bl,i64,smE];exact rfl));first|refine c_bt ?_|refine c_bf ?_|refine zq ?_|(case hg=>assumption))))
 refine w_loop (α := {i : Nat // i ≤ xs.length}) (fun i => st 48 (lk [(1,.ptr 0 0),(2,i64 (psum (exS xs) i.1)),(3,i64 (psum (exL n xs) i.1)),(4,i64 (psum (exH n xs) i.1)),(9,.sl xs.length (ec (divL n))),(10,i64 xs.length),(11,i64 i.1)]) (lkH [(0,⟨24,[i64 n,.sl xs.length (ec xs)],false⟩)]) 1) (fun i => xs.length - i.1) ⟨0,by simp⟩ ?_ ?_
 ·(refine Sub.heap1 0 ?_ (by simp only [smF,dg,renL,renLs,simprocAttr,bl,i64,smE];exact rfl) ?_ ?_;all_goals (first | exact dgs_plain _ | with_reducible rfl | (simp only [smF,dg,renL,renLs,simprocAttr,bl,i64,smE];done) | (simp only [smF,dg,renL,renLs,simprocAttr,bl,i64,smE]) | skip))
  all_goals (first | exact ⟨rfl,rfl⟩ | simp [psum])
 ·rintro ⟨i,hi⟩
  simp only [st]
  by_cases h1 : i < xs.length
  ·have b0 := h.s0 hi
   have b1 := h.s1 hi
   have b2 := h.s2 hi
   have c0 := h.get i
   have c1 := h.low h1
   have c2 := h.high h1
   obtain ⟨d,e1,e2,e3,e4,e5⟩ := divL_get (n := n) (k := i) (hl ▸ h1)
   have e0 : psum (exS xs) (i + 1) = psum (exS xs) i + xs.getD i 0 := rfl
   have e6 : psum (exL n xs) (i + 1) = psum (exL n xs) i + (d : Int) * xs.getD i 0 := by rw [psum,exL,e1]
   have e7 : psum (exH n xs) (i + 1) = psum (exH n xs) i + ((n / d : Nat) : Int) * xs.getD i 0 := by rw [psum,exH,e1];rfl
   rw [exL,e1] at c1
   rw [exH,e1,ediv_nat] at c2
   have e8 : n / d ≤ n := Nat.div_le_self _ _
   generalize hq : n / d = q at *
   generalize psum (exS xs) i = s0 at *
   generalize psum (exL n xs) i = s1 at *
   generalize psum (exH n xs) i = s2 at *
   generalize hx : xs.getD i 0 = x at *
   (repeat (first|apply zO (by decide +kernel)|apply zP (by decide +kernel)|(apply zS;(case h=>constructor<;>decide))|((first|apply l_go rfl|apply c_dec|apply zT rfl (by decide) rfl);(case hs=>(simp (disch := first|omega|exact kD rfl|exact kX rfl) only [smY,simprocAttr,bl,i64,smE,e1,hx,hq];exact rfl));first|refine c_bt ?_|refine c_bf ?_|refine zq ?_|(case hg=>assumption))))
   refine ⟨⟨i + 1,by omega⟩,?_,by simp only;omega⟩
   (refine Sub.heap1 0 ?_ (by simp only [smF,dg,renL,renLs,simprocAttr,bl,i64,smE];exact rfl) ?_ ?_;all_goals (first | exact dgs_plain _ | with_reducible rfl | (simp only [smF,dg,renL,renLs,simprocAttr,bl,i64,smE];done) | (simp only [smF,dg,renL,renLs,simprocAttr,bl,i64,smE]) | skip))
   all_goals (first | exact ⟨rfl,rfl⟩ | (simp only [e0,e6,e7,true_and];done))
  ·obtain rfl : i = xs.length := by omega
   (repeat (first|apply zO (by decide +kernel)|apply zP (by decide +kernel)|(apply zS;(case h=>constructor<;>decide))|((first|apply l_go rfl|apply c_dec|apply zT rfl (by decide) rfl);(case hs=>(simp (disch := first|omega|exact kD rfl|exact kX rfl) only [smY,simprocAttr,bl,i64,smE];exact rfl));first|refine c_bt ?_|refine c_bf ?_|refine zq ?_|(case hg=>assumption))))
   ((first|apply g_ret|apply g_end);case hres => (simp only [smR];simp (disch := first|omega|exact kD rfl|exact kX rfl) only [smY,simprocAttr,bl,i64,smE];exact rfl))
   simp (disch := first|omega|exact kD rfl|exact kX rfl) only [smY,simprocAttr,bl,i64,smE]
end Go.Proofs.YtbajpjjbaffnnaaGreat
namespace Go.Proofs.YtbajpjjbaffnnaaGreat
open Go Go.Lg Go.Num
set_option maxRecDepth 100000
set_option maxHeartbeats 4000000
attribute [local irreducible] Go.Lg.lrun Go.Lg.lwp Go.Lg.exThen Go.Lg.exBlk Go.Lg.keep Go.Lg.goodPost ec
theorem etaOk_of {lv : Int} {xs : List Int} (h : etaErr lv xs = 0) : ∃ n : Nat,lv = n ∧ EtaOk n xs := by
 unfold etaErr at h
 split at h
 ·rename_i h1
  split at h
  ·rename_i h2
   split at h
   ·rename_i h3
    exact ⟨lv.toNat,by omega,by omega,by omega,h2,h3⟩
   ·cases h
  ·cases h
 ·cases h
theorem etaErr_ok {n : Nat} {xs : List Int} (h : EtaOk n xs) : etaErr n xs = 0 := by
 have h1 := h.n1
 have h2 := h.n2
 unfold etaErr
 rw [if_pos (by omega),Int.toNat_natCast,if_pos h.len,if_pos h.small]
theorem rcheck_good (lv : Int) (xs : List Int) (hlv : -9223372036854775808 ≤ lv ∧ lv ≤ 9223372036854775807) (hl : xs.length ≤ 1000000) : PureGood Tryz.prog 23 [.agg [i64 lv,.sl xs.length (ec xs)]] (i64 (etaErr lv xs)) := by
 unfold etaErr
 by_cases h1 : 1 ≤ lv ∧ lv ≤ 600
 ·rw [if_pos h1]
  obtain ⟨n,rfl⟩ : ∃ n : Nat,lv = n := ⟨lv.toNat,by omega⟩
  rw [Int.toNat_natCast]
  have g1 := rdivisors_good (n := n) (by omega) (by omega)
  have l1 := divN_length_le n (by omega)
  by_cases h2 : xs.length = (divN n).length
  ·rw [if_pos h2]
   rw [i64] at *
   refine good_of_lwp mix Tryz.func23 rfl (by decide) (nt := 41) rfl (rs := [.tmp 2]) rfl (nle rfl) ?_
   (repeat (first|apply zO (by decide +kernel)|apply zP (by decide +kernel)|(apply zS;(case h=>constructor<;>decide))|((first|apply l_go rfl|apply c_dec|apply zT rfl (by decide) rfl);(case hs=>(simp (disch := first|omega|exact kD rfl|exact kX rfl) only [smY,simprocAttr,bl,i64,smE];exact rfl));first|refine c_bt ?_|refine c_bf ?_|refine zq ?_|(case hg=>assumption))))
   refine w_loop (α := {i : Nat // i ≤ xs.length ∧ ∀ j,j < i → -200 ≤ xs.getD j 0 ∧ xs.getD j 0 ≤ 200}) (fun i => st 41 (lk [(1,.ptr 0 0),(2,i64 0),(3,i64 i.1)]) (lkH [(0,⟨24,[i64 n,.sl xs.length (ec xs)],false⟩)]) 1) (fun i => xs.length - i.1) ⟨0,by simp⟩ ?_ ?_
   ·(refine Sub.heap1 0 ?_ (by simp only [smF,dg,renL,renLs,simprocAttr,bl,i64,smE];exact rfl) ?_ ?_;all_goals (first | exact dgs_plain _ | with_reducible rfl | (simp only [smF,dg,renL,renLs,simprocAttr,bl,i64,smE];done) | (simp only [smF,dg,renL,renLs,simprocAttr,bl,i64,smE]) | skip))
    all_goals (first | exact ⟨rfl,rfl⟩ | simp [psum])
   ·rintro ⟨i,hi,hj⟩
    simp only [st]
    by_cases h1 : i < xs.length
    ·have hm : xs.getD i 0 ∈ xs := by
      have e : xs.getD i 0 = xs[i] := by simp [h1]
      rw [e];exact List.getElem_mem h1
     by_cases h3 : xs.getD i 0 < -200
     ·rw [if_neg (c := ∀ x ∈ xs,-200 ≤ x ∧ x ≤ 200) (fun h => by have := h _ hm;omega)]
      (repeat (first|apply zO (by decide +kernel)|apply zP (by decide +kernel)|(apply zS;(case h=>constructor<;>decide))|((first|apply l_go rfl|apply c_dec|apply zT rfl (by decide) rfl);(case hs=>(simp (disch := first|omega|exact kD rfl|exact kX rfl) only [smY,simprocAttr,bl,i64,smE];exact rfl));first|refine c_bt ?_|refine c_bf ?_|refine zq ?_|(case hg=>assumption))))
      ((first|apply g_ret|apply g_end);case hres => (simp only [smR];simp (disch := first|omega|exact kD rfl|exact kX rfl) only [smY,simprocAttr,bl,i64,smE];exact rfl))
      simp (disch := first|omega|exact kD rfl|exact kX rfl) only [smY,simprocAttr,bl,i64,smE]
     ·by_cases h4 : 200 < xs.getD i 0
      ·rw [if_neg (c := ∀ x ∈ xs,-200 ≤ x ∧ x ≤ 200) (fun h => by have := h _ hm;omega)]
       (repeat (first|apply zO (by decide +kernel)|apply zP (by decide +kernel)|(apply zS;(case h=>constructor<;>decide))|((first|apply l_go rfl|apply c_dec|apply zT rfl (by decide) rfl);(case hs=>(simp (disch := first|omega|exact kD rfl|exact kX rfl) only [smY,simprocAttr,bl,i64,smE];exact rfl));first|refine c_bt ?_|refine c_bf ?_|refine zq ?_|(case hg=>assumption))))
       ((first|apply g_ret|apply g_end);case hres => (simp only [smR];simp (disch := first|omega|exact kD rfl|exact kX rfl) only [smY,simprocAttr,bl,i64,smE];exact rfl))
       simp (disch := first|omega|exact kD rfl|exact kX rfl) only [smY,simprocAttr,bl,i64,smE]
      ·(repeat (first|apply zO (by decide +kernel)|apply zP (by decide +kernel)|(apply zS;(case h=>constructor<;>decide))|((first|apply l_go rfl|apply c_dec|apply zT rfl (by decide) rfl);(case hs=>(simp (disch := first|omega|exact kD rfl|exact kX rfl) only [smY,simprocAttr,bl,i64,smE];exact rfl));first|refine c_bt ?_|refine c_bf ?_|refine zq ?_|(case hg=>assumption))))
       refine ⟨⟨i + 1,by omega,fun j hji => ?_⟩,?_,by simp only;omega⟩
       ·rcases Nat.lt_or_ge j i with h5 | h5
        ·exact hj j h5
        ·obtain rfl : j = i := by omega
         omega
       ·(refine Sub.heap1 0 ?_ (by simp only [smF,dg,renL,renLs,simprocAttr,bl,i64,smE];exact rfl) ?_ ?_;all_goals (first | exact dgs_plain _ | with_reducible rfl | (simp only [smF,dg,renL,renLs,simprocAttr,bl,i64,smE];done) | (simp only [smF,dg,renL,renLs,simprocAttr,bl,i64,smE]) | skip))
        all_goals (try exact ⟨rfl,rfl⟩)
    ·obtain rfl : i = xs.length := by omega
     rw [if_pos (c := ∀ x ∈ xs,-200 ≤ x ∧ x ≤ 200) (fun x hx => by
      obtain ⟨j,hj1,rfl⟩ := List.getElem_of_mem hx
      have := hj j hj1
      rwa [show xs.getD j 0 = xs[j] by simp [hj1]] at this)]
     (repeat (first|apply zO (by decide +kernel)|apply zP (by decide +kernel)|(apply zS;(case h=>constructor<;>decide))|((first|apply l_go rfl|apply c_dec|apply zT rfl (by decide) rfl);(case hs=>(simp (disch := first|omega|exact kD rfl|exact kX rfl) only [smY,simprocAttr,bl,i64,smE];exact rfl));first|refine c_bt ?_|refine c_bf ?_|refine zq ?_|(case hg=>assumption))))
     ((first|apply g_ret|apply g_end);case hres => (simp only [smR];simp (disch := first|omega|exact kD rfl|exact kX rfl) only [smY,simprocAttr,bl,i64,smE];exact rfl))
     simp (disch := first|omega|exact kD rfl|exact kX rfl) only [smY,simprocAttr,bl,i64,smE]
  ·rw [if_neg h2]
   rw [i64] at *
   refine good_of_lwp mix Tryz.func23 rfl (by decide) (nt := 41) rfl (rs := [.tmp 2]) rfl (nle rfl) ?_
   (repeat (first|apply zO (by decide +kernel)|apply zP (by decide +kernel)|(apply zS;(case h=>constructor<;>decide))|((first|apply l_go rfl|apply c_dec|apply zT rfl (by decide) rfl);(case hs=>(simp (disch := first|omega|exact kD rfl|exact kX rfl) only [smY,simprocAttr,bl,i64,smE];exact rfl));first|refine c_bt ?_|refine c_bf ?_|refine zq ?_|(case hg=>assumption))))
   ((first|apply g_ret|apply g_end);case hres => (simp only [smR];simp (disch := first|omega|exact kD rfl|exact kX rfl) only [smY,simprocAttr,bl,i64,smE];exact rfl))
   simp (disch := first|omega|exact kD rfl|exact kX rfl) only [smY,simprocAttr,bl,i64,smE]
 ·rw [if_neg h1]
  by_cases h2 : lv < 1
  ·refine good_of_lwp mix Tryz.func23 rfl (by decide) (nt := 41) rfl (rs := [.tmp 2]) rfl (nle rfl) ?_
   (repeat (first|apply zO (by decide +kernel)|apply zP (by decide +kernel)|(apply zS;(case h=>constructor<;>decide))|((first|apply l_go rfl|apply c_dec|apply zT rfl (by decide) rfl);(case hs=>(simp (disch := first|omega|exact kD rfl|exact kX rfl) only [smY,simprocAttr,bl,i64,smE];exact rfl));first|refine c_bt ?_|refine c_bf ?_|refine zq ?_|(case hg=>assumption))))
   ((first|apply g_ret|apply g_end);case hres => (simp only [smR];simp (disch := first|omega|exact kD rfl|exact kX rfl) only [smY,simprocAttr,bl,i64,smE];exact rfl))
   simp (disch := first|omega|exact kD rfl|exact kX rfl) only [smY,simprocAttr,bl,i64,smE]
  ·refine good_of_lwp mix Tryz.func23 rfl (by decide) (nt := 41) rfl (rs := [.tmp 2]) rfl (nle rfl) ?_
   (repeat (first|apply zO (by decide +kernel)|apply zP (by decide +kernel)|(apply zS;(case h=>constructor<;>decide))|((first|apply l_go rfl|apply c_dec|apply zT rfl (by decide) rfl);(case hs=>(simp (disch := first|omega|exact kD rfl|exact kX rfl) only [smY,simprocAttr,bl,i64,smE];exact rfl));first|refine c_bt ?_|refine c_bf ?_|refine zq ?_|(case hg=>assumption))))
   ((first|apply g_ret|apply g_end);case hres => (simp only [smR];simp (disch := first|omega|exact kD rfl|exact kX rfl) only [smY,simprocAttr,bl,i64,smE];exact rfl))
   simp (disch := first|omega|exact kD rfl|exact kX rfl) only [smY,simprocAttr,bl,i64,smE]
theorem rsum1_good {n : Nat} {xs : List Int} (h : EtaOk n xs) : PureGood Tryz.prog 62 [.agg [i64 n,.sl xs.length (ec xs)],i64 1] (i64 (psum (exL n xs) xs.length)) := by
 have n1 := h.n1
 have n2 := h.n2
 have hl := h.len
 have l1 := h.len_le
 have g1 := rdivisors_good n1 n2
 have dl := divL_length n
 rw [← hl] at g1 dl
 rw [i64] at *
 refine good_of_lwp mix Tryz.func62 rfl (by decide) (nt := 57) rfl (rs := [.tmp 4]) rfl (nle rfl) ?_
 (repeat (first|apply zO (by decide +kernel)|apply zP (by decide +kernel)|(apply zS;(case h=>constructor<;>decide))|((first|apply l_go rfl|apply c_dec|apply zT rfl (by decide) rfl);(case hs=>(simp (disch := first|omega|exact kD rfl|exact kX rfl) only [smY,simprocAttr,bl,i64,smE];exact rfl));first|refine c_bt ?_|refine c_bf ?_|refine zq ?_|(case hg=>assumption))))
 refine w_loop (α := {i : Nat // i ≤ xs.length}) (fun i => st 57 (lk [(2,.ptr 0 0),(1,i64 1),(4,i64 0),(5,.sl xs.length (ec (divL n))),(6,i64 (psum (exL n xs) i.1)),(7,i64 i.1)]) (lkH [(0,⟨24,[i64 n,.sl xs.length (ec xs)],false⟩)]) 1) (fun i => xs.length - i.1) ⟨0,by simp⟩ ?_ ?_
 ·(refine Sub.heap1 0 ?_ (by simp only [smF,dg,renL,renLs,simprocAttr,bl,i64,smE];exact rfl) ?_ ?_;all_goals (first | exact dgs_plain _ | with_reducible rfl | (simp only [smF,dg,renL,renLs,simprocAttr,bl,i64,smE];done) | (simp only [smF,dg,renL,renLs,simprocAttr,bl,i64,smE]) | skip))
  all_goals (first | exact ⟨rfl,rfl⟩ | simp [psum])
 ·rintro ⟨i,hi⟩
  simp only [st]
  by_cases h1 : i < xs.length
  ·have b0 := h.s1 hi
   have c0 := h.get i
   have c1 := h.low h1
   have c2 := h.high h1
   obtain ⟨d,e1,e2,e3,e4,e5⟩ := divL_get (n := n) (k := i) (hl ▸ h1)
   have e0 : psum (exL n xs) (i + 1) = psum (exL n xs) i + (d : Int) * xs.getD i 0 := by first | rfl | (rw [psum,exL,e1]) | (rw [psum,exH,e1];rfl)
   rw [exL,e1] at c1
   rw [exH,e1,ediv_nat] at c2
   have e8 : n / d ≤ n := Nat.div_le_self _ _
   generalize hq : n / d = q at *
   generalize psum (exL n xs) i = s0 at *
   generalize hx : xs.getD i 0 = x at *
   (repeat (first|apply zO (by decide +kernel)|apply zP (by decide +kernel)|(apply zS;(case h=>constructor<;>decide))|((first|apply l_go rfl|apply c_dec|apply zT rfl (by decide) rfl);(case hs=>(simp (disch := first|omega|exact kD rfl|exact kX rfl) only [smY,simprocAttr,bl,i64,smE,e1,hx,hq];exact rfl));first|refine c_bt ?_|refine c_bf ?_|refine zq ?_|(case hg=>assumption))))
   refine ⟨⟨i + 1,by omega⟩,?_,by simp only;omega⟩
   (refine Sub.heap1 0 ?_ (by simp only [smF,dg,renL,renLs,simprocAttr,bl,i64,smE];exact rfl) ?_ ?_;all_goals (first | exact dgs_plain _ | with_reducible rfl | (simp only [smF,dg,renL,renLs,simprocAttr,bl,i64,smE];done) | (simp only [smF,dg,renL,renLs,simprocAttr,bl,i64,smE]) | skip))
   all_goals (first | exact ⟨rfl,rfl⟩ | (simp only [e0,true_and];done))
  ·obtain rfl : i = xs.length := by omega
   (repeat (first|apply zO (by decide +kernel)|apply zP (by decide +kernel)|(apply zS;(case h=>constructor<;>decide))|((first|apply l_go rfl|apply c_dec|apply zT rfl (by decide) rfl);(case hs=>(simp (disch := first|omega|exact kD rfl|exact kX rfl) only [smY,simprocAttr,bl,i64,smE];exact rfl));first|refine c_bt ?_|refine c_bf ?_|refine zq ?_|(case hg=>assumption))))
   ((first|apply g_ret|apply g_end);case hres => (simp only [smR];simp (disch := first|omega|exact kD rfl|exact kX rfl) only [smY,simprocAttr,bl,i64,smE];exact rfl))
   simp (disch := first|omega|exact kD rfl|exact kX rfl) only [smY,simprocAttr,bl,i64,smE]
theorem weight_good (lv : Int) (xs : List Int) (hlv : -9223372036854775808 ≤ lv ∧ lv ≤ 9223372036854775807) (hl : xs.length ≤ 1000000) : PureGood Tryz.prog 41 [.agg [i64 lv,.sl xs.length (ec xs)]] (.tup [i64 (if etaErr lv xs = 0 then wgtV xs else 0),i64 (if etaErr lv xs = 0 then wgtE xs else etaErr lv xs)]) := by
 have g1 := check_good lv xs hlv hl
 by_cases h : etaErr lv xs = 0
 ·rw [if_pos h,if_pos h]
  rw [h] at g1
  obtain ⟨n,rfl,ok⟩ := etaOk_of h
  have g2 := sums_good ok
  have b := ok.s0 (Nat.le_refl _)
  have t1 := tdiv_bd 2 b
  unfold wgtV wgtE
  generalize psum (exS xs) xs.length = s0 at *
  rw [i64] at *
  by_cases hs : s0.tmod 2 = 0
  ·rw [if_pos hs,if_pos hs]
   refine good_of_lwp mix Tryz.func41 rfl (by decide) (nt := 24) rfl (rs := [.tmp 2,.tmp 3]) rfl (nle rfl) ?_
   (repeat (first|apply zO (by decide +kernel)|apply zP (by decide +kernel)|(apply zS;(case h=>constructor<;>decide))|((first|apply l_go rfl|apply c_dec|apply zT rfl (by decide) rfl);(case hs=>(simp (disch := first|omega|exact kD rfl|exact kX rfl) only [smY,simprocAttr,bl,i64,smE];exact rfl));first|refine c_bt ?_|refine c_bf ?_|refine zq ?_|(case hg=>assumption))))
   ((first|apply g_ret|apply g_end);case hres => (simp only [smR];simp (disch := first|omega|exact kD rfl|exact kX rfl) only [smY,simprocAttr,bl,i64,smE];exact rfl))
   simp (disch := first|omega|exact kD rfl|exact kX rfl) only [smY,simprocAttr,bl,i64,smE]
  ·rw [if_neg hs,if_neg hs]
   refine good_of_lwp mix Tryz.func41 rfl (by decide) (nt := 24) rfl (rs := [.tmp 2,.tmp 3]) rfl (nle rfl) ?_
   (repeat (first|apply zO (by decide +kernel)|apply zP (by decide +kernel)|(apply zS;(case h=>constructor<;>decide))|((first|apply l_go rfl|apply c_dec|apply zT rfl (by decide) rfl);(case hs=>(simp (disch := first|omega|exact kD rfl|exact kX rfl) only [smY,simprocAttr,bl,i64,smE];exact rfl));first|refine c_bt ?_|refine c_bf ?_|refine zq ?_|(case hg=>assumption))))
   ((first|apply g_ret|apply g_end);case hres => (simp only [smR];simp (disch := first|omega|exact kD rfl|exact kX rfl) only [smY,simprocAttr,bl,i64,smE];exact rfl))
   simp (disch := first|omega|exact kD rfl|exact kX rfl) only [smY,simprocAttr,bl,i64,smE]
 ·rw [if_neg h,if_neg h]
  generalize etaErr lv xs = er at *
  rw [i64] at *
  refine good_of_lwp mix Tryz.func41 rfl (by decide) (nt := 24) rfl (rs := [.tmp 2,.tmp 3]) rfl (nle rfl) ?_
  (repeat (first|apply zO (by decide +kernel)|apply zP (by decide +kernel)|(apply zS;(case h=>constructor<;>decide))|((first|apply l_go rfl|apply c_dec|apply zT rfl (by decide) rfl);(case hs=>(simp (disch := first|omega|exact kD rfl|exact kX rfl) only [smY,simprocAttr,bl,i64,smE];exact rfl));first|refine c_bt ?_|refine c_bf ?_|refine zq ?_|(case hg=>assumption))))
  ((first|apply g_ret|apply g_end);case hres => (simp only [smR];simp (disch := first|omega|exact kD rfl|exact kX rfl) only [smY,simprocAttr,bl,i64,smE];exact rfl))
  simp (disch := first|omega|exact kD rfl|exact kX rfl) only [smY,simprocAttr,bl,i64,smE]
theorem modular_good {n : Nat} {xs : List Int} (h : EtaOk n xs) : PureGood Tryz.prog 98 [.agg [i64 n,.sl xs.length (ec xs)]] (bl (mods n xs)) := by
 have g2 := sums_good h
 unfold mods
 generalize psum (exS xs) xs.length = s0 at *
 generalize psum (exL n xs) xs.length = s1 at *
 generalize psum (exH n xs) xs.length = s2 at *
 rw [i64] at *
 by_cases m0 : s0.tmod 2 = 0
 ·by_cases m1 : s1.tmod 24 = 0
  ·by_cases m2 : s2.tmod 24 = 0
   ·rw [dec_t (p := s0.tmod 2 = 0 ∧ s1.tmod 24 = 0 ∧ s2.tmod 24 = 0) ⟨m0,m1,m2⟩]
    refine good_of_lwp mix Tryz.func98 rfl (by decide) (nt := 25) rfl (rs := [.tmp 2]) rfl (nle rfl) ?_
    (repeat (first|apply zO (by decide +kernel)|apply zP (by decide +kernel)|(apply zS;(case h=>constructor<;>decide))|((first|apply l_go rfl|apply c_dec|apply zT rfl (by decide) rfl);(case hs=>(simp (disch := first|omega|exact kD rfl|exact kX rfl) only [smY,simprocAttr,bl,i64,smE];exact rfl));first|refine c_bt ?_|refine c_bf ?_|refine zq ?_|(case hg=>assumption))))
    ((first|apply g_ret|apply g_end);case hres => (simp only [smR];simp (disch := first|omega|exact kD rfl|exact kX rfl) only [smY,simprocAttr,bl,i64,smE];exact rfl))
    simp (disch := first|omega|exact kD rfl|exact kX rfl) only [smY,simprocAttr,bl,i64,smE]
   ·rw [dec_f (p := s0.tmod 2 = 0 ∧ s1.tmod 24 = 0 ∧ s2.tmod 24 = 0) (fun h => m2 h.2.2)]
    refine good_of_lwp mix Tryz.func98 rfl (by decide) (nt := 25) rfl (rs := [.tmp 2]) rfl (nle rfl) ?_
    (repeat (first|apply zO (by decide +kernel)|apply zP (by decide +kernel)|(apply zS;(case h=>constructor<;>decide))|((first|apply l_go rfl|apply c_dec|apply zT rfl (by decide) rfl);(case hs=>(simp (disch := first|omega|exact kD rfl|exact kX rfl) only [smY,simprocAttr,bl,i64,smE];exact rfl));first|refine c_bt ?_|refine c_bf ?_|refine zq ?_|(case hg=>assumption))))
    ((first|apply g_ret|apply g_end);case hres => (simp only [smR];simp (disch := first|omega|exact kD rfl|exact kX rfl) only [smY,simprocAttr,bl,i64,smE];exact rfl))
    simp (disch := first|omega|exact kD rfl|exact kX rfl) only [smY,simprocAttr,bl,i64,smE]
  ·rw [dec_f (p := s0.tmod 2 = 0 ∧ s1.tmod 24 = 0 ∧ s2.tmod 24 = 0) (fun h => m1 h.2.1)]
   refine good_of_lwp mix Tryz.func98 rfl (by decide) (nt := 25) rfl (rs := [.tmp 2]) rfl (nle rfl) ?_
   (repeat (first|apply zO (by decide +kernel)|apply zP (by decide +kernel)|(apply zS;(case h=>constructor<;>decide))|((first|apply l_go rfl|apply c_dec|apply zT rfl (by decide) rfl);(case hs=>(simp (disch := first|omega|exact kD rfl|exact kX rfl) only [smY,simprocAttr,bl,i64,smE];exact rfl));first|refine c_bt ?_|refine c_bf ?_|refine zq ?_|(case hg=>assumption))))
   try refine l_cskip rfl (by decide) rfl ?_
   try (repeat (first|apply zO (by decide +kernel)|apply zP (by decide +kernel)|(apply zS;(case h=>constructor<;>decide))|((first|apply l_go rfl|apply c_dec|apply zT rfl (by decide) rfl);(case hs=>(simp (disch := first|omega|exact kD rfl|exact kX rfl) only [smY,simprocAttr,bl,i64,smE];exact rfl));first|refine c_bt ?_|refine c_bf ?_|refine zq ?_|(case hg=>assumption))))
   ((first|apply g_ret|apply g_end);case hres => (simp only [smR];simp (disch := first|omega|exact kD rfl|exact kX rfl) only [smY,simprocAttr,bl,i64,smE];exact rfl))
   simp (disch := first|omega|exact kD rfl|exact kX rfl) only [smY,simprocAttr,bl,i64,smE]
 ·rw [dec_f (p := s0.tmod 2 = 0 ∧ s1.tmod 24 = 0 ∧ s2.tmod 24 = 0) (fun h => m0 h.1)]
  refine good_of_lwp mix Tryz.func98 rfl (by decide) (nt := 25) rfl (rs := [.tmp 2]) rfl (nle rfl) ?_
  (repeat (first|apply zO (by decide +kernel)|apply zP (by decide +kernel)|(apply zS;(case h=>constructor<;>decide))|((first|apply l_go rfl|apply c_dec|apply zT rfl (by decide) rfl);(case hs=>(simp (disch := first|omega|exact kD rfl|exact kX rfl) only [smY,simprocAttr,bl,i64,smE];exact rfl));first|refine c_bt ?_|refine c_bf ?_|refine zq ?_|(case hg=>assumption))))
  try refine l_cskip rfl (by decide) rfl ?_
  try (repeat (first|apply zO (by decide +kernel)|apply zP (by decide +kernel)|(apply zS;(case h=>constructor<;>decide))|((first|apply l_go rfl|apply c_dec|apply zT rfl (by decide) rfl);(case hs=>(simp (disch := first|omega|exact kD rfl|exact kX rfl) only [smY,simprocAttr,bl,i64,smE];exact rfl));first|refine c_bt ?_|refine c_bf ?_|refine zq ?_|(case hg=>assumption))))
  try refine l_cskip rfl (by decide) rfl ?_
  try (repeat (first|apply zO (by decide +kernel)|apply zP (by decide +kernel)|(apply zS;(case h=>constructor<;>decide))|((first|apply l_go rfl|apply c_dec|apply zT rfl (by decide) rfl);(case hs=>(simp (disch := first|omega|exact kD rfl|exact kX rfl) only [smY,simprocAttr,bl,i64,smE];exact rfl));first|refine c_bt ?_|refine c_bf ?_|refine zq ?_|(case hg=>assumption))))
  ((first|apply g_ret|apply g_end);case hres => (simp only [smR];simp (disch := first|omega|exact kD rfl|exact kX rfl) only [smY,simprocAttr,bl,i64,smE];exact rfl))
  simp (disch := first|omega|exact kD rfl|exact kX rfl) only [smY,simprocAttr,bl,i64,smE]
theorem Modular_good (lv : Int) (xs : List Int) (hlv : -9223372036854775808 ≤ lv ∧ lv ≤ 9223372036854775807) (hl : xs.length ≤ 1000000) : PureGood Tryz.prog 43 [.agg [i64 lv,.sl xs.length (ec xs)]] (.tup [bl (if etaErr lv xs = 0 then mods lv.toNat xs else false),i64 (etaErr lv xs)]) := by
 have g1 := check_good lv xs hlv hl
 by_cases h : etaErr lv xs = 0
 ·rw [if_pos h]
  rw [h] at g1 ⊢
  obtain ⟨n,rfl,ok⟩ := etaOk_of h
  have g2 := modular_good ok
  rw [Int.toNat_natCast]
  generalize mods n xs = m at *
  rw [i64,bl] at *
  refine good_of_lwp mix Tryz.func43 rfl (by decide) (nt := 12) rfl (rs := [.tmp 2,.tmp 3]) rfl (nle rfl) ?_
  (repeat (first|apply zO (by decide +kernel)|apply zP (by decide +kernel)|(apply zS;(case h=>constructor<;>decide))|((first|apply l_go rfl|apply c_dec|apply zT rfl (by decide) rfl);(case hs=>(simp (disch := first|omega|exact kD rfl|exact kX rfl) only [smY,simprocAttr,bl,i64,smE];exact rfl));first|refine c_bt ?_|refine c_bf ?_|refine zq ?_|(case hg=>assumption))))
  ((first|apply g_ret|apply g_end);case hres => (simp only [smR];simp (disch := first|omega|exact kD rfl|exact kX rfl) only [smY,simprocAttr,bl,i64,smE];exact rfl))
  simp (disch := first|omega|exact kD rfl|exact kX rfl) only [smY,simprocAttr,bl,i64,smE]
 ·rw [if_neg h]
  generalize etaErr lv xs = er at *
  rw [i64] at *
  refine good_of_lwp mix Tryz.func43 rfl (by decide) (nt := 12) rfl (rs := [.tmp 2,.tmp 3]) rfl (nle rfl) ?_
  (repeat (first|apply zO (by decide +kernel)|apply zP (by decide +kernel)|(apply zS;(case h=>constructor<;>decide))|((first|apply l_go rfl|apply c_dec|apply zT rfl (by decide) rfl);(case hs=>(simp (disch := first|omega|exact kD rfl|exact kX rfl) only [smY,simprocAttr,bl,i64,smE];exact rfl));first|refine c_bt ?_|refine c_bf ?_|refine zq ?_|(case hg=>assumption))))
  ((first|apply g_ret|apply g_end);case hres => (simp only [smR];simp (disch := first|omega|exact kD rfl|exact kX rfl) only [smY,simprocAttr,bl,i64,smE];exact rfl))
  simp (disch := first|omega|exact kD rfl|exact kX rfl) only [smY,simprocAttr,bl,i64,smE]
end Go.Proofs.YtbajpjjbaffnnaaGreat