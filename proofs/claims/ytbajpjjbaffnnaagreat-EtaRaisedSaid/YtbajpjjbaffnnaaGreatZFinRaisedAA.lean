/- Contracts of functions of the program, and what proves them (texts: E4 E5 E6 X3 X4 X5 X7 X8 OR). -/
import Derived.Test.YtbajpjjbaffnnaaGreatZBC
import Derived.Test.YtbajpjjbaffnnaaGreatZBD
import Derived.Test.YtbajpjjbaffnnaaGreatZBJ
import Derived.Test.YtbajpjjbaffnnaaGreatZBQ
import Derived.Test.YtbajpjjbaffnnaaGreatZBR
import Derived.Test.YtbajpjjbaffnnaaGreatZCC
import Derived.Test.YtbajpjjbaffnnaaGreatZCD
import Derived.Test.YtbajpjjbaffnnaaGreatZCE
import Derived.Test.YtbajpjjbaffnnaaGreatZCF
set_option linter.all false
namespace Go.Proofs.YtbajpjjbaffnnaaGreat
open Go Go.Lg Go.Num
set_option maxRecDepth 100000
set_option maxHeartbeats 4000000
attribute [local irreducible] Go.Lg.lrun Go.Lg.lwp Go.Lg.exThen Go.Lg.exBlk Go.Lg.keep Go.Lg.goodPost ec
theorem fcs_length (n : Nat) (l : List Nat) : (fcs n l).length = l.length * 2 := by
 induction l with
 | nil => rfl
 | cons a l ih => rw [fcs,List.flatMap_cons,List.length_append];rw [fcs] at ih;rw [ih,List.length_cons];simp;omega
theorem fcs_drop (n : Nat) : ∀ (l : List Nat) (j : Nat),(fcs n l).drop (j * 2) = fcs n (l.drop j)
 | [],j => by simp [fcs]
 | q :: f,0 => by simp
 | q :: f,j + 1 => by
   rw [show (j + 1) * 2 = 2 + j * 2 by omega,← List.drop_drop,List.drop_succ_cons,← fcs_drop n f j]
   rfl
theorem fcs_td {n : Nat} {l : List Nat} {j : Nat} (h : j < l.length) : ((fcs n l).drop (j * 2)).take 2 = [.lit (.int .i64 (l.getD j 0 : Int)),.lit (.int .i64 (vp (l.getD j 0) n : Int))] := by
 rw [fcs_drop,List.drop_eq_getElem_cons h]
 have : l.getD j 0 = l[j] := by simp [h]
 rw [this]
 simp only [fcs,List.flatMap_cons]
 simp
theorem fcs_pure (n : Nat) (l : List Nat) : ∀ c ∈ fcs n l,pureC c = true := by
 intro c hc
 simp only [fcs,List.mem_flatMap,List.mem_cons,List.not_mem_nil,or_false] at hc
 obtain ⟨x,_,rfl | rfl⟩ := hc <;> rfl
theorem pvs_fcs {h : Nat → Option Blk} {ok : Nat → Bool} {k : Nat} (n : Nat) (l : List Nat) : pvs h ok (k + 1) (fcs n l) = some (fcs n l,[]) := pvs_pure (fcs_pure n l)
theorem fcs_plain' (n : Nat) (l : List Nat) : ∀ c ∈ fcs n l,plainC c = true := by
 intro c hc
 simp only [fcs,List.mem_flatMap,List.mem_cons,List.not_mem_nil,or_false] at hc
 obtain ⟨x,_,rfl | rfl⟩ := hc <;> rfl
theorem fcs_plain (n : Nat) (l : List Nat) : (∀ c ∈ fcs n l,plainC c = true) = True := eq_true (fcs_plain' n l)
theorem ren_fcs {nb : Nat} {ρ : Nat → Nat} (n : Nat) (l : List Nat) : renLs nb ρ (fcs n l) = some (fcs n l) := rens_plain (fcs_plain' n l)
def smF3 := And.intro fcs_length (And.intro @fcs_td (And.intro @pvs_fcs (And.intro fcs_plain @ren_fcs)))
attribute [local irreducible] fcs dF vp psum
theorem disc_in {n : Nat} {xs : List Int} (h : EtaOk n xs) : PureGood Tryz.prog 45 [.agg [i64 n,.sl xs.length (ec xs)]] (.tup [i64 (dscV n xs),i64 (dscE n xs)]) := by
 have n1 := h.n1
 have n2 := h.n2
 have hl := h.len
 have l1 := h.len_le
 have g1 := check_good n xs (by omega) (by omega)
 rw [etaErr_ok h] at g1
 have g2 := modular_good h
 have g3 := sums_good h
 have g4 := factor_good n1 n2
 have g5 := divisors_good n1 n2
 have dl := divL_length n
 have bs := h.s0 (Nat.le_refl _)
 unfold dscV dscE
 rw [← hl] at g5 dl
 by_cases hm : mods n xs = true
 ·rw [if_pos hm,if_pos hm,← dF_last]
  rw [hm] at g2
  have hm0 : psum (exS xs) xs.length % 2 = 0 := by
   unfold mods at hm
   exact (tmod_iff _ _).1 (of_decide_eq_true hm).1
  have d0 := dF_zero n xs
  have hprs : (prs n).length ≤ 1000 := by
   have : (prs n).length ≤ primesT.length := List.length_filter_le ..
   exact Nat.le_trans this (by decide)
  have ht4 := emod_of_tmod (psum (exS xs) xs.length) (m := 4) (by omega)
  have hb4 := tmod_bd (psum (exS xs) xs.length) (b := 4) (by omega)
  have ht5 := (tmod_iff (psum (exS xs) xs.length) 4)
  generalize psum (exS xs) xs.length = s0 at *
  generalize psum (exL n xs) xs.length = s1 at *
  generalize psum (exH n xs) xs.length = s2 at *
  have body : ∀ S : LS,True := fun _ => trivial
  rw [i64,bl] at *
  have key : s0.tmod 4 = 0 ∧ dF n xs 0 = 1 ∨ s0.tmod 4 ≠ 0 ∧ dF n xs 0 = -1 := by
   by_cases h4 : s0 % 4 = 0
   ·exact .inl ⟨ht5.2 h4,by rw [d0,if_pos h4]⟩
   ·exact .inr ⟨fun e => h4 (ht5.1 e),by rw [d0,if_neg h4]⟩
  clear ht4 ht5 d0
  rcases key with ⟨k1,k2⟩ | ⟨k1,k2⟩
  ·skip
   refine good_of_lwp mix Tryz.func45 rfl (by decide) (nt := 89) rfl (rs := [.tmp 2,.tmp 3]) rfl (nle rfl) ?_
   (repeat (first|apply zO (by decide +kernel)|apply zP (by decide +kernel)|(apply zS;(case h=>constructor<;>decide))|((first|apply l_go rfl|apply c_dec|apply zT rfl (by decide) rfl);(case hs=>(simp (disch := first|omega|exact kD rfl|exact kX rfl) only [smY,simprocAttr,bl,i64,smE,smF3];exact rfl));first|refine c_bt ?_|refine c_bf ?_|refine zq ?_|(case hg=>assumption))))
   refine w_loop (α := {i : Nat // i ≤ (prs n).length}) (fun i => st 89 (lk [(1,.ptr 0 0),(8,i64 (dF n xs i.1)),(39,.sl (prs n).length (fcs n (prs n))),(40,i64 (prs n).length),(41,i64 i.1)]) (lkH [(0,⟨24,[i64 n,.sl xs.length (ec xs)],false⟩)]) 1) (fun i => (prs n).length - i.1) ⟨0,by simp⟩ ?_ ?_
   ·(refine Sub.heap1 0 ?_ (by simp only [smF,dg,renL,renLs,simprocAttr,bl,i64,smE,smF3];exact rfl) ?_ ?_;all_goals (first | exact dgs_plain _ | with_reducible rfl | (simp only [smF,dg,renL,renLs,simprocAttr,bl,i64,smE,smF3];done) | (simp only [smF,dg,renL,renLs,simprocAttr,bl,i64,smE,smF3]) | skip))
    all_goals (first | exact ⟨rfl,rfl⟩ | simp [k2])
   ·rintro ⟨i,hi⟩
    simp only [st]
    have bF := dF_bd h i
    by_cases h1 : i < (prs n).length
    ·have hs := dF_succ (n := n) (i := i) xs h1
     have bF2 := dF_bd h (i + 1)
     have hp := prs_mem (n := n) (p := (prs n).getD i 0) (by
      have e : (prs n).getD i 0 = (prs n)[i] := by simp [h1]
      rw [e];exact List.getElem_mem h1)
     generalize hpp : (prs n).getD i 0 = p at *
     (repeat (first|apply zO (by decide +kernel)|apply zP (by decide +kernel)|(apply zS;(case h=>constructor<;>decide))|((first|apply l_go rfl|apply c_dec|apply zT rfl (by decide) rfl);(case hs=>(simp (disch := first|omega|exact kD rfl|exact kX rfl) only [smY,simprocAttr,bl,i64,smE,smF3,hpp];exact rfl));first|refine c_bt ?_|refine c_bf ?_|refine zq ?_|(case hg=>assumption))))
     refine w_loop (α := {j : Nat // j ≤ xs.length}) (fun j => st 89 (lk [(1,.ptr 0 0),(8,i64 (dF n xs i)),(12,.ptr 1 0),(13,i64 (psum (cntE p n xs) j.1)),(39,.sl (prs n).length (fcs n (prs n))),(40,i64 (prs n).length),(41,i64 i),(47,.sl xs.length (ec (divL n))),(48,i64 xs.length),(49,i64 j.1)]) (lkH [(0,⟨24,[i64 n,.sl xs.length (ec xs)],false⟩),(1,⟨111,[i64 p,i64 (vp p n)],false⟩)]) 2) (fun j => xs.length - j.1) ⟨0,by simp⟩ ?_ ?_
     ·(refine Sub.heapL [0,4] rfl (by decide) ?_ (by simp only [smL];decide) ?_ ?_;all_goals (first|(simp only [plainC,smF,dg,renL,renLs,simprocAttr,bl,i64,smE,smF3,hpp];done) | (simp only [smF,dg,renL,renLs,simprocAttr,bl,i64,smE,smF3,hpp];(repeat' apply And.intro);all_goals rfl) | (simp only [smF,dg,renL,renLs,simprocAttr,bl,i64,smE,smF3,hpp]) | skip))
      all_goals (simp [psum_z,plainC])
     ·rintro ⟨j,hj⟩
      simp only [st]
      have bE := cE_bd (p := p) h hj
      by_cases h2 : j < xs.length
      ·obtain ⟨d,e1,e2,e3,e4,e5⟩ := divL_get (n := n) (k := j) (hl ▸ h2)
       have c0 := h.get j
       have bE2 := cE_bd (p := p) h (k := j + 1) (by omega)
       have eE : psum (cntE p n xs) (j + 1) = psum (cntE p n xs) j + cntE p n xs j := psum_s _ _
       rw [cntE,e5] at eE
       have ht2 := tmod_iff (xs.getD j 0) 2
       rw [eE] at bE2
       generalize psum (cntE p n xs) j = E0 at *
       generalize hx : xs.getD j 0 = x at *
       by_cases h3 : x % 2 = 0
       ·have h3' := ht2.2 h3
        rw [if_pos h3] at eE
        (repeat (first|apply zO (by decide +kernel)|apply zP (by decide +kernel)|(apply zS;(case h=>constructor<;>decide))|((first|apply l_go rfl|apply c_dec|apply zT rfl (by decide) rfl);(case hs=>(simp (disch := first|omega|exact kD rfl|exact kX rfl) only [smY,simprocAttr,bl,i64,smE,smF3,hpp,hx,e1];exact rfl));first|refine c_bt ?_|refine c_bf ?_|refine zq ?_|(case hg=>assumption))))
        refine ⟨⟨j + 1,by omega⟩,?_,by simp only;omega⟩
        (refine Sub.heapL [0,1] rfl (by decide) ?_ (by simp only [smL];decide) ?_ ?_;all_goals (first|(simp only [plainC,smF,dg,renL,renLs,simprocAttr,bl,i64,smE,smF3,hpp,hx,e1];done) | (simp only [smF,dg,renL,renLs,simprocAttr,bl,i64,smE,smF3,hpp,hx,e1];(repeat' apply And.intro);all_goals rfl) | (simp only [smF,dg,renL,renLs,simprocAttr,bl,i64,smE,smF3,hpp,hx,e1]) | skip))
        all_goals (first | exact ⟨rfl,rfl⟩ | (simp [eE,plainC];done) | (simp only [eE,true_and,LV.lit.injEq,Value.int.injEq,and_true];omega))
       ·have h3' : ¬ x.tmod 2 = 0 := fun e => h3 (ht2.1 e)
        rw [if_neg h3] at eE
        (repeat (first|apply zO (by decide +kernel)|apply zP (by decide +kernel)|(apply zS;(case h=>constructor<;>decide))|((first|apply l_go rfl|apply c_dec|apply zT rfl (by decide) rfl);(case hs=>(simp (disch := first|omega|exact kD rfl|exact kX rfl) only [smY,simprocAttr,bl,i64,smE,smF3,hpp,hx,e1];exact rfl));first|refine c_bt ?_|refine c_bf ?_|refine zq ?_|(case hg=>assumption))))
        refine w_loop (α := {y : Nat × Nat // 0 < y.1 ∧ y.1 ≤ d ∧ y.2 + vp p y.1 = vp p d}) (fun y => st 89 (lk [(1,.ptr 0 0),(8,i64 (dF n xs i)),(12,.ptr 1 0),(13,i64 (E0 + (y.1.2 : Int))),(15,i64 y.1.1),(39,.sl (prs n).length (fcs n (prs n))),(40,i64 (prs n).length),(41,i64 i),(47,.sl xs.length (ec (divL n))),(48,i64 xs.length),(49,i64 j)]) (lkH [(0,⟨24,[i64 n,.sl xs.length (ec xs)],false⟩),(1,⟨111,[i64 p,i64 (vp p n)],false⟩)]) 2) (fun y => y.1.1) ⟨(d,0),by simp only;omega,Nat.le_refl _,by simp⟩ ?_ ?_
        ·(refine Sub.heapL [0,1] rfl (by decide) ?_ (by simp only [smL];decide) ?_ ?_;all_goals (first|(simp only [plainC,smF,dg,renL,renLs,simprocAttr,bl,i64,smE,smF3,hpp,hx,e1];done) | (simp only [smF,dg,renL,renLs,simprocAttr,bl,i64,smE,smF3,hpp,hx,e1];(repeat' apply And.intro);all_goals rfl) | (simp only [smF,dg,renL,renLs,simprocAttr,bl,i64,smE,smF3,hpp,hx,e1]) | skip))
         all_goals (first | exact ⟨rfl,rfl⟩ | (simp [eE,plainC];done) | (simp only [eE,true_and,LV.lit.injEq,Value.int.injEq,and_true];omega))
        ·rintro ⟨⟨y,m⟩,hy0,hy1,hy2⟩
         simp only at hy0 hy1 hy2
         simp only [st]
         have hv := vp_le p d
         by_cases h4 : y % p = 0
         ·have hs := vp_step hp.1 hy0 h4
          have hlt : y / p < y := Nat.div_lt_self hy0 (by omega)
          have hpos : 0 < y / p := Nat.div_pos (Nat.le_of_dvd hy0 (Nat.dvd_of_mod_eq_zero h4)) (by omega)
          (repeat (first|apply zO (by decide +kernel)|apply zP (by decide +kernel)|(apply zS;(case h=>constructor<;>decide))|((first|apply l_go rfl|apply c_dec|apply zT rfl (by decide) rfl);(case hs=>(simp (disch := first|omega|exact kD rfl|exact kX rfl) only [smY,simprocAttr,bl,i64,smE,smF3,hpp,hx,e1];exact rfl));first|refine c_bt ?_|refine c_bf ?_|refine zq ?_|(case hg=>assumption))))
          refine ⟨⟨(y / p,m + 1),hpos,by simp only;omega,by simp only;omega⟩,?_,hlt⟩
          (refine Sub.heapL [0,1] rfl (by decide) ?_ (by simp only [smL];decide) ?_ ?_;all_goals (first|(simp only [plainC,smF,dg,renL,renLs,simprocAttr,bl,i64,smE,smF3,hpp,hx,e1];done) | (simp only [smF,dg,renL,renLs,simprocAttr,bl,i64,smE,smF3,hpp,hx,e1];(repeat' apply And.intro);all_goals rfl) | (simp only [smF,dg,renL,renLs,simprocAttr,bl,i64,smE,smF3,hpp,hx,e1]) | skip))
          all_goals (first | exact ⟨rfl,rfl⟩ | (simp [eE,plainC];done) | (simp only [eE,true_and,LV.lit.injEq,Value.int.injEq,and_true];omega))
         ·have hs := vp_stop h4
          obtain rfl : m = vp p d := by omega
          (repeat (first|apply zO (by decide +kernel)|apply zP (by decide +kernel)|(apply zS;(case h=>constructor<;>decide))|((first|apply l_go rfl|apply c_dec|apply zT rfl (by decide) rfl);(case hs=>(simp (disch := first|omega|exact kD rfl|exact kX rfl) only [smY,simprocAttr,bl,i64,smE,smF3,hpp,hx,e1];exact rfl));first|refine c_bt ?_|refine c_bf ?_|refine zq ?_|(case hg=>assumption))))
          refine ⟨⟨j + 1,by omega⟩,?_,by simp only;omega⟩
          (refine Sub.heapL [0,1] rfl (by decide) ?_ (by simp only [smL];decide) ?_ ?_;all_goals (first|(simp only [plainC,smF,dg,renL,renLs,simprocAttr,bl,i64,smE,smF3,hpp,hx,e1];done) | (simp only [smF,dg,renL,renLs,simprocAttr,bl,i64,smE,smF3,hpp,hx,e1];(repeat' apply And.intro);all_goals rfl) | (simp only [smF,dg,renL,renLs,simprocAttr,bl,i64,smE,smF3,hpp,hx,e1]) | skip))
          all_goals (first | exact ⟨rfl,rfl⟩ | (simp [eE,plainC];done) | (simp only [eE,true_and,LV.lit.injEq,Value.int.injEq,and_true];omega))
      ·obtain rfl : j = xs.length := by omega
       have hnn := cntE_nn (p := p) (n := n) (xs := xs) xs.length
       generalize psum (cntE p n xs) xs.length = E1 at *
       by_cases h5 : E1 % 2 = 0
       ·rw [if_pos h5] at hs
        (repeat (first|apply zO (by decide +kernel)|apply zP (by decide +kernel)|(apply zS;(case h=>constructor<;>decide))|((first|apply l_go rfl|apply c_dec|apply zT rfl (by decide) rfl);(case hs=>(simp (disch := first|omega|exact kD rfl|exact kX rfl) only [smY,simprocAttr,bl,i64,smE,smF3,hpp];exact rfl));first|refine c_bt ?_|refine c_bf ?_|refine zq ?_|(case hg=>assumption))))
        refine ⟨⟨i + 1,by omega⟩,?_,by simp only;omega⟩
        (refine Sub.heap1 0 ?_ (by simp only [smF,dg,renL,renLs,simprocAttr,bl,i64,smE,smF3,hpp];exact rfl) ?_ ?_;all_goals (first | exact dgs_plain _ | with_reducible rfl | (simp only [smF,dg,renL,renLs,simprocAttr,bl,i64,smE,smF3,hpp];done) | (simp only [smF,dg,renL,renLs,simprocAttr,bl,i64,smE,smF3,hpp]) | skip))
        all_goals (first | exact ⟨rfl,rfl⟩ | (simp [hs,plainC];done))
       ·rw [if_neg h5] at hs
        have bF3 := bF2
        rw [hs] at bF3
        (repeat (first|apply zO (by decide +kernel)|apply zP (by decide +kernel)|(apply zS;(case h=>constructor<;>decide))|((first|apply l_go rfl|apply c_dec|apply zT rfl (by decide) rfl);(case hs=>(simp (disch := first|omega|exact kD rfl|exact kX rfl) only [smY,simprocAttr,bl,i64,smE,smF3,hpp];exact rfl));first|refine c_bt ?_|refine c_bf ?_|refine zq ?_|(case hg=>assumption))))
        refine ⟨⟨i + 1,by omega⟩,?_,by simp only;omega⟩
        (refine Sub.heap1 0 ?_ (by simp only [smF,dg,renL,renLs,simprocAttr,bl,i64,smE,smF3,hpp];exact rfl) ?_ ?_;all_goals (first | exact dgs_plain _ | with_reducible rfl | (simp only [smF,dg,renL,renLs,simprocAttr,bl,i64,smE,smF3,hpp];done) | (simp only [smF,dg,renL,renLs,simprocAttr,bl,i64,smE,smF3,hpp]) | skip))
        all_goals (first | exact ⟨rfl,rfl⟩ | (simp [hs,plainC];done))
    ·obtain rfl : i = (prs n).length := by omega
     have t4 := tmod4 (dF n xs (prs n).length)
     unfold fld
     generalize dF n xs (prs n).length = s at *
     by_cases h6 : s % 4 = 1
     ·rw [if_pos h6]
      (repeat (first|apply zO (by decide +kernel)|apply zP (by decide +kernel)|(apply zS;(case h=>constructor<;>decide))|((first|apply l_go rfl|apply c_dec|apply zT rfl (by decide) rfl);(case hs=>(simp (disch := first|omega|exact kD rfl|exact kX rfl) only [smY,simprocAttr,bl,i64,smE,smF3];exact rfl));first|refine c_bt ?_|refine c_bf ?_|refine zq ?_|(case hg=>assumption))))
      ((first|apply g_ret|apply g_end);case hres => (simp only [smR];simp (disch := first|omega|exact kD rfl|exact kX rfl) only [smY,simprocAttr,bl,i64,smE,smF3];exact rfl))
      simp (disch := first|omega|exact kD rfl|exact kX rfl) only [smY,simprocAttr,bl,i64,smE,smF3]
     ·rw [if_neg h6,Int.mul_comm]
      (repeat (first|apply zO (by decide +kernel)|apply zP (by decide +kernel)|(apply zS;(case h=>constructor<;>decide))|((first|apply l_go rfl|apply c_dec|apply zT rfl (by decide) rfl);(case hs=>(simp (disch := first|omega|exact kD rfl|exact kX rfl) only [smY,simprocAttr,bl,i64,smE,smF3];exact rfl));first|refine c_bt ?_|refine c_bf ?_|refine zq ?_|(case hg=>assumption))))
      ((first|apply g_ret|apply g_end);case hres => (simp only [smR];simp (disch := first|omega|exact kD rfl|exact kX rfl) only [smY,simprocAttr,bl,i64,smE,smF3];exact rfl))
      simp (disch := first|omega|exact kD rfl|exact kX rfl) only [smY,simprocAttr,bl,i64,smE,smF3]
  ·skip
   refine good_of_lwp mix Tryz.func45 rfl (by decide) (nt := 89) rfl (rs := [.tmp 2,.tmp 3]) rfl (nle rfl) ?_
   (repeat (first|apply zO (by decide +kernel)|apply zP (by decide +kernel)|(apply zS;(case h=>constructor<;>decide))|((first|apply l_go rfl|apply c_dec|apply zT rfl (by decide) rfl);(case hs=>(simp (disch := first|omega|exact kD rfl|exact kX rfl) only [smY,simprocAttr,bl,i64,smE,smF3];exact rfl));first|refine c_bt ?_|refine c_bf ?_|refine zq ?_|(case hg=>assumption))))
   refine w_loop (α := {i : Nat // i ≤ (prs n).length}) (fun i => st 89 (lk [(1,.ptr 0 0),(8,i64 (dF n xs i.1)),(39,.sl (prs n).length (fcs n (prs n))),(40,i64 (prs n).length),(41,i64 i.1)]) (lkH [(0,⟨24,[i64 n,.sl xs.length (ec xs)],false⟩)]) 1) (fun i => (prs n).length - i.1) ⟨0,by simp⟩ ?_ ?_
   ·(refine Sub.heap1 0 ?_ (by simp only [smF,dg,renL,renLs,simprocAttr,bl,i64,smE,smF3];exact rfl) ?_ ?_;all_goals (first | exact dgs_plain _ | with_reducible rfl | (simp only [smF,dg,renL,renLs,simprocAttr,bl,i64,smE,smF3];done) | (simp only [smF,dg,renL,renLs,simprocAttr,bl,i64,smE,smF3]) | skip))
    all_goals (first | exact ⟨rfl,rfl⟩ | simp [k2])
   ·rintro ⟨i,hi⟩
    simp only [st]
    have bF := dF_bd h i
    by_cases h1 : i < (prs n).length
    ·have hs := dF_succ (n := n) (i := i) xs h1
     have bF2 := dF_bd h (i + 1)
     have hp := prs_mem (n := n) (p := (prs n).getD i 0) (by
      have e : (prs n).getD i 0 = (prs n)[i] := by simp [h1]
      rw [e];exact List.getElem_mem h1)
     generalize hpp : (prs n).getD i 0 = p at *
     (repeat (first|apply zO (by decide +kernel)|apply zP (by decide +kernel)|(apply zS;(case h=>constructor<;>decide))|((first|apply l_go rfl|apply c_dec|apply zT rfl (by decide) rfl);(case hs=>(simp (disch := first|omega|exact kD rfl|exact kX rfl) only [smY,simprocAttr,bl,i64,smE,smF3,hpp];exact rfl));first|refine c_bt ?_|refine c_bf ?_|refine zq ?_|(case hg=>assumption))))
     refine w_loop (α := {j : Nat // j ≤ xs.length}) (fun j => st 89 (lk [(1,.ptr 0 0),(8,i64 (dF n xs i)),(12,.ptr 1 0),(13,i64 (psum (cntE p n xs) j.1)),(39,.sl (prs n).length (fcs n (prs n))),(40,i64 (prs n).length),(41,i64 i),(47,.sl xs.length (ec (divL n))),(48,i64 xs.length),(49,i64 j.1)]) (lkH [(0,⟨24,[i64 n,.sl xs.length (ec xs)],false⟩),(1,⟨111,[i64 p,i64 (vp p n)],false⟩)]) 2) (fun j => xs.length - j.1) ⟨0,by simp⟩ ?_ ?_
     ·(refine Sub.heapL [0,4] rfl (by decide) ?_ (by simp only [smL];decide) ?_ ?_;all_goals (first|(simp only [plainC,smF,dg,renL,renLs,simprocAttr,bl,i64,smE,smF3,hpp];done) | (simp only [smF,dg,renL,renLs,simprocAttr,bl,i64,smE,smF3,hpp];(repeat' apply And.intro);all_goals rfl) | (simp only [smF,dg,renL,renLs,simprocAttr,bl,i64,smE,smF3,hpp]) | skip))
      all_goals (simp [psum_z,plainC])
     ·rintro ⟨j,hj⟩
      simp only [st]
      have bE := cE_bd (p := p) h hj
      by_cases h2 : j < xs.length
      ·obtain ⟨d,e1,e2,e3,e4,e5⟩ := divL_get (n := n) (k := j) (hl ▸ h2)
       have c0 := h.get j
       have bE2 := cE_bd (p := p) h (k := j + 1) (by omega)
       have eE : psum (cntE p n xs) (j + 1) = psum (cntE p n xs) j + cntE p n xs j := psum_s _ _
       rw [cntE,e5] at eE
       have ht2 := tmod_iff (xs.getD j 0) 2
       rw [eE] at bE2
       generalize psum (cntE p n xs) j = E0 at *
       generalize hx : xs.getD j 0 = x at *
       by_cases h3 : x % 2 = 0
       ·have h3' := ht2.2 h3
        rw [if_pos h3] at eE
        (repeat (first|apply zO (by decide +kernel)|apply zP (by decide +kernel)|(apply zS;(case h=>constructor<;>decide))|((first|apply l_go rfl|apply c_dec|apply zT rfl (by decide) rfl);(case hs=>(simp (disch := first|omega|exact kD rfl|exact kX rfl) only [smY,simprocAttr,bl,i64,smE,smF3,hpp,hx,e1];exact rfl));first|refine c_bt ?_|refine c_bf ?_|refine zq ?_|(case hg=>assumption))))
        refine ⟨⟨j + 1,by omega⟩,?_,by simp only;omega⟩
        (refine Sub.heapL [0,1] rfl (by decide) ?_ (by simp only [smL];decide) ?_ ?_;all_goals (first|(simp only [plainC,smF,dg,renL,renLs,simprocAttr,bl,i64,smE,smF3,hpp,hx,e1];done) | (simp only [smF,dg,renL,renLs,simprocAttr,bl,i64,smE,smF3,hpp,hx,e1];(repeat' apply And.intro);all_goals rfl) | (simp only [smF,dg,renL,renLs,simprocAttr,bl,i64,smE,smF3,hpp,hx,e1]) | skip))
        all_goals (first | exact ⟨rfl,rfl⟩ | (simp [eE,plainC];done) | (simp only [eE,true_and,LV.lit.injEq,Value.int.injEq,and_true];omega))
       ·have h3' : ¬ x.tmod 2 = 0 := fun e => h3 (ht2.1 e)
        rw [if_neg h3] at eE
        (repeat (first|apply zO (by decide +kernel)|apply zP (by decide +kernel)|(apply zS;(case h=>constructor<;>decide))|((first|apply l_go rfl|apply c_dec|apply zT rfl (by decide) rfl);(case hs=>(simp (disch := first|omega|exact kD rfl|exact kX rfl) only [smY,simprocAttr,bl,i64,smE,smF3,hpp,hx,e1];exact rfl));first|refine c_bt ?_|refine c_bf ?_|refine zq ?_|(case hg=>assumption))))
        refine w_loop (α := {y : Nat × Nat // 0 < y.1 ∧ y.1 ≤ d ∧ y.2 + vp p y.1 = vp p d}) (fun y => st 89 (lk [(1,.ptr 0 0),(8,i64 (dF n xs i)),(12,.ptr 1 0),(13,i64 (E0 + (y.1.2 : Int))),(15,i64 y.1.1),(39,.sl (prs n).length (fcs n (prs n))),(40,i64 (prs n).length),(41,i64 i),(47,.sl xs.length (ec (divL n))),(48,i64 xs.length),(49,i64 j)]) (lkH [(0,⟨24,[i64 n,.sl xs.length (ec xs)],false⟩),(1,⟨111,[i64 p,i64 (vp p n)],false⟩)]) 2) (fun y => y.1.1) ⟨(d,0),by simp only;omega,Nat.le_refl _,by simp⟩ ?_ ?_
        ·(refine Sub.heapL [0,1] rfl (by decide) ?_ (by simp only [smL];decide) ?_ ?_;all_goals (first|(simp only [plainC,smF,dg,renL,renLs,simprocAttr,bl,i64,smE,smF3,hpp,hx,e1];done) | (simp only [smF,dg,renL,renLs,simprocAttr,bl,i64,smE,smF3,hpp,hx,e1];(repeat' apply And.intro);all_goals rfl) | (simp only [smF,dg,renL,renLs,simprocAttr,bl,i64,smE,smF3,hpp,hx,e1]) | skip))
         all_goals (first | exact ⟨rfl,rfl⟩ | (simp [eE,plainC];done) | (simp only [eE,true_and,LV.lit.injEq,Value.int.injEq,and_true];omega))
        ·rintro ⟨⟨y,m⟩,hy0,hy1,hy2⟩
         simp only at hy0 hy1 hy2
         simp only [st]
         have hv := vp_le p d
         by_cases h4 : y % p = 0
         ·have hs := vp_step hp.1 hy0 h4
          have hlt : y / p < y := Nat.div_lt_self hy0 (by omega)
          have hpos : 0 < y / p := Nat.div_pos (Nat.le_of_dvd hy0 (Nat.dvd_of_mod_eq_zero h4)) (by omega)
          (repeat (first|apply zO (by decide +kernel)|apply zP (by decide +kernel)|(apply zS;(case h=>constructor<;>decide))|((first|apply l_go rfl|apply c_dec|apply zT rfl (by decide) rfl);(case hs=>(simp (disch := first|omega|exact kD rfl|exact kX rfl) only [smY,simprocAttr,bl,i64,smE,smF3,hpp,hx,e1];exact rfl));first|refine c_bt ?_|refine c_bf ?_|refine zq ?_|(case hg=>assumption))))
          refine ⟨⟨(y / p,m + 1),hpos,by simp only;omega,by simp only;omega⟩,?_,hlt⟩
          (refine Sub.heapL [0,1] rfl (by decide) ?_ (by simp only [smL];decide) ?_ ?_;all_goals (first|(simp only [plainC,smF,dg,renL,renLs,simprocAttr,bl,i64,smE,smF3,hpp,hx,e1];done) | (simp only [smF,dg,renL,renLs,simprocAttr,bl,i64,smE,smF3,hpp,hx,e1];(repeat' apply And.intro);all_goals rfl) | (simp only [smF,dg,renL,renLs,simprocAttr,bl,i64,smE,smF3,hpp,hx,e1]) | skip))
          all_goals (first | exact ⟨rfl,rfl⟩ | (simp [eE,plainC];done) | (simp only [eE,true_and,LV.lit.injEq,Value.int.injEq,and_true];omega))
         ·have hs := vp_stop h4
          obtain rfl : m = vp p d := by omega
          (repeat (first|apply zO (by decide +kernel)|apply zP (by decide +kernel)|(apply zS;(case h=>constructor<;>decide))|((first|apply l_go rfl|apply c_dec|apply zT rfl (by decide) rfl);(case hs=>(simp (disch := first|omega|exact kD rfl|exact kX rfl) only [smY,simprocAttr,bl,i64,smE,smF3,hpp,hx,e1];exact rfl));first|refine c_bt ?_|refine c_bf ?_|refine zq ?_|(case hg=>assumption))))
          refine ⟨⟨j + 1,by omega⟩,?_,by simp only;omega⟩
          (refine Sub.heapL [0,1] rfl (by decide) ?_ (by simp only [smL];decide) ?_ ?_;all_goals (first|(simp only [plainC,smF,dg,renL,renLs,simprocAttr,bl,i64,smE,smF3,hpp,hx,e1];done) | (simp only [smF,dg,renL,renLs,simprocAttr,bl,i64,smE,smF3,hpp,hx,e1];(repeat' apply And.intro);all_goals rfl) | (simp only [smF,dg,renL,renLs,simprocAttr,bl,i64,smE,smF3,hpp,hx,e1]) | skip))
          all_goals (first | exact ⟨rfl,rfl⟩ | (simp [eE,plainC];done) | (simp only [eE,true_and,LV.lit.injEq,Value.int.injEq,and_true];omega))
      ·obtain rfl : j = xs.length := by omega
       have hnn := cntE_nn (p := p) (n := n) (xs := xs) xs.length
       generalize psum (cntE p n xs) xs.length = E1 at *
       by_cases h5 : E1 % 2 = 0
       ·rw [if_pos h5] at hs
        (repeat (first|apply zO (by decide +kernel)|apply zP (by decide +kernel)|(apply zS;(case h=>constructor<;>decide))|((first|apply l_go rfl|apply c_dec|apply zT rfl (by decide) rfl);(case hs=>(simp (disch := first|omega|exact kD rfl|exact kX rfl) only [smY,simprocAttr,bl,i64,smE,smF3,hpp];exact rfl));first|refine c_bt ?_|refine c_bf ?_|refine zq ?_|(case hg=>assumption))))
        refine ⟨⟨i + 1,by omega⟩,?_,by simp only;omega⟩
        (refine Sub.heap1 0 ?_ (by simp only [smF,dg,renL,renLs,simprocAttr,bl,i64,smE,smF3,hpp];exact rfl) ?_ ?_;all_goals (first | exact dgs_plain _ | with_reducible rfl | (simp only [smF,dg,renL,renLs,simprocAttr,bl,i64,smE,smF3,hpp];done) | (simp only [smF,dg,renL,renLs,simprocAttr,bl,i64,smE,smF3,hpp]) | skip))
        all_goals (first | exact ⟨rfl,rfl⟩ | (simp [hs,plainC];done))
       ·rw [if_neg h5] at hs
        have bF3 := bF2
        rw [hs] at bF3
        (repeat (first|apply zO (by decide +kernel)|apply zP (by decide +kernel)|(apply zS;(case h=>constructor<;>decide))|((first|apply l_go rfl|apply c_dec|apply zT rfl (by decide) rfl);(case hs=>(simp (disch := first|omega|exact kD rfl|exact kX rfl) only [smY,simprocAttr,bl,i64,smE,smF3,hpp];exact rfl));first|refine c_bt ?_|refine c_bf ?_|refine zq ?_|(case hg=>assumption))))
        refine ⟨⟨i + 1,by omega⟩,?_,by simp only;omega⟩
        (refine Sub.heap1 0 ?_ (by simp only [smF,dg,renL,renLs,simprocAttr,bl,i64,smE,smF3,hpp];exact rfl) ?_ ?_;all_goals (first | exact dgs_plain _ | with_reducible rfl | (simp only [smF,dg,renL,renLs,simprocAttr,bl,i64,smE,smF3,hpp];done) | (simp only [smF,dg,renL,renLs,simprocAttr,bl,i64,smE,smF3,hpp]) | skip))
        all_goals (first | exact ⟨rfl,rfl⟩ | (simp [hs,plainC];done))
    ·obtain rfl : i = (prs n).length := by omega
     have t4 := tmod4 (dF n xs (prs n).length)
     unfold fld
     generalize dF n xs (prs n).length = s at *
     by_cases h6 : s % 4 = 1
     ·rw [if_pos h6]
      (repeat (first|apply zO (by decide +kernel)|apply zP (by decide +kernel)|(apply zS;(case h=>constructor<;>decide))|((first|apply l_go rfl|apply c_dec|apply zT rfl (by decide) rfl);(case hs=>(simp (disch := first|omega|exact kD rfl|exact kX rfl) only [smY,simprocAttr,bl,i64,smE,smF3];exact rfl));first|refine c_bt ?_|refine c_bf ?_|refine zq ?_|(case hg=>assumption))))
      ((first|apply g_ret|apply g_end);case hres => (simp only [smR];simp (disch := first|omega|exact kD rfl|exact kX rfl) only [smY,simprocAttr,bl,i64,smE,smF3];exact rfl))
      simp (disch := first|omega|exact kD rfl|exact kX rfl) only [smY,simprocAttr,bl,i64,smE,smF3]
     ·rw [if_neg h6,Int.mul_comm]
      (repeat (first|apply zO (by decide +kernel)|apply zP (by decide +kernel)|(apply zS;(case h=>constructor<;>decide))|((first|apply l_go rfl|apply c_dec|apply zT rfl (by decide) rfl);(case hs=>(simp (disch := first|omega|exact kD rfl|exact kX rfl) only [smY,simprocAttr,bl,i64,smE,smF3];exact rfl));first|refine c_bt ?_|refine c_bf ?_|refine zq ?_|(case hg=>assumption))))
      ((first|apply g_ret|apply g_end);case hres => (simp only [smR];simp (disch := first|omega|exact kD rfl|exact kX rfl) only [smY,simprocAttr,bl,i64,smE,smF3];exact rfl))
      simp (disch := first|omega|exact kD rfl|exact kX rfl) only [smY,simprocAttr,bl,i64,smE,smF3]
 ·-- X: bl,i64,smE
  rw [if_neg hm,if_neg hm]
  rw [Bool.eq_false_iff.2 hm] at g2
  rw [i64,bl] at *
  refine good_of_lwp mix Tryz.func45 rfl (by decide) (nt := 89) rfl (rs := [.tmp 2,.tmp 3]) rfl (nle rfl) ?_
  (repeat (first|apply zO (by decide +kernel)|apply zP (by decide +kernel)|(apply zS;(case h=>constructor<;>decide))|((first|apply l_go rfl|apply c_dec|apply zT rfl (by decide) rfl);(case hs=>(simp (disch := first|omega|exact kD rfl|exact kX rfl) only [smY,simprocAttr,bl,i64,smE,smF3];exact rfl));first|refine c_bt ?_|refine c_bf ?_|refine zq ?_|(case hg=>assumption))))
  ((first|apply g_ret|apply g_end);case hres => (simp only [smR];simp (disch := first|omega|exact kD rfl|exact kX rfl) only [smY,simprocAttr,bl,i64,smE,smF3];exact rfl))
  simp (disch := first|omega|exact kD rfl|exact kX rfl) only [smY,simprocAttr,bl,i64,smE,smF3]
end Go.Proofs.YtbajpjjbaffnnaaGreat
namespace Go.Proofs.YtbajpjjbaffnnaaGreat
open Go Go.Lg Go.Num
set_option maxRecDepth 100000
set_option maxHeartbeats 4000000
attribute [local irreducible] Go.Lg.lrun Go.Lg.lwp Go.Lg.exThen Go.Lg.exBlk Go.Lg.keep Go.Lg.goodPost ec dF vp psum
attribute [local irreducible] lprod below
end Go.Proofs.YtbajpjjbaffnnaaGreat
namespace Go.Proofs.YtbajpjjbaffnnaaGreat
open Go Go.Lg Go.Num
set_option maxRecDepth 100000
set_option maxHeartbeats 4000000
attribute [local irreducible] Go.Lg.lrun Go.Lg.lwp Go.Lg.exThen Go.Lg.exBlk Go.Lg.keep Go.Lg.goodPost ec dscV dscE
theorem Disc_good (lv : Int) (xs : List Int) (hlv : -9223372036854775808 ≤ lv ∧ lv ≤ 9223372036854775807) (hl : xs.length ≤ 1000000) : PureGood Tryz.prog 45 [.agg [i64 lv,.sl xs.length (ec xs)]] (.tup [i64 (if etaErr lv xs = 0 then dscV lv.toNat xs else 0),i64 (if etaErr lv xs = 0 then dscE lv.toNat xs else etaErr lv xs)]) := by
 have g1 := check_good lv xs hlv hl
 by_cases h : etaErr lv xs = 0
 ·rw [if_pos h,if_pos h]
  obtain ⟨n,rfl,ok⟩ := etaOk_of h
  rw [Int.toNat_natCast]
  exact disc_in ok
 ·rw [if_neg h,if_neg h]
  generalize etaErr lv xs = er at *
  rw [i64] at *
  refine good_of_lwp mix Tryz.func45 rfl (by decide) (nt := 89) rfl (rs := [.tmp 2,.tmp 3]) rfl (nle rfl) ?_
  (repeat (first|apply zO (by decide +kernel)|apply zP (by decide +kernel)|(apply zS;(case h=>constructor<;>decide))|((first|apply l_go rfl|apply c_dec|apply zT rfl (by decide) rfl);(case hs=>(simp (disch := first|omega|exact kD rfl|exact kX rfl) only [smY,simprocAttr,bl,i64,smE];exact rfl));first|refine c_bt ?_|refine c_bf ?_|refine zq ?_|(case hg=>assumption))))
  ((first|apply g_ret|apply g_end);case hres => (simp only [smR];simp (disch := first|omega|exact kD rfl|exact kX rfl) only [smY,simprocAttr,bl,i64,smE];exact rfl))
  simp (disch := first|omega|exact kD rfl|exact kX rfl) only [smY,simprocAttr,bl,i64,smE]
end Go.Proofs.YtbajpjjbaffnnaaGreat
namespace Go.Proofs.YtbajpjjbaffnnaaGreat
open Go Go.Lg Go.Num
set_option maxRecDepth 100000
set_option maxHeartbeats 8000000
attribute [local irreducible] Go.Lg.lrun Go.Lg.lwp Go.Lg.exThen Go.Lg.exBlk Go.Lg.keep Go.Lg.goodPost sg mg sS qs sv svM spM oc mC dc
end Go.Proofs.YtbajpjjbaffnnaaGreat
namespace Go.Proofs.YtbajpjjbaffnnaaGreat
open Go Go.Lg Go.Num
set_option maxRecDepth 100000
set_option maxHeartbeats 8000000
attribute [local irreducible] Go.Lg.lrun Go.Lg.lwp Go.Lg.exThen Go.Lg.exBlk Go.Lg.keep Go.Lg.goodPost sg mg sS qs sv svM spM oc mC dc
theorem rzero_good (q : Rat) (hq : lq q ≤ 1000) (h : q.num ≠ 0) : PureGood Tryz.prog 113 [encQ q] (bl false) := by
 have r1 := rqnorm_good q (by omega)
 have hl : (digs q.num.natAbs).length ≠ 0 := by
  intro e
  have h2 := digs_eq_nil.1 (List.eq_nil_of_length_eq_zero e)
  omega
 have hl2 : (digs q.num.natAbs).length ≤ 1000 := by unfold lq len at hq;omega
 simp only [encQ_sm] at *
 refine good_of_lwp mix Tryz.func113 rfl (by decide) (nt := 9) rfl (rs := [.tmp 2]) rfl (nle rfl) ?_
 (repeat (first|apply zO (by decide +kernel)|apply zP (by decide +kernel)|(apply zS;(case h=>constructor<;>decide))|((first|apply l_go rfl|apply c_dec|apply zT rfl (by decide) rfl);(case hs=>(simp (disch := first|omega|exact kD rfl|exact kX rfl) only [smY,simprocAttr,bl,i64,smT,lenL_mg];exact rfl));first|refine c_bt ?_|refine c_bf ?_|refine zq ?_|(case hg=>assumption))))
 ((first|apply g_ret|apply g_end);case hres => (simp only [smR];simp (disch := first|omega|exact kD rfl|exact kX rfl) only [smY,simprocAttr,bl,i64,smT,lenL_mg];exact rfl))
 simp (disch := first|omega|exact kD rfl|exact kX rfl) only [smY,simprocAttr,bl,i64,smT,lenL_mg]
end Go.Proofs.YtbajpjjbaffnnaaGreat
namespace Go.Proofs.YtbajpjjbaffnnaaGreat
open Go Go.Lg Go.Num
set_option maxRecDepth 100000
set_option maxHeartbeats 8000000
attribute [local irreducible] Go.Lg.lrun Go.Lg.lwp Go.Lg.exThen Go.Lg.exBlk Go.Lg.keep Go.Lg.goodPost sg mg sS qs sv svM spM oc mC dc
end Go.Proofs.YtbajpjjbaffnnaaGreat
namespace Go.Proofs.YtbajpjjbaffnnaaGreat
open Go Go.Lg Go.Num
set_option maxRecDepth 100000
set_option maxHeartbeats 8000000
attribute [local irreducible] Go.Lg.lrun Go.Lg.lwp Go.Lg.exThen Go.Lg.exBlk Go.Lg.keep Go.Lg.goodPost sg mg sS qs sv svM spM oc mC dc ec psum etaM etaK etaC
end Go.Proofs.YtbajpjjbaffnnaaGreat
namespace Go.Proofs.YtbajpjjbaffnnaaGreat
open Go Go.Lg Go.Num
set_option maxRecDepth 100000
set_option maxHeartbeats 8000000
attribute [local irreducible] Go.Lg.lrun Go.Lg.lwp Go.Lg.exThen Go.Lg.exBlk Go.Lg.keep Go.Lg.goodPost sg mg sS qs sv svM spM oc mC dc ec psum etaM etaK etaC
theorem sameSeries_good (f : Int) (hf : -9223372036854775808 ≤ f ∧ f ≤ 9223372036854775807) (l : List Rat) (hl : l.length ≤ 1000000) (hb : ∀ q ∈ l,lq q ≤ 100000) : PureGood Tryz.prog 17 [.agg [i64 f,.sl l.length (qc l)],.agg [i64 f,.sl l.length (qc l)]] (.lit (.bool true)) := by
 have g := sameRats_self l hb (by omega)
 rw [encF_qc] at g
 refine good_of_lwp mix Tryz.func17 rfl (by decide) (nt := 17) rfl (rs := [.tmp 4]) rfl (nle rfl) ?_
 (repeat (first|apply zO (by decide +kernel)|apply zP (by decide +kernel)|(apply zS;(case h=>constructor<;>decide))|((first|apply l_go rfl|apply c_dec|apply zT rfl (by decide) rfl);(case hs=>(simp (disch := first|omega|exact kD rfl|exact kX rfl) only [smY,simprocAttr,bl,i64,smT,smE];exact rfl));first|refine c_bt ?_|refine c_bf ?_|refine zq ?_|(case hg=>assumption))))
 ((first|apply g_ret|apply g_end);case hres => (simp only [smR];simp (disch := first|omega|exact kD rfl|exact kX rfl) only [smY,simprocAttr,bl,i64,smT,smE];exact rfl))
 simp (disch := first|omega|exact kD rfl|exact kX rfl) only [smY,simprocAttr,bl,i64,smT,smE]
theorem rFirst_good (lv : Int) (xs : List Int) (hlv : -9223372036854775808 ≤ lv ∧ lv ≤ 9223372036854775807) (hl : xs.length ≤ 1000000) : PureGood Tryz.prog 14 [.agg [i64 lv, .sl xs.length (ec xs)]]
  (.tup [i64 (if etaErr lv xs = 0 ∧ psum (exL lv.toNat xs) xs.length % 24 = 0 then psum (exL lv.toNat xs) xs.length / 24 else 0),i64 (if etaErr lv xs = 0 then (if psum (exL lv.toNat xs) xs.length % 24 = 0 then 0 else 6) else etaErr lv xs)]) := by
 have g0 := rcheck_good lv xs hlv hl
 by_cases h : etaErr lv xs = 0
 ·obtain ⟨n,rfl,ok⟩ := etaOk_of h
  rw [h] at g0
  rw [if_pos h,Int.toNat_natCast]
  have n1 := ok.n1
  have n2 := ok.n2
  have g1 := rsum1_good ok
  have b0 := ok.s1 (Nat.le_refl xs.length)
  have ht := tmod_iff (psum (exL n xs) xs.length) 24
  by_cases h4 : psum (exL n xs) xs.length % 24 = 0
  ·rw [if_pos ⟨h,h4⟩,if_pos h4]
   have t1 := ht.2 h4
   have t2 : (psum (exL n xs) xs.length).tdiv 24 = psum (exL n xs) xs.length / 24 := Int.tdiv_eq_ediv_of_dvd (Int.dvd_of_emod_eq_zero h4)
   clear ht
   generalize psum (exL n xs) xs.length = s1 at *
   have b1 : -2880000 ≤ s1 / 24 ∧ s1 / 24 ≤ 2880000 := by omega
   clear h4
   generalize s1 / 24 = h at *
   simp only [i64] at *
   refine good_of_lwp mix Tryz.func14 rfl (by decide) (nt := 17) rfl (rs := [.tmp 2,.tmp 3]) rfl (nle rfl) ?_
   (repeat (first|apply zO (by decide +kernel)|apply zP (by decide +kernel)|(apply zS;(case h=>constructor<;>decide))|((first|apply l_go rfl|apply c_dec|apply zT rfl (by decide) rfl);(case hs=>(simp (disch := first|omega|exact kD rfl|exact kX rfl) only [smY,simprocAttr,bl,i64,smT,smE,t1,t2];exact rfl));first|refine c_bt ?_|refine c_bf ?_|refine zq ?_|(case hg=>assumption))))
   ((first|apply g_ret|apply g_end);case hres => (simp only [smR];simp (disch := first|omega|exact kD rfl|exact kX rfl) only [smY,simprocAttr,bl,i64,smT,smE,t1,t2];exact rfl))
   simp (disch := first|omega|exact kD rfl|exact kX rfl) only [smY,simprocAttr,bl,i64,smT,smE,t1,t2]
  ·rw [if_neg (fun e => h4 e.2),if_neg h4]
   have t1 : ¬ (psum (exL n xs) xs.length).tmod 24 = 0 := fun e => h4 (ht.1 e)
   clear ht
   generalize psum (exL n xs) xs.length = s1 at *
   simp only [i64] at *
   refine good_of_lwp mix Tryz.func14 rfl (by decide) (nt := 17) rfl (rs := [.tmp 2,.tmp 3]) rfl (nle rfl) ?_
   (repeat (first|apply zO (by decide +kernel)|apply zP (by decide +kernel)|(apply zS;(case h=>constructor<;>decide))|((first|apply l_go rfl|apply c_dec|apply zT rfl (by decide) rfl);(case hs=>(simp (disch := first|omega|exact kD rfl|exact kX rfl) only [smY,simprocAttr,bl,i64,smT,smE];exact rfl));first|refine c_bt ?_|refine c_bf ?_|refine zq ?_|(case hg=>assumption))))
   ((first|apply g_ret|apply g_end);case hres => (simp only [smR];simp (disch := first|omega|exact kD rfl|exact kX rfl) only [smY,simprocAttr,bl,i64,smT,smE];exact rfl))
   simp (disch := first|omega|exact kD rfl|exact kX rfl) only [smY,simprocAttr,bl,i64,smT,smE]
 ·rw [if_neg h,if_neg (fun e => h e.1)]
  generalize etaErr lv xs = er at *
  simp only [i64] at *
  refine good_of_lwp mix Tryz.func14 rfl (by decide) (nt := 17) rfl (rs := [.tmp 2,.tmp 3]) rfl (nle rfl) ?_
  (repeat (first|apply zO (by decide +kernel)|apply zP (by decide +kernel)|(apply zS;(case h=>constructor<;>decide))|((first|apply l_go rfl|apply c_dec|apply zT rfl (by decide) rfl);(case hs=>(simp (disch := first|omega|exact kD rfl|exact kX rfl) only [smY,simprocAttr,bl,i64,smT,smE];exact rfl));first|refine c_bt ?_|refine c_bf ?_|refine zq ?_|(case hg=>assumption))))
  ((first|apply g_ret|apply g_end);case hres => (simp only [smR];simp (disch := first|omega|exact kD rfl|exact kX rfl) only [smY,simprocAttr,bl,i64,smT,smE];exact rfl))
  simp (disch := first|omega|exact kD rfl|exact kX rfl) only [smY,simprocAttr,bl,i64,smT,smE]
end Go.Proofs.YtbajpjjbaffnnaaGreat
namespace Go.Proofs.YtbajpjjbaffnnaaGreat
open Go Go.Lg Go.Num
set_option maxRecDepth 100000
set_option maxHeartbeats 8000000
attribute [local irreducible] Go.Lg.lrun Go.Lg.lwp Go.Lg.exThen Go.Lg.exBlk Go.Lg.keep Go.Lg.goodPost ec sg mg
theorem rord33_good (f : Int) (hf : -9223372036854775808 ≤ f ∧ f ≤ 9223372036854775807) (l : List Rat) (h1 : 1 ≤ l.length) (h2 : l.length ≤ 1000) (h0 : (l.getD 0 0).num ≠ 0) (hq : lq (l.getD 0 0) ≤ 1000) : PureGood Tryz.prog 57 [.agg [i64 f,.sl l.length (qc l)]] (i64 f) := by
 have g := rzero_good (l.getD 0 0) hq h0
 generalize hq0 : l.getD 0 0 = q0 at *
 simp only [encQ_sm,i64,bl] at *
 refine good_of_lwp mix Tryz.func57 rfl (by decide) (nt := 24) rfl (rs := [.tmp 2]) rfl (nle rfl) ?_
 (repeat (first|apply zO (by decide +kernel)|apply zP (by decide +kernel)|(apply zS;(case h=>constructor<;>decide))|((first|apply l_go rfl|apply c_dec|apply zT rfl (by decide) rfl);(case hs=>(simp (disch := first|omega|exact kD rfl|exact kX rfl) only [smY,simprocAttr,bl,i64,smT,hq0,undefL,undef,Int.add_zero];exact rfl));first|refine c_bt ?_|refine c_bf ?_|refine zq ?_|(case hg=>assumption))))
 refine w_loop (α := Unit) (fun _ => st 24 (lk [(1,.ptr 0 0),(3,.lit (.int .i64 0))]) (lkH [(0,⟨31,[.lit (.int .i64 f),.sl l.length (qc l)],false⟩)]) 1) (fun _ => 0) () ?_ ?_
 ·(refine Sub.heapL [0] rfl (by decide) ?_ (by simp only [smL];decide) ?_ ?_;all_goals (first|(simp only [plainC,smF,dg,renL,renLs,simprocAttr,bl,i64,smT,hq0,undefL,undef,Int.add_zero];done) | (simp only [smF,dg,renL,renLs,simprocAttr,bl,i64,smT,hq0,undefL,undef,Int.add_zero];(repeat' apply And.intro);all_goals rfl) | (simp only [smF,dg,renL,renLs,simprocAttr,bl,i64,smT,hq0,undefL,undef,Int.add_zero]) | skip))
  all_goals (first | done | trace_state)
 ·rintro ⟨⟩
  simp only [st]
  (repeat (first|apply zO (by decide +kernel)|apply zP (by decide +kernel)|(apply zS;(case h=>constructor<;>decide))|((first|apply l_go rfl|apply c_dec|apply zT rfl (by decide) rfl);(case hs=>(simp (disch := first|omega|exact kD rfl|exact kX rfl) only [smY,simprocAttr,bl,i64,smT,hq0,undefL,undef,Int.add_zero];exact rfl));first|refine c_bt ?_|refine c_bf ?_|refine zq ?_|(case hg=>assumption))))
  ((first|apply g_ret|apply g_end);case hres => (simp only [smR];simp (disch := first|omega|exact kD rfl|exact kX rfl) only [smY,simprocAttr,bl,i64,smT,hq0,undefL,undef,Int.add_zero];exact rfl))
  simp (disch := first|omega|exact kD rfl|exact kX rfl) only [smY,simprocAttr,bl,i64,smT,hq0,undefL,undef,Int.add_zero]
theorem lawRaised_in {n t : Nat} {xs : List Int} (hx : EtaOk n xs) (t1 : 1 ≤ t) (t2 : t ≤ 12) (hm : n * t ≤ 600) (ha : PureGood Tryz.prog 13 [] (.lit (.bool true))) : PureGood Tryz.prog 10 [.agg [i64 n,.sl xs.length (ec xs)],i64 t] (.lit (.bool true)) := by
 have n1 := hx.n1
 have n2 := hx.n2
 have l1 := hx.len_le
 have m1 : 1 ≤ n * t := Nat.mul_pos (by omega) (by omega)
 have hmod : n * t % n = 0 := Nat.mul_mod_right n t
 have hZ := hx.md m1 hm 1
 have l2 := hZ.len_le
 have gc := rcheck_good n xs (by omega) (by omega)
 rw [etaErr_zero hx] at gc
 have k1 := check_good n xs (by omega) (by omega)
 rw [etaErr_zero hx] at k1
 have k2 := check_good ((n * t : Nat) : Int) (mdL (divL (n * t)) (divL n) xs 1) (by omega) (by omega)
 rw [etaErr_zero hZ] at k2
 have gr := raise_eta hx m1 hm hmod
 have w1 := weight_good n xs (by omega) (by omega)
 rw [etaErr_zero hx,if_pos rfl,if_pos rfl] at w1
 have w2 := weight_good ((n * t : Nat) : Int) (mdL (divL (n * t)) (divL n) xs 1) (by omega) (by omega)
 rw [etaErr_zero hZ,if_pos rfl,if_pos rfl,raise_wgtV hx m1 hmod,raise_wgtE hx m1 hmod] at w2
 have gf := rFirst_good n xs (by omega) (by omega)
 rw [Int.toNat_natCast] at gf
 simp only [etaErr_zero hx,true_and,if_true] at gf
 have hok : ordOk ((n * t : Nat) : Int) (mdL (divL (n * t)) (divL n) xs 1) ((n * t : Nat) : Int) := ⟨etaErr_zero hZ,by omega,Int.emod_self⟩
 have go := Order_good ((n * t : Nat) : Int) (mdL (divL (n * t)) (divL n) xs 1) (by omega) (by omega) ((n * t : Nat) : Int) (by omega)
 unfold ordN ordD ordE at go
 rw [if_pos hok,if_pos hok,if_pos hok,if_pos (etaErr_zero hZ),Int.toNat_natCast,raise_ord hx m1 hmod] at go
 have gm := Modular_good n xs (by omega) (by omega)
 rw [etaErr_zero hx,if_pos rfl,Int.toNat_natCast] at gm
 have hw : -4800 ≤ wgtV xs ∧ wgtV xs ≤ 4800 := by
  have := hx.s0 (Nat.le_refl _)
  unfold wgtV
  split
  ·exact tdiv_bd 2 this
  ·omega
 have c0 : (n : Int) * (t : Int) = ((n * t : Nat) : Int) := by simp
 have b1 := hx.s1 (Nat.le_refl _)
 by_cases hS : psum (exL n xs) xs.length % 24 = 0
 ·rw [if_pos hS,if_pos hS] at gf
  obtain ⟨c,hc0⟩ : ∃ c,psum (exL n xs) xs.length / 24 = c := ⟨_,rfl⟩
  have hSc : psum (exL n xs) xs.length = 24 * c := by omega
  have hq : Rat.divInt (psum (exL n xs) xs.length) 24 = ((c : Int) : Rat) := by
   have h1 := divInt_scale (k := 24) (a := c) (d := 1) (by decide)
   rw [hSc,Rat.divInt_eq_div,Rat.intCast_mul,Rat.div_def,Rat.mul_comm,← Rat.mul_assoc,Rat.inv_mul_cancel _ (by decide),Rat.one_mul]
  rw [hq] at go
  rw [hc0] at gf
  have q1 := baseQ_good c (by omega)
  have q2 := rqsame_good ((c : Int) : Rat) ((c : Int) : Rat) (by have := lq_i64 (z := c) (by omega);omega) (by have := lq_i64 (z := c) (by omega);omega)
  rw [decide_eq_true rfl] at q2
  by_cases hM : mods n xs = true
  ·have d1 := Disc_good n xs (by omega) (by omega)
   have d2 := Disc_good ((n * t : Nat) : Int) (mdL (divL (n * t)) (divL n) xs 1) (by omega) (by omega)
   rw [etaErr_zero hx,if_pos rfl,if_pos rfl,Int.toNat_natCast] at d1
   rw [etaErr_zero hZ,if_pos rfl,if_pos rfl,Int.toNat_natCast] at d2
   unfold dscV dscE at d1 d2
   rw [if_pos hM,if_pos hM] at d1
   rw [if_pos (raise_mods hx m1 hmod hM),if_pos (raise_mods hx m1 hmod hM),raise_discV hx m1 hmod] at d2
   rw [hM] at gm
   generalize discV n xs = dv at *
   by_cases h1 : c < -50
   ·clear hS hq hSc
    clear hok hmod hZ hw
    generalize mdL (divL (n * t)) (divL n) xs 1 = Z at *
    generalize wgtV xs = wv at *
    generalize wgtE xs = we at *
    generalize n * t = m at *
    generalize ec xs = cx at *
    generalize ec Z = cz at *
    simp only [i64,bl,shp,encQ_sm] at *
    refine good_of_lwp mix Tryz.func10 rfl (by decide) (nt := 176) rfl (rs := [.tmp 4]) rfl (nle rfl) ?_
    (repeat (first|apply zO (by decide +kernel)|apply zP (by decide +kernel)|(apply zS;(case h=>constructor<;>decide))|((first|apply l_go rfl|apply c_dec|apply zT rfl (by decide) rfl);(case hs=>(simp (disch := first|omega|exact kD rfl|exact kX rfl) only [smY,simprocAttr,bl,i64,smE,smT,shp,ec_nil,undefL,undef,c0];exact rfl));first|refine c_bt ?_|refine c_bf ?_|refine zq ?_|(case hg=>assumption))))
    repeat (refine l_cskip rfl (by decide) rfl ?_;(repeat (first|apply zO (by decide +kernel)|apply zP (by decide +kernel)|(apply zS;(case h=>constructor<;>decide))|((first|apply l_go rfl|apply c_dec|apply zT rfl (by decide) rfl);(case hs=>(simp (disch := first|omega|exact kD rfl|exact kX rfl) only [smY,simprocAttr,bl,i64,smE,smT,shp,ec_nil,undefL,undef,c0];exact rfl));first|refine c_bt ?_|refine c_bf ?_|refine zq ?_|(case hg=>assumption)))))
    ((first|apply g_ret|apply g_end);case hres => (simp only [smR];simp (disch := first|omega|exact kD rfl|exact kX rfl) only [smY,simprocAttr,bl,i64,smE,smT,shp,ec_nil,undefL,undef,c0];exact rfl))
    simp (disch := first|omega|exact kD rfl|exact kX rfl) only [smY,simprocAttr,bl,i64,smE,smT,shp,ec_nil,undefL,undef,c0]
   ·by_cases h2 : c > 50
    ·clear hS hq hSc
     clear hok hmod hZ hw
     generalize mdL (divL (n * t)) (divL n) xs 1 = Z at *
     generalize wgtV xs = wv at *
     generalize wgtE xs = we at *
     generalize n * t = m at *
     generalize ec xs = cx at *
     generalize ec Z = cz at *
     simp only [i64,bl,shp,encQ_sm] at *
     refine good_of_lwp mix Tryz.func10 rfl (by decide) (nt := 176) rfl (rs := [.tmp 4]) rfl (nle rfl) ?_
     (repeat (first|apply zO (by decide +kernel)|apply zP (by decide +kernel)|(apply zS;(case h=>constructor<;>decide))|((first|apply l_go rfl|apply c_dec|apply zT rfl (by decide) rfl);(case hs=>(simp (disch := first|omega|exact kD rfl|exact kX rfl) only [smY,simprocAttr,bl,i64,smE,smT,shp,ec_nil,undefL,undef,c0];exact rfl));first|refine c_bt ?_|refine c_bf ?_|refine zq ?_|(case hg=>assumption))))
     repeat (refine l_cskip rfl (by decide) rfl ?_;(repeat (first|apply zO (by decide +kernel)|apply zP (by decide +kernel)|(apply zS;(case h=>constructor<;>decide))|((first|apply l_go rfl|apply c_dec|apply zT rfl (by decide) rfl);(case hs=>(simp (disch := first|omega|exact kD rfl|exact kX rfl) only [smY,simprocAttr,bl,i64,smE,smT,shp,ec_nil,undefL,undef,c0];exact rfl));first|refine c_bt ?_|refine c_bf ?_|refine zq ?_|(case hg=>assumption)))))
     ((first|apply g_ret|apply g_end);case hres => (simp only [smR];simp (disch := first|omega|exact kD rfl|exact kX rfl) only [smY,simprocAttr,bl,i64,smE,smT,shp,ec_nil,undefL,undef,c0];exact rfl))
     simp (disch := first|omega|exact kD rfl|exact kX rfl) only [smY,simprocAttr,bl,i64,smE,smT,shp,ec_nil,undefL,undef,c0]
    ·
     have hC : psum (exL n xs) xs.length = 24 * c := hSc
     have P := prodOk_aQ (c := etaC n xs 9) (by rw [etaC_len];omega) (etaC_small hx 9)
     have P2 : ProdOk (etaC (n * t) (mdL (divL (n * t)) (divL n) xs 1) 9) (aQ (sS (etaC n xs 9))) := by rw [raise_etaC hx m1 hmod];exact P
     have x1 := expand_in hx k1 (c + 10) (by omega) c (by unfold lowS;exact hC) (by omega) 9 (by omega) P
     have x2 := expand_in hZ k2 (c + 10) (by omega) c (by unfold lowS;rw [raise_e1 hx m1 hmod];exact hC) (by omega) 9 (by omega) P2
     have a0 := P.a0
     have ba := P.ba
     rw [etaC_len] at ba
     have hlA : (aP (aQ (sS (etaC n xs 9))) (9 + 1)).length = 10 := aP_len _ _
     have x3 := sameSeries_good c (by omega) (aP (aQ (sS (etaC n xs 9))) (9 + 1)) (by omega) (fun q hq => by
      simp only [aP,List.mem_map] at hq
      obtain ⟨i,hi,rfl⟩ := hq
      have := List.mem_range.1 hi
      have := ba i (by omega)
      omega)
     have e00 : (aP (aQ (sS (etaC n xs 9))) (9 + 1)).getD 0 0 = 1 := by rw [aP_get (by omega)];exact a0
     have x4 := rord33_good c (by omega) (aP (aQ (sS (etaC n xs 9))) (9 + 1)) (by omega) (by omega) (by rw [e00];decide) (by rw [e00];decide +kernel)
     rw [hlA] at x3 x4
     clear P P2 a0 ba e00 hlA
     generalize aP (aQ (sS (etaC n xs 9))) (9 + 1) = AL at *
     clear hS hq hSc
     clear hok hmod hZ hw
     generalize mdL (divL (n * t)) (divL n) xs 1 = Z at *
     generalize wgtV xs = wv at *
     generalize wgtE xs = we at *
     generalize n * t = m at *
     generalize ec xs = cx at *
     generalize ec Z = cz at *
     simp only [i64,bl,shp,encQ_sm] at *
     refine good_of_lwp mix Tryz.func10 rfl (by decide) (nt := 176) rfl (rs := [.tmp 4]) rfl (nle rfl) ?_
     (repeat (first|apply zO (by decide +kernel)|apply zP (by decide +kernel)|(apply zS;(case h=>constructor<;>decide))|((first|apply l_go rfl|apply c_dec|apply zT rfl (by decide) rfl);(case hs=>(simp (disch := first|omega|exact kD rfl|exact kX rfl) only [smY,simprocAttr,bl,i64,smE,smT,shp,ec_nil,undefL,undef,c0];exact rfl));first|refine c_bt ?_|refine c_bf ?_|refine zq ?_|(case hg=>assumption))))
     repeat (refine l_cskip rfl (by decide) rfl ?_;(repeat (first|apply zO (by decide +kernel)|apply zP (by decide +kernel)|(apply zS;(case h=>constructor<;>decide))|((first|apply l_go rfl|apply c_dec|apply zT rfl (by decide) rfl);(case hs=>(simp (disch := first|omega|exact kD rfl|exact kX rfl) only [smY,simprocAttr,bl,i64,smE,smT,shp,ec_nil,undefL,undef,c0];exact rfl));first|refine c_bt ?_|refine c_bf ?_|refine zq ?_|(case hg=>assumption)))))
     ((first|apply g_ret|apply g_end);case hres => (simp only [smR];simp (disch := first|omega|exact kD rfl|exact kX rfl) only [smY,simprocAttr,bl,i64,smE,smT,shp,ec_nil,undefL,undef,c0];exact rfl))
     simp (disch := first|omega|exact kD rfl|exact kX rfl) only [smY,simprocAttr,bl,i64,smE,smT,shp,ec_nil,undefL,undef,c0]
  ·rw [Bool.not_eq_true] at hM
   rw [hM] at gm
   by_cases h1 : c < -50
   ·clear hS hq hSc
    clear hok hmod hZ hw
    generalize mdL (divL (n * t)) (divL n) xs 1 = Z at *
    generalize wgtV xs = wv at *
    generalize wgtE xs = we at *
    generalize n * t = m at *
    generalize ec xs = cx at *
    generalize ec Z = cz at *
    simp only [i64,bl,shp,encQ_sm] at *
    refine good_of_lwp mix Tryz.func10 rfl (by decide) (nt := 176) rfl (rs := [.tmp 4]) rfl (nle rfl) ?_
    (repeat (first|apply zO (by decide +kernel)|apply zP (by decide +kernel)|(apply zS;(case h=>constructor<;>decide))|((first|apply l_go rfl|apply c_dec|apply zT rfl (by decide) rfl);(case hs=>(simp (disch := first|omega|exact kD rfl|exact kX rfl) only [smY,simprocAttr,bl,i64,smE,smT,shp,ec_nil,undefL,undef,c0];exact rfl));first|refine c_bt ?_|refine c_bf ?_|refine zq ?_|(case hg=>assumption))))
    repeat (refine l_cskip rfl (by decide) rfl ?_;(repeat (first|apply zO (by decide +kernel)|apply zP (by decide +kernel)|(apply zS;(case h=>constructor<;>decide))|((first|apply l_go rfl|apply c_dec|apply zT rfl (by decide) rfl);(case hs=>(simp (disch := first|omega|exact kD rfl|exact kX rfl) only [smY,simprocAttr,bl,i64,smE,smT,shp,ec_nil,undefL,undef,c0];exact rfl));first|refine c_bt ?_|refine c_bf ?_|refine zq ?_|(case hg=>assumption)))))
    ((first|apply g_ret|apply g_end);case hres => (simp only [smR];simp (disch := first|omega|exact kD rfl|exact kX rfl) only [smY,simprocAttr,bl,i64,smE,smT,shp,ec_nil,undefL,undef,c0];exact rfl))
    simp (disch := first|omega|exact kD rfl|exact kX rfl) only [smY,simprocAttr,bl,i64,smE,smT,shp,ec_nil,undefL,undef,c0]
   ·by_cases h2 : c > 50
    ·clear hS hq hSc
     clear hok hmod hZ hw
     generalize mdL (divL (n * t)) (divL n) xs 1 = Z at *
     generalize wgtV xs = wv at *
     generalize wgtE xs = we at *
     generalize n * t = m at *
     generalize ec xs = cx at *
     generalize ec Z = cz at *
     simp only [i64,bl,shp,encQ_sm] at *
     refine good_of_lwp mix Tryz.func10 rfl (by decide) (nt := 176) rfl (rs := [.tmp 4]) rfl (nle rfl) ?_
     (repeat (first|apply zO (by decide +kernel)|apply zP (by decide +kernel)|(apply zS;(case h=>constructor<;>decide))|((first|apply l_go rfl|apply c_dec|apply zT rfl (by decide) rfl);(case hs=>(simp (disch := first|omega|exact kD rfl|exact kX rfl) only [smY,simprocAttr,bl,i64,smE,smT,shp,ec_nil,undefL,undef,c0];exact rfl));first|refine c_bt ?_|refine c_bf ?_|refine zq ?_|(case hg=>assumption))))
     repeat (refine l_cskip rfl (by decide) rfl ?_;(repeat (first|apply zO (by decide +kernel)|apply zP (by decide +kernel)|(apply zS;(case h=>constructor<;>decide))|((first|apply l_go rfl|apply c_dec|apply zT rfl (by decide) rfl);(case hs=>(simp (disch := first|omega|exact kD rfl|exact kX rfl) only [smY,simprocAttr,bl,i64,smE,smT,shp,ec_nil,undefL,undef,c0];exact rfl));first|refine c_bt ?_|refine c_bf ?_|refine zq ?_|(case hg=>assumption)))))
     ((first|apply g_ret|apply g_end);case hres => (simp only [smR];simp (disch := first|omega|exact kD rfl|exact kX rfl) only [smY,simprocAttr,bl,i64,smE,smT,shp,ec_nil,undefL,undef,c0];exact rfl))
     simp (disch := first|omega|exact kD rfl|exact kX rfl) only [smY,simprocAttr,bl,i64,smE,smT,shp,ec_nil,undefL,undef,c0]
    ·
     have hC : psum (exL n xs) xs.length = 24 * c := hSc
     have P := prodOk_aQ (c := etaC n xs 9) (by rw [etaC_len];omega) (etaC_small hx 9)
     have P2 : ProdOk (etaC (n * t) (mdL (divL (n * t)) (divL n) xs 1) 9) (aQ (sS (etaC n xs 9))) := by rw [raise_etaC hx m1 hmod];exact P
     have x1 := expand_in hx k1 (c + 10) (by omega) c (by unfold lowS;exact hC) (by omega) 9 (by omega) P
     have x2 := expand_in hZ k2 (c + 10) (by omega) c (by unfold lowS;rw [raise_e1 hx m1 hmod];exact hC) (by omega) 9 (by omega) P2
     have a0 := P.a0
     have ba := P.ba
     rw [etaC_len] at ba
     have hlA : (aP (aQ (sS (etaC n xs 9))) (9 + 1)).length = 10 := aP_len _ _
     have x3 := sameSeries_good c (by omega) (aP (aQ (sS (etaC n xs 9))) (9 + 1)) (by omega) (fun q hq => by
      simp only [aP,List.mem_map] at hq
      obtain ⟨i,hi,rfl⟩ := hq
      have := List.mem_range.1 hi
      have := ba i (by omega)
      omega)
     have e00 : (aP (aQ (sS (etaC n xs 9))) (9 + 1)).getD 0 0 = 1 := by rw [aP_get (by omega)];exact a0
     have x4 := rord33_good c (by omega) (aP (aQ (sS (etaC n xs 9))) (9 + 1)) (by omega) (by omega) (by rw [e00];decide) (by rw [e00];decide +kernel)
     rw [hlA] at x3 x4
     clear P P2 a0 ba e00 hlA
     generalize aP (aQ (sS (etaC n xs 9))) (9 + 1) = AL at *
     clear hS hq hSc
     clear hok hmod hZ hw
     generalize mdL (divL (n * t)) (divL n) xs 1 = Z at *
     generalize wgtV xs = wv at *
     generalize wgtE xs = we at *
     generalize n * t = m at *
     generalize ec xs = cx at *
     generalize ec Z = cz at *
     simp only [i64,bl,shp,encQ_sm] at *
     refine good_of_lwp mix Tryz.func10 rfl (by decide) (nt := 176) rfl (rs := [.tmp 4]) rfl (nle rfl) ?_
     (repeat (first|apply zO (by decide +kernel)|apply zP (by decide +kernel)|(apply zS;(case h=>constructor<;>decide))|((first|apply l_go rfl|apply c_dec|apply zT rfl (by decide) rfl);(case hs=>(simp (disch := first|omega|exact kD rfl|exact kX rfl) only [smY,simprocAttr,bl,i64,smE,smT,shp,ec_nil,undefL,undef,c0];exact rfl));first|refine c_bt ?_|refine c_bf ?_|refine zq ?_|(case hg=>assumption))))
     repeat (refine l_cskip rfl (by decide) rfl ?_;(repeat (first|apply zO (by decide +kernel)|apply zP (by decide +kernel)|(apply zS;(case h=>constructor<;>decide))|((first|apply l_go rfl|apply c_dec|apply zT rfl (by decide) rfl);(case hs=>(simp (disch := first|omega|exact kD rfl|exact kX rfl) only [smY,simprocAttr,bl,i64,smE,smT,shp,ec_nil,undefL,undef,c0];exact rfl));first|refine c_bt ?_|refine c_bf ?_|refine zq ?_|(case hg=>assumption)))))
     ((first|apply g_ret|apply g_end);case hres => (simp only [smR];simp (disch := first|omega|exact kD rfl|exact kX rfl) only [smY,simprocAttr,bl,i64,smE,smT,shp,ec_nil,undefL,undef,c0];exact rfl))
     simp (disch := first|omega|exact kD rfl|exact kX rfl) only [smY,simprocAttr,bl,i64,smE,smT,shp,ec_nil,undefL,undef,c0]
 ·rw [if_neg hS,if_neg hS] at gf
  generalize Rat.divInt (psum (exL n xs) xs.length) 24 = qq at *
  by_cases hM : mods n xs = true
  ·have d1 := Disc_good n xs (by omega) (by omega)
   have d2 := Disc_good ((n * t : Nat) : Int) (mdL (divL (n * t)) (divL n) xs 1) (by omega) (by omega)
   rw [etaErr_zero hx,if_pos rfl,if_pos rfl,Int.toNat_natCast] at d1
   rw [etaErr_zero hZ,if_pos rfl,if_pos rfl,Int.toNat_natCast] at d2
   unfold dscV dscE at d1 d2
   rw [if_pos hM,if_pos hM] at d1
   rw [if_pos (raise_mods hx m1 hmod hM),if_pos (raise_mods hx m1 hmod hM),raise_discV hx m1 hmod] at d2
   rw [hM] at gm
   generalize discV n xs = dv at *
   clear hok hmod hZ hw
   generalize mdL (divL (n * t)) (divL n) xs 1 = Z at *
   generalize wgtV xs = wv at *
   generalize wgtE xs = we at *
   generalize n * t = m at *
   generalize ec xs = cx at *
   generalize ec Z = cz at *
   simp only [i64,bl,shp,encQ_sm] at *
   refine good_of_lwp mix Tryz.func10 rfl (by decide) (nt := 176) rfl (rs := [.tmp 4]) rfl (nle rfl) ?_
   (repeat (first|apply zO (by decide +kernel)|apply zP (by decide +kernel)|(apply zS;(case h=>constructor<;>decide))|((first|apply l_go rfl|apply c_dec|apply zT rfl (by decide) rfl);(case hs=>(simp (disch := first|omega|exact kD rfl|exact kX rfl) only [smY,simprocAttr,bl,i64,smE,smT,shp,ec_nil,undefL,undef,c0];exact rfl));first|refine c_bt ?_|refine c_bf ?_|refine zq ?_|(case hg=>assumption))))
   repeat (refine l_cskip rfl (by decide) rfl ?_;(repeat (first|apply zO (by decide +kernel)|apply zP (by decide +kernel)|(apply zS;(case h=>constructor<;>decide))|((first|apply l_go rfl|apply c_dec|apply zT rfl (by decide) rfl);(case hs=>(simp (disch := first|omega|exact kD rfl|exact kX rfl) only [smY,simprocAttr,bl,i64,smE,smT,shp,ec_nil,undefL,undef,c0];exact rfl));first|refine c_bt ?_|refine c_bf ?_|refine zq ?_|(case hg=>assumption)))))
   ((first|apply g_ret|apply g_end);case hres => (simp only [smR];simp (disch := first|omega|exact kD rfl|exact kX rfl) only [smY,simprocAttr,bl,i64,smE,smT,shp,ec_nil,undefL,undef,c0];exact rfl))
   simp (disch := first|omega|exact kD rfl|exact kX rfl) only [smY,simprocAttr,bl,i64,smE,smT,shp,ec_nil,undefL,undef,c0]
  ·rw [Bool.not_eq_true] at hM
   rw [hM] at gm
   clear hok hmod hZ hw
   generalize mdL (divL (n * t)) (divL n) xs 1 = Z at *
   generalize wgtV xs = wv at *
   generalize wgtE xs = we at *
   generalize n * t = m at *
   generalize ec xs = cx at *
   generalize ec Z = cz at *
   simp only [i64,bl,shp,encQ_sm] at *
   refine good_of_lwp mix Tryz.func10 rfl (by decide) (nt := 176) rfl (rs := [.tmp 4]) rfl (nle rfl) ?_
   (repeat (first|apply zO (by decide +kernel)|apply zP (by decide +kernel)|(apply zS;(case h=>constructor<;>decide))|((first|apply l_go rfl|apply c_dec|apply zT rfl (by decide) rfl);(case hs=>(simp (disch := first|omega|exact kD rfl|exact kX rfl) only [smY,simprocAttr,bl,i64,smE,smT,shp,ec_nil,undefL,undef,c0];exact rfl));first|refine c_bt ?_|refine c_bf ?_|refine zq ?_|(case hg=>assumption))))
   repeat (refine l_cskip rfl (by decide) rfl ?_;(repeat (first|apply zO (by decide +kernel)|apply zP (by decide +kernel)|(apply zS;(case h=>constructor<;>decide))|((first|apply l_go rfl|apply c_dec|apply zT rfl (by decide) rfl);(case hs=>(simp (disch := first|omega|exact kD rfl|exact kX rfl) only [smY,simprocAttr,bl,i64,smE,smT,shp,ec_nil,undefL,undef,c0];exact rfl));first|refine c_bt ?_|refine c_bf ?_|refine zq ?_|(case hg=>assumption)))))
   ((first|apply g_ret|apply g_end);case hres => (simp only [smR];simp (disch := first|omega|exact kD rfl|exact kX rfl) only [smY,simprocAttr,bl,i64,smE,smT,shp,ec_nil,undefL,undef,c0];exact rfl))
   simp (disch := first|omega|exact kD rfl|exact kX rfl) only [smY,simprocAttr,bl,i64,smE,smT,shp,ec_nil,undefL,undef,c0]
theorem lawRaised_good (lv : Int) (xs : List Int) (hlv : -9223372036854775808 ≤ lv ∧ lv ≤ 9223372036854775807) (t : Int) (ht : -9223372036854775808 ≤ t ∧ t ≤ 9223372036854775807) : PureGood Tryz.prog 10 [.agg [i64 lv,.sl xs.length (ec xs)],i64 t] (.lit (.bool true)) := by
 have ha := awake_good
 have g0 := rcheck_any lv xs hlv
 by_cases he : etaErr lv xs = 0
 ·obtain ⟨n,rfl,hx⟩ := etaOk_of he
  have n1 := hx.n1
  have n2 := hx.n2
  rw [he] at g0
  by_cases h1 : t < 1
  ·clear hx he
   generalize ec xs = cx at *
   simp only [i64,bl] at *
   refine good_of_lwp mix Tryz.func10 rfl (by decide) (nt := 176) rfl (rs := [.tmp 4]) rfl (nle rfl) ?_
   (repeat (first|apply zO (by decide +kernel)|apply zP (by decide +kernel)|(apply zS;(case h=>constructor<;>decide))|((first|apply l_go rfl|apply c_dec|apply zT rfl (by decide) rfl);(case hs=>(simp (disch := first|omega|exact kD rfl|exact kX rfl) only [smY,simprocAttr,bl,i64,smE,smT,shp,ec_nil,undefL,undef];exact rfl));first|refine c_bt ?_|refine c_bf ?_|refine zq ?_|(case hg=>assumption))))
   ((first|apply g_ret|apply g_end);case hres => (simp only [smR];simp (disch := first|omega|exact kD rfl|exact kX rfl) only [smY,simprocAttr,bl,i64,smE,smT,shp,ec_nil,undefL,undef];exact rfl))
   simp (disch := first|omega|exact kD rfl|exact kX rfl) only [smY,simprocAttr,bl,i64,smE,smT,shp,ec_nil,undefL,undef]
  ·by_cases h2 : t > 12
   ·clear hx he
    generalize ec xs = cx at *
    simp only [i64,bl] at *
    refine good_of_lwp mix Tryz.func10 rfl (by decide) (nt := 176) rfl (rs := [.tmp 4]) rfl (nle rfl) ?_
    (repeat (first|apply zO (by decide +kernel)|apply zP (by decide +kernel)|(apply zS;(case h=>constructor<;>decide))|((first|apply l_go rfl|apply c_dec|apply zT rfl (by decide) rfl);(case hs=>(simp (disch := first|omega|exact kD rfl|exact kX rfl) only [smY,simprocAttr,bl,i64,smE,smT,shp,ec_nil,undefL,undef];exact rfl));first|refine c_bt ?_|refine c_bf ?_|refine zq ?_|(case hg=>assumption))))
    ((first|apply g_ret|apply g_end);case hres => (simp only [smR];simp (disch := first|omega|exact kD rfl|exact kX rfl) only [smY,simprocAttr,bl,i64,smE,smT,shp,ec_nil,undefL,undef];exact rfl))
    simp (disch := first|omega|exact kD rfl|exact kX rfl) only [smY,simprocAttr,bl,i64,smE,smT,shp,ec_nil,undefL,undef]
   ·obtain ⟨u,rfl⟩ : ∃ u : Nat,t = u := ⟨t.toNat,by omega⟩
    by_cases hm : n * u ≤ 600
    ·exact lawRaised_in hx (by omega) (by omega) hm ha
    ·have c0 : (n : Int) * (u : Int) = ((n * u : Nat) : Int) := by simp
     have c1 : n * u ≤ 600 * 12 := Nat.mul_le_mul n2 (by omega)
     clear hx he
     generalize n * u = m at *
     generalize ec xs = cx at *
     simp only [i64,bl] at *
     refine good_of_lwp mix Tryz.func10 rfl (by decide) (nt := 176) rfl (rs := [.tmp 4]) rfl (nle rfl) ?_
     (repeat (first|apply zO (by decide +kernel)|apply zP (by decide +kernel)|(apply zS;(case h=>constructor<;>decide))|((first|apply l_go rfl|apply c_dec|apply zT rfl (by decide) rfl);(case hs=>(simp (disch := first|omega|exact kD rfl|exact kX rfl) only [smY,simprocAttr,bl,i64,smE,smT,shp,ec_nil,undefL,undef,c0];exact rfl));first|refine c_bt ?_|refine c_bf ?_|refine zq ?_|(case hg=>assumption))))
     ((first|apply g_ret|apply g_end);case hres => (simp only [smR];simp (disch := first|omega|exact kD rfl|exact kX rfl) only [smY,simprocAttr,bl,i64,smE,smT,shp,ec_nil,undefL,undef,c0];exact rfl))
     simp (disch := first|omega|exact kD rfl|exact kX rfl) only [smY,simprocAttr,bl,i64,smE,smT,shp,ec_nil,undefL,undef,c0]
 ·generalize etaErr lv xs = er at *
  generalize ec xs = cx at *
  simp only [i64,bl] at *
  refine good_of_lwp mix Tryz.func10 rfl (by decide) (nt := 176) rfl (rs := [.tmp 4]) rfl (nle rfl) ?_
  (repeat (first|apply zO (by decide +kernel)|apply zP (by decide +kernel)|(apply zS;(case h=>constructor<;>decide))|((first|apply l_go rfl|apply c_dec|apply zT rfl (by decide) rfl);(case hs=>(simp (disch := first|omega|exact kD rfl|exact kX rfl) only [smY,simprocAttr,bl,i64,smE,smT,shp,ec_nil,undefL,undef];exact rfl));first|refine c_bt ?_|refine c_bf ?_|refine zq ?_|(case hg=>assumption))))
  ((first|apply g_ret|apply g_end);case hres => (simp only [smR];simp (disch := first|omega|exact kD rfl|exact kX rfl) only [smY,simprocAttr,bl,i64,smE,smT,shp,ec_nil,undefL,undef];exact rfl))
  simp (disch := first|omega|exact kD rfl|exact kX rfl) only [smY,simprocAttr,bl,i64,smE,smT,shp,ec_nil,undefL,undef]
end Go.Proofs.YtbajpjjbaffnnaaGreat