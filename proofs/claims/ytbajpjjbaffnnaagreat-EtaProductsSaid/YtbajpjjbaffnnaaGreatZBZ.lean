/- Contracts of functions of the program, and what proves them (texts: OP2). -/
import Derived.Test.YtbajpjjbaffnnaaGreatZBY
set_option linter.all false
namespace Go.Proofs.YtbajpjjbaffnnaaGreat
open Go Go.Lg Go.Num
set_option maxRecDepth 100000
set_option maxHeartbeats 8000000
attribute [local irreducible] Go.Lg.lrun Go.Lg.lwp Go.Lg.exThen Go.Lg.exBlk Go.Lg.keep Go.Lg.goodPost ec
theorem replace_both (lv : Int) (xs : List Int) (t : Int) (hlv : -9223372036854775808 ≤ lv ∧ lv ≤ 9223372036854775807) (hl : xs.length ≤ 1000000) (ht : -9223372036854775808 ≤ t ∧ t ≤ 9223372036854775807) : bothE 53 54 [.agg [i64 lv,.sl xs.length (ec xs)],i64 t] := by
 have g1 := check_good lv xs hlv hl
 have g2 := rcheck_good lv xs hlv hl
 by_cases he : etaErr lv xs = 0
 ·obtain ⟨n,rfl,hx⟩ := etaErr_inv he
  have n1 := hx.n1
  have n2 := hx.n2
  rw [he] at g1 g2
  by_cases h1 : t < 1
  ·simp only [i64,bl] at *
   refine ⟨0,[],2,by simp,?_,?_⟩
   ·
    refine good_of_lwp mix Tryz.func53 rfl (by decide) (nt := 34) rfl (rs := [.cell 4 24,.tmp 5]) rfl (nle rfl) ?_
    (repeat (first|apply zO (by decide +kernel)|apply zP (by decide +kernel)|(apply zS;(case h=>constructor<;>decide))|((first|apply l_go rfl|apply c_dec|apply zT rfl (by decide) rfl);(case hs=>(simp (disch := first|omega|exact kD rfl|exact kX rfl) only [smY,simprocAttr,bl,i64,smE,shp,ec_nil,undefL,undef,mk_pos3];exact rfl));first|refine c_bt ?_|refine c_bf ?_|refine zq ?_|(case hg=>assumption))))
    ((first|apply g_ret|apply g_end);case hres => (simp only [smR];simp (disch := first|omega|exact kD rfl|exact kX rfl) only [smY,simprocAttr,bl,i64,smE,shp,ec_nil,undefL,undef,mk_pos3];exact rfl))
    simp (disch := first|omega|exact kD rfl|exact kX rfl) only [smY,simprocAttr,bl,i64,smE,shp,ec_nil,undefL,undef,mk_pos3]
   ·
    refine good_of_lwp mix Tryz.func54 rfl (by decide) (nt := 28) rfl (rs := [.cell 4 24,.tmp 5]) rfl (nle rfl) ?_
    (repeat (first|apply zO (by decide +kernel)|apply zP (by decide +kernel)|(apply zS;(case h=>constructor<;>decide))|((first|apply l_go rfl|apply c_dec|apply zT rfl (by decide) rfl);(case hs=>(simp (disch := first|omega|exact kD rfl|exact kX rfl) only [smY,simprocAttr,bl,i64,smE,shp,ec_nil,undefL,undef,mk_pos3];exact rfl));first|refine c_bt ?_|refine c_bf ?_|refine zq ?_|(case hg=>assumption))))
    ((first|apply g_ret|apply g_end);case hres => (simp only [smR];simp (disch := first|omega|exact kD rfl|exact kX rfl) only [smY,simprocAttr,bl,i64,smE,shp,ec_nil,undefL,undef,mk_pos3];exact rfl))
    simp (disch := first|omega|exact kD rfl|exact kX rfl) only [smY,simprocAttr,bl,i64,smE,shp,ec_nil,undefL,undef,mk_pos3]
  ·have q1 : (600 : Int) / (n : Int) = ((600 / n : Nat) : Int) := rfl
   have n0 : ¬ (n : Int) = 0 := by omega
   have q2 : 600 / n ≤ 600 := Nat.div_le_self _ _
   by_cases h2 : t > 600
   ·
    simp only [i64,bl] at *
    generalize 600 / n = q at *
    refine ⟨0,[],7,by simp,?_,?_⟩
    ·
     refine good_of_lwp mix Tryz.func53 rfl (by decide) (nt := 34) rfl (rs := [.cell 4 24,.tmp 5]) rfl (nle rfl) ?_
     (repeat (first|apply zO (by decide +kernel)|apply zP (by decide +kernel)|(apply zS;(case h=>constructor<;>decide))|((first|apply l_go rfl|apply c_dec|apply zT rfl (by decide) rfl);(case hs=>(simp (disch := first|omega|exact kD rfl|exact kX rfl) only [smY,simprocAttr,bl,i64,smE,shp,ec_nil,undefL,undef,q1];exact rfl));first|refine c_bt ?_|refine c_bf ?_|refine zq ?_|(case hg=>assumption))))
     ((first|apply g_ret|apply g_end);case hres => (simp only [smR];simp (disch := first|omega|exact kD rfl|exact kX rfl) only [smY,simprocAttr,bl,i64,smE,shp,ec_nil,undefL,undef,q1];exact rfl))
     simp (disch := first|omega|exact kD rfl|exact kX rfl) only [smY,simprocAttr,bl,i64,smE,shp,ec_nil,undefL,undef,q1]
    ·
     refine good_of_lwp mix Tryz.func54 rfl (by decide) (nt := 28) rfl (rs := [.cell 4 24,.tmp 5]) rfl (nle rfl) ?_
     (repeat (first|apply zO (by decide +kernel)|apply zP (by decide +kernel)|(apply zS;(case h=>constructor<;>decide))|((first|apply l_go rfl|apply c_dec|apply zT rfl (by decide) rfl);(case hs=>(simp (disch := first|omega|exact kD rfl|exact kX rfl) only [smY,simprocAttr,bl,i64,smE,shp,ec_nil,undefL,undef,q1];exact rfl));first|refine c_bt ?_|refine c_bf ?_|refine zq ?_|(case hg=>assumption))))
     ((first|apply g_ret|apply g_end);case hres => (simp only [smR];simp (disch := first|omega|exact kD rfl|exact kX rfl) only [smY,simprocAttr,bl,i64,smE,shp,ec_nil,undefL,undef,q1];exact rfl))
     simp (disch := first|omega|exact kD rfl|exact kX rfl) only [smY,simprocAttr,bl,i64,smE,shp,ec_nil,undefL,undef,q1]
   ·obtain ⟨s,rfl⟩ : ∃ s : Nat,t = s := ⟨t.toNat,by omega⟩
    have c1 : (s : Int) * (n : Int) = ((s * n : Nat) : Int) := by simp
    have c2 : s * n ≤ 600 * 600 := Nat.mul_le_mul (by omega) n2
    by_cases h3 : s * n ≤ 600
    ·have h4 : s ≤ 600 / n := (Nat.le_div_iff_mul_le (by omega)).2 h3
     have m1 : 1 ≤ s * n := Nat.mul_pos (by omega) (by omega)
     have gs := spread_etaP (t := s) hx m1 h3 (by rw [Nat.mul_comm n s,Nat.mod_self])
     have gd := made_good (t := s) hx m1 h3 (by omega)
     have hz := mdL_len (divL (s * n)) (divL n) xs (s : Int)
     rw [divL_length] at hz
     have l1 := divN_length_le (s * n) h3
     generalize mdL (divL (s * n)) (divL n) xs (s : Int) = Z at *
     generalize 600 / n = q at *
     rw [← hz] at gs gd
     refine ⟨((s * n : Nat) : Int),Z,0,by omega,?_,?_⟩
     ·
      simp only [i64,bl] at *
      refine good_of_lwp mix Tryz.func53 rfl (by decide) (nt := 34) rfl (rs := [.cell 4 24,.tmp 5]) rfl (nle rfl) ?_
      (repeat (first|apply zO (by decide +kernel)|apply zP (by decide +kernel)|(apply zS;(case h=>constructor<;>decide))|((first|apply l_go rfl|apply c_dec|apply zT rfl (by decide) rfl);(case hs=>(simp (disch := first|omega|exact kD rfl|exact kX rfl) only [smY,simprocAttr,bl,i64,smE,shp,ec_nil,undefL,undef,q1,c1];exact rfl));first|refine c_bt ?_|refine c_bf ?_|refine zq ?_|(case hg=>assumption))))
      ((first|apply g_ret|apply g_end);case hres => (simp only [smR];simp (disch := first|omega|exact kD rfl|exact kX rfl) only [smY,simprocAttr,bl,i64,smE,shp,ec_nil,undefL,undef,q1,c1];exact rfl))
      simp (disch := first|omega|exact kD rfl|exact kX rfl) only [smY,simprocAttr,bl,i64,smE,shp,ec_nil,undefL,undef,q1,c1]
     ·simp only [i64,bl] at *
      refine good_of_lwp mix Tryz.func54 rfl (by decide) (nt := 28) rfl (rs := [.cell 4 24,.tmp 5]) rfl (nle rfl) ?_
      (repeat (first|apply zO (by decide +kernel)|apply zP (by decide +kernel)|(apply zS;(case h=>constructor<;>decide))|((first|apply l_go rfl|apply c_dec|apply zT rfl (by decide) rfl);(case hs=>(simp (disch := first|omega|exact kD rfl|exact kX rfl) only [smY,simprocAttr,bl,i64,smE,shp,ec_nil,undefL,undef,q1,c1];exact rfl));first|refine c_bt ?_|refine c_bf ?_|refine zq ?_|(case hg=>assumption))))
      ((first|apply g_ret|apply g_end);case hres => (simp only [smR];simp (disch := first|omega|exact kD rfl|exact kX rfl) only [smY,simprocAttr,bl,i64,smE,shp,ec_nil,undefL,undef,q1,c1];exact rfl))
      simp (disch := first|omega|exact kD rfl|exact kX rfl) only [smY,simprocAttr,bl,i64,smE,shp,ec_nil,undefL,undef,q1,c1]
    ·have h4 : ¬ s ≤ 600 / n := fun h => h3 ((Nat.le_div_iff_mul_le (by omega)).1 h)
     have gl := made_large (n : Int) ((s * n : Nat) : Int) (s : Int) xs (by omega)
     generalize 600 / n = q at *
     simp only [i64,bl] at *
     refine ⟨0,[],7,by simp,?_,?_⟩
     ·
      refine good_of_lwp mix Tryz.func53 rfl (by decide) (nt := 34) rfl (rs := [.cell 4 24,.tmp 5]) rfl (nle rfl) ?_
      (repeat (first|apply zO (by decide +kernel)|apply zP (by decide +kernel)|(apply zS;(case h=>constructor<;>decide))|((first|apply l_go rfl|apply c_dec|apply zT rfl (by decide) rfl);(case hs=>(simp (disch := first|omega|exact kD rfl|exact kX rfl) only [smY,simprocAttr,bl,i64,smE,shp,ec_nil,undefL,undef,q1,c1];exact rfl));first|refine c_bt ?_|refine c_bf ?_|refine zq ?_|(case hg=>assumption))))
      ((first|apply g_ret|apply g_end);case hres => (simp only [smR];simp (disch := first|omega|exact kD rfl|exact kX rfl) only [smY,simprocAttr,bl,i64,smE,shp,ec_nil,undefL,undef,q1,c1];exact rfl))
      simp (disch := first|omega|exact kD rfl|exact kX rfl) only [smY,simprocAttr,bl,i64,smE,shp,ec_nil,undefL,undef,q1,c1]
     ·
      refine good_of_lwp mix Tryz.func54 rfl (by decide) (nt := 28) rfl (rs := [.cell 4 24,.tmp 5]) rfl (nle rfl) ?_
      (repeat (first|apply zO (by decide +kernel)|apply zP (by decide +kernel)|(apply zS;(case h=>constructor<;>decide))|((first|apply l_go rfl|apply c_dec|apply zT rfl (by decide) rfl);(case hs=>(simp (disch := first|omega|exact kD rfl|exact kX rfl) only [smY,simprocAttr,bl,i64,smE,shp,ec_nil,undefL,undef,q1,c1];exact rfl));first|refine c_bt ?_|refine c_bf ?_|refine zq ?_|(case hg=>assumption))))
      ((first|apply g_ret|apply g_end);case hres => (simp only [smR];simp (disch := first|omega|exact kD rfl|exact kX rfl) only [smY,simprocAttr,bl,i64,smE,shp,ec_nil,undefL,undef,q1,c1];exact rfl))
      simp (disch := first|omega|exact kD rfl|exact kX rfl) only [smY,simprocAttr,bl,i64,smE,shp,ec_nil,undefL,undef,q1,c1]
 ·
  generalize etaErr lv xs = e at *
  simp only [i64,bl] at *
  refine ⟨0,[],e,by simp,?_,?_⟩
  ·
   refine good_of_lwp mix Tryz.func53 rfl (by decide) (nt := 34) rfl (rs := [.cell 4 24,.tmp 5]) rfl (nle rfl) ?_
   (repeat (first|apply zO (by decide +kernel)|apply zP (by decide +kernel)|(apply zS;(case h=>constructor<;>decide))|((first|apply l_go rfl|apply c_dec|apply zT rfl (by decide) rfl);(case hs=>(simp (disch := first|omega|exact kD rfl|exact kX rfl) only [smY,simprocAttr,bl,i64,smE,shp,ec_nil,undefL,undef,mk_pos3];exact rfl));first|refine c_bt ?_|refine c_bf ?_|refine zq ?_|(case hg=>assumption))))
   ((first|apply g_ret|apply g_end);case hres => (simp only [smR];simp (disch := first|omega|exact kD rfl|exact kX rfl) only [smY,simprocAttr,bl,i64,smE,shp,ec_nil,undefL,undef,mk_pos3];exact rfl))
   simp (disch := first|omega|exact kD rfl|exact kX rfl) only [smY,simprocAttr,bl,i64,smE,shp,ec_nil,undefL,undef,mk_pos3]
  ·
   refine good_of_lwp mix Tryz.func54 rfl (by decide) (nt := 28) rfl (rs := [.cell 4 24,.tmp 5]) rfl (nle rfl) ?_
   (repeat (first|apply zO (by decide +kernel)|apply zP (by decide +kernel)|(apply zS;(case h=>constructor<;>decide))|((first|apply l_go rfl|apply c_dec|apply zT rfl (by decide) rfl);(case hs=>(simp (disch := first|omega|exact kD rfl|exact kX rfl) only [smY,simprocAttr,bl,i64,smE,shp,ec_nil,undefL,undef,mk_pos3];exact rfl));first|refine c_bt ?_|refine c_bf ?_|refine zq ?_|(case hg=>assumption))))
   ((first|apply g_ret|apply g_end);case hres => (simp only [smR];simp (disch := first|omega|exact kD rfl|exact kX rfl) only [smY,simprocAttr,bl,i64,smE,shp,ec_nil,undefL,undef,mk_pos3];exact rfl))
   simp (disch := first|omega|exact kD rfl|exact kX rfl) only [smY,simprocAttr,bl,i64,smE,shp,ec_nil,undefL,undef,mk_pos3]
def mI (zs : List Int) (N i : Nat) : List LV := if i = 0 then ec (List.replicate N 0) else ec (zs.take i)
theorem mI_of {zs : List Int} {N i : Nat} (h : i = 0) : mI zs N i = ec (List.replicate N 0) := if_pos h
theorem mI_ne {zs : List Int} {N i : Nat} (h : i ≠ 0) : mI zs N i = ec (zs.take i) := if_neg h
theorem mI_succ (zs : List Int) (N i : Nat) : mI zs N (i + 1) = ec (zs.take (i + 1)) := rfl
theorem map_take_succ {xs : List Int} {n : Int} {i : Nat} (h : i < xs.length) : (xs.map (· * n)).take (i + 1) = (xs.map (· * n)).take i ++ [xs.getD i 0 * n] := by
 rw [List.take_add_one,List.getElem?_map,List.getElem?_eq_getElem h]
 simp [List.getD,h]
theorem mul_bd2 {a b : Int} (ha : -200 ≤ a ∧ a ≤ 200) (hb : -200 ≤ b ∧ b ≤ 200) : -40000 ≤ a * b ∧ a * b ≤ 40000 := by
 have h : (a * b).natAbs ≤ 200 * 200 := by
  rw [Int.natAbs_mul]
  exact Nat.mul_le_mul (by omega) (by omega)
 omega
def pwOk (xs : List Int) (n : Int) : Prop := (-200 ≤ n ∧ n ≤ 200) ∨ ∀ i,i < xs.length → xs.getD i 0 = 0
theorem epower_gen {lv : Nat} {xs : List Int} (hx : EtaOk lv xs) (n : Int) (hn : -9223372036854775808 ≤ n ∧ n ≤ 9223372036854775807) (r : LV) (h1 : pwOk xs n → (∀ x ∈ xs.map (· * n),-200 ≤ x ∧ x ≤ 200) → r = shp lv 0 (.sl xs.length (ec (xs.map (· * n))))) (h2 : pwOk xs n → ¬ (∀ x ∈ xs.map (· * n),-200 ≤ x ∧ x ≤ 200) → r = shp 0 7 (.sl 0 [])) (h3 : ¬ pwOk xs n → r = shp 0 7 (.sl 0 [])) : PureGood Tryz.prog 51 [.agg [i64 lv,.sl xs.length (ec xs)],i64 n] r := by
 have n1 := hx.n1
 have n2 := hx.n2
 have hN1 : 1 ≤ xs.length := by rw [hx.len];exact divN_length_pos n1
 have hN2 := hx.len_le
 have hzl : (xs.map (· * n)).length = xs.length := by simp
 have g1 := check_good lv xs (by omega) (by omega)
 have he : etaErr lv xs = 0 := etaErr_zero hx
 rw [he] at g1
 have gf := fits_good (xs.map (· * n)) (by omega)
 rw [hzl] at gf
 generalize hzs : xs.map (· * n) = zs at *
 simp only [i64,bl] at *
 refine good_of_lwp mix Tryz.func51 rfl (by decide) (nt := 58) rfl (rs := [.cell 4 24,.tmp 5]) rfl (nle rfl) ?_
 (repeat (first|apply zO (by decide +kernel)|apply zP (by decide +kernel)|(apply zS;(case h=>constructor<;>decide))|((first|apply l_go rfl|apply c_dec|apply zT rfl (by decide) rfl);(case hs=>(simp (disch := first|omega|exact kD rfl|exact kX rfl) only [smY,simprocAttr,bl,i64,smE,shp,ec_nil,undefL,undef,mk_pos3];exact rfl));first|refine c_bt ?_|refine c_bf ?_|refine zq ?_|(case hg=>assumption))))
 refine w_loop (α := {i : Nat // i ≤ xs.length ∧ (¬ (-200 ≤ n ∧ n ≤ 200) → ∀ j,j < i → xs.getD j 0 = 0)}) (fun i => st 58 (lk [(1,.lit (.int .i64 n)),(2,.ptr 0 0),(4,.ptr 1 0),(5,.lit (.int .i64 0)),(7,.own 2 0 i.1 1),(21,.sl xs.length (ec xs)),(22,.lit (.int .i64 xs.length)),(23,.lit (.int .i64 i.1))]) (lkH [(0,⟨24,[.lit (.int .i64 lv),.sl xs.length (ec xs)],false⟩),(1,⟨24,[.lit (.int .i64 0),nilL],false⟩),(2,⟨3,mI zs xs.length i.1,false⟩)]) 3) (fun i => xs.length - i.1) ⟨0,by simp⟩ ?_ ?_
 ·simp only [mI_of]
  (refine Sub.heapL [0,1,11] rfl (by decide) ?_ (by simp only [smL];decide) ?_ ?_;all_goals (first|(simp only [plainC,smF,dg,renL,renLs,simprocAttr,bl,i64,smE,shp,ec_nil,undefL,undef,mk_pos3];done) | (simp only [smF,dg,renL,renLs,simprocAttr,bl,i64,smE,shp,ec_nil,undefL,undef,mk_pos3];(repeat' apply And.intro);all_goals rfl) | (simp only [smF,dg,renL,renLs,simprocAttr,bl,i64,smE,shp,ec_nil,undefL,undef,mk_pos3]) | skip))
  rw [ec_zeros]
  exact ⟨trivial,trivial,rfl⟩
 ·rintro ⟨i,hi,hj⟩
  simp only [st]
  by_cases hlt : i < xs.length
  ·have c0 := hx.get i
   have hlz : (zs.take i).length = i := by rw [List.length_take];omega
   subst hzs
   by_cases hr : xs.getD i 0 = 0
   ·by_cases hi0 : i = 0
    ·simp only [mI_of hi0]
     have hm := map_take_succ (n := n) hlt
     rw [hr,Int.zero_mul] at hm
     (repeat (first|apply zO (by decide +kernel)|apply zP (by decide +kernel)|(apply zS;(case h=>constructor<;>decide))|((first|apply l_go rfl|apply c_dec|apply zT rfl (by decide) rfl);(case hs=>(simp (disch := first|omega|exact kD rfl|exact kX rfl) only [smY,simprocAttr,bl,i64,smE,shp,ec_nil,undefL,undef,hr];exact rfl));first|refine c_bt ?_|refine c_bf ?_|refine zq ?_|(case hg=>assumption))))
     refine ⟨⟨i + 1,by omega,fun hn j hj' => ?_⟩,?_,by simp only;omega⟩
     ·by_cases hji : j = i
      ·subst hji;exact hr
      ·exact hj hn j (by omega)
     ·simp only [mI_succ,nVi_succ,nBi_succ]
      rw [hm]
      ((refine Sub.heapL [0,1,21] rfl (by decide) ?_ (by simp only [smL];decide) ?_ ?_;all_goals (first|(simp only [plainC,smF,dg,renL,renLs,simprocAttr,bl,i64,smE,shp,ec_nil,undefL,undef,mk_pos3];done) | (simp only [smF,dg,renL,renLs,simprocAttr,bl,i64,smE,shp,ec_nil,undefL,undef,mk_pos3];(repeat' apply And.intro);all_goals rfl) | (simp only [smF,dg,renL,renLs,simprocAttr,bl,i64,smE,shp,ec_nil,undefL,undef,mk_pos3]) | skip));subst hi0;simp only [List.take_zero];exact ⟨trivial,trivial,trivial⟩)
    ·simp only [mI_ne hi0]
     have hm := map_take_succ (n := n) hlt
     rw [hr,Int.zero_mul] at hm
     (repeat (first|apply zO (by decide +kernel)|apply zP (by decide +kernel)|(apply zS;(case h=>constructor<;>decide))|((first|apply l_go rfl|apply c_dec|apply zT rfl (by decide) rfl);(case hs=>(simp (disch := first|omega|exact kD rfl|exact kX rfl) only [smY,simprocAttr,bl,i64,smE,shp,ec_nil,undefL,undef,hr];exact rfl));first|refine c_bt ?_|refine c_bf ?_|refine zq ?_|(case hg=>assumption))))
     refine ⟨⟨i + 1,by omega,fun hn j hj' => ?_⟩,?_,by simp only;omega⟩
     ·by_cases hji : j = i
      ·subst hji;exact hr
      ·exact hj hn j (by omega)
     ·simp only [mI_succ,nVi_succ,nBi_succ]
      rw [hm]
      ((refine Sub.heapL [0,1,21] rfl (by decide) ?_ (by simp only [smL];decide) ?_ ?_;all_goals (first|(simp only [plainC,smF,dg,renL,renLs,simprocAttr,bl,i64,smE,shp,ec_nil,undefL,undef,mk_pos3];done) | (simp only [smF,dg,renL,renLs,simprocAttr,bl,i64,smE,shp,ec_nil,undefL,undef,mk_pos3];(repeat' apply And.intro);all_goals rfl) | (simp only [smF,dg,renL,renLs,simprocAttr,bl,i64,smE,shp,ec_nil,undefL,undef,mk_pos3]) | skip));all_goals (first | done | trace_state))
   ·by_cases hn : -200 ≤ n ∧ n ≤ 200
    ·by_cases hi0 : i = 0
     ·simp only [mI_of hi0]
      have hm := map_take_succ (n := n) hlt
      have hb := mul_bd2 c0 hn
      (repeat (first|apply zO (by decide +kernel)|apply zP (by decide +kernel)|(apply zS;(case h=>constructor<;>decide))|((first|apply l_go rfl|apply c_dec|apply zT rfl (by decide) rfl);(case hs=>(simp (disch := first|omega|exact kD rfl|exact kX rfl) only [smY,simprocAttr,bl,i64,smE,shp,ec_nil,undefL,undef,mk_pos3];exact rfl));first|refine c_bt ?_|refine c_bf ?_|refine zq ?_|(case hg=>assumption))))
      refine ⟨⟨i + 1,by omega,fun hn' => absurd hn hn'⟩,?_,by simp only;omega⟩
      simp only [mI_succ,nVi_succ,nBi_succ]
      rw [hm]
      ((refine Sub.heapL [0,1,24] rfl (by decide) ?_ (by simp only [smL];decide) ?_ ?_;all_goals (first|(simp only [plainC,smF,dg,renL,renLs,simprocAttr,bl,i64,smE,shp,ec_nil,undefL,undef,mk_pos3];done) | (simp only [smF,dg,renL,renLs,simprocAttr,bl,i64,smE,shp,ec_nil,undefL,undef,mk_pos3];(repeat' apply And.intro);all_goals rfl) | (simp only [smF,dg,renL,renLs,simprocAttr,bl,i64,smE,shp,ec_nil,undefL,undef,mk_pos3]) | skip));subst hi0;simp only [List.take_zero];exact ⟨trivial,trivial,trivial⟩)
     ·simp only [mI_ne hi0]
      have hm := map_take_succ (n := n) hlt
      have hb := mul_bd2 c0 hn
      (repeat (first|apply zO (by decide +kernel)|apply zP (by decide +kernel)|(apply zS;(case h=>constructor<;>decide))|((first|apply l_go rfl|apply c_dec|apply zT rfl (by decide) rfl);(case hs=>(simp (disch := first|omega|exact kD rfl|exact kX rfl) only [smY,simprocAttr,bl,i64,smE,shp,ec_nil,undefL,undef,mk_pos3];exact rfl));first|refine c_bt ?_|refine c_bf ?_|refine zq ?_|(case hg=>assumption))))
      refine ⟨⟨i + 1,by omega,fun hn' => absurd hn hn'⟩,?_,by simp only;omega⟩
      simp only [mI_succ,nVi_succ,nBi_succ]
      rw [hm]
      ((refine Sub.heapL [0,1,24] rfl (by decide) ?_ (by simp only [smL];decide) ?_ ?_;all_goals (first|(simp only [plainC,smF,dg,renL,renLs,simprocAttr,bl,i64,smE,shp,ec_nil,undefL,undef,mk_pos3];done) | (simp only [smF,dg,renL,renLs,simprocAttr,bl,i64,smE,shp,ec_nil,undefL,undef,mk_pos3];(repeat' apply And.intro);all_goals rfl) | (simp only [smF,dg,renL,renLs,simprocAttr,bl,i64,smE,shp,ec_nil,undefL,undef,mk_pos3]) | skip));all_goals (first | done | trace_state))
    ·obtain rfl := h3 (fun hp => (hp.resolve_left hn) i hlt |> hr)
     by_cases hn1 : n < -200
     ·(repeat (first|apply zO (by decide +kernel)|apply zP (by decide +kernel)|(apply zS;(case h=>constructor<;>decide))|((first|apply l_go rfl|apply c_dec|apply zT rfl (by decide) rfl);(case hs=>(simp (disch := first|omega|exact kD rfl|exact kX rfl) only [smY,simprocAttr,bl,i64,smE,shp,ec_nil,undefL,undef,mk_pos3];exact rfl));first|refine c_bt ?_|refine c_bf ?_|refine zq ?_|(case hg=>assumption))))
      ((first|apply g_ret|apply g_end);case hres => (simp only [smR];simp (disch := first|omega|exact kD rfl|exact kX rfl) only [smY,simprocAttr,bl,i64,smE,shp,ec_nil,undefL,undef,mk_pos3];exact rfl))
      simp (disch := first|omega|exact kD rfl|exact kX rfl) only [smY,simprocAttr,bl,i64,smE,shp,ec_nil,undefL,undef,mk_pos3]
     ·have hn2 : n > 200 := by omega
      (repeat (first|apply zO (by decide +kernel)|apply zP (by decide +kernel)|(apply zS;(case h=>constructor<;>decide))|((first|apply l_go rfl|apply c_dec|apply zT rfl (by decide) rfl);(case hs=>(simp (disch := first|omega|exact kD rfl|exact kX rfl) only [smY,simprocAttr,bl,i64,smE,shp,ec_nil,undefL,undef,mk_pos3];exact rfl));first|refine c_bt ?_|refine c_bf ?_|refine zq ?_|(case hg=>assumption))))
      ((first|apply g_ret|apply g_end);case hres => (simp only [smR];simp (disch := first|omega|exact kD rfl|exact kX rfl) only [smY,simprocAttr,bl,i64,smE,shp,ec_nil,undefL,undef,mk_pos3];exact rfl))
      simp (disch := first|omega|exact kD rfl|exact kX rfl) only [smY,simprocAttr,bl,i64,smE,shp,ec_nil,undefL,undef,mk_pos3]
  ·obtain rfl : i = xs.length := by omega
   have hp : pwOk xs n := by
    by_cases hn : -200 ≤ n ∧ n ≤ 200
    ·exact .inl hn
    ·exact .inr (hj hn)
   have hi0 : xs.length ≠ 0 := by omega
   have htk : zs.take xs.length = zs := List.take_of_length_le (by omega)
   simp only [mI_ne hi0]
   rw [htk]
   by_cases hall : ∀ x ∈ zs,-200 ≤ x ∧ x ≤ 200
   ·obtain rfl := h1 hp hall
    rw [dec_t hall] at gf
    (repeat (first|apply zO (by decide +kernel)|apply zP (by decide +kernel)|(apply zS;(case h=>constructor<;>decide))|((first|apply l_go rfl|apply c_dec|apply zT rfl (by decide) rfl);(case hs=>(simp (disch := first|omega|exact kD rfl|exact kX rfl) only [smY,simprocAttr,bl,i64,smE,shp,ec_nil,undefL,undef,htk];exact rfl));first|refine c_bt ?_|refine c_bf ?_|refine zq ?_|(case hg=>assumption))))
    ((first|apply g_ret|apply g_end);case hres => (simp only [smR];simp (disch := first|omega|exact kD rfl|exact kX rfl) only [smY,simprocAttr,bl,i64,smE,shp,ec_nil,undefL,undef,htk];exact rfl))
    simp (disch := first|omega|exact kD rfl|exact kX rfl) only [smY,simprocAttr,bl,i64,smE,shp,ec_nil,undefL,undef,htk]
    all_goals trace_state
   ·obtain rfl := h2 hp hall
    rw [dec_f hall] at gf
    (repeat (first|apply zO (by decide +kernel)|apply zP (by decide +kernel)|(apply zS;(case h=>constructor<;>decide))|((first|apply l_go rfl|apply c_dec|apply zT rfl (by decide) rfl);(case hs=>(simp (disch := first|omega|exact kD rfl|exact kX rfl) only [smY,simprocAttr,bl,i64,smE,shp,ec_nil,undefL,undef,htk];exact rfl));first|refine c_bt ?_|refine c_bf ?_|refine zq ?_|(case hg=>assumption))))
    ((first|apply g_ret|apply g_end);case hres => (simp only [smR];simp (disch := first|omega|exact kD rfl|exact kX rfl) only [smY,simprocAttr,bl,i64,smE,shp,ec_nil,undefL,undef,htk];exact rfl))
    simp (disch := first|omega|exact kD rfl|exact kX rfl) only [smY,simprocAttr,bl,i64,smE,shp,ec_nil,undefL,undef,htk]
    all_goals trace_state
theorem rpower_gen {lv : Nat} {xs : List Int} (hx : EtaOk lv xs) (n : Int) (hn : -9223372036854775808 ≤ n ∧ n ≤ 9223372036854775807) (r : LV) (h1 : pwOk xs n → (∀ x ∈ xs.map (· * n),-200 ≤ x ∧ x ≤ 200) → r = shp lv 0 (.sl xs.length (ec (xs.map (· * n))))) (h2 : pwOk xs n → ¬ (∀ x ∈ xs.map (· * n),-200 ≤ x ∧ x ≤ 200) → r = shp 0 7 (.sl 0 [])) (h3 : ¬ pwOk xs n → r = shp 0 7 (.sl 0 [])) : PureGood Tryz.prog 52 [.agg [i64 lv,.sl xs.length (ec xs)],i64 n] r := by
 have n1 := hx.n1
 have n2 := hx.n2
 have hN1 : 1 ≤ xs.length := by rw [hx.len];exact divN_length_pos n1
 have hN2 := hx.len_le
 have hzl : (xs.map (· * n)).length = xs.length := by simp
 have g1 := rcheck_good lv xs (by omega) (by omega)
 have he : etaErr lv xs = 0 := etaErr_zero hx
 rw [he] at g1
 have gb : pwOk xs n → PureGood Tryz.prog 111 [.agg [i64 lv,.sl xs.length (ec (xs.map (· * n)))]] r := fun hp => by
  have := bounded_gen lv (xs.map (· * n)) (by omega) r (fun h => by rw [h1 hp h,hzl]) (fun h => h2 hp h)
  rw [hzl] at this
  exact this
 generalize hzs : xs.map (· * n) = zs at *
 simp only [i64,bl] at *
 refine good_of_lwp mix Tryz.func52 rfl (by decide) (nt := 64) rfl (rs := [.cell 4 24,.tmp 5]) rfl (nle rfl) ?_
 (repeat (first|apply zO (by decide +kernel)|apply zP (by decide +kernel)|(apply zS;(case h=>constructor<;>decide))|((first|apply l_go rfl|apply c_dec|apply zT rfl (by decide) rfl);(case hs=>(simp (disch := first|omega|exact kD rfl|exact kX rfl) only [smY,simprocAttr,bl,i64,smE,shp,ec_nil,undefL,undef,mk_pos3];exact rfl));first|refine c_bt ?_|refine c_bf ?_|refine zq ?_|(case hg=>assumption))))
 refine w_loop (α := {i : Nat // i ≤ xs.length ∧ (¬ (-200 ≤ n ∧ n ≤ 200) → ∀ j,j < i → xs.getD j 0 = 0)}) (fun i => st 64 (lk [(1,.lit (.int .i64 n)),(2,.ptr 0 0),(4,.ptr 1 0),(5,.lit (.int .i64 0)),(7,.ptr 2 0),(8,.lit (.int .i64 i.1))]) (lkH ((0,⟨24,[.lit (.int .i64 lv),.sl xs.length (ec xs)],false⟩) :: (1,⟨24,[.lit (.int .i64 0),nilL],false⟩) :: (2,⟨24,[.lit (.int .i64 lv),nVi 3 i.1],false⟩) :: nBi 3 i.1 (ec (zs.take i.1)))) 4) (fun i => xs.length - i.1) ⟨0,by simp⟩ ?_ ?_
 ·simp only [nVi_zero,nBi_zero]
  (refine Sub.heapR [0,1,11,99] rfl (by decide) ?_ (by simp only [smL];decide) ?_;all_goals (first|(simp only [smF,dg,renL,renLs,simprocAttr,bl,i64,smE,shp,ec_nil,undefL,undef,mk_pos3];done) | (simp only [smF,dg,renL,renLs,simprocAttr,bl,i64,smE,shp,ec_nil,undefL,undef,mk_pos3,Option.some.injEq,Blk.mk.injEq,true_and,and_true];first | done | (repeat' (first | apply And.intro | (refine ⟨_,rfl,?_⟩;simp only [smF,dg,renL,renLs,simprocAttr,bl,i64,smE,shp,ec_nil,undefL,undef,mk_pos3];first | done | rfl)))) | skip))
  all_goals (first | done | trace_state)
 ·rintro ⟨i,hi,hj⟩
  simp only [st]
  by_cases hlt : i < xs.length
  ·have c0 := hx.get i
   have hlz : (zs.take i).length = i := by rw [List.length_take];omega
   subst hzs
   by_cases hr : xs.getD i 0 = 0
   ·by_cases hi0 : i = 0
    ·simp only [nVi_of hi0,nBi_of hi0]
     have hm := map_take_succ (n := n) hlt
     rw [hr,Int.zero_mul] at hm
     (repeat (first|apply zO (by decide +kernel)|apply zP (by decide +kernel)|(apply zS;(case h=>constructor<;>decide))|((first|apply l_go rfl|apply c_dec|apply zT rfl (by decide) rfl);(case hs=>(simp (disch := first|omega|exact kD rfl|exact kX rfl) only [smY,simprocAttr,bl,i64,smE,shp,ec_nil,undefL,undef,hr];exact rfl));first|refine c_bt ?_|refine c_bf ?_|refine zq ?_|(case hg=>assumption))))
     refine ⟨⟨i + 1,by omega,fun hn j hj' => ?_⟩,?_,by simp only;omega⟩
     ·by_cases hji : j = i
      ·subst hji;exact hr
      ·exact hj hn j (by omega)
     ·simp only [mI_succ,nVi_succ,nBi_succ]
      rw [hm]
      (subst hi0;(refine Sub.heapR [0,1,2,34] rfl (by decide) ?_ (by simp only [smL];decide) ?_;all_goals (first|(simp only [smF,dg,renL,renLs,simprocAttr,bl,i64,smE,shp,ec_nil,undefL,undef,mk_pos3];done) | (simp only [smF,dg,renL,renLs,simprocAttr,bl,i64,smE,shp,ec_nil,undefL,undef,mk_pos3,Option.some.injEq,Blk.mk.injEq,true_and,and_true];first | done | (repeat' (first | apply And.intro | (refine ⟨_,rfl,?_⟩;simp only [smF,dg,renL,renLs,simprocAttr,bl,i64,smE,shp,ec_nil,undefL,undef,mk_pos3];first | done | rfl)))) | skip));rw [List.take_zero,List.nil_append,ec_one];exact ⟨_,rfl,rfl⟩)
    ·simp only [nVi_ne hi0,nBi_ne hi0]
     have hm := map_take_succ (n := n) hlt
     rw [hr,Int.zero_mul] at hm
     (repeat (first|apply zO (by decide +kernel)|apply zP (by decide +kernel)|(apply zS;(case h=>constructor<;>decide))|((first|apply l_go rfl|apply c_dec|apply zT rfl (by decide) rfl);(case hs=>(simp (disch := first|omega|exact kD rfl|exact kX rfl) only [smY,simprocAttr,bl,i64,smE,shp,ec_nil,undefL,undef,hr];exact rfl));first|refine c_bt ?_|refine c_bf ?_|refine zq ?_|(case hg=>assumption))))
     refine ⟨⟨i + 1,by omega,fun hn j hj' => ?_⟩,?_,by simp only;omega⟩
     ·by_cases hji : j = i
      ·subst hji;exact hr
      ·exact hj hn j (by omega)
     ·simp only [mI_succ,nVi_succ,nBi_succ]
      rw [hm]
      ((refine Sub.heapR [0,1,2,34] rfl (by decide) ?_ (by simp only [smL];decide) ?_;all_goals (first|(simp only [smF,dg,renL,renLs,simprocAttr,bl,i64,smE,shp,ec_nil,undefL,undef,mk_pos3];done) | (simp only [smF,dg,renL,renLs,simprocAttr,bl,i64,smE,shp,ec_nil,undefL,undef,mk_pos3,Option.some.injEq,Blk.mk.injEq,true_and,and_true];first | done | (repeat' (first | apply And.intro | (refine ⟨_,rfl,?_⟩;simp only [smF,dg,renL,renLs,simprocAttr,bl,i64,smE,shp,ec_nil,undefL,undef,mk_pos3];first | done | rfl)))) | skip));all_goals (first | done | trace_state))
   ·by_cases hn : -200 ≤ n ∧ n ≤ 200
    ·by_cases hi0 : i = 0
     ·simp only [nVi_of hi0,nBi_of hi0]
      have hm := map_take_succ (n := n) hlt
      have hb := mul_bd2 c0 hn
      (repeat (first|apply zO (by decide +kernel)|apply zP (by decide +kernel)|(apply zS;(case h=>constructor<;>decide))|((first|apply l_go rfl|apply c_dec|apply zT rfl (by decide) rfl);(case hs=>(simp (disch := first|omega|exact kD rfl|exact kX rfl) only [smY,simprocAttr,bl,i64,smE,shp,ec_nil,undefL,undef,mk_pos3];exact rfl));first|refine c_bt ?_|refine c_bf ?_|refine zq ?_|(case hg=>assumption))))
      refine ⟨⟨i + 1,by omega,fun hn' => absurd hn hn'⟩,?_,by simp only;omega⟩
      simp only [mI_succ,nVi_succ,nBi_succ]
      rw [hm]
      (subst hi0;(refine Sub.heapR [0,1,2,42] rfl (by decide) ?_ (by simp only [smL];decide) ?_;all_goals (first|(simp only [smF,dg,renL,renLs,simprocAttr,bl,i64,smE,shp,ec_nil,undefL,undef,mk_pos3];done) | (simp only [smF,dg,renL,renLs,simprocAttr,bl,i64,smE,shp,ec_nil,undefL,undef,mk_pos3,Option.some.injEq,Blk.mk.injEq,true_and,and_true];first | done | (repeat' (first | apply And.intro | (refine ⟨_,rfl,?_⟩;simp only [smF,dg,renL,renLs,simprocAttr,bl,i64,smE,shp,ec_nil,undefL,undef,mk_pos3];first | done | rfl)))) | skip));rw [List.take_zero,List.nil_append,ec_one];exact ⟨_,rfl,rfl⟩)
     ·simp only [nVi_ne hi0,nBi_ne hi0]
      have hm := map_take_succ (n := n) hlt
      have hb := mul_bd2 c0 hn
      (repeat (first|apply zO (by decide +kernel)|apply zP (by decide +kernel)|(apply zS;(case h=>constructor<;>decide))|((first|apply l_go rfl|apply c_dec|apply zT rfl (by decide) rfl);(case hs=>(simp (disch := first|omega|exact kD rfl|exact kX rfl) only [smY,simprocAttr,bl,i64,smE,shp,ec_nil,undefL,undef,mk_pos3];exact rfl));first|refine c_bt ?_|refine c_bf ?_|refine zq ?_|(case hg=>assumption))))
      refine ⟨⟨i + 1,by omega,fun hn' => absurd hn hn'⟩,?_,by simp only;omega⟩
      simp only [mI_succ,nVi_succ,nBi_succ]
      rw [hm]
      ((refine Sub.heapR [0,1,2,42] rfl (by decide) ?_ (by simp only [smL];decide) ?_;all_goals (first|(simp only [smF,dg,renL,renLs,simprocAttr,bl,i64,smE,shp,ec_nil,undefL,undef,mk_pos3];done) | (simp only [smF,dg,renL,renLs,simprocAttr,bl,i64,smE,shp,ec_nil,undefL,undef,mk_pos3,Option.some.injEq,Blk.mk.injEq,true_and,and_true];first | done | (repeat' (first | apply And.intro | (refine ⟨_,rfl,?_⟩;simp only [smF,dg,renL,renLs,simprocAttr,bl,i64,smE,shp,ec_nil,undefL,undef,mk_pos3];first | done | rfl)))) | skip));all_goals (first | done | trace_state))
    ·obtain rfl := h3 (fun hp => (hp.resolve_left hn) i hlt |> hr)
     clear gb
     by_cases hi0 : i = 0
     ·simp only [nVi_of hi0,nBi_of hi0]
      by_cases hn1 : n < -200
      ·(repeat (first|apply zO (by decide +kernel)|apply zP (by decide +kernel)|(apply zS;(case h=>constructor<;>decide))|((first|apply l_go rfl|apply c_dec|apply zT rfl (by decide) rfl);(case hs=>(simp (disch := first|omega|exact kD rfl|exact kX rfl) only [smY,simprocAttr,bl,i64,smE,shp,ec_nil,undefL,undef,mk_pos3];exact rfl));first|refine c_bt ?_|refine c_bf ?_|refine zq ?_|(case hg=>assumption))))
       ((first|apply g_ret|apply g_end);case hres => (simp only [smR];simp (disch := first|omega|exact kD rfl|exact kX rfl) only [smY,simprocAttr,bl,i64,smE,shp,ec_nil,undefL,undef,mk_pos3];exact rfl))
       simp (disch := first|omega|exact kD rfl|exact kX rfl) only [smY,simprocAttr,bl,i64,smE,shp,ec_nil,undefL,undef,mk_pos3]
      ·have hn2 : n > 200 := by omega
       (repeat (first|apply zO (by decide +kernel)|apply zP (by decide +kernel)|(apply zS;(case h=>constructor<;>decide))|((first|apply l_go rfl|apply c_dec|apply zT rfl (by decide) rfl);(case hs=>(simp (disch := first|omega|exact kD rfl|exact kX rfl) only [smY,simprocAttr,bl,i64,smE,shp,ec_nil,undefL,undef,mk_pos3];exact rfl));first|refine c_bt ?_|refine c_bf ?_|refine zq ?_|(case hg=>assumption))))
       ((first|apply g_ret|apply g_end);case hres => (simp only [smR];simp (disch := first|omega|exact kD rfl|exact kX rfl) only [smY,simprocAttr,bl,i64,smE,shp,ec_nil,undefL,undef,mk_pos3];exact rfl))
       simp (disch := first|omega|exact kD rfl|exact kX rfl) only [smY,simprocAttr,bl,i64,smE,shp,ec_nil,undefL,undef,mk_pos3]
     ·simp only [nVi_ne hi0,nBi_ne hi0]
      by_cases hn1 : n < -200
      ·(repeat (first|apply zO (by decide +kernel)|apply zP (by decide +kernel)|(apply zS;(case h=>constructor<;>decide))|((first|apply l_go rfl|apply c_dec|apply zT rfl (by decide) rfl);(case hs=>(simp (disch := first|omega|exact kD rfl|exact kX rfl) only [smY,simprocAttr,bl,i64,smE,shp,ec_nil,undefL,undef,mk_pos3];exact rfl));first|refine c_bt ?_|refine c_bf ?_|refine zq ?_|(case hg=>assumption))))
       ((first|apply g_ret|apply g_end);case hres => (simp only [smR];simp (disch := first|omega|exact kD rfl|exact kX rfl) only [smY,simprocAttr,bl,i64,smE,shp,ec_nil,undefL,undef,mk_pos3];exact rfl))
       simp (disch := first|omega|exact kD rfl|exact kX rfl) only [smY,simprocAttr,bl,i64,smE,shp,ec_nil,undefL,undef,mk_pos3]
      ·have hn2 : n > 200 := by omega
       (repeat (first|apply zO (by decide +kernel)|apply zP (by decide +kernel)|(apply zS;(case h=>constructor<;>decide))|((first|apply l_go rfl|apply c_dec|apply zT rfl (by decide) rfl);(case hs=>(simp (disch := first|omega|exact kD rfl|exact kX rfl) only [smY,simprocAttr,bl,i64,smE,shp,ec_nil,undefL,undef,mk_pos3];exact rfl));first|refine c_bt ?_|refine c_bf ?_|refine zq ?_|(case hg=>assumption))))
       ((first|apply g_ret|apply g_end);case hres => (simp only [smR];simp (disch := first|omega|exact kD rfl|exact kX rfl) only [smY,simprocAttr,bl,i64,smE,shp,ec_nil,undefL,undef,mk_pos3];exact rfl))
       simp (disch := first|omega|exact kD rfl|exact kX rfl) only [smY,simprocAttr,bl,i64,smE,shp,ec_nil,undefL,undef,mk_pos3]
  ·obtain rfl : i = xs.length := by omega
   have hp : pwOk xs n := by
    by_cases hn : -200 ≤ n ∧ n ≤ 200
    ·exact .inl hn
    ·exact .inr (hj hn)
   have gb := gb hp
   have hi0 : xs.length ≠ 0 := by omega
   have htk : zs.take xs.length = zs := List.take_of_length_le (by omega)
   simp only [nVi_ne hi0,nBi_ne hi0]
   rw [htk]
   by_cases hall : ∀ x ∈ zs,-200 ≤ x ∧ x ≤ 200
   ·obtain rfl := h1 hp hall
    simp only [shp] at gb
    (repeat (first|apply zO (by decide +kernel)|apply zP (by decide +kernel)|(apply zS;(case h=>constructor<;>decide))|((first|apply l_go rfl|apply c_dec|apply zT rfl (by decide) rfl);(case hs=>(simp (disch := first|omega|exact kD rfl|exact kX rfl) only [smY,simprocAttr,bl,i64,smE,shp,ec_nil,undefL,undef,htk];exact rfl));first|refine c_bt ?_|refine c_bf ?_|refine zq ?_|(case hg=>assumption))))
    ((first|apply g_ret|apply g_end);case hres => (simp only [smR];simp (disch := first|omega|exact kD rfl|exact kX rfl) only [smY,simprocAttr,bl,i64,smE,shp,ec_nil,undefL,undef,mk_pos3];exact rfl))
    simp (disch := first|omega|exact kD rfl|exact kX rfl) only [smY,simprocAttr,bl,i64,smE,shp,ec_nil,undefL,undef,mk_pos3]
    all_goals trace_state
   ·obtain rfl := h2 hp hall
    simp only [shp] at gb
    (repeat (first|apply zO (by decide +kernel)|apply zP (by decide +kernel)|(apply zS;(case h=>constructor<;>decide))|((first|apply l_go rfl|apply c_dec|apply zT rfl (by decide) rfl);(case hs=>(simp (disch := first|omega|exact kD rfl|exact kX rfl) only [smY,simprocAttr,bl,i64,smE,shp,ec_nil,undefL,undef,htk];exact rfl));first|refine c_bt ?_|refine c_bf ?_|refine zq ?_|(case hg=>assumption))))
    ((first|apply g_ret|apply g_end);case hres => (simp only [smR];simp (disch := first|omega|exact kD rfl|exact kX rfl) only [smY,simprocAttr,bl,i64,smE,shp,ec_nil,undefL,undef,mk_pos3];exact rfl))
    simp (disch := first|omega|exact kD rfl|exact kX rfl) only [smY,simprocAttr,bl,i64,smE,shp,ec_nil,undefL,undef,mk_pos3]
    all_goals trace_state
theorem power_both (lv : Int) (xs : List Int) (n : Int) (hlv : -9223372036854775808 ≤ lv ∧ lv ≤ 9223372036854775807) (hl : xs.length ≤ 1000000) (hn : -9223372036854775808 ≤ n ∧ n ≤ 9223372036854775807) : bothE 51 52 [.agg [i64 lv,.sl xs.length (ec xs)],i64 n] := by
 by_cases he : etaErr lv xs = 0
 ·obtain ⟨m,rfl,hx⟩ := etaErr_inv he
  have e0 : shp 0 7 (.sl ([] : List Int).length (ec [])) = shp 0 7 (.sl 0 []) := by rw [ec_nil];rfl
  have l1 := hx.len_le
  have hzl : (xs.map (· * n)).length = xs.length := by simp
  by_cases hp : pwOk xs n
  ·by_cases hall : ∀ x ∈ xs.map (· * n),-200 ≤ x ∧ x ≤ 200
   ·refine ⟨m,xs.map (· * n),0,by omega,?_,?_⟩
    ·rw [hzl];exact epower_gen hx n hn _ (fun _ _ => rfl) (fun _ h => absurd hall h) (fun h => absurd hp h)
    ·rw [hzl];exact rpower_gen hx n hn _ (fun _ _ => rfl) (fun _ h => absurd hall h) (fun h => absurd hp h)
   ·exact ⟨0,[],7,by simp,epower_gen hx n hn _ (fun _ h => absurd h hall) (fun _ _ => e0) (fun _ => e0),rpower_gen hx n hn _ (fun _ h => absurd h hall) (fun _ _ => e0) (fun _ => e0)⟩
  ·exact ⟨0,[],7,by simp,epower_gen hx n hn _ (fun h => absurd h hp) (fun h => absurd h hp) (fun _ => e0),rpower_gen hx n hn _ (fun h => absurd h hp) (fun h => absurd h hp) (fun _ => e0)⟩
 ·have g1 := check_good lv xs hlv hl
  have g2 := rcheck_good lv xs hlv hl
  generalize etaErr lv xs = e at *
  simp only [i64,bl] at *
  refine ⟨0,[],e,by simp,?_,?_⟩
  ·
   refine good_of_lwp mix Tryz.func51 rfl (by decide) (nt := 58) rfl (rs := [.cell 4 24,.tmp 5]) rfl (nle rfl) ?_
   (repeat (first|apply zO (by decide +kernel)|apply zP (by decide +kernel)|(apply zS;(case h=>constructor<;>decide))|((first|apply l_go rfl|apply c_dec|apply zT rfl (by decide) rfl);(case hs=>(simp (disch := first|omega|exact kD rfl|exact kX rfl) only [smY,simprocAttr,bl,i64,smE,shp,ec_nil,undefL,undef,mk_pos3];exact rfl));first|refine c_bt ?_|refine c_bf ?_|refine zq ?_|(case hg=>assumption))))
   ((first|apply g_ret|apply g_end);case hres => (simp only [smR];simp (disch := first|omega|exact kD rfl|exact kX rfl) only [smY,simprocAttr,bl,i64,smE,shp,ec_nil,undefL,undef,mk_pos3];exact rfl))
   simp (disch := first|omega|exact kD rfl|exact kX rfl) only [smY,simprocAttr,bl,i64,smE,shp,ec_nil,undefL,undef,mk_pos3]
  ·
   refine good_of_lwp mix Tryz.func52 rfl (by decide) (nt := 64) rfl (rs := [.cell 4 24,.tmp 5]) rfl (nle rfl) ?_
   (repeat (first|apply zO (by decide +kernel)|apply zP (by decide +kernel)|(apply zS;(case h=>constructor<;>decide))|((first|apply l_go rfl|apply c_dec|apply zT rfl (by decide) rfl);(case hs=>(simp (disch := first|omega|exact kD rfl|exact kX rfl) only [smY,simprocAttr,bl,i64,smE,shp,ec_nil,undefL,undef,mk_pos3];exact rfl));first|refine c_bt ?_|refine c_bf ?_|refine zq ?_|(case hg=>assumption))))
   ((first|apply g_ret|apply g_end);case hres => (simp only [smR];simp (disch := first|omega|exact kD rfl|exact kX rfl) only [smY,simprocAttr,bl,i64,smE,shp,ec_nil,undefL,undef,mk_pos3];exact rfl))
   simp (disch := first|omega|exact kD rfl|exact kX rfl) only [smY,simprocAttr,bl,i64,smE,shp,ec_nil,undefL,undef,mk_pos3]
end Go.Proofs.YtbajpjjbaffnnaaGreat