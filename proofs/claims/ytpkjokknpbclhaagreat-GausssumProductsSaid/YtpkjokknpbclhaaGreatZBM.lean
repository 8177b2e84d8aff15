/- Contracts of functions of the program, and what proves them (texts: Q15 Q16 Q17 Q18). -/
import Derived.Test.YtpkjokknpbclhaaGreatZAZ
set_option linter.all false
namespace Go.Proofs.YtpkjokknpbclhaaGreat
open Go Go.Lg Go.Num
set_option maxRecDepth 100000
set_option maxHeartbeats 8000000
def rtN (n d : Nat) : Nat × Nat := (n % d / Nat.gcd (n % d) d,d / Nat.gcd (n % d) d)
def tmN (a b : Nat × Nat) : Nat × Nat := rtN (a.1 * b.2 + b.1 * a.2) (a.2 * b.2)
def pwN (n g y : Nat) : Nat → Nat
 | 0 => y
 | k + 1 => pwN n g y k * g % n
def yN (n : Nat) (t : List Nat) : Nat → Nat
 | 0 => 1 % n
 | i + 1 => pwN n ((gn n).getD i 0) (yN n t i) (t.getD i 0)
def wN (n : Nat) (v t : List Nat) : Nat → Nat × Nat
 | 0 => (0,1)
 | i + 1 => tmN (wN n v t i) (rtN (t.getD i 0 * v.getD i 0) ((od n).getD i 0))
def incN (o : List Nat) : Nat → List Nat → Nat → Option (List Nat)
 | 0,_,_ => none
 | f + 1,t,i => if t.getD i 0 + 1 = o.getD i 0 then incN o f (t.set i 0) (i + 1) else some (t.set i (t.getD i 0 + 1))
def fndN (n : Nat) (v : List Nat) (r : Nat) : Nat → List Nat → Option (Nat × Nat)
 | 0,_ => none
 | f + 1,t => if yN n t (od n).length = r then some (wN n v t (od n).length) else match incN (od n) (od n).length t 0 with
   | none => some (wN n v t (od n).length)
   | some t' => fndN n v r f t'
theorem rtN_bd {n d : Nat} (hd : 1 ≤ d) : (rtN n d).1 < (rtN n d).2 ∧ 1 ≤ (rtN n d).2 ∧ (rtN n d).2 ≤ d := by
 have hg : 0 < Nat.gcd (n % d) d := Nat.gcd_pos_of_pos_right _ hd
 have hle : Nat.gcd (n % d) d ≤ d := Nat.le_of_dvd hd (Nat.gcd_dvd_right _ _)
 have h2 : 0 < d / Nat.gcd (n % d) d := Nat.div_pos hle hg
 have h3 := Nat.div_le_self d (Nat.gcd (n % d) d)
 refine ⟨?_,h2,h3⟩
 unfold rtN
 simp only
 rw [Nat.div_lt_iff_lt_mul hg,Nat.div_mul_cancel (Nat.gcd_dvd_right _ _)]
 exact Nat.mod_lt _ hd
theorem tmN_bd {a b : Nat × Nat} {A : Nat} (ha : 1 ≤ a.2 ∧ a.2 ≤ A) (hb : 1 ≤ b.2 ∧ b.2 ≤ 60) : (tmN a b).1 < (tmN a b).2 ∧ 1 ≤ (tmN a b).2 ∧ (tmN a b).2 ≤ A * 60 := by
 have h := rtN_bd (n := a.1 * b.2 + b.1 * a.2) (d := a.2 * b.2) (Nat.mul_pos ha.1 hb.1)
 have h2 : a.2 * b.2 ≤ A * 60 := Nat.mul_le_mul ha.2 hb.2
 exact ⟨h.1,h.2.1,Nat.le_trans h.2.2 h2⟩
theorem wN_bd {n : Nat} (hn : n ≤ 60) (v t : List Nat) : ∀ i,i ≤ (od n).length → (wN n v t i).1 < (wN n v t i).2 ∧ 1 ≤ (wN n v t i).2 ∧ (wN n v t i).2 ≤ 60 ^ i
 | 0,_ => ⟨Nat.zero_lt_one,Nat.le_refl _,Nat.le_refl _⟩
 | i + 1,h => by
   have ih := wN_bd hn v t i (by omega)
   have ho := od_pos hn (show i < (od n).length by omega)
   have hr := rtN_bd (n := t.getD i 0 * v.getD i 0) ho.1
   rw [wN,Nat.pow_succ]
   exact tmN_bd ih.2 ⟨hr.2.1,by omega⟩
attribute [local irreducible] Go.Lg.lrun Go.Lg.lwp Go.Lg.exThen Go.Lg.exBlk Go.Lg.keep Go.Lg.goodPost ec pt gn od
theorem rtimes_big (a b c d : Nat) (ha : a ≤ 1000000) (hb : 1 ≤ b ∧ b ≤ 1000000) (hc : c ≤ 1000) (hd : 1 ≤ d ∧ d ≤ 1000) : PureGood Tryz.prog 52 [.agg [.lit (.bool false),i64 a,i64 b],.agg [.lit (.bool false),i64 c,i64 d]] (.agg [.lit (.bool false),i64 ((tmN (a,b) (c,d)).1 : Nat),i64 ((tmN (a,b) (c,d)).2 : Nat)]) := by
 have m1 : a * d ≤ 1000000 * 1000 := Nat.mul_le_mul ha (by omega)
 have m2 : c * b ≤ 1000 * 1000000 := Nat.mul_le_mul (by omega) (by omega)
 have m3 : b * d ≤ 1000000 * 1000 := Nat.mul_le_mul (by omega) (by omega)
 have m4 : 1 ≤ b * d := Nat.mul_pos hb.1 hd.1
 have g := root_good (a * d + c * b) (b * d) m4 (by omega) (by omega)
 unfold tmN rtN
 simp only
 have e1 : (a : Int) * (d : Int) = ((a * d : Nat) : Int) := by simp
 have e2 : (c : Int) * (b : Int) = ((c * b : Nat) : Int) := by simp
 have e3 : (b : Int) * (d : Int) = ((b * d : Nat) : Int) := by simp
 have e4 : ((a * d : Nat) : Int) + ((c * b : Nat) : Int) = ((a * d + c * b : Nat) : Int) := by simp
 generalize a * d = ad at *
 generalize c * b = cb at *
 generalize b * d = bd at *
 generalize hs : ad + cb = s at *
 generalize s % bd / Nat.gcd (s % bd) bd = x at *
 generalize bd / Nat.gcd (s % bd) bd = y at *
 simp only [i64] at *
 refine good_of_lwp mix Tryz.func52 rfl (by decide) (nt := 29) rfl (rs := [.cell 4 52]) rfl (nle rfl) ?_
 (repeat (first|apply zO (by decide +kernel)|apply zP (by decide +kernel)|(apply zS;(case h=>constructor<;>decide))|((first|apply l_go rfl|apply c_dec|apply zT rfl (by decide) rfl);(case hs=>(simp (disch := first|omega|exact kD rfl|exact kX rfl) only [smY,simprocAttr,bl,i64,e1,e2,e3,e4];exact rfl));first|refine c_bt ?_|refine c_bf ?_|refine zq ?_|(case hg=>assumption))))
 ((first|apply g_ret|apply g_end);case hres => (simp only [smR];simp (disch := first|omega|exact kD rfl|exact kX rfl) only [smY,simprocAttr,bl,i64,e1,e2,e3,e4];exact rfl))
 simp (disch := first|omega|exact kD rfl|exact kX rfl) only [smY,simprocAttr,bl,i64,e1,e2,e3,e4]
theorem rvalue_not {m : Int} {l : List Int} (hb : ChB m l) (a : Int) (ha : -4294967296 ≤ a ∧ a ≤ 4294967296) (hm : 1 ≤ m ∧ m ≤ 60) (hg : Int.gcd a m ≠ 1) : PureGood Tryz.prog 25 [.agg [i64 m,.sl l.length (ec l)],i64 a] (.agg [bl true,i64 0,i64 0]) := by
 have gg := gcd18_good a m (by omega) (by omega)
 have h1 : ¬ ((Int.gcd a m : Nat) : Int) = 1 := by omega
 generalize Int.gcd a m = g at *
 simp only [i64,bl] at *
 refine good_of_lwp mix Tryz.func25 rfl (by decide) (nt := 109) rfl (rs := [.cell 4 52]) rfl (nle rfl) ?_
 (repeat (first|apply zO (by decide +kernel)|apply zP (by decide +kernel)|(apply zS;(case h=>constructor<;>decide))|((first|apply l_go rfl|apply c_dec|apply zT rfl (by decide) rfl);(case hs=>(simp (disch := first|omega|exact kD rfl|exact kX rfl) only [smY,simprocAttr,bl,i64,smE];exact rfl));first|refine c_bt ?_|refine c_bf ?_|refine zq ?_|(case hg=>assumption))))
 ((first|apply g_ret|apply g_end);case hres => (simp only [smR];simp (disch := first|omega|exact kD rfl|exact kX rfl) only [smY,simprocAttr,bl,i64,smE];exact rfl))
 simp (disch := first|omega|exact kD rfl|exact kX rfl) only [smY,simprocAttr,bl,i64,smE]
end Go.Proofs.YtpkjokknpbclhaaGreat
namespace Go.Proofs.YtpkjokknpbclhaaGreat
open Go Go.Lg Go.Num
set_option maxRecDepth 100000
set_option maxHeartbeats 8000000
theorem nI_set (t : List Nat) (i z : Nat) : (nI t).set i (z : Int) = nI (t.set i z) := by simp [nI,List.map_set]
theorem nI_zeros (k : Nat) : List.replicate k (0 : Int) = nI (List.replicate k 0) := by simp [nI]
theorem pwN_lt {n g y : Nat} (hn : 1 ≤ n) (hy : y < n) : ∀ k,pwN n g y k < n
 | 0 => hy
 | k + 1 => Nat.mod_lt _ hn
theorem yN_lt {n : Nat} (hn : 1 ≤ n) (t : List Nat) : ∀ i,yN n t i < n
 | 0 => Nat.mod_lt _ hn
 | i + 1 => pwN_lt hn (yN_lt hn t i) _
attribute [local irreducible] Go.Lg.lrun Go.Lg.lwp Go.Lg.exThen Go.Lg.exBlk Go.Lg.keep Go.Lg.goodPost ec pt gn od
theorem modI_good (a : Int) (m : Nat) (ha : -4294967296 ≤ a ∧ a ≤ 4294967296) (hm : 1 ≤ m ∧ m ≤ 1000000) : PureGood Tryz.prog 53 [i64 a,i64 m] (i64 (rsd a m)) := by
 have h1 := emod_of_tmod a (m := m) (by omega)
 have h2 := tmod_bd a (b := m) (by omega)
 have h3 : ((rsd a m : Nat) : Int) = a % (m : Int) := by
  have := Int.emod_nonneg a (show (m : Int) ≠ 0 by omega)
  unfold rsd
  omega
 rw [h3]
 by_cases h : a.tmod m < 0
 ·rw [if_pos h] at h1
  rw [h1]
  clear h1 h3
  simp only [i64]
  refine good_of_lwp mix Tryz.func53 rfl (by decide) (nt := 15) rfl (rs := [.tmp 4]) rfl (nle rfl) ?_
  (repeat (first|apply zO (by decide +kernel)|apply zP (by decide +kernel)|(apply zS;(case h=>constructor<;>decide))|((first|apply l_go rfl|apply c_dec|apply zT rfl (by decide) rfl);(case hs=>(simp (disch := first|omega|exact kD rfl|exact kX rfl) only [smY,simprocAttr,bl,i64,smE];exact rfl));first|refine c_bt ?_|refine c_bf ?_|refine zq ?_|(case hg=>assumption))))
  ((first|apply g_ret|apply g_end);case hres => (simp only [smR];simp (disch := first|omega|exact kD rfl|exact kX rfl) only [smY,simprocAttr,bl,i64,smE];exact rfl))
  simp (disch := first|omega|exact kD rfl|exact kX rfl) only [smY,simprocAttr,bl,i64,smE]
 ·rw [if_neg h] at h1
  rw [h1]
  clear h1 h3
  simp only [i64]
  refine good_of_lwp mix Tryz.func53 rfl (by decide) (nt := 15) rfl (rs := [.tmp 4]) rfl (nle rfl) ?_
  (repeat (first|apply zO (by decide +kernel)|apply zP (by decide +kernel)|(apply zS;(case h=>constructor<;>decide))|((first|apply l_go rfl|apply c_dec|apply zT rfl (by decide) rfl);(case hs=>(simp (disch := first|omega|exact kD rfl|exact kX rfl) only [smY,simprocAttr,bl,i64,smE];exact rfl));first|refine c_bt ?_|refine c_bf ?_|refine zq ?_|(case hg=>assumption))))
  ((first|apply g_ret|apply g_end);case hres => (simp only [smR];simp (disch := first|omega|exact kD rfl|exact kX rfl) only [smY,simprocAttr,bl,i64,smE];exact rfl))
  simp (disch := first|omega|exact kD rfl|exact kX rfl) only [smY,simprocAttr,bl,i64,smE]
theorem rvalue_yes {n : Nat} {v : List Nat} (n1 : 1 ≤ n) (n2 : n ≤ 60) (hv : v.length = (od n).length) (hv2 : ∀ i, v.getD i 0 ≤ 60) (a : Int) (ha : -4294967296 ≤ a ∧ a ≤ 4294967296) (hg : Int.gcd a n = 1) {F x y : Nat} (hF : fndN n v (rsd a n) F (List.replicate (od n).length 0) = some (x, y)) :
  PureGood Tryz.prog 25 [.agg [i64 n,.sl (nI v).length (ec (nI v))],i64 a] (.agg [bl false,i64 x,i64 y]) := by
 have gg := gcd18_good a n (by omega) (by omega)
 rw [hg] at gg
 have gp := gens_good n1 n2
 rw [nlv_eq,nlv_eq] at gp
 have gm := modI_good a n ha (by omega)
 have r01 : PureGood Tryz.prog 51 [i64 0,i64 1] (.agg [.lit (.bool false),i64 0,i64 1]) := root_good 0 1 (by omega) (by omega) (by omega)
 obtain ⟨t1,t2,t3,t4,t5,t6,t7,t8,t9⟩ := tb (m := n) n2
 have hvl := nI_len v
 have hgl := nI_len (gn n)
 have hol := nI_len (od n)
 have e1n : (1 : Int) % (n : Int) = ((1 % n : Nat) : Int) := rfl
 simp only [i64,bl] at gg gp gm r01 ⊢
 rw [hvl,hv]
 generalize hk : (od n).length = k at *
 generalize rsd a n = r at *
 have hz := nI_zeros k
 refine good_of_lwp mix Tryz.func25 rfl (by decide) (nt := 109) rfl (rs := [.cell 4 52]) rfl (nle rfl) ?_
 (repeat (first|apply zO (by decide +kernel)|apply zP (by decide +kernel)|(apply zS;(case h=>constructor<;>decide))|((first|apply l_go rfl|apply c_dec|apply zT rfl (by decide) rfl);(case hs=>(simp (disch := first|omega|exact kD rfl|exact kX rfl) only [smY,simprocAttr,bl,i64,smE,ec_zeros,hz];exact rfl));first|refine c_bt ?_|refine c_bf ?_|refine zq ?_|(case hg=>assumption))))
 refine w_loop (α := {s : Nat × List Nat // s.2.length = k ∧ (∀ i,i < k → s.2.getD i 0 < (od n).getD i 0) ∧ fndN n v r s.1 s.2 = some (x,y)}) (fun s => st 109 (lk [(1,i64 a),(2,.ptr 0 0),(4,.ptr 1 0),(5,i64 n),(6,.sl k (ec (nI (gn n)))),(7,.sl k (ec (nI (od n)))),(8,.own 2 0 k 1)]) (lkH [(0,⟨24,[i64 n,.sl k (ec (nI v))],false⟩),(1,⟨52,[bl false,i64 0,i64 0],false⟩),(2,⟨3,ec (nI s.1.2),false⟩)]) 3) (fun s => s.1.1) ⟨(F,List.replicate k 0),by simp,fun i hi => by
  have h1 := od_pos (m := n) n2 (show i < (od n).length by omega)
  have h2 : (List.replicate k 0).getD i 0 = 0 := by simp [List.getD,List.getElem?_replicate,hi]
  simp only
  omega,hF⟩ ?_ ?_
 ·(refine Sub.heapL [0,1,18] rfl (by decide) ?_ (by simp only [smL];decide) ?_ ?_;all_goals (first|(simp only [plainC,smF,dg,renL,renLs,simprocAttr,bl,i64,smE,ec_zeros,hz];done) | (simp only [smF,dg,renL,renLs,simprocAttr,bl,i64,smE,ec_zeros,hz];(repeat' apply And.intro);all_goals rfl) | (simp only [smF,dg,renL,renLs,simprocAttr,bl,i64,smE,ec_zeros,hz]) | skip))
  all_goals (first | done | ((repeat' apply And.intro);all_goals (first | trivial | rfl)))
 ·rintro ⟨⟨f,t⟩,ht,hto,hf⟩
  simp only at ht hto hf
  simp only [st]
  (repeat (first|apply zO (by decide +kernel)|apply zP (by decide +kernel)|(apply zS;(case h=>constructor<;>decide))|((first|apply l_go rfl|apply c_dec|apply zT rfl (by decide) rfl);(case hs=>(simp (disch := first|omega|exact kD rfl|exact kX rfl) only [smY,simprocAttr,bl,i64,smE,e1n];exact rfl));first|refine c_bt ?_|refine c_bf ?_|refine zq ?_|(case hg=>assumption))))
  refine w_loop (α := {i : Nat // i ≤ k}) (fun i => st 109 (lk [(1,i64 a),(2,.ptr 0 0),(4,.ptr 1 0),(5,i64 n),(6,.sl k (ec (nI (gn n)))),(7,.sl k (ec (nI (od n)))),(8,.own 2 0 k 1),(9,i64 (yN n t i.1 : Nat)),(10,.ptr 3 0),(11,i64 i.1)]) (lkH [(0,⟨24,[i64 n,.sl k (ec (nI v))],false⟩),(1,⟨52,[bl false,i64 0,i64 0],false⟩),(2,⟨3,ec (nI t),false⟩),(3,⟨52,[bl false,i64 ((wN n v t i.1).1 : Nat),i64 ((wN n v t i.1).2 : Nat)],false⟩)]) 4) (fun i => k - i.1) ⟨0,by omega⟩ ?_ ?_
  ·-- X: bl,i64,smE
   (refine Sub.heapL [0,1,2,6] rfl (by decide) ?_ (by simp only [smL];decide) ?_ ?_;all_goals (first|(simp only [plainC,smF,dg,renL,renLs,simprocAttr,bl,i64,smE,e1n];done) | (simp only [smF,dg,renL,renLs,simprocAttr,bl,i64,smE,e1n];(repeat' apply And.intro);all_goals rfl) | (simp only [smF,dg,renL,renLs,simprocAttr,bl,i64,smE,e1n]) | skip))
   all_goals (first | done | ((repeat' apply And.intro);all_goals (first | trivial | rfl)))
  ·rintro ⟨i,hi⟩
   simp only [st]
   by_cases hlt : i < k
   ·have hw := wN_bd n2 v t i (by omega)
    have h60 : (60 : Nat) ^ i ≤ 3600 := by
     have : i ≤ 2 := by omega
     match i,this with
     | 0,_ => decide
     | 1,_ => decide
     | 2,_ => decide
    have ho := od_pos (m := n) (i := i) n2 (by omega)
    have hti := hto i hlt
    have hgi : (gn n).getD i 0 ≤ 60 := getD_le t5
    have hvi := hv2 i
    have gv := nI_get v i
    have gt := nI_get t i
    have ggn := nI_get (gn n) i
    have god := nI_get (od n) i
    have htl := nI_len t
    have ylt := yN_lt n1 t i
    have ys : yN n t (i + 1) = pwN n ((gn n).getD i 0) (yN n t i) (t.getD i 0) := rfl
    have ws : wN n v t (i + 1) = tmN (wN n v t i) (rtN (t.getD i 0 * v.getD i 0) ((od n).getD i 0)) := rfl
    (repeat (first|apply zO (by decide +kernel)|apply zP (by decide +kernel)|(apply zS;(case h=>constructor<;>decide))|((first|apply l_go rfl|apply c_dec|apply zT rfl (by decide) rfl);(case hs=>(simp (disch := first|omega|exact kD rfl|exact kX rfl) only [smY,simprocAttr,bl,i64,smE];exact rfl));first|refine c_bt ?_|refine c_bf ?_|refine zq ?_|(case hg=>assumption))))
    refine w_loop (α := {j : Nat // j ≤ t.getD i 0}) (fun j => st 109 (lk [(1,i64 a),(2,.ptr 0 0),(4,.ptr 1 0),(5,i64 n),(6,.sl k (ec (nI (gn n)))),(7,.sl k (ec (nI (od n)))),(8,.own 2 0 k 1),(9,i64 (pwN n ((gn n).getD i 0) (yN n t i) j.1 : Nat)),(10,.ptr 3 0),(11,i64 i),(12,i64 j.1)]) (lkH [(0,⟨24,[i64 n,.sl k (ec (nI v))],false⟩),(1,⟨52,[bl false,i64 0,i64 0],false⟩),(2,⟨3,ec (nI t),false⟩),(3,⟨52,[bl false,i64 ((wN n v t i).1 : Nat),i64 ((wN n v t i).2 : Nat)],false⟩)]) 4) (fun j => t.getD i 0 - j.1) ⟨0,by omega⟩ ?_ ?_
    ·(refine Sub.heapL [0,1,2,3] rfl (by decide) ?_ (by simp only [smL];decide) ?_ ?_;all_goals (first|(simp only [plainC,smF,dg,renL,renLs,simprocAttr,bl,i64,smE];done) | (simp only [smF,dg,renL,renLs,simprocAttr,bl,i64,smE];(repeat' apply And.intro);all_goals rfl) | (simp only [smF,dg,renL,renLs,simprocAttr,bl,i64,smE]) | skip))
     all_goals (first | done | ((repeat' apply And.intro);all_goals (first | trivial | rfl)))
    ·rintro ⟨j,hj⟩
     simp only [st]
     have plt := pwN_lt (g := (gn n).getD i 0) n1 ylt j
     by_cases hjl : j < t.getD i 0
     ·have ps : pwN n ((gn n).getD i 0) (yN n t i) (j + 1) = pwN n ((gn n).getD i 0) (yN n t i) j * (gn n).getD i 0 % n := rfl
      have pb : pwN n ((gn n).getD i 0) (yN n t i) j * (gn n).getD i 0 ≤ 60 * 60 := Nat.mul_le_mul (by omega) hgi
      have pc : ((pwN n ((gn n).getD i 0) (yN n t i) j : Nat) : Int) * (((gn n).getD i 0 : Nat) : Int) = ((pwN n ((gn n).getD i 0) (yN n t i) j * (gn n).getD i 0 : Nat) : Int) := by simp
      have pd : ((pwN n ((gn n).getD i 0) (yN n t i) j * (gn n).getD i 0 : Nat) : Int) % (n : Int) = ((pwN n ((gn n).getD i 0) (yN n t i) j * (gn n).getD i 0 % n : Nat) : Int) := rfl
      rw [← ps] at pd
      generalize hp2 : pwN n ((gn n).getD i 0) (yN n t i) (j + 1) = p2 at *
      generalize pwN n ((gn n).getD i 0) (yN n t i) j * (gn n).getD i 0 = pm at *
      generalize pwN n ((gn n).getD i 0) (yN n t i) j = p1 at *
      (repeat (first|apply zO (by decide +kernel)|apply zP (by decide +kernel)|(apply zS;(case h=>constructor<;>decide))|((first|apply l_go rfl|apply c_dec|apply zT rfl (by decide) rfl);(case hs=>(simp (disch := first|omega|exact kD rfl|exact kX rfl) only [smY,simprocAttr,bl,i64,smE,gt,ggn,pc,pd,htl,ht,hgl,t2];exact rfl));first|refine c_bt ?_|refine c_bf ?_|refine zq ?_|(case hg=>assumption))))
      refine ⟨⟨j + 1,by omega⟩,?_,by simp only;omega⟩
      (refine Sub.heapL [0,1,2,3] rfl (by decide) ?_ (by simp only [smL];decide) ?_ ?_;all_goals (first|(simp only [plainC,smF,dg,renL,renLs,simprocAttr,bl,i64,smE,hp2];done) | (simp only [smF,dg,renL,renLs,simprocAttr,bl,i64,smE,hp2];(repeat' apply And.intro);all_goals rfl) | (simp only [smF,dg,renL,renLs,simprocAttr,bl,i64,smE,hp2]) | skip))
      all_goals (first | done | ((repeat' apply And.intro);all_goals (first | trivial | rfl)))
     ·obtain rfl : j = t.getD i 0 := by omega
      rw [← ys]
      have rd := rtN_bd (n := t.getD i 0 * v.getD i 0) ho.1
      have tb1 : t.getD i 0 * v.getD i 0 ≤ 60 * 60 := Nat.mul_le_mul (by omega) hvi
      have gr := root_good (t.getD i 0 * v.getD i 0) ((od n).getD i 0) ho.1 (by omega) (by omega)
      have gr2 : PureGood Tryz.prog 51 [i64 ((t.getD i 0 * v.getD i 0 : Nat) : Int),i64 ((od n).getD i 0)] (.agg [.lit (.bool false),i64 ((rtN (t.getD i 0 * v.getD i 0) ((od n).getD i 0)).1 : Nat),i64 ((rtN (t.getD i 0 * v.getD i 0) ((od n).getD i 0)).2 : Nat)]) := gr
      have gtm := rtimes_big (wN n v t i).1 (wN n v t i).2 (rtN (t.getD i 0 * v.getD i 0) ((od n).getD i 0)).1 (rtN (t.getD i 0 * v.getD i 0) ((od n).getD i 0)).2 (by omega) (by omega) (by omega) (by omega)
      have hti2 : ((t.getD i 0 : Nat) : Int) * ((v.getD i 0 : Nat) : Int) = ((t.getD i 0 * v.getD i 0 : Nat) : Int) := by simp
      have ws1 : (wN n v t (i + 1)).1 = (tmN ((wN n v t i).1,(wN n v t i).2) ((rtN (t.getD i 0 * v.getD i 0) ((od n).getD i 0)).1,(rtN (t.getD i 0 * v.getD i 0) ((od n).getD i 0)).2)).1 := by rw [ws]
      have ws2 : (wN n v t (i + 1)).2 = (tmN ((wN n v t i).1,(wN n v t i).2) ((rtN (t.getD i 0 * v.getD i 0) ((od n).getD i 0)).1,(rtN (t.getD i 0 * v.getD i 0) ((od n).getD i 0)).2)).2 := by rw [ws]
      clear gr ws
      generalize tmN ((wN n v t i).1,(wN n v t i).2) ((rtN (t.getD i 0 * v.getD i 0) ((od n).getD i 0)).1,(rtN (t.getD i 0 * v.getD i 0) ((od n).getD i 0)).2) = w2 at *
      generalize rtN (t.getD i 0 * v.getD i 0) ((od n).getD i 0) = rr at *
      generalize t.getD i 0 * v.getD i 0 = tv at *
      generalize wN n v t i = w1 at *
      simp only [i64] at gr2 gtm
      (repeat (first|apply zO (by decide +kernel)|apply zP (by decide +kernel)|(apply zS;(case h=>constructor<;>decide))|((first|apply l_go rfl|apply c_dec|apply zT rfl (by decide) rfl);(case hs=>(simp (disch := first|omega|exact kD rfl|exact kX rfl) only [smY,simprocAttr,bl,i64,smE,gt,gv,god,hti2,htl,ht,hvl,hv,hol];exact rfl));first|refine c_bt ?_|refine c_bf ?_|refine zq ?_|(case hg=>assumption))))
      refine ⟨⟨i + 1,by omega⟩,?_,by simp only;omega⟩
      (refine Sub.heapL [0,1,2,3] rfl (by decide) ?_ (by simp only [smL];decide) ?_ ?_;all_goals (first|(simp only [plainC,smF,dg,renL,renLs,simprocAttr,bl,i64,smE,ws1,ws2];done) | (simp only [smF,dg,renL,renLs,simprocAttr,bl,i64,smE,ws1,ws2];(repeat' apply And.intro);all_goals rfl) | (simp only [smF,dg,renL,renLs,simprocAttr,bl,i64,smE,ws1,ws2]) | skip))
      all_goals (first | done | ((repeat' apply And.intro);all_goals (first | trivial | rfl)))
   ·obtain rfl : i = k := by omega
    cases f with
    | zero => cases hf
    | succ f =>
      rw [fndN,hk] at hf
      by_cases hy : yN n t i = r
      · rw [if_pos hy] at hf
        injection hf with hf
        rw [hf,hy]
        (repeat (first|apply zO (by decide +kernel)|apply zP (by decide +kernel)|(apply zS;(case h=>constructor<;>decide))|((first|apply l_go rfl|apply c_dec|apply zT rfl (by decide) rfl);(case hs=>(simp (disch := first|omega|exact kD rfl|exact kX rfl) only [smY,simprocAttr,bl,i64,smE];exact rfl));first|refine c_bt ?_|refine c_bf ?_|refine zq ?_|(case hg=>assumption))))
        ((first|apply g_ret|apply g_end);case hres => (simp only [smR];simp (disch := first|omega|exact kD rfl|exact kX rfl) only [smY,simprocAttr,bl,i64,smE];exact rfl))
        simp (disch := first|omega|exact kD rfl|exact kX rfl) only [smY,simprocAttr,bl,i64,smE]
      · rw [if_neg hy] at hf
        have hy' : ¬ ((yN n t i : Nat) : Int) = (r : Int) := by omega
        generalize yN n t i = yy at *
        generalize wN n v t i = ww at *
        have htl := nI_len t
        (repeat (first|apply zO (by decide +kernel)|apply zP (by decide +kernel)|(apply zS;(case h=>constructor<;>decide))|((first|apply l_go rfl|apply c_dec|apply zT rfl (by decide) rfl);(case hs=>(simp (disch := first|omega|exact kD rfl|exact kX rfl) only [smY,simprocAttr,bl,i64,smE];exact rfl));first|refine c_bt ?_|refine c_bf ?_|refine zq ?_|(case hg=>assumption))))
        refine w_loop (α := {s : Nat × List Nat // s.1 ≤ i ∧ s.2.length = i ∧ (∀ q,q < i → s.2.getD q 0 < (od n).getD q 0) ∧ incN (od n) i t 0 = incN (od n) (i - s.1) s.2 s.1}) (fun s => st 109 (lk [(1,i64 a),(2,.ptr 0 0),(4,.ptr 1 0),(5,i64 n),(6,.sl i (ec (nI (gn n)))),(7,.sl i (ec (nI (od n)))),(8,.own 2 0 i 1),(10,.ptr 3 0),(13,i64 s.1.1)]) (lkH [(0,⟨24,[i64 n,.sl i (ec (nI v))],false⟩),(1,⟨52,[bl false,i64 0,i64 0],false⟩),(2,⟨3,ec (nI s.1.2),false⟩),(3,⟨52,[bl false,i64 (ww.1 : Nat),i64 (ww.2 : Nat)],false⟩)]) 4) (fun s => i - s.1.1) ⟨(0,t),by simp,ht,hto,by simp⟩ ?_ ?_
        · (refine Sub.heapL [0,1,2,3] rfl (by decide) ?_ (by simp only [smL];decide) ?_ ?_;all_goals (first|(simp only [plainC,smF,dg,renL,renLs,simprocAttr,bl,i64,smE];done) | (simp only [smF,dg,renL,renLs,simprocAttr,bl,i64,smE];(repeat' apply And.intro);all_goals rfl) | (simp only [smF,dg,renL,renLs,simprocAttr,bl,i64,smE]) | skip))
          all_goals (first | done | ((repeat' apply And.intro);all_goals (first | trivial | rfl)))
        · rintro ⟨⟨j,u⟩,hj,hu,huo,hinc⟩
          simp only at hj hu huo hinc
          simp only [st]
          have gu := nI_get u j
          have god := nI_get (od n) j
          have hul := nI_len u
          by_cases hji : j < i
          · have ho := od_pos (m := n) (i := j) n2 (by omega)
            have hsx := nI_set u j
            obtain ⟨d,hd⟩ : ∃ d,i - j = d + 1 := ⟨i - j - 1,by omega⟩
            rw [hd,incN] at hinc
            by_cases hle : u.getD j 0 + 1 = (od n).getD j 0
            · rw [if_pos hle] at hinc
              have h0 : (nI u).set j 0 = nI (u.set j 0) := hsx 0
              (repeat (first|apply zO (by decide +kernel)|apply zP (by decide +kernel)|(apply zS;(case h=>constructor<;>decide))|((first|apply l_go rfl|apply c_dec|apply zT rfl (by decide) rfl);(case hs=>(simp (disch := first|omega|exact kD rfl|exact kX rfl) only [smY,simprocAttr,bl,i64,smE,gu,god,hul,hu,hol];exact rfl));first|refine c_bt ?_|refine c_bf ?_|refine zq ?_|(case hg=>assumption))))
              refine ⟨⟨(j + 1,u.set j 0),by simp only;omega,by simp only;rw [List.length_set];exact hu,fun q hq => ?_,by simp only;rw [show i - (j + 1) = d by omega];exact hinc⟩,?_,by simp only;omega⟩
              · simp only
                by_cases hqj : q = j
                · subst hqj
                  have : (u.set q 0).getD q 0 = 0 := by simp [show q < u.length by omega]
                  omega
                · have : (u.set j 0).getD q 0 = u.getD q 0 := by simp [List.getD,List.getElem?_set,show ¬ j = q from fun e => hqj e.symm]
                  rw [this]
                  exact huo q hq
              · (refine Sub.heapL [0,1,2,3] rfl (by decide) ?_ (by simp only [smL];decide) ?_ ?_;all_goals (first|(simp only [plainC,smF,dg,renL,renLs,simprocAttr,bl,i64,smE,h0];done) | (simp only [smF,dg,renL,renLs,simprocAttr,bl,i64,smE,h0];(repeat' apply And.intro);all_goals rfl) | (simp only [smF,dg,renL,renLs,simprocAttr,bl,i64,smE,h0]) | skip))
                all_goals (first | done | ((repeat' apply And.intro);all_goals (first | trivial | rfl)))
            · rw [if_neg hle] at hinc
              have hub : u.getD j 0 < 60 := by have := huo j hji;omega
              (repeat (first|apply zO (by decide +kernel)|apply zP (by decide +kernel)|(apply zS;(case h=>constructor<;>decide))|((first|apply l_go rfl|apply c_dec|apply zT rfl (by decide) rfl);(case hs=>(simp (disch := first|omega|exact kD rfl|exact kX rfl) only [smY,simprocAttr,bl,i64,smE,gu,god,hul,hu,hol];exact rfl));first|refine c_bt ?_|refine c_bf ?_|refine zq ?_|(case hg=>assumption))))
              have h1 : (nI u).set j ((u.getD j 0 : Int) + 1) = nI (u.set j (u.getD j 0 + 1)) := hsx (u.getD j 0 + 1)
              rw [hinc] at hf
              refine ⟨⟨(f,u.set j (u.getD j 0 + 1)),by simp only;rw [List.length_set];exact hu,fun q hq => ?_,hf⟩,?_,by simp only;omega⟩
              · simp only
                by_cases hqj : q = j
                · subst hqj
                  have : (u.set q (u.getD q 0 + 1)).getD q 0 = u.getD q 0 + 1 := by simp [show q < u.length by omega]
                  have := huo q hq
                  omega
                · have : (u.set j (u.getD j 0 + 1)).getD q 0 = u.getD q 0 := by simp [List.getD,List.getElem?_set,show ¬ j = q from fun e => hqj e.symm]
                  rw [this]
                  exact huo q hq
              · (refine Sub.heapL [0,1,2] rfl (by decide) ?_ (by simp only [smL];decide) ?_ ?_;all_goals (first|(simp only [plainC,smF,dg,renL,renLs,simprocAttr,bl,i64,smE,h1];done) | (simp only [smF,dg,renL,renLs,simprocAttr,bl,i64,smE,h1];(repeat' apply And.intro);all_goals rfl) | (simp only [smF,dg,renL,renLs,simprocAttr,bl,i64,smE,h1]) | skip))
                all_goals (first | done | ((repeat' apply And.intro);all_goals (first | trivial | rfl)))
          · obtain rfl : j = i := by omega
            rw [Nat.sub_self,incN] at hinc
            rw [hinc] at hf
            injection hf with hf
            rw [hf]
            (repeat (first|apply zO (by decide +kernel)|apply zP (by decide +kernel)|(apply zS;(case h=>constructor<;>decide))|((first|apply l_go rfl|apply c_dec|apply zT rfl (by decide) rfl);(case hs=>(simp (disch := first|omega|exact kD rfl|exact kX rfl) only [smY,simprocAttr,bl,i64,smE,undefL,undef];exact rfl));first|refine c_bt ?_|refine c_bf ?_|refine zq ?_|(case hg=>assumption))))
            ((first|apply g_ret|apply g_end);case hres => (simp only [smR];simp (disch := first|omega|exact kD rfl|exact kX rfl) only [smY,simprocAttr,bl,i64,smE,undefL,undef];exact rfl))
            simp (disch := first|omega|exact kD rfl|exact kX rfl) only [smY,simprocAttr,bl,i64,smE,undefL,undef]
end Go.Proofs.YtpkjokknpbclhaaGreat
namespace Go.Proofs.YtpkjokknpbclhaaGreat
open Go Go.Lg Go.Num
set_option maxRecDepth 100000
def orcRv (args : List LV) : Option LV := match args with
 | [.agg [.lit (.int .i64 (.ofNat n)),.sl k cs],.lit (.int .i64 a)] => match rdNs cs with
   | some v => bif Nat.ble 1 n && Nat.ble n 60 && Nat.beq k v.length && okV n v && Nat.ble a.natAbs 4294967296 then (bif Nat.beq (Nat.gcd a.natAbs n) 1 then fNat (rsd a n) fun r => match fndN n v r 64 (List.replicate (od n).length 0) with
     | some (x,y) => some (.agg [.lit (.bool false),.lit (.int .i64 (.ofNat x)),.lit (.int .i64 (.ofNat y))])
     | none => none
     else some (.agg [.lit (.bool true),.lit (.int .i64 0),.lit (.int .i64 0)])) else none
   | none => none
 | _ => none
theorem orcRv_ok {args : List LV} {r : LV} (h : orcRv args = some r) : PureGood Tryz.prog 25 args r := by
 unfold orcRv at h
 split at h
 ·rename_i n k cs a
  split at h
  ·rename_i v hv
   generalize hcond : (Nat.ble 1 n && Nat.ble n 60 && Nat.beq k v.length && okV n v && Nat.ble a.natAbs 4294967296) = q at h
   cases q with
   | false => rw [cond_false] at h;cases h
   | true =>
     rw [cond_true] at h
     simp only [Bool.and_eq_true,Nat.ble_eq,Nat.beq_eq] at hcond
     obtain ⟨⟨⟨⟨c1,c2⟩,rfl⟩,c4⟩,c5⟩ := hcond
     obtain ⟨rfl,_⟩ := rdNs_ok hv
     obtain ⟨h1,h2⟩ := okV_get c4
     cases hb : Nat.beq (Nat.gcd a.natAbs n) 1 with
     | true =>
       rw [hb,cond_true,fNat_eq] at h
       split at h
       · rename_i x y hF
         cases h
         have := rvalue_yes c1 c2 h1 h2 a (by omega) (Nat.eq_of_beq_eq_true hb) hF
         rw [nI_len] at this
         exact this
       · cases h
     | false =>
       rw [hb,cond_false] at h
       cases h
       have hg : Int.gcd a n ≠ 1 := fun e => by
         have : Nat.beq (Nat.gcd a.natAbs n) 1 = true := by rw [Nat.beq_eq];exact e
         rw [this] at hb
         cases hb
       have := rvalue_not (m := n) (l := nI v) ⟨by omega,by rw [nI_len,h1];have := (tb (m := n) c2).2.2.1;omega⟩ a (by omega) (by omega) hg
       rw [nI_len] at this
       exact this
  ·cases h
 ·cases h
def orcW (f : FuncId) (args : List LV) : Option LV := bif Nat.beq f 25 then orcRv args else orcU f args
theorem orcW_ok : OrcOk Tryz.prog orcW := orc_cons (f0 := 25) (g := orcRv) (fun _ _ h => orcRv_ok h) orcU_ok
end Go.Proofs.YtpkjokknpbclhaaGreat
namespace Go.Proofs.YtpkjokknpbclhaaGreat
open Go Go.Lg Go.Num
set_option maxRecDepth 100000
set_option maxHeartbeats 4000000
attribute [local irreducible] Go.Lg.lrun Go.Lg.lwp Go.Lg.exThen Go.Lg.exBlk Go.Lg.keep Go.Lg.goodPost ec pt gn od cerr
theorem dvalueB_of {m k x y : Int} {z : Bool} {l : List Int} (hb : ChB m l) (he : cerr m l = 0) (hk : -1073741824 ≤ k ∧ k ≤ 1073741824) (hv : PureGood Tryz.prog 45 [.agg [i64 m,.sl l.length (ec l)],i64 k] (.agg [.lit (.bool z),i64 x,i64 y])) : PureGood Tryz.prog 20 [.agg [i64 m,.sl l.length (ec l)],i64 k] (.tup [.agg [.lit (.bool z),i64 x,i64 y],i64 0]) := by
 have g1 := dcheck_good m l hb.m1 hb.ln
 rw [he] at g1
 simp only [i64,bl] at *
 refine good_of_lwp mix Tryz.func20 rfl (by decide) (nt := 23) rfl (rs := [.cell 4 52,.tmp 5]) rfl (nle rfl) ?_
 (repeat (first|apply zO (by decide +kernel)|apply zP (by decide +kernel)|(apply zS;(case h=>constructor<;>decide))|((first|apply l_go rfl|apply c_dec|apply zT rfl (by decide) rfl);(case hs=>(simp (disch := first|omega|exact kD rfl|exact kX rfl) only [smY,simprocAttr,bl,i64,smE,undefL,undef];exact rfl));first|refine c_bt ?_|refine c_bf ?_|refine zq ?_|(case hg=>assumption))))
 ((first|apply g_ret|apply g_end);case hres => (simp only [smR];simp (disch := first|omega|exact kD rfl|exact kX rfl) only [smY,simprocAttr,bl,i64,smE,undefL,undef];exact rfl))
 simp (disch := first|omega|exact kD rfl|exact kX rfl) only [smY,simprocAttr,bl,i64,smE,undefL,undef]
attribute [local semireducible] cerr od pt gn
def chOk (n : Nat) (v : List Nat) : Bool := okV n v && ((List.range v.length).all fun i => Nat.blt (v.getD i 0) ((od n).getD i 0))
theorem chOk_cerr {n : Nat} {v : List Nat} (n1 : 1 ≤ n) (n2 : n ≤ 60) (h : chOk n v = true) : okV n v = true ∧ ChB (n : Int) (nI v) ∧ cerr (n : Int) (nI v) = 0 := by
 unfold chOk at h
 rw [Bool.and_eq_true] at h
 obtain ⟨h1,h2⟩ := h
 obtain ⟨v1,v2⟩ := okV_get h1
 refine ⟨h1,⟨by omega,by rw [nI_len,v1];have := (tb (m := n) n2).2.2.1;omega⟩,?_⟩
 unfold cerr
 rw [if_pos ⟨by omega,by omega⟩,Int.toNat_natCast,if_pos (by rw [nI_len,v1]),if_pos (fun i hi => ?_)]
 rw [nI_len] at hi
 have := Nat.le_of_ble_eq_true (List.all_eq_true.1 h2 i (List.mem_range.2 hi))
 rw [nI_get]
 omega
def orcDV (args : List LV) : Option LV := match args with
 | [.agg [.lit (.int .i64 (.ofNat n)),.sl k cs],.lit (.int .i64 a)] => match rdNs cs with
   | some v => bif Nat.ble 1 n && Nat.ble n 60 && Nat.beq k v.length && chOk n v && Nat.ble a.natAbs 1073741824 then (match valK n v a with
     | some (.agg [.lit (.bool z),.lit (.int .i64 x),.lit (.int .i64 y)]) => some (.tup [.agg [.lit (.bool z),.lit (.int .i64 x),.lit (.int .i64 y)],.lit (.int .i64 0)])
     | _ => none) else none
   | none => none
 | _ => none
theorem orcDV_ok {args : List LV} {r : LV} (h : orcDV args = some r) : PureGood Tryz.prog 20 args r := by
 unfold orcDV at h
 split at h
 ·rename_i n k cs a
  split at h
  ·rename_i v hv
   generalize hcond : (Nat.ble 1 n && Nat.ble n 60 && Nat.beq k v.length && chOk n v && Nat.ble a.natAbs 1073741824) = q at h
   cases q with
   | false => rw [cond_false] at h;cases h
   | true =>
     rw [cond_true] at h
     simp only [Bool.and_eq_true,Nat.ble_eq,Nat.beq_eq] at hcond
     obtain ⟨⟨⟨⟨c1,c2⟩,rfl⟩,c4⟩,c5⟩ := hcond
     obtain ⟨rfl,_⟩ := rdNs_ok hv
     obtain ⟨o1,o2,o3⟩ := chOk_cerr c1 c2 c4
     split at h
     · rename_i z x y hz
       cases h
       have g := valK_ok c1 c2 o1 (by omega) hz
       have := dvalueB_of o2 o3 (by omega) g
       rw [nI_len] at this
       exact this
     · cases h
  ·cases h
 ·cases h
def orcX (f : FuncId) (args : List LV) : Option LV := bif Nat.beq f 20 then orcDV args else orcW f args
theorem orcX_ok : OrcOk Tryz.prog orcX := orc_cons (f0 := 20) (g := orcDV) (fun _ _ h => orcDV_ok h) orcW_ok
end Go.Proofs.YtpkjokknpbclhaaGreat