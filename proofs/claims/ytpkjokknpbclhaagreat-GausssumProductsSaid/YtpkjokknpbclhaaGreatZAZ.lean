/- Contracts of functions of the program, and what proves them (texts: Q12 Q13 Q14). -/
import Derived.Test.YtpkjokknpbclhaaGreatZAP
import Derived.Test.YtpkjokknpbclhaaGreatZAT
import Derived.Test.YtpkjokknpbclhaaGreatZAU
import Derived.Test.YtpkjokknpbclhaaGreatZAY
set_option linter.all false
namespace Go.Proofs.YtpkjokknpbclhaaGreat
open Go Go.Lg Go.Num
set_option maxRecDepth 100000
set_option maxHeartbeats 4000000
def lgL (root q a : Nat) : Nat → Nat → Nat → Nat
 | 0,_,k => k
 | f + 1,x,k => if x = a then k else lgL root q a f (x * root % q) (k + 1)
def hitL (root q a : Nat) : Nat → Nat → Bool
 | 0,_ => false
 | f + 1,x => bif Nat.beq x a then true else hitL root q a f (x * root % q)
def lgS (q a : Nat) : Nat := if q % 2 = 0 ∧ a % 4 = 3 then q - a else a
def lgA (root q a : Nat) : Nat := if q % 2 = 0 ∧ root + 1 = q then a % 4 / 2 else lgL root q (lgS q a) 64 1 0
theorem lgL_le (root q a : Nat) : ∀ f x k,lgL root q a f x k ≤ k + f
 | 0,x,k => Nat.le_refl _
 | f + 1,x,k => by
   rw [lgL]
   split
   · omega
   · have := lgL_le root q a f (x * root % q) (k + 1)
     omega
attribute [local irreducible] Go.Lg.lrun Go.Lg.lwp Go.Lg.exThen Go.Lg.exBlk Go.Lg.keep Go.Lg.goodPost lgL hitL
theorem lgL_hit {root q a f x k : Nat} (h : hitL root q a (f + 1) x = true) : (x = a ∧ lgL root q a (f + 1) x k = k) ∨ (x ≠ a ∧ hitL root q a f (x * root % q) = true ∧ lgL root q a (f + 1) x k = lgL root q a f (x * root % q) (k + 1)) := by
 rw [hitL] at h
 cases hb : Nat.beq x a with
 | true =>
   have := Nat.eq_of_beq_eq_true hb
   exact .inl ⟨this,by rw [lgL,if_pos this]⟩
 | false =>
   rw [hb,cond_false] at h
   have : x ≠ a := fun e => by rw [e,Nat.beq_refl] at hb;cases hb
   exact .inr ⟨this,h,by rw [lgL,if_neg this]⟩
theorem hitL_zero {root q a x : Nat} : hitL root q a 0 x = false := by rw [hitL]
theorem logarithm_good (root ord q : Nat) (a : Int) (a' : Nat) (ha : a % (q : Int) = a') (hq : 2 ≤ q ∧ q ≤ 100) (hr : root ≤ 100) (ho : ord ≤ 100) (hab : -4294967296 ≤ a ∧ a ≤ 4294967296) (hit : (q % 2 = 0 ∧ root + 1 = q) ∨ hitL root q (lgS q a') 64 1 = true) : PureGood Tryz.prog 73 [.agg [i64 root,i64 ord,i64 q],i64 a] (i64 (lgA root q a')) := by
 have b1 := tmod_bd a (b := q) (by omega)
 have b2 := emod_of_tmod a (m := q) (by omega)
 have hal : a' < q := by
  have := Int.emod_lt_of_pos a (show (0 : Int) < (q : Int) by omega)
  omega
 rw [ha] at b2
 generalize hbb : a.tmod (q : Int) = b at *
 have e1 : (b + (q : Int)) % (q : Int) = (a' : Int) := by
  by_cases h : b < 0
  ·rw [if_pos h] at b2
   rw [← b2]
   exact Int.emod_eq_of_lt (by omega) (by omega)
  ·rw [if_neg h] at b2
   rw [Int.add_emod_right,← b2]
   exact Int.emod_eq_of_lt (by omega) (by omega)
 have e2 : (b + (q : Int)).tmod (q : Int) = (a' : Int) := by rw [Int.tmod_eq_emod_of_nonneg (by omega)];exact e1
 unfold lgA
 by_cases hc1 : q % 2 = 0 ∧ root + 1 = q
 ·rw [if_pos hc1]
  have hd : ((a' : Int) % 4) / 2 = ((a' % 4 / 2 : Nat) : Int) := by omega
  generalize a' % 4 / 2 = d at *
  refine good_of_lwp mix Tryz.func73 rfl (by decide) (nt := 55) rfl (rs := [.tmp 4]) rfl (nle rfl) ?_
  (repeat (first|apply zO (by decide +kernel)|apply zP (by decide +kernel)|(apply zS;(case h=>constructor<;>decide))|((first|apply l_go rfl|apply c_dec|apply zT rfl (by decide) rfl);(case hs=>(simp (disch := first|omega|exact kD rfl|exact kX rfl) only [smY,simprocAttr,bl,i64,e1,e2,hbb,hd];exact rfl));first|refine c_bt ?_|refine c_bf ?_|refine zq ?_|(case hg=>assumption))))
  ((first|apply g_ret|apply g_end);case hres => (simp only [smR];simp (disch := first|omega|exact kD rfl|exact kX rfl) only [smY,simprocAttr,bl,i64,e1,e2,hbb,hd];exact rfl))
  simp (disch := first|omega|exact kD rfl|exact kX rfl) only [smY,simprocAttr,bl,i64,e1,e2,hbb,hd]
 ·rw [if_neg hc1]
  have hit := hit.resolve_left hc1
  unfold lgS at *
  by_cases hc2 : q % 2 = 0 ∧ a' % 4 = 3
  ·rw [if_pos hc2] at hit ⊢
   have hs : (q : Int) - (a' : Int) = ((q - a' : Nat) : Int) := by omega
   have hcl : q - a' ≤ 100 := by omega
   generalize q - a' = c at *
   refine good_of_lwp mix Tryz.func73 rfl (by decide) (nt := 55) rfl (rs := [.tmp 4]) rfl (nle rfl) ?_
   (repeat (first|apply zO (by decide +kernel)|apply zP (by decide +kernel)|(apply zS;(case h=>constructor<;>decide))|((first|apply l_go rfl|apply c_dec|apply zT rfl (by decide) rfl);(case hs=>(simp (disch := first|omega|exact kD rfl|exact kX rfl) only [smY,simprocAttr,bl,i64,e1,e2,hbb,hs];exact rfl));first|refine c_bt ?_|refine c_bf ?_|refine zq ?_|(case hg=>assumption))))
   refine w_loop (α := {s : Nat × Nat × Nat // hitL root q c s.1 s.2.1 = true ∧ s.2.1 ≤ 100 ∧ s.2.2 ≤ 100 ∧ lgL root q c s.1 s.2.1 s.2.2 = lgL root q c 64 1 0 ∧ s.1 + s.2.2 ≤ 64}) (fun s => st 55 (lk [(1,i64 c),(2,.ptr 0 0),(5,i64 q),(6,i64 s.1.2.2),(7,i64 s.1.2.1)]) (lkH [(0,⟨77,[i64 root,i64 ord,i64 q],false⟩)]) 1) (fun s => s.1.1) ⟨(64,1,0),hit,by simp only;omega,by simp only;omega,rfl,by simp only;omega⟩ ?_ ?_
   ·(refine Sub.heap1 0 ?_ (by simp only [smF,dg,renL,renLs,simprocAttr,bl,i64];exact rfl) ?_ ?_;all_goals (first | exact dgs_plain _ | with_reducible rfl | (simp only [smF,dg,renL,renLs,simprocAttr,bl,i64];done) | (simp only [smF,dg,renL,renLs,simprocAttr,bl,i64]) | skip))
    all_goals (first | exact ⟨rfl,rfl,rfl⟩ | done)
   ·rintro ⟨⟨f,x,k⟩,h1,h2,h3,h4,h5⟩
    simp only at h1 h2 h3 h4 h5
    simp only [st]
    cases f with
    | zero => rw [hitL_zero] at h1;cases h1
    | succ f =>
      rcases lgL_hit (k := k) h1 with ⟨e,e2⟩ | ⟨e,e1,e2⟩
      · rw [e2] at h4
        rw [← h4]
        subst e
        (repeat (first|apply zO (by decide +kernel)|apply zP (by decide +kernel)|(apply zS;(case h=>constructor<;>decide))|((first|apply l_go rfl|apply c_dec|apply zT rfl (by decide) rfl);(case hs=>(simp (disch := first|omega|exact kD rfl|exact kX rfl) only [smY,simprocAttr,bl,i64];exact rfl));first|refine c_bt ?_|refine c_bf ?_|refine zq ?_|(case hg=>assumption))))
        ((first|apply g_ret|apply g_end);case hres => (simp only [smR];simp (disch := first|omega|exact kD rfl|exact kX rfl) only [smY,simprocAttr,bl,i64];exact rfl))
        simp (disch := first|omega|exact kD rfl|exact kX rfl) only [smY,simprocAttr,bl,i64]
      · rw [e2] at h4
        have hb : x * root ≤ 100 * 100 := Nat.mul_le_mul h2 hr
        have hx : (x : Int) * (root : Int) = ((x * root : Nat) : Int) := by simp
        have hlt : x * root % q < q := Nat.mod_lt _ (by omega)
        have hmd : ((x * root : Nat) : Int) % (q : Int) = ((x * root % q : Nat) : Int) := rfl
        have hne : ¬ (x : Int) = (c : Int) := by omega
        generalize x * root = y at *
        generalize hz : y % q = z at *
        (repeat (first|apply zO (by decide +kernel)|apply zP (by decide +kernel)|(apply zS;(case h=>constructor<;>decide))|((first|apply l_go rfl|apply c_dec|apply zT rfl (by decide) rfl);(case hs=>(simp (disch := first|omega|exact kD rfl|exact kX rfl) only [smY,simprocAttr,bl,i64,hx,hmd];exact rfl));first|refine c_bt ?_|refine c_bf ?_|refine zq ?_|(case hg=>assumption))))
        refine ⟨⟨(f,z,k + 1),e1,by simp only;omega,by simp only;omega,h4,by simp only;omega⟩,?_,by simp only;omega⟩
        (refine Sub.heap1 0 ?_ (by simp only [smF,dg,renL,renLs,simprocAttr,bl,i64];exact rfl) ?_ ?_;all_goals (first | exact dgs_plain _ | with_reducible rfl | (simp only [smF,dg,renL,renLs,simprocAttr,bl,i64];done) | (simp only [smF,dg,renL,renLs,simprocAttr,bl,i64]) | skip))
        all_goals (first | exact ⟨rfl,rfl,rfl⟩ | done)
  ·rw [if_neg hc2] at hit ⊢
   have hcl : a' ≤ 100 := by omega
   by_cases hq2 : q % 2 = 0
   ·have h43 : ¬ a' % 4 = 3 := fun e => hc2 ⟨hq2,e⟩
    have hrt : ¬ root + 1 = q := fun e => hc1 ⟨hq2,e⟩
    refine good_of_lwp mix Tryz.func73 rfl (by decide) (nt := 55) rfl (rs := [.tmp 4]) rfl (nle rfl) ?_
    (repeat (first|apply zO (by decide +kernel)|apply zP (by decide +kernel)|(apply zS;(case h=>constructor<;>decide))|((first|apply l_go rfl|apply c_dec|apply zT rfl (by decide) rfl);(case hs=>(simp (disch := first|omega|exact kD rfl|exact kX rfl) only [smY,simprocAttr,bl,i64,e1,e2,hbb];exact rfl));first|refine c_bt ?_|refine c_bf ?_|refine zq ?_|(case hg=>assumption))))
    refine w_loop (α := {s : Nat × Nat × Nat // hitL root q a' s.1 s.2.1 = true ∧ s.2.1 ≤ 100 ∧ s.2.2 ≤ 100 ∧ lgL root q a' s.1 s.2.1 s.2.2 = lgL root q a' 64 1 0 ∧ s.1 + s.2.2 ≤ 64}) (fun s => st 55 (lk [(1,i64 a'),(2,.ptr 0 0),(5,i64 q),(6,i64 s.1.2.2),(7,i64 s.1.2.1)]) (lkH [(0,⟨77,[i64 root,i64 ord,i64 q],false⟩)]) 1) (fun s => s.1.1) ⟨(64,1,0),hit,by simp only;omega,by simp only;omega,rfl,by simp only;omega⟩ ?_ ?_
    ·(refine Sub.heap1 0 ?_ (by simp only [smF,dg,renL,renLs,simprocAttr,bl,i64];exact rfl) ?_ ?_;all_goals (first | exact dgs_plain _ | with_reducible rfl | (simp only [smF,dg,renL,renLs,simprocAttr,bl,i64];done) | (simp only [smF,dg,renL,renLs,simprocAttr,bl,i64]) | skip))
     all_goals (first | exact ⟨rfl,rfl,rfl⟩ | done)
    ·rintro ⟨⟨f,x,k⟩,h1,h2,h3,h4,h5⟩
     simp only at h1 h2 h3 h4 h5
     simp only [st]
     cases f with
     | zero => rw [hitL_zero] at h1;cases h1
     | succ f =>
       rcases lgL_hit (k := k) h1 with ⟨e,e2⟩ | ⟨e,e1,e2⟩
       · rw [e2] at h4
         rw [← h4]
         subst e
         (repeat (first|apply zO (by decide +kernel)|apply zP (by decide +kernel)|(apply zS;(case h=>constructor<;>decide))|((first|apply l_go rfl|apply c_dec|apply zT rfl (by decide) rfl);(case hs=>(simp (disch := first|omega|exact kD rfl|exact kX rfl) only [smY,simprocAttr,bl,i64];exact rfl));first|refine c_bt ?_|refine c_bf ?_|refine zq ?_|(case hg=>assumption))))
         ((first|apply g_ret|apply g_end);case hres => (simp only [smR];simp (disch := first|omega|exact kD rfl|exact kX rfl) only [smY,simprocAttr,bl,i64];exact rfl))
         simp (disch := first|omega|exact kD rfl|exact kX rfl) only [smY,simprocAttr,bl,i64]
       · rw [e2] at h4
         have hb : x * root ≤ 100 * 100 := Nat.mul_le_mul h2 hr
         have hx : (x : Int) * (root : Int) = ((x * root : Nat) : Int) := by simp
         have hlt : x * root % q < q := Nat.mod_lt _ (by omega)
         have hmd : ((x * root : Nat) : Int) % (q : Int) = ((x * root % q : Nat) : Int) := rfl
         have hne : ¬ (x : Int) = (a' : Int) := by omega
         generalize x * root = y at *
         generalize hz : y % q = z at *
         (repeat (first|apply zO (by decide +kernel)|apply zP (by decide +kernel)|(apply zS;(case h=>constructor<;>decide))|((first|apply l_go rfl|apply c_dec|apply zT rfl (by decide) rfl);(case hs=>(simp (disch := first|omega|exact kD rfl|exact kX rfl) only [smY,simprocAttr,bl,i64,hx,hmd];exact rfl));first|refine c_bt ?_|refine c_bf ?_|refine zq ?_|(case hg=>assumption))))
         refine ⟨⟨(f,z,k + 1),e1,by simp only;omega,by simp only;omega,h4,by simp only;omega⟩,?_,by simp only;omega⟩
         (refine Sub.heap1 0 ?_ (by simp only [smF,dg,renL,renLs,simprocAttr,bl,i64];exact rfl) ?_ ?_;all_goals (first | exact dgs_plain _ | with_reducible rfl | (simp only [smF,dg,renL,renLs,simprocAttr,bl,i64];done) | (simp only [smF,dg,renL,renLs,simprocAttr,bl,i64]) | skip))
         all_goals (first | exact ⟨rfl,rfl,rfl⟩ | done)
   ·refine good_of_lwp mix Tryz.func73 rfl (by decide) (nt := 55) rfl (rs := [.tmp 4]) rfl (nle rfl) ?_
    (repeat (first|apply zO (by decide +kernel)|apply zP (by decide +kernel)|(apply zS;(case h=>constructor<;>decide))|((first|apply l_go rfl|apply c_dec|apply zT rfl (by decide) rfl);(case hs=>(simp (disch := first|omega|exact kD rfl|exact kX rfl) only [smY,simprocAttr,bl,i64,e1,e2,hbb];exact rfl));first|refine c_bt ?_|refine c_bf ?_|refine zq ?_|(case hg=>assumption))))
    refine w_loop (α := {s : Nat × Nat × Nat // hitL root q a' s.1 s.2.1 = true ∧ s.2.1 ≤ 100 ∧ s.2.2 ≤ 100 ∧ lgL root q a' s.1 s.2.1 s.2.2 = lgL root q a' 64 1 0 ∧ s.1 + s.2.2 ≤ 64}) (fun s => st 55 (lk [(1,i64 a'),(2,.ptr 0 0),(5,i64 q),(6,i64 s.1.2.2),(7,i64 s.1.2.1)]) (lkH [(0,⟨77,[i64 root,i64 ord,i64 q],false⟩)]) 1) (fun s => s.1.1) ⟨(64,1,0),hit,by simp only;omega,by simp only;omega,rfl,by simp only;omega⟩ ?_ ?_
    ·(refine Sub.heap1 0 ?_ (by simp only [smF,dg,renL,renLs,simprocAttr,bl,i64];exact rfl) ?_ ?_;all_goals (first | exact dgs_plain _ | with_reducible rfl | (simp only [smF,dg,renL,renLs,simprocAttr,bl,i64];done) | (simp only [smF,dg,renL,renLs,simprocAttr,bl,i64]) | skip))
     all_goals (first | exact ⟨rfl,rfl,rfl⟩ | done)
    ·rintro ⟨⟨f,x,k⟩,h1,h2,h3,h4,h5⟩
     simp only at h1 h2 h3 h4 h5
     simp only [st]
     cases f with
     | zero => rw [hitL_zero] at h1;cases h1
     | succ f =>
       rcases lgL_hit (k := k) h1 with ⟨e,e2⟩ | ⟨e,e1,e2⟩
       · rw [e2] at h4
         rw [← h4]
         subst e
         (repeat (first|apply zO (by decide +kernel)|apply zP (by decide +kernel)|(apply zS;(case h=>constructor<;>decide))|((first|apply l_go rfl|apply c_dec|apply zT rfl (by decide) rfl);(case hs=>(simp (disch := first|omega|exact kD rfl|exact kX rfl) only [smY,simprocAttr,bl,i64];exact rfl));first|refine c_bt ?_|refine c_bf ?_|refine zq ?_|(case hg=>assumption))))
         ((first|apply g_ret|apply g_end);case hres => (simp only [smR];simp (disch := first|omega|exact kD rfl|exact kX rfl) only [smY,simprocAttr,bl,i64];exact rfl))
         simp (disch := first|omega|exact kD rfl|exact kX rfl) only [smY,simprocAttr,bl,i64]
       · rw [e2] at h4
         have hb : x * root ≤ 100 * 100 := Nat.mul_le_mul h2 hr
         have hx : (x : Int) * (root : Int) = ((x * root : Nat) : Int) := by simp
         have hlt : x * root % q < q := Nat.mod_lt _ (by omega)
         have hmd : ((x * root : Nat) : Int) % (q : Int) = ((x * root % q : Nat) : Int) := rfl
         have hne : ¬ (x : Int) = (a' : Int) := by omega
         generalize x * root = y at *
         generalize hz : y % q = z at *
         (repeat (first|apply zO (by decide +kernel)|apply zP (by decide +kernel)|(apply zS;(case h=>constructor<;>decide))|((first|apply l_go rfl|apply c_dec|apply zT rfl (by decide) rfl);(case hs=>(simp (disch := first|omega|exact kD rfl|exact kX rfl) only [smY,simprocAttr,bl,i64,hx,hmd];exact rfl));first|refine c_bt ?_|refine c_bf ?_|refine zq ?_|(case hg=>assumption))))
         refine ⟨⟨(f,z,k + 1),e1,by simp only;omega,by simp only;omega,h4,by simp only;omega⟩,?_,by simp only;omega⟩
         (refine Sub.heap1 0 ?_ (by simp only [smF,dg,renL,renLs,simprocAttr,bl,i64];exact rfl) ?_ ?_;all_goals (first | exact dgs_plain _ | with_reducible rfl | (simp only [smF,dg,renL,renLs,simprocAttr,bl,i64];done) | (simp only [smF,dg,renL,renLs,simprocAttr,bl,i64]) | skip))
         all_goals (first | exact ⟨rfl,rfl,rfl⟩ | done)
end Go.Proofs.YtpkjokknpbclhaaGreat
namespace Go.Proofs.YtpkjokknpbclhaaGreat
open Go Go.Lg Go.Num
set_option maxRecDepth 100000
set_option maxHeartbeats 4000000
def pR (n i : Nat) : Nat := (pt n).getD (3 * i) 0
def pQ (n i : Nat) : Nat := (pt n).getD (3 * i + 2) 0
def hitA (root q r : Nat) : Bool := (Nat.beq (q % 2) 0 && Nat.beq (root + 1) q) || hitL root q (lgS q r) 64 1
def hitB (n : Nat) : Bool := (List.range (od n).length).all fun i => Nat.beq (n % pQ n i) 0 && Nat.ble 2 (pQ n i) && (List.range (pQ n i)).all fun r => !(Nat.beq (Nat.gcd r (pQ n i)) 1) || hitA (pR n i) (pQ n i) r
theorem hit_all : (List.range 61).all hitB = true := by decide +kernel
theorem hit_ok {n i : Nat} (h : n ≤ 60) (hi : i < (od n).length) : n % pQ n i = 0 ∧ 2 ≤ pQ n i ∧ ∀ r,r < pQ n i → Nat.gcd r (pQ n i) = 1 → (pQ n i % 2 = 0 ∧ pR n i + 1 = pQ n i) ∨ hitL (pR n i) (pQ n i) (lgS (pQ n i) r) 64 1 = true := by
 have h := List.all_eq_true.1 (List.all_eq_true.1 hit_all n (List.mem_range.2 (by omega))) i (List.mem_range.2 hi)
 rw [Bool.and_eq_true,Bool.and_eq_true,Nat.beq_eq,Nat.ble_eq] at h
 refine ⟨h.1.1,h.1.2,fun r hr hg => ?_⟩
 have h2 := List.all_eq_true.1 h.2 r (List.mem_range.2 hr)
 rw [hg,Bool.or_eq_true] at h2
 rcases h2 with h2 | h2
 ·cases h2
 ·unfold hitA at h2
  rw [Bool.or_eq_true,Bool.and_eq_true,Nat.beq_eq,Nat.beq_eq] at h2
  exact h2
def vs (s : Nat × Nat) (o e l : Nat) : Nat × Nat :=
 ((s.1 * o + e * l * s.2) / Nat.gcd (s.1 * o + e * l * s.2) (s.2 * o) % (s.2 * o / Nat.gcd (s.1 * o + e * l * s.2) (s.2 * o)),s.2 * o / Nat.gcd (s.1 * o + e * l * s.2) (s.2 * o))
def rsd (a : Int) (q : Nat) : Nat := (a % (q : Int)).toNat
def vf (n : Nat) (v : List Nat) (a : Int) : Nat → Nat × Nat
 | 0 => (0,1)
 | i + 1 => vs (vf n v a i) ((od n).getD i 0) (v.getD i 0) (lgA (pR n i) (pQ n i) (rsd a (pQ n i)))
theorem vs_bd {s : Nat × Nat} {o e l B : Nat} (h1 : s.1 < s.2) (h2 : s.2 ≤ B) (ho : 1 ≤ o ∧ o ≤ 60) : (vs s o e l).1 < (vs s o e l).2 ∧ (vs s o e l).2 ≤ B * 60 := by
 have hp : 0 < s.2 * o := Nat.mul_pos (by omega) ho.1
 have hg : 0 < Nat.gcd (s.1 * o + e * l * s.2) (s.2 * o) := Nat.gcd_pos_of_pos_right _ hp
 have hle : Nat.gcd (s.1 * o + e * l * s.2) (s.2 * o) ≤ s.2 * o := Nat.le_of_dvd hp (Nat.gcd_dvd_right _ _)
 have hd : 0 < s.2 * o / Nat.gcd (s.1 * o + e * l * s.2) (s.2 * o) := Nat.div_pos hle hg
 have hb : s.2 * o ≤ B * 60 := Nat.mul_le_mul h2 ho.2
 have := Nat.div_le_self (s.2 * o) (Nat.gcd (s.1 * o + e * l * s.2) (s.2 * o))
 exact ⟨Nat.mod_lt _ hd,by unfold vs;simp only;omega⟩
theorem vf_bd {n : Nat} (hn : n ≤ 60) (v : List Nat) (a : Int) : ∀ i,i ≤ (od n).length → (vf n v a i).1 < (vf n v a i).2 ∧ (vf n v a i).2 ≤ 60 ^ i
 | 0,_ => ⟨Nat.zero_lt_one,Nat.le_refl _⟩
 | i + 1,h => by
   have ih := vf_bd hn v a i (by omega)
   have := vs_bd (e := v.getD i 0) (l := lgA (pR n i) (pQ n i) (rsd a (pQ n i))) ih.1 ih.2 (od_pos hn (show i < (od n).length by omega))
   rw [vf,Nat.pow_succ]
   exact this
theorem lgA_le (r q a : Nat) (ha : a ≤ 100) : lgA r q a ≤ 100 := by
 unfold lgA
 split
 ·omega
 ·have := lgL_le r q (lgS q a) 64 1 0
  omega
theorem rsd_gcd {a : Int} {n q : Nat} (hq : n % q = 0) (hq2 : 2 ≤ q) (hg : Int.gcd a n = 1) : Nat.gcd (rsd a q) q = 1 := by
 have h0 : 0 ≤ a % (q : Int) := Int.emod_nonneg _ (by omega)
 have hr : ((rsd a q : Nat) : Int) = a % (q : Int) := by unfold rsd;omega
 have d1 : ((Nat.gcd (rsd a q) q : Nat) : Int) ∣ ((rsd a q : Nat) : Int) := Int.natCast_dvd_natCast.2 (Nat.gcd_dvd_left _ _)
 have d2 : ((Nat.gcd (rsd a q) q : Nat) : Int) ∣ (q : Int) := Int.natCast_dvd_natCast.2 (Nat.gcd_dvd_right _ _)
 have d3 : ((Nat.gcd (rsd a q) q : Nat) : Int) ∣ a := by
  have h := Int.dvd_add (Int.dvd_trans d2 (Int.dvd_mul_right (q : Int) (a / (q : Int)))) d1
  rwa [hr,Int.mul_ediv_add_emod] at h
 have d4 : Nat.gcd (rsd a q) q ∣ n := Nat.dvd_trans (Nat.gcd_dvd_right _ _) (Nat.dvd_of_mod_eq_zero hq)
 have d5 : Nat.gcd (rsd a q) q ∣ Int.gcd a n := Nat.dvd_gcd (by simpa using Int.natAbs_dvd_natAbs.2 d3) (by simpa using d4)
 rw [hg] at d5
 exact Nat.dvd_one.1 d5
attribute [local irreducible] Go.Lg.lrun Go.Lg.lwp Go.Lg.exThen Go.Lg.exBlk Go.Lg.keep Go.Lg.goodPost ec pt gn od lgA
theorem value_not {m : Int} {l : List Int} (hb : ChB m l) (a : Int) (ha : -4294967296 ≤ a ∧ a ≤ 4294967296) (hm : 1 ≤ m ∧ m ≤ 60) (hg : Int.gcd a m ≠ 1) : PureGood Tryz.prog 45 [.agg [i64 m,.sl l.length (ec l)],i64 a] (.agg [bl true,i64 0,i64 0]) := by
 have gg := gcdI_good a m (by omega) (by omega)
 have h1 : ¬ ((Int.gcd a m : Nat) : Int) = 1 := by omega
 generalize Int.gcd a m = g at *
 simp only [i64,bl] at *
 refine good_of_lwp mix Tryz.func45 rfl (by decide) (nt := 62) rfl (rs := [.cell 4 52]) rfl (nle rfl) ?_
 (repeat (first|apply zO (by decide +kernel)|apply zP (by decide +kernel)|(apply zS;(case h=>constructor<;>decide))|((first|apply l_go rfl|apply c_dec|apply zT rfl (by decide) rfl);(case hs=>(simp (disch := first|omega|exact kD rfl|exact kX rfl) only [smY,simprocAttr,bl,i64,smE];exact rfl));first|refine c_bt ?_|refine c_bf ?_|refine zq ?_|(case hg=>assumption))))
 ((first|apply g_ret|apply g_end);case hres => (simp only [smR];simp (disch := first|omega|exact kD rfl|exact kX rfl) only [smY,simprocAttr,bl,i64,smE];exact rfl))
 simp (disch := first|omega|exact kD rfl|exact kX rfl) only [smY,simprocAttr,bl,i64,smE]
theorem value_yes {n : Nat} {v : List Nat} (n1 : 1 ≤ n) (n2 : n ≤ 60) (hv : v.length = (od n).length) (hv2 : ∀ i,v.getD i 0 ≤ 60) (a : Int) (ha : -4294967296 ≤ a ∧ a ≤ 4294967296) (hg : Int.gcd a n = 1) : PureGood Tryz.prog 45 [.agg [i64 n,.sl (nI v).length (ec (nI v))],i64 a] (.agg [bl false,i64 ((vf n v a (od n).length).1 : Nat),i64 ((vf n v a (od n).length).2 : Nat)]) := by
 have gg := gcdI_good a n (by omega) (by omega)
 rw [hg] at gg
 have gp := parts_good n1 n2
 rw [nlv_eq] at gp
 obtain ⟨t1,t2,t3,t4,t5,t6,t7,t8,t9⟩ := tb (m := n) n2
 have hvl := nI_len v
 have hbd := fun i (hi : i ≤ (od n).length) => vf_bd n2 v a i hi
 simp only [i64,bl] at gg gp ⊢
 rw [hvl,hv]
 generalize hk : (od n).length = k at *
 refine good_of_lwp mix Tryz.func45 rfl (by decide) (nt := 62) rfl (rs := [.cell 4 52]) rfl (nle rfl) ?_
 (repeat (first|apply zO (by decide +kernel)|apply zP (by decide +kernel)|(apply zS;(case h=>constructor<;>decide))|((first|apply l_go rfl|apply c_dec|apply zT rfl (by decide) rfl);(case hs=>(simp (disch := first|omega|exact kD rfl|exact kX rfl) only [smY,simprocAttr,bl,i64,smE];exact rfl));first|refine c_bt ?_|refine c_bf ?_|refine zq ?_|(case hg=>assumption))))
 refine w_loop (α := {i : Nat // i ≤ k}) (fun i => st 62 (lk [(1,i64 a),(2,.ptr 0 0),(4,.ptr 1 0),(5,i64 ((vf n v a i.1).1 : Nat)),(6,i64 ((vf n v a i.1).2 : Nat)),(18,.sl k (ec (nI (pt n)))),(19,i64 k),(20,i64 i.1)]) (lkH [(0,⟨24,[i64 n,.sl k (ec (nI v))],false⟩),(1,⟨52,[bl false,i64 0,i64 0],false⟩)]) 2) (fun i => k - i.1) ⟨0,by omega⟩ ?_ ?_
 ·(refine Sub.heapL [0,1] rfl (by decide) ?_ (by simp only [smL];decide) ?_ ?_;all_goals (first|(simp only [plainC,smF,dg,renL,renLs,simprocAttr,bl,i64,smE];done) | (simp only [smF,dg,renL,renLs,simprocAttr,bl,i64,smE];(repeat' apply And.intro);all_goals rfl) | (simp only [smF,dg,renL,renLs,simprocAttr,bl,i64,smE]) | skip))
  all_goals (first | exact ⟨trivial,trivial,trivial,rfl,rfl⟩ | done)
 ·rintro ⟨i,hi⟩
  simp only [st]
  by_cases hlt : i < k
  ·obtain ⟨q1,q2,q3⟩ := hit_ok (n := n) (i := i) n2 (by omega)
   have hX := tr_td (pt n) i (by omega)
   rw [(t7 i (by omega)).1] at hX
   have hqle : pQ n i ≤ 60 := getD_le t4
   have hrle : pR n i ≤ 60 := getD_le t4
   have ho := od_pos (m := n) (i := i) n2 (by omega)
   have hp := nI_len (pt n)
   have hr0 : 0 ≤ a % (pQ n i : Int) := Int.emod_nonneg _ (by omega)
   have hr1 : a % (pQ n i : Int) < (pQ n i : Int) := Int.emod_lt_of_pos _ (by omega)
   have hre : a % (pQ n i : Int) = ((rsd a (pQ n i) : Nat) : Int) := by unfold rsd;omega
   have gl := logarithm_good (pR n i) ((od n).getD i 0) (pQ n i) a (rsd a (pQ n i)) hre (by omega) (by omega) (by omega) ha (q3 _ (by omega) (rsd_gcd q1 q2 hg))
   have hlle := lgA_le (pR n i) (pQ n i) (rsd a (pQ n i)) (by omega)
   have hvi := nI_get v i
   have hve := hv2 i
   have hb := hbd i (by omega)
   have hvf : vf n v a (i + 1) = vs (vf n v a i) ((od n).getD i 0) (v.getD i 0) (lgA (pR n i) (pQ n i) (rsd a (pQ n i))) := rfl
   have h60 : (60 : Nat) ^ i ≤ 3600 := by
    have : i ≤ 2 := by omega
    match i,this with
    | 0,_ => decide
    | 1,_ => decide
    | 2,_ => decide
   unfold pR pQ at *
   generalize lgA ((pt n).getD (3 * i) 0) ((pt n).getD (3 * i + 2) 0) (rsd a ((pt n).getD (3 * i + 2) 0)) = lg at *
   generalize (pt n).getD (3 * i) 0 = ra at *
   generalize (pt n).getD (3 * i + 2) 0 = rc at *
   generalize (od n).getD i 0 = o at *
   generalize v.getD i 0 = e at *
   generalize vf n v a i = s at *
   obtain ⟨x,y⟩ := s
   simp only at hb hvf ⊢
   unfold vs at hvf
   simp only at hvf
   have m1 : x * o ≤ 3600 * 60 := Nat.mul_le_mul (by omega) (by omega)
   have m2 : e * lg ≤ 60 * 100 := Nat.mul_le_mul (by omega) (by omega)
   have m3 : e * lg * y ≤ 60 * 100 * 3600 := Nat.mul_le_mul m2 (by omega)
   have m4 : y * o ≤ 3600 * 60 := Nat.mul_le_mul (by omega) (by omega)
   have m5 : 1 ≤ y * o := Nat.mul_pos (by omega) (by omega)
   have c1 : (x : Int) * (o : Int) = ((x * o : Nat) : Int) := by simp
   have c2 : (e : Int) * (lg : Int) = ((e * lg : Nat) : Int) := by simp
   have c3 : ((e * lg : Nat) : Int) * (y : Int) = ((e * lg * y : Nat) : Int) := by simp
   have c4 : (y : Int) * (o : Int) = ((y * o : Nat) : Int) := by simp
   have c5 : ((x * o : Nat) : Int) + ((e * lg * y : Nat) : Int) = ((x * o + e * lg * y : Nat) : Int) := by simp
   generalize x * o = A at *
   generalize hel : e * lg = B at *
   generalize B * y = C at *
   generalize y * o = Dn at *
   generalize hN : A + C = N at *
   have gg2 := gcdI_good (N : Int) (Dn : Int) (by omega) (by omega)
   have hgc : Int.gcd (N : Int) (Dn : Int) = Nat.gcd N Dn := rfl
   rw [hgc] at gg2
   have hgp : 0 < Nat.gcd N Dn := Nat.gcd_pos_of_pos_right _ m5
   have hgle : Nat.gcd N Dn ≤ Dn := Nat.le_of_dvd m5 (Nat.gcd_dvd_right _ _)
   generalize Nat.gcd N Dn = g at *
   have d1 : (N : Int) / (g : Int) = ((N / g : Nat) : Int) := rfl
   have d2 : (Dn : Int) / (g : Int) = ((Dn / g : Nat) : Int) := rfl
   have d3 : 0 < Dn / g := Nat.div_pos hgle hgp
   have d4 : N / g ≤ N := Nat.div_le_self _ _
   have d5 : Dn / g ≤ Dn := Nat.div_le_self _ _
   generalize N / g = x2 at *
   generalize Dn / g = y2 at *
   have d6 : (x2 : Int) % (y2 : Int) = ((x2 % y2 : Nat) : Int) := rfl
   generalize x2 % y2 = z2 at *
   have hg0 : ¬ (g : Int) = 0 := by omega
   have hy0 : ¬ (y2 : Int) = 0 := by omega
   simp only [i64] at gl gg2
   (repeat (first|apply zO (by decide +kernel)|apply zP (by decide +kernel)|(apply zS;(case h=>constructor<;>decide))|((first|apply l_go rfl|apply c_dec|apply zT rfl (by decide) rfl);(case hs=>(simp (disch := first|omega|exact kD rfl|exact kX rfl) only [smY,simprocAttr,bl,i64,smE,hX,hp,t1,hvi,c1,c2,c3,c4,c5,d1,d2,d6];exact rfl));first|refine c_bt ?_|refine c_bf ?_|refine zq ?_|(case hg=>assumption))))
   refine ⟨⟨i + 1,by omega⟩,?_,by simp only;omega⟩
   rw [hvf]
   (refine Sub.heapL [0,1] rfl (by decide) ?_ (by simp only [smL];decide) ?_ ?_;all_goals (first|(simp only [plainC,smF,dg,renL,renLs,simprocAttr,bl,i64,smE];done) | (simp only [smF,dg,renL,renLs,simprocAttr,bl,i64,smE];(repeat' apply And.intro);all_goals rfl) | (simp only [smF,dg,renL,renLs,simprocAttr,bl,i64,smE]) | skip))
   all_goals (first | done | ((repeat' apply And.intro);all_goals (first | trivial | rfl)))
  ·obtain rfl : i = k := by omega
   (repeat (first|apply zO (by decide +kernel)|apply zP (by decide +kernel)|(apply zS;(case h=>constructor<;>decide))|((first|apply l_go rfl|apply c_dec|apply zT rfl (by decide) rfl);(case hs=>(simp (disch := first|omega|exact kD rfl|exact kX rfl) only [smY,simprocAttr,bl,i64,smE];exact rfl));first|refine c_bt ?_|refine c_bf ?_|refine zq ?_|(case hg=>assumption))))
   ((first|apply g_ret|apply g_end);case hres => (simp only [smR];simp (disch := first|omega|exact kD rfl|exact kX rfl) only [smY,simprocAttr,bl,i64,smE];exact rfl))
   simp (disch := first|omega|exact kD rfl|exact kX rfl) only [smY,simprocAttr,bl,i64,smE]
end Go.Proofs.YtpkjokknpbclhaaGreat
namespace Go.Proofs.YtpkjokknpbclhaaGreat
open Go Go.Lg Go.Num
set_option maxRecDepth 100000
set_option maxHeartbeats 4000000
def okV (n : Nat) (v : List Nat) : Bool := Nat.beq v.length (od n).length && v.all fun e => Nat.ble e 60
theorem okV_get {n : Nat} {v : List Nat} (h : okV n v = true) : v.length = (od n).length ∧ ∀ i,v.getD i 0 ≤ 60 := by
 unfold okV at h
 rw [Bool.and_eq_true,Nat.beq_eq,List.all_eq_true] at h
 exact ⟨h.1,fun i => getD_le (fun a ha => Nat.le_of_ble_eq_true (h.2 a ha))⟩
def logK (root q a : Nat) : Nat := bif Nat.beq (q % 2) 0 && Nat.beq (root + 1) q then a % 4 / 2 else lgL root q (bif Nat.beq (q % 2) 0 && Nat.beq (a % 4) 3 then q - a else a) 64 1 0
theorem logK_eq (root q a : Nat) : logK root q a = lgA root q a := by
 unfold logK lgA lgS
 by_cases h1 : q % 2 = 0
 ·by_cases h2 : root + 1 = q
  ·simp [h1,h2]
  ·by_cases h3 : a % 4 = 3
   ·simp [h1,h2,h3,show Nat.beq (root + 1) q = false from Bool.eq_false_iff.2 (fun e => h2 (Nat.eq_of_beq_eq_true e))]
   ·simp [h1,h2,h3,show Nat.beq (root + 1) q = false from Bool.eq_false_iff.2 (fun e => h2 (Nat.eq_of_beq_eq_true e)),show Nat.beq (a % 4) 3 = false from Bool.eq_false_iff.2 (fun e => h3 (Nat.eq_of_beq_eq_true e))]
 ·simp [h1,show Nat.beq (q % 2) 0 = false from Bool.eq_false_iff.2 (fun e => h1 (Nat.eq_of_beq_eq_true e))]
def vK (n : Nat) (v : List Nat) (a : Int) : Nat → Nat → Nat → Nat → Option (Nat × Nat)
 | 0,_,x,y => some (x,y)
 | f + 1,i,x,y => fNat (pQ n i) fun q => fNat (rsd a q) fun r => fNat (logK (pR n i) q r) fun l => fNat ((od n).getD i 0) fun o => fNat (x * o + v.getD i 0 * l * y) fun N => fNat (y * o) fun D => fNat (Nat.gcd N D) fun g => fNat (D / g) fun y2 => fNat (N / g % y2) fun x2 => vK n v a f (Nat.succ i) x2 y2
theorem vK_eq (n : Nat) (v : List Nat) (a : Int) : ∀ (f i : Nat),vK n v a f i (vf n v a i).1 (vf n v a i).2 = some (vf n v a (i + f))
 | 0,i => rfl
 | f + 1,i => by
   unfold vK
   simp only [fNat_eq,logK_eq]
   have := vK_eq n v a f (i + 1)
   rw [show i + 1 + f = i + (f + 1) by omega] at this
   exact this
def valK (n : Nat) (v : List Nat) (a : Int) : Option LV := bif Nat.beq (Nat.gcd a.natAbs n) 1 then (match vK n v a (od n).length 0 0 1 with
 | some (x,y) => some (.agg [.lit (.bool false),.lit (.int .i64 (.ofNat x)),.lit (.int .i64 (.ofNat y))])
 | none => none) else some (.agg [.lit (.bool true),.lit (.int .i64 0),.lit (.int .i64 0)])
theorem valK_ok {n : Nat} {v : List Nat} {a : Int} {r : LV} (n1 : 1 ≤ n) (n2 : n ≤ 60) (hv : okV n v = true) (ha : -4294967296 ≤ a ∧ a ≤ 4294967296) (h : valK n v a = some r) : PureGood Tryz.prog 45 [.agg [i64 n,.sl (nI v).length (ec (nI v))],i64 a] r := by
 obtain ⟨h1,h2⟩ := okV_get hv
 unfold valK at h
 cases hb : Nat.beq (Nat.gcd a.natAbs n) 1 with
 | true =>
   rw [hb,cond_true] at h
   have e := vK_eq n v a (od n).length 0
   rw [Nat.zero_add] at e
   have e0 : vf n v a 0 = (0,1) := rfl
   rw [e0] at e
   rw [e] at h
   cases h
   have hg : Int.gcd a n = 1 := Nat.eq_of_beq_eq_true hb
   exact value_yes n1 n2 h1 h2 a ha hg
 | false =>
   rw [hb,cond_false] at h
   cases h
   have hg : Int.gcd a n ≠ 1 := fun e => by
     have : Nat.beq (Nat.gcd a.natAbs n) 1 = true := by rw [Nat.beq_eq];exact e
     rw [this] at hb
     cases hb
   exact value_not (m := n) (l := nI v) ⟨by omega,by rw [nI_len,h1];have := (tb (m := n) n2).2.2.1;omega⟩ a ha (by omega) hg
def orcVl (args : List LV) : Option LV := match args with
 | [.agg [.lit (.int .i64 (.ofNat n)),.sl k cs],.lit (.int .i64 a)] => match rdNs cs with
   | some v => bif Nat.ble 1 n && Nat.ble n 60 && Nat.beq k v.length && okV n v && Nat.ble a.natAbs 4294967296 then valK n v a else none
   | none => none
 | _ => none
theorem orcVl_ok {args : List LV} {r : LV} (h : orcVl args = some r) : PureGood Tryz.prog 45 args r := by
 unfold orcVl at h
 split at h
 ·rename_i n k cs a
  split at h
  ·rename_i v hv
   generalize hcond : (Nat.ble 1 n && Nat.ble n 60 && Nat.beq k v.length && okV n v && Nat.ble a.natAbs 4294967296) = q at h
   cases q with
   | false => rw [cond_false] at h;cases h
   | true =>
     rw [cond_true] at h
     simp only [Bool.and_eq_true,Nat.ble_eq,Nat.beq_eq] at hcond
     obtain ⟨⟨⟨⟨c1,c2⟩,rfl⟩,c4⟩,c5⟩ := hcond
     obtain ⟨rfl,_⟩ := rdNs_ok hv
     have := valK_ok c1 c2 c4 (by omega) h
     rw [nI_len] at this
     exact this
  ·cases h
 ·cases h
def orcU (f : FuncId) (args : List LV) : Option LV := bif Nat.beq f 45 then orcVl args else orcS f args
theorem orcU_ok : OrcOk Tryz.prog orcU := orc_cons (f0 := 45) (g := orcVl) (fun _ _ h => orcVl_ok h) orcS_ok
end Go.Proofs.YtpkjokknpbclhaaGreat