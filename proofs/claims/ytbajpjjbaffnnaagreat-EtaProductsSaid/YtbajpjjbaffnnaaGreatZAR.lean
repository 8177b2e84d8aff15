/- Contracts of functions of the program, and what proves them (texts: AD AE). -/
import Derived.KernelRfl
import Derived.Test.YtbajpjjbaffnnaaGreatZAD
import Derived.Test.YtbajpjjbaffnnaaGreatZAN
import Derived.Test.YtbajpjjbaffnnaaGreatZAP
import Derived.Test.YtbajpjjbaffnnaaGreatZAQ
set_option linter.all false
namespace Go.Proofs.YtbajpjjbaffnnaaGreat
open Go Go.Lg Go.Num
set_option maxRecDepth 100000
set_option maxHeartbeats 4000000
attribute [local irreducible] Go.Lg.lrun Go.Lg.lwp Go.Lg.exThen Go.Lg.exBlk Go.Lg.keep ec
def powL (l : List Int) (p : Int) : Nat → List Int
 | 0 => l
 | j + 1 => powL l p j ++ l.map (· * p ^ (j + 1))
theorem powL_length (l : List Int) (p : Int) : ∀ j,(powL l p j).length = l.length * (j + 1)
 | 0 => by simp [powL]
 | j + 1 => by rw [powL,List.length_append,powL_length l p j,List.length_map,Nat.mul_add l.length (j + 1)];omega
theorem powL_get (l : List Int) (p : Int) {i : Nat} (h : i < l.length) : ∀ j,(powL l p j).getD i 0 = l.getD i 0
 | 0 => rfl
 | j + 1 => by
   have := powL_length l p j
   have h2 : l.length * 1 ≤ l.length * (j + 1) := Nat.mul_le_mul_left _ (by omega)
   rw [← powL_get l p h j,powL]
   simp only [List.getD,List.getElem?_append_left (show i < (powL l p j).length by omega)]
theorem is_r7 {P : Program} [Laid P] {na : Nat} {ops : Array Oper} {draw : Bool} {Φ : Exit → LS → Prop} {s : LS} (h : lwp P na (.region 7 ops draw) Φ s) : lwp P na (.region 7 ops draw) Φ s := h
theorem powL_pos {p e j : Nat} (hp : 1 ≤ p) (h : j ≤ e) (he : p ^ e ≤ 1000) : 1 ≤ p ^ j ∧ p ^ j ≤ 1000 := ⟨Nat.pow_pos hp,Nat.le_trans (Nat.pow_le_pow_right hp h) he⟩
def powM (l : List Int) (p : Int) (j i : Nat) : List Int := powL l p j ++ (l.map (· * p ^ (j + 1))).take i
theorem powM_length (l : List Int) (p : Int) (j i : Nat) (h : i ≤ l.length) : (powM l p j i).length = (powL l p j).length + i := by
 rw [powM,List.length_append,List.length_take,List.length_map,Nat.min_eq_left h]
theorem powM_zero (l : List Int) (p : Int) (j : Nat) : powM l p j 0 = powL l p j := by simp [powM]
theorem powM_last (l : List Int) (p : Int) (j : Nat) : powM l p j l.length = powL l p (j + 1) := by
 rw [powM,powL,List.take_of_length_le (by simp)]
theorem powM_succ (l : List Int) (p : Int) (j i : Nat) (h : i < l.length) : powM l p j (i + 1) = powM l p j i ++ [l.getD i 0 * p ^ (j + 1)] := by
 rw [powM,powM,List.append_assoc,List.take_add_one,List.getElem?_map,List.getElem?_eq_getElem h]
 simp [h]
theorem powM_get (l : List Int) (p : Int) (j i : Nat) {m : Nat} (h : m < l.length) : (powM l p j i).getD m 0 = l.getD m 0 := by
 rw [← powL_get l p h j,powM]
 have := powL_length l p j
 have h2 : l.length * 1 ≤ l.length * (j + 1) := Nat.mul_le_mul_left _ (by omega)
 simp only [List.getD,List.getElem?_append_left (show m < (powL l p j).length by omega)]
theorem divcl_good (l : List Int) (p e : Nat) (hp : 1 ≤ p ∧ p ≤ 1000) (he2 : e ≤ 1000) (he : p ^ e ≤ 1000) (hl : l.length ≤ 1000) (hle : l.length * (e + 1) ≤ 100000) (hb : ∀ i, i < l.length → 0 ≤ l.getD i 0 ∧ l.getD i 0 ≤ 1000) :
  HGood Tryz.prog 77 ([i64 p,i64 e] ++ [.ptr 0 0]) (lkH [(0,⟨22,[.own 1 0 l.length 1],false⟩),(1,⟨3,ec l,false⟩)]) 2 (.tup []) (lkH [(0,⟨22,[.own 2 0 (powL l p e).length 1],false⟩),(2,⟨3,ec (powL l p e),false⟩)]) 100 := by
 refine heap_of_lwp mix Tryz.func77 rfl (by decide) (nt := 34) rfl (rs := []) rfl (nle rfl) ?_
 have hpos : ∀ j,j ≤ e → 1 ≤ p ^ j ∧ p ^ j ≤ 1000 := fun j hj => powL_pos hp.1 hj he
 (repeat (first|apply zO (by decide +kernel)|apply zP (by decide +kernel)|(apply zS;(case h=>constructor<;>decide))|((first|apply l_go rfl|apply c_dec|apply zT rfl (by decide) rfl);(case hs=>(simp (disch := first|omega|exact kD rfl|exact kX rfl) only [smY,simprocAttr,bl,i64,smE];exact rfl));first|refine c_bt ?_|refine c_bf ?_|refine zq ?_|(case hg=>assumption))))
 refine w_loop (α := {j : Nat // j ≤ e}) (fun j => st 34 (lk [(0,i64 p),(1,i64 ((e : Int) - (j.1 : Int))),(2,.ptr 0 0),(5,i64 l.length),(6,i64 ((p : Int) ^ (j.1 + 1)))]) (lkH [(0,⟨22,[.own 2 0 (powL l p j.1).length 1],false⟩),(2,⟨3,ec (powL l p j.1),false⟩)]) 3) (fun j => e - j.1) ⟨0,by omega⟩ ?_ ?_
 ·show Lg.Sub 2 _ _
  refine Sub.heap (na := 2) (fun b => ([0,1,1] : List Nat).getD b 0) ?_ ?_ ?_ (by decide)
  ·simp only [smF,dg,renL,renLs,simprocAttr,bl,i64,smE]
   try (simp only [LV.lit.injEq,Value.int.injEq,true_and,and_true,Int.pow_succ,Int.pow_zero,Int.one_mul];omega)
   try (simp;done)
   try (rw [wrap_i64 (by omega)];simp only [LV.lit.injEq,Value.int.injEq,true_and,and_true];omega)
  ·simp only [List.forall_mem_cons,List.not_mem_nil,false_imp_iff,implies_true,and_true]
   refine ⟨⟨by decide,_,by simp (disch := first|omega|exact kD rfl|exact kX rfl) only [smY,simprocAttr,bl,i64,smE];exact rfl,?_⟩,⟨by decide,_,by simp (disch := first|omega|exact kD rfl|exact kX rfl) only [smY,simprocAttr,bl,i64,smE];exact rfl,?_⟩⟩
   ·simp only [smF,dg,renL,renLs,simprocAttr,bl,i64,smE];try (first | rfl | (simp only [List.length_append,List.length_singleton,List.length_cons,List.length_nil];try rfl))
   ·simp only [smF,dg,renL,renLs,simprocAttr,bl,i64,smE];try rfl
  ·intro p hp q hq
   simp only [List.mem_cons,List.not_mem_nil,or_false] at hp hq
   rcases hp with rfl | rfl <;> rcases hq with rfl | rfl <;> simp
 ·rintro ⟨j,hj⟩
  simp only [st]
  by_cases h1 : j < e
  ·obtain ⟨hN1, hN2⟩ : l.length ≤ (powL l p j).length ∧ (powL l p j).length + l.length ≤ 100000 := by
    have hL := powL_length l p j
    have hL2 : l.length * (j + 2) ≤ l.length * (e + 1) := Nat.mul_le_mul_left _ (by omega)
    have hL3 : l.length * (j + 2) = l.length * (j + 1) + l.length := by rw [Nat.mul_add l.length j 2,Nat.mul_add l.length j 1];omega
    have hL4 : l.length * 1 ≤ l.length * (j + 1) := Nat.mul_le_mul_left _ (by omega)
    omega
   obtain ⟨hQ1,hQ2,hQ3⟩ : (1 ≤ (p : Int) ^ (j + 1) ∧ (p : Int) ^ (j + 1) ≤ 1000) ∧ (-1000000 ≤ (p : Int) ^ (j + 1) * (p : Int) ∧ (p : Int) ^ (j + 1) * (p : Int) ≤ 1000000) ∧ (p : Int) ^ (j + 1) * (p : Int) = (p : Int) ^ (j + 1 + 1) := by
    have hP := hpos (j + 1) (by omega)
    have ePc : (p : Int) ^ (j + 1) = ((p ^ (j + 1) : Nat) : Int) := (Int.natCast_pow p (j + 1)).symm
    have h1 : 1 ≤ (p : Int) ^ (j + 1) ∧ (p : Int) ^ (j + 1) ≤ 1000 := by rw [ePc];generalize p ^ (j + 1) = q at *;omega
    generalize hq : (p : Int) ^ (j + 1) = Q at *
    refine ⟨h1,mul_bd (A := 1000) (B := 1000) (by omega) (by omega),?_⟩
    rw [← hq];exact (Int.pow_succ ..).symm
   have hs0 := fun i (h : i < l.length) => powM_succ l p j i h
   have hz0 := powM_zero l p j
   have hl0 := powM_last l p j
   generalize hQQ : (p : Int) ^ (j + 1) = Q at *
   clear hpos hQQ
   (repeat (first|apply zO (by decide +kernel)|apply zP (by decide +kernel)|(apply zS;(case h=>constructor<;>decide))|((first|apply l_go rfl|apply c_dec|apply zT rfl (by decide) rfl);(case hs=>(simp (disch := first|omega|exact kD rfl|exact kX rfl) only [smY,simprocAttr,bl,i64,smE];exact rfl));first|refine c_bt ?_|refine c_bf ?_|refine zq ?_|(case hg=>assumption))))
   refine w_loop (α := {x : Nat × Option (List Int) // x.1 ≤ l.length ∧ ∀ X,x.2 = some X → l.length ≤ X.length ∧ ∀ m,m < l.length → X.getD m 0 = l.getD m 0})
    (fun x => match x.1.2 with
     | none => st 34 (lk [(0,i64 p),(1,i64 ((e : Int) - (j : Int))),(2,.ptr 0 0),(5,i64 l.length),(6,i64 Q),(21,.own 2 0 l.length 1),(22,i64 l.length),(23,i64 x.1.1)]) (lkH [(0,⟨22,[.own 2 0 (powM l p j x.1.1).length 1],false⟩),(2,⟨3,ec (powM l p j x.1.1),false⟩)]) 3
     | some X => st 34 (lk [(0,i64 p),(1,i64 ((e : Int) - (j : Int))),(2,.ptr 0 0),(5,i64 l.length),(6,i64 Q),(21,.own 2 0 l.length 1),(22,i64 l.length),(23,i64 x.1.1)]) (lkH [(0,⟨22,[.own 3 0 (powM l p j x.1.1).length 1],false⟩),(2,⟨3,ec X,false⟩),(3,⟨3,ec (powM l p j x.1.1),false⟩)]) 4) (fun x => l.length - x.1.1) ⟨(0,none),by simp,by simp⟩ ?_ ?_
   ·simp only [hz0,st]
    refine Sub.heap (na := 2) (fun b => ([0,1,2] : List Nat).getD b 0) ?_ ?_ ?_ (by decide)
    ·simp only [smF,dg,renL,renLs,simprocAttr,bl,i64,smE]
     try (simp only [LV.lit.injEq,Value.int.injEq,true_and,and_true,Int.pow_succ,Int.pow_zero,Int.one_mul];omega)
     try (simp;done)
     try (rw [wrap_i64 (by omega)];simp only [LV.lit.injEq,Value.int.injEq,true_and,and_true];omega)
    ·simp only [List.forall_mem_cons,List.not_mem_nil,false_imp_iff,implies_true,and_true]
     refine ⟨⟨by decide,_,by simp (disch := first|omega|exact kD rfl|exact kX rfl) only [smY,simprocAttr,bl,i64,smE];exact rfl,?_⟩,⟨by decide,_,by simp (disch := first|omega|exact kD rfl|exact kX rfl) only [smY,simprocAttr,bl,i64,smE];exact rfl,?_⟩⟩
     ·simp only [smF,dg,renL,renLs,simprocAttr,bl,i64,smE];try (first | rfl | (simp only [List.length_append,List.length_singleton,List.length_cons,List.length_nil];try rfl))
     ·simp only [smF,dg,renL,renLs,simprocAttr,bl,i64,smE];try rfl
    ·intro p hp q hq
     simp only [List.mem_cons,List.not_mem_nil,or_false] at hp hq
     rcases hp with rfl | rfl <;> rcases hq with rfl | rfl <;> simp
   ·rintro ⟨⟨i,fl⟩,hi,hX⟩
    simp only at hi hX
    have hM := powM_length l p j i hi
    by_cases h2 : i < l.length
    ·have hx := hb i h2
     have hxP := mul_bd (a := l.getD i 0) (b := Q) (A := 1000) (B := 1000) hx (by omega)
     have hs := hs0 i h2
     have hgM : ∀ m,m < l.length → (powM l p j i).getD m 0 = l.getD m 0 := fun m hm => powM_get l p j i hm
     have hg := hgM i h2
     have hM2 := powM_length l p j (i + 1) (by omega)
     generalize powM l p j i = M at *
     clear hs0 hz0 hl0 he hle
     rcases fl with _ | X
     ·simp only [st]
      (repeat ((fail_if_success (refine is_r7 ?_));first|apply zO (by decide +kernel)|apply zP (by decide +kernel)|(apply zS;(case h=>constructor<;>decide))|((first|apply l_go rfl|apply c_dec);(case hs => (simp (disch := first|omega|exact kD rfl|exact kX rfl) only [smY,simprocAttr,bl,i64,smE,hg];exact rfl));first|refine c_bt ?_|refine c_bf ?_|show lrun _ _ _ _ _ _ _ _ _)))
      apply zO (by decide +kernel)
      refine l_split 5 (by simp (disch := first|omega|exact kD rfl|exact kX rfl) only [smY,simprocAttr,bl,i64,smE,hg];exact rfl) ?_
      simp only [List.drop_succ_cons,List.drop_zero]
      refine l_append (b := 2) (nn := M.length) (cells := ec M) (news := [i64 (l.getD i 0 * Q)]) (m := 1) (by decide) tel22 (z := 0) tsz3 tby3 tze3 (by simp (disch := first|omega|exact kD rfl|exact kX rfl) only [smY,simprocAttr,bl,i64,smE,hg];try exact rfl) (by simp (disch := first|omega|exact kD rfl|exact kX rfl) only [smY,simprocAttr,bl,i64,smE,hg];try exact rfl) (by rw [ec_len];omega) (by simp (disch := first|omega|exact kD rfl|exact kX rfl) only [smY,simprocAttr,bl,i64,smE,hg];try exact rfl) (by decide) (by rw [hM];omega) (by rw [maxLen_eq,hM];omega) ?_ ?_
      ·(repeat (first|apply zO (by decide +kernel)|apply zP (by decide +kernel)|(apply zS;(case h=>constructor<;>decide))|((first|apply l_go rfl|apply c_dec|apply zT rfl (by decide) rfl);(case hs=>(simp (disch := first|omega|exact kD rfl|exact kX rfl) only [smY,simprocAttr,bl,i64,smE,hg];exact rfl));first|refine c_bt ?_|refine c_bf ?_|refine zq ?_|(case hg=>assumption))))
       refine ⟨⟨(i + 1,none),by simp only;omega,by simp⟩,?_,by simp only;omega⟩
       simp only [hs,st]
       refine Sub.heap (na := 2) (fun b => ([0,1,2] : List Nat).getD b 0) ?_ ?_ ?_ (by decide)
       ·simp only [smF,dg,renL,renLs,simprocAttr,bl,i64,smE,hg]
        try (simp only [LV.lit.injEq,Value.int.injEq,true_and,and_true,Int.pow_succ,Int.pow_zero,Int.one_mul];omega)
        try (simp;done)
        try (rw [wrap_i64 (by omega)];simp only [LV.lit.injEq,Value.int.injEq,true_and,and_true];omega)
       ·simp only [List.forall_mem_cons,List.not_mem_nil,false_imp_iff,implies_true,and_true]
        refine ⟨⟨by decide,_,by simp (disch := first|omega|exact kD rfl|exact kX rfl) only [smY,simprocAttr,bl,i64,smE,hg];exact rfl,?_⟩,⟨by decide,_,by simp (disch := first|omega|exact kD rfl|exact kX rfl) only [smY,simprocAttr,bl,i64,smE,hg];exact rfl,?_⟩⟩
        ·simp only [smF,dg,renL,renLs,simprocAttr,bl,i64,smE,hg];try (first | rfl | (simp only [List.length_append,List.length_singleton,List.length_cons,List.length_nil];try rfl))
        ·simp only [smF,dg,renL,renLs,simprocAttr,bl,i64,smE,hg];try rfl
       ·intro p hp q hq
        simp only [List.mem_cons,List.not_mem_nil,or_false] at hp hq
        rcases hp with rfl | rfl <;> rcases hq with rfl | rfl <;> simp
      ·(repeat (first|apply zO (by decide +kernel)|apply zP (by decide +kernel)|(apply zS;(case h=>constructor<;>decide))|((first|apply l_go rfl|apply c_dec|apply zT rfl (by decide) rfl);(case hs=>(simp (disch := first|omega|exact kD rfl|exact kX rfl) only [smY,simprocAttr,bl,i64,smE,hg];exact rfl));first|refine c_bt ?_|refine c_bf ?_|refine zq ?_|(case hg=>assumption))))
       refine ⟨⟨(i + 1,some M),by simp only;omega,fun Y hY => by cases hY;exact ⟨by omega,hgM⟩⟩,?_,by simp only;omega⟩
       simp only [hs,st]
       refine Sub.heap (na := 2) (fun b => ([0,1,2,12] : List Nat).getD b 0) ?_ ?_ ?_ (by decide)
       ·simp only [smF,dg,renL,renLs,simprocAttr,bl,i64,smE,hg]
        try (simp only [LV.lit.injEq,Value.int.injEq,true_and,and_true,Int.pow_succ,Int.pow_zero,Int.one_mul];omega)
        try (simp;done)
        try (rw [wrap_i64 (by omega)];simp only [LV.lit.injEq,Value.int.injEq,true_and,and_true];omega)
       ·simp only [List.forall_mem_cons,List.not_mem_nil,false_imp_iff,implies_true,and_true]
        refine ⟨⟨by decide,_,by simp (disch := first|omega|exact kD rfl|exact kX rfl) only [smY,simprocAttr,bl,i64,smE,hg];exact rfl,?_⟩,⟨by decide,_,by simp (disch := first|omega|exact kD rfl|exact kX rfl) only [smY,simprocAttr,bl,i64,smE,hg];exact rfl,?_⟩,⟨by decide,_,by simp (disch := first|omega|exact kD rfl|exact kX rfl) only [smY,simprocAttr,bl,i64,smE,hg];exact rfl,?_⟩⟩
        ·simp only [smF,dg,renL,renLs,simprocAttr,bl,i64,smE,hg];try (first | rfl | (simp only [List.length_append,List.length_singleton,List.length_cons,List.length_nil];try rfl))
        ·simp only [smF,dg,renL,renLs,simprocAttr,bl,i64,smE,hg];try rfl
        ·simp only [smF,dg,renL,renLs,simprocAttr,bl,i64,smE,hg];try rfl
       ·intro p hp q hq
        simp only [List.mem_cons,List.not_mem_nil,or_false] at hp hq
        rcases hp with rfl | rfl | rfl <;> rcases hq with rfl | rfl | rfl <;> simp
     ·obtain ⟨hX1,hX2⟩ := hX X rfl
      have hg := hX2 i h2
      simp only [st]
      (repeat ((fail_if_success (refine is_r7 ?_));first|apply zO (by decide +kernel)|apply zP (by decide +kernel)|(apply zS;(case h=>constructor<;>decide))|((first|apply l_go rfl|apply c_dec);(case hs => (simp (disch := first|omega|exact kD rfl|exact kX rfl) only [smY,simprocAttr,bl,i64,smE,hg];exact rfl));first|refine c_bt ?_|refine c_bf ?_|show lrun _ _ _ _ _ _ _ _ _)))
      apply zO (by decide +kernel)
      refine l_split 5 (by simp (disch := first|omega|exact kD rfl|exact kX rfl) only [smY,simprocAttr,bl,i64,smE,hg];exact rfl) ?_
      simp only [List.drop_succ_cons,List.drop_zero]
      refine l_append (b := 3) (nn := M.length) (cells := ec M) (news := [i64 (l.getD i 0 * Q)]) (m := 1) (by decide) tel22 (z := 0) tsz3 tby3 tze3 (by simp (disch := first|omega|exact kD rfl|exact kX rfl) only [smY,simprocAttr,bl,i64,smE,hg];try exact rfl) (by simp (disch := first|omega|exact kD rfl|exact kX rfl) only [smY,simprocAttr,bl,i64,smE,hg];try exact rfl) (by rw [ec_len];omega) (by simp (disch := first|omega|exact kD rfl|exact kX rfl) only [smY,simprocAttr,bl,i64,smE,hg];try exact rfl) (by decide) (by rw [hM];omega) (by rw [maxLen_eq,hM];omega) ?_ ?_
      ·(repeat (first|apply zO (by decide +kernel)|apply zP (by decide +kernel)|(apply zS;(case h=>constructor<;>decide))|((first|apply l_go rfl|apply c_dec|apply zT rfl (by decide) rfl);(case hs=>(simp (disch := first|omega|exact kD rfl|exact kX rfl) only [smY,simprocAttr,bl,i64,smE,hg];exact rfl));first|refine c_bt ?_|refine c_bf ?_|refine zq ?_|(case hg=>assumption))))
       refine ⟨⟨(i + 1,some X),by simp only;omega,hX⟩,?_,by simp only;omega⟩
       simp only [hs,st]
       refine Sub.heap (na := 2) (fun b => ([0,1,2,3] : List Nat).getD b 0) ?_ ?_ ?_ (by decide)
       ·simp only [smF,dg,renL,renLs,simprocAttr,bl,i64,smE,hg]
        try (simp only [LV.lit.injEq,Value.int.injEq,true_and,and_true,Int.pow_succ,Int.pow_zero,Int.one_mul];omega)
        try (simp;done)
        try (rw [wrap_i64 (by omega)];simp only [LV.lit.injEq,Value.int.injEq,true_and,and_true];omega)
       ·simp only [List.forall_mem_cons,List.not_mem_nil,false_imp_iff,implies_true,and_true]
        refine ⟨⟨by decide,_,by simp (disch := first|omega|exact kD rfl|exact kX rfl) only [smY,simprocAttr,bl,i64,smE,hg];exact rfl,?_⟩,⟨by decide,_,by simp (disch := first|omega|exact kD rfl|exact kX rfl) only [smY,simprocAttr,bl,i64,smE,hg];exact rfl,?_⟩,⟨by decide,_,by simp (disch := first|omega|exact kD rfl|exact kX rfl) only [smY,simprocAttr,bl,i64,smE,hg];exact rfl,?_⟩⟩
        ·simp only [smF,dg,renL,renLs,simprocAttr,bl,i64,smE,hg];try (first | rfl | (simp only [List.length_append,List.length_singleton,List.length_cons,List.length_nil];try rfl))
        ·simp only [smF,dg,renL,renLs,simprocAttr,bl,i64,smE,hg];try rfl
        ·simp only [smF,dg,renL,renLs,simprocAttr,bl,i64,smE,hg];try rfl
       ·intro p hp q hq
        simp only [List.mem_cons,List.not_mem_nil,or_false] at hp hq
        rcases hp with rfl | rfl | rfl <;> rcases hq with rfl | rfl | rfl <;> simp
      ·(repeat (first|apply zO (by decide +kernel)|apply zP (by decide +kernel)|(apply zS;(case h=>constructor<;>decide))|((first|apply l_go rfl|apply c_dec|apply zT rfl (by decide) rfl);(case hs=>(simp (disch := first|omega|exact kD rfl|exact kX rfl) only [smY,simprocAttr,bl,i64,smE,hg];exact rfl));first|refine c_bt ?_|refine c_bf ?_|refine zq ?_|(case hg=>assumption))))
       refine ⟨⟨(i + 1,some X),by simp only;omega,hX⟩,?_,by simp only;omega⟩
       simp only [hs,st]
       refine Sub.heap (na := 2) (fun b => ([0,1,2,13] : List Nat).getD b 0) ?_ ?_ ?_ (by decide)
       ·simp only [smF,dg,renL,renLs,simprocAttr,bl,i64,smE,hg]
        try (simp only [LV.lit.injEq,Value.int.injEq,true_and,and_true,Int.pow_succ,Int.pow_zero,Int.one_mul];omega)
        try (simp;done)
        try (rw [wrap_i64 (by omega)];simp only [LV.lit.injEq,Value.int.injEq,true_and,and_true];omega)
       ·simp only [List.forall_mem_cons,List.not_mem_nil,false_imp_iff,implies_true,and_true]
        refine ⟨⟨by decide,_,by simp (disch := first|omega|exact kD rfl|exact kX rfl) only [smY,simprocAttr,bl,i64,smE,hg];exact rfl,?_⟩,⟨by decide,_,by simp (disch := first|omega|exact kD rfl|exact kX rfl) only [smY,simprocAttr,bl,i64,smE,hg];exact rfl,?_⟩,⟨by decide,_,by simp (disch := first|omega|exact kD rfl|exact kX rfl) only [smY,simprocAttr,bl,i64,smE,hg];exact rfl,?_⟩⟩
        ·simp only [smF,dg,renL,renLs,simprocAttr,bl,i64,smE,hg];try (first | rfl | (simp only [List.length_append,List.length_singleton,List.length_cons,List.length_nil];try rfl))
        ·simp only [smF,dg,renL,renLs,simprocAttr,bl,i64,smE,hg];try rfl
        ·simp only [smF,dg,renL,renLs,simprocAttr,bl,i64,smE,hg];try rfl
       ·intro p hp q hq
        simp only [List.mem_cons,List.not_mem_nil,or_false] at hp hq
        rcases hp with rfl | rfl | rfl <;> rcases hq with rfl | rfl | rfl <;> simp
    ·obtain rfl : i = l.length := by omega
     rcases fl with _ | X
     ·simp only [st]
      rw [hl0]
      (repeat (first|apply zO (by decide +kernel)|apply zP (by decide +kernel)|(apply zS;(case h=>constructor<;>decide))|((first|apply l_go rfl|apply c_dec|apply zT rfl (by decide) rfl);(case hs=>(simp (disch := first|omega|exact kD rfl|exact kX rfl) only [smY,simprocAttr,bl,i64,smE];exact rfl));first|refine c_bt ?_|refine c_bf ?_|refine zq ?_|(case hg=>assumption))))
      refine ⟨⟨j + 1,by omega⟩,?_,by simp only;omega⟩
      simp only [hQ3,st]
      refine Sub.heap (na := 2) (fun b => ([0,1,2] : List Nat).getD b 0) ?_ ?_ ?_ (by decide)
      ·simp only [smF,dg,renL,renLs,simprocAttr,bl,i64,smE]
       try (simp only [LV.lit.injEq,Value.int.injEq,true_and,and_true,Int.pow_succ,Int.pow_zero,Int.one_mul];omega)
       try (simp;done)
       try (rw [wrap_i64 (by omega)];simp only [LV.lit.injEq,Value.int.injEq,true_and,and_true];omega)
      ·simp only [List.forall_mem_cons,List.not_mem_nil,false_imp_iff,implies_true,and_true]
       refine ⟨⟨by decide,_,by simp (disch := first|omega|exact kD rfl|exact kX rfl) only [smY,simprocAttr,bl,i64,smE];exact rfl,?_⟩,⟨by decide,_,by simp (disch := first|omega|exact kD rfl|exact kX rfl) only [smY,simprocAttr,bl,i64,smE];exact rfl,?_⟩⟩
       ·simp only [smF,dg,renL,renLs,simprocAttr,bl,i64,smE];try (first | rfl | (simp only [List.length_append,List.length_singleton,List.length_cons,List.length_nil];try rfl))
       ·simp only [smF,dg,renL,renLs,simprocAttr,bl,i64,smE];try rfl
      ·intro p hp q hq
       simp only [List.mem_cons,List.not_mem_nil,or_false] at hp hq
       rcases hp with rfl | rfl <;> rcases hq with rfl | rfl <;> simp
     ·simp only [st]
      rw [hl0]
      (repeat (first|apply zO (by decide +kernel)|apply zP (by decide +kernel)|(apply zS;(case h=>constructor<;>decide))|((first|apply l_go rfl|apply c_dec|apply zT rfl (by decide) rfl);(case hs=>(simp (disch := first|omega|exact kD rfl|exact kX rfl) only [smY,simprocAttr,bl,i64,smE];exact rfl));first|refine c_bt ?_|refine c_bf ?_|refine zq ?_|(case hg=>assumption))))
      refine ⟨⟨j + 1,by omega⟩,?_,by simp only;omega⟩
      simp only [hQ3,st]
      refine Sub.heap (na := 2) (fun b => ([0,1,3] : List Nat).getD b 0) ?_ ?_ ?_ (by decide)
      ·simp only [smF,dg,renL,renLs,simprocAttr,bl,i64,smE]
       try (simp only [LV.lit.injEq,Value.int.injEq,true_and,and_true,Int.pow_succ,Int.pow_zero,Int.one_mul];omega)
       try (simp;done)
       try (rw [wrap_i64 (by omega)];simp only [LV.lit.injEq,Value.int.injEq,true_and,and_true];omega)
      ·simp only [List.forall_mem_cons,List.not_mem_nil,false_imp_iff,implies_true,and_true]
       refine ⟨⟨by decide,_,by simp (disch := first|omega|exact kD rfl|exact kX rfl) only [smY,simprocAttr,bl,i64,smE];exact rfl,?_⟩,⟨by decide,_,by simp (disch := first|omega|exact kD rfl|exact kX rfl) only [smY,simprocAttr,bl,i64,smE];exact rfl,?_⟩⟩
       ·simp only [smF,dg,renL,renLs,simprocAttr,bl,i64,smE];try (first | rfl | (simp only [List.length_append,List.length_singleton,List.length_cons,List.length_nil];try rfl))
       ·simp only [smF,dg,renL,renLs,simprocAttr,bl,i64,smE];try rfl
      ·intro p hp q hq
       simp only [List.mem_cons,List.not_mem_nil,or_false] at hp hq
       rcases hp with rfl | rfl <;> rcases hq with rfl | rfl <;> simp
  ·obtain rfl : j = e := by omega
   (repeat (first|apply zO (by decide +kernel)|apply zP (by decide +kernel)|(apply zS;(case h=>constructor<;>decide))|((first|apply l_go rfl|apply c_dec|apply zT rfl (by decide) rfl);(case hs=>(simp (disch := first|omega|exact kD rfl|exact kX rfl) only [smY,simprocAttr,bl,i64,smE];exact rfl));first|refine c_bt ?_|refine c_bf ?_|refine zq ?_|(case hg=>assumption))))
   exact ⟨by simp only [smR];try rfl,rfl,Nat.le_of_ble_eq_true rfl⟩
end Go.Proofs.YtbajpjjbaffnnaaGreat
namespace Go.Proofs.YtbajpjjbaffnnaaGreat
open Go Go.Lg Go.Num
set_option maxRecDepth 100000
def rdNs : List LV → Option (List Nat)
 | [] => some []
 | .lit (.int .i64 (.ofNat d)) :: cs => match rdNs cs with
   | some ds => bif Nat.ble d 1000 then some (d :: ds) else none
   | none => none
 | _ => none
def nI (l : List Nat) : List Int := l.map fun (d : Nat) => (d : Int)
theorem rdNs_ok : ∀ {cs : List LV} {l : List Nat},rdNs cs = some l → cs = ec (nI l) ∧ ∀ i,i < l.length → 0 ≤ (nI l).getD i 0 ∧ (nI l).getD i 0 ≤ 1000
 | [],l,h => by cases h;exact ⟨rfl,by simp⟩
 | c :: cs,l,h => by
   unfold rdNs at h
   split at h
   · simp_all
   · rename_i d cs' he
     simp only [List.cons.injEq] at he
     obtain ⟨rfl,rfl⟩ := he
     split at h
     · rename_i ds hds
       cases hb : Nat.ble d 1000 with
       | true =>
         rw [hb,cond_true] at h
         cases h
         obtain ⟨e1,e2⟩ := rdNs_ok hds
         rw [e1]
         refine ⟨rfl,fun i hi => ?_⟩
         have := Nat.le_of_ble_eq_true hb
         cases i with
         | zero => simp [nI];omega
         | succ i => simpa [nI] using e2 i (by simpa using hi)
       | false => rw [hb,cond_false] at h;cases h
     · cases h
   · cases h
def powN (l : List Nat) (p : Nat) : Nat → List Nat
 | 0 => l
 | j + 1 => powN l p j ++ l.map (· * p ^ (j + 1))
theorem powN_eq (l : List Nat) (p : Nat) : ∀ j,powL (nI l) (p : Int) j = nI (powN l p j)
 | 0 => rfl
 | j + 1 => by
   rw [powL,powN,powN_eq l p j]
   simp [nI,Function.comp_def]
def encNs : List Nat → List LV
 | [] => []
 | d :: l => .lit (.int .i64 (.ofNat d)) :: encNs l
theorem encNs_eq : ∀ l : List Nat,encNs l = ec (nI l)
 | [] => rfl
 | d :: l => by rw [encNs,encNs_eq l];rfl
noncomputable def orcDiv (args : List LV) (hp : List (Nat × Blk)) (nb : Nat) : Option (LV × List (Nat × Blk) × Nat) :=
 match args with
 | [.lit (.int .i64 (.ofNat p)),.lit (.int .i64 (.ofNat e)),.ptr c o] => match lkG hp c with
   | some ⟨ts,[.own b o' n sz],false⟩ => match lkG hp b with
     | some ⟨te,cells,false⟩ => match rdNs cells with
       | some l => bif Nat.beq o 0 && Nat.beq o' 0 && Nat.beq sz 1 && Nat.beq ts 22 && Nat.beq te 3 && Nat.beq n l.length && !(Nat.beq c b) && Nat.ble 1 p && Nat.ble p 1000 && Nat.ble e 1000 && Nat.ble (p ^ e) 1000 && Nat.ble l.length 1000 && Nat.ble (l.length * (e + 1)) 100000 then
           fLs (encNs (powN l p e)) fun cs => fNat (powN l p e).length fun n' => fNat nb fun nb => some (.tup [],(nb,⟨3,cs,false⟩) :: (c,⟨22,[.own nb 0 n' 1],false⟩) :: delG hp b,nb + 1) else none
       | none => none
     | _ => none
   | _ => none
 | _ => none
theorem orcDiv_ok {args : List LV} {hp hp' : List (Nat × Blk)} {nb nb' : Nat} {r : LV} (h : orcDiv args hp nb = some (r,hp',nb')) : nb ≤ nb' ∧ HGood Tryz.prog 77 args (lkG hp) nb r (lkG hp') nb' := by
 unfold orcDiv at h
 split at h
 ·rename_i p e c o
  split at h
  ·rename_i ts b o' n sz hc
   split at h
   ·rename_i te cells hb
    split at h
    ·rename_i l hl
     generalize hcond : (Nat.beq o 0 && Nat.beq o' 0 && Nat.beq sz 1 && Nat.beq ts 22 && Nat.beq te 3 && Nat.beq n l.length && !(Nat.beq c b) && Nat.ble 1 p && Nat.ble p 1000 && Nat.ble e 1000 && Nat.ble (p ^ e) 1000 && Nat.ble l.length 1000 && Nat.ble (l.length * (e + 1)) 100000) = q at h
     cases q with
     | false => rw [cond_false] at h;cases h
     | true =>
       rw [cond_true,fLs_eq,fNat_eq,fNat_eq] at h
       cases h
       simp only [Bool.and_eq_true,Bool.not_eq_true',Nat.beq_eq,Nat.ble_eq] at hcond
       obtain ⟨⟨⟨⟨⟨⟨⟨⟨⟨⟨⟨⟨rfl,rfl⟩,rfl⟩,rfl⟩,rfl⟩,rfl⟩,hne⟩,c1⟩,c2⟩,c3⟩,c4⟩,c5⟩,c6⟩ := hcond
       obtain ⟨rfl,e2⟩ := rdNs_ok hl
       have hcb : c ≠ b := fun e => by subst e;simp at hne
       have ll : (nI l).length = l.length := by simp [nI]
       have hg := divcl_good (nI l) p e ⟨c1,c2⟩ c3 c4 (by rw [ll];exact c5) (by rw [ll];exact c6) (fun i hi => e2 i (by rw [← ll];exact hi))
       rw [powN_eq,ll] at hg
       have hf := h_frame2 (h := lkG hp) (c := c) (b := b) (nb := nb) hg (by simp [plainC,i64]) rfl (ec_plain' _) (ec_plain' _) hc hb hcb
       refine ⟨Nat.le_succ _,?_⟩
       rw [lkG_cons,lkG_cons,lkG_del,encNs_eq]
       have e3 : (nI (powN l p e)).length = (powN l p e).length := by simp [nI]
       rw [e3] at hf
       exact hf
    ·cases h
   ·cases h
  ·cases h
 ·cases h
noncomputable def horc : Callf := fun f args hp nb => bif Nat.beq f 77 then orcDiv args hp nb else none
theorem horc_ok : CallOk Tryz.prog horc := by
 intro f args hp nb r hp' nb' h
 unfold horc at h
 cases hb : Nat.beq f 77 with
 | true =>
   rw [hb,cond_true] at h
   rw [Nat.eq_of_beq_eq_true hb]
   exact orcDiv_ok h
 | false => rw [hb,cond_false] at h;cases h
noncomputable def evh (f : Nat) (args : List LV) : Option LV := evPH Tryz.prog orc horc (fun _ => 0) [169,194] 400 f args
theorem evh_good {f : Nat} {args : List LV} {r : LV} (h : evh f args = some r) : PureGood Tryz.prog f args r := evPH_sound mix orc_ok horc_ok bodies_ok h
end Go.Proofs.YtbajpjjbaffnnaaGreat