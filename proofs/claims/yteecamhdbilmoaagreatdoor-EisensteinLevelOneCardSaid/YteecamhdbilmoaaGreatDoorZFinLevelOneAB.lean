/- Contracts of functions of the program, and what proves them (texts: K4 K5 F2 X0 D1n D4 D2 D5 D7 D8 NumB K6 X1 X3 X4 R1 K7). -/
import Derived.KernelRfl
import Derived.Test.YteecamhdbilmoaaGreatDoorZAM
import Derived.Test.YteecamhdbilmoaaGreatDoorZAO
import Derived.Test.YteecamhdbilmoaaGreatDoorZFinLevelOneAA
set_option linter.all false
namespace Go.Num
def isS (z : Int) : Prop := z = 1 ∨ z = 0 ∨ z = -1
theorem isS_mul {a b : Int} (ha : isS a) (hb : isS b) : isS (a * b) := by
 rcases ha with e | e | e <;> rcases hb with e' | e' | e' <;> rw [e,e'] <;> unfold isS <;> decide
theorem isS_pow {a : Int} (ha : isS a) : ∀ k,isS (a ^ k)
 | 0 => by rw [Int.pow_zero];exact .inl rfl
 | k + 1 => by rw [Int.pow_succ];exact isS_mul (isS_pow ha k) ha
theorem isS_bd {a : Int} (h : isS a) : -1 ≤ a ∧ a ≤ 1 := by rcases h with e | e | e <;> omega
theorem lgs_2 {d : Int} {p : Nat} (h : ¬ 2 < p) : lgs d p = two d := by
 have e : Nat.ble 3 p = false := by
  cases e : Nat.ble 3 p with
  | false => rfl
  | true => exact absurd (Nat.le_of_ble_eq_true e) h
 rw [lgs,e];rfl
theorem lgs_m {d : Int} {p : Nat} (h : 2 < p) (h1 : pwm d ((p - 1) / 2) p = p - 1) : lgs d p = -1 := by
 have h1' : Nat.beq (pwm d (Nat.div (Nat.pred p) 2) p) (Nat.pred p) = true := beq_yes h1
 rw [lgs,show Nat.ble 3 p = true from Nat.ble_eq_true_of_le h,h1'];rfl
theorem lgs_p {d : Int} {p : Nat} (h : 2 < p) (h1 : ¬ pwm d ((p - 1) / 2) p = p - 1) : lgs d p = (pwm d ((p - 1) / 2) p : Nat) := by
 have h1' : Nat.beq (pwm d (Nat.div (Nat.pred p) 2) p) (Nat.pred p) = false := beq_no h1
 rw [lgs,show Nat.ble 3 p = true from Nat.ble_eq_true_of_le h,h1'];rfl
theorem krM_cons (d : Int) (p : Nat × Nat) (l : List (Nat × Nat)) (o : Int) : krM d (p :: l) o = krM d l (o * kr d p.1 ^ p.2) := rfl
theorem krM_nil (d : Int) (o : Int) : krM d [] o = o := rfl
theorem krM_drop {d : Int} {l : List (Nat × Nat)} {i : Nat} {o : Int} (h : i < l.length) : krM d (l.drop i) o = krM d (l.drop (i + 1)) (o * kr d (l.getD i (0,0)).1 ^ (l.getD i (0,0)).2) := by
 rw [List.drop_eq_getElem_cons h,krM_cons]
 have : l.getD i (0,0) = l[i] := by simp [h]
 rw [this]
theorem pwm_lt (d : Int) (n : Nat) {m : Nat} (h : 1 ≤ m) : pwm d n m < m := by
 have key : ∀ f n x o,o < m → pwF m f n x o < m := by
  intro f
  induction f with
  | zero => intro n x o h;exact h
  | succ f ih =>
    intro n x o ho
    by_cases h0 : n = 0
    · subst h0;rw [pwF_0];exact ho
    · by_cases h2 : n % 2 = 1
      · rw [pwF_odd h2];exact ih _ _ _ (Nat.mod_lt _ h)
      · rw [pwF_even h0 h2];exact ih _ _ _ ho
 exact key _ _ _ _ (Nat.mod_lt _ h)
end Go.Num
namespace Go.Proofs.YteecamhdbilmoaaGreatDoor
open Go Go.Lg Go.Num
set_option maxRecDepth 100000
set_option maxHeartbeats 4000000
attribute [local irreducible] Go.Lg.lrun Go.Lg.lwp Go.Lg.exThen Go.Lg.exBlk Go.Lg.keep Go.Lg.goodPost tz od jac dm ec fl kr krM two pwm lgs fcl
theorem rkron_good (d : Int) (hd : d ∈ fdL) (n : Nat) (h1 : 1 ≤ n) (h2 : n ≤ 1000) : PureGood Tryz.prog 82 [i64 d,i64 n] (i64 (kr d n)) := by
 have rf := rfactor_good n h1 h2
 have hrng := fd_rng hd
 have r2 := rtwo_good d (by omega)
 have hJ0 := krM_eq hd h1 h2
 have hel : ∀ i,i < (fcl n).length → _ := fun i hi => fcl_el h1 h2 hi
 have hll : (fcl n).length ≤ 1000 := by
  have key : (all1 fun n => Nat.ble (fcl n).length 1000) 1000 = true := by decide +kernel
  exact Nat.le_of_ble_eq_true (all1_ok key h1 h2)
 generalize kr d n = J at *
 generalize fcl n = L at *
 simp only [i64] at *
 refine good_of_lwp mix Tryz.func82 rfl (by decide) (nt := 65) rfl (rs := [.tmp 4]) rfl (nle rfl) ?_
 (repeat (first|apply zO (by decide +kernel)|apply zP (by decide +kernel)|(apply zS;(case h=>constructor<;>decide))|((first|apply l_go rfl|apply c_dec|apply zT rfl (by decide) rfl);(case hs=>(simp (disch := first|omega|exact kD rfl|exact kX rfl) only [smY,simprocAttr,bl,i64,smE];exact rfl));first|refine c_bt ?_|refine c_bf ?_|refine zq ?_|(case hg=>assumption))))
 refine w_loop (α := {p : Nat × Int // krM d (L.drop p.1) p.2 = J ∧ p.1 ≤ L.length ∧ isS p.2}) (fun p => st 65 (lk [(0,i64 d),(5,i64 p.1.2),(6,.sl L.length (ec (fl L))),(7,i64 p.1.1)]) (lkH []) 0) (fun p => L.length - p.1.1) ⟨(0,1),hJ0,Nat.zero_le _,.inl rfl⟩ ?_ ?_
 ·(refine Sub.plain ?_;simp only [smF,dg,renL,renLs,simprocAttr,bl,i64,smE])
  all_goals (first | done | simp)
 ·rintro ⟨⟨i,o⟩,hM,hi,ho⟩
  simp only at hM hi ho
  simp only [st]
  have hob := isS_bd ho
  by_cases hil : i < L.length
  ·obtain ⟨q1,q2⟩ := hel i hil
   have g0 := fl_get0 hil
   have g1 := fl_get1 hil
   rw [krM_drop hil] at hM
   generalize hpe : L.getD i (0,0) = pe at *
   obtain ⟨p,e⟩ := pe
   simp only at q1 q2 g0 g1 hM
   obtain ⟨p1,p2⟩ := prK_rng q1
   have hlg := lgs_eq hd q1
   have hkr := (kr_val hd (n := p) (by omega) p2).2
   have hll2 : (fl L).length = L.length * 2 := fl_len L
   by_cases hp : 2 < p
   ·have rp := rpower3_good d ((p - 1) / 2) p (by omega) (by omega) (by omega) p2
    have hpl := pwm_lt d ((p - 1) / 2) (m := p) (by omega)
    have e1 : ((p : Int) - 1) / 2 = (((p - 1) / 2 : Nat) : Int) := by omega
    by_cases hm : pwm d ((p - 1) / 2) p = p - 1
    ·rw [lgs_m hp hm] at hlg
     rw [hm] at rp
     rw [← hlg] at hM hkr
     have hsS : isS (-1) := hkr
     obtain ⟨s,hs⟩ : ∃ s : Int,-1 = s := ⟨_,rfl⟩
     rw [hs] at hM hsS
     generalize two d = t at *
     generalize (p - 1) / 2 = h at *
     simp only [i64] at rp
     (repeat (first|apply zO (by decide +kernel)|apply zP (by decide +kernel)|(apply zS;(case h=>constructor<;>decide))|((first|apply l_go rfl|apply c_dec|apply zT rfl (by decide) rfl);(case hs=>(simp (disch := first|omega|exact kD rfl|exact kX rfl) only [smY,simprocAttr,bl,i64,smE,hll2,g0,g1,e1];exact rfl));first|refine c_bt ?_|refine c_bf ?_|refine zq ?_|(case hg=>assumption))))
     refine w_loop (α := {k : Nat // k ≤ e}) (fun k => st 65 (lk [(0,i64 d),(5,i64 (o * s ^ k.1)),(6,.sl L.length (ec (fl L))),(7,i64 i),(9,i64 s),(10,i64 k.1)]) (lkH []) 0) (fun k => e - k.1) ⟨0,by omega⟩ ?_ ?_
     ·simp only [Int.pow_zero,Int.mul_one]
      (refine Sub.plain ?_;simp only [smF,dg,renL,renLs,simprocAttr,bl,i64,smE,hll2,g0,g1])
      all_goals (first | done | (simp;done) | exact hs | (simp;exact hs))
     ·rintro ⟨k,hk⟩
      simp only [st]
      have hb := isS_bd (isS_mul ho (isS_pow hsS k))
      by_cases hke : k < e
      ·have es : o * s ^ (k + 1) = o * s ^ k * s := by rw [Int.pow_succ,Int.mul_assoc]
       have hb2 := isS_bd (isS_mul ho (isS_pow hsS (k + 1)))
       rw [es] at hb2
       generalize o * s ^ k = u at *
       (repeat (first|apply zO (by decide +kernel)|apply zP (by decide +kernel)|(apply zS;(case h=>constructor<;>decide))|((first|apply l_go rfl|apply c_dec|apply zT rfl (by decide) rfl);(case hs=>(simp (disch := first|omega|exact kD rfl|exact kX rfl) only [smY,simprocAttr,bl,i64,smE,hll2,g0,g1];exact rfl));first|refine c_bt ?_|refine c_bf ?_|refine zq ?_|(case hg=>assumption))))
       refine ⟨⟨k + 1,by omega⟩,?_,by simp only;omega⟩
       (refine Sub.plain ?_;simp only [smF,dg,renL,renLs,simprocAttr,bl,i64,smE,hll2,g0,g1])
       all_goals (first | done | simp [es])
      ·obtain rfl : k = e := by omega
       generalize hu : o * s ^ k = u at *
       (repeat (first|apply zO (by decide +kernel)|apply zP (by decide +kernel)|(apply zS;(case h=>constructor<;>decide))|((first|apply l_go rfl|apply c_dec|apply zT rfl (by decide) rfl);(case hs=>(simp (disch := first|omega|exact kD rfl|exact kX rfl) only [smY,simprocAttr,bl,i64,smE,hll2,g0,g1];exact rfl));first|refine c_bt ?_|refine c_bf ?_|refine zq ?_|(case hg=>assumption))))
       refine ⟨⟨(i + 1,u),hM,by omega,by rw [← hu];exact isS_mul ho (isS_pow hsS k)⟩,?_,by simp only;omega⟩
       (refine Sub.plain ?_;simp only [smF,dg,renL,renLs,simprocAttr,bl,i64,smE,hll2,g0,g1])
       all_goals (first | done | simp)
    ·rw [lgs_p hp hm] at hlg
     rw [← hlg] at hM hkr
     generalize pwm d ((p - 1) / 2) p = w at *
     obtain ⟨s,hs⟩ : ∃ s : Int,((w : Nat) : Int) = s := ⟨_,rfl⟩
     rw [hs] at hM hkr
     have hsS : isS s := hkr
     generalize two d = t at *
     generalize (p - 1) / 2 = h at *
     simp only [i64,hs] at rp
     have hsw : ¬ s = (p : Int) - 1 := by omega
     (repeat (first|apply zO (by decide +kernel)|apply zP (by decide +kernel)|(apply zS;(case h=>constructor<;>decide))|((first|apply l_go rfl|apply c_dec|apply zT rfl (by decide) rfl);(case hs=>(simp (disch := first|omega|exact kD rfl|exact kX rfl) only [smY,simprocAttr,bl,i64,smE,hll2,g0,g1,e1];exact rfl));first|refine c_bt ?_|refine c_bf ?_|refine zq ?_|(case hg=>assumption))))
     refine w_loop (α := {k : Nat // k ≤ e}) (fun k => st 65 (lk [(0,i64 d),(5,i64 (o * s ^ k.1)),(6,.sl L.length (ec (fl L))),(7,i64 i),(9,i64 s),(10,i64 k.1)]) (lkH []) 0) (fun k => e - k.1) ⟨0,by omega⟩ ?_ ?_
     ·simp only [Int.pow_zero,Int.mul_one]
      (refine Sub.plain ?_;simp only [smF,dg,renL,renLs,simprocAttr,bl,i64,smE,hll2,g0,g1])
      all_goals (first | done | (simp;done) | exact hs | (simp;exact hs))
     ·rintro ⟨k,hk⟩
      simp only [st]
      have hb := isS_bd (isS_mul ho (isS_pow hsS k))
      by_cases hke : k < e
      ·have es : o * s ^ (k + 1) = o * s ^ k * s := by rw [Int.pow_succ,Int.mul_assoc]
       have hb2 := isS_bd (isS_mul ho (isS_pow hsS (k + 1)))
       rw [es] at hb2
       generalize o * s ^ k = u at *
       (repeat (first|apply zO (by decide +kernel)|apply zP (by decide +kernel)|(apply zS;(case h=>constructor<;>decide))|((first|apply l_go rfl|apply c_dec|apply zT rfl (by decide) rfl);(case hs=>(simp (disch := first|omega|exact kD rfl|exact kX rfl) only [smY,simprocAttr,bl,i64,smE,hll2,g0,g1];exact rfl));first|refine c_bt ?_|refine c_bf ?_|refine zq ?_|(case hg=>assumption))))
       refine ⟨⟨k + 1,by omega⟩,?_,by simp only;omega⟩
       (refine Sub.plain ?_;simp only [smF,dg,renL,renLs,simprocAttr,bl,i64,smE,hll2,g0,g1])
       all_goals (first | done | simp [es])
      ·obtain rfl : k = e := by omega
       generalize hu : o * s ^ k = u at *
       (repeat (first|apply zO (by decide +kernel)|apply zP (by decide +kernel)|(apply zS;(case h=>constructor<;>decide))|((first|apply l_go rfl|apply c_dec|apply zT rfl (by decide) rfl);(case hs=>(simp (disch := first|omega|exact kD rfl|exact kX rfl) only [smY,simprocAttr,bl,i64,smE,hll2,g0,g1];exact rfl));first|refine c_bt ?_|refine c_bf ?_|refine zq ?_|(case hg=>assumption))))
       refine ⟨⟨(i + 1,u),hM,by omega,by rw [← hu];exact isS_mul ho (isS_pow hsS k)⟩,?_,by simp only;omega⟩
       (refine Sub.plain ?_;simp only [smF,dg,renL,renLs,simprocAttr,bl,i64,smE,hll2,g0,g1])
       all_goals (first | done | simp)
   ·rw [lgs_2 hp] at hlg
    rw [← hlg] at hM hkr
    have hsS : isS (two d) := hkr
    generalize two d = s at *
    (repeat (first|apply zO (by decide +kernel)|apply zP (by decide +kernel)|(apply zS;(case h=>constructor<;>decide))|((first|apply l_go rfl|apply c_dec|apply zT rfl (by decide) rfl);(case hs=>(simp (disch := first|omega|exact kD rfl|exact kX rfl) only [smY,simprocAttr,bl,i64,smE,hll2,g0,g1];exact rfl));first|refine c_bt ?_|refine c_bf ?_|refine zq ?_|(case hg=>assumption))))
    refine w_loop (α := {k : Nat // k ≤ e}) (fun k => st 65 (lk [(0,i64 d),(5,i64 (o * s ^ k.1)),(6,.sl L.length (ec (fl L))),(7,i64 i),(9,i64 s),(10,i64 k.1)]) (lkH []) 0) (fun k => e - k.1) ⟨0,by omega⟩ ?_ ?_
    ·simp only [Int.pow_zero,Int.mul_one]
     (refine Sub.plain ?_;simp only [smF,dg,renL,renLs,simprocAttr,bl,i64,smE,hll2,g0,g1])
     all_goals (first | done | (simp;done) | exact hs | (simp;exact hs))
    ·rintro ⟨k,hk⟩
     simp only [st]
     have hb := isS_bd (isS_mul ho (isS_pow hsS k))
     by_cases hke : k < e
     ·have es : o * s ^ (k + 1) = o * s ^ k * s := by rw [Int.pow_succ,Int.mul_assoc]
      have hb2 := isS_bd (isS_mul ho (isS_pow hsS (k + 1)))
      rw [es] at hb2
      generalize o * s ^ k = u at *
      (repeat (first|apply zO (by decide +kernel)|apply zP (by decide +kernel)|(apply zS;(case h=>constructor<;>decide))|((first|apply l_go rfl|apply c_dec|apply zT rfl (by decide) rfl);(case hs=>(simp (disch := first|omega|exact kD rfl|exact kX rfl) only [smY,simprocAttr,bl,i64,smE,hll2,g0,g1];exact rfl));first|refine c_bt ?_|refine c_bf ?_|refine zq ?_|(case hg=>assumption))))
      refine ⟨⟨k + 1,by omega⟩,?_,by simp only;omega⟩
      (refine Sub.plain ?_;simp only [smF,dg,renL,renLs,simprocAttr,bl,i64,smE,hll2,g0,g1])
      all_goals (first | done | simp [es])
     ·obtain rfl : k = e := by omega
      generalize hu : o * s ^ k = u at *
      (repeat (first|apply zO (by decide +kernel)|apply zP (by decide +kernel)|(apply zS;(case h=>constructor<;>decide))|((first|apply l_go rfl|apply c_dec|apply zT rfl (by decide) rfl);(case hs=>(simp (disch := first|omega|exact kD rfl|exact kX rfl) only [smY,simprocAttr,bl,i64,smE,hll2,g0,g1];exact rfl));first|refine c_bt ?_|refine c_bf ?_|refine zq ?_|(case hg=>assumption))))
      refine ⟨⟨(i + 1,u),hM,by omega,by rw [← hu];exact isS_mul ho (isS_pow hsS k)⟩,?_,by simp only;omega⟩
      (refine Sub.plain ?_;simp only [smF,dg,renL,renLs,simprocAttr,bl,i64,smE,hll2,g0,g1])
      all_goals (first | done | simp)
  ·obtain rfl : i = L.length := by omega
   rw [List.drop_length,krM_nil] at hM
   subst hM
   (repeat (first|apply zO (by decide +kernel)|apply zP (by decide +kernel)|(apply zS;(case h=>constructor<;>decide))|((first|apply l_go rfl|apply c_dec|apply zT rfl (by decide) rfl);(case hs=>(simp (disch := first|omega|exact kD rfl|exact kX rfl) only [smY,simprocAttr,bl,i64,smE];exact rfl));first|refine c_bt ?_|refine c_bf ?_|refine zq ?_|(case hg=>assumption))))
   ((first|apply g_ret|apply g_end);case hres => (simp only [smR];simp (disch := first|omega|exact kD rfl|exact kX rfl) only [smY,simprocAttr,bl,i64,smE];exact rfl))
   simp (disch := first|omega|exact kD rfl|exact kX rfl) only [smY,simprocAttr,bl,i64,smE]
theorem kron_good (d : Int) (hd : d ∈ fdL) (n : Nat) (h1 : 1 ≤ n) (h2 : n ≤ 1000) : PureGood Tryz.prog 19 [i64 d,i64 n] (i64 (kr d n)) := by
 have hrng := fd_rng hd
 rw [← (kr_val hd h1 h2).1]
 exact kronP_good d n (by omega) h1 h2
end Go.Proofs.YteecamhdbilmoaaGreatDoor
namespace Go.Proofs.YteecamhdbilmoaaGreatDoor
open Go Go.Lg Go.Num
set_option maxRecDepth 100000
noncomputable def chkDQ (d : Int) : Bool := match evl 107 [i64 d] with
 | some (.tup [.agg [.lit (.int .i64 _),.sl _ _],.lit (.int .i64 (.ofNat e))]) => Nat.beq e 0
 | _ => false
theorem dq_a : (fdL.take 10).all chkDQ = true := by kernel_rfl
theorem dq_b : ((fdL.drop 10).take 10).all chkDQ = true := by kernel_rfl
theorem dq_c : ((fdL.drop 20).take 10).all chkDQ = true := by kernel_rfl
theorem dq_d : (fdL.drop 30).all chkDQ = true := by kernel_rfl
theorem dq_all {d : Int} (hd : d ∈ fdL) : chkDQ d = true := by
 have e : fdL = fdL.take 10 ++ ((fdL.drop 10).take 10 ++ ((fdL.drop 20).take 10 ++ fdL.drop 30)) := rfl
 rw [e] at hd
 simp only [List.mem_append] at hd
 rcases hd with h | h | h | h
 ·exact List.all_eq_true.1 dq_a d h
 ·exact List.all_eq_true.1 dq_b d h
 ·exact List.all_eq_true.1 dq_c d h
 ·exact List.all_eq_true.1 dq_d d h
theorem dquad_ok {d : Int} (hd : d ∈ fdL) : ∃ m n cs,PureGood Tryz.prog 107 [i64 d] (.tup [.agg [.lit (.int .i64 m),.sl n cs],i64 0]) := by
 have h := dq_all hd
 unfold chkDQ at h
 split at h
 ·rename_i m n cs e h1
  have e1 := Nat.eq_of_beq_eq_true h
  subst e1
  exact ⟨_,_,_,evl_good h1⟩
 ·cases h
noncomputable def chkFd (d : Int) : Bool := match evl 49 [i64 d],evl 31 [i64 d] with
 | some (.lit (.bool a)),some (.lit (.bool b)) => (a == fdL.contains d) && (b == fdL.contains d)
 | _,_ => false
noncomputable def chkFi (b : Nat) (i : Nat) : Bool := chkFd (Int.sub (Int.ofNat (Nat.add b i)) 60)
theorem fd_a : (List.range 31).all (chkFi 0) = true := by kernel_rfl
theorem fd_b : (List.range 30).all (chkFi 31) = true := by kernel_rfl
theorem fd_c : (List.range 30).all (chkFi 61) = true := by kernel_rfl
theorem fd_d : (List.range 30).all (chkFi 91) = true := by kernel_rfl
theorem fd_all {d : Int} (h1 : -60 ≤ d) (h2 : d ≤ 60) : chkFd d = true := by
 have key : ∀ b i : Nat,d = ((b + i : Nat) : Int) - 60 → chkFi b i = true → chkFd d = true := by
  intro b i e h
  rw [e]
  exact h
 by_cases a1 : d ≤ -30
 ·exact key 0 (d + 60).toNat (by omega) (List.all_eq_true.1 fd_a _ (List.mem_range.2 (by omega)))
 ·by_cases a2 : d ≤ 0
  ·exact key 31 (d + 29).toNat (by omega) (List.all_eq_true.1 fd_b _ (List.mem_range.2 (by omega)))
  ·by_cases a3 : d ≤ 30
   ·exact key 61 (d - 1).toNat (by omega) (List.all_eq_true.1 fd_c _ (List.mem_range.2 (by omega)))
   ·exact key 91 (d - 31).toNat (by omega) (List.all_eq_true.1 fd_d _ (List.mem_range.2 (by omega)))
theorem fd_in {d : Int} (h1 : -60 ≤ d) (h2 : d ≤ 60) : PureGood Tryz.prog 49 [i64 d] (bl (fdL.contains d)) ∧ PureGood Tryz.prog 31 [i64 d] (bl (fdL.contains d)) := by
 have h := fd_all h1 h2
 unfold chkFd at h
 split at h
 ·rename_i a b e1 e2
  rw [Bool.and_eq_true] at h
  have := eq_of_beq h.1
  subst this
  have := eq_of_beq h.2
  subst this
  exact ⟨evl_good e1,evl_good e2⟩
 ·cases h
end Go.Proofs.YteecamhdbilmoaaGreatDoor
namespace Go.Num
theorem lq_div (a b : Rat) (hb : b ≠ 0) : lq (a / b) ≤ lq a + lq b := by
 rw [div_divInt]
 have hn : b.num ≠ 0 := fun e => hb (by rw [← Rat.num_divInt_den b,e,Rat.zero_divInt])
 obtain ⟨h1,h2⟩ := lq_divInt (n := a.num * (b.den : Int)) (Int.mul_ne_zero (den_ne a) hn)
 have h4 := len_mul a.num (b.den : Int)
 have h6 := len_mul (a.den : Int) b.num
 unfold lq
 omega
end Go.Num
namespace Go.Proofs.YteecamhdbilmoaaGreatDoor
open Go Go.Lg Go.Num
set_option maxRecDepth 100000
set_option maxHeartbeats 4000000
attribute [local irreducible] Go.Lg.lrun Go.Lg.lwp Go.Lg.exThen Go.Lg.exBlk Go.Lg.keep Go.Lg.goodPost
attribute [local irreducible] sg mg
theorem lq_i64 {z : Int} (h : -9223372036854775808 ≤ z ∧ z ≤ 9223372036854775808) : lq (z : Rat) ≤ 3 := by
 have h3 : len z ≤ 2 := len_pow_lt (e := 2) (by omega)
 rw [lq_int]
 omega
theorem rqsign_good (q : Rat) (h : lq q ≤ 68719476736) : PureGood Tryz.prog 79 [encQ q] (i64 q.num.sign) := by
 have h1 := rsign_good q.num (by unfold lq at h;omega)
 have h2 := rsign_good (q.den : Int) (by unfold lq at h;omega)
 rw [Int.sign_eq_one_of_pos (by have := q.den_nz;omega)] at h2
 have hs : -1 ≤ q.num.sign ∧ q.num.sign ≤ 1 := by
  rcases Int.sign_trichotomy q.num with e | e | e <;> rw [e] <;> omega
 generalize q.num.sign = s at *
 simp only [encQ_sm,encI_sm,i64] at *
 refine good_of_lwp mix Tryz.func79 rfl (by decide) (nt := 10) rfl (rs := [.tmp 2]) rfl (nle rfl) ?_
 (repeat (first|apply zO (by decide +kernel)|apply zP (by decide +kernel)|(apply zS;(case h=>constructor<;>decide))|((first|apply l_go rfl|apply c_dec|apply zT rfl (by decide) rfl);(case hs=>(simp (disch := first|omega|exact kD rfl|exact kX rfl) only [smY,simprocAttr,bl,i64,smT];exact rfl));first|refine c_bt ?_|refine c_bf ?_|refine zq ?_|(case hg=>assumption))))
 ((first|apply g_ret|apply g_end);case hres => (simp only [smR];simp (disch := first|omega|exact kD rfl|exact kX rfl) only [smY,simprocAttr,bl,i64,smT];exact rfl))
 simp (disch := first|omega|exact kD rfl|exact kX rfl) only [smY,simprocAttr,bl,i64,smT]
 simp only [Int.mul_one]
theorem frac_good (n d : Int) (hn : -4294967296 ≤ n ∧ n ≤ 4294967296) (hd : 1 ≤ d ∧ d ≤ 4294967296) : PureGood Tryz.prog 38 [i64 n,i64 d] (encQ (Rat.divInt n d)) := by
 have hp := divInt_parts (n := n) (d := d) (by omega)
 rw [if_neg (by omega)] at hp
 have hg0 : Int.gcd n d ≠ 0 := fun e => by have := (Int.gcd_eq_zero_iff.1 e).2;omega
 have hgn : ((Int.gcd n d : Nat) : Int) ∣ n := Int.gcd_dvd_left ..
 have hG : Int.gcd n d = Nat.gcd n.natAbs d.natAbs := rfl
 have hdn : (d.natAbs : Int) = d := by omega
 rw [encQ_sm,hp.1,hp.2,hdn]
 clear hp
 have hq1 := Int.natAbs_ediv_le_natAbs n ((Int.gcd n d : Nat) : Int)
 have hq2 := Int.natAbs_ediv_le_natAbs d ((Int.gcd n d : Nat) : Int)
 have z1 := baseZ_good (n / ((Int.gcd n d : Nat) : Int)) (by omega)
 have z2 := baseZ_good (d / ((Int.gcd n d : Nat) : Int)) (by omega)
 have ht : n.tdiv ((Int.gcd n d : Nat) : Int) = n / ((Int.gcd n d : Nat) : Int) := Int.tdiv_eq_ediv_of_dvd hgn
 rw [hG] at hgn hq1 hq2 z1 z2 ht ⊢
 rw [hG] at hg0
 obtain ⟨m,hm⟩ : ∃ m : Nat,d = m := ⟨d.toNat,by omega⟩
 subst hm
 rw [Int.natAbs_natCast] at hq2 z1 z2 ht hg0 ⊢
 have hmx : (if 0 - n > n then 0 - n else n) = (n.natAbs : Int) := by split <;> omega
 rw [Int.natAbs_natCast] at hgn hq1 hG
 generalize hgg : Nat.gcd n.natAbs m = g at *
 simp only [encI_sm,i64] at *
 refine good_of_lwp mix Tryz.func38 rfl (by decide) (nt := 33) rfl (rs := [.cell 4 45]) rfl (nle rfl) ?_
 (repeat (first|apply zO (by decide +kernel)|apply zP (by decide +kernel)|((fail_if_success refine is_bl ?_);apply zS;(case h=>constructor<;>decide))|((first|apply l_go rfl|apply c_dec);(case hs=>(simp (disch := first|omega|exact kD rfl|exact kX rfl) only [smY,simprocAttr,bl,i64,smS,hmx];exact rfl));first|refine c_bt ?_|refine c_bf ?_|refine zq ?_)))
 apply w_seq
 apply w_block
 refine w_loop (α := {p : Nat × Nat // Nat.gcd p.1 p.2 = g ∧ p.1 ≤ 4294967296 ∧ p.2 ≤ 4294967296}) (fun p => st 33 (lk [(0,i64 n),(1,i64 m),(4,.ptr 0 0),(5,i64 p.1.1),(6,i64 p.1.2)]) (lkH [(0,⟨45,[bl false,.lit (.slice none 0 0),bl false,.lit (.slice none 0 0)],false⟩)]) 1) (fun p => p.1.2) ⟨(n.natAbs,m),hgg,by simp only;omega,by simp only;omega⟩ ?_ ?_
 ·(refine Sub.heapL [0] rfl (by decide) ?_ (by simp only [smL];decide) ?_ ?_;all_goals (first|(simp only [plainC,smF,dg,renL,renLs,simprocAttr,bl,i64,smS];done) | (simp only [smF,dg,renL,renLs,simprocAttr,bl,i64,smS];(repeat' apply And.intro);all_goals rfl) | (simp only [smF,dg,renL,renLs,simprocAttr,bl,i64,smS]) | skip))
 ·rintro ⟨⟨x,y⟩,hg,hx,hy⟩
  simp only at hg hx hy
  simp only [st]
  by_cases hy0 : y = 0
  ·subst hy0
   rw [Nat.gcd_zero_right] at hg
   subst hg
   have hx0 : ¬ (x : Int) = 0 := by omega
   (repeat (first|apply zO (by decide +kernel)|apply zP (by decide +kernel)|(apply zS;(case h=>constructor<;>decide))|((first|apply l_go rfl|apply c_dec|apply zT rfl (by decide) rfl);(case hs=>(simp (disch := first|omega|exact kD rfl|exact kX rfl) only [smY,simprocAttr,bl,i64,smS,ht];exact rfl));first|refine c_bt ?_|refine c_bf ?_|refine zq ?_|(case hg=>assumption))))
   ((first|apply g_ret|apply g_end);case hres => (simp only [smR];simp (disch := first|omega|exact kD rfl|exact kX rfl) only [smY,simprocAttr,bl,i64,smS,ht];exact rfl))
   simp (disch := first|omega|exact kD rfl|exact kX rfl) only [smY,simprocAttr,bl,i64,smS,ht]
  ·have hmod : x % y < y := Nat.mod_lt _ (by omega)
   have hy1 : ¬ (y : Int) = 0 := by omega
   (repeat (first|apply zO (by decide +kernel)|apply zP (by decide +kernel)|(apply zS;(case h=>constructor<;>decide))|((first|apply l_go rfl|apply c_dec|apply zT rfl (by decide) rfl);(case hs=>(simp (disch := first|omega|exact kD rfl|exact kX rfl) only [smY,simprocAttr,bl,i64,smS];exact rfl));first|refine c_bt ?_|refine c_bf ?_|refine zq ?_|(case hg=>assumption))))
   refine ⟨⟨(y,x % y),?_,hy,by simp only;omega⟩,?_,hmod⟩
   ·simp only
    rw [← hg,Nat.gcd_comm x y,Nat.gcd_rec y x,Nat.gcd_comm]
   ·(refine Sub.heapL [0] rfl (by decide) ?_ (by simp only [smL];decide) ?_ ?_;all_goals (first|(simp only [plainC,smF,dg,renL,renLs,simprocAttr,bl,i64,smS];done) | (simp only [smF,dg,renL,renLs,simprocAttr,bl,i64,smS];(repeat' apply And.intro);all_goals rfl) | (simp only [smF,dg,renL,renLs,simprocAttr,bl,i64,smS]) | skip))
theorem sameRats_self (f : List Rat) (hf : ∀ c ∈ f,lq c ≤ 100000) (hl : f.length ≤ 1000000000) : PureGood Tryz.prog 72 [encF f,encF f] (.lit (.bool true)) := by
 rw [encF_qc]
 refine good_of_lwp mix Tryz.func72 rfl (by decide) (nt := 27) rfl (rs := [.tmp 4]) rfl (nle rfl) ?_
 (repeat (first|apply zO (by decide +kernel)|apply zP (by decide +kernel)|(apply zS;(case h=>constructor<;>decide))|((first|apply l_go rfl|apply c_dec|apply zT rfl (by decide) rfl);(case hs=>(simp (disch := first|omega|exact kD rfl|exact kX rfl) only [smY,simprocAttr,bl,i64,smT];exact rfl));first|refine c_bt ?_|refine c_bf ?_|refine zq ?_|(case hg=>assumption))))
 refine w_loop (α := {k : Nat // k ≤ f.length}) (fun k => st 27 (lk [(0,.sl f.length (qc f)),(1,.sl f.length (qc f)),(4,bl false),(5,i64 k.1)]) (lkH []) 0) (fun k => f.length - k.1) ⟨0,by omega⟩ ?_ ?_
 ·(refine Sub.plain ?_;simp only [smF,dg,renL,renLs,simprocAttr,bl,i64,smT])
 ·rintro ⟨k,hk⟩
  simp only [st]
  by_cases h : k < f.length
  ·have hm : lq (f.getD k 0) ≤ 100000 := by
    have : f.getD k 0 = f[k] := by simp [h]
    rw [this]
    exact hf _ (List.getElem_mem _)
   have hs := sameRat_good (f.getD k 0) (f.getD k 0) (by omega) (by omega)
   rw [dec_t rfl,bl] at hs
   generalize hc : f.getD k 0 = c at *
   rw [encQ_sm] at hs
   (repeat (first|apply zO (by decide +kernel)|apply zP (by decide +kernel)|(apply zS;(case h=>constructor<;>decide))|((first|apply l_go rfl|apply c_dec|apply zT rfl (by decide) rfl);(case hs=>(simp (disch := first|omega|exact kD rfl|exact kX rfl) only [smY,simprocAttr,bl,i64,smT,hc];exact rfl));first|refine c_bt ?_|refine c_bf ?_|refine zq ?_|(case hg=>assumption))))
   refine ⟨⟨k + 1,by omega⟩,?_,by simp only;omega⟩
   (refine Sub.plain ?_;simp only [smF,dg,renL,renLs,simprocAttr,bl,i64,smT])
  ·obtain rfl : k = f.length := by omega
   (repeat (first|apply zO (by decide +kernel)|apply zP (by decide +kernel)|(apply zS;(case h=>constructor<;>decide))|((first|apply l_go rfl|apply c_dec|apply zT rfl (by decide) rfl);(case hs=>(simp (disch := first|omega|exact kD rfl|exact kX rfl) only [smY,simprocAttr,bl,i64,smT];exact rfl));first|refine c_bt ?_|refine c_bf ?_|refine zq ?_|(case hg=>assumption))))
   ((first|apply g_ret|apply g_end);case hres => (simp only [smR];simp (disch := first|omega|exact kD rfl|exact kX rfl) only [smY,simprocAttr,bl,i64,smT];exact rfl))
   simp (disch := first|omega|exact kD rfl|exact kX rfl) only [smY,simprocAttr,bl,i64,smT]
end Go.Proofs.YteecamhdbilmoaaGreatDoor
namespace Go.Lg
open Go
theorem Sub.heapR {n : Nat} {f : Nat → LV} {h : Nat → Option Blk} {nb nb' : Nat} {l : List (Nat × LV)} {hl : List (Nat × Blk)} (ρ : List Nat) (hnb : nb' = ρ.length) (hd : ρ.Nodup) (hf : ∀ p ∈ l, renL nb' (fun b => ρ.getD b 0) p.2 = some (f p.1))
  (hlt : ∀ p ∈ hl,p.1 < ρ.length) (hb : ∀ p ∈ hl,∃ cs,h (ρ.getD p.1 0) = some ⟨p.2.ty,cs,p.2.fz⟩ ∧ renLs nb' (fun b => ρ.getD b 0) p.2.cells = some cs) : Sub 0 ⟨n,f,h,nb⟩ ⟨n,lk l,lkH hl,nb'⟩ := by
 subst hnb
 refine Sub.heap (fun b => ρ.getD b 0) hf (fun p hp' => ⟨hlt p hp',hb p hp'⟩) ?_ ⟨by omega,fun b hb => by omega⟩
 intro p hp' q hq heq
 have h1 := hlt p hp'
 have h2 := hlt q hq
 simp only [List.getD_eq_getElem?_getD,List.getElem?_eq_getElem h1,List.getElem?_eq_getElem h2,Option.getD_some] at heq
 exact (List.getElem_inj hd).1 heq
theorem mk_pos3 {α : Type} {j : Int} {n m k l : Nat} {x y : α} (h : 0 ≤ j ∧ n ≤ m ∧ k ≤ l) : (if 0 ≤ j ∧ n ≤ m ∧ k ≤ l then x else y) = x := if_pos h
theorem cyc_snoc (a b c d : LV) (n : Nat) : cyc [a,b,c,d] (n * 4 + 4) = cyc [a,b,c,d] (n * 4) ++ [a,b,c,d] := by
 unfold cyc
 have e0 : n * 4 % 4 = 0 := by omega
 have e1 : (n * 4 + 1) % 4 = 1 := by omega
 have e2 : (n * 4 + 2) % 4 = 2 := by omega
 have e3 : (n * 4 + 3) % 4 = 3 := by omega
 rw [List.range_succ,List.range_succ,List.range_succ,List.range_succ]
 simp only [List.map_append,List.map_cons,List.map_nil,List.length_cons,List.length_nil,Nat.zero_add,Nat.reduceAdd,e0,e1,e2,e3,List.append_assoc,List.cons_append,List.nil_append]
 rfl
end Go.Lg
namespace Go.Proofs.YteecamhdbilmoaaGreatDoor
open Go Go.Lg Go.Num
set_option maxRecDepth 100000
set_option maxHeartbeats 4000000
def oqc : Option Rat → List LV
 | none => [.lit (.bool false),.lit (.slice none 0 0),.lit (.bool false),.lit (.slice none 0 0)]
 | some q => qcells q
def oc (l : List (Option Rat)) : List LV := l.flatMap oqc
theorem oqc_none : oqc none = [.lit (.bool false),.lit (.slice none 0 0),.lit (.bool false),.lit (.slice none 0 0)] := rfl
theorem oqc_some (q : Rat) : oqc (some q) = [sg (q).num,mg (q).num,sg ((q).den : Int),mg ((q).den : Int)] := qcells_sm q
theorem oqc_len (o : Option Rat) : (oqc o).length = 4 := by cases o <;> rfl
theorem oc_len (l : List (Option Rat)) : (oc l).length = l.length * 4 := by induction l with
 | nil => rfl
 | cons a l ih => rw [oc,List.flatMap_cons,List.length_append,oqc_len];rw [oc] at ih;rw [ih,List.length_cons];omega
theorem oc_split : ∀ {l : List (Option Rat)} {j : Nat},j < l.length → ∃ a b,oc l = a ++ oqc (l.getD j none) ++ b ∧ a.length = j * 4 ∧ ∀ o,oc (l.set j o) = a ++ oqc o ++ b
 | [],j,h => by simp at h
 | x :: l,0,_ => ⟨[],oc l,by simp [oc],rfl,fun o => by simp [oc]⟩
 | x :: l,j + 1,h => by
   obtain ⟨a,b,h1,h2,h3⟩ := oc_split (l := l) (j := j) (by simpa using h)
   refine ⟨oqc x ++ a,b,?_,?_,fun o => ?_⟩
   · show oqc x ++ oc l = _
     rw [h1];simp
   · rw [List.length_append,oqc_len,h2];omega
   · show oqc x ++ oc (l.set j o) = _
     rw [h3];simp
theorem oc_td {l : List (Option Rat)} {j : Nat} (h : j < l.length) : ((oc l).drop (j * 4)).take 4 = oqc (l.getD j none) := by
 obtain ⟨a,b,h1,h2,_⟩ := oc_split h
 rw [h1,← h2,List.append_assoc,List.drop_left,← oqc_len (l.getD j none),List.take_left]
theorem oc_zeros : ∀ n,cyc [.lit (.bool false),.lit (.slice none 0 0),.lit (.bool false),.lit (.slice none 0 0)] (n * 4) = oc (List.replicate n none)
 | 0 => by rw [Nat.zero_mul,cyc_0];rfl
 | n + 1 => by
   rw [Nat.add_mul,Nat.one_mul,cyc_snoc,oc_zeros n,List.replicate_succ',oc,oc,List.flatMap_append]
   rfl
attribute [local irreducible] sg mg
theorem oqc_plain (o : Option Rat) : ∀ c ∈ oqc o,plainC c = true := by
 cases o with
 | none => intro c hc;simp [oqc] at hc;rcases hc with rfl | rfl | rfl | rfl <;> rfl
 | some q =>
   rw [oqc_some]
   intro c hc
   simp only [List.mem_cons,List.not_mem_nil,or_false] at hc
   rcases hc with rfl | rfl | rfl | rfl
   · exact s9 _
   · exact s10 _
   · exact s9 _
   · exact s10 _
theorem oc_plain' (l : List (Option Rat)) : ∀ c ∈ oc l,plainC c = true := by
 intro c hc
 simp only [oc,List.mem_flatMap] at hc
 obtain ⟨o,_,ho⟩ := hc
 exact oqc_plain o c ho
theorem oc_plain (l : List (Option Rat)) : (∀ c ∈ oc l,plainC c = true) = True := eq_true (oc_plain' l)
theorem ren_oc {nb : Nat} {ρ : Nat → Nat} (l : List (Option Rat)) : renLs nb ρ (oc l) = some (oc l) := rens_plain (oc_plain' l)
def mC (a : Nat → Rat) (N i : Nat) : List LV := if i = 0 then oc (List.replicate N none) else qc (aP a i)
theorem mC_zero (a : Nat → Rat) (N : Nat) : oc (List.replicate N none) = mC a N 0 := rfl
theorem mC_take (a : Nat → Rat) (N i : Nat) : (mC a N i).take (i * 4) = qc (aP a i) := by
 unfold mC
 split
 ·rename_i h;subst h;rw [Nat.zero_mul,List.take_zero];rfl
 ·exact qc_take (by rw [aP_len])
theorem mC_len (a : Nat → Rat) (N i : Nat) : i * 4 ≤ (mC a N i).length := by
 unfold mC
 split
 ·rename_i h;subst h;omega
 ·rw [qc_len,aP_len];exact Nat.le_refl _
theorem mC_le {α : Type} {a : Nat → Rat} {N i k l m n : Nat} {x y : α} (h : k ≤ l ∧ m ≤ n) : (if i * 4 ≤ (mC a N i).length ∧ k ≤ l ∧ m ≤ n then x else y) = x := if_pos ⟨mC_len a N i,h⟩
theorem mC_ge {α : Type} {a : Nat → Rat} {N i : Nat} {x y : α} : (if i * 4 ≤ (mC a N i).length then x else y) = x := if_pos (mC_len a N i)
theorem mC_succ {a : Nat → Rat} {N i : Nat} {q : Rat} (h : a i = q) : qc (aP a i) ++ [sg (q).num,mg (q).num,sg ((q).den : Int),mg ((q).den : Int)] = mC a N (i + 1) := by
 subst h
 rw [mC,if_neg (by omega),qc_app,← aP_succ]
theorem mC_plain' (a : Nat → Rat) (N i : Nat) : ∀ c ∈ mC a N i,plainC c = true := by
 unfold mC
 split
 ·exact oc_plain' _
 ·exact qc_all s9 s10 _
theorem mC_plain (a : Nat → Rat) (N i : Nat) : (∀ c ∈ mC a N i,plainC c = true) = True := eq_true (mC_plain' a N i)
theorem ren_mC {nb : Nat} {ρ : Nat → Nat} (a : Nat → Rat) (N i : Nat) : renLs nb ρ (mC a N i) = some (mC a N i) := rens_plain (mC_plain' a N i)
def smM := And.intro mC_take (And.intro @mC_le (And.intro @mC_ge (And.intro mC_plain @ren_mC)))
def nV (b m : Nat) : LV := if m = 0 then nilL else .own b 0 m 4
theorem nV_zero (b : Nat) : nV b 0 = nilL := rfl
theorem nV_of {b m : Nat} (h : m = 0) : nV b m = nilL := if_pos h
theorem nV_ne {b m : Nat} (h : m ≠ 0) : nV b m = .own b 0 m 4 := if_neg h
theorem nV_succ (b m : Nat) : nV b (m + 1) = .own b 0 (m + 1) 4 := rfl
def nB (b m : Nat) (cs : List LV) : List (Nat × Blk) := if m = 0 then [] else [(b,⟨45,cs,false⟩)]
theorem nB_of {b m : Nat} {cs : List LV} (h : m = 0) : nB b m cs = [] := if_pos h
theorem nB_ne {b m : Nat} {cs : List LV} (h : m ≠ 0) : nB b m cs = [(b,⟨45,cs,false⟩)] := if_neg h
theorem nB_zero (b : Nat) (cs : List LV) : nB b 0 cs = [] := rfl
theorem nB_succ (b m : Nat) (cs : List LV) : nB b (m + 1) cs = [(b,⟨45,cs,false⟩)] := rfl
theorem lenL_mg (s : LS) (z : Int) : lenL s (mg z) = some (digs z.natAbs).length := by with_unfolding_all rfl
def smO := And.intro oc_len (And.intro @oc_td (And.intro oqc_none (And.intro oqc_some (And.intro oc_zeros (And.intro oc_plain (And.intro @ren_oc @mk_pos3))))))
end Go.Proofs.YteecamhdbilmoaaGreatDoor
namespace Go.Num
end Go.Num
namespace Go.Proofs.YteecamhdbilmoaaGreatDoor
open Go Go.Lg Go.Num
set_option maxRecDepth 100000
set_option maxHeartbeats 4000000
attribute [local irreducible] Go.Lg.lrun Go.Lg.lwp Go.Lg.exThen Go.Lg.exBlk Go.Lg.keep Go.Lg.goodPost sg mg bq
theorem lq_small {m : Int} (h0 : 0 ≤ m) (h : m ≤ 100000) : lq (m : Rat) ≤ 2 := by
 rw [lq_int]
 have := len_pow_lt (a := m) (e := 1) (by omega)
 omega
end Go.Proofs.YteecamhdbilmoaaGreatDoor
namespace Go.Proofs.YteecamhdbilmoaaGreatDoor
open Go Go.Lg Go.Num
set_option maxRecDepth 100000
set_option maxHeartbeats 4000000
attribute [local irreducible] Go.Lg.lrun Go.Lg.lwp Go.Lg.exThen Go.Lg.exBlk Go.Lg.keep Go.Lg.goodPost sg mg bq
def bp (n k : Nat) : List Rat := (List.range k).map fun j => ((ch n j : Int) : Rat) * bq (n - j)
theorem bp_length (n k : Nat) : (bp n k).length = k := by simp [bp]
theorem bp_succ (n k : Nat) : bp n (k + 1) = bp n k ++ [((ch n k : Int) : Rat) * bq (n - k)] := by simp [bp,List.range_succ]
theorem lq_bpc {n : Nat} (hn : n ≤ 60) (j : Nat) : lq (((ch n j : Int) : Rat) * bq (n - j)) ≤ 30 := by
 have c1 := len_ch (show n ≤ 100 by omega) j
 have c3 := lq_bq (n - j)
 have c4 := lq_mul ((ch n j : Int) : Rat) (bq (n - j))
 have c5 := lq_int (ch n j : Int)
 omega
theorem bp_small {n : Nat} (hn : n ≤ 60) (k : Nat) : ∀ c ∈ bp n k,lq c ≤ 30 := by
 intro c hc
 simp only [bp,List.mem_map] at hc
 obtain ⟨j,_,rfl⟩ := hc
 exact lq_bpc hn j
def trimQ (f : List Rat) : List Rat := (f.reverse.dropWhile (· == 0)).reverse
theorem trimQ_snoc_nz (f : List Rat) {c : Rat} (h : c ≠ 0) : trimQ (f ++ [c]) = f ++ [c] := by
 simp [trimQ,h]
theorem trimQ_snoc_z (f : List Rat) : trimQ (f ++ [0]) = trimQ f := by
 simp [trimQ]
theorem trimQ_nil : trimQ [] = [] := rfl
theorem snoc_of {f : List Rat} (h : 0 < f.length) : f = f.take (f.length - 1) ++ [f.getD (f.length - 1) 0] := by
 have h1 : f.getD (f.length - 1) 0 = f[f.length - 1] := by simp [show f.length - 1 < f.length by omega]
 rw [h1,List.take_append_getElem (by omega),show f.length - 1 + 1 = f.length by omega,List.take_length]
theorem num_z (q : Rat) : q.num = 0 ↔ q = 0 := Rat.num_eq_zero
theorem qc_h1 {l : List Rat} {j : Nat} (h : j < l.length) : ((qc l).drop (j * 4 + 1)).head? = some (mg (l.getD j 0).num) := by
 rw [← List.drop_drop,qc_drop,List.drop_eq_getElem_cons h]
 have : l.getD j 0 = l[j] := by simp [h]
 rw [this]
 simp only [qc,List.flatMap_cons,qcells_sm]
 simp
theorem qc_takes (l : List Rat) (k : Nat) : (qc l).take (k * 4) = qc (l.take k) := by
 by_cases h : k ≤ l.length
 ·conv => lhs;rw [← List.take_append_drop k l]
  rw [qc,List.flatMap_append]
  rw [List.take_append_of_le_length (by have := qc_len (l.take k);rw [qc] at this;rw [this,List.length_take];omega),List.take_of_length_le (by have := qc_len (l.take k);rw [qc] at this;rw [this,List.length_take];omega)]
  rfl
 ·rw [List.take_of_length_le (by rw [qc_len];omega),List.take_of_length_le (by omega)]
theorem qtrim_good (f : List Rat) (hl : f.length ≤ 1000000000) : PureGood Tryz.prog 170 [encF f] (encF (trimQ f)) := by
 rw [encF_qc]
 refine good_of_lwp mix Tryz.func170 rfl (by decide) (nt := 24) rfl (rs := [.tmp 2]) rfl (nle rfl) ?_
 (repeat (first|apply zO (by decide +kernel)|apply zP (by decide +kernel)|(apply zS;(case h=>constructor<;>decide))|((first|apply l_go rfl|apply c_dec|apply zT rfl (by decide) rfl);(case hs=>(simp (disch := first|omega|exact kD rfl|exact kX rfl) only [smY,simprocAttr,bl,i64,smT];exact rfl));first|refine c_bt ?_|refine c_bf ?_|refine zq ?_|(case hg=>assumption))))
 refine w_loop (α := {g : List Rat // trimQ g = trimQ f ∧ g.length ≤ f.length}) (fun g => st 24 (lk [(0,.sl g.1.length (qc g.1)),(2,nilL)]) (lkH []) 0) (fun g => g.1.length) ⟨f,rfl,Nat.le_refl _⟩ ?_ ?_
 ·(refine Sub.plain ?_;simp only [smF,dg,renL,renLs,simprocAttr,bl,i64,smT])
 ·rintro ⟨g,hg,hgl⟩
  simp only [st]
  by_cases h0 : 0 < g.length
  ·have hg' := snoc_of h0
   have hh := qc_h1 (l := g) (j := g.length - 1) (by omega)
   by_cases hz : g.getD (g.length - 1) 0 = 0
   ·have hd : (digs 0).length = 0 := by simp [digs_zero]
    rw [hz,show (0 : Rat).num = 0 from rfl] at hh
    (repeat (first|apply zO (by decide +kernel)|apply zP (by decide +kernel)|(apply zS;(case h=>constructor<;>decide))|((first|apply l_go rfl|apply c_dec|apply zT rfl (by decide) rfl);(case hs=>(simp (disch := first|omega|exact kD rfl|exact kX rfl) only [smY,simprocAttr,bl,i64,smT,lenL_mg,hh,Int.natAbs_zero];exact rfl));first|refine c_bt ?_|refine c_bf ?_|refine zq ?_|(case hg=>assumption))))
    rw [hz] at hg'
    have hg2 : trimQ (g.take (g.length - 1)) = trimQ f := by rw [← hg,hg',trimQ_snoc_z,← hg']
    have hgl2 : (g.take (g.length - 1)).length = g.length - 1 := by rw [List.length_take];omega
    refine ⟨⟨g.take (g.length - 1),hg2,by omega⟩,?_,by simp only;omega⟩
    simp only [hgl2,← qc_takes]
    (refine Sub.plain ?_;simp only [smF,dg,renL,renLs,simprocAttr,bl,i64,smT])
   ·have hzn : (g.getD (g.length - 1) 0).num ≠ 0 := fun e => hz ((num_z _).1 e)
    have hd : (digs (g.getD (g.length - 1) 0).num.natAbs).length ≠ 0 := fun e => hzn (by have := digs_eq_nil.1 (List.eq_nil_of_length_eq_zero e);omega)
    have hfin : trimQ g = g := by
     conv => lhs;rw [hg']
     rw [trimQ_snoc_nz _ hz,← hg']
    rw [← hg,hfin,encF_qc]
    generalize (g.getD (g.length - 1) 0).num = z at *
    (repeat (first|apply zO (by decide +kernel)|apply zP (by decide +kernel)|(apply zS;(case h=>constructor<;>decide))|((first|apply l_go rfl|apply c_dec|apply zT rfl (by decide) rfl);(case hs=>(simp (disch := first|omega|exact kD rfl|exact kX rfl) only [smY,simprocAttr,bl,i64,smT,lenL_mg,hh];exact rfl));first|refine c_bt ?_|refine c_bf ?_|refine zq ?_|(case hg=>assumption))))
    ((first|apply g_ret|apply g_end);case hres => (simp only [smR];simp (disch := first|omega|exact kD rfl|exact kX rfl) only [smY,simprocAttr,bl,i64,smT];exact rfl))
    simp (disch := first|omega|exact kD rfl|exact kX rfl) only [smY,simprocAttr,bl,i64,smT]
  ·have : g = [] := List.length_eq_zero_iff.1 (by omega)
   subst this
   rw [trimQ_nil] at hg
   rw [← hg]
   (repeat (first|apply zO (by decide +kernel)|apply zP (by decide +kernel)|(apply zS;(case h=>constructor<;>decide))|((first|apply l_go rfl|apply c_dec|apply zT rfl (by decide) rfl);(case hs=>(simp (disch := first|omega|exact kD rfl|exact kX rfl) only [smY,simprocAttr,bl,i64,smT];exact rfl));first|refine c_bt ?_|refine c_bf ?_|refine zq ?_|(case hg=>assumption))))
   ((first|apply g_ret|apply g_end);case hres => (simp only [smR];simp (disch := first|omega|exact kD rfl|exact kX rfl) only [smY,simprocAttr,bl,i64,smT];exact rfl))
   simp (disch := first|omega|exact kD rfl|exact kX rfl) only [smY,simprocAttr,bl,i64,smT]
   rfl
theorem cyc_length (z : List LV) (n : Nat) : (cyc z n).length = n := by simp [cyc]
def z4 : List LV := [bl false,.lit (.slice none 0 0),bl false,.lit (.slice none 0 0)]
def fillC (f : List Rat) (k : Nat) : List LV := qc (f.take k) ++ (cyc z4 (f.length * 4)).drop (k * 4)
theorem fillC_zero (f : List Rat) : fillC f 0 = cyc z4 (f.length * 4) := by simp [fillC,qc]
theorem fillC_all (f : List Rat) : fillC f f.length = qc f := by
 rw [fillC,List.take_length,List.drop_of_length_le (by rw [cyc_length];omega),List.append_nil]
theorem fillC_len {f : List Rat} {k : Nat} (h : k ≤ f.length) : (fillC f k).length = f.length * 4 := by
 rw [fillC,List.length_append,qc_len,List.length_take,List.length_drop,cyc_length]
 omega
theorem fillC_step {f : List Rat} {k : Nat} (h : k < f.length) {c : Rat} (hc : f.getD k 0 = c) : (fillC f k).take (k * 4) ++ [sg c.num,mg c.num,sg (c.den : Int),mg (c.den : Int)] ++ (fillC f k).drop (k * 4 + 4) = fillC f (k + 1) := by
 have e1 : (qc (f.take k)).length = k * 4 := by rw [qc_len,List.length_take];omega
 have e2 : f.take (k + 1) = f.take k ++ [c] := by
  rw [List.take_succ_eq_append_getElem h]
  have : f.getD k 0 = f[k] := by simp [h]
  rw [← this,hc]
 rw [fillC,List.take_append_of_le_length (by omega),List.take_of_length_le (by omega),List.drop_append,List.drop_of_length_le (by omega),e1,List.nil_append,List.drop_drop,fillC,e2,← qc_app,show k * 4 + 4 - k * 4 = 4 by omega,show k * 4 + 4 = (k + 1) * 4 by omega]
theorem fillC_plain (f : List Rat) (k : Nat) : ∀ c ∈ fillC f k,plainC c = true := by
 intro c hc
 rcases List.mem_append.1 hc with h | h
 ·exact qc_all (Q := fun c => plainC c = true) s9 s10 _ c h
 ·have h1 := List.mem_of_mem_drop h
  simp only [cyc,List.mem_map,List.mem_range] at h1
  obtain ⟨i,_,rfl⟩ := h1
  have : i % z4.length < 4 := Nat.mod_lt _ (by decide)
  generalize i % z4.length = j at *
  match j,this with
  | 0,_ => rfl
  | 1,_ => rfl
  | 2,_ => rfl
  | 3,_ => rfl
theorem qpnorm_good (f : List Rat) (hl : f.length ≤ 100000000) (hf : ∀ c ∈ f,lq c ≤ 100000) : PureGood Tryz.prog 155 [encF f] (encF (trimQ f)) := by
 have ht := qtrim_good f (by omega)
 rw [encF_qc] at *
 refine good_of_lwp mix Tryz.func155 rfl (by decide) (nt := 24) rfl (rs := [.tmp 2]) rfl (nle rfl) ?_
 (repeat (first|apply zO (by decide +kernel)|apply zP (by decide +kernel)|(apply zS;(case h=>constructor<;>decide))|((first|apply l_go rfl|apply c_dec|apply zT rfl (by decide) rfl);(case hs=>(simp (disch := first|omega|exact kD rfl|exact kX rfl) only [smY,simprocAttr,bl,i64,smT];exact rfl));first|refine c_bt ?_|refine c_bf ?_|refine zq ?_|(case hg=>assumption))))
 refine w_loop (α := {k : Nat // k ≤ f.length}) (fun k => st 24 (lk [(0,.sl f.length (qc f)),(2,nilL),(3,.own 0 0 f.length 4),(9,.sl f.length (qc f)),(10,i64 f.length),(11,i64 k.1)]) (lkH [(0,⟨45,fillC f k.1,false⟩)]) 1) (fun k => f.length - k.1) ⟨0,by omega⟩ ?_ ?_
 ·(refine Sub.heap1 3 ?_ (by simp only [smF,dg,renL,renLs,simprocAttr,bl,i64,smT];exact rfl) ?_ ?_;all_goals (first | exact dgs_plain _ | with_reducible rfl | (simp only [smF,dg,renL,renLs,simprocAttr,bl,i64,smT];done) | (simp only [smF,dg,renL,renLs,simprocAttr,bl,i64,smT]) | skip))
  ·rw [fillC_zero];rfl
  ·exact fillC_plain _ _
 ·rintro ⟨k,hk⟩
  simp only [st]
  by_cases h : k < f.length
  ·have hm : lq (f.getD k 0) ≤ 100000 := by
    have : f.getD k 0 = f[k] := by simp [h]
    rw [this]
    exact hf _ (List.getElem_mem _)
   have hn := qnorm_good (f.getD k 0) (by omega)
   have hfl := fillC_len hk
   generalize hc : f.getD k 0 = c at *
   have hst := fillC_step h hc
   rw [encQ_sm] at hn
   generalize fillC f k = L at *
   (repeat (first|apply zO (by decide +kernel)|apply zP (by decide +kernel)|(apply zS;(case h=>constructor<;>decide))|((first|apply l_go rfl|apply c_dec|apply zT rfl (by decide) rfl);(case hs=>(simp (disch := first|omega|exact kD rfl|exact kX rfl) only [smY,simprocAttr,bl,i64,smT,hc];exact rfl));first|refine c_bt ?_|refine c_bf ?_|refine zq ?_|(case hg=>assumption))))
   refine ⟨⟨k + 1,by omega⟩,?_,by simp only;omega⟩
   (refine Sub.heap1 0 ?_ (by simp only [smF,dg,renL,renLs,simprocAttr,bl,i64,smT];exact rfl) ?_ ?_;all_goals (first | exact dgs_plain _ | with_reducible rfl | (simp only [smF,dg,renL,renLs,simprocAttr,bl,i64,smT];done) | (simp only [smF,dg,renL,renLs,simprocAttr,bl,i64,smT]) | skip))
   ·exact hst
   ·exact fillC_plain _ _
  ·obtain rfl : k = f.length := by omega
   rw [fillC_all]
   (repeat (first|apply zO (by decide +kernel)|apply zP (by decide +kernel)|(apply zS;(case h=>constructor<;>decide))|((first|apply l_go rfl|apply c_dec|apply zT rfl (by decide) rfl);(case hs=>(simp (disch := first|omega|exact kD rfl|exact kX rfl) only [smY,simprocAttr,bl,i64,smT];exact rfl));first|refine c_bt ?_|refine c_bf ?_|refine zq ?_|(case hg=>assumption))))
   ((first|apply g_ret|apply g_end);case hres => (simp only [smR];simp (disch := first|omega|exact kD rfl|exact kX rfl) only [smY,simprocAttr,bl,i64,smT];exact rfl))
   simp (disch := first|omega|exact kD rfl|exact kX rfl) only [smY,simprocAttr,bl,i64,smT]
   rfl
theorem bp_trim (m : Nat) : trimQ (bp m (m + 1)) = bp m (m + 1) := by
 rw [bp_succ,trimQ_snoc_nz]
 rw [Nat.sub_self,ch_self,bq0]
 decide +kernel
theorem polynomial_good (m : Nat) (hm : m ≤ 60) : PureGood Tryz.prog 138 [i64 m] (encF (bp m (m + 1))) := by
 have hn := qpnorm_good (bp m (m + 1)) (by rw [bp_length];omega) (fun c hc => by have := bp_small hm (m + 1) c hc;omega)
 rw [bp_trim,encF_qc,bp_length] at hn
 rw [encF_qc,bp_length]
 have g1 := numbers_good m (by omega)
 have g2 := row_good m (by omega)
 have hl := bn_length (m + 1)
 have hl2 := rowP_length m (m + 1)
 rw [encF_qc,bn_length] at g1
 rw [encL,rowP_length] at g2
 simp only [i64] at g1 g2 ⊢
 have step : ∀ k : Nat, k ≤ m → PureGood Tryz.prog 73 [encI (ch m k)] (encQ ((ch m k : Int) : Rat)) ∧ PureGood Tryz.prog 70 [encQ ((ch m k : Int) : Rat), encQ (bq (m - k))] (encQ (((ch m k : Int) : Rat) * bq (m - k))) ∧
   (rowP m (m + 1)).getD k 0 = (ch m k : Int) ∧ (bn (m + 1)).getD (m - k) 0 = bq (m - k) := by
  intro k hk
  have c1 := len_ch (show m ≤ 100 by omega) k
  have c3 := lq_bq (m - k)
  have c5 := lq_int (ch m k : Int)
  exact ⟨whole_good (ch m k) (by omega),qmul_good ((ch m k : Int) : Rat) (bq (m - k)) (by omega) (by omega),rowP_getD (by omega),bn_getD (by omega)⟩
 have b1 : bp m 1 = [((ch m 0 : Int) : Rat) * bq m] := rfl
 obtain ⟨w1,w2,e1,e2⟩ := step 0 (by omega)
 rw [Nat.sub_zero] at w2 e2
 have hs0 : ((m : Int) - 0).toNat = m := by omega
 generalize ((ch m 0 : Int) : Rat) * bq m = c0 at *
 simp only [encI_sm,encQ_sm] at w1 w2
 refine good_of_lwp mix Tryz.func138 rfl (by decide) (nt := 33) rfl (rs := [.tmp 2]) rfl (nle rfl) ?_
 (repeat (first|apply zO (by decide +kernel)|apply zP (by decide +kernel)|(apply zS;(case h=>constructor<;>decide))|((first|apply l_go rfl|apply c_dec|apply zT rfl (by decide) rfl);(case hs=>(simp (disch := first|omega|exact kD rfl|exact kX rfl) only [smY,simprocAttr,bl,i64,smT];exact rfl));first|refine c_bt ?_|refine c_bf ?_|refine zq ?_|(case hg=>assumption))))
 refine loop_more (s' := ?_) (fun Φ hΦ => ?_) ?_
 rotate_left
 ·(repeat (first|apply zO (by decide +kernel)|apply zP (by decide +kernel)|(apply zS;(case h=>constructor<;>decide))|((first|apply l_go rfl|apply c_dec|apply zT rfl (by decide) rfl);(case hs=>(simp (disch := first|omega|exact kD rfl|exact kX rfl) only [smY,simprocAttr,bl,i64,smT,e1,e2,hs0];exact rfl));first|refine c_bt ?_|refine c_bf ?_|refine zq ?_|(case hg=>assumption))))
  exact hΦ
 refine w_loop (α := {k : Nat // 0 < k ∧ k ≤ m + 1}) (fun k => st 33 (lk [(0,i64 m),(2,nilL),(3,.sl (m + 1) (qc (bn (m + 1)))),(4,.sl (m + 1) (ic (rowP m (m + 1)))),(5,.own 0 0 k.1 4),(6,i64 k.1)]) (lkH [(0,⟨45,qc (bp m k.1),false⟩)]) 1) (fun k => m + 1 - k.1) ⟨1,by omega,by omega⟩ ?_ ?_
 ·(refine Sub.heap1 26 ?_ (by simp only [smF,dg,renL,renLs,simprocAttr,bl,i64,smT];exact rfl) ?_ ?_;all_goals (first | exact dgs_plain _ | with_reducible rfl | (simp only [smF,dg,renL,renLs,simprocAttr,bl,i64,smT];done) | (simp only [smF,dg,renL,renLs,simprocAttr,bl,i64,smT]) | skip))
  rw [b1,← qc_one]
 ·rintro ⟨k,hk0,hk⟩
  simp only [st]
  have hl3 := bp_length m k
  by_cases hlt : k ≤ m
  ·obtain ⟨w1,w2,e1,e2⟩ := step k hlt
   have happ := bp_succ m k
   have hsub : ((m : Int) - (k : Int)).toNat = m - k := by omega
   generalize ((ch m k : Int) : Rat) * bq (m - k) = c0 at *
   simp only [encI_sm,encQ_sm] at w1 w2
   (repeat (first|apply zO (by decide +kernel)|apply zP (by decide +kernel)|(apply zS;(case h=>constructor<;>decide))|((first|apply l_go rfl|apply c_dec|apply zT rfl (by decide) rfl);(case hs=>(simp (disch := first|omega|exact kD rfl|exact kX rfl) only [smY,simprocAttr,bl,i64,smT,e1,e2];exact rfl));first|refine c_bt ?_|refine c_bf ?_|refine zq ?_|(case hg=>assumption))))
   refine ⟨⟨k + 1,by omega,by omega⟩,?_,by simp only;omega⟩
   (refine Sub.heap1 18 ?_ (by simp only [smF,dg,renL,renLs,simprocAttr,bl,i64,smT];exact rfl) ?_ ?_;all_goals (first | exact dgs_plain _ | with_reducible rfl | (simp only [smF,dg,renL,renLs,simprocAttr,bl,i64,smT];done) | (simp only [smF,dg,renL,renLs,simprocAttr,bl,i64,smT]) | skip))
   rw [happ,← qc_app]
  ·obtain rfl : k = m + 1 := by omega
   (repeat (first|apply zO (by decide +kernel)|apply zP (by decide +kernel)|(apply zS;(case h=>constructor<;>decide))|((first|apply l_go rfl|apply c_dec|apply zT rfl (by decide) rfl);(case hs=>(simp (disch := first|omega|exact kD rfl|exact kX rfl) only [smY,simprocAttr,bl,i64,smT];exact rfl));first|refine c_bt ?_|refine c_bf ?_|refine zq ?_|(case hg=>assumption))))
   ((first|apply g_ret|apply g_end);case hres => (simp only [smR];simp (disch := first|omega|exact kD rfl|exact kX rfl) only [smY,simprocAttr,bl,i64,smT];exact rfl))
   simp (disch := first|omega|exact kD rfl|exact kX rfl) only [smY,simprocAttr,bl,i64,smT]
end Go.Proofs.YteecamhdbilmoaaGreatDoor
namespace Go.Proofs.YteecamhdbilmoaaGreatDoor
open Go Go.Lg Go.Num
set_option maxRecDepth 100000
set_option maxHeartbeats 4000000
attribute [local irreducible] Go.Lg.lrun Go.Lg.lwp Go.Lg.exThen Go.Lg.exBlk Go.Lg.keep Go.Lg.goodPost sg mg bq
end Go.Proofs.YteecamhdbilmoaaGreatDoor
namespace Go.Proofs.YteecamhdbilmoaaGreatDoor
open Go Go.Lg Go.Num
set_option maxRecDepth 100000
set_option maxHeartbeats 4000000
attribute [local irreducible] Go.Lg.lrun Go.Lg.lwp Go.Lg.exThen Go.Lg.exBlk Go.Lg.keep Go.Lg.goodPost sg mg bq
theorem pow_unit3 {z : Int} (h : z.natAbs ≤ 1) (n : Nat) : z ^ (if n = 0 then 0 else 2 + n % 2) = z ^ n := by
 have h3 : z = 0 ∨ z = 1 ∨ z = -1 := by omega
 by_cases h0 : n = 0
 ·subst h0;rfl
 ·rw [if_neg h0]
  rcases h3 with rfl | rfl | rfl
  ·rw [Int.zero_pow (by omega),Int.zero_pow h0]
  ·rw [Int.one_pow,Int.one_pow]
  ·have key : ∀ k : Nat,(-1 : Int) ^ (2 * k) = 1 := fun k => by rw [Int.pow_mul];show (1 : Int) ^ k = 1;exact Int.one_pow
   rcases Nat.mod_two_eq_zero_or_one n with h | h
   ·rw [h]
    conv => rhs;rw [show n = 2 * (n / 2) by omega,key]
    rfl
   ·rw [h]
    conv => rhs;rw [show n = 2 * (n / 2) + 1 by omega,Int.pow_succ,key]
    rfl
theorem qpow_good (q : Rat) (n : Nat) (hn : n ≤ 100) (hq : lq q ≤ 50) : PureGood Tryz.prog 139 [encQ q,i64 n] (.tup [encQ (q ^ n),i64 0]) := by
 have h1 := qnorm_good q (by omega)
 have h2 := qbits_good q (by omega)
 have hb : qbits q = max (nbits q.num.natAbs) (nbits q.den) := rfl
 have l1 : len q.num ≤ 50 := by unfold lq at hq;omega
 have l2 : len (q.den : Int) ≤ 50 := by unfold lq at hq;omega
 have b1 := nbits_len q.num.natAbs
 have b2 := nbits_len q.den
 have e2 : (digs q.den).length ≤ 50 := by unfold len at l2;rwa [Int.natAbs_natCast] at l2
 have e1 : (digs q.num.natAbs).length ≤ 50 := l1
 have hbb : qbits q ≤ 1600 := by omega
 have hdiv : ∀ s : Nat,s ≤ 1600 → 1 < s → n ≤ 1048576 / s := fun s h1 h2 => (Nat.le_div_iff_mul_le (by omega)).2 (by have : n * s ≤ 100 * 1600 := Nat.mul_le_mul hn h1;omega)
 by_cases hs : qbits q ≤ 1
 ·have n1 := nbits_lt q.num.natAbs
  have n2 := nbits_lt q.den
  have t1 : 2 ^ nbits q.num.natAbs ≤ 2 ^ 1 := Nat.pow_le_pow_right (by omega) (by omega)
  have t2 : 2 ^ nbits q.den ≤ 2 ^ 1 := Nat.pow_le_pow_right (by omega) (by omega)
  have u1 : q.num.natAbs ≤ 1 := by omega
  have u2 : q.den = 1 := by have := q.den_nz;omega
  have hqn : q = (q.num : Rat) := by apply Rat.ext <;> simp [u2]
  have hpw := pow_unit3 u1 n
  have hpq : ((q.num ^ n : Int) : Rat) = q ^ n := by rw [Rat.intCast_pow,← hqn]
  have hln : len (q.num ^ n) ≤ 1 := by
   have : (q.num ^ n).natAbs ≤ 1 := by rw [Int.natAbs_pow];exact Nat.le_trans (Nat.pow_le_pow_left u1 n) (by rw [Nat.one_pow];omega)
   exact len_pow_lt (e := 1) (by omega)
  have w1 := whole_good (q.num ^ n) (by omega)
  rw [hpq] at w1
  have hnb : nbits q.num.natAbs ≤ 1 := by omega
  by_cases h0 : n = 0
  ·subst h0
   have p1 := pow_good q.num 0 (by omega) (.inl hnb) (by omega)
   rw [Int.natCast_zero] at *
   generalize q ^ 0 = r at *
   generalize qbits q = S at *
   clear hqn hpq hpw
   simp only [encQ_sm,encI_sm,i64] at *
   refine good_of_lwp mix Tryz.func139 rfl (by decide) (nt := 83) rfl (rs := [.cell 4 45,.tmp 5]) rfl (nle rfl) ?_
   (repeat (first|apply zO (by decide +kernel)|apply zP (by decide +kernel)|(apply zS;(case h=>constructor<;>decide))|((first|apply l_go rfl|apply c_dec|apply zT rfl (by decide) rfl);(case hs=>(simp (disch := first|omega|exact kD rfl|exact kX rfl) only [smY,simprocAttr,bl,i64,smT];exact rfl));first|refine c_bt ?_|refine c_bf ?_|refine zq ?_|(case hg=>assumption))))
   ((first|apply g_ret|apply g_end);case hres => (simp only [smR];simp (disch := first|omega|exact kD rfl|exact kX rfl) only [smY,simprocAttr,bl,i64,smT];exact rfl))
   simp (disch := first|omega|exact kD rfl|exact kX rfl) only [smY,simprocAttr,bl,i64,smT]
  ·have p1 := pow_good q.num (2 + n % 2) (by omega) (.inl hnb) (by omega)
   rw [if_neg h0] at hpw
   rw [hpw,show ((2 + n % 2 : Nat) : Int) = 2 + (n : Int) % 2 by omega] at p1
   generalize q.num ^ n = z at *
   generalize q ^ n = r at *
   generalize qbits q = S at *
   clear hqn hpq hpw
   simp only [encQ_sm,encI_sm,i64] at *
   refine good_of_lwp mix Tryz.func139 rfl (by decide) (nt := 83) rfl (rs := [.cell 4 45,.tmp 5]) rfl (nle rfl) ?_
   (repeat (first|apply zO (by decide +kernel)|apply zP (by decide +kernel)|(apply zS;(case h=>constructor<;>decide))|((first|apply l_go rfl|apply c_dec|apply zT rfl (by decide) rfl);(case hs=>(simp (disch := first|omega|exact kD rfl|exact kX rfl) only [smY,simprocAttr,bl,i64,smT];exact rfl));first|refine c_bt ?_|refine c_bf ?_|refine zq ?_|(case hg=>assumption))))
   ((first|apply g_ret|apply g_end);case hres => (simp only [smR];simp (disch := first|omega|exact kD rfl|exact kX rfl) only [smY,simprocAttr,bl,i64,smT];exact rfl))
   simp (disch := first|omega|exact kD rfl|exact kX rfl) only [smY,simprocAttr,bl,i64,smT]
 ·have hd1 := hdiv (qbits q) hbb (by omega)
  have hcast : (1048576 : Int) / (qbits q : Int) = ((1048576 / qbits q : Nat) : Int) := rfl
  have p1 := pow_good q.num n (by omega) (by by_cases h : nbits q.num.natAbs ≤ 1;exact .inl h;exact .inr (hdiv _ (by omega) (by omega))) (by omega)
  have p2 := pow_good (q.den : Int) n (by omega) (by rw [Int.natAbs_natCast];by_cases h : nbits q.den ≤ 1;exact .inl h;exact .inr (hdiv _ (by omega) (by omega))) (by omega)
  have m1 := len_pow q.num n
  have m2 := len_pow (q.den : Int) n
  have m3 : n * len q.num ≤ 100 * 50 := Nat.mul_le_mul hn l1
  have m4 : n * len (q.den : Int) ≤ 100 * 50 := Nat.mul_le_mul hn l2
  have o1 := over_good (q.num ^ n) ((q.den : Int) ^ n) (by omega) (by omega)
  rw [← pow_divInt] at o1
  have hmx : (if 0 - (n : Int) > (n : Int) then 0 - (n : Int) else (n : Int)) = (n : Int) := by split <;> omega
  have hdn : ((1048576 / qbits q : Nat) : Int) ≤ 1048576 := by have := Nat.div_le_self 1048576 (qbits q);omega
  generalize 1048576 / qbits q = M at *
  generalize qbits q = S at *
  simp only [encQ_sm,encI_sm,i64] at *
  clear hdiv hb b1 b2 e1 e2 m1 m2 m3 m4
  refine good_of_lwp mix Tryz.func139 rfl (by decide) (nt := 83) rfl (rs := [.cell 4 45,.tmp 5]) rfl (nle rfl) ?_
  (repeat (first|apply zO (by decide +kernel)|apply zP (by decide +kernel)|(apply zS;(case h=>constructor<;>decide))|((first|apply l_go rfl|apply c_dec|apply zT rfl (by decide) rfl);(case hs=>(simp (disch := first|omega|exact kD rfl|exact kX rfl) only [smY,simprocAttr,bl,i64,smT,hmx,hcast];exact rfl));first|refine c_bt ?_|refine c_bf ?_|refine zq ?_|(case hg=>assumption))))
  ((first|apply g_ret|apply g_end);case hres => (simp only [smR];simp (disch := first|omega|exact kD rfl|exact kX rfl) only [smY,simprocAttr,bl,i64,smT,hmx,hcast];exact rfl))
  simp (disch := first|omega|exact kD rfl|exact kX rfl) only [smY,simprocAttr,bl,i64,smT,hmx,hcast]
theorem bp_bpL (n : Nat) : bp n (n + 1) = bpL n := rfl
theorem hor_horQ (f : List Rat) (x : Rat) : hor f x = horQ f x := rfl
theorem evalB_good {n : Nat} (hn : n ≤ 41) (x : Rat) (hx : lq x ≤ 1000) : PureGood Tryz.prog 141 [encF (bp n (n + 1)),encQ x] (encQ (horQ (bpL n) x)) ∧ lq (horQ (bpL n) x) ≤ 100000 := by
 have hh : ∀ k,lq (horQ ((bpL n).drop k) x) ≤ 100000 := fun k => lq_horB hx (by omega) hn
 have h0 := hh 0
 rw [List.drop_zero] at h0
 refine ⟨?_,h0⟩
 rw [bp_bpL,← hor_horQ]
 refine eval_good (bpL n) x (by rw [← bp_bpL,bp_length];omega) (by omega) (fun c hc => by have := bp_small (n := n) (by omega) (n + 1) c hc;omega) (fun k => by rw [hor_horQ];have := hh k;omega) (fun k => ?_)
 rw [hor_horQ]
 have h1 := hh k
 have h2 := lq_mul (horQ ((bpL n).drop k) x) x
 omega
end Go.Proofs.YteecamhdbilmoaaGreatDoor
namespace Go.Proofs.YteecamhdbilmoaaGreatDoor
open Go Go.Lg Go.Num
set_option maxRecDepth 100000
set_option maxHeartbeats 4000000
attribute [local irreducible] Go.Lg.lrun Go.Lg.lwp Go.Lg.exThen Go.Lg.exBlk Go.Lg.keep Go.Lg.goodPost sg mg bq bpL horQ
end Go.Proofs.YteecamhdbilmoaaGreatDoor
namespace Go.Proofs.YteecamhdbilmoaaGreatDoor
open Go Go.Lg Go.Num
set_option maxRecDepth 100000
set_option maxHeartbeats 4000000
attribute [local irreducible] Go.Lg.lrun Go.Lg.lwp Go.Lg.exThen Go.Lg.exBlk Go.Lg.keep Go.Lg.goodPost sg mg bq bpL horQ trm qsum
theorem trm_eq (k f j : Nat) : trm k f j = ((f : Int) : Rat) ^ (k - 1) * horQ (bpL k) (Rat.divInt ((j + 1 : Nat) : Int) (f : Int)) := by unfold trm;rfl
theorem summands_good (k f : Nat) (hk1 : 1 ≤ k) (hk : k ≤ 40) (hf : 1 ≤ f) (hf2 : f ≤ 60) : PureGood Tryz.prog 108 [i64 k,i64 f] (encF (smd k f f)) := by
 have p1 := polynomial_good k (by omega)
 have of := qof_good (f : Int) (by omega)
 have lf : lq ((f : Int) : Rat) ≤ 2 := lq_small (by omega) (by omega)
 have pw := qpow_good ((f : Int) : Rat) (k - 1) (by omega) (by omega)
 have lw := lq_powQ ((f : Int) : Rat) (k - 1)
 have lw2 : (k - 1) * lq ((f : Int) : Rat) ≤ 40 * 2 := Nat.mul_le_mul (by omega) lf
 have bf := of_good (f : Int) (by omega)
 have step : ∀ j : Nat, j < f → PureGood Tryz.prog 78 [i64 ((j + 1 : Nat) : Int)] (encI ((j + 1 : Nat) : Int)) ∧ PureGood Tryz.prog 140 [encI ((j + 1 : Nat) : Int), encI (f : Int)] (.tup [encQ (Rat.divInt ((j + 1 : Nat) : Int) (f : Int)), i64 0]) ∧
   PureGood Tryz.prog 141 [encF (bp k (k + 1)),encQ (Rat.divInt ((j + 1 : Nat) : Int) (f : Int))] (encQ (horQ (bpL k) (Rat.divInt ((j + 1 : Nat) : Int) (f : Int)))) ∧
   PureGood Tryz.prog 70 [encQ (((f : Int) : Rat) ^ (k - 1)),encQ (horQ (bpL k) (Rat.divInt ((j + 1 : Nat) : Int) (f : Int)))] (encQ (trm k f j)) := by
  intro j hj
  have la : len ((j + 1 : Nat) : Int) ≤ 1 := len_pow_lt (e := 1) (by omega)
  have lf : len (f : Int) ≤ 1 := len_pow_lt (e := 1) (by omega)
  have ld := lq_divInt (n := ((j + 1 : Nat) : Int)) (d := (f : Int)) (by omega)
  have ev := evalB_good (n := k) (by omega) (Rat.divInt ((j + 1 : Nat) : Int) (f : Int)) (by unfold lq;omega)
  have mk := make_good ((j + 1 : Nat) : Int) f (by omega) (by omega) (by omega)
  rw [← encI_nat] at mk
  refine ⟨of_good _ (by omega),mk,ev.1,?_⟩
  rw [trm_eq]
  exact qmul_good _ _ (by omega) (by have := ev.2;omega)
 clear lw lw2 lf
 have hk2 : ((k - 1 : Nat) : Int) = (k : Int) - 1 := by omega
 have hl := bp_length k (k + 1)
 rw [encF_qc,hl] at p1
 rw [encF_qc,smd_length]
 simp only [encF_qc,hl] at step
 generalize bp k (k + 1) = L at *
 rw [hk2] at pw
 generalize ((f : Int) : Rat) ^ (k - 1) = P at *
 generalize ((f : Int) : Rat) = FQ at *
 simp only [encI_sm,encQ_sm,i64] at p1 pw of bf step ⊢
 have b1 : smd k f 1 = [trm k f 0] := rfl
 obtain ⟨w1,w2,w3,w4⟩ := step 0 (by omega)
 rw [show ((0 + 1 : Nat) : Int) = 1 from rfl] at w1 w2 w3 w4
 generalize horQ (bpL k) (Rat.divInt (1 : Int) (f : Int)) = E0 at *
 generalize Rat.divInt (1 : Int) (f : Int) = D0 at *
 generalize ht0 : trm k f 0 = T0 at *
 refine good_of_lwp mix Tryz.func108 rfl (by decide) (nt := 44) rfl (rs := [.tmp 4]) rfl (nle rfl) ?_
 (repeat (first|apply zO (by decide +kernel)|apply zP (by decide +kernel)|(apply zS;(case h=>constructor<;>decide))|((first|apply l_go rfl|apply c_dec|apply zT rfl (by decide) rfl);(case hs=>(simp (disch := first|omega|exact kD rfl|exact kX rfl) only [smY,simprocAttr,bl,i64,smT];exact rfl));first|refine c_bt ?_|refine c_bf ?_|refine zq ?_|(case hg=>assumption))))
 refine loop_more (s' := ?_) (fun Φ hΦ => ?_) ?_
 rotate_left
 ·(repeat (first|apply zO (by decide +kernel)|apply zP (by decide +kernel)|(apply zS;(case h=>constructor<;>decide))|((first|apply l_go rfl|apply c_dec|apply zT rfl (by decide) rfl);(case hs=>(simp (disch := first|omega|exact kD rfl|exact kX rfl) only [smY,simprocAttr,bl,i64,smT];exact rfl));first|refine c_bt ?_|refine c_bf ?_|refine zq ?_|(case hg=>assumption))))
  exact hΦ
 refine w_loop (α := {n : Nat // 1 ≤ n ∧ n ≤ f}) (fun n => st 44 (lk [(0,i64 k),(1,i64 f),(5,.sl (k + 1) (qc L)),(6,.ptr 1 0),(8,.own 0 0 n.1 4),(9,i64 ((n.1 + 1 : Nat) : Int))]) (lkH [(0,⟨45,qc (smd k f n.1),false⟩),(1,⟨45,[sg (P).num,mg (P).num,sg ((P).den : Int),mg ((P).den : Int)],false⟩)]) 2) (fun n => f - n.1) ⟨1,by omega,hf⟩ ?_ ?_
 ·(refine Sub.heapL [38,12] rfl (by decide) ?_ (by simp only [smL];decide) ?_ ?_;all_goals (first|(simp only [plainC,smF,dg,renL,renLs,simprocAttr,bl,i64,smT];done) | (simp only [smF,dg,renL,renLs,simprocAttr,bl,i64,smT];(repeat' apply And.intro);all_goals rfl) | (simp only [smF,dg,renL,renLs,simprocAttr,bl,i64,smT]) | skip))
  rw [b1,← qc_one]
 ·rintro ⟨n,hn1,hn⟩
  simp only [st]
  have hls := smd_length k f n
  by_cases hlt : n < f
  ·obtain ⟨w1,w2,w3,w4⟩ := step n hlt
   have happ := smd_succ k f n
   generalize hN : n + 1 = N at *
   generalize horQ (bpL k) (Rat.divInt (N : Int) (f : Int)) = E at *
   generalize Rat.divInt (N : Int) (f : Int) = D at *
   generalize trm k f n = T at *
   (repeat (first|apply zO (by decide +kernel)|apply zP (by decide +kernel)|(apply zS;(case h=>constructor<;>decide))|((first|apply l_go rfl|apply c_dec|apply zT rfl (by decide) rfl);(case hs=>(simp (disch := first|omega|exact kD rfl|exact kX rfl) only [smY,simprocAttr,bl,i64,smT];exact rfl));first|refine c_bt ?_|refine c_bf ?_|refine zq ?_|(case hg=>assumption))))
   refine ⟨⟨N,by omega,by omega⟩,?_,by simp only;omega⟩
   (refine Sub.heapL [23,1] rfl (by decide) ?_ (by simp only [smL];decide) ?_ ?_;all_goals (first|(simp only [plainC,smF,dg,renL,renLs,simprocAttr,bl,i64,smT];done) | (simp only [smF,dg,renL,renLs,simprocAttr,bl,i64,smT];(repeat' apply And.intro);all_goals rfl) | (simp only [smF,dg,renL,renLs,simprocAttr,bl,i64,smT]) | skip))
   ·simp only [true_and,hN]
   ·rw [happ,← qc_app]
  ·obtain rfl : n = f := by omega
   (repeat (first|apply zO (by decide +kernel)|apply zP (by decide +kernel)|(apply zS;(case h=>constructor<;>decide))|((first|apply l_go rfl|apply c_dec|apply zT rfl (by decide) rfl);(case hs=>(simp (disch := first|omega|exact kD rfl|exact kX rfl) only [smY,simprocAttr,bl,i64,smT];exact rfl));first|refine c_bt ?_|refine c_bf ?_|refine zq ?_|(case hg=>assumption))))
   ((first|apply g_ret|apply g_end);case hres => (simp only [smR];simp (disch := first|omega|exact kD rfl|exact kX rfl) only [smY,simprocAttr,bl,i64,smT];exact rfl))
   simp (disch := first|omega|exact kD rfl|exact kX rfl) only [smY,simprocAttr,bl,i64,smT]
end Go.Proofs.YteecamhdbilmoaaGreatDoor
namespace Go.Num
theorem chR_next {n j : Nat} (hj : j ≤ n) : ((ch n j : Int) : Rat) * Rat.divInt ((n : Int) - j) ((j : Int) + 1) = ((ch n (j + 1) : Int) : Rat) := by
 have h := ch_mul n j
 have h2 : (ch n j : Int) * ((n : Int) - j) = (ch n (j + 1) : Int) * ((j : Int) + 1) := by
  rw [show (n : Int) - j = ((n - j : Nat) : Int) by omega,show (j : Int) + 1 = ((j + 1 : Nat) : Int) by omega,← Int.natCast_mul,← Int.natCast_mul,h]
 have hz : (((j : Int) + 1 : Int) : Rat) ≠ 0 := by
  intro e
  have := Rat.intCast_inj.1 (e.trans Rat.intCast_zero.symm)
  omega
 rw [Rat.divInt_eq_div,Rat.div_def,← Rat.mul_assoc,← Rat.intCast_mul,h2,Rat.intCast_mul,Rat.mul_assoc,Rat.mul_inv_cancel _ hz,Rat.mul_one]
theorem invN (a : Rat) : (-a)⁻¹ = -a⁻¹ := by
 rw [Rat.inv_def,Rat.inv_def,Rat.neg_num,Rat.neg_den,Rat.neg_divInt,Rat.divInt_neg']
theorem neg_one_div {s : Rat} {m : Nat} : s * Rat.divInt (-1) ((m : Int) + 1) = s / ((-(m : Int) - 1 : Int) : Rat) := by
 rw [show (-(m : Int) - 1 : Int) = -((m : Int) + 1) by omega,Rat.divInt_eq_div,Rat.div_def,Rat.div_def,Rat.intCast_neg,Rat.intCast_neg,invN,Rat.mul_neg,Rat.neg_mul,Rat.mul_neg]
 congr 2
 show (1 : Rat) * _ = _
 rw [Rat.one_mul]
theorem prow_symm : ((List.range 41).all fun k => (prow k).reverse == prow k) = true := by decide +kernel
theorem ch_symm {k j : Nat} (hk : k ≤ 40) (hj : j ≤ k) : ch k (k - j) = ch k j := by
 have h := List.all_eq_true.1 prow_symm k (List.mem_range.2 (by omega))
 have h1 : (prow k).reverse = prow k := by simpa using h
 have g1 := prow_get k j
 have g2 := prow_get k (k - j)
 rw [if_pos hj] at g1
 rw [if_pos (by omega)] at g2
 have hl : (prow k).length = k + 1 := prow_length k
 have h3 : (prow k).reverse[j]? = (prow k)[k - j]? := by
  rw [List.getElem?_reverse (by omega)]
  congr 1
  omega
 rw [h1,g1,g2] at h3
 exact (Option.some.inj h3).symm
def hrB (k j : Nat) (x : Rat) : Rat := horQ ((bpL k).drop (k + 1 - j)) x
theorem bpL_length (k : Nat) : (bpL k).length = k + 1 := by simp [bpL]
theorem hrB_zero (k : Nat) (x : Rat) : hrB k 0 x = 0 := by
 unfold hrB
 rw [List.drop_of_length_le (by rw [bpL_length];omega)]
 rfl
theorem hrB_all (k : Nat) (x : Rat) : hrB k (k + 1) x = horQ (bpL k) x := by
 unfold hrB
 rw [Nat.sub_self,List.drop_zero]
theorem hrB_succ {k j : Nat} (hk : k ≤ 40) (hj : j ≤ k) (x : Rat) : hrB k (j + 1) x = hrB k j x * x + ((ch k j : Int) : Rat) * bq j := by
 unfold hrB
 have hl := bpL_length k
 rw [show k + 1 - (j + 1) = k - j by omega,List.drop_eq_getElem_cons (by omega : k - j < (bpL k).length),show k - j + 1 = k + 1 - j by omega]
 have : (bpL k)[k - j]'(by omega) = ((ch k j : Int) : Rat) * bq j := by
  simp only [bpL,List.getElem_map,List.getElem_range]
  rw [ch_symm hk hj,show k - (k - j) = j by omega]
 rw [this]
 rfl
theorem lq_hrB {A k j : Nat} {x : Rat} (hx : lq x ≤ A) (hA : A ≤ 1000) (hk : k ≤ 40) : lq (hrB k j x) ≤ 100000 := lq_horB hx hA (by omega)
def rqs (c : Nat → Int) (k f : Nat) : Nat → Rat
 | 0 => 0
 | n + 1 => rqs c k f n + (c n : Rat) * horQ (bpL k) (Rat.divInt ((n + 1 : Nat) : Int) (f : Int))
theorem rqs_mul (c : Nat → Int) (k f : Nat) : ∀ n,rqs c k f n * ((f : Int) : Rat) ^ (k - 1) = qsum c k f n
 | 0 => Rat.zero_mul _
 | n + 1 => by
   rw [rqs,qsum,Rat.add_mul,rqs_mul c k f n,trm,Rat.mul_assoc,Rat.mul_comm (horQ _ _)]
theorem powQ_ne {f k : Nat} (hf : 1 ≤ f) : ((f : Int) : Rat) ^ k ≠ 0 := by
 rw [← Rat.intCast_pow]
 intro e
 have := Rat.intCast_inj.1 (e.trans Rat.intCast_zero.symm)
 exact Int.pow_ne_zero (by omega) this
theorem rqs_eq {c : Nat → Int} {k f : Nat} (hf : 1 ≤ f) (n : Nat) : rqs c k f n = qsum c k f n / ((f : Int) : Rat) ^ (k - 1) := by
 rw [← rqs_mul,Rat.div_def,Rat.mul_assoc,Rat.mul_inv_cancel _ (powQ_ne hf),Rat.mul_one]
theorem neg_half {q : Rat} {k : Int} : Rat.divInt (-1) (2 * k) * q = q / ((-2 * k : Int) : Rat) := by
 rw [show -2 * k = -(2 * k) by omega,Rat.divInt_eq_div,Rat.div_def,Rat.div_def,Rat.intCast_neg,Rat.intCast_neg,invN,Rat.mul_neg,Rat.neg_mul,Rat.neg_mul,Rat.mul_comm q]
 congr 1
 show (1 : Rat) * _ * _ = _
 rw [Rat.one_mul]
def chkG1 (k : Nat) : Bool := decide (gB k 1 = bq k)
theorem gB_one_all : ((List.range 20).all fun j => chkG1 (2 * (j + 1))) = true := by decide +kernel
theorem gB_one {k : Nat} (h1 : 2 ≤ k) (h2 : k ≤ 40) (h3 : k % 2 = 0) : gB k 1 = bq k := by
 have h := List.all_eq_true.1 gB_one_all (k / 2 - 1) (List.mem_range.2 (by omega))
 rw [show 2 * (k / 2 - 1 + 1) = k by omega] at h
 exact of_decide_eq_true h
end Go.Num
namespace Go.Proofs.YteecamhdbilmoaaGreatDoor
open Go Go.Lg Go.Num
set_option maxRecDepth 100000
set_option maxHeartbeats 4000000
attribute [local irreducible] Go.Lg.lrun Go.Lg.lwp Go.Lg.exThen Go.Lg.exBlk Go.Lg.keep Go.Lg.goodPost sg mg bq bpL horQ trm qsum kr bsum ch hrB rqs
theorem quadB_good {d : Int} (hd : d ∈ fdL) (k : Nat) (hk1 : 1 ≤ k) (hk : k ≤ 40) : PureGood Tryz.prog 74 [i64 k,i64 d] (.tup [encQ (gB k d),i64 0]) := by
 obtain ⟨hd0,hdr⟩ := fd_rng hd
 obtain ⟨qm,qn,qcs,h1⟩ := dquad_ok hd
 have h2 := summands_good k d.natAbs hk1 hk (by omega) (by omega)
 have h3 := qof_good 0 (by omega)
 rw [show ((0 : Int) : Rat) = 0 from rfl] at h3
 have hmx : (if 0 - d > d then 0 - d else d) = (d.natAbs : Int) := by split <;> omega
 have hz := qsum_zero (fun j => kr d (j + 1)) k d.natAbs
 have step : ∀ j, j < d.natAbs → PureGood Tryz.prog 19 [i64 d, i64 ((j + 1 : Nat) : Int)] (i64 (kr d (j + 1))) ∧ PureGood Tryz.prog 44 [i64 (kr d (j + 1))] (encQ (kr d (j + 1))) ∧
   PureGood Tryz.prog 70 [encQ (kr d (j + 1)),encQ (trm k d.natAbs j)] (encQ ((kr d (j + 1) : Rat) * trm k d.natAbs j)) ∧
   PureGood Tryz.prog 69 [encQ (qsum (fun j => kr d (j + 1)) k d.natAbs j),encQ ((kr d (j + 1) : Rat) * trm k d.natAbs j)] (encQ (qsum (fun j => kr d (j + 1)) k d.natAbs (j + 1))) ∧ (kr d (j + 1) = 1 ∨ kr d (j + 1) = 0 ∨ kr d (j + 1) = -1) := by
  intro j hj
  have a1 := kron_good d hd (j + 1) (by omega) (by omega)
  have a3 := (kr_val hd (n := j + 1) (by omega) (by omega)).2
  have lt := lq_trm (k := k) (f := d.natAbs) (j := j) hk (by omega) (by omega) hj
  have ls := lq_qsum (c := fun j => kr d (j + 1)) (k := k) (f := d.natAbs) (fun j hj => (kr_val hd (n := j + 1) (by omega) (by omega)).2) hk (by omega) (by omega) (n := j) (by omega)
  have lk : lq (kr d (j + 1) : Rat) ≤ 2 := by
   rw [lq_int]
   have := len_pow_lt (a := kr d (j + 1)) (e := 1) (by omega)
   omega
  have lm := lq_mul (kr d (j + 1) : Rat) (trm k d.natAbs j)
  refine ⟨a1,qof_good _ (by omega),qmul_good _ _ (by omega) (by omega),?_,a3⟩
  rw [qsum_succ]
  exact qadd_good _ _ (by omega) (by omega)
 unfold gB
 generalize hf : d.natAbs = f at *
 generalize hC : (fun j => kr d (j + 1)) = C at *
 rw [encF_qc,smd_length] at h2
 have hls := smd_length k f f
 simp only [encQ_sm,i64] at h1 h2 h3 step ⊢
 refine good_of_lwp mix Tryz.func74 rfl (by decide) (nt := 51) rfl (rs := [.cell 4 45,.tmp 5]) rfl (nle rfl) ?_
 (repeat (first|apply zO (by decide +kernel)|apply zP (by decide +kernel)|(apply zS;(case h=>constructor<;>decide))|((first|apply l_go rfl|apply c_dec|apply zT rfl (by decide) rfl);(case hs=>(simp (disch := first|omega|exact kD rfl|exact kX rfl) only [smY,simprocAttr,bl,i64,smT,hmx];exact rfl));first|refine c_bt ?_|refine c_bf ?_|refine zq ?_|(case hg=>assumption))))
 refine w_loop (α := {j : Nat // j ≤ f}) (fun j => st 51 (lk [(0,i64 k),(1,i64 d),(4,.ptr 0 0),(8,.ptr 1 0),(33,.sl f (qc (smd k f f))),(34,i64 f),(35,i64 j.1)]) (lkH [(0,⟨45,[bl false,.lit (.slice none 0 0),bl false,.lit (.slice none 0 0)],false⟩),(1,⟨45,[sg (qsum C k f j.1).num,mg (qsum C k f j.1).num,sg ((qsum C k f j.1).den : Int),mg ((qsum C k f j.1).den : Int)],false⟩)]) 2) (fun j => f - j.1) ⟨0,by omega⟩ ?_ ?_
 ·(refine Sub.heapL [0,19] rfl (by decide) ?_ (by simp only [smL];decide) ?_ ?_;all_goals (first|(simp only [plainC,smF,dg,renL,renLs,simprocAttr,bl,i64,smT];done) | (simp only [smF,dg,renL,renLs,simprocAttr,bl,i64,smT];(repeat' apply And.intro);all_goals rfl) | (simp only [smF,dg,renL,renLs,simprocAttr,bl,i64,smT]) | skip))
  all_goals (first | done | (rw [hz];exact ⟨trivial,rfl⟩))
 ·rintro ⟨j,hj⟩
  simp only [st]
  by_cases hlt : j < f
  ·obtain ⟨w1,w2,w3,w4,hz⟩ := step j hlt
   have e1 : (smd k f f).getD j 0 = trm k f j := smd_getD hlt
   have hj1 : ((j + 1 : Nat) : Int) = (j : Int) + 1 := by omega
   rw [hj1] at w1
   generalize trm k f j = T at *
   generalize ((kr d (j + 1) : Int) : Rat) * T = M at *
   generalize ((kr d (j + 1) : Int) : Rat) = K at *
   generalize kr d (j + 1) = z at *
   (repeat (first|apply zO (by decide +kernel)|apply zP (by decide +kernel)|(apply zS;(case h=>constructor<;>decide))|((first|apply l_go rfl|apply c_dec|apply zT rfl (by decide) rfl);(case hs=>(simp (disch := first|omega|exact kD rfl|exact kX rfl) only [smY,simprocAttr,bl,i64,smT,e1];exact rfl));first|refine c_bt ?_|refine c_bf ?_|refine zq ?_|(case hg=>assumption))))
   refine ⟨⟨j + 1,by omega⟩,?_,by simp only;omega⟩
   (refine Sub.heapL [0,1] rfl (by decide) ?_ (by simp only [smL];decide) ?_ ?_;all_goals (first|(simp only [plainC,smF,dg,renL,renLs,simprocAttr,bl,i64,smT];done) | (simp only [smF,dg,renL,renLs,simprocAttr,bl,i64,smT];(repeat' apply And.intro);all_goals rfl) | (simp only [smF,dg,renL,renLs,simprocAttr,bl,i64,smT]) | skip))
  ·obtain rfl : j = f := by omega
   (repeat (first|apply zO (by decide +kernel)|apply zP (by decide +kernel)|(apply zS;(case h=>constructor<;>decide))|((first|apply l_go rfl|apply c_dec|apply zT rfl (by decide) rfl);(case hs=>(simp (disch := first|omega|exact kD rfl|exact kX rfl) only [smY,simprocAttr,bl,i64,smT];exact rfl));first|refine c_bt ?_|refine c_bf ?_|refine zq ?_|(case hg=>assumption))))
   ((first|apply g_ret|apply g_end);case hres => (simp only [smR];simp (disch := first|omega|exact kD rfl|exact kX rfl) only [smY,simprocAttr,bl,i64,smT];exact rfl))
   simp (disch := first|omega|exact kD rfl|exact kX rfl) only [smY,simprocAttr,bl,i64,smT]
theorem lq_ch {n j : Nat} (hn : n ≤ 60) : lq ((ch n j : Int) : Rat) ≤ 10 := by
 have c1 := len_ch (show n ≤ 100 by omega) j
 rw [lq_int]
 omega
theorem rnum34_good (n : Nat) (hn : n ≤ 40) : PureGood Tryz.prog 81 [i64 n] (encF (bn (n + 1))) := by
 have h1 := baseQ_good 1 (by omega)
 have h0 := baseQ_good 0 (by omega)
 rw [encF_qc,bn_length]
 rw [show ((1 : Int) : Rat) = bq 0 by rw [bq0];rfl] at h1
 have hb1 : bn 1 = [bq 0] := rfl
 rw [encQ_sm,i64] at *
 refine good_of_lwp mix Tryz.func81 rfl (by decide) (nt := 48) rfl (rs := [.tmp 2]) rfl (nle rfl) ?_
 (repeat (first|apply zO (by decide +kernel)|apply zP (by decide +kernel)|(apply zS;(case h=>constructor<;>decide))|((first|apply l_go rfl|apply c_dec|apply zT rfl (by decide) rfl);(case hs=>(simp (disch := first|omega|exact kD rfl|exact kX rfl) only [smY,simprocAttr,bl,i64,smT];exact rfl));first|refine c_bt ?_|refine c_bf ?_|refine zq ?_|(case hg=>assumption))))
 refine w_loop (α := {m : Nat // 0 < m ∧ m ≤ n + 1}) (fun m => st 48 (lk [(0,i64 n),(2,nilL),(3,.own 0 0 m.1 4),(4,i64 m.1)]) (lkH [(0,⟨45,qc (bn m.1),false⟩)]) 1) (fun m => n + 1 - m.1) ⟨1,by omega,by omega⟩ ?_ ?_
 ·(refine Sub.heap1 2 ?_ (by simp only [smF,dg,renL,renLs,simprocAttr,bl,i64,smT];exact rfl) ?_ ?_;all_goals (first | exact dgs_plain _ | with_reducible rfl | (simp only [smF,dg,renL,renLs,simprocAttr,bl,i64,smT];done) | (simp only [smF,dg,renL,renLs,simprocAttr,bl,i64,smT]) | skip))
  rw [hb1,← qc_one]
 ·rintro ⟨m,hm0,hm⟩
  simp only [st]
  have hl := bn_length m
  by_cases hlt : m ≤ n
  ·have hs0 := bsum_zero (m + 1)
   rw [show ((0 : Int) : Rat) = bsum (m + 1) 0 by rw [hs0];rfl] at h0
   rw [show bq 0 = ((ch (m + 1) 0 : Int) : Rat) by rw [bq0,ch_zero];rfl] at h1
   (repeat (first|apply zO (by decide +kernel)|apply zP (by decide +kernel)|(apply zS;(case h=>constructor<;>decide))|((first|apply l_go rfl|apply c_dec|apply zT rfl (by decide) rfl);(case hs=>(simp (disch := first|omega|exact kD rfl|exact kX rfl) only [smY,simprocAttr,bl,i64,smT];exact rfl));first|refine c_bt ?_|refine c_bf ?_|refine zq ?_|(case hg=>assumption))))
   refine w_loop (α := {k : Nat // k ≤ m}) (fun k => st 48 (lk [(0,i64 n),(2,nilL),(3,.own 0 0 m 4),(4,i64 m),(5,.ptr 1 0),(6,.ptr 2 0),(7,i64 k.1)]) (lkH [(0,⟨45,qc (bn m),false⟩),(1,⟨45,[sg (bsum (m + 1) k.1).num,mg (bsum (m + 1) k.1).num,sg ((bsum (m + 1) k.1).den : Int),mg ((bsum (m + 1) k.1).den : Int)],false⟩),(2,⟨45,[sg (((ch (m + 1) k.1 : Int) : Rat)).num,mg (((ch (m + 1) k.1 : Int) : Rat)).num,sg ((((ch (m + 1) k.1 : Int) : Rat)).den : Int),mg ((((ch (m + 1) k.1 : Int) : Rat)).den : Int)],false⟩)]) 3) (fun k => m - k.1) ⟨0,by omega⟩ ?_ ?_
   ·(refine Sub.heapL [0,6,7] rfl (by decide) ?_ (by simp only [smL];decide) ?_ ?_;all_goals (first|(simp only [plainC,smF,dg,renL,renLs,simprocAttr,bl,i64,smT];done) | (simp only [smF,dg,renL,renLs,simprocAttr,bl,i64,smT];(repeat' apply And.intro);all_goals rfl) | (simp only [smF,dg,renL,renLs,simprocAttr,bl,i64,smT]) | skip))
    all_goals trace_state
   ·rintro ⟨k,hk⟩
    simp only [st]
    by_cases hkl : k < m
    ·have c1 := lq_ch (n := m + 1) (j := k) (by omega)
     have c2 := lq_bsum (n := m + 1) (k := k) (by omega) (by omega)
     have c3 := lq_bq k
     have c4 := lq_mul ((ch (m + 1) k : Int) : Rat) (bq k)
     have c5 : lq (Rat.divInt (((m + 1 : Nat) : Int) - (k : Int)) ((k : Int) + 1)) ≤ 3 := by
      obtain ⟨a1,a2⟩ := lq_divInt (n := ((m + 1 : Nat) : Int) - (k : Int)) (d := (k : Int) + 1) (by omega)
      have a3 : len (((m + 1 : Nat) : Int) - (k : Int)) ≤ 1 := len_pow_lt (e := 1) (by omega)
      have a4 : len ((k : Int) + 1) ≤ 1 := len_pow_lt (e := 1) (by omega)
      unfold lq
      omega
     have g0 := frac_good (((m + 1 : Nat) : Int) - (k : Int)) ((k : Int) + 1) (by omega) (by omega)
     have g1 := rqmul_good ((ch (m + 1) k : Int) : Rat) (Rat.divInt (((m + 1 : Nat) : Int) - (k : Int)) ((k : Int) + 1)) (by omega) (by omega)
     rw [chR_next (n := m + 1) (by omega)] at g1
     have g2 := rqmul_good ((ch (m + 1) k : Int) : Rat) (bq k) (by omega) (by omega)
     have g3 := rqadd_good (bsum (m + 1) k) (((ch (m + 1) k : Int) : Rat) * bq k) (by omega) (by omega)
     rw [← bsum_succ] at g3
     have e2 : (bn m).getD k 0 = bq k := bn_getD hkl
     have e3 : ((m + 1 : Nat) : Int) = (m : Int) + 1 := by omega
     rw [e3] at g0
     clear c1 c2 c3 c4 c5
     generalize ((ch (m + 1) k : Int) : Rat) * bq k = v at *
     rw [e3] at g1
     generalize Rat.divInt ((m : Int) + 1 - (k : Int)) ((k : Int) + 1) = dv at *
     simp only [encQ_sm,i64] at g0 g1 g2 g3
     (repeat (first|apply zO (by decide +kernel)|apply zP (by decide +kernel)|(apply zS;(case h=>constructor<;>decide))|((first|apply l_go rfl|apply c_dec|apply zT rfl (by decide) rfl);(case hs=>(simp (disch := first|omega|exact kD rfl|exact kX rfl) only [smY,simprocAttr,bl,i64,smT,e2];exact rfl));first|refine c_bt ?_|refine c_bf ?_|refine zq ?_|(case hg=>assumption))))
     refine ⟨⟨k + 1,by omega⟩,?_,by simp only;omega⟩
     (refine Sub.heapL [0,1,2] rfl (by decide) ?_ (by simp only [smL];decide) ?_ ?_;all_goals (first|(simp only [plainC,smF,dg,renL,renLs,simprocAttr,bl,i64,smT];done) | (simp only [smF,dg,renL,renLs,simprocAttr,bl,i64,smT];(repeat' apply And.intro);all_goals rfl) | (simp only [smF,dg,renL,renLs,simprocAttr,bl,i64,smT]) | skip))
     all_goals trace_state
    ·obtain rfl : k = m := by omega
     have c2 := lq_bsum (n := k + 1) (k := k) (by omega) (by omega)
     have g0 := frac_good (-1) ((k : Int) + 1) (by omega) (by omega)
     have c5 : lq (Rat.divInt (-1) ((k : Int) + 1)) ≤ 3 := by
      obtain ⟨a1,a2⟩ := lq_divInt (n := -1) (d := (k : Int) + 1) (by omega)
      have a3 : len (-1) ≤ 1 := len_pow_lt (e := 1) (by omega)
      have a4 : len ((k : Int) + 1) ≤ 1 := len_pow_lt (e := 1) (by omega)
      unfold lq
      omega
     have g2 := rqmul_good (bsum (k + 1) k) (Rat.divInt (-1) ((k : Int) + 1)) (by omega) (by omega)
     rw [neg_one_div,bq_step hm0 (by omega)] at g2
     generalize Rat.divInt (-1) ((k : Int) + 1) = dv at *
     simp only [encQ_sm,i64] at g0 g2
     have happ := bn_succ k
     (repeat (first|apply zO (by decide +kernel)|apply zP (by decide +kernel)|(apply zS;(case h=>constructor<;>decide))|((first|apply l_go rfl|apply c_dec|apply zT rfl (by decide) rfl);(case hs=>(simp (disch := first|omega|exact kD rfl|exact kX rfl) only [smY,simprocAttr,bl,i64,smT];exact rfl));first|refine c_bt ?_|refine c_bf ?_|refine zq ?_|(case hg=>assumption))))
     refine ⟨⟨k + 1,by omega,by omega⟩,?_,by simp only;omega⟩
     (refine Sub.heap1 13 ?_ (by simp only [smF,dg,renL,renLs,simprocAttr,bl,i64,smT];exact rfl) ?_ ?_;all_goals (first | exact dgs_plain _ | with_reducible rfl | (simp only [smF,dg,renL,renLs,simprocAttr,bl,i64,smT];done) | (simp only [smF,dg,renL,renLs,simprocAttr,bl,i64,smT]) | skip))
     rw [happ,← qc_app]
  ·obtain rfl : m = n + 1 := by omega
   (repeat (first|apply zO (by decide +kernel)|apply zP (by decide +kernel)|(apply zS;(case h=>constructor<;>decide))|((first|apply l_go rfl|apply c_dec|apply zT rfl (by decide) rfl);(case hs=>(simp (disch := first|omega|exact kD rfl|exact kX rfl) only [smY,simprocAttr,bl,i64,smT];exact rfl));first|refine c_bt ?_|refine c_bf ?_|refine zq ?_|(case hg=>assumption))))
   ((first|apply g_ret|apply g_end);case hres => (simp only [smR];simp (disch := first|omega|exact kD rfl|exact kX rfl) only [smY,simprocAttr,bl,i64,smT];exact rfl))
   simp (disch := first|omega|exact kD rfl|exact kX rfl) only [smY,simprocAttr,bl,i64,smT]
end Go.Proofs.YteecamhdbilmoaaGreatDoor
namespace Go.Proofs.YteecamhdbilmoaaGreatDoor
open Go Go.Lg Go.Num
set_option maxRecDepth 100000
set_option maxHeartbeats 4000000
attribute [local irreducible] Go.Lg.lrun Go.Lg.lwp Go.Lg.exThen Go.Lg.exBlk Go.Lg.keep Go.Lg.goodPost sg mg sS qs sv oc mC
theorem build_gen (h : Int) (a : Nat → Rat) (N : Nat) (h1 : -100 ≤ h) (hN : 1 ≤ N) (h2 : h + N ≤ 1000) (a0 : a 0 ≠ 0) (ba : ∀ i,i < N → lq (a i) ≤ 1000) : PureGood Tryz.prog 71 [i64 h,.sl N (qc (aP a N))] (.tup [.agg [i64 h,.sl N (qc (aP a N))],i64 0]) := by
 have e0 : (aP a N).getD 0 0 = a 0 := aP_get (by omega)
 have hl := aP_len a N
 have b0 := ba 0 (by omega)
 have g1 := qsign_good (a 0) (by omega)
 have es : (a 0).num.sign ≠ 0 := fun e => a0 (Rat.num_eq_zero.1 (Int.sign_eq_zero_iff_zero.1 e))
 have eb : -1 ≤ (a 0).num.sign ∧ (a 0).num.sign ≤ 1 := by
  rcases Int.sign_trichotomy (a 0).num with e | e | e <;> rw [e] <;> omega
 generalize (a 0).num.sign = sg0' at *
 clear a0
 have hmn : (if 1000 - h < (N : Int) then 1000 - h else (N : Int)) = N := if_neg (by omega)
 simp only [encQ_sm,i64] at *
 refine good_of_lwp mix Tryz.func71 rfl (by decide) (nt := 61) rfl (rs := [.cell 4 26,.tmp 5]) rfl (nle rfl) ?_
 (repeat (first|apply zO (by decide +kernel)|apply zP (by decide +kernel)|(apply zS;(case h=>constructor<;>decide))|((first|apply l_go rfl|apply c_dec|apply zT rfl (by decide) rfl);(case hs=>(simp (disch := first|omega|exact kD rfl|exact kX rfl) only [smY,simprocAttr,bl,i64,smT,smO,smM,e0,hmn,Int.sub_zero,Int.add_zero];exact rfl));first|refine c_bt ?_|refine c_bf ?_|refine zq ?_|(case hg=>assumption))))
 refine w_loop (α := Unit) (fun _ => st 61 (lk [(0,i64 h),(1,.sl N (qc (aP a N))),(4,.ptr 0 0),(6,i64 0)]) (lkH [(0,⟨26,[i64 0,nilL],false⟩)]) 1) (fun _ => 0) () ?_ ?_
 ·(refine Sub.heap1 0 ?_ (by simp only [smF,dg,renL,renLs,simprocAttr,bl,i64,smT,smO,smM,e0,hmn,Int.sub_zero,Int.add_zero];exact rfl) ?_ ?_;all_goals (first | exact dgs_plain _ | with_reducible rfl | (simp only [smF,dg,renL,renLs,simprocAttr,bl,i64,smT,smO,smM,e0,hmn,Int.sub_zero,Int.add_zero];done) | (simp only [smF,dg,renL,renLs,simprocAttr,bl,i64,smT,smO,smM,e0,hmn,Int.sub_zero,Int.add_zero]) | skip))
  all_goals (first | exact ⟨rfl,rfl⟩ | simp)
 ·rintro ⟨⟩
  simp only [st]
  (repeat (first|apply zO (by decide +kernel)|apply zP (by decide +kernel)|(apply zS;(case h=>constructor<;>decide))|((first|apply l_go rfl|apply c_dec|apply zT rfl (by decide) rfl);(case hs=>(simp (disch := first|omega|exact kD rfl|exact kX rfl) only [smY,simprocAttr,bl,i64,smT,smO,smM,e0,hmn,Int.sub_zero,Int.add_zero];exact rfl));first|refine c_bt ?_|refine c_bf ?_|refine zq ?_|(case hg=>assumption))))
  refine w_loop (α := {i : Nat // i ≤ N}) (fun i => st 61 (lk [(0,i64 h),(4,.ptr 0 0),(7,.own 1 0 i.1 4),(46,.sl N (qc (aP a N))),(47,i64 N),(48,i64 i.1)]) (lkH [(0,⟨26,[i64 0,nilL],false⟩),(1,⟨45,mC a N i.1,false⟩)]) 2) (fun i => N - i.1) ⟨0,by omega⟩ ?_ ?_
  ·(refine Sub.heapL [0,23] rfl (by decide) ?_ (by simp only [smL];decide) ?_ ?_;all_goals (first|(simp only [plainC,smF,dg,renL,renLs,simprocAttr,bl,i64,smT,smO,smM,e0,hmn,Int.sub_zero,Int.add_zero];done) | (simp only [smF,dg,renL,renLs,simprocAttr,bl,i64,smT,smO,smM,e0,hmn,Int.sub_zero,Int.add_zero];(repeat' apply And.intro);all_goals rfl) | (simp only [smF,dg,renL,renLs,simprocAttr,bl,i64,smT,smO,smM,e0,hmn,Int.sub_zero,Int.add_zero]) | skip))
   all_goals (first | done | exact ⟨trivial,rfl⟩ | simp [mC_zero a])
  ·rintro ⟨i,hi⟩
   simp only [st]
   by_cases hlt : i < N
   ·have e1 : (aP a N).getD i 0 = a i := aP_get hlt
    have hl2 := aP_len a i
    have b1 := ba i hlt
    have g2 := qnorm_good (a i) (by omega)
    have happ := aP_succ a i
    generalize hai : a i = ai at *
    simp only [encQ_sm] at g2
    (repeat (first|apply zO (by decide +kernel)|apply zP (by decide +kernel)|(apply zS;(case h=>constructor<;>decide))|((first|apply l_go rfl|apply c_dec|apply zT rfl (by decide) rfl);(case hs=>(simp (disch := first|omega|exact kD rfl|exact kX rfl) only [smY,simprocAttr,bl,i64,smT,smO,smM,e1];exact rfl));first|refine c_bt ?_|refine c_bf ?_|refine zq ?_|(case hg=>assumption))))
    refine ⟨⟨i + 1,by omega⟩,?_,by simp only;omega⟩
    (refine Sub.heapL [0,11] rfl (by decide) ?_ (by simp only [smL];decide) ?_ ?_;all_goals (first|(simp only [plainC,smF,dg,renL,renLs,simprocAttr,bl,i64,smT,smO,smM];done) | (simp only [smF,dg,renL,renLs,simprocAttr,bl,i64,smT,smO,smM];(repeat' apply And.intro);all_goals rfl) | (simp only [smF,dg,renL,renLs,simprocAttr,bl,i64,smT,smO,smM]) | skip))
    all_goals (first | done | (rw [mC_succ hai];exact ⟨trivial,rfl⟩))
   ·obtain rfl : i = N := by omega
    (repeat (first|apply zO (by decide +kernel)|apply zP (by decide +kernel)|(apply zS;(case h=>constructor<;>decide))|((first|apply l_go rfl|apply c_dec|apply zT rfl (by decide) rfl);(case hs=>(simp (disch := first|omega|exact kD rfl|exact kX rfl) only [smY,simprocAttr,bl,i64,smT,smO,smM];exact rfl));first|refine c_bt ?_|refine c_bf ?_|refine zq ?_|(case hg=>assumption))))
    ((first|apply g_ret|apply g_end);case hres => (simp only [smR];simp (disch := first|omega|exact kD rfl|exact kX rfl) only [smY,simprocAttr,bl,i64,smT,smO,smM];exact rfl))
    simp (disch := first|omega|exact kD rfl|exact kX rfl) only [smY,simprocAttr,bl,i64,smT,smO,smM]
end Go.Proofs.YteecamhdbilmoaaGreatDoor
namespace Go.Proofs.YteecamhdbilmoaaGreatDoor
open Go Go.Lg Go.Num
set_option maxRecDepth 100000
set_option maxHeartbeats 8000000
attribute [local irreducible] Go.Lg.lrun Go.Lg.lwp Go.Lg.exThen Go.Lg.exBlk Go.Lg.keep Go.Lg.goodPost sg mg sS qs sv oc mC dc
end Go.Proofs.YteecamhdbilmoaaGreatDoor
namespace Go.Proofs.YteecamhdbilmoaaGreatDoor
open Go Go.Lg Go.Num
set_option maxRecDepth 100000
set_option maxHeartbeats 8000000
attribute [local irreducible] Go.Lg.lrun Go.Lg.lwp Go.Lg.exThen Go.Lg.exBlk Go.Lg.keep Go.Lg.goodPost sg mg sS qs sv oc mC dc
theorem rzero_good (q : Rat) (hq : lq q ≤ 1000) (h : q.num ≠ 0) : PureGood Tryz.prog 109 [encQ q] (bl false) := by
 have r1 := rqnorm_good q (by omega)
 have hl : (digs q.num.natAbs).length ≠ 0 := by
  intro e
  have h2 := digs_eq_nil.1 (List.eq_nil_of_length_eq_zero e)
  omega
 have hl2 : (digs q.num.natAbs).length ≤ 1000 := by unfold lq len at hq;omega
 simp only [encQ_sm] at *
 refine good_of_lwp mix Tryz.func109 rfl (by decide) (nt := 9) rfl (rs := [.tmp 2]) rfl (nle rfl) ?_
 (repeat (first|apply zO (by decide +kernel)|apply zP (by decide +kernel)|(apply zS;(case h=>constructor<;>decide))|((first|apply l_go rfl|apply c_dec|apply zT rfl (by decide) rfl);(case hs=>(simp (disch := first|omega|exact kD rfl|exact kX rfl) only [smY,simprocAttr,bl,i64,smT,lenL_mg];exact rfl));first|refine c_bt ?_|refine c_bf ?_|refine zq ?_|(case hg=>assumption))))
 ((first|apply g_ret|apply g_end);case hres => (simp only [smR];simp (disch := first|omega|exact kD rfl|exact kX rfl) only [smY,simprocAttr,bl,i64,smT,lenL_mg];exact rfl))
 simp (disch := first|omega|exact kD rfl|exact kX rfl) only [smY,simprocAttr,bl,i64,smT,lenL_mg]
end Go.Proofs.YteecamhdbilmoaaGreatDoor
namespace Go.Proofs.YteecamhdbilmoaaGreatDoor
open Go Go.Lg Go.Num
set_option maxRecDepth 100000
set_option maxHeartbeats 8000000
attribute [local irreducible] Go.Lg.lrun Go.Lg.lwp Go.Lg.exThen Go.Lg.exBlk Go.Lg.keep Go.Lg.goodPost sg mg oc mC twP tw bq kr chi
theorem raised_good (d N : Nat) (hd1 : 1 ≤ d) (hd : d ≤ 1000) (hN : N ≤ 40) : PureGood Tryz.prog 21 [encI (d : Int),i64 N] (encI ((d : Int) ^ N)) := by
 have r1 := rof1_good
 have L : ∀ e,e ≤ 120 → len ((d : Int) ^ e) ≤ 40 := by
  intro e he
  refine len_at (e := 40) ?_
  rw [Int.natAbs_pow,Int.natAbs_natCast]
  exact Nat.lt_of_le_of_lt (Nat.le_trans (Nat.pow_le_pow_left hd e) (Nat.pow_le_pow_right (by omega) he)) (by decide +kernel)
 have e0 : encI (1 : Int) = encI ((d : Int) ^ 0) := by rw [Int.pow_zero]
 have e1 : encI (d : Int) = encI ((d : Int) ^ 1) := by rw [Int.pow_succ,Int.pow_zero,Int.one_mul]
 have M : ∀ e f,e ≤ 120 → f ≤ 120 → PureGood Tryz.prog 34 [encI ((d : Int) ^ e),encI ((d : Int) ^ f)] (encI ((d : Int) ^ (e + f))) := by
  intro e f he hf
  have := rmul_good ((d : Int) ^ e) ((d : Int) ^ f) (Nat.le_trans (L e he) (by omega)) (Nat.le_trans (L f hf) (by omega))
  rwa [← Int.pow_add] at this
 rw [e1]
 rw [e0] at r1
 clear e0 e1 L
 generalize hP : (fun e : Nat => (d : Int) ^ e) = P at *
 have hP' : ∀ e,(d : Int) ^ e = P e := fun e => by rw [← hP]
 simp only [hP'] at M r1 ⊢
 clear hP hP'
 simp only [encI_sm,i64] at *
 refine good_of_lwp mix Tryz.func21 rfl (by decide) (nt := 23) rfl (rs := [.cell 4 43]) rfl (nle rfl) ?_
 (repeat (first|apply zO (by decide +kernel)|apply zP (by decide +kernel)|(apply zS;(case h=>constructor<;>decide))|((first|apply l_go rfl|apply c_dec|apply zT rfl (by decide) rfl);(case hs=>(simp (disch := first|omega|exact kD rfl|exact kX rfl) only [smY,simprocAttr,bl,i64,smT,smO];exact rfl));first|refine c_bt ?_|refine c_bf ?_|refine zq ?_|(case hg=>assumption))))
 refine w_loop (α := {p : Nat × Nat × Nat // p.1 + p.2.1 * p.2.2 = N ∧ p.2.1 ≤ 41 ∧ p.2.2 ≤ 40}) (fun p => st 23 (lk [(1,i64 p.1.2.2),(2,.ptr 0 0),(4,.ptr 1 0),(5,.ptr 2 0)]) (lkH [(0,⟨43,[sg (P p.1.2.1),mg (P p.1.2.1)],false⟩),(1,⟨43,[bl false,.lit (.slice none 0 0)],false⟩),(2,⟨43,[sg (P p.1.1),mg (P p.1.1)],false⟩)]) 3) (fun p => p.1.2.2) ⟨(0,1,N),by simp,by simp,hN⟩ ?_ ?_
 ·(refine Sub.heapL [0,1,3] rfl (by decide) ?_ (by simp only [smL];decide) ?_ ?_;all_goals (first|(simp only [plainC,smF,dg,renL,renLs,simprocAttr,bl,i64,smT,smO];done) | (simp only [smF,dg,renL,renLs,simprocAttr,bl,i64,smT,smO];(repeat' apply And.intro);all_goals rfl) | (simp only [smF,dg,renL,renLs,simprocAttr,bl,i64,smT,smO]) | skip))
  all_goals (first | done | exact ⟨trivial,rfl,rfl⟩)
 ·rintro ⟨⟨e,f,n⟩,h1,h2,h3⟩
  simp only at h1 h2 h3
  simp only [st]
  by_cases hn : n = 0
  ·subst hn
   obtain rfl : e = N := by simpa using h1
   (repeat (first|apply zO (by decide +kernel)|apply zP (by decide +kernel)|(apply zS;(case h=>constructor<;>decide))|((first|apply l_go rfl|apply c_dec|apply zT rfl (by decide) rfl);(case hs=>(simp (disch := first|omega|exact kD rfl|exact kX rfl) only [smY,simprocAttr,bl,i64,smT,smO];exact rfl));first|refine c_bt ?_|refine c_bf ?_|refine zq ?_|(case hg=>assumption))))
   ((first|apply g_ret|apply g_end);case hres => (simp only [smR];simp (disch := first|omega|exact kD rfl|exact kX rfl) only [smY,simprocAttr,bl,i64,smT,smO];exact rfl))
   simp (disch := first|omega|exact kD rfl|exact kX rfl) only [smY,simprocAttr,bl,i64,smT,smO]
  ·have hfn : f ≤ f * n := Nat.le_mul_of_pos_right f (by omega)
   have m1 := M e f (by omega) (by omega)
   have m2 := M f f (by omega) (by omega)
   have hlt : n / 2 < n := Nat.div_lt_self (by omega) (by omega)
   by_cases ho : n % 2 = 1
   ·by_cases hz : n / 2 = 0
    ·obtain rfl : n = 1 := by omega
     (repeat (first|apply zO (by decide +kernel)|apply zP (by decide +kernel)|(apply zS;(case h=>constructor<;>decide))|((first|apply l_go rfl|apply c_dec|apply zT rfl (by decide) rfl);(case hs=>(simp (disch := first|omega|exact kD rfl|exact kX rfl) only [smY,simprocAttr,bl,i64,smT,smO];exact rfl));first|refine c_bt ?_|refine c_bf ?_|refine zq ?_|(case hg=>assumption))))
     refine ⟨⟨(e + f,f,0),by simp only;omega,by simp only;omega,by simp only;omega⟩,?_,by simp only;omega⟩
     (refine Sub.heapL [0,1,2] rfl (by decide) ?_ (by simp only [smL];decide) ?_ ?_;all_goals (first|(simp only [plainC,smF,dg,renL,renLs,simprocAttr,bl,i64,smT,smO];done) | (simp only [smF,dg,renL,renLs,simprocAttr,bl,i64,smT,smO];(repeat' apply And.intro);all_goals rfl) | (simp only [smF,dg,renL,renLs,simprocAttr,bl,i64,smT,smO]) | skip))
     all_goals (first | done | exact ⟨rfl,rfl⟩ | exact ⟨trivial,rfl,rfl⟩ | simp)
    ·have hk : f * n = f + (f + f) * (n / 2) := by
      conv => lhs;rw [show n = 1 + 2 * (n / 2) by omega]
      rw [Nat.mul_add,Nat.mul_one,Nat.add_mul,← Nat.mul_assoc,Nat.mul_comm f 2,Nat.mul_assoc,Nat.two_mul]
     have h4 : f + f ≤ (f + f) * (n / 2) := Nat.le_mul_of_pos_right _ (by omega)
     (repeat (first|apply zO (by decide +kernel)|apply zP (by decide +kernel)|(apply zS;(case h=>constructor<;>decide))|((first|apply l_go rfl|apply c_dec|apply zT rfl (by decide) rfl);(case hs=>(simp (disch := first|omega|exact kD rfl|exact kX rfl) only [smY,simprocAttr,bl,i64,smT,smO];exact rfl));first|refine c_bt ?_|refine c_bf ?_|refine zq ?_|(case hg=>assumption))))
     refine ⟨⟨(e + f,f + f,n / 2),by simp only;omega,by simp only;omega,by simp only;omega⟩,?_,hlt⟩
     (refine Sub.heapL [0,1,2] rfl (by decide) ?_ (by simp only [smL];decide) ?_ ?_;all_goals (first|(simp only [plainC,smF,dg,renL,renLs,simprocAttr,bl,i64,smT,smO];done) | (simp only [smF,dg,renL,renLs,simprocAttr,bl,i64,smT,smO];(repeat' apply And.intro);all_goals rfl) | (simp only [smF,dg,renL,renLs,simprocAttr,bl,i64,smT,smO]) | skip))
     all_goals (first | done | exact ⟨rfl,rfl⟩ | exact ⟨trivial,rfl,rfl⟩ | simp)
   ·have hk : f * n = (f + f) * (n / 2) := by
     conv => lhs;rw [show n = 2 * (n / 2) by omega]
     rw [Nat.add_mul,← Nat.mul_assoc,Nat.mul_comm f 2,Nat.mul_assoc,Nat.two_mul]
    have hz : n / 2 ≠ 0 := by omega
    have h4 : f + f ≤ (f + f) * (n / 2) := Nat.le_mul_of_pos_right _ (by omega)
    (repeat (first|apply zO (by decide +kernel)|apply zP (by decide +kernel)|(apply zS;(case h=>constructor<;>decide))|((first|apply l_go rfl|apply c_dec|apply zT rfl (by decide) rfl);(case hs=>(simp (disch := first|omega|exact kD rfl|exact kX rfl) only [smY,simprocAttr,bl,i64,smT,smO];exact rfl));first|refine c_bt ?_|refine c_bf ?_|refine zq ?_|(case hg=>assumption))))
    refine ⟨⟨(e,f + f,n / 2),by simp only;omega,by simp only;omega,by simp only;omega⟩,?_,hlt⟩
    (refine Sub.heapL [0,1,2] rfl (by decide) ?_ (by simp only [smL];decide) ?_ ?_;all_goals (first|(simp only [plainC,smF,dg,renL,renLs,simprocAttr,bl,i64,smT,smO];done) | (simp only [smF,dg,renL,renLs,simprocAttr,bl,i64,smT,smO];(repeat' apply And.intro);all_goals rfl) | (simp only [smF,dg,renL,renLs,simprocAttr,bl,i64,smT,smO]) | skip))
    all_goals (first | done | exact ⟨rfl,rfl⟩ | exact ⟨trivial,rfl,rfl⟩ | simp)
theorem rsum34_good (k : Nat) (d1 d2 : Int) (n : Nat) (hd1 : d1 ∈ fdL) (hd2 : d2 ∈ fdL) (hk : k ≤ 40) (hn1 : 1 ≤ n) (hn : n ≤ 1000) : PureGood Tryz.prog 62 [i64 k,i64 d1,i64 d2,i64 n] (encI (tw k d1 d2 n)) := by
 have k0 : PureGood Tryz.prog 22 [i64 0] (encI (twP k d1 d2 n 0)) := by
  have e : twP k d1 d2 n 0 = 0 := by unfold twP;rfl
  rw [e]
  exact baseZ_good 0 (by omega)
 have hl : tw k d1 d2 n = twP k d1 d2 n n := by unfold tw;rfl
 rw [hl]
 simp only [encI_sm,i64] at *
 refine good_of_lwp mix Tryz.func62 rfl (by decide) (nt := 39) rfl (rs := [.cell 8 43]) rfl (nle rfl) ?_
 (repeat (first|apply zO (by decide +kernel)|apply zP (by decide +kernel)|(apply zS;(case h=>constructor<;>decide))|((first|apply l_go rfl|apply c_dec|apply zT rfl (by decide) rfl);(case hs=>(simp (disch := first|omega|exact kD rfl|exact kX rfl) only [smY,simprocAttr,bl,i64,smT,smO];exact rfl));first|refine c_bt ?_|refine c_bf ?_|refine zq ?_|(case hg=>assumption))))
 refine w_loop (α := {j : Nat // j ≤ n}) (fun j => st 39 (lk [(0,i64 k),(1,i64 d1),(2,i64 d2),(3,i64 n),(8,.ptr 0 0),(9,.ptr 1 0),(10,i64 (j.1 + 1 : Nat))]) (lkH [(0,⟨43,[bl false,.lit (.slice none 0 0)],false⟩),(1,⟨43,[sg (twP k d1 d2 n j.1),mg (twP k d1 d2 n j.1)],false⟩)]) 2) (fun j => n - j.1) ⟨0,by omega⟩ ?_ ?_
 ·(refine Sub.heapL [0,2] rfl (by decide) ?_ (by simp only [smL];decide) ?_ ?_;all_goals (first|(simp only [plainC,smF,dg,renL,renLs,simprocAttr,bl,i64,smT,smO];done) | (simp only [smF,dg,renL,renLs,simprocAttr,bl,i64,smT,smO];(repeat' apply And.intro);all_goals rfl) | (simp only [smF,dg,renL,renLs,simprocAttr,bl,i64,smT,smO]) | skip))
  all_goals (first | done | exact ⟨rfl,rfl⟩ | exact ⟨trivial,rfl,rfl⟩ | simp)
 ·rintro ⟨j,hj⟩
  simp only [st]
  by_cases hjn : j < n
  ·by_cases hdv : n % (j + 1) = 0
   ·have hq1 : 1 ≤ n / (j + 1) := Nat.div_pos (Nat.le_of_dvd hn1 (Nat.dvd_of_mod_eq_zero hdv)) (by omega)
    have hq2 : n / (j + 1) ≤ n := Nat.div_le_self _ _
    have r1 := rkron_good d1 hd1 (n / (j + 1)) hq1 (by omega)
    have r2 := rkron_good d2 hd2 (j + 1) (by omega) (by omega)
    have v1 := isS_bd (kr_val hd1 hq1 (by omega)).2
    have v2 := isS_bd (kr_val hd2 (n := j + 1) (by omega) (by omega)).2
    have hv := chi_val hd1 hd2 hn (j := j + 1) (by omega) (by omega)
    have hce : kr d1 (n / (j + 1)) * kr d2 (j + 1) = chi d1 d2 n (j + 1) := by unfold chi;rfl
    have r0 := baseZ_good ((j + 1 : Nat) : Int) (by omega)
    have r3 := raised_good (j + 1) k (by omega) (by omega) hk
    have b1 := len_dk' (d := j + 1) (k := k) (by omega) hk
    have b2 := len_twP (k := k) hd1 hd2 hn hk (j := j) (by omega)
    have es : twP k d1 d2 n (j + 1) = twP k d1 d2 n j + chi d1 d2 n (j + 1) * ((j + 1 : Nat) : Int) ^ k := by rw [twP_succ,if_pos hdv]
    generalize chi d1 d2 n (j + 1) = c at *
    have rz := baseZ_good c (by omega)
    have lc : len c ≤ 1 := len_pow_lt (e := 1) (by omega)
    have r5 := rmul_good c (((j + 1 : Nat) : Int) ^ k) (by omega) (by omega)
    have lm := len_mul c (((j + 1 : Nat) : Int) ^ k)
    have r4 := radd_good (twP k d1 d2 n j) (c * ((j + 1 : Nat) : Int) ^ k) (by omega) (by omega)
    rw [← es] at r4
    clear es lm
    generalize ((j + 1 : Nat) : Int) ^ k = p at *
    generalize hq : n / (j + 1) = q at *
    generalize kr d1 q = u at *
    generalize kr d2 (j + 1) = w at *
    generalize c * p = cp at *
    simp only [encI_sm,i64] at r0 r1 r2 r3 r4 r5 rz
    (repeat (first|apply zO (by decide +kernel)|apply zP (by decide +kernel)|(apply zS;(case h=>constructor<;>decide))|((first|apply l_go rfl|apply c_dec|apply zT rfl (by decide) rfl);(case hs=>(simp (disch := first|omega|exact kD rfl|exact kX rfl) only [smY,simprocAttr,bl,i64,smT,smO,hq,hce];exact rfl));first|refine c_bt ?_|refine c_bf ?_|refine zq ?_|(case hg=>assumption))))
    refine ⟨⟨j + 1,by omega⟩,?_,by simp only;omega⟩
    (refine Sub.heapL [0,1] rfl (by decide) ?_ (by simp only [smL];decide) ?_ ?_;all_goals (first|(simp only [plainC,smF,dg,renL,renLs,simprocAttr,bl,i64,smT,smO];done) | (simp only [smF,dg,renL,renLs,simprocAttr,bl,i64,smT,smO];(repeat' apply And.intro);all_goals rfl) | (simp only [smF,dg,renL,renLs,simprocAttr,bl,i64,smT,smO]) | skip))
    all_goals (first | done | exact ⟨rfl,rfl⟩ | exact ⟨trivial,rfl,rfl⟩ | simp)
   ·have es : twP k d1 d2 n (j + 1) = twP k d1 d2 n j := twP_no hdv
    (repeat (first|apply zO (by decide +kernel)|apply zP (by decide +kernel)|(apply zS;(case h=>constructor<;>decide))|((first|apply l_go rfl|apply c_dec|apply zT rfl (by decide) rfl);(case hs=>(simp (disch := first|omega|exact kD rfl|exact kX rfl) only [smY,simprocAttr,bl,i64,smT,smO];exact rfl));first|refine c_bt ?_|refine c_bf ?_|refine zq ?_|(case hg=>assumption))))
    refine ⟨⟨j + 1,by omega⟩,?_,by simp only;omega⟩
    (refine Sub.heapL [0,1] rfl (by decide) ?_ (by simp only [smL];decide) ?_ ?_;all_goals (first|(simp only [plainC,smF,dg,renL,renLs,simprocAttr,bl,i64,smT,smO];done) | (simp only [smF,dg,renL,renLs,simprocAttr,bl,i64,smT,smO];(repeat' apply And.intro);all_goals rfl) | (simp only [smF,dg,renL,renLs,simprocAttr,bl,i64,smT,smO]) | skip))
    all_goals (first | done | exact ⟨rfl,rfl⟩ | exact ⟨trivial,rfl,rfl⟩ | simp [es])
  ·obtain rfl : j = n := by omega
   (repeat (first|apply zO (by decide +kernel)|apply zP (by decide +kernel)|(apply zS;(case h=>constructor<;>decide))|((first|apply l_go rfl|apply c_dec|apply zT rfl (by decide) rfl);(case hs=>(simp (disch := first|omega|exact kD rfl|exact kX rfl) only [smY,simprocAttr,bl,i64,smT,smO];exact rfl));first|refine c_bt ?_|refine c_bf ?_|refine zq ?_|(case hg=>assumption))))
   ((first|apply g_ret|apply g_end);case hres => (simp only [smR];simp (disch := first|omega|exact kD rfl|exact kX rfl) only [smY,simprocAttr,bl,i64,smT,smO];exact rfl))
   simp (disch := first|omega|exact kD rfl|exact kX rfl) only [smY,simprocAttr,bl,i64,smT,smO]
end Go.Proofs.YteecamhdbilmoaaGreatDoor
namespace Go.Proofs.YteecamhdbilmoaaGreatDoor
open Go Go.Lg Go.Num
set_option maxRecDepth 100000
set_option maxHeartbeats 4000000
attribute [local irreducible] Go.Lg.lrun Go.Lg.lwp Go.Lg.exThen Go.Lg.exBlk Go.Lg.keep Go.Lg.goodPost sg mg bq bpL horQ trm qsum kr bsum ch hrB rqs
theorem rpoly34_good (k : Nat) (hk : k ≤ 40) (x : Rat) (hx : lq x ≤ 1000) : PureGood Tryz.prog 83 [i64 k,.sl (k + 1) (qc (bn (k + 1))),encQ x] (encQ (horQ (bpL k) x)) := by
 have hb := bn_length (k + 1)
 have h1 := baseQ_good 1 (by omega)
 have h0 := baseQ_good 0 (by omega)
 rw [show ((0 : Int) : Rat) = hrB k 0 x by rw [hrB_zero];rfl] at h0
 rw [show ((1 : Int) : Rat) = ((ch k 0 : Int) : Rat) by rw [ch_zero];rfl] at h1
 rw [← hrB_all]
 have step : ∀ j, j ≤ k → PureGood Tryz.prog 25 [encQ (hrB k j x), encQ x] (encQ (hrB k j x * x)) ∧
   PureGood Tryz.prog 25 [encQ ((ch k j : Int) : Rat),encQ (bq j)] (encQ (((ch k j : Int) : Rat) * bq j)) ∧
   PureGood Tryz.prog 23 [encQ (hrB k j x * x),encQ (((ch k j : Int) : Rat) * bq j)] (encQ (hrB k (j + 1) x)) ∧
   PureGood Tryz.prog 38 [i64 ((k : Int) - j),i64 ((j : Int) + 1)] (encQ (Rat.divInt ((k : Int) - j) ((j : Int) + 1))) ∧
   PureGood Tryz.prog 25 [encQ ((ch k j : Int) : Rat),encQ (Rat.divInt ((k : Int) - j) ((j : Int) + 1))] (encQ ((ch k (j + 1) : Int) : Rat)) := by
  intro j hj
  have c1 := lq_ch (n := k) (j := j) (by omega)
  have c2 := lq_hrB (k := k) (j := j) hx (by omega) hk
  have c3 := lq_bq j
  have c4 := lq_mul ((ch k j : Int) : Rat) (bq j)
  have c6 := lq_mul (hrB k j x) x
  have c5 : lq (Rat.divInt ((k : Int) - (j : Int)) ((j : Int) + 1)) ≤ 3 := by
   obtain ⟨a1,a2⟩ := lq_divInt (n := (k : Int) - (j : Int)) (d := (j : Int) + 1) (by omega)
   have a3 : len ((k : Int) - (j : Int)) ≤ 1 := len_pow_lt (e := 1) (by omega)
   have a4 : len ((j : Int) + 1) ≤ 1 := len_pow_lt (e := 1) (by omega)
   unfold lq
   omega
  have g1 := rqmul_good ((ch k j : Int) : Rat) (Rat.divInt ((k : Int) - (j : Int)) ((j : Int) + 1)) (by omega) (by omega)
  rw [chR_next (n := k) hj] at g1
  refine ⟨rqmul_good _ _ (by omega) (by omega),rqmul_good _ _ (by omega) (by omega),?_,frac_good _ _ (by omega) (by omega),g1⟩
  rw [hrB_succ hk hj]
  exact rqadd_good _ _ (by omega) (by omega)
 simp only [encQ_sm,i64] at h0 h1 step ⊢
 refine good_of_lwp mix Tryz.func83 rfl (by decide) (nt := 36) rfl (rs := [.cell 6 45]) rfl (nle rfl) ?_
 (repeat (first|apply zO (by decide +kernel)|apply zP (by decide +kernel)|(apply zS;(case h=>constructor<;>decide))|((first|apply l_go rfl|apply c_dec|apply zT rfl (by decide) rfl);(case hs=>(simp (disch := first|omega|exact kD rfl|exact kX rfl) only [smY,simprocAttr,bl,i64,smT];exact rfl));first|refine c_bt ?_|refine c_bf ?_|refine zq ?_|(case hg=>assumption))))
 refine w_loop (α := {j : Nat // j ≤ k + 1}) (fun j => st 36 (lk [(0,i64 k),(1,.sl (k + 1) (qc (bn (k + 1)))),(5,.ptr 0 0),(6,.ptr 1 0),(7,.ptr 2 0),(8,.ptr 3 0),(9,i64 j.1)]) (lkH [(0,⟨45,[sg (x).num,mg (x).num,sg ((x).den : Int),mg ((x).den : Int)],false⟩),(1,⟨45,[bl false,.lit (.slice none 0 0),bl false,.lit (.slice none 0 0)],false⟩),(2,⟨45,[sg (hrB k j.1 x).num,mg (hrB k j.1 x).num,sg ((hrB k j.1 x).den : Int),mg ((hrB k j.1 x).den : Int)],false⟩),(3,⟨45,[sg (((ch k j.1 : Int) : Rat)).num,mg (((ch k j.1 : Int) : Rat)).num,sg ((((ch k j.1 : Int) : Rat)).den : Int),mg ((((ch k j.1 : Int) : Rat)).den : Int)],false⟩)]) 4) (fun j => k + 1 - j.1) ⟨0,by omega⟩ ?_ ?_
 ·(refine Sub.heapL [0,1,4,5] rfl (by decide) ?_ (by simp only [smL];decide) ?_ ?_;all_goals (first|(simp only [plainC,smF,dg,renL,renLs,simprocAttr,bl,i64,smT];done) | (simp only [smF,dg,renL,renLs,simprocAttr,bl,i64,smT];(repeat' apply And.intro);all_goals rfl) | (simp only [smF,dg,renL,renLs,simprocAttr,bl,i64,smT]) | skip))
  all_goals (first | done | ((repeat' apply And.intro);all_goals (first | trivial | rfl)))
 ·rintro ⟨j,hj⟩
  simp only [st]
  by_cases hlt : j ≤ k
  ·obtain ⟨w1,w2,w3,w4,w5⟩ := step j hlt
   have e2 : (bn (k + 1)).getD j 0 = bq j := bn_getD (by omega)
   generalize hrB k j x * x = v at *
   generalize ((ch k j : Int) : Rat) * bq j = u at *
   generalize Rat.divInt ((k : Int) - j) ((j : Int) + 1) = dv at *
   (repeat (first|apply zO (by decide +kernel)|apply zP (by decide +kernel)|(apply zS;(case h=>constructor<;>decide))|((first|apply l_go rfl|apply c_dec|apply zT rfl (by decide) rfl);(case hs=>(simp (disch := first|omega|exact kD rfl|exact kX rfl) only [smY,simprocAttr,bl,i64,smT,e2];exact rfl));first|refine c_bt ?_|refine c_bf ?_|refine zq ?_|(case hg=>assumption))))
   refine ⟨⟨j + 1,by omega⟩,?_,by simp only;omega⟩
   (refine Sub.heapL [0,1,2,3] rfl (by decide) ?_ (by simp only [smL];decide) ?_ ?_;all_goals (first|(simp only [plainC,smF,dg,renL,renLs,simprocAttr,bl,i64,smT];done) | (simp only [smF,dg,renL,renLs,simprocAttr,bl,i64,smT];(repeat' apply And.intro);all_goals rfl) | (simp only [smF,dg,renL,renLs,simprocAttr,bl,i64,smT]) | skip))
   all_goals (first | done | ((repeat' apply And.intro);all_goals (first | trivial | rfl)))
  ·obtain rfl : j = k + 1 := by omega
   (repeat (first|apply zO (by decide +kernel)|apply zP (by decide +kernel)|(apply zS;(case h=>constructor<;>decide))|((first|apply l_go rfl|apply c_dec|apply zT rfl (by decide) rfl);(case hs=>(simp (disch := first|omega|exact kD rfl|exact kX rfl) only [smY,simprocAttr,bl,i64,smT];exact rfl));first|refine c_bt ?_|refine c_bf ?_|refine zq ?_|(case hg=>assumption))))
   ((first|apply g_ret|apply g_end);case hres => (simp only [smR];simp (disch := first|omega|exact kD rfl|exact kX rfl) only [smY,simprocAttr,bl,i64,smT];exact rfl))
   simp (disch := first|omega|exact kD rfl|exact kX rfl) only [smY,simprocAttr,bl,i64,smT]
theorem gen34_good {d : Int} (hd : d ∈ fdL) (k : Nat) (hk1 : 1 ≤ k) (hk : k ≤ 40) : PureGood Tryz.prog 47 [i64 k,i64 d] (encQ (gB k d)) := by
 obtain ⟨hd0,hdr⟩ := fd_rng hd
 have h1 := rnum34_good k hk
 have h3 := baseQ_good 0 (by omega)
 rw [show ((0 : Int) : Rat) = rqs (fun j => kr d (j + 1)) k d.natAbs 0 by unfold rqs;rfl] at h3
 have hmx : (if 0 - d > d then 0 - d else d) = (d.natAbs : Int) := by split <;> omega
 have hz := baseZ_good (d.natAbs : Int) (by omega)
 have hrd := raised_good d.natAbs (k - 1) (by omega) (by omega) (by omega)
 have hLp : len ((d.natAbs : Int) ^ (k - 1)) ≤ 40 := by
  have l2 := len_pow (d.natAbs : Int) (k - 1)
  have l3 : len (d.natAbs : Int) ≤ 1 := len_pow_lt (e := 1) (by omega)
  have l4 : (k - 1) * len (d.natAbs : Int) ≤ (k - 1) * 1 := Nat.mul_le_mul_left _ l3
  omega
 have hwh := rwhole_good ((d.natAbs : Int) ^ (k - 1)) (by omega)
 have hLq : lq ((((d.natAbs : Int) ^ (k - 1) : Int)) : Rat) ≤ 41 := by rw [lq_int];omega
 have hq := fun n (hn : n ≤ d.natAbs) => lq_qsum (c := fun j => kr d (j + 1)) (k := k) (f := d.natAbs) (fun j hj => (kr_val hd (n := j + 1) (by omega) (by omega)).2) hk (by omega) (by omega) (n := n) hn
 have hqd : ∀ n,n ≤ d.natAbs → lq (rqs (fun j => kr d (j + 1)) k d.natAbs n) ≤ 441 := by
  intro n hn
  rw [rqs_eq (by omega)]
  have a1 := lq_div (qsum (fun j => kr d (j + 1)) k d.natAbs n) (((d.natAbs : Int) : Rat) ^ (k - 1)) (powQ_ne (by omega))
  rw [← Rat.intCast_pow] at a1 ⊢
  have := hq n hn
  omega
 have hml := rqmul_good (rqs (fun j => kr d (j + 1)) k d.natAbs d.natAbs) ((((d.natAbs : Int) ^ (k - 1) : Int)) : Rat) (by have := hqd _ (Nat.le_refl _);omega) (by omega)
 rw [show rqs (fun j => kr d (j + 1)) k d.natAbs d.natAbs * ((((d.natAbs : Int) ^ (k - 1) : Int)) : Rat) = gB k d by rw [Rat.intCast_pow,rqs_mul];rfl] at hml
 have step : ∀ j, j < d.natAbs → PureGood Tryz.prog 82 [i64 d, i64 ((j + 1 : Nat) : Int)] (i64 (kr d (j + 1))) ∧ PureGood Tryz.prog 24 [i64 (kr d (j + 1))] (encQ (kr d (j + 1))) ∧
   PureGood Tryz.prog 38 [i64 ((j + 1 : Nat) : Int),i64 (d.natAbs : Int)] (encQ (Rat.divInt ((j + 1 : Nat) : Int) (d.natAbs : Int))) ∧
   PureGood Tryz.prog 83 [i64 k,.sl (k + 1) (qc (bn (k + 1))),encQ (Rat.divInt ((j + 1 : Nat) : Int) (d.natAbs : Int))] (encQ (horQ (bpL k) (Rat.divInt ((j + 1 : Nat) : Int) (d.natAbs : Int)))) ∧
   PureGood Tryz.prog 25 [encQ (kr d (j + 1)),encQ (horQ (bpL k) (Rat.divInt ((j + 1 : Nat) : Int) (d.natAbs : Int)))] (encQ ((kr d (j + 1) : Rat) * horQ (bpL k) (Rat.divInt ((j + 1 : Nat) : Int) (d.natAbs : Int)))) ∧
   PureGood Tryz.prog 23 [encQ (rqs (fun j => kr d (j + 1)) k d.natAbs j),encQ ((kr d (j + 1) : Rat) * horQ (bpL k) (Rat.divInt ((j + 1 : Nat) : Int) (d.natAbs : Int)))] (encQ (rqs (fun j => kr d (j + 1)) k d.natAbs (j + 1))) ∧ (kr d (j + 1) = 1 ∨ kr d (j + 1) = 0 ∨ kr d (j + 1) = -1) ∧
   (kr d (j + 1) = 0 → rqs (fun j => kr d (j + 1)) k d.natAbs (j + 1) = rqs (fun j => kr d (j + 1)) k d.natAbs j) := by
  intro j hj
  have a1 := rkron_good d hd (j + 1) (by omega) (by omega)
  have a3 := (kr_val hd (n := j + 1) (by omega) (by omega)).2
  have la : len ((j + 1 : Nat) : Int) ≤ 1 := len_pow_lt (e := 1) (by omega)
  have lf : len (d.natAbs : Int) ≤ 1 := len_pow_lt (e := 1) (by omega)
  have ld := lq_divInt (n := ((j + 1 : Nat) : Int)) (d := (d.natAbs : Int)) (by omega)
  have ld2 : lq (Rat.divInt ((j + 1 : Nat) : Int) (d.natAbs : Int)) ≤ 2 := by unfold lq;omega
  have lh := lq_hrB (k := k) (j := k + 1) ld2 (by omega) hk
  rw [hrB_all] at lh
  have lk : lq (kr d (j + 1) : Rat) ≤ 2 := by
   rw [lq_int]
   have := len_pow_lt (a := kr d (j + 1)) (e := 1) (by omega)
   omega
  have lm := lq_mul (kr d (j + 1) : Rat) (horQ (bpL k) (Rat.divInt ((j + 1 : Nat) : Int) (d.natAbs : Int)))
  have lr := hqd j (by omega)
  have es : rqs (fun j => kr d (j + 1)) k d.natAbs (j + 1) = rqs (fun j => kr d (j + 1)) k d.natAbs j + (kr d (j + 1) : Rat) * horQ (bpL k) (Rat.divInt ((j + 1 : Nat) : Int) (d.natAbs : Int)) := by
   conv => lhs;unfold rqs
  refine ⟨a1,baseQ_good _ (by omega),frac_good _ _ (by omega) (by omega),rpoly34_good k hk _ (by omega),rqmul_good _ _ (by omega) (by omega),?_,a3,?_⟩
  ·rw [es]
   exact rqadd_good _ _ (by omega) (by omega)
  ·intro h0
   rw [es,h0]
   show _ + (0 : Rat) * _ = _
   rw [Rat.zero_mul,Rat.add_zero]
 have hk2 : ((k - 1 : Nat) : Int) = (k : Int) - 1 := by omega
 rw [hk2] at hrd
 clear hqd hq hLq hLp
 generalize gB k d = G at *
 generalize hf : d.natAbs = f at *
 generalize (fun j => kr d (j + 1)) = C at *
 have hb := bn_length (k + 1)
 rw [encF_qc,hb] at h1
 generalize ((((f : Int) ^ (k - 1) : Int)) : Rat) = P at *
 generalize (f : Int) ^ (k - 1) = PI at *
 simp only [encQ_sm,encI_sm,i64] at h1 h3 hz hrd hwh hml step ⊢
 refine good_of_lwp mix Tryz.func47 rfl (by decide) (nt := 46) rfl (rs := [.cell 4 45]) rfl (nle rfl) ?_
 (repeat (first|apply zO (by decide +kernel)|apply zP (by decide +kernel)|(apply zS;(case h=>constructor<;>decide))|((first|apply l_go rfl|apply c_dec|apply zT rfl (by decide) rfl);(case hs=>(simp (disch := first|omega|exact kD rfl|exact kX rfl) only [smY,simprocAttr,bl,i64,smT,hmx];exact rfl));first|refine c_bt ?_|refine c_bf ?_|refine zq ?_|(case hg=>assumption))))
 refine w_loop (α := {j : Nat // j ≤ f}) (fun j => st 46 (lk [(0,i64 k),(1,i64 d),(4,.ptr 0 0),(5,i64 f),(6,.sl (k + 1) (qc (bn (k + 1)))),(7,.ptr 1 0),(8,i64 ((j.1 + 1 : Nat) : Int))]) (lkH [(0,⟨45,[bl false,.lit (.slice none 0 0),bl false,.lit (.slice none 0 0)],false⟩),(1,⟨45,[sg (rqs C k f j.1).num,mg (rqs C k f j.1).num,sg ((rqs C k f j.1).den : Int),mg ((rqs C k f j.1).den : Int)],false⟩)]) 2) (fun j => f - j.1) ⟨0,by omega⟩ ?_ ?_
 ·(refine Sub.heapL [0,10] rfl (by decide) ?_ (by simp only [smL];decide) ?_ ?_;all_goals (first|(simp only [plainC,smF,dg,renL,renLs,simprocAttr,bl,i64,smT];done) | (simp only [smF,dg,renL,renLs,simprocAttr,bl,i64,smT];(repeat' apply And.intro);all_goals rfl) | (simp only [smF,dg,renL,renLs,simprocAttr,bl,i64,smT]) | skip))
  all_goals (first | done | ((repeat' apply And.intro);all_goals (first | trivial | rfl)))
 ·rintro ⟨j,hj⟩
  simp only [st]
  by_cases hlt : j < f
  ·obtain ⟨w1,w2,w3,w4,w5,w6,w7,w8⟩ := step j hlt
   generalize horQ (bpL k) (Rat.divInt ((j + 1 : Nat) : Int) (f : Int)) = T at *
   generalize Rat.divInt ((j + 1 : Nat) : Int) (f : Int) = D at *
   generalize ((kr d (j + 1) : Int) : Rat) * T = M at *
   generalize ((kr d (j + 1) : Int) : Rat) = K at *
   generalize kr d (j + 1) = z at *
   by_cases z0 : z = 0
   ·have w9 := w8 z0
    (repeat (first|apply zO (by decide +kernel)|apply zP (by decide +kernel)|(apply zS;(case h=>constructor<;>decide))|((first|apply l_go rfl|apply c_dec|apply zT rfl (by decide) rfl);(case hs=>(simp (disch := first|omega|exact kD rfl|exact kX rfl) only [smY,simprocAttr,bl,i64,smT];exact rfl));first|refine c_bt ?_|refine c_bf ?_|refine zq ?_|(case hg=>assumption))))
    refine ⟨⟨j + 1,by omega⟩,?_,by simp only;omega⟩
    rw [w9]
    (refine Sub.heapL [0,1] rfl (by decide) ?_ (by simp only [smL];decide) ?_ ?_;all_goals (first|(simp only [plainC,smF,dg,renL,renLs,simprocAttr,bl,i64,smT];done) | (simp only [smF,dg,renL,renLs,simprocAttr,bl,i64,smT];(repeat' apply And.intro);all_goals rfl) | (simp only [smF,dg,renL,renLs,simprocAttr,bl,i64,smT]) | skip))
    all_goals (first | done | ((repeat' apply And.intro);all_goals (first | trivial | rfl)))
   ·(repeat (first|apply zO (by decide +kernel)|apply zP (by decide +kernel)|(apply zS;(case h=>constructor<;>decide))|((first|apply l_go rfl|apply c_dec|apply zT rfl (by decide) rfl);(case hs=>(simp (disch := first|omega|exact kD rfl|exact kX rfl) only [smY,simprocAttr,bl,i64,smT];exact rfl));first|refine c_bt ?_|refine c_bf ?_|refine zq ?_|(case hg=>assumption))))
    refine ⟨⟨j + 1,by omega⟩,?_,by simp only;omega⟩
    (refine Sub.heapL [0,1] rfl (by decide) ?_ (by simp only [smL];decide) ?_ ?_;all_goals (first|(simp only [plainC,smF,dg,renL,renLs,simprocAttr,bl,i64,smT];done) | (simp only [smF,dg,renL,renLs,simprocAttr,bl,i64,smT];(repeat' apply And.intro);all_goals rfl) | (simp only [smF,dg,renL,renLs,simprocAttr,bl,i64,smT]) | skip))
    all_goals (first | done | ((repeat' apply And.intro);all_goals (first | trivial | rfl)))
  ·obtain rfl : j = f := by omega
   (repeat (first|apply zO (by decide +kernel)|apply zP (by decide +kernel)|(apply zS;(case h=>constructor<;>decide))|((first|apply l_go rfl|apply c_dec|apply zT rfl (by decide) rfl);(case hs=>(simp (disch := first|omega|exact kD rfl|exact kX rfl) only [smY,simprocAttr,bl,i64,smT];exact rfl));first|refine c_bt ?_|refine c_bf ?_|refine zq ?_|(case hg=>assumption))))
   ((first|apply g_ret|apply g_end);case hres => (simp only [smR];simp (disch := first|omega|exact kD rfl|exact kX rfl) only [smY,simprocAttr,bl,i64,smT];exact rfl))
   simp (disch := first|omega|exact kD rfl|exact kX rfl) only [smY,simprocAttr,bl,i64,smT]
end Go.Proofs.YteecamhdbilmoaaGreatDoor