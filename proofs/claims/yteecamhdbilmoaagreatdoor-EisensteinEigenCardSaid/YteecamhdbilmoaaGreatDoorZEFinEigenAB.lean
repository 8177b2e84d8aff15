/- Contracts of functions of the program, and what proves them (texts: K6 X1 X3 X4 R1 K7 S1 S2 B11s L1 L3 R3 S3 R4 R5 R6 R7 S0 S4 S5 A0 L4 NumH L6). -/
import Derived.Test.YteecamhdbilmoaaGreatDoorZEAG
import Derived.Test.YteecamhdbilmoaaGreatDoorZEFinEigenAA
set_option linter.all false
namespace Go.Proofs.YteecamhdbilmoaaGreatDoor
open Go Go.Lg Go.Num
set_option maxRecDepth 100000
set_option maxHeartbeats 4000000
attribute [local irreducible] Go.Lg.lrun Go.Lg.lwp Go.Lg.exThen Go.Lg.exBlk Go.Lg.keep Go.Lg.goodPost sg mg bq bpL horQ trm qsum kr bsum ch
theorem quadB_good {d : Int} (hd : d ∈ fdL) (k : Nat) (hk1 : 1 ≤ k) (hk : k ≤ 40) : PureGood Tryz.prog 74 [i64 k,i64 d] (.tup [encQ (gB k d),i64 0]) := by
 obtain ⟨hd0,hdr⟩ := fd_rng hd
 obtain ⟨qm,qn,qcs,h1⟩ := dquad_ok hd
 have h2 := summands_good k d.natAbs hk1 hk (by omega) (by omega)
 have h3 := qof_good 0 (by omega)
 rw [show ((0 : Int) : Rat) = 0 from rfl] at h3
 have hmx : (if 0 - d > d then 0 - d else d) = (d.natAbs : Int) := by split <;> omega
 have hz := qsum_zero (fun j => kr d (j + 1)) k d.natAbs
 have step : ∀ j, j < d.natAbs → PureGood Tryz.prog 19 [i64 d, i64 ((j + 1 : Nat) : Int)] (i64 (kr d (j + 1))) ∧ PureGood Tryz.prog 44 [i64 (kr d (j + 1))] (encQ (kr d (j + 1))) ∧
   PureGood Tryz.prog 70 [encQ (kr d (j + 1)),encQ (trm k d.natAbs j)] (encQ ((kr d (j + 1) : Rat) * trm k d.natAbs j)) ∧
   PureGood Tryz.prog 69 [encQ (qsum (fun j => kr d (j + 1)) k d.natAbs j),encQ ((kr d (j + 1) : Rat) * trm k d.natAbs j)] (encQ (qsum (fun j => kr d (j + 1)) k d.natAbs (j + 1))) ∧ (kr d (j + 1) = 1 ∨ kr d (j + 1) = 0 ∨ kr d (j + 1) = -1) := by
  intro j hj
  have a1 := kron_good d hd (j + 1) (by omega) (by omega)
  have a3 := (kr_val hd (n := j + 1) (by omega) (by omega)).2
  have lt := lq_trm (k := k) (f := d.natAbs) (j := j) hk (by omega) (by omega) hj
  have ls := lq_qsum (c := fun j => kr d (j + 1)) (k := k) (f := d.natAbs) (fun j hj => (kr_val hd (n := j + 1) (by omega) (by omega)).2) hk (by omega) (by omega) (n := j) (by omega)
  have lk : lq (kr d (j + 1) : Rat) ≤ 2 := by
   rw [lq_int]
   have := len_pow_lt (a := kr d (j + 1)) (e := 1) (by omega)
   omega
  have lm := lq_mul (kr d (j + 1) : Rat) (trm k d.natAbs j)
  refine ⟨a1,qof_good _ (by omega),qmul_good _ _ (by omega) (by omega),?_,a3⟩
  rw [qsum_succ]
  exact qadd_good _ _ (by omega) (by omega)
 unfold gB
 generalize hf : d.natAbs = f at *
 generalize hC : (fun j => kr d (j + 1)) = C at *
 rw [encF_qc,smd_length] at h2
 have hls := smd_length k f f
 simp only [encQ_sm,i64] at h1 h2 h3 step ⊢
 refine good_of_lwp mix Tryz.func74 rfl (by decide) (nt := 51) rfl (rs := [.cell 4 45,.tmp 5]) rfl (nle rfl) ?_
 (repeat (first|apply zO (by decide +kernel)|apply zP (by decide +kernel)|(apply zS;(case h=>constructor<;>decide))|((first|apply l_go rfl|apply c_dec|apply zT rfl (by decide) rfl);(case hs=>(simp (disch := first|omega|exact kD rfl|exact kX rfl) only [smY,simprocAttr,bl,i64,smT,hmx];exact rfl));first|refine c_bt ?_|refine c_bf ?_|refine zq ?_|(case hg=>assumption))))
 refine w_loop (α := {j : Nat // j ≤ f}) (fun j => st 51 (lk [(0,i64 k),(1,i64 d),(4,.ptr 0 0),(8,.ptr 1 0),(33,.sl f (qc (smd k f f))),(34,i64 f),(35,i64 j.1)]) (lkH [(0,⟨45,[bl false,.lit (.slice none 0 0),bl false,.lit (.slice none 0 0)],false⟩),(1,⟨45,[sg (qsum C k f j.1).num,mg (qsum C k f j.1).num,sg ((qsum C k f j.1).den : Int),mg ((qsum C k f j.1).den : Int)],false⟩)]) 2) (fun j => f - j.1) ⟨0,by omega⟩ ?_ ?_
 ·(refine Sub.heapL [0,19] rfl (by decide) ?_ (by simp only [smL];decide) ?_ ?_;all_goals (first|(simp only [plainC,smF,dg,renL,renLs,simprocAttr,bl,i64,smT];done) | (simp only [smF,dg,renL,renLs,simprocAttr,bl,i64,smT];(repeat' apply And.intro);all_goals rfl) | (simp only [smF,dg,renL,renLs,simprocAttr,bl,i64,smT]) | skip))
  all_goals (first | done | (rw [hz];exact ⟨trivial,rfl⟩))
 ·rintro ⟨j,hj⟩
  simp only [st]
  by_cases hlt : j < f
  ·obtain ⟨w1,w2,w3,w4,hz⟩ := step j hlt
   have e1 : (smd k f f).getD j 0 = trm k f j := smd_getD hlt
   have hj1 : ((j + 1 : Nat) : Int) = (j : Int) + 1 := by omega
   rw [hj1] at w1
   generalize trm k f j = T at *
   generalize ((kr d (j + 1) : Int) : Rat) * T = M at *
   generalize ((kr d (j + 1) : Int) : Rat) = K at *
   generalize kr d (j + 1) = z at *
   (repeat (first|apply zO (by decide +kernel)|apply zP (by decide +kernel)|(apply zS;(case h=>constructor<;>decide))|((first|apply l_go rfl|apply c_dec|apply zT rfl (by decide) rfl);(case hs=>(simp (disch := first|omega|exact kD rfl|exact kX rfl) only [smY,simprocAttr,bl,i64,smT,e1];exact rfl));first|refine c_bt ?_|refine c_bf ?_|refine zq ?_|(case hg=>assumption))))
   refine ⟨⟨j + 1,by omega⟩,?_,by simp only;omega⟩
   (refine Sub.heapL [0,1] rfl (by decide) ?_ (by simp only [smL];decide) ?_ ?_;all_goals (first|(simp only [plainC,smF,dg,renL,renLs,simprocAttr,bl,i64,smT];done) | (simp only [smF,dg,renL,renLs,simprocAttr,bl,i64,smT];(repeat' apply And.intro);all_goals rfl) | (simp only [smF,dg,renL,renLs,simprocAttr,bl,i64,smT]) | skip))
  ·obtain rfl : j = f := by omega
   (repeat (first|apply zO (by decide +kernel)|apply zP (by decide +kernel)|(apply zS;(case h=>constructor<;>decide))|((first|apply l_go rfl|apply c_dec|apply zT rfl (by decide) rfl);(case hs=>(simp (disch := first|omega|exact kD rfl|exact kX rfl) only [smY,simprocAttr,bl,i64,smT];exact rfl));first|refine c_bt ?_|refine c_bf ?_|refine zq ?_|(case hg=>assumption))))
   ((first|apply g_ret|apply g_end);case hres => (simp only [smR];simp (disch := first|omega|exact kD rfl|exact kX rfl) only [smY,simprocAttr,bl,i64,smT];exact rfl))
   simp (disch := first|omega|exact kD rfl|exact kX rfl) only [smY,simprocAttr,bl,i64,smT]
end Go.Proofs.YteecamhdbilmoaaGreatDoor
namespace Go.Proofs.YteecamhdbilmoaaGreatDoor
open Go Go.Lg Go.Num
set_option maxRecDepth 100000
set_option maxHeartbeats 4000000
attribute [local irreducible] Go.Lg.lrun Go.Lg.lwp Go.Lg.exThen Go.Lg.exBlk Go.Lg.keep Go.Lg.goodPost sg mg sS qs sv oc mC
end Go.Proofs.YteecamhdbilmoaaGreatDoor
namespace Go.Proofs.YteecamhdbilmoaaGreatDoor
open Go Go.Lg Go.Num
set_option maxRecDepth 100000
set_option maxHeartbeats 8000000
attribute [local irreducible] Go.Lg.lrun Go.Lg.lwp Go.Lg.exThen Go.Lg.exBlk Go.Lg.keep Go.Lg.goodPost sg mg sS qs sv oc mC dc
end Go.Proofs.YteecamhdbilmoaaGreatDoor
namespace Go.Proofs.YteecamhdbilmoaaGreatDoor
open Go Go.Lg Go.Num
set_option maxRecDepth 100000
set_option maxHeartbeats 8000000
attribute [local irreducible] Go.Lg.lrun Go.Lg.lwp Go.Lg.exThen Go.Lg.exBlk Go.Lg.keep Go.Lg.goodPost sg mg sS qs sv oc mC dc
end Go.Proofs.YteecamhdbilmoaaGreatDoor
namespace Go.Proofs.YteecamhdbilmoaaGreatDoor
open Go Go.Lg Go.Num
set_option maxRecDepth 100000
set_option maxHeartbeats 8000000
attribute [local irreducible] Go.Lg.lrun Go.Lg.lwp Go.Lg.exThen Go.Lg.exBlk Go.Lg.keep Go.Lg.goodPost sg mg oc mC twP tw bq kr chi
theorem raised_good (d N : Nat) (hd1 : 1 ≤ d) (hd : d ≤ 1000) (hN : N ≤ 40) : PureGood Tryz.prog 21 [encI (d : Int),i64 N] (encI ((d : Int) ^ N)) := by
 have r1 := rof1_good
 have L : ∀ e,e ≤ 120 → len ((d : Int) ^ e) ≤ 40 := by
  intro e he
  refine len_at (e := 40) ?_
  rw [Int.natAbs_pow,Int.natAbs_natCast]
  exact Nat.lt_of_le_of_lt (Nat.le_trans (Nat.pow_le_pow_left hd e) (Nat.pow_le_pow_right (by omega) he)) (by decide +kernel)
 have e0 : encI (1 : Int) = encI ((d : Int) ^ 0) := by rw [Int.pow_zero]
 have e1 : encI (d : Int) = encI ((d : Int) ^ 1) := by rw [Int.pow_succ,Int.pow_zero,Int.one_mul]
 have M : ∀ e f,e ≤ 120 → f ≤ 120 → PureGood Tryz.prog 34 [encI ((d : Int) ^ e),encI ((d : Int) ^ f)] (encI ((d : Int) ^ (e + f))) := by
  intro e f he hf
  have := rmul_good ((d : Int) ^ e) ((d : Int) ^ f) (Nat.le_trans (L e he) (by omega)) (Nat.le_trans (L f hf) (by omega))
  rwa [← Int.pow_add] at this
 rw [e1]
 rw [e0] at r1
 clear e0 e1 L
 generalize hP : (fun e : Nat => (d : Int) ^ e) = P at *
 have hP' : ∀ e,(d : Int) ^ e = P e := fun e => by rw [← hP]
 simp only [hP'] at M r1 ⊢
 clear hP hP'
 simp only [encI_sm,i64] at *
 refine good_of_lwp mix Tryz.func21 rfl (by decide) (nt := 23) rfl (rs := [.cell 4 43]) rfl (nle rfl) ?_
 (repeat (first|apply zO (by decide +kernel)|apply zP (by decide +kernel)|(apply zS;(case h=>constructor<;>decide))|((first|apply l_go rfl|apply c_dec|apply zT rfl (by decide) rfl);(case hs=>(simp (disch := first|omega|exact kD rfl|exact kX rfl) only [smY,simprocAttr,bl,i64,smT,smO];exact rfl));first|refine c_bt ?_|refine c_bf ?_|refine zq ?_|(case hg=>assumption))))
 refine w_loop (α := {p : Nat × Nat × Nat // p.1 + p.2.1 * p.2.2 = N ∧ p.2.1 ≤ 41 ∧ p.2.2 ≤ 40}) (fun p => st 23 (lk [(1,i64 p.1.2.2),(2,.ptr 0 0),(4,.ptr 1 0),(5,.ptr 2 0)]) (lkH [(0,⟨43,[sg (P p.1.2.1),mg (P p.1.2.1)],false⟩),(1,⟨43,[bl false,.lit (.slice none 0 0)],false⟩),(2,⟨43,[sg (P p.1.1),mg (P p.1.1)],false⟩)]) 3) (fun p => p.1.2.2) ⟨(0,1,N),by simp,by simp,hN⟩ ?_ ?_
 ·(refine Sub.heapL [0,1,3] rfl (by decide) ?_ (by simp only [smL];decide) ?_ ?_;all_goals (first|(simp only [plainC,smF,dg,renL,renLs,simprocAttr,bl,i64,smT,smO];done) | (simp only [smF,dg,renL,renLs,simprocAttr,bl,i64,smT,smO];(repeat' apply And.intro);all_goals rfl) | (simp only [smF,dg,renL,renLs,simprocAttr,bl,i64,smT,smO]) | skip))
  all_goals (first | done | exact ⟨trivial,rfl,rfl⟩)
 ·rintro ⟨⟨e,f,n⟩,h1,h2,h3⟩
  simp only at h1 h2 h3
  simp only [st]
  by_cases hn : n = 0
  ·subst hn
   obtain rfl : e = N := by simpa using h1
   (repeat (first|apply zO (by decide +kernel)|apply zP (by decide +kernel)|(apply zS;(case h=>constructor<;>decide))|((first|apply l_go rfl|apply c_dec|apply zT rfl (by decide) rfl);(case hs=>(simp (disch := first|omega|exact kD rfl|exact kX rfl) only [smY,simprocAttr,bl,i64,smT,smO];exact rfl));first|refine c_bt ?_|refine c_bf ?_|refine zq ?_|(case hg=>assumption))))
   ((first|apply g_ret|apply g_end);case hres => (simp only [smR];simp (disch := first|omega|exact kD rfl|exact kX rfl) only [smY,simprocAttr,bl,i64,smT,smO];exact rfl))
   simp (disch := first|omega|exact kD rfl|exact kX rfl) only [smY,simprocAttr,bl,i64,smT,smO]
  ·have hfn : f ≤ f * n := Nat.le_mul_of_pos_right f (by omega)
   have m1 := M e f (by omega) (by omega)
   have m2 := M f f (by omega) (by omega)
   have hlt : n / 2 < n := Nat.div_lt_self (by omega) (by omega)
   by_cases ho : n % 2 = 1
   ·by_cases hz : n / 2 = 0
    ·obtain rfl : n = 1 := by omega
     (repeat (first|apply zO (by decide +kernel)|apply zP (by decide +kernel)|(apply zS;(case h=>constructor<;>decide))|((first|apply l_go rfl|apply c_dec|apply zT rfl (by decide) rfl);(case hs=>(simp (disch := first|omega|exact kD rfl|exact kX rfl) only [smY,simprocAttr,bl,i64,smT,smO];exact rfl));first|refine c_bt ?_|refine c_bf ?_|refine zq ?_|(case hg=>assumption))))
     refine ⟨⟨(e + f,f,0),by simp only;omega,by simp only;omega,by simp only;omega⟩,?_,by simp only;omega⟩
     (refine Sub.heapL [0,1,2] rfl (by decide) ?_ (by simp only [smL];decide) ?_ ?_;all_goals (first|(simp only [plainC,smF,dg,renL,renLs,simprocAttr,bl,i64,smT,smO];done) | (simp only [smF,dg,renL,renLs,simprocAttr,bl,i64,smT,smO];(repeat' apply And.intro);all_goals rfl) | (simp only [smF,dg,renL,renLs,simprocAttr,bl,i64,smT,smO]) | skip))
     all_goals (first | done | exact ⟨rfl,rfl⟩ | exact ⟨trivial,rfl,rfl⟩ | simp)
    ·have hk : f * n = f + (f + f) * (n / 2) := by
      conv => lhs;rw [show n = 1 + 2 * (n / 2) by omega]
      rw [Nat.mul_add,Nat.mul_one,Nat.add_mul,← Nat.mul_assoc,Nat.mul_comm f 2,Nat.mul_assoc,Nat.two_mul]
     have h4 : f + f ≤ (f + f) * (n / 2) := Nat.le_mul_of_pos_right _ (by omega)
     (repeat (first|apply zO (by decide +kernel)|apply zP (by decide +kernel)|(apply zS;(case h=>constructor<;>decide))|((first|apply l_go rfl|apply c_dec|apply zT rfl (by decide) rfl);(case hs=>(simp (disch := first|omega|exact kD rfl|exact kX rfl) only [smY,simprocAttr,bl,i64,smT,smO];exact rfl));first|refine c_bt ?_|refine c_bf ?_|refine zq ?_|(case hg=>assumption))))
     refine ⟨⟨(e + f,f + f,n / 2),by simp only;omega,by simp only;omega,by simp only;omega⟩,?_,hlt⟩
     (refine Sub.heapL [0,1,2] rfl (by decide) ?_ (by simp only [smL];decide) ?_ ?_;all_goals (first|(simp only [plainC,smF,dg,renL,renLs,simprocAttr,bl,i64,smT,smO];done) | (simp only [smF,dg,renL,renLs,simprocAttr,bl,i64,smT,smO];(repeat' apply And.intro);all_goals rfl) | (simp only [smF,dg,renL,renLs,simprocAttr,bl,i64,smT,smO]) | skip))
     all_goals (first | done | exact ⟨rfl,rfl⟩ | exact ⟨trivial,rfl,rfl⟩ | simp)
   ·have hk : f * n = (f + f) * (n / 2) := by
     conv => lhs;rw [show n = 2 * (n / 2) by omega]
     rw [Nat.add_mul,← Nat.mul_assoc,Nat.mul_comm f 2,Nat.mul_assoc,Nat.two_mul]
    have hz : n / 2 ≠ 0 := by omega
    have h4 : f + f ≤ (f + f) * (n / 2) := Nat.le_mul_of_pos_right _ (by omega)
    (repeat (first|apply zO (by decide +kernel)|apply zP (by decide +kernel)|(apply zS;(case h=>constructor<;>decide))|((first|apply l_go rfl|apply c_dec|apply zT rfl (by decide) rfl);(case hs=>(simp (disch := first|omega|exact kD rfl|exact kX rfl) only [smY,simprocAttr,bl,i64,smT,smO];exact rfl));first|refine c_bt ?_|refine c_bf ?_|refine zq ?_|(case hg=>assumption))))
    refine ⟨⟨(e,f + f,n / 2),by simp only;omega,by simp only;omega,by simp only;omega⟩,?_,hlt⟩
    (refine Sub.heapL [0,1,2] rfl (by decide) ?_ (by simp only [smL];decide) ?_ ?_;all_goals (first|(simp only [plainC,smF,dg,renL,renLs,simprocAttr,bl,i64,smT,smO];done) | (simp only [smF,dg,renL,renLs,simprocAttr,bl,i64,smT,smO];(repeat' apply And.intro);all_goals rfl) | (simp only [smF,dg,renL,renLs,simprocAttr,bl,i64,smT,smO]) | skip))
    all_goals (first | done | exact ⟨rfl,rfl⟩ | exact ⟨trivial,rfl,rfl⟩ | simp)
end Go.Proofs.YteecamhdbilmoaaGreatDoor
namespace Go.Proofs.YteecamhdbilmoaaGreatDoor
open Go Go.Lg Go.Num
set_option maxRecDepth 100000
set_option maxHeartbeats 4000000
attribute [local irreducible] Go.Lg.lrun Go.Lg.lwp Go.Lg.exThen Go.Lg.exBlk Go.Lg.keep Go.Lg.goodPost sg mg bq bpL horQ trm qsum kr bsum ch
end Go.Proofs.YteecamhdbilmoaaGreatDoor
namespace Go.Proofs.YteecamhdbilmoaaGreatDoor
open Go Go.Lg Go.Num
set_option maxRecDepth 100000
set_option maxHeartbeats 4000000
def oqp : Option Rat → List LV
 | none => [.lit (.bool false),.sl 0 [],.lit (.bool false),.sl 0 []]
 | some q => qcells q
def op (l : List (Option Rat)) : List LV := l.flatMap oqp
theorem oqp_none : oqp none = [.lit (.bool false),.sl 0 [],.lit (.bool false),.sl 0 []] := rfl
theorem oqp_some (q : Rat) : oqp (some q) = [sg (q).num,mg (q).num,sg ((q).den : Int),mg ((q).den : Int)] := qcells_sm q
theorem oqp_len (o : Option Rat) : (oqp o).length = 4 := by cases o <;> rfl
theorem op_len (l : List (Option Rat)) : (op l).length = l.length * 4 := by induction l with
 | nil => rfl
 | cons a l ih => rw [op,List.flatMap_cons,List.length_append,oqp_len];rw [op] at ih;rw [ih,List.length_cons];omega
theorem op_take {l : List (Option Rat)} {m : Nat} (h : m = l.length * 4) : (op l).take m = op l := List.take_of_length_le (by rw [op_len];omega)
theorem op_drop (l : List (Option Rat)) : ∀ j,(op l).drop (j * 4) = op (l.drop j) := by
 induction l with
 | nil => intro j;simp [op]
 | cons x l ih =>
   intro j
   cases j with
   | zero => simp
   | succ j =>
     have : op (x :: l) = oqp x ++ op l := by simp [op]
     rw [this,List.drop_succ_cons,← ih,show (j + 1) * 4 = (oqp x).length + j * 4 by rw [oqp_len];omega,← List.drop_drop,List.drop_left]
theorem op_hd {l : List (Option Rat)} {s : Nat} (h : s < l.length) : (op (l.drop s)).take 4 = oqp (l.getD s none) := by
 rw [List.drop_eq_getElem_cons h]
 have e : l.getD s none = l[s] := by simp [h]
 have : op (l[s] :: l.drop (s + 1)) = oqp l[s] ++ op (l.drop (s + 1)) := rfl
 rw [this,e,show (4 : Nat) = (oqp l[s]).length from (oqp_len _).symm,List.take_left]
theorem op_td {l : List (Option Rat)} {s : Nat} (h : s < l.length) : ((op l).drop (s * 4)).take 4 = oqp (l.getD s none) := by
 rw [op_drop]
 exact op_hd h
theorem op_somes (l : List Rat) : op (l.map some) = qc l := by
 induction l with
 | nil => rfl
 | cons x l ih => simp only [op,qc,List.map_cons,List.flatMap_cons] at *;rw [ih];rfl
theorem pvs_oc {h : Nat → Option Blk} {ok : Nat → Bool} {k : Nat} : ∀ l : List (Option Rat),pvs h ok (k + 1) (oc l) = some (op l,[])
 | [] => rfl
 | none :: l => by
   have e1 : oc (none :: l) = .lit (.bool false) :: .lit (.slice none 0 0) :: .lit (.bool false) :: .lit (.slice none 0 0) :: oc l := rfl
   rw [e1]
   simp only [pvs_cons,pvs_oc l,pv_bool,pv_nil,Option.bind_some,Option.map_some]
   rfl
 | some q :: l => by
   have e1 : oc (some q :: l) = sg q.num :: mg q.num :: sg (q.den : Int) :: mg (q.den : Int) :: oc l := by
     show qcells q ++ oc l = _
     rw [qcells_sm];rfl
   have e2 : op (some q :: l) = sg q.num :: mg q.num :: sg (q.den : Int) :: mg (q.den : Int) :: op l := by
     show qcells q ++ op l = _
     rw [qcells_sm];rfl
   rw [e1,e2]
   simp only [pvs_cons,pvs_oc l,pv_pure (pure_sg _),pv_pure (pure_mg _),Option.bind_some,Option.map_some]
   rfl
def oP (o : Nat → Option Rat) (N : Nat) : List (Option Rat) := (List.range N).map o
theorem oP_len (o : Nat → Option Rat) (N : Nat) : (oP o N).length = N := by simp [oP]
theorem oP_get {o : Nat → Option Rat} {N i : Nat} (h : i < N) : (oP o N).getD i none = o i := by simp [oP,h]
theorem oP_dget {o : Nat → Option Rat} {N s i : Nat} (h : s + i < N) : ((oP o N).drop s).getD i none = o (s + i) := by simp [oP,h]
theorem aP_oP (a : Nat → Rat) (N : Nat) : op (oP (fun i => some (a i)) N) = qc (aP a N) := by
 rw [← op_somes]
 simp [aP,oP,Function.comp_def]
theorem sign_none : PureGood Tryz.prog 68 [.agg [.lit (.bool false),.sl 0 [],.lit (.bool false),.sl 0 []]] (i64 0) := evl_good (by kernel_rfl)
theorem norm_none' : PureGood Tryz.prog 103 [.agg [.lit (.bool false),.sl 0 [],.lit (.bool false),.sl 0 []]] (.agg [.lit (.bool false),.sl 0 [],.lit (.bool false),.sl 1 [.lit (.int .u32 1)]]) := evl_good (by kernel_rfl)
theorem encQ_zero : encQ 0 = .agg [.lit (.bool false),.sl 0 [],.lit (.bool false),.sl 1 [.lit (.int .u32 1)]] := by with_unfolding_all rfl
theorem norm_none : PureGood Tryz.prog 103 [.agg [.lit (.bool false),.sl 0 [],.lit (.bool false),.sl 0 []]] (encQ 0) := by
 rw [encQ_zero]
 exact norm_none'
def cSer (h : Int) (a : Nat → Rat) (N : Nat) : LV := .agg [i64 (h + ordN a N),.sl (N - ordN a N) (qc (aP (fun i => a (ordN a N + i)) (N - ordN a N)))]
theorem cSer_eq {h : Int} {a : Nat → Rat} {N s : Nat} (hs : ordN a N = s) : cSer h a N = .agg [i64 (h + s),.sl (N - s) (qc (aP (fun i => a (s + i)) (N - s)))] := by
 unfold cSer
 rw [hs]
attribute [local irreducible] Go.Lg.lrun Go.Lg.lwp Go.Lg.exThen Go.Lg.exBlk Go.Lg.keep Go.Lg.goodPost sg mg sS qs sv oc mC oqc cSer op oqp
theorem build_all (h : Int) (o : Nat → Option Rat) (a : Nat → Rat) (N : Nat) (ha : ∀ i,i < N → a i = (o i).getD 0) (h1 : -100 ≤ h) (h2 : h + N ≤ 1000) (ba : ∀ i,i < N → lq (a i) ≤ 1000) : PureGood Tryz.prog 71 [i64 h,.sl N (op (oP o N))] (.tup [cSer h a N,i64 0]) := by
 have hl := oP_len o N
 have hmn : (if 1000 - h < (N : Int) then 1000 - h else (N : Int)) = N := if_neg (by omega)
 generalize hR : cSer h a N = R
 simp only [i64] at *
 refine good_of_lwp mix Tryz.func71 rfl (by decide) (nt := 61) rfl (rs := [.cell 4 26,.tmp 5]) rfl (nle rfl) ?_
 (repeat (first|apply zO (by decide +kernel)|apply zP (by decide +kernel)|(apply zS;(case h=>constructor<;>decide))|((first|apply l_go rfl|apply c_dec|apply zT rfl (by decide) rfl);(case hs=>(simp (disch := first|omega|exact kD rfl|exact kX rfl) only [smY,simprocAttr,bl,i64,smT,smO,smM,op_len,@op_td,oqp_none,oqp_some,hmn,@op_take,op_drop];exact rfl));first|refine c_bt ?_|refine c_bf ?_|refine zq ?_|(case hg=>assumption))))
 refine w_loop (α := {s : Nat // s ≤ N ∧ ∀ j,j < s → a j = 0}) (fun s => st 61 (lk [(0,i64 h),(1,.sl N (op (oP o N))),(4,.ptr 0 0),(6,i64 s.1)]) (lkH [(0,⟨26,[i64 0,nilL],false⟩)]) 1) (fun s => N - s.1) ⟨0,Nat.zero_le _,fun j hj => by omega⟩ ?_ ?_
 ·(refine Sub.heap1 0 ?_ (by simp only [smF,dg,renL,renLs,simprocAttr,bl,i64,smT,smO,smM,op_len,@op_td,oqp_none,oqp_some,hmn,@op_take,op_drop];exact rfl) ?_ ?_;all_goals (first | exact dgs_plain _ | with_reducible rfl | (simp only [smF,dg,renL,renLs,simprocAttr,bl,i64,smT,smO,smM,op_len,@op_td,oqp_none,oqp_some,hmn,@op_take,op_drop];done) | (simp only [smF,dg,renL,renLs,simprocAttr,bl,i64,smT,smO,smM,op_len,@op_td,oqp_none,oqp_some,hmn,@op_take,op_drop]) | skip))
  all_goals (first | exact ⟨rfl,rfl⟩ | simp)
 ·rintro ⟨s,hs,hz⟩
  simp only [st]
  by_cases hc : s < N ∧ a s = 0
  ·obtain ⟨hlt,has⟩ := hc
   have e0 : (op ((oP o N).drop s)).take 4 = oqp (o s) := by rw [op_hd (by omega),oP_get hlt]
   have has' := ha s hlt
   rw [has] at has'
   cases ho : o s with
   | none =>
     rw [ho,oqp_none] at e0
     have g1 := sign_none
     simp only [i64,bl] at g1
     (repeat (first|apply zO (by decide +kernel)|apply zP (by decide +kernel)|(apply zS;(case h=>constructor<;>decide))|((first|apply l_go rfl|apply c_dec|apply zT rfl (by decide) rfl);(case hs=>(simp (disch := first|omega|exact kD rfl|exact kX rfl) only [smY,simprocAttr,bl,i64,smT,smO,smM,op_len,@op_td,oqp_none,oqp_some,hmn,op_drop,e0];exact rfl));first|refine c_bt ?_|refine c_bf ?_|refine zq ?_|(case hg=>assumption))))
     refine ⟨⟨s + 1,by omega,fun j hj => ?_⟩,?_,by simp only;omega⟩
     · by_cases e : j = s
       · rw [e];exact has
       · exact hz j (by omega)
     · (refine Sub.heap1 0 ?_ (by simp only [smF,dg,renL,renLs,simprocAttr,bl,i64,smT,smO,smM,op_len,@op_td,oqp_none,oqp_some,hmn,op_drop];exact rfl) ?_ ?_;all_goals (first | exact dgs_plain _ | with_reducible rfl | (simp only [smF,dg,renL,renLs,simprocAttr,bl,i64,smT,smO,smM,op_len,@op_td,oqp_none,oqp_some,hmn,op_drop];done) | (simp only [smF,dg,renL,renLs,simprocAttr,bl,i64,smT,smO,smM,op_len,@op_td,oqp_none,oqp_some,hmn,op_drop]) | skip))
       all_goals (first | exact ⟨rfl,rfl⟩ | simp)
   | some q =>
     rw [ho] at e0 has'
     obtain rfl : (0 : Rat) = q := has'
     rw [oqp_some] at e0
     have g1 := qsign_good 0 (by decide +kernel)
     rw [show (0 : Rat).num.sign = 0 from rfl] at g1
     generalize (0 : Rat) = q at *
     simp only [i64,encQ_sm] at g1
     (repeat (first|apply zO (by decide +kernel)|apply zP (by decide +kernel)|(apply zS;(case h=>constructor<;>decide))|((first|apply l_go rfl|apply c_dec|apply zT rfl (by decide) rfl);(case hs=>(simp (disch := first|omega|exact kD rfl|exact kX rfl) only [smY,simprocAttr,bl,i64,smT,smO,smM,op_len,@op_td,oqp_none,oqp_some,hmn,op_drop,e0];exact rfl));first|refine c_bt ?_|refine c_bf ?_|refine zq ?_|(case hg=>assumption))))
     refine ⟨⟨s + 1,by omega,fun j hj => ?_⟩,?_,by simp only;omega⟩
     · by_cases e : j = s
       · rw [e];exact has
       · exact hz j (by omega)
     · (refine Sub.heap1 0 ?_ (by simp only [smF,dg,renL,renLs,simprocAttr,bl,i64,smT,smO,smM,op_len,@op_td,oqp_none,oqp_some,hmn,op_drop];exact rfl) ?_ ?_;all_goals (first | exact dgs_plain _ | with_reducible rfl | (simp only [smF,dg,renL,renLs,simprocAttr,bl,i64,smT,smO,smM,op_len,@op_td,oqp_none,oqp_some,hmn,op_drop];done) | (simp only [smF,dg,renL,renLs,simprocAttr,bl,i64,smT,smO,smM,op_len,@op_td,oqp_none,oqp_some,hmn,op_drop]) | skip))
       all_goals (first | exact ⟨rfl,rfl⟩ | simp)
  ·have hord : ordN a N = s := ordN_eq hs hz (fun hlt e => hc ⟨hlt,e⟩)
   rw [cSer_eq hord] at hR
   have hdl : ((oP o N).drop s).length = N - s := by rw [List.length_drop,hl]
   have hcast : ((N - s : Nat) : Int) = (N : Int) - s := by omega
   by_cases hlt : s < N
   ·have e0 : (op ((oP o N).drop s)).take 4 = oqp (o s) := by rw [op_hd (by omega),oP_get hlt]
    have has := ha s hlt
    have has0 : a s ≠ 0 := fun e => hc ⟨hlt,e⟩
    cases ho : o s with
    | none => rw [ho] at has;exact absurd has has0
    | some q =>
      rw [ho] at e0 has
      obtain rfl : a s = q := has
      rw [oqp_some] at e0
      have g1 := qsign_good (a s) (by have := ba s hlt;omega)
      have g2 : (a s).num.sign ≠ 0 := fun e => has0 (Rat.num_eq_zero.1 (Int.sign_eq_zero_iff_zero.1 e))
      have g3 : -1 ≤ (a s).num.sign ∧ (a s).num.sign ≤ 1 := by
        rcases Int.sign_trichotomy (a s).num with e | e | e <;> rw [e] <;> omega
      generalize (a s).num.sign = sg0 at *
      generalize a s = q at *
      simp only [i64,encQ_sm] at g1
      (repeat (first|apply zO (by decide +kernel)|apply zP (by decide +kernel)|(apply zS;(case h=>constructor<;>decide))|((first|apply l_go rfl|apply c_dec|apply zT rfl (by decide) rfl);(case hs=>(simp (disch := first|omega|exact kD rfl|exact kX rfl) only [smY,simprocAttr,bl,i64,smT,smO,smM,op_len,@op_td,oqp_none,oqp_some,hmn,op_drop,hdl,e0];exact rfl));first|refine c_bt ?_|refine c_bf ?_|refine zq ?_|(case hg=>assumption))))
      refine w_loop (α := {i : Nat // i ≤ N - s}) (fun i => st 61 (lk [(0,i64 (h + s)),(4,.ptr 0 0),(7,.own 1 0 i.1 4),(46,.sl (N - s) (op ((oP o N).drop s))),(47,i64 ((N - s : Nat) : Int)),(48,i64 i.1)]) (lkH [(0,⟨26,[i64 0,nilL],false⟩),(1,⟨45,mC (fun i => a (s + i)) (N - s) i.1,false⟩)]) 2) (fun i => N - s - i.1) ⟨0,by omega⟩ ?_ ?_
      · have htk : (op ((oP o N).drop s)).take ((N - s) * 4) = op ((oP o N).drop s) := op_take (by rw [hdl])
        (refine Sub.heapL [0,23] rfl (by decide) ?_ (by simp only [smL];decide) ?_ ?_;all_goals (first|(simp only [plainC,smF,dg,renL,renLs,simprocAttr,bl,i64,smT,smO,smM,op_len,@op_td,oqp_none,oqp_some,op_drop,htk,mC_zero (fun i => a (s + i))];done) | (simp only [smF,dg,renL,renLs,simprocAttr,bl,i64,smT,smO,smM,op_len,@op_td,oqp_none,oqp_some,op_drop,htk,mC_zero (fun i => a (s + i))];(repeat' apply And.intro);all_goals rfl) | (simp only [smF,dg,renL,renLs,simprocAttr,bl,i64,smT,smO,smM,op_len,@op_td,oqp_none,oqp_some,op_drop,htk,mC_zero (fun i => a (s + i))]) | skip))
        all_goals (first | done | ((repeat' apply And.intro);all_goals (first | trivial | rfl)))
      · rintro ⟨i,hi⟩
        simp only [st]
        have hl2 := aP_len (fun i => a (s + i)) i
        have happ := aP_succ (fun i => a (s + i)) i
        by_cases hil : i < N - s
        · have e5 : ((oP o N).drop s).getD i none = o (s + i) := oP_dget (by omega)
          have b5 := ba (s + i) (by omega)
          have ha5 := ha (s + i) (by omega)
          cases ho5 : o (s + i) with
          | none =>
            rw [ho5] at e5 ha5
            have g5 := norm_none
            rw [show (0 : Rat) = a (s + i) from ha5.symm] at g5
            generalize hbv : a (s + i) = v at *
            simp only [encQ_sm] at g5
            (repeat (first|apply zO (by decide +kernel)|apply zP (by decide +kernel)|(apply zS;(case h=>constructor<;>decide))|((first|apply l_go rfl|apply c_dec|apply zT rfl (by decide) rfl);(case hs=>(simp (disch := first|omega|exact kD rfl|exact kX rfl) only [smY,simprocAttr,bl,i64,smT,smO,smM,op_len,@op_td,oqp_none,oqp_some,hdl,e5];exact rfl));first|refine c_bt ?_|refine c_bf ?_|refine zq ?_|(case hg=>assumption))))
            refine ⟨⟨i + 1,by omega⟩,?_,by simp only;omega⟩
            (refine Sub.heapL [0,11] rfl (by decide) ?_ (by simp only [smL];decide) ?_ ?_;all_goals (first|(simp only [plainC,smF,dg,renL,renLs,simprocAttr,bl,i64,smT,smO,smM,op_len,@op_td,oqp_none,oqp_some];done) | (simp only [smF,dg,renL,renLs,simprocAttr,bl,i64,smT,smO,smM,op_len,@op_td,oqp_none,oqp_some];(repeat' apply And.intro);all_goals rfl) | (simp only [smF,dg,renL,renLs,simprocAttr,bl,i64,smT,smO,smM,op_len,@op_td,oqp_none,oqp_some]) | skip))
            all_goals (first | done | (rw [mC_succ (a := fun i => a (s + i)) (N := N - s) (i := i) hbv];exact ⟨trivial,rfl⟩))
          | some q =>
            rw [ho5] at e5 ha5
            obtain rfl : a (s + i) = q := ha5
            have g5 := qnorm_good (a (s + i)) (by omega)
            generalize hbv : a (s + i) = v at *
            simp only [encQ_sm] at g5
            (repeat (first|apply zO (by decide +kernel)|apply zP (by decide +kernel)|(apply zS;(case h=>constructor<;>decide))|((first|apply l_go rfl|apply c_dec|apply zT rfl (by decide) rfl);(case hs=>(simp (disch := first|omega|exact kD rfl|exact kX rfl) only [smY,simprocAttr,bl,i64,smT,smO,smM,op_len,@op_td,oqp_none,oqp_some,hdl,e5];exact rfl));first|refine c_bt ?_|refine c_bf ?_|refine zq ?_|(case hg=>assumption))))
            refine ⟨⟨i + 1,by omega⟩,?_,by simp only;omega⟩
            (refine Sub.heapL [0,11] rfl (by decide) ?_ (by simp only [smL];decide) ?_ ?_;all_goals (first|(simp only [plainC,smF,dg,renL,renLs,simprocAttr,bl,i64,smT,smO,smM,op_len,@op_td,oqp_none,oqp_some];done) | (simp only [smF,dg,renL,renLs,simprocAttr,bl,i64,smT,smO,smM,op_len,@op_td,oqp_none,oqp_some];(repeat' apply And.intro);all_goals rfl) | (simp only [smF,dg,renL,renLs,simprocAttr,bl,i64,smT,smO,smM,op_len,@op_td,oqp_none,oqp_some]) | skip))
            all_goals (first | done | (rw [mC_succ (a := fun i => a (s + i)) (N := N - s) (i := i) hbv];exact ⟨trivial,rfl⟩))
        · obtain rfl : i = N - s := by omega
          subst hR
          (repeat (first|apply zO (by decide +kernel)|apply zP (by decide +kernel)|(apply zS;(case h=>constructor<;>decide))|((first|apply l_go rfl|apply c_dec|apply zT rfl (by decide) rfl);(case hs=>(simp (disch := first|omega|exact kD rfl|exact kX rfl) only [smY,simprocAttr,bl,i64,smT,smO,smM,op_len,@op_td,oqp_none,oqp_some];exact rfl));first|refine c_bt ?_|refine c_bf ?_|refine zq ?_|(case hg=>assumption))))
          ((first|apply g_ret|apply g_end);case hres => (simp only [smR];simp (disch := first|omega|exact kD rfl|exact kX rfl) only [smY,simprocAttr,bl,i64,smT,smO,smM,op_len,@op_td,oqp_none,oqp_some];exact rfl))
          simp (disch := first|omega|exact kD rfl|exact kX rfl) only [smY,simprocAttr,bl,i64,smT,smO,smM,op_len,@op_td,oqp_none,oqp_some]
   ·-- X: bl,i64,smT,smO,smM,op_len,@op_td,oqp_none,oqp_some,hmn,op_drop,hdl
    (repeat (first|apply zO (by decide +kernel)|apply zP (by decide +kernel)|(apply zS;(case h=>constructor<;>decide))|((first|apply l_go rfl|apply c_dec|apply zT rfl (by decide) rfl);(case hs=>(simp (disch := first|omega|exact kD rfl|exact kX rfl) only [smY,simprocAttr,bl,i64,smT,smO,smM,op_len,@op_td,oqp_none,oqp_some];exact rfl));first|refine c_bt ?_|refine c_bf ?_|refine zq ?_|(case hg=>assumption))))
    refine l_cskip rfl (by decide) rfl ?_
    (repeat (first|apply zO (by decide +kernel)|apply zP (by decide +kernel)|(apply zS;(case h=>constructor<;>decide))|((first|apply l_go rfl|apply c_dec|apply zT rfl (by decide) rfl);(case hs=>(simp (disch := first|omega|exact kD rfl|exact kX rfl) only [smY,simprocAttr,bl,i64,smT,smO,smM,op_len,@op_td,oqp_none,oqp_some];exact rfl));first|refine c_bt ?_|refine c_bf ?_|refine zq ?_|(case hg=>assumption))))
    refine w_loop (α := {i : Nat // i ≤ N - s}) (fun i => st 61 (lk [(0,i64 (h + s)),(4,.ptr 0 0),(7,.own 1 0 i.1 4),(46,.sl (N - s) (op ((oP o N).drop s))),(47,i64 ((N - s : Nat) : Int)),(48,i64 i.1)]) (lkH [(0,⟨26,[i64 0,nilL],false⟩),(1,⟨45,mC (fun i => a (s + i)) (N - s) i.1,false⟩)]) 2) (fun i => N - s - i.1) ⟨0,by omega⟩ ?_ ?_
    ·have htk : (op ((oP o N).drop s)).take ((N - s) * 4) = op ((oP o N).drop s) := op_take (by rw [hdl])
     (refine Sub.heapL [0,23] rfl (by decide) ?_ (by simp only [smL];decide) ?_ ?_;all_goals (first|(simp only [plainC,smF,dg,renL,renLs,simprocAttr,bl,i64,smT,smO,smM,op_len,@op_td,oqp_none,oqp_some,op_drop,htk,mC_zero (fun i => a (s + i))];done) | (simp only [smF,dg,renL,renLs,simprocAttr,bl,i64,smT,smO,smM,op_len,@op_td,oqp_none,oqp_some,op_drop,htk,mC_zero (fun i => a (s + i))];(repeat' apply And.intro);all_goals rfl) | (simp only [smF,dg,renL,renLs,simprocAttr,bl,i64,smT,smO,smM,op_len,@op_td,oqp_none,oqp_some,op_drop,htk,mC_zero (fun i => a (s + i))]) | skip))
     all_goals (first | done | ((repeat' apply And.intro);all_goals (first | trivial | rfl)))
    ·rintro ⟨i,hi⟩
     simp only [st]
     have hl2 := aP_len (fun i => a (s + i)) i
     have happ := aP_succ (fun i => a (s + i)) i
     by_cases hil : i < N - s
     ·exfalso;omega
     ·obtain rfl : i = N - s := by omega
      subst hR
      (repeat (first|apply zO (by decide +kernel)|apply zP (by decide +kernel)|(apply zS;(case h=>constructor<;>decide))|((first|apply l_go rfl|apply c_dec|apply zT rfl (by decide) rfl);(case hs=>(simp (disch := first|omega|exact kD rfl|exact kX rfl) only [smY,simprocAttr,bl,i64,smT,smO,smM,op_len,@op_td,oqp_none,oqp_some];exact rfl));first|refine c_bt ?_|refine c_bf ?_|refine zq ?_|(case hg=>assumption))))
      ((first|apply g_ret|apply g_end);case hres => (simp only [smR];simp (disch := first|omega|exact kD rfl|exact kX rfl) only [smY,simprocAttr,bl,i64,smT,smO,smM,op_len,@op_td,oqp_none,oqp_some];exact rfl))
      simp (disch := first|omega|exact kD rfl|exact kX rfl) only [smY,simprocAttr,bl,i64,smT,smO,smM,op_len,@op_td,oqp_none,oqp_some]
end Go.Proofs.YteecamhdbilmoaaGreatDoor
namespace Go.Proofs.YteecamhdbilmoaaGreatDoor
open Go Go.Lg Go.Num
set_option maxRecDepth 100000
set_option maxHeartbeats 8000000
attribute [local irreducible] Go.Lg.lrun Go.Lg.lwp Go.Lg.exThen Go.Lg.exBlk Go.Lg.keep Go.Lg.goodPost sg mg sS qs sv oc mC oqc cSer
end Go.Proofs.YteecamhdbilmoaaGreatDoor
namespace Go.Proofs.YteecamhdbilmoaaGreatDoor
open Go Go.Lg Go.Num
set_option maxRecDepth 100000
attribute [local irreducible] Go.Lg.lrun Go.Lg.lwp Go.Lg.exThen Go.Lg.exBlk Go.Lg.keep Go.Lg.goodPost Go.Lg.mutPost
theorem sub_good (x y : Int) (hx : len x ≤ 549755813888) (hy : len y ≤ 549755813888) : PureGood Tryz.prog 100 [encI x,encI y] (encI (x - y)) := by
 have hy' := hy
 unfold len at hy'
 have hi := add_inner x (-y) (!decide (y < 0)) y.natAbs (by by_cases h : y < 0 <;> simp [h] <;> omega) hx hy
 rw [show x + -y = x - y by omega] at hi
 simp only [encI,bl] at hi ⊢
 refine good_of_lwp mix Tryz.func100 rfl (by decide) (nt := 13) rfl (rs := [.cell 4 43]) rfl (nle rfl) ?_
 (repeat (first|apply zO (by decide +kernel)|apply zP (by decide +kernel)|(apply zS;(case h=>constructor<;>decide))|((first|apply l_go rfl|apply c_dec);(case hs=>(simp (disch := first|omega|exact kD rfl|exact kX rfl) only [smY,simprocAttr,bl,u32,u64,i64];exact rfl));first|refine c_bt ?_|refine c_bf ?_|refine zq ?_)))
 refine l_call rfl (by decide) rfl (by simp (disch := first|omega|exact kD rfl|exact kX rfl) only [smY,simprocAttr,bl,u32,u64,i64];exact rfl) (trimmed_digs _ (by omega)) ?_
 (repeat (first|apply zO (by decide +kernel)|apply zP (by decide +kernel)|(apply zS;(case h=>constructor<;>decide))|((first|apply l_go rfl|apply c_dec|apply zT rfl (by decide) rfl);(case hs=>(simp (disch := first|omega|exact kD rfl|exact kX rfl) only [smY,simprocAttr,bl,u32,u64,i64];exact rfl));first|refine c_bt ?_|refine c_bf ?_|refine zq ?_|(case hg=>assumption))))
 ((first|apply g_ret|apply g_end);case hres => (simp only [smR];simp (disch := first|omega|exact kD rfl|exact kX rfl) only [smY,simprocAttr,bl,u32,u64,i64];exact rfl))
 simp (disch := first|omega|exact kD rfl|exact kX rfl) only [smY,simprocAttr,bl,u32,u64,i64]
end Go.Proofs.YteecamhdbilmoaaGreatDoor
namespace Go.Proofs.YteecamhdbilmoaaGreatDoor
open Go Go.Lg Go.Num
set_option maxRecDepth 100000
set_option maxHeartbeats 8000000
attribute [local irreducible] Go.Lg.lrun Go.Lg.lwp Go.Lg.exThen Go.Lg.exBlk Go.Lg.keep Go.Lg.goodPost sg mg oc mC twP tw bq kr chi eK gB
theorem term_good (d k : Nat) (hd1 : 1 ≤ d) (hd : d ≤ 1000) (hk : k ≤ 40) : PureGood Tryz.prog 99 [i64 d,i64 k] (encI ((d : Int) ^ k)) := by
 have g1 := of_good (d : Int) (by omega)
 have hb := nbits_len d
 have hdl : (digs d).length ≤ 1 := length_digs_le (k := 1) (by omega)
 have g2 := pow_good (d : Int) k (Nat.le_trans (len_pow_lt (e := 1) (by omega)) (by omega)) (by
  rw [Int.natAbs_natCast]
  by_cases h : nbits d ≤ 1
  ·exact .inl h
  ·refine .inr ((Nat.le_div_iff_mul_le (by omega)).2 ?_)
   have : k * nbits d ≤ 40 * 32 := Nat.mul_le_mul hk (by omega)
   omega) (by omega)
 generalize (d : Int) ^ k = p at *
 simp only [encI_sm,i64] at *
 refine good_of_lwp mix Tryz.func99 rfl (by decide) (nt := 15) rfl (rs := [.cell 4 43]) rfl (nle rfl) ?_
 (repeat (first|apply zO (by decide +kernel)|apply zP (by decide +kernel)|(apply zS;(case h=>constructor<;>decide))|((first|apply l_go rfl|apply c_dec|apply zT rfl (by decide) rfl);(case hs=>(simp (disch := first|omega|exact kD rfl|exact kX rfl) only [smY,simprocAttr,bl,i64,smT,smO];exact rfl));first|refine c_bt ?_|refine c_bf ?_|refine zq ?_|(case hg=>assumption))))
 ((first|apply g_ret|apply g_end);case hres => (simp only [smR];simp (disch := first|omega|exact kD rfl|exact kX rfl) only [smY,simprocAttr,bl,i64,smT,smO];exact rfl))
 simp (disch := first|omega|exact kD rfl|exact kX rfl) only [smY,simprocAttr,bl,i64,smT,smO]
theorem sum_good (k : Nat) (d1 d2 : Int) (n : Nat) (hd1 : d1 ∈ fdL) (hd2 : d2 ∈ fdL) (hk : k ≤ 40) (hn1 : 1 ≤ n) (hn : n ≤ 1000) : PureGood Tryz.prog 61 [i64 k,i64 d1,i64 d2,i64 n] (encI (tw k d1 d2 n)) := by
 have k0 : PureGood Tryz.prog 78 [i64 0] (encI (twP k d1 d2 n 0)) := by
  have e : twP k d1 d2 n 0 = 0 := by unfold twP;rfl
  rw [e]
  exact of_good 0 (by omega)
 have hl : tw k d1 d2 n = twP k d1 d2 n n := by unfold tw;rfl
 rw [hl]
 simp only [encI_sm,i64] at *
 refine good_of_lwp mix Tryz.func61 rfl (by decide) (nt := 45) rfl (rs := [.cell 8 43]) rfl (nle rfl) ?_
 (repeat (first|apply zO (by decide +kernel)|apply zP (by decide +kernel)|(apply zS;(case h=>constructor<;>decide))|((first|apply l_go rfl|apply c_dec|apply zT rfl (by decide) rfl);(case hs=>(simp (disch := first|omega|exact kD rfl|exact kX rfl) only [smY,simprocAttr,bl,i64,smT,smO];exact rfl));first|refine c_bt ?_|refine c_bf ?_|refine zq ?_|(case hg=>assumption))))
 refine w_loop (α := {j : Nat // j ≤ n}) (fun j => st 45 (lk [(0,i64 k),(1,i64 d1),(2,i64 d2),(3,i64 n),(8,.ptr 0 0),(9,.ptr 1 0),(10,i64 (j.1 + 1 : Nat))]) (lkH [(0,⟨43,[bl false,.lit (.slice none 0 0)],false⟩),(1,⟨43,[sg (twP k d1 d2 n j.1),mg (twP k d1 d2 n j.1)],false⟩)]) 2) (fun j => n - j.1) ⟨0,by omega⟩ ?_ ?_
 ·(refine Sub.heapL [0,2] rfl (by decide) ?_ (by simp only [smL];decide) ?_ ?_;all_goals (first|(simp only [plainC,smF,dg,renL,renLs,simprocAttr,bl,i64,smT,smO];done) | (simp only [smF,dg,renL,renLs,simprocAttr,bl,i64,smT,smO];(repeat' apply And.intro);all_goals rfl) | (simp only [smF,dg,renL,renLs,simprocAttr,bl,i64,smT,smO]) | skip))
  all_goals (first | done | ((repeat' apply And.intro);all_goals (first | trivial | rfl)))
 ·rintro ⟨j,hj⟩
  simp only [st]
  by_cases hjn : j < n
  ·by_cases hdv : n % (j + 1) = 0
   ·have hq1 : 1 ≤ n / (j + 1) := Nat.div_pos (Nat.le_of_dvd hn1 (Nat.dvd_of_mod_eq_zero hdv)) (by omega)
    have hq2 : n / (j + 1) ≤ n := Nat.div_le_self _ _
    have r1 := kron_good d1 hd1 (n / (j + 1)) hq1 (by omega)
    have r2 := kron_good d2 hd2 (j + 1) (by omega) (by omega)
    have v1 := isS_bd (kr_val hd1 hq1 (by omega)).2
    have v2 := isS_bd (kr_val hd2 (n := j + 1) (by omega) (by omega)).2
    have hv := chi_val hd1 hd2 hn (j := j + 1) (by omega) (by omega)
    have hce : kr d1 (n / (j + 1)) * kr d2 (j + 1) = chi d1 d2 n (j + 1) := by unfold chi;rfl
    have r3 := term_good (j + 1) k (by omega) (by omega) hk
    have b1 := len_dk' (d := j + 1) (k := k) (by omega) hk
    have b2 := len_twP (k := k) hd1 hd2 hn hk (j := j) (by omega)
    have e1 := twP_pos (k := k) (d1 := d1) (d2 := d2) hdv
    have e2 := twP_zer (k := k) (d1 := d1) (d2 := d2) hdv
    have e3 := twP_neg (k := k) (d1 := d1) (d2 := d2) hdv
    have r4 := add_good (twP k d1 d2 n j) (((j + 1 : Nat) : Int) ^ k) (by omega) (by omega)
    have r5 := sub_good (twP k d1 d2 n j) (((j + 1 : Nat) : Int) ^ k) (by omega) (by omega)
    generalize ((j + 1 : Nat) : Int) ^ k = p at *
    generalize chi d1 d2 n (j + 1) = c at *
    generalize hq : n / (j + 1) = q at *
    generalize kr d1 q = u at *
    generalize kr d2 (j + 1) = w at *
    simp only [i64] at r1 r2
    rcases hv with hc | hc | hc
    ·rw [← e1 hc] at r4
     clear e1 e2 e3 r5
     simp only [encI_sm,i64] at r3 r4
     (repeat (first|apply zO (by decide +kernel)|apply zP (by decide +kernel)|(apply zS;(case h=>constructor<;>decide))|((first|apply l_go rfl|apply c_dec|apply zT rfl (by decide) rfl);(case hs=>(simp (disch := first|omega|exact kD rfl|exact kX rfl) only [smY,simprocAttr,bl,i64,smT,smO,hq,hce];exact rfl));first|refine c_bt ?_|refine c_bf ?_|refine zq ?_|(case hg=>assumption))))
     refine ⟨⟨j + 1,by omega⟩,?_,by simp only;omega⟩
     (refine Sub.heapL [0,1] rfl (by decide) ?_ (by simp only [smL];decide) ?_ ?_;all_goals (first|(simp only [plainC,smF,dg,renL,renLs,simprocAttr,bl,i64,smT,smO];done) | (simp only [smF,dg,renL,renLs,simprocAttr,bl,i64,smT,smO];(repeat' apply And.intro);all_goals rfl) | (simp only [smF,dg,renL,renLs,simprocAttr,bl,i64,smT,smO]) | skip))
     all_goals (first | done | ((repeat' apply And.intro);all_goals (first | trivial | rfl)))
    ·have e4 := e2 hc
     clear e1 e2 e3 r4 r5
     simp only [encI_sm,i64] at r3
     (repeat (first|apply zO (by decide +kernel)|apply zP (by decide +kernel)|(apply zS;(case h=>constructor<;>decide))|((first|apply l_go rfl|apply c_dec|apply zT rfl (by decide) rfl);(case hs=>(simp (disch := first|omega|exact kD rfl|exact kX rfl) only [smY,simprocAttr,bl,i64,smT,smO,hq,hce];exact rfl));first|refine c_bt ?_|refine c_bf ?_|refine zq ?_|(case hg=>assumption))))
     refine ⟨⟨j + 1,by omega⟩,?_,by simp only;omega⟩
     simp only [e4]
     (refine Sub.heapL [0,1] rfl (by decide) ?_ (by simp only [smL];decide) ?_ ?_;all_goals (first|(simp only [plainC,smF,dg,renL,renLs,simprocAttr,bl,i64,smT,smO];done) | (simp only [smF,dg,renL,renLs,simprocAttr,bl,i64,smT,smO];(repeat' apply And.intro);all_goals rfl) | (simp only [smF,dg,renL,renLs,simprocAttr,bl,i64,smT,smO]) | skip))
     all_goals (first | done | ((repeat' apply And.intro);all_goals (first | trivial | rfl)))
    ·rw [← e3 hc] at r5
     clear e1 e2 e3 r4
     simp only [encI_sm,i64] at r3 r5
     (repeat (first|apply zO (by decide +kernel)|apply zP (by decide +kernel)|(apply zS;(case h=>constructor<;>decide))|((first|apply l_go rfl|apply c_dec|apply zT rfl (by decide) rfl);(case hs=>(simp (disch := first|omega|exact kD rfl|exact kX rfl) only [smY,simprocAttr,bl,i64,smT,smO,hq,hce];exact rfl));first|refine c_bt ?_|refine c_bf ?_|refine zq ?_|(case hg=>assumption))))
     refine ⟨⟨j + 1,by omega⟩,?_,by simp only;omega⟩
     (refine Sub.heapL [0,1] rfl (by decide) ?_ (by simp only [smL];decide) ?_ ?_;all_goals (first|(simp only [plainC,smF,dg,renL,renLs,simprocAttr,bl,i64,smT,smO];done) | (simp only [smF,dg,renL,renLs,simprocAttr,bl,i64,smT,smO];(repeat' apply And.intro);all_goals rfl) | (simp only [smF,dg,renL,renLs,simprocAttr,bl,i64,smT,smO]) | skip))
     all_goals (first | done | ((repeat' apply And.intro);all_goals (first | trivial | rfl)))
   ·have es : twP k d1 d2 n (j + 1) = twP k d1 d2 n j := twP_no hdv
    (repeat (first|apply zO (by decide +kernel)|apply zP (by decide +kernel)|(apply zS;(case h=>constructor<;>decide))|((first|apply l_go rfl|apply c_dec|apply zT rfl (by decide) rfl);(case hs=>(simp (disch := first|omega|exact kD rfl|exact kX rfl) only [smY,simprocAttr,bl,i64,smT,smO];exact rfl));first|refine c_bt ?_|refine c_bf ?_|refine zq ?_|(case hg=>assumption))))
    refine ⟨⟨j + 1,by omega⟩,?_,by simp only;omega⟩
    simp only [es]
    (refine Sub.heapL [0,1] rfl (by decide) ?_ (by simp only [smL];decide) ?_ ?_;all_goals (first|(simp only [plainC,smF,dg,renL,renLs,simprocAttr,bl,i64,smT,smO];done) | (simp only [smF,dg,renL,renLs,simprocAttr,bl,i64,smT,smO];(repeat' apply And.intro);all_goals rfl) | (simp only [smF,dg,renL,renLs,simprocAttr,bl,i64,smT,smO]) | skip))
    all_goals (first | done | ((repeat' apply And.intro);all_goals (first | trivial | rfl)))
  ·obtain rfl : j = n := by omega
   (repeat (first|apply zO (by decide +kernel)|apply zP (by decide +kernel)|(apply zS;(case h=>constructor<;>decide))|((first|apply l_go rfl|apply c_dec|apply zT rfl (by decide) rfl);(case hs=>(simp (disch := first|omega|exact kD rfl|exact kX rfl) only [smY,simprocAttr,bl,i64,smT,smO];exact rfl));first|refine c_bt ?_|refine c_bf ?_|refine zq ?_|(case hg=>assumption))))
   ((first|apply g_ret|apply g_end);case hres => (simp only [smR];simp (disch := first|omega|exact kD rfl|exact kX rfl) only [smY,simprocAttr,bl,i64,smT,smO];exact rfl))
   simp (disch := first|omega|exact kD rfl|exact kX rfl) only [smY,simprocAttr,bl,i64,smT,smO]
end Go.Proofs.YteecamhdbilmoaaGreatDoor
namespace Go.Proofs.YteecamhdbilmoaaGreatDoor
open Go Go.Lg Go.Num
set_option maxRecDepth 100000
set_option maxHeartbeats 8000000
attribute [local irreducible] Go.Lg.lrun Go.Lg.lwp Go.Lg.exThen Go.Lg.exBlk Go.Lg.keep Go.Lg.goodPost sg mg oc mC twP tw bq kr chi eK gB
theorem m2k_ne {k : Nat} (hk : 1 ≤ k) : (((-2 * (k : Int) : Int)) : Rat) ≠ 0 := by
 intro e
 have := Rat.intCast_inj.1 (e.trans Rat.intCast_zero.symm)
 omega
theorem lq_tw {k : Nat} {d1 d2 : Int} (h1 : d1 ∈ fdL) (h2 : d2 ∈ fdL) {n : Nat} (hn : n ≤ 1000) (hk : k ≤ 40) : len (tw k d1 d2 n) ≤ 14 := by
 have := len_twP (k := k) h1 h2 hn hk (Nat.le_refl n)
 unfold tw
 exact this
theorem lq_eK {k m : Nat} {d1 d2 : Int} (hk1 : 1 ≤ k) (hk : k ≤ 40) (hd1 : d1 ∈ fdL) (hd2 : d2 ∈ fdL) (hm : m ≤ 1000) : lq (eK k d1 d2 m) ≤ 410 := by
 by_cases h0 : m = 0
 ·subst h0
  by_cases e : d1 = 1
  ·subst e
   rw [eK_zero1]
   have b1 := lq_gB hk hd2
   have b2 := lq_i64 (z := -2 * (k : Int)) (by omega)
   have b3 := lq_div (gB k d2) (((-2 * (k : Int) : Int)) : Rat) (m2k_ne hk1)
   omega
  ·rw [eK_zero0 e]
   decide +kernel
 ·rw [eK_pos h0,lq_int]
  have := lq_tw (k := k - 1) hd1 hd2 hm (by omega)
  omega
theorem classical_good (k prec : Nat) (d1 d2 : Int) (hd1 : d1 ∈ fdL) (hd2 : d2 ∈ fdL) (hk1 : 2 ≤ k) (hk : k ≤ 40) (hp : prec ≤ 1000) : PureGood Tryz.prog 41 [i64 k,i64 d1,i64 d2,i64 prec] (.sl prec (qc (aP (eK k d1 d2) prec))) := by
 obtain ⟨_,hr1⟩ := fd_rng hd1
 obtain ⟨_,hr2⟩ := fd_rng hd2
 simp only [i64]
 refine good_of_lwp mix Tryz.func41 rfl (by decide) (nt := 53) rfl (rs := [.tmp 8]) rfl (nle rfl) ?_
 (repeat (first|apply zO (by decide +kernel)|apply zP (by decide +kernel)|(apply zS;(case h=>constructor<;>decide))|((first|apply l_go rfl|apply c_dec|apply zT rfl (by decide) rfl);(case hs=>(simp (disch := first|omega|exact kD rfl|exact kX rfl) only [smY,simprocAttr,bl,i64,smT,smO];exact rfl));first|refine c_bt ?_|refine c_bf ?_|refine zq ?_|(case hg=>assumption))))
 refine w_loop (α := {m : Nat // m ≤ prec}) (fun m => st 53 (lk [(0,i64 k),(1,i64 d1),(2,i64 d2),(3,i64 prec),(9,nV 0 m.1),(14,i64 prec),(15,i64 m.1)]) (lkH (nB 0 m.1 (qc (aP (eK k d1 d2) m.1)))) 1) (fun m => prec - m.1) ⟨0,by omega⟩ ?_ ?_
 ·simp only [nV_zero,nB_zero]
  (refine Sub.plain ?_;simp only [smF,dg,renL,renLs,simprocAttr,bl,i64,smT,smO])
  all_goals (first | done | ((repeat' apply And.intro);all_goals (first | trivial | rfl)))
 ·rintro ⟨m,hm⟩
  simp only [st]
  have hla := aP_len (eK k d1 d2) m
  have happ := aP_succ (eK k d1 d2) m
  by_cases hmp : m < prec
  ·by_cases h0 : m = 0
   ·simp only [nV_of h0,nB_of h0]
    subst h0
    have r0 := qof_good 0 (by omega)
    by_cases he : d1 = 1
    ·subst he
     have r1 := quadB_good hd2 k (by omega) hk
     have r2 := qof_good (-2 * (k : Int)) (by omega)
     have b1 := lq_gB hk hd2
     have b2 := lq_i64 (z := -2 * (k : Int)) (by omega)
     have r3 := quo_good (gB k d2) (((-2 * (k : Int) : Int)) : Rat) (m2k_ne (by omega)) (by omega) (by omega)
     rw [← eK_zero1] at r3
     generalize hc0 : eK k 1 d2 0 = c0 at *
     generalize gB k d2 = bk at *
     simp only [encQ_sm,i64] at r0 r1 r2 r3
     (repeat (first|apply zO (by decide +kernel)|apply zP (by decide +kernel)|(apply zS;(case h=>constructor<;>decide))|((first|apply l_go rfl|apply c_dec|apply zT rfl (by decide) rfl);(case hs=>(simp (disch := first|omega|exact kD rfl|exact kX rfl) only [smY,simprocAttr,bl,i64,smT,smO];exact rfl));first|refine c_bt ?_|refine c_bf ?_|refine zq ?_|(case hg=>assumption))))
     refine ⟨⟨0 + 1,by omega⟩,?_,by simp only;omega⟩
     simp only [nV_succ,nB_succ]
     (refine Sub.heapL [32] rfl (by decide) ?_ (by simp only [smL];decide) ?_ ?_;all_goals (first|(simp only [plainC,smF,dg,renL,renLs,simprocAttr,bl,i64,smT,smO];done) | (simp only [smF,dg,renL,renLs,simprocAttr,bl,i64,smT,smO];(repeat' apply And.intro);all_goals rfl) | (simp only [smF,dg,renL,renLs,simprocAttr,bl,i64,smT,smO]) | skip))
     all_goals (first | done | (have e : aP (eK k 1 d2) 1 = [c0] := happ;rw [e,← qc_one]))
    ·rw [show ((0 : Int) : Rat) = eK k d1 d2 0 by rw [eK_zero0 he];rfl] at r0
     generalize hc0 : eK k d1 d2 0 = c0 at *
     simp only [encQ_sm,i64] at r0
     (repeat (first|apply zO (by decide +kernel)|apply zP (by decide +kernel)|(apply zS;(case h=>constructor<;>decide))|((first|apply l_go rfl|apply c_dec|apply zT rfl (by decide) rfl);(case hs=>(simp (disch := first|omega|exact kD rfl|exact kX rfl) only [smY,simprocAttr,bl,i64,smT,smO];exact rfl));first|refine c_bt ?_|refine c_bf ?_|refine zq ?_|(case hg=>assumption))))
     refine ⟨⟨0 + 1,by omega⟩,?_,by simp only;omega⟩
     simp only [nV_succ,nB_succ]
     (refine Sub.heapL [14] rfl (by decide) ?_ (by simp only [smL];decide) ?_ ?_;all_goals (first|(simp only [plainC,smF,dg,renL,renLs,simprocAttr,bl,i64,smT,smO];done) | (simp only [smF,dg,renL,renLs,simprocAttr,bl,i64,smT,smO];(repeat' apply And.intro);all_goals rfl) | (simp only [smF,dg,renL,renLs,simprocAttr,bl,i64,smT,smO]) | skip))
     all_goals (first | done | (have e : aP (eK k d1 d2) 1 = [c0] := happ;rw [e,← qc_one]))
   ·simp only [nV_ne h0,nB_ne h0]
    have r1 := sum_good (k - 1) d1 d2 m hd1 hd2 (by omega) (by omega) (by omega)
    have b1 := lq_tw (k := k - 1) (n := m) hd1 hd2 (by omega) (by omega)
    have r2 := whole_good (tw (k - 1) d1 d2 m) (by omega)
    rw [← eK_pos h0] at r2
    have e2 : (k : Int) - 1 = ((k - 1 : Nat) : Int) := by omega
    generalize hcm : eK k d1 d2 m = cm at *
    generalize tw (k - 1) d1 d2 m = s at *
    generalize k - 1 = k' at *
    simp only [encQ_sm,encI_sm,i64] at r1 r2
    (repeat (first|apply zO (by decide +kernel)|apply zP (by decide +kernel)|(apply zS;(case h=>constructor<;>decide))|((first|apply l_go rfl|apply c_dec|apply zT rfl (by decide) rfl);(case hs=>(simp (disch := first|omega|exact kD rfl|exact kX rfl) only [smY,simprocAttr,bl,i64,smT,smO,e2];exact rfl));first|refine c_bt ?_|refine c_bf ?_|refine zq ?_|(case hg=>assumption))))
    refine ⟨⟨m + 1,by omega⟩,?_,by simp only;omega⟩
    simp only [nV_succ,nB_succ]
    (refine Sub.heapL [15] rfl (by decide) ?_ (by simp only [smL];decide) ?_ ?_;all_goals (first|(simp only [plainC,smF,dg,renL,renLs,simprocAttr,bl,i64,smT,smO];done) | (simp only [smF,dg,renL,renLs,simprocAttr,bl,i64,smT,smO];(repeat' apply And.intro);all_goals rfl) | (simp only [smF,dg,renL,renLs,simprocAttr,bl,i64,smT,smO]) | skip))
    all_goals (first | done | rw [happ,← qc_app])
  ·obtain rfl : m = prec := by omega
   by_cases h0 : m = 0
   ·simp only [nV_of h0,nB_of h0]
    subst h0
    have hq : qc (aP (eK k d1 d2) 0) = [] := rfl
    rw [hq]
    (repeat (first|apply zO (by decide +kernel)|apply zP (by decide +kernel)|(apply zS;(case h=>constructor<;>decide))|((first|apply l_go rfl|apply c_dec|apply zT rfl (by decide) rfl);(case hs=>(simp (disch := first|omega|exact kD rfl|exact kX rfl) only [smY,simprocAttr,bl,i64,smT,smO];exact rfl));first|refine c_bt ?_|refine c_bf ?_|refine zq ?_|(case hg=>assumption))))
    ((first|apply g_ret|apply g_end);case hres => (simp only [smR];simp (disch := first|omega|exact kD rfl|exact kX rfl) only [smY,simprocAttr,bl,i64,smT,smO];exact rfl))
    simp (disch := first|omega|exact kD rfl|exact kX rfl) only [smY,simprocAttr,bl,i64,smT,smO]
   ·simp only [nV_ne h0,nB_ne h0]
    (repeat (first|apply zO (by decide +kernel)|apply zP (by decide +kernel)|(apply zS;(case h=>constructor<;>decide))|((first|apply l_go rfl|apply c_dec|apply zT rfl (by decide) rfl);(case hs=>(simp (disch := first|omega|exact kD rfl|exact kX rfl) only [smY,simprocAttr,bl,i64,smT,smO];exact rfl));first|refine c_bt ?_|refine c_bf ?_|refine zq ?_|(case hg=>assumption))))
    ((first|apply g_ret|apply g_end);case hres => (simp only [smR];simp (disch := first|omega|exact kD rfl|exact kX rfl) only [smY,simprocAttr,bl,i64,smT,smO];exact rfl))
    simp (disch := first|omega|exact kD rfl|exact kX rfl) only [smY,simprocAttr,bl,i64,smT,smO]
end Go.Proofs.YteecamhdbilmoaaGreatDoor
namespace Go.Proofs.YteecamhdbilmoaaGreatDoor
open Go Go.Lg Go.Num
set_option maxRecDepth 100000
set_option maxHeartbeats 8000000
attribute [local irreducible] Go.Lg.lrun Go.Lg.lwp Go.Lg.exThen Go.Lg.exBlk Go.Lg.keep Go.Lg.goodPost sg mg oc mC twP tw bq kr chi eK gB cSer
theorem cSer_form (h : Int) (a : Nat → Rat) (N : Nat) : ∃ x M L,cSer h a N = .agg [i64 x,.sl M (qc L)] ∧ L.length = M ∧ M ≤ N ∧ x = h + ((N : Int) - M) := by
 obtain ⟨h1,_,_⟩ := ordN_spec a N
 exact ⟨_,_,_,cSer_eq rfl,aP_len _ _,by omega,by omega⟩
end Go.Proofs.YteecamhdbilmoaaGreatDoor
namespace Go.Proofs.YteecamhdbilmoaaGreatDoor
open Go Go.Lg Go.Num
set_option maxRecDepth 100000
set_option maxHeartbeats 8000000
attribute [local irreducible] Go.Lg.lrun Go.Lg.lwp Go.Lg.exThen Go.Lg.exBlk Go.Lg.keep Go.Lg.goodPost sg mg oc mC twP tw bq kr chi eK gB cSer oqc op oqp
theorem svalid_all (x : Int) (M : Nat) (cs : List LV) (h1 : -100 ≤ x) (h2 : x + M ≤ 1000) : PureGood Tryz.prog 66 [.agg [i64 x,.sl M cs]] (bl true) := by
 simp only [i64,bl]
 refine good_of_lwp mix Tryz.func66 rfl (by decide) (nt := 20) rfl (rs := [.tmp 2]) rfl (nle rfl) ?_
 (repeat (first|apply zO (by decide +kernel)|apply zP (by decide +kernel)|(apply zS;(case h=>constructor<;>decide))|((first|apply l_go rfl|apply c_dec|apply zT rfl (by decide) rfl);(case hs=>(simp (disch := first|omega|exact kD rfl|exact kX rfl) only [smY,simprocAttr,bl,i64,smT,smO,smM];exact rfl));first|refine c_bt ?_|refine c_bf ?_|refine zq ?_|(case hg=>assumption))))
 ((first|apply g_ret|apply g_end);case hres => (simp only [smR];simp (disch := first|omega|exact kD rfl|exact kX rfl) only [smY,simprocAttr,bl,i64,smT,smO,smM];exact rfl))
 simp (disch := first|omega|exact kD rfl|exact kX rfl) only [smY,simprocAttr,bl,i64,smT,smO,smM]
theorem tidy_all (h : Int) (o : Nat → Option Rat) (a : Nat → Rat) (N : Nat) (ha : ∀ i,i < N → a i = (o i).getD 0) (h1 : -100 ≤ h) (h2 : h + N ≤ 1000) (ba : ∀ i,i < N → lq (a i) ≤ 1000) : PureGood Tryz.prog 67 [.agg [i64 h,.sl N (op (oP o N))]] (cSer h a N) := by
 have g := build_all h o a N ha h1 h2 ba
 have hl := oP_len o N
 obtain ⟨x,M,L,hR,hLM,hM,hx⟩ := cSer_form h a N
 rw [hR] at g ⊢
 clear hR
 simp only [i64] at *
 refine good_of_lwp mix Tryz.func67 rfl (by decide) (nt := 14) rfl (rs := [.cell 2 26]) rfl (nle rfl) ?_
 (repeat (first|apply zO (by decide +kernel)|apply zP (by decide +kernel)|(apply zS;(case h=>constructor<;>decide))|((first|apply l_go rfl|apply c_dec|apply zT rfl (by decide) rfl);(case hs=>(simp (disch := first|omega|exact kD rfl|exact kX rfl) only [smY,simprocAttr,bl,i64,smT,smO,smM];exact rfl));first|refine c_bt ?_|refine c_bf ?_|refine zq ?_|(case hg=>assumption))))
 ((first|apply g_ret|apply g_end);case hres => (simp only [smR];simp (disch := first|omega|exact kD rfl|exact kX rfl) only [smY,simprocAttr,bl,i64,smT,smO,smM];exact rfl))
 simp (disch := first|omega|exact kD rfl|exact kX rfl) only [smY,simprocAttr,bl,i64,smT,smO,smM]
theorem snormal_all (h : Int) (o : Nat → Option Rat) (a : Nat → Rat) (N : Nat) (ha : ∀ i,i < N → a i = (o i).getD 0) (h1 : -100 ≤ h) (h2 : h + N ≤ 1000) (ba : ∀ i,i < N → lq (a i) ≤ 1000) : PureGood Tryz.prog 40 [.agg [i64 h,.sl N (op (oP o N))]] (.tup [cSer h a N,i64 0]) := by
 have g2 := tidy_all h o a N ha h1 h2 ba
 have g1 := svalid_all h N (op (oP o N)) h1 h2
 have hl := oP_len o N
 obtain ⟨x,M,L,hR,hLM,hM,hx⟩ := cSer_form h a N
 rw [hR] at g2 ⊢
 clear hR
 simp only [i64,bl] at *
 refine good_of_lwp mix Tryz.func40 rfl (by decide) (nt := 10) rfl (rs := [.cell 2 26,.tmp 3]) rfl (nle rfl) ?_
 (repeat (first|apply zO (by decide +kernel)|apply zP (by decide +kernel)|(apply zS;(case h=>constructor<;>decide))|((first|apply l_go rfl|apply c_dec|apply zT rfl (by decide) rfl);(case hs=>(simp (disch := first|omega|exact kD rfl|exact kX rfl) only [smY,simprocAttr,bl,i64,smT,smO,smM];exact rfl));first|refine c_bt ?_|refine c_bf ?_|refine zq ?_|(case hg=>assumption))))
 ((first|apply g_ret|apply g_end);case hres => (simp only [smR];simp (disch := first|omega|exact kD rfl|exact kX rfl) only [smY,simprocAttr,bl,i64,smT,smO,smM];exact rfl))
 simp (disch := first|omega|exact kD rfl|exact kX rfl) only [smY,simprocAttr,bl,i64,smT,smO,smM]
theorem qmul_none (q : Rat) (h : lq q ≤ 1000) : PureGood Tryz.prog 70 [encQ q,.agg [.lit (.bool false),.sl 0 [],.lit (.bool false),.sl 0 []]] (encQ 0) := by
 have e0 : encI 0 = .agg [.lit (.bool false),.sl 0 []] := by with_unfolding_all rfl
 have hz : len 0 = 0 := by simp [len,digs_zero]
 have h1 := mul_good q.num 0 (by unfold lq at h;omega) (by omega)
 have h2 := mul_good (q.den : Int) 0 (by unfold lq at h;omega) (by omega)
 have h3 := over_good 0 0 (by omega) (by omega)
 rw [Int.mul_zero] at h1 h2
 rw [show Rat.divInt 0 0 = 0 from rfl] at h3
 rw [e0] at h1 h2 h3
 simp only [encQ_sm,encI_sm] at *
 refine good_of_lwp mix Tryz.func70 rfl (by decide) (nt := 16) rfl (rs := [.cell 4 45]) rfl (nle rfl) ?_
 (repeat (first|apply zO (by decide +kernel)|apply zP (by decide +kernel)|(apply zS;(case h=>constructor<;>decide))|((first|apply l_go rfl|apply c_dec|apply zT rfl (by decide) rfl);(case hs=>(simp (disch := first|omega|exact kD rfl|exact kX rfl) only [smY,simprocAttr,bl,i64,smT,smO,smM];exact rfl));first|refine c_bt ?_|refine c_bf ?_|refine zq ?_|(case hg=>assumption))))
 ((first|apply g_ret|apply g_end);case hres => (simp only [smR];simp (disch := first|omega|exact kD rfl|exact kX rfl) only [smY,simprocAttr,bl,i64,smT,smO,smM];exact rfl))
 simp (disch := first|omega|exact kD rfl|exact kX rfl) only [smY,simprocAttr,bl,i64,smT,smO,smM]
theorem oc_take' {l : List (Option Rat)} {m : Nat} (h : m = l.length * 4) : (oc l).take m = oc l := List.take_of_length_le (by rw [oc_len];omega)
def upT (a : Nat → Rat) (t n : Nat) : Rat := if n % t = 0 then a (n / t) else 0
def upO (a : Nat → Rat) (t n : Nat) : Option Rat := if n % t = 0 then some (a (n / t)) else none
theorem upO_get (a : Nat → Rat) (t n : Nat) : (upO a t n).getD 0 = upT a t n := by unfold upO upT;split <;> rfl
def stO (w : Nat → Option Rat) (m n : Nat) : Option Rat := if n < m then w n else none
theorem stO_zero (w : Nat → Option Rat) (N : Nat) : oP (stO w 0) N = List.replicate N none := by
 apply List.ext_getElem
 ·simp [oP]
 ·intro i h1 h2
  simp [oP,stO]
theorem stO_all (w : Nat → Option Rat) (N : Nat) : oP (stO w N) N = oP w N := by
 apply List.ext_getElem
 ·simp [oP]
 ·intro i h1 h2
  simp [oP] at h1
  simp [oP,stO,h1]
theorem stO_none {w : Nat → Option Rat} {m N : Nat} (h : w m = none) : oP (stO w (m + 1)) N = oP (stO w m) N := by
 apply List.ext_getElem
 ·simp [oP]
 ·intro i h1 h2
  simp only [oP,stO,List.getElem_map,List.getElem_range]
  by_cases e : i = m
  ·subst e;rw [if_pos (by omega),if_neg (by omega),h]
  ·by_cases e2 : i < m
   ·rw [if_pos (by omega),if_pos (by omega)]
   ·rw [if_neg (by omega),if_neg (by omega)]
theorem stO_set {w : Nat → Option Rat} {m N : Nat} {q : Rat} (h : w m = some q) : (oP (stO w m) N).set m (some q) = oP (stO w (m + 1)) N := by
 apply List.ext_getElem
 ·simp [oP]
 ·intro i h1 h2
  simp only [List.getElem_set,oP,stO,List.getElem_map,List.getElem_range]
  by_cases e : m = i
  ·subst e;rw [if_pos rfl,if_pos (by omega),h]
  ·rw [if_neg e]
   by_cases e2 : i < m
   ·rw [if_pos (by omega),if_pos (by omega)]
   ·rw [if_neg (by omega),if_neg (by omega)]
theorem stO_get {w : Nat → Option Rat} {m N : Nat} (h : m < N) : (oP (stO w m) N).getD m none = none := by
 rw [oP_get h,stO,if_neg (by omega)]
theorem raise0_good (a : Nat → Rat) (N t : Nat) (hN : N ≤ 1000) (ht1 : 1 ≤ t) (ht : t ≤ 1000) : PureGood Tryz.prog 50 [.sl N (qc (aP a N)),i64 t,bl false] (.sl N (op (oP (upO a t) N))) := by
 have hl := aP_len a N
 have hl2 : ∀ m,(oP (stO (upO a t) m) N).length = N := fun m => oP_len _ _
 rw [← stO_all (upO a t) N]
 simp only [i64,bl] at *
 refine good_of_lwp mix Tryz.func50 rfl (by decide) (nt := 48) rfl (rs := [.tmp 6]) rfl (nle rfl) ?_
 (repeat (first|apply zO (by decide +kernel)|apply zP (by decide +kernel)|(apply zS;(case h=>constructor<;>decide))|((first|apply l_go rfl|apply c_dec|apply zT rfl (by decide) rfl);(case hs=>(simp (disch := first|omega|exact kD rfl|exact kX rfl) only [smY,simprocAttr,bl,i64,smT,smO,hl2,@pvs_oc,@oc_take'];exact rfl));first|refine c_bt ?_|refine c_bf ?_|refine zq ?_|(case hg=>assumption))))
 refine w_loop (α := {n : Nat // n ≤ N}) (fun n => st 48 (lk [(0,.sl N (qc (aP a N))),(1,i64 t),(2,bl false),(7,.own 0 0 N 4),(13,i64 N),(14,i64 n.1)]) (lkH [(0,⟨45,oc (oP (stO (upO a t) n.1) N),false⟩)]) 1) (fun n => N - n.1) ⟨0,by omega⟩ ?_ ?_
 ·simp only [stO_zero]
  (refine Sub.heap1 3 ?_ (by simp only [smF,dg,renL,renLs,simprocAttr,bl,i64,smT,smO,hl2,@pvs_oc,@oc_take'];exact rfl) ?_ ?_;all_goals (first | exact dgs_plain _ | with_reducible rfl | (simp only [smF,dg,renL,renLs,simprocAttr,bl,i64,smT,smO,hl2,@pvs_oc,@oc_take'];done) | (simp only [smF,dg,renL,renLs,simprocAttr,bl,i64,smT,smO,hl2,@pvs_oc,@oc_take']) | skip))
  all_goals (first | done | (rw [oc_zeros]) | trace_state)
 ·rintro ⟨n,hn⟩
  simp only [st]
  by_cases hlt : n < N
  ·have hq : n / t ≤ n := Nat.div_le_self _ _
   have e1 : (aP a N).getD (n / t) 0 = a (n / t) := aP_get (by omega)
   by_cases hd : n % t = 0
   ·have hw : upO a t n = some (a (n / t)) := if_pos hd
    have hs := stO_set (N := N) hw
    have hos := oc_set (l := oP (stO (upO a t) n) N) (j := n) (by rw [oP_len];exact hlt) (a (n / t))
    rw [hs] at hos
    generalize a (n / t) = av at *
    generalize hqv : n / t = q at *
    (repeat (first|apply zO (by decide +kernel)|apply zP (by decide +kernel)|(apply zS;(case h=>constructor<;>decide))|((first|apply l_go rfl|apply c_dec|apply zT rfl (by decide) rfl);(case hs=>(simp (disch := first|omega|exact kD rfl|exact kX rfl) only [smY,simprocAttr,bl,i64,smT,smO,hl2,@pvs_oc,@oc_take',e1,hqv];exact rfl));first|refine c_bt ?_|refine c_bf ?_|refine zq ?_|(case hg=>assumption))))
    refine ⟨⟨n + 1,by omega⟩,?_,by simp only;omega⟩
    (refine Sub.heap1 0 ?_ (by simp only [smF,dg,renL,renLs,simprocAttr,bl,i64,smT,smO,hl2,@pvs_oc,@oc_take'];exact rfl) ?_ ?_;all_goals (first | exact dgs_plain _ | with_reducible rfl | (simp only [smF,dg,renL,renLs,simprocAttr,bl,i64,smT,smO,hl2,@pvs_oc,@oc_take'];done) | (simp only [smF,dg,renL,renLs,simprocAttr,bl,i64,smT,smO,hl2,@pvs_oc,@oc_take']) | skip))
    all_goals (first | done | exact hos | trace_state)
   ·have hw : upO a t n = none := if_neg hd
    have hs := stO_none (N := N) hw
    (repeat (first|apply zO (by decide +kernel)|apply zP (by decide +kernel)|(apply zS;(case h=>constructor<;>decide))|((first|apply l_go rfl|apply c_dec|apply zT rfl (by decide) rfl);(case hs=>(simp (disch := first|omega|exact kD rfl|exact kX rfl) only [smY,simprocAttr,bl,i64,smT,smO,hl2,@pvs_oc,@oc_take'];exact rfl));first|refine c_bt ?_|refine c_bf ?_|refine zq ?_|(case hg=>assumption))))
    refine ⟨⟨n + 1,by omega⟩,?_,by simp only;omega⟩
    simp only [hs]
    (refine Sub.heap1 0 ?_ (by simp only [smF,dg,renL,renLs,simprocAttr,bl,i64,smT,smO,hl2,@pvs_oc,@oc_take'];exact rfl) ?_ ?_;all_goals (first | exact dgs_plain _ | with_reducible rfl | (simp only [smF,dg,renL,renLs,simprocAttr,bl,i64,smT,smO,hl2,@pvs_oc,@oc_take'];done) | (simp only [smF,dg,renL,renLs,simprocAttr,bl,i64,smT,smO,hl2,@pvs_oc,@oc_take']) | skip))
    all_goals (first | done | exact hos | trace_state)
  ·obtain rfl : n = N := by omega
   have htk : (oc (oP (stO (upO a t) n) n)).take (n * 4) = oc (oP (stO (upO a t) n) n) := oc_take' (by rw [oP_len])
   (repeat (first|apply zO (by decide +kernel)|apply zP (by decide +kernel)|(apply zS;(case h=>constructor<;>decide))|((first|apply l_go rfl|apply c_dec|apply zT rfl (by decide) rfl);(case hs=>(simp (disch := first|omega|exact kD rfl|exact kX rfl) only [smY,simprocAttr,bl,i64,smT,smO,hl2,@pvs_oc,htk];exact rfl));first|refine c_bt ?_|refine c_bf ?_|refine zq ?_|(case hg=>assumption))))
   ((first|apply g_ret|apply g_end);case hres => (simp only [smR];simp (disch := first|omega|exact kD rfl|exact kX rfl) only [smY,simprocAttr,bl,i64,smT,smO,hl2,@pvs_oc,htk];exact rfl))
   simp (disch := first|omega|exact kD rfl|exact kX rfl) only [smY,simprocAttr,bl,i64,smT,smO,hl2,@pvs_oc,htk]
def dfT (a : Nat → Rat) (t n : Nat) : Rat := a n - ((t : Int) : Rat) * upT a t n
def dfO (a : Nat → Rat) (t n : Nat) : Option Rat := some (dfT a t n)
theorem raise1_good (a : Nat → Rat) (N t : Nat) (hN : N ≤ 1000) (ht1 : 1 ≤ t) (ht : t ≤ 1000) (ba : ∀ i,i < N → lq (a i) ≤ 1000) : PureGood Tryz.prog 50 [.sl N (qc (aP a N)),i64 t,bl true] (.sl N (qc (aP (dfT a t) N))) := by
 have hl := aP_len a N
 have hl2 : ∀ m,(oP (stO (dfO a t) m) N).length = N := fun m => oP_len _ _
 have g1 := qof_good (t : Int) (by omega)
 have b1 := lq_i64 (z := (t : Int)) (by omega)
 rw [← aP_oP (dfT a t),show (fun i => some (dfT a t i)) = dfO a t from rfl,← stO_all (dfO a t) N]
 simp only [i64,bl,encQ_sm] at *
 refine good_of_lwp mix Tryz.func50 rfl (by decide) (nt := 48) rfl (rs := [.tmp 6]) rfl (nle rfl) ?_
 (repeat (first|apply zO (by decide +kernel)|apply zP (by decide +kernel)|(apply zS;(case h=>constructor<;>decide))|((first|apply l_go rfl|apply c_dec|apply zT rfl (by decide) rfl);(case hs=>(simp (disch := first|omega|exact kD rfl|exact kX rfl) only [smY,simprocAttr,bl,i64,smT,smO,hl2];exact rfl));first|refine c_bt ?_|refine c_bf ?_|refine zq ?_|(case hg=>assumption))))
 refine w_loop (α := {n : Nat // n ≤ N}) (fun n => st 48 (lk [(0,.sl N (qc (aP a N))),(1,i64 t),(2,bl true),(7,.own 0 0 N 4),(13,i64 N),(14,i64 n.1)]) (lkH [(0,⟨45,oc (oP (stO (dfO a t) n.1) N),false⟩)]) 1) (fun n => N - n.1) ⟨0,by omega⟩ ?_ ?_
 ·simp only [stO_zero]
  (refine Sub.heap1 3 ?_ (by simp only [smF,dg,renL,renLs,simprocAttr,bl,i64,smT,smO,hl2];exact rfl) ?_ ?_;all_goals (first | exact dgs_plain _ | with_reducible rfl | (simp only [smF,dg,renL,renLs,simprocAttr,bl,i64,smT,smO,hl2];done) | (simp only [smF,dg,renL,renLs,simprocAttr,bl,i64,smT,smO,hl2]) | skip))
  all_goals (first | done | (rw [oc_zeros]) | trace_state)
 ·rintro ⟨n,hn⟩
  simp only [st]
  by_cases hlt : n < N
  ·have hq : n / t ≤ n := Nat.div_le_self _ _
   have e1 : (aP a N).getD (n / t) 0 = a (n / t) := aP_get (by omega)
   have e2 : (aP a N).getD n 0 = a n := aP_get hlt
   have b2 := ba n hlt
   have b3 := ba (n / t) (by omega)
   by_cases hd : n % t = 0
   ·have hu : upT a t n = a (n / t) := if_pos hd
    have b4 := lq_mul ((t : Int) : Rat) (a (n / t))
    have g2 := qmul_good ((t : Int) : Rat) (a (n / t)) (by omega) (by omega)
    have g3 := qsub_good (a n) (((t : Int) : Rat) * a (n / t)) (by omega) (by omega)
    have hw : dfO a t n = some (a n - ((t : Int) : Rat) * a (n / t)) := by rw [← hu];rfl
    have hs := stO_set (N := N) hw
    have ho1 := oc_set (l := oP (stO (dfO a t) n) N) (j := n) (by rw [oP_len];exact hlt) (a (n / t))
    have hln : ((oP (stO (dfO a t) n) N).set n (some (a (n / t)))).length = N := by rw [List.length_set,oP_len]
    have hgd : ((oP (stO (dfO a t) n) N).set n (some (a (n / t)))).getD n none = some (a (n / t)) := by
     rw [List.getD_eq_getElem?_getD,List.getElem?_set_self (by rw [oP_len];exact hlt)];rfl
    have ho2 := oc_set (l := (oP (stO (dfO a t) n) N).set n (some (a (n / t)))) (j := n) (by rw [hln];exact hlt) (a n - ((t : Int) : Rat) * a (n / t))
    rw [List.set_set,hs] at ho2
    clear hw hs b4
    generalize hS : (oP (stO (dfO a t) n) N).set n (some (a (n / t))) = S1 at *
    generalize a n - ((t : Int) : Rat) * a (n / t) = dv at *
    generalize ((t : Int) : Rat) * a (n / t) = mv at *
    generalize a (n / t) = av at *
    generalize a n = an at *
    generalize hqv : n / t = q at *
    simp only [encQ_sm] at g2 g3
    (repeat (first|apply zO (by decide +kernel)|apply zP (by decide +kernel)|(apply zS;(case h=>constructor<;>decide))|((first|apply l_go rfl|apply c_dec|apply zT rfl (by decide) rfl);(case hs=>(simp (disch := first|omega|exact kD rfl|exact kX rfl) only [smY,simprocAttr,bl,i64,smT,smO,hl2,e1,e2,hqv,ho1,hln,hgd];exact rfl));first|refine c_bt ?_|refine c_bf ?_|refine zq ?_|(case hg=>assumption))))
    refine ⟨⟨n + 1,by omega⟩,?_,by simp only;omega⟩
    (refine Sub.heap1 0 ?_ (by simp only [smF,dg,renL,renLs,simprocAttr,bl,i64,smT,smO,hl2];exact rfl) ?_ ?_;all_goals (first | exact dgs_plain _ | with_reducible rfl | (simp only [smF,dg,renL,renLs,simprocAttr,bl,i64,smT,smO,hl2];done) | (simp only [smF,dg,renL,renLs,simprocAttr,bl,i64,smT,smO,hl2]) | skip))
    all_goals (first | done | exact ho2 | trace_state)
   ·have hu : upT a t n = 0 := if_neg hd
    have g2 := qmul_none ((t : Int) : Rat) (by omega)
    have g3 := qsub_good (a n) 0 (by omega) (by have : lq 0 ≤ 3 := by decide +kernel
                                                omega)
    have hw : dfO a t n = some (a n - 0) := by
     show some (a n - ((t : Int) : Rat) * upT a t n) = _
     rw [hu,Rat.mul_zero]
    have hs := stO_set (N := N) hw
    have ho2 := oc_set (l := oP (stO (dfO a t) n) N) (j := n) (by rw [oP_len];exact hlt) (a n - 0)
    have hgd : ((oc (oP (stO (dfO a t) n) N)).drop (n * 4)).take 4 = [.lit (.bool false),.lit (.slice none 0 0),.lit (.bool false),.lit (.slice none 0 0)] := by
     rw [oc_td (by rw [oP_len];exact hlt),stO_get hlt,oqc_none]
    rw [hs] at ho2
    clear hw hs
    generalize a n - 0 = dv at *
    generalize a n = an at *
    simp only [encQ_sm] at g2 g3
    (repeat (first|apply zO (by decide +kernel)|apply zP (by decide +kernel)|(apply zS;(case h=>constructor<;>decide))|((first|apply l_go rfl|apply c_dec|apply zT rfl (by decide) rfl);(case hs=>(simp (disch := first|omega|exact kD rfl|exact kX rfl) only [smY,simprocAttr,bl,i64,smT,smO,hl2,e2,hgd];exact rfl));first|refine c_bt ?_|refine c_bf ?_|refine zq ?_|(case hg=>assumption))))
    refine ⟨⟨n + 1,by omega⟩,?_,by simp only;omega⟩
    (refine Sub.heap1 0 ?_ (by simp only [smF,dg,renL,renLs,simprocAttr,bl,i64,smT,smO,hl2];exact rfl) ?_ ?_;all_goals (first | exact dgs_plain _ | with_reducible rfl | (simp only [smF,dg,renL,renLs,simprocAttr,bl,i64,smT,smO,hl2];done) | (simp only [smF,dg,renL,renLs,simprocAttr,bl,i64,smT,smO,hl2]) | skip))
    all_goals (first | done | exact ho2 | trace_state)
  ·obtain rfl : n = N := by omega
   have htk : (oc (oP (stO (dfO a t) n) n)).take (n * 4) = oc (oP (stO (dfO a t) n) n) := oc_take' (by rw [oP_len])
   (repeat (first|apply zO (by decide +kernel)|apply zP (by decide +kernel)|(apply zS;(case h=>constructor<;>decide))|((first|apply l_go rfl|apply c_dec|apply zT rfl (by decide) rfl);(case hs=>(simp (disch := first|omega|exact kD rfl|exact kX rfl) only [smY,simprocAttr,bl,i64,smT,smO,hl2,@pvs_oc,htk];exact rfl));first|refine c_bt ?_|refine c_bf ?_|refine zq ?_|(case hg=>assumption))))
   ((first|apply g_ret|apply g_end);case hres => (simp only [smR];simp (disch := first|omega|exact kD rfl|exact kX rfl) only [smY,simprocAttr,bl,i64,smT,smO,hl2,@pvs_oc,htk];exact rfl))
   simp (disch := first|omega|exact kD rfl|exact kX rfl) only [smY,simprocAttr,bl,i64,smT,smO,hl2,@pvs_oc,htk]
end Go.Proofs.YteecamhdbilmoaaGreatDoor
namespace Go.Proofs.YteecamhdbilmoaaGreatDoor
open Go Go.Lg Go.Num
set_option maxRecDepth 100000
set_option maxHeartbeats 8000000
attribute [local irreducible] Go.Lg.lrun Go.Lg.lwp Go.Lg.exThen Go.Lg.exBlk Go.Lg.keep Go.Lg.goodPost sg mg oc mC twP tw bq kr chi eK gB cSer
theorem lq_0 : lq 0 ≤ 3 := by decide +kernel
theorem rcoef_good (o M n : Nat) (a : Nat → Rat) (h2 : o + M ≤ 1000) (hz : ∀ j,j < o → a j = 0) (hn : n < o + M) (hb : lq (a n) ≤ 1000) : PureGood Tryz.prog 26 [.agg [i64 o,.sl M (qc (aP (fun i => a (o + i)) M))],i64 n] (encQ (a n)) := by
 have hl := aP_len (fun i => a (o + i)) M
 by_cases hno : n < o
 ·have g0 := baseQ_good 0 (by omega)
  rw [show ((0 : Int) : Rat) = a n from (hz n hno).symm] at g0
  generalize a n = q at *
  simp only [i64,encQ_sm] at *
  refine good_of_lwp mix Tryz.func26 rfl (by decide) (nt := 29) rfl (rs := [.cell 4 45]) rfl (nle rfl) ?_
  (repeat (first|apply zO (by decide +kernel)|apply zP (by decide +kernel)|(apply zS;(case h=>constructor<;>decide))|((first|apply l_go rfl|apply c_dec|apply zT rfl (by decide) rfl);(case hs=>(simp (disch := first|omega|exact kD rfl|exact kX rfl) only [smY,simprocAttr,bl,i64,smT];exact rfl));first|refine c_bt ?_|refine c_bf ?_|refine zq ?_|(case hg=>assumption))))
  ((first|apply g_ret|apply g_end);case hres => (simp only [smR];simp (disch := first|omega|exact kD rfl|exact kX rfl) only [smY,simprocAttr,bl,i64,smT];exact rfl))
  simp (disch := first|omega|exact kD rfl|exact kX rfl) only [smY,simprocAttr,bl,i64,smT]
 ·have e1 : (aP (fun i => a (o + i)) M).getD (n - o) 0 = a n := by
   rw [aP_get (by omega)]
   show a (o + (n - o)) = _
   rw [show o + (n - o) = n by omega]
  have g0 := rqnorm_good (a n) (by omega)
  have hc : ((n : Int) - (o : Int)).toNat = n - o := by omega
  generalize hq : a n = q at g0 e1 ⊢
  simp only [i64,encQ_sm] at g0 ⊢
  refine good_of_lwp mix Tryz.func26 rfl (by decide) (nt := 29) rfl (rs := [.cell 4 45]) rfl (nle rfl) ?_
  (repeat (first|apply zO (by decide +kernel)|apply zP (by decide +kernel)|(apply zS;(case h=>constructor<;>decide))|((first|apply l_go rfl|apply c_dec|apply zT rfl (by decide) rfl);(case hs=>(simp (disch := first|omega|exact kD rfl|exact kX rfl) only [smY,simprocAttr,bl,i64,smT,e1,hc];exact rfl));first|refine c_bt ?_|refine c_bf ?_|refine zq ?_|(case hg=>assumption))))
  ((first|apply g_ret|apply g_end);case hres => (simp only [smR];simp (disch := first|omega|exact kD rfl|exact kX rfl) only [smY,simprocAttr,bl,i64,smT,e1,hc];exact rfl))
  simp (disch := first|omega|exact kD rfl|exact kX rfl) only [smY,simprocAttr,bl,i64,smT,e1,hc]
end Go.Proofs.YteecamhdbilmoaaGreatDoor
namespace Go.Proofs.YteecamhdbilmoaaGreatDoor
open Go Go.Lg Go.Num
set_option maxRecDepth 100000
set_option maxHeartbeats 8000000
attribute [local irreducible] Go.Lg.lrun Go.Lg.lwp Go.Lg.exThen Go.Lg.exBlk Go.Lg.keep Go.Lg.goodPost sg mg oc mC twP tw bq kr chi eK gB cSer
theorem lq_upT {a : Nat → Rat} {t p B j : Nat} (ba : ∀ i,i < p → lq (a i) ≤ B) (hB : 3 ≤ B) (h : j < t * p) : lq (upT a t j) ≤ B := by
 unfold upT
 split
 ·exact ba _ (Nat.div_lt_of_lt_mul h)
 ·exact Nat.le_trans lq_0 hB
end Go.Proofs.YteecamhdbilmoaaGreatDoor
namespace Go.Proofs.YteecamhdbilmoaaGreatDoor
open Go Go.Lg Go.Num
set_option maxRecDepth 100000
set_option maxHeartbeats 8000000
attribute [local irreducible] Go.Lg.lrun Go.Lg.lwp Go.Lg.exThen Go.Lg.exBlk Go.Lg.keep Go.Lg.goodPost sg mg oc mC twP tw bq kr chi eK gB cSer
end Go.Proofs.YteecamhdbilmoaaGreatDoor
namespace Go.Proofs.YteecamhdbilmoaaGreatDoor
open Go Go.Lg Go.Num
set_option maxRecDepth 100000
set_option maxHeartbeats 8000000
attribute [local irreducible] Go.Lg.lrun Go.Lg.lwp Go.Lg.exThen Go.Lg.exBlk Go.Lg.keep Go.Lg.goodPost sg mg oc mC twP tw bq kr chi eK gB cSer
end Go.Proofs.YteecamhdbilmoaaGreatDoor
namespace Go.Proofs.YteecamhdbilmoaaGreatDoor
open Go Go.Lg Go.Num
set_option maxRecDepth 100000
set_option maxHeartbeats 8000000
attribute [local irreducible] Go.Lg.lrun Go.Lg.lwp Go.Lg.exThen Go.Lg.exBlk Go.Lg.keep Go.Lg.goodPost sg mg oc mC twP tw bq kr chi
theorem fd_out {d : Int} (h : ¬ (-60 ≤ d ∧ d ≤ 60)) : fdL.contains d = false := by
 cases e : fdL.contains d with
 | false => rfl
 | true => exact absurd (fd_rng (List.contains_iff_mem.1 e)).2 h
theorem qd_good (d : Int) (h : -9223372036854775808 ≤ d ∧ d ≤ 9223372036854775807) : PureGood Tryz.prog 49 [i64 d] (bl (fdL.contains d)) ∧ PureGood Tryz.prog 31 [i64 d] (bl (fdL.contains d)) := by
 by_cases h1 : d < -60
 ·rw [fd_out (by omega)]
  simp only [i64,bl]
  constructor
  ·refine good_of_lwp mix Tryz.func49 rfl (by decide) (nt := 29) rfl (rs := [.tmp 2]) rfl (nle rfl) ?_
   (repeat (first|apply zO (by decide +kernel)|apply zP (by decide +kernel)|(apply zS;(case h=>constructor<;>decide))|((first|apply l_go rfl|apply c_dec|apply zT rfl (by decide) rfl);(case hs=>(simp (disch := first|omega|exact kD rfl|exact kX rfl) only [smY,simprocAttr,bl,i64,smT];exact rfl));first|refine c_bt ?_|refine c_bf ?_|refine zq ?_|(case hg=>assumption))))
   ((first|apply g_ret|apply g_end);case hres => (simp only [smR];simp (disch := first|omega|exact kD rfl|exact kX rfl) only [smY,simprocAttr,bl,i64,smT];exact rfl))
   simp (disch := first|omega|exact kD rfl|exact kX rfl) only [smY,simprocAttr,bl,i64,smT]
  ·refine good_of_lwp mix Tryz.func31 rfl (by decide) (nt := 13) rfl (rs := [.tmp 2]) rfl (nle rfl) ?_
   (repeat (first|apply zO (by decide +kernel)|apply zP (by decide +kernel)|(apply zS;(case h=>constructor<;>decide))|((first|apply l_go rfl|apply c_dec|apply zT rfl (by decide) rfl);(case hs=>(simp (disch := first|omega|exact kD rfl|exact kX rfl) only [smY,simprocAttr,bl,i64,smT];exact rfl));first|refine c_bt ?_|refine c_bf ?_|refine zq ?_|(case hg=>assumption))))
   refine l_cskip rfl (by decide) rfl ?_
   (repeat (first|apply zO (by decide +kernel)|apply zP (by decide +kernel)|(apply zS;(case h=>constructor<;>decide))|((first|apply l_go rfl|apply c_dec|apply zT rfl (by decide) rfl);(case hs=>(simp (disch := first|omega|exact kD rfl|exact kX rfl) only [smY,simprocAttr,bl,i64,smT];exact rfl));first|refine c_bt ?_|refine c_bf ?_|refine zq ?_|(case hg=>assumption))))
   ((first|apply g_ret|apply g_end);case hres => (simp only [smR];simp (disch := first|omega|exact kD rfl|exact kX rfl) only [smY,simprocAttr,bl,i64,smT];exact rfl))
   simp (disch := first|omega|exact kD rfl|exact kX rfl) only [smY,simprocAttr,bl,i64,smT]
 ·by_cases h2 : 60 < d
  ·rw [fd_out (by omega)]
   simp only [i64,bl]
   constructor
   ·refine good_of_lwp mix Tryz.func49 rfl (by decide) (nt := 29) rfl (rs := [.tmp 2]) rfl (nle rfl) ?_
    (repeat (first|apply zO (by decide +kernel)|apply zP (by decide +kernel)|(apply zS;(case h=>constructor<;>decide))|((first|apply l_go rfl|apply c_dec|apply zT rfl (by decide) rfl);(case hs=>(simp (disch := first|omega|exact kD rfl|exact kX rfl) only [smY,simprocAttr,bl,i64,smT];exact rfl));first|refine c_bt ?_|refine c_bf ?_|refine zq ?_|(case hg=>assumption))))
    ((first|apply g_ret|apply g_end);case hres => (simp only [smR];simp (disch := first|omega|exact kD rfl|exact kX rfl) only [smY,simprocAttr,bl,i64,smT];exact rfl))
    simp (disch := first|omega|exact kD rfl|exact kX rfl) only [smY,simprocAttr,bl,i64,smT]
   ·refine good_of_lwp mix Tryz.func31 rfl (by decide) (nt := 13) rfl (rs := [.tmp 2]) rfl (nle rfl) ?_
    (repeat (first|apply zO (by decide +kernel)|apply zP (by decide +kernel)|(apply zS;(case h=>constructor<;>decide))|((first|apply l_go rfl|apply c_dec|apply zT rfl (by decide) rfl);(case hs=>(simp (disch := first|omega|exact kD rfl|exact kX rfl) only [smY,simprocAttr,bl,i64,smT];exact rfl));first|refine c_bt ?_|refine c_bf ?_|refine zq ?_|(case hg=>assumption))))
    refine l_cskip rfl (by decide) rfl ?_
    (repeat (first|apply zO (by decide +kernel)|apply zP (by decide +kernel)|(apply zS;(case h=>constructor<;>decide))|((first|apply l_go rfl|apply c_dec|apply zT rfl (by decide) rfl);(case hs=>(simp (disch := first|omega|exact kD rfl|exact kX rfl) only [smY,simprocAttr,bl,i64,smT];exact rfl));first|refine c_bt ?_|refine c_bf ?_|refine zq ?_|(case hg=>assumption))))
    ((first|apply g_ret|apply g_end);case hres => (simp only [smR];simp (disch := first|omega|exact kD rfl|exact kX rfl) only [smY,simprocAttr,bl,i64,smT];exact rfl))
    simp (disch := first|omega|exact kD rfl|exact kX rfl) only [smY,simprocAttr,bl,i64,smT]
  ·exact fd_in (by omega) (by omega)
theorem inside_good (p : Int) (hp : -9223372036854775808 ≤ p ∧ p ≤ 9223372036854775807) : PureGood Tryz.prog 39 [i64 p] (bl (decide (0 ≤ p ∧ p ≤ 1000))) := by
 by_cases h1 : 0 ≤ p
 ·by_cases h2 : p ≤ 1000
  ·rw [dec_t ⟨h1,h2⟩]
   simp only [i64,bl]
   refine good_of_lwp mix Tryz.func39 rfl (by decide) (nt := 9) rfl (rs := [.tmp 2]) rfl (nle rfl) ?_
   (repeat (first|apply zO (by decide +kernel)|apply zP (by decide +kernel)|(apply zS;(case h=>constructor<;>decide))|((first|apply l_go rfl|apply c_dec|apply zT rfl (by decide) rfl);(case hs=>(simp (disch := first|omega|exact kD rfl|exact kX rfl) only [smY,simprocAttr,bl,i64,smT];exact rfl));first|refine c_bt ?_|refine c_bf ?_|refine zq ?_|(case hg=>assumption))))
   ((first|apply g_ret|apply g_end);case hres => (simp only [smR];simp (disch := first|omega|exact kD rfl|exact kX rfl) only [smY,simprocAttr,bl,i64,smT];exact rfl))
   simp (disch := first|omega|exact kD rfl|exact kX rfl) only [smY,simprocAttr,bl,i64,smT]
  ·rw [dec_f (fun e => h2 e.2)]
   simp only [i64,bl]
   refine good_of_lwp mix Tryz.func39 rfl (by decide) (nt := 9) rfl (rs := [.tmp 2]) rfl (nle rfl) ?_
   (repeat (first|apply zO (by decide +kernel)|apply zP (by decide +kernel)|(apply zS;(case h=>constructor<;>decide))|((first|apply l_go rfl|apply c_dec|apply zT rfl (by decide) rfl);(case hs=>(simp (disch := first|omega|exact kD rfl|exact kX rfl) only [smY,simprocAttr,bl,i64,smT];exact rfl));first|refine c_bt ?_|refine c_bf ?_|refine zq ?_|(case hg=>assumption))))
   ((first|apply g_ret|apply g_end);case hres => (simp only [smR];simp (disch := first|omega|exact kD rfl|exact kX rfl) only [smY,simprocAttr,bl,i64,smT];exact rfl))
   simp (disch := first|omega|exact kD rfl|exact kX rfl) only [smY,simprocAttr,bl,i64,smT]
 ·rw [dec_f (fun e => h1 e.1)]
  simp only [i64,bl]
  refine good_of_lwp mix Tryz.func39 rfl (by decide) (nt := 9) rfl (rs := [.tmp 2]) rfl (nle rfl) ?_
  (repeat (first|apply zO (by decide +kernel)|apply zP (by decide +kernel)|(apply zS;(case h=>constructor<;>decide))|((first|apply l_go rfl|apply c_dec|apply zT rfl (by decide) rfl);(case hs=>(simp (disch := first|omega|exact kD rfl|exact kX rfl) only [smY,simprocAttr,bl,i64,smT];exact rfl));first|refine c_bt ?_|refine c_bf ?_|refine zq ?_|(case hg=>assumption))))
  ((first|apply g_ret|apply g_end);case hres => (simp only [smR];simp (disch := first|omega|exact kD rfl|exact kX rfl) only [smY,simprocAttr,bl,i64,smT];exact rfl))
  simp (disch := first|omega|exact kD rfl|exact kX rfl) only [smY,simprocAttr,bl,i64,smT]
end Go.Proofs.YteecamhdbilmoaaGreatDoor
namespace Go.Proofs.YteecamhdbilmoaaGreatDoor
open Go Go.Lg Go.Num
set_option maxRecDepth 100000
set_option maxHeartbeats 8000000
attribute [local irreducible] Go.Lg.lrun Go.Lg.lwp Go.Lg.exThen Go.Lg.exBlk Go.Lg.keep Go.Lg.goodPost sg mg oc mC twP tw bq kr chi eK gB cSer
def wR (k : Nat) (d1 d2 : Int) (t : Nat) : Nat → Rat := if k = 2 ∧ d1 = 1 ∧ d2 = 1 then dfT (eK k d1 d2) t else upT (eK k d1 d2) t
def eR (e : Int) : LV := .tup [.agg [i64 0,.sl 0 []],i64 e]
theorem par_eq {d1 d2 : Int} (h1 : d1 ≠ 0) (h2 : d2 ≠ 0) : (decide (0 < d1) == decide (0 < d2)) = decide (0 < d1 * d2) := by
 by_cases a : 0 < d1
 ·by_cases b : 0 < d2
  ·have := Int.mul_pos a b
   simp [a,b,this]
  ·have := Int.mul_neg_of_pos_of_neg a (show d2 < 0 by omega)
   have h3 : ¬ 0 < d1 * d2 := by omega
   simp [a,b,h3]
 ·by_cases b : 0 < d2
  ·have := Int.mul_neg_of_neg_of_pos (show d1 < 0 by omega) b
   have h3 : ¬ 0 < d1 * d2 := by omega
   simp [a,b,h3]
  ·have := Int.mul_pos_of_neg_of_neg (show d1 < 0 by omega) (show d2 < 0 by omega)
   simp [a,b,this]
theorem mul_rng {d1 d2 : Int} (h1 : -60 ≤ d1 ∧ d1 ≤ 60) (h2 : -60 ≤ d2 ∧ d2 ≤ 60) : -3600 ≤ d1 * d2 ∧ d1 * d2 ≤ 3600 := by
 have h : (d1 * d2).natAbs ≤ 60 * 60 := by
  rw [Int.natAbs_mul]
  exact Nat.mul_le_mul (by omega) (by omega)
 omega
end Go.Proofs.YteecamhdbilmoaaGreatDoor
namespace Go.Proofs.YteecamhdbilmoaaGreatDoor
open Go Go.Lg Go.Num
set_option maxRecDepth 100000
set_option maxHeartbeats 8000000
attribute [local irreducible] Go.Lg.lrun Go.Lg.lwp Go.Lg.exThen Go.Lg.exBlk Go.Lg.keep Go.Lg.goodPost sg mg oc mC twP tw bq kr chi eK gB cSer op oqp
theorem lq_eK21 {m : Nat} (hm : m ≤ 1000) : lq (eK 2 1 1 m) ≤ 30 := by
 by_cases h0 : m = 0
 ·subst h0
  rw [eK_zero1,gB_one (by omega) (by omega) rfl]
  decide +kernel
 ·rw [eK_pos h0,lq_int]
  have := lq_tw (k := 2 - 1) (d1 := 1) (d2 := 1) (by decide) (by decide) hm (by omega)
  omega
end Go.Proofs.YteecamhdbilmoaaGreatDoor
namespace Go.Proofs.YteecamhdbilmoaaGreatDoor
open Go Go.Lg Go.Num
set_option maxRecDepth 100000
set_option maxHeartbeats 8000000
theorem awake_good : PureGood Tryz.prog 10 [] (.lit (.bool true)) := evl_good (by kernel_rfl)
attribute [local irreducible] Go.Lg.lrun Go.Lg.lwp Go.Lg.exThen Go.Lg.exBlk Go.Lg.keep Go.Lg.goodPost sg mg oc mC bq
end Go.Proofs.YteecamhdbilmoaaGreatDoor
namespace Go.Proofs.YteecamhdbilmoaaGreatDoor
open Go Go.Lg Go.Num
set_option maxRecDepth 100000
set_option maxHeartbeats 8000000
attribute [local irreducible] Go.Lg.lrun Go.Lg.lwp Go.Lg.exThen Go.Lg.exBlk Go.Lg.keep Go.Lg.goodPost sg mg oc mC twP tw bq kr chi eK gB cSer op oqp
end Go.Proofs.YteecamhdbilmoaaGreatDoor
namespace Go.Num
def chkMu (d : Int) (a : Nat) : Bool := all1 (fun b => eqS (kr d (Nat.mul a b)) (Int.mul (kr d a) (kr d b))) 25
theorem mu_all : (fdL.all fun d => all1 (chkMu d) 40) = true := by decide +kernel
theorem kr_mul {d : Int} (hd : d ∈ fdL) {a b : Nat} (a1 : 1 ≤ a) (a2 : a ≤ 40) (b1 : 1 ≤ b) (b2 : b ≤ 25) : kr d (a * b) = kr d a * kr d b :=
 eqS_ok (all1_ok (all1_ok (List.all_eq_true.1 mu_all d hd) a1 a2) b1 b2)
theorem kr_one1 {d : Int} (hd : d ∈ fdL) : kr d 1 = 1 := by
 have key : (fdL.all fun d => eqS (kr d 1) 1) = true := by decide +kernel
 exact eqS_ok (List.all_eq_true.1 key d hd)
theorem kr_1p {p : Nat} (h1 : 1 ≤ p) (h2 : p ≤ 1000) : kr 1 p = 1 := by
 have key : (all1 fun p => eqS (kr 1 p) 1) 1000 = true := by decide +kernel
 exact eqS_ok (all1_ok key h1 h2)
def Hk (p : Nat) (c1 c2 q : Int) (f : Nat → Int) (m : Nat) : Prop := f (p * m) + (if m % p = 0 then c1 * c2 * q * f (m / p) else 0) = (c1 + c2 * q) * f m
theorem kc4 {d : Int} (hd : d ∈ fdL) : kr d 4 = kr d 2 * kr d 2 := kr_mul hd (a := 2) (b := 2) (by omega) (by omega) (by omega) (by omega)
theorem pc4 (k : Nat) : (4 : Int) ^ k = 2 ^ k * 2 ^ k := by rw [← Int.mul_pow];rfl
theorem kc6 {d : Int} (hd : d ∈ fdL) : kr d 6 = kr d 2 * kr d 3 := kr_mul hd (a := 2) (b := 3) (by omega) (by omega) (by omega) (by omega)
theorem pc6 (k : Nat) : (6 : Int) ^ k = 2 ^ k * 3 ^ k := by rw [← Int.mul_pow];rfl
theorem kc8 {d : Int} (hd : d ∈ fdL) : kr d 8 = kr d 2 * kr d 4 := kr_mul hd (a := 2) (b := 4) (by omega) (by omega) (by omega) (by omega)
theorem pc8 (k : Nat) : (8 : Int) ^ k = 2 ^ k * 4 ^ k := by rw [← Int.mul_pow];rfl
theorem kc9 {d : Int} (hd : d ∈ fdL) : kr d 9 = kr d 3 * kr d 3 := kr_mul hd (a := 3) (b := 3) (by omega) (by omega) (by omega) (by omega)
theorem pc9 (k : Nat) : (9 : Int) ^ k = 3 ^ k * 3 ^ k := by rw [← Int.mul_pow];rfl
theorem kc10 {d : Int} (hd : d ∈ fdL) : kr d 10 = kr d 2 * kr d 5 := kr_mul hd (a := 2) (b := 5) (by omega) (by omega) (by omega) (by omega)
theorem pc10 (k : Nat) : (10 : Int) ^ k = 2 ^ k * 5 ^ k := by rw [← Int.mul_pow];rfl
theorem kc12 {d : Int} (hd : d ∈ fdL) : kr d 12 = kr d 2 * kr d 6 := kr_mul hd (a := 2) (b := 6) (by omega) (by omega) (by omega) (by omega)
theorem pc12 (k : Nat) : (12 : Int) ^ k = 2 ^ k * 6 ^ k := by rw [← Int.mul_pow];rfl
theorem kc14 {d : Int} (hd : d ∈ fdL) : kr d 14 = kr d 2 * kr d 7 := kr_mul hd (a := 2) (b := 7) (by omega) (by omega) (by omega) (by omega)
theorem pc14 (k : Nat) : (14 : Int) ^ k = 2 ^ k * 7 ^ k := by rw [← Int.mul_pow];rfl
theorem kc15 {d : Int} (hd : d ∈ fdL) : kr d 15 = kr d 3 * kr d 5 := kr_mul hd (a := 3) (b := 5) (by omega) (by omega) (by omega) (by omega)
theorem pc15 (k : Nat) : (15 : Int) ^ k = 3 ^ k * 5 ^ k := by rw [← Int.mul_pow];rfl
theorem kc16 {d : Int} (hd : d ∈ fdL) : kr d 16 = kr d 2 * kr d 8 := kr_mul hd (a := 2) (b := 8) (by omega) (by omega) (by omega) (by omega)
theorem pc16 (k : Nat) : (16 : Int) ^ k = 2 ^ k * 8 ^ k := by rw [← Int.mul_pow];rfl
theorem kc18 {d : Int} (hd : d ∈ fdL) : kr d 18 = kr d 2 * kr d 9 := kr_mul hd (a := 2) (b := 9) (by omega) (by omega) (by omega) (by omega)
theorem pc18 (k : Nat) : (18 : Int) ^ k = 2 ^ k * 9 ^ k := by rw [← Int.mul_pow];rfl
theorem kc20 {d : Int} (hd : d ∈ fdL) : kr d 20 = kr d 2 * kr d 10 := kr_mul hd (a := 2) (b := 10) (by omega) (by omega) (by omega) (by omega)
theorem pc20 (k : Nat) : (20 : Int) ^ k = 2 ^ k * 10 ^ k := by rw [← Int.mul_pow];rfl
theorem kc21 {d : Int} (hd : d ∈ fdL) : kr d 21 = kr d 3 * kr d 7 := kr_mul hd (a := 3) (b := 7) (by omega) (by omega) (by omega) (by omega)
theorem pc21 (k : Nat) : (21 : Int) ^ k = 3 ^ k * 7 ^ k := by rw [← Int.mul_pow];rfl
theorem kc22 {d : Int} (hd : d ∈ fdL) : kr d 22 = kr d 2 * kr d 11 := kr_mul hd (a := 2) (b := 11) (by omega) (by omega) (by omega) (by omega)
theorem pc22 (k : Nat) : (22 : Int) ^ k = 2 ^ k * 11 ^ k := by rw [← Int.mul_pow];rfl
theorem kc24 {d : Int} (hd : d ∈ fdL) : kr d 24 = kr d 2 * kr d 12 := kr_mul hd (a := 2) (b := 12) (by omega) (by omega) (by omega) (by omega)
theorem pc24 (k : Nat) : (24 : Int) ^ k = 2 ^ k * 12 ^ k := by rw [← Int.mul_pow];rfl
theorem kc25 {d : Int} (hd : d ∈ fdL) : kr d 25 = kr d 5 * kr d 5 := kr_mul hd (a := 5) (b := 5) (by omega) (by omega) (by omega) (by omega)
theorem pc25 (k : Nat) : (25 : Int) ^ k = 5 ^ k * 5 ^ k := by rw [← Int.mul_pow];rfl
theorem kc26 {d : Int} (hd : d ∈ fdL) : kr d 26 = kr d 2 * kr d 13 := kr_mul hd (a := 2) (b := 13) (by omega) (by omega) (by omega) (by omega)
theorem pc26 (k : Nat) : (26 : Int) ^ k = 2 ^ k * 13 ^ k := by rw [← Int.mul_pow];rfl
theorem kc27 {d : Int} (hd : d ∈ fdL) : kr d 27 = kr d 3 * kr d 9 := kr_mul hd (a := 3) (b := 9) (by omega) (by omega) (by omega) (by omega)
theorem pc27 (k : Nat) : (27 : Int) ^ k = 3 ^ k * 9 ^ k := by rw [← Int.mul_pow];rfl
theorem kc28 {d : Int} (hd : d ∈ fdL) : kr d 28 = kr d 2 * kr d 14 := kr_mul hd (a := 2) (b := 14) (by omega) (by omega) (by omega) (by omega)
theorem pc28 (k : Nat) : (28 : Int) ^ k = 2 ^ k * 14 ^ k := by rw [← Int.mul_pow];rfl
theorem hk2_1 {d1 d2 : Int} (h1 : d1 ∈ fdL) (h2 : d2 ∈ fdL) (k : Nat) : Hk 2 (kr d1 2) (kr d2 2) (2 ^ k) (tw k d1 d2) 1 := by
 unfold Hk tw twP
 simp [psum,twS,chi]
 simp only [kr_one1 h1,kr_one1 h2]
 grind
theorem hk2_2 {d1 d2 : Int} (h1 : d1 ∈ fdL) (h2 : d2 ∈ fdL) (k : Nat) : Hk 2 (kr d1 2) (kr d2 2) (2 ^ k) (tw k d1 d2) 2 := by
 unfold Hk tw twP
 simp [psum,twS,chi]
 simp only [kr_one1 h1,kr_one1 h2,kc4 h1,kc4 h2,pc4 k]
 grind
theorem hk2_3 {d1 d2 : Int} (h1 : d1 ∈ fdL) (h2 : d2 ∈ fdL) (k : Nat) : Hk 2 (kr d1 2) (kr d2 2) (2 ^ k) (tw k d1 d2) 3 := by
 unfold Hk tw twP
 simp [psum,twS,chi]
 simp only [kr_one1 h1,kr_one1 h2,kc6 h1,kc6 h2,pc6 k]
 grind
theorem hk2_4 {d1 d2 : Int} (h1 : d1 ∈ fdL) (h2 : d2 ∈ fdL) (k : Nat) : Hk 2 (kr d1 2) (kr d2 2) (2 ^ k) (tw k d1 d2) 4 := by
 unfold Hk tw twP
 simp [psum,twS,chi]
 simp only [kr_one1 h1,kr_one1 h2,kc4 h1,kc4 h2,pc4 k,kc8 h1,kc8 h2,pc8 k]
 grind
theorem hk2_5 {d1 d2 : Int} (h1 : d1 ∈ fdL) (h2 : d2 ∈ fdL) (k : Nat) : Hk 2 (kr d1 2) (kr d2 2) (2 ^ k) (tw k d1 d2) 5 := by
 unfold Hk tw twP
 simp [psum,twS,chi]
 simp only [kr_one1 h1,kr_one1 h2,kc10 h1,kc10 h2,pc10 k]
 grind
theorem hk2_6 {d1 d2 : Int} (h1 : d1 ∈ fdL) (h2 : d2 ∈ fdL) (k : Nat) : Hk 2 (kr d1 2) (kr d2 2) (2 ^ k) (tw k d1 d2) 6 := by
 unfold Hk tw twP
 simp [psum,twS,chi]
 simp only [kr_one1 h1,kr_one1 h2,kc4 h1,kc4 h2,pc4 k,kc6 h1,kc6 h2,pc6 k,kc12 h1,kc12 h2,pc12 k]
 grind
theorem hk2_7 {d1 d2 : Int} (h1 : d1 ∈ fdL) (h2 : d2 ∈ fdL) (k : Nat) : Hk 2 (kr d1 2) (kr d2 2) (2 ^ k) (tw k d1 d2) 7 := by
 unfold Hk tw twP
 simp [psum,twS,chi]
 simp only [kr_one1 h1,kr_one1 h2,kc14 h1,kc14 h2,pc14 k]
 grind
theorem hk2_8 {d1 d2 : Int} (h1 : d1 ∈ fdL) (h2 : d2 ∈ fdL) (k : Nat) : Hk 2 (kr d1 2) (kr d2 2) (2 ^ k) (tw k d1 d2) 8 := by
 unfold Hk tw twP
 simp [psum,twS,chi]
 simp only [kr_one1 h1,kr_one1 h2,kc4 h1,kc4 h2,pc4 k,kc8 h1,kc8 h2,pc8 k,kc16 h1,kc16 h2,pc16 k]
 grind
theorem hk2_9 {d1 d2 : Int} (h1 : d1 ∈ fdL) (h2 : d2 ∈ fdL) (k : Nat) : Hk 2 (kr d1 2) (kr d2 2) (2 ^ k) (tw k d1 d2) 9 := by
 unfold Hk tw twP
 simp [psum,twS,chi]
 simp only [kr_one1 h1,kr_one1 h2,kc6 h1,kc6 h2,pc6 k,kc9 h1,kc9 h2,pc9 k,kc18 h1,kc18 h2,pc18 k]
 grind
theorem hk2_10 {d1 d2 : Int} (h1 : d1 ∈ fdL) (h2 : d2 ∈ fdL) (k : Nat) : Hk 2 (kr d1 2) (kr d2 2) (2 ^ k) (tw k d1 d2) 10 := by
 unfold Hk tw twP
 simp [psum,twS,chi]
 simp only [kr_one1 h1,kr_one1 h2,kc4 h1,kc4 h2,pc4 k,kc10 h1,kc10 h2,pc10 k,kc20 h1,kc20 h2,pc20 k]
 grind
theorem hk2_11 {d1 d2 : Int} (h1 : d1 ∈ fdL) (h2 : d2 ∈ fdL) (k : Nat) : Hk 2 (kr d1 2) (kr d2 2) (2 ^ k) (tw k d1 d2) 11 := by
 unfold Hk tw twP
 simp [psum,twS,chi]
 simp only [kr_one1 h1,kr_one1 h2,kc22 h1,kc22 h2,pc22 k]
 grind
theorem hk2_12 {d1 d2 : Int} (h1 : d1 ∈ fdL) (h2 : d2 ∈ fdL) (k : Nat) : Hk 2 (kr d1 2) (kr d2 2) (2 ^ k) (tw k d1 d2) 12 := by
 unfold Hk tw twP
 simp [psum,twS,chi]
 simp only [kr_one1 h1,kr_one1 h2,kc4 h1,kc4 h2,pc4 k,kc6 h1,kc6 h2,pc6 k,kc8 h1,kc8 h2,pc8 k,kc12 h1,kc12 h2,pc12 k,kc24 h1,kc24 h2,pc24 k]
 grind
theorem hk2_13 {d1 d2 : Int} (h1 : d1 ∈ fdL) (h2 : d2 ∈ fdL) (k : Nat) : Hk 2 (kr d1 2) (kr d2 2) (2 ^ k) (tw k d1 d2) 13 := by
 unfold Hk tw twP
 simp [psum,twS,chi]
 simp only [kr_one1 h1,kr_one1 h2,kc26 h1,kc26 h2,pc26 k]
 grind
theorem hk2_14 {d1 d2 : Int} (h1 : d1 ∈ fdL) (h2 : d2 ∈ fdL) (k : Nat) : Hk 2 (kr d1 2) (kr d2 2) (2 ^ k) (tw k d1 d2) 14 := by
 unfold Hk tw twP
 simp [psum,twS,chi]
 simp only [kr_one1 h1,kr_one1 h2,kc4 h1,kc4 h2,pc4 k,kc14 h1,kc14 h2,pc14 k,kc28 h1,kc28 h2,pc28 k]
 grind
theorem hk2 {d1 d2 : Int} (h1 : d1 ∈ fdL) (h2 : d2 ∈ fdL) (k : Nat) {m : Nat} (a1 : 1 ≤ m) (a2 : m ≤ 14) : Hk 2 (kr d1 2) (kr d2 2) (2 ^ k) (tw k d1 d2) m := by
 match m,a1,a2 with
 | 1,_,_ => exact hk2_1 h1 h2 k
 | 2,_,_ => exact hk2_2 h1 h2 k
 | 3,_,_ => exact hk2_3 h1 h2 k
 | 4,_,_ => exact hk2_4 h1 h2 k
 | 5,_,_ => exact hk2_5 h1 h2 k
 | 6,_,_ => exact hk2_6 h1 h2 k
 | 7,_,_ => exact hk2_7 h1 h2 k
 | 8,_,_ => exact hk2_8 h1 h2 k
 | 9,_,_ => exact hk2_9 h1 h2 k
 | 10,_,_ => exact hk2_10 h1 h2 k
 | 11,_,_ => exact hk2_11 h1 h2 k
 | 12,_,_ => exact hk2_12 h1 h2 k
 | 13,_,_ => exact hk2_13 h1 h2 k
 | 14,_,_ => exact hk2_14 h1 h2 k
theorem hk3_1 {d1 d2 : Int} (h1 : d1 ∈ fdL) (h2 : d2 ∈ fdL) (k : Nat) : Hk 3 (kr d1 3) (kr d2 3) (3 ^ k) (tw k d1 d2) 1 := by
 unfold Hk tw twP
 simp [psum,twS,chi]
 simp only [kr_one1 h1,kr_one1 h2]
 grind
theorem hk3_2 {d1 d2 : Int} (h1 : d1 ∈ fdL) (h2 : d2 ∈ fdL) (k : Nat) : Hk 3 (kr d1 3) (kr d2 3) (3 ^ k) (tw k d1 d2) 2 := by
 unfold Hk tw twP
 simp [psum,twS,chi]
 simp only [kr_one1 h1,kr_one1 h2,kc6 h1,kc6 h2,pc6 k]
 grind
theorem hk3_3 {d1 d2 : Int} (h1 : d1 ∈ fdL) (h2 : d2 ∈ fdL) (k : Nat) : Hk 3 (kr d1 3) (kr d2 3) (3 ^ k) (tw k d1 d2) 3 := by
 unfold Hk tw twP
 simp [psum,twS,chi]
 simp only [kr_one1 h1,kr_one1 h2,kc9 h1,kc9 h2,pc9 k]
 grind
theorem hk3_4 {d1 d2 : Int} (h1 : d1 ∈ fdL) (h2 : d2 ∈ fdL) (k : Nat) : Hk 3 (kr d1 3) (kr d2 3) (3 ^ k) (tw k d1 d2) 4 := by
 unfold Hk tw twP
 simp [psum,twS,chi]
 simp only [kr_one1 h1,kr_one1 h2,kc4 h1,kc4 h2,pc4 k,kc6 h1,kc6 h2,pc6 k,kc12 h1,kc12 h2,pc12 k]
 grind
theorem hk3_5 {d1 d2 : Int} (h1 : d1 ∈ fdL) (h2 : d2 ∈ fdL) (k : Nat) : Hk 3 (kr d1 3) (kr d2 3) (3 ^ k) (tw k d1 d2) 5 := by
 unfold Hk tw twP
 simp [psum,twS,chi]
 simp only [kr_one1 h1,kr_one1 h2,kc15 h1,kc15 h2,pc15 k]
 grind
theorem hk3_6 {d1 d2 : Int} (h1 : d1 ∈ fdL) (h2 : d2 ∈ fdL) (k : Nat) : Hk 3 (kr d1 3) (kr d2 3) (3 ^ k) (tw k d1 d2) 6 := by
 unfold Hk tw twP
 simp [psum,twS,chi]
 simp only [kr_one1 h1,kr_one1 h2,kc6 h1,kc6 h2,pc6 k,kc9 h1,kc9 h2,pc9 k,kc18 h1,kc18 h2,pc18 k]
 grind
theorem hk3_7 {d1 d2 : Int} (h1 : d1 ∈ fdL) (h2 : d2 ∈ fdL) (k : Nat) : Hk 3 (kr d1 3) (kr d2 3) (3 ^ k) (tw k d1 d2) 7 := by
 unfold Hk tw twP
 simp [psum,twS,chi]
 simp only [kr_one1 h1,kr_one1 h2,kc21 h1,kc21 h2,pc21 k]
 grind
theorem hk3_8 {d1 d2 : Int} (h1 : d1 ∈ fdL) (h2 : d2 ∈ fdL) (k : Nat) : Hk 3 (kr d1 3) (kr d2 3) (3 ^ k) (tw k d1 d2) 8 := by
 unfold Hk tw twP
 simp [psum,twS,chi]
 simp only [kr_one1 h1,kr_one1 h2,kc4 h1,kc4 h2,pc4 k,kc6 h1,kc6 h2,pc6 k,kc8 h1,kc8 h2,pc8 k,kc12 h1,kc12 h2,pc12 k,kc24 h1,kc24 h2,pc24 k]
 grind
theorem hk3_9 {d1 d2 : Int} (h1 : d1 ∈ fdL) (h2 : d2 ∈ fdL) (k : Nat) : Hk 3 (kr d1 3) (kr d2 3) (3 ^ k) (tw k d1 d2) 9 := by
 unfold Hk tw twP
 simp [psum,twS,chi]
 simp only [kr_one1 h1,kr_one1 h2,kc9 h1,kc9 h2,pc9 k,kc27 h1,kc27 h2,pc27 k]
 grind
theorem hk3 {d1 d2 : Int} (h1 : d1 ∈ fdL) (h2 : d2 ∈ fdL) (k : Nat) {m : Nat} (a1 : 1 ≤ m) (a2 : m ≤ 9) : Hk 3 (kr d1 3) (kr d2 3) (3 ^ k) (tw k d1 d2) m := by
 match m,a1,a2 with
 | 1,_,_ => exact hk3_1 h1 h2 k
 | 2,_,_ => exact hk3_2 h1 h2 k
 | 3,_,_ => exact hk3_3 h1 h2 k
 | 4,_,_ => exact hk3_4 h1 h2 k
 | 5,_,_ => exact hk3_5 h1 h2 k
 | 6,_,_ => exact hk3_6 h1 h2 k
 | 7,_,_ => exact hk3_7 h1 h2 k
 | 8,_,_ => exact hk3_8 h1 h2 k
 | 9,_,_ => exact hk3_9 h1 h2 k
theorem hk5_1 {d1 d2 : Int} (h1 : d1 ∈ fdL) (h2 : d2 ∈ fdL) (k : Nat) : Hk 5 (kr d1 5) (kr d2 5) (5 ^ k) (tw k d1 d2) 1 := by
 unfold Hk tw twP
 simp [psum,twS,chi]
 simp only [kr_one1 h1,kr_one1 h2]
 grind
theorem hk5_2 {d1 d2 : Int} (h1 : d1 ∈ fdL) (h2 : d2 ∈ fdL) (k : Nat) : Hk 5 (kr d1 5) (kr d2 5) (5 ^ k) (tw k d1 d2) 2 := by
 unfold Hk tw twP
 simp [psum,twS,chi]
 simp only [kr_one1 h1,kr_one1 h2,kc10 h1,kc10 h2,pc10 k]
 grind
theorem hk5_3 {d1 d2 : Int} (h1 : d1 ∈ fdL) (h2 : d2 ∈ fdL) (k : Nat) : Hk 5 (kr d1 5) (kr d2 5) (5 ^ k) (tw k d1 d2) 3 := by
 unfold Hk tw twP
 simp [psum,twS,chi]
 simp only [kr_one1 h1,kr_one1 h2,kc15 h1,kc15 h2,pc15 k]
 grind
theorem hk5_4 {d1 d2 : Int} (h1 : d1 ∈ fdL) (h2 : d2 ∈ fdL) (k : Nat) : Hk 5 (kr d1 5) (kr d2 5) (5 ^ k) (tw k d1 d2) 4 := by
 unfold Hk tw twP
 simp [psum,twS,chi]
 simp only [kr_one1 h1,kr_one1 h2,kc4 h1,kc4 h2,pc4 k,kc10 h1,kc10 h2,pc10 k,kc20 h1,kc20 h2,pc20 k]
 grind
theorem hk5_5 {d1 d2 : Int} (h1 : d1 ∈ fdL) (h2 : d2 ∈ fdL) (k : Nat) : Hk 5 (kr d1 5) (kr d2 5) (5 ^ k) (tw k d1 d2) 5 := by
 unfold Hk tw twP
 simp [psum,twS,chi]
 simp only [kr_one1 h1,kr_one1 h2,kc25 h1,kc25 h2,pc25 k]
 grind
theorem hk5 {d1 d2 : Int} (h1 : d1 ∈ fdL) (h2 : d2 ∈ fdL) (k : Nat) {m : Nat} (a1 : 1 ≤ m) (a2 : m ≤ 5) : Hk 5 (kr d1 5) (kr d2 5) (5 ^ k) (tw k d1 d2) m := by
 match m,a1,a2 with
 | 1,_,_ => exact hk5_1 h1 h2 k
 | 2,_,_ => exact hk5_2 h1 h2 k
 | 3,_,_ => exact hk5_3 h1 h2 k
 | 4,_,_ => exact hk5_4 h1 h2 k
 | 5,_,_ => exact hk5_5 h1 h2 k
theorem hk7_1 {d1 d2 : Int} (h1 : d1 ∈ fdL) (h2 : d2 ∈ fdL) (k : Nat) : Hk 7 (kr d1 7) (kr d2 7) (7 ^ k) (tw k d1 d2) 1 := by
 unfold Hk tw twP
 simp [psum,twS,chi]
 simp only [kr_one1 h1,kr_one1 h2]
 grind
theorem hk7_2 {d1 d2 : Int} (h1 : d1 ∈ fdL) (h2 : d2 ∈ fdL) (k : Nat) : Hk 7 (kr d1 7) (kr d2 7) (7 ^ k) (tw k d1 d2) 2 := by
 unfold Hk tw twP
 simp [psum,twS,chi]
 simp only [kr_one1 h1,kr_one1 h2,kc14 h1,kc14 h2,pc14 k]
 grind
theorem hk7_3 {d1 d2 : Int} (h1 : d1 ∈ fdL) (h2 : d2 ∈ fdL) (k : Nat) : Hk 7 (kr d1 7) (kr d2 7) (7 ^ k) (tw k d1 d2) 3 := by
 unfold Hk tw twP
 simp [psum,twS,chi]
 simp only [kr_one1 h1,kr_one1 h2,kc21 h1,kc21 h2,pc21 k]
 grind
theorem hk7_4 {d1 d2 : Int} (h1 : d1 ∈ fdL) (h2 : d2 ∈ fdL) (k : Nat) : Hk 7 (kr d1 7) (kr d2 7) (7 ^ k) (tw k d1 d2) 4 := by
 unfold Hk tw twP
 simp [psum,twS,chi]
 simp only [kr_one1 h1,kr_one1 h2,kc4 h1,kc4 h2,pc4 k,kc14 h1,kc14 h2,pc14 k,kc28 h1,kc28 h2,pc28 k]
 grind
theorem hk7 {d1 d2 : Int} (h1 : d1 ∈ fdL) (h2 : d2 ∈ fdL) (k : Nat) {m : Nat} (a1 : 1 ≤ m) (a2 : m ≤ 4) : Hk 7 (kr d1 7) (kr d2 7) (7 ^ k) (tw k d1 d2) m := by
 match m,a1,a2 with
 | 1,_,_ => exact hk7_1 h1 h2 k
 | 2,_,_ => exact hk7_2 h1 h2 k
 | 3,_,_ => exact hk7_3 h1 h2 k
 | 4,_,_ => exact hk7_4 h1 h2 k
end Go.Num
namespace Go.Proofs.YteecamhdbilmoaaGreatDoor
open Go Go.Lg Go.Num
set_option maxRecDepth 100000
set_option maxHeartbeats 8000000
def HkQ (p : Nat) (c1 c2 : Int) (q : Rat) (f : Nat → Rat) (n : Nat) : Prop := (if n % p = 0 then f (p * n) + ((c1 * c2 : Int) : Rat) * q * f (n / p) else f (p * n)) = ((c1 : Rat) + (c2 : Rat) * q) * f n
def isP (p : Nat) : Prop := p = 2 ∨ p = 3 ∨ p = 5 ∨ p = 7
theorem hk_all {p : Nat} (hp : isP p) {d1 d2 : Int} (h1 : d1 ∈ fdL) (h2 : d2 ∈ fdL) (k : Nat) {m : Nat} (m1 : 1 ≤ m) (m2 : p * m < 30) : Hk p (kr d1 p) (kr d2 p) ((p : Int) ^ k) (tw k d1 d2) m := by
 rcases hp with rfl | rfl | rfl | rfl
 ·exact hk2 h1 h2 k m1 (by omega)
 ·exact hk3 h1 h2 k m1 (by omega)
 ·exact hk5 h1 h2 k m1 (by omega)
 ·exact hk7 h1 h2 k m1 (by omega)
theorem hkQ_eK {p : Nat} (hp : isP p) {d1 d2 : Int} (h1 : d1 ∈ fdL) (h2 : d2 ∈ fdL) (k : Nat) {n : Nat} (hn : p * n < 30) : HkQ p (kr d1 p) (kr d2 p) ((((p : Int) ^ (k - 1) : Int)) : Rat) (eK k d1 d2) n := by
 have hp1 : 1 ≤ p ∧ p ≤ 7 := by rcases hp with rfl | rfl | rfl | rfl <;> omega
 unfold HkQ
 generalize hq : ((p : Int) ^ (k - 1) : Int) = qi
 by_cases n0 : n = 0
 ·subst n0
  rw [Nat.zero_mod,if_pos rfl,Nat.zero_div,Nat.mul_zero]
  by_cases e : d1 = 1
  ·subst e
   rw [kr_1p (by omega) (by omega),Int.one_mul,Rat.add_mul]
   show _ = (1 : Rat) * _ + _
   rw [Rat.one_mul]
  ·rw [eK_zero0 e,Rat.mul_zero,Rat.mul_zero,Rat.add_zero]
 ·have H := hk_all hp h1 h2 (k - 1) (m := n) (by omega) hn
  unfold Hk at H
  rw [hq] at H
  have hpn : p * n ≠ 0 := by
   have := Nat.mul_le_mul hp1.1 (show 1 ≤ n by omega)
   omega
  rw [eK_pos n0,eK_pos hpn]
  by_cases hm : n % p = 0
  ·have hnp : n / p ≠ 0 := by
    have := Nat.div_pos (Nat.le_of_dvd (by omega) (Nat.dvd_of_mod_eq_zero hm)) (show 0 < p by omega)
    omega
   rw [if_pos hm] at H ⊢
   rw [eK_pos hnp]
   have H2 := congrArg (fun z : Int => (z : Rat)) H
   simp only [Rat.intCast_add,Rat.intCast_mul] at H2 ⊢
   exact H2
  ·rw [if_neg hm,Int.add_zero] at H
   rw [if_neg hm]
   have H2 := congrArg (fun z : Int => (z : Rat)) H
   simp only [Rat.intCast_add,Rat.intCast_mul] at H2 ⊢
   exact H2
theorem cop {p t : Nat} (hp : isP p) (ht : t % p ≠ 0) : Nat.Coprime t p := by
 have key : ∀ p,isP p → ∀ r,r < p → r ≠ 0 → Nat.gcd r p = 1 := by
  intro p hp r hr h0
  rcases hp with rfl | rfl | rfl | rfl
  ·match r,hr,h0 with
   | 1,_,_ => rfl
  ·match r,hr,h0 with
   | 1,_,_ | 2,_,_ => rfl
  ·match r,hr,h0 with
   | 1,_,_ | 2,_,_ | 3,_,_ | 4,_,_ => rfl
  ·match r,hr,h0 with
   | 1,_,_ | 2,_,_ | 3,_,_ | 4,_,_ | 5,_,_ | 6,_,_ => rfl
 have hp1 : 1 ≤ p := by rcases hp with rfl | rfl | rfl | rfl <;> omega
 have := key p hp (t % p) (Nat.mod_lt _ hp1) ht
 unfold Nat.Coprime
 rw [Nat.gcd_comm,Nat.gcd_rec]
 exact this
theorem hkQ_upT {p t : Nat} (hp : isP p) (ht1 : 1 ≤ t) (ht : t % p ≠ 0) {c1 c2 : Int} {q : Rat} {a : Nat → Rat} (H : ∀ n,p * n < 30 → HkQ p c1 c2 q a n) {n : Nat} (hn : p * n < 30) : HkQ p c1 c2 q (upT a t) n := by
 have hp1 : 1 ≤ p := by rcases hp with rfl | rfl | rfl | rfl <;> omega
 have hc := cop hp ht
 unfold HkQ
 by_cases hd : n % t = 0
 ·obtain ⟨m,rfl⟩ := Nat.dvd_of_mod_eq_zero hd
  have hm : p * m < 30 := by
   have := Nat.mul_le_mul_left p (Nat.le_mul_of_pos_left m ht1)
   omega
  have hH := H m hm
  unfold HkQ at hH
  have e1 : upT a t (t * m) = a m := by
   unfold upT
   rw [if_pos hd,Nat.mul_div_cancel_left _ (by omega)]
  have e2 : upT a t (p * (t * m)) = a (p * m) := by
   unfold upT
   rw [show p * (t * m) = t * (p * m) by rw [← Nat.mul_assoc,Nat.mul_comm p t,Nat.mul_assoc],if_pos (Nat.mul_mod_right ..),Nat.mul_div_cancel_left _ (by omega)]
  rw [e1,e2]
  by_cases hm2 : m % p = 0
  ·obtain ⟨l,rfl⟩ := Nat.dvd_of_mod_eq_zero hm2
   rw [if_pos hm2,Nat.mul_div_cancel_left _ (by omega)] at hH
   have e3 : (t * (p * l)) % p = 0 := by rw [show t * (p * l) = p * (t * l) by rw [← Nat.mul_assoc,Nat.mul_comm t p,Nat.mul_assoc]];exact Nat.mul_mod_right ..
   have e4 : t * (p * l) / p = t * l := by rw [show t * (p * l) = p * (t * l) by rw [← Nat.mul_assoc,Nat.mul_comm t p,Nat.mul_assoc],Nat.mul_div_cancel_left _ (by omega)]
   rw [if_pos e3,e4]
   have e5 : upT a t (t * l) = a l := by
    unfold upT
    rw [if_pos (Nat.mul_mod_right ..),Nat.mul_div_cancel_left _ (by omega)]
   rw [e5]
   exact hH
  ·rw [if_neg hm2] at hH
   have e3 : ¬ (t * m) % p = 0 := fun e => hm2 (Nat.mod_eq_zero_of_dvd (hc.symm.dvd_of_dvd_mul_left (Nat.dvd_of_mod_eq_zero e)))
   rw [if_neg e3]
   exact hH
 ·have e1 : upT a t n = 0 := if_neg hd
  have e2 : upT a t (p * n) = 0 := if_neg (fun e => hd (Nat.mod_eq_zero_of_dvd (hc.dvd_of_dvd_mul_left (Nat.dvd_of_mod_eq_zero e))))
  rw [e1,e2,Rat.mul_zero]
  by_cases hm2 : n % p = 0
  ·rw [if_pos hm2]
   have e3 : upT a t (n / p) = 0 := by
    obtain ⟨l,rfl⟩ := Nat.dvd_of_mod_eq_zero hm2
    rw [Nat.mul_div_cancel_left _ (by omega)]
    refine if_neg (fun e => hd (Nat.mod_eq_zero_of_dvd ?_))
    exact Nat.dvd_mul_left_of_dvd (Nat.dvd_of_mod_eq_zero e) p
   rw [e3,Rat.mul_zero,Rat.add_zero]
  ·rw [if_neg hm2]
theorem hkQ_dfT {p t : Nat} {c1 c2 : Int} {q : Rat} {a : Nat → Rat} {n : Nat} (H1 : HkQ p c1 c2 q a n) (H2 : HkQ p c1 c2 q (upT a t) n) : HkQ p c1 c2 q (dfT a t) n := by
 unfold HkQ dfT at *
 generalize upT a t = u at *
 generalize ((c1 : Rat) + (c2 : Rat) * q) = C at *
 generalize ((c1 * c2 : Int) : Rat) * q = E at *
 generalize ((t : Int) : Rat) = T at *
 by_cases hm : n % p = 0
 ·rw [if_pos hm] at H1 H2 ⊢
  grind
 ·rw [if_neg hm] at H1 H2 ⊢
  grind
theorem hkQ_wR {p : Nat} (hp : isP p) {d1 d2 : Int} (h1 : d1 ∈ fdL) (h2 : d2 ∈ fdL) {k t : Nat} (ht1 : 1 ≤ t) (ht : t % p ≠ 0) {n : Nat} (hn : p * n < 30) : HkQ p (kr d1 p) (kr d2 p) ((((p : Int) ^ (k - 1) : Int)) : Rat) (wR k d1 d2 t) n := by
 have H1 := fun n hn => hkQ_eK hp h1 h2 k (n := n) hn
 have H2 := hkQ_upT hp ht1 ht H1 hn
 unfold wR
 split
 ·exact hkQ_dfT (H1 n hn) H2
 ·exact H2
end Go.Proofs.YteecamhdbilmoaaGreatDoor