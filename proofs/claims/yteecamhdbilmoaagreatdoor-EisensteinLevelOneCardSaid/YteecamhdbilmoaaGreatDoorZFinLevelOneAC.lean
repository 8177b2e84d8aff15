/- Contracts of functions of the program, and what proves them (texts: S1 S2 B11s L1 L3 R3 S3 R4 R5 R6 R7 S0 S4 S5 A0 L4 NumM L2 LL). -/
import Derived.Test.YteecamhdbilmoaaGreatDoorZAG
import Derived.Test.YteecamhdbilmoaaGreatDoorZFinLevelOneAA
import Derived.Test.YteecamhdbilmoaaGreatDoorZFinLevelOneAB
set_option linter.all false
namespace Go.Proofs.YteecamhdbilmoaaGreatDoor
open Go Go.Lg Go.Num
set_option maxRecDepth 100000
set_option maxHeartbeats 4000000
def oqp : Option Rat → List LV
 | none => [.lit (.bool false),.sl 0 [],.lit (.bool false),.sl 0 []]
 | some q => qcells q
def op (l : List (Option Rat)) : List LV := l.flatMap oqp
theorem oqp_none : oqp none = [.lit (.bool false),.sl 0 [],.lit (.bool false),.sl 0 []] := rfl
theorem oqp_some (q : Rat) : oqp (some q) = [sg (q).num,mg (q).num,sg ((q).den : Int),mg ((q).den : Int)] := qcells_sm q
theorem oqp_len (o : Option Rat) : (oqp o).length = 4 := by cases o <;> rfl
theorem op_len (l : List (Option Rat)) : (op l).length = l.length * 4 := by induction l with
 | nil => rfl
 | cons a l ih => rw [op,List.flatMap_cons,List.length_append,oqp_len];rw [op] at ih;rw [ih,List.length_cons];omega
theorem op_take {l : List (Option Rat)} {m : Nat} (h : m = l.length * 4) : (op l).take m = op l := List.take_of_length_le (by rw [op_len];omega)
theorem op_drop (l : List (Option Rat)) : ∀ j,(op l).drop (j * 4) = op (l.drop j) := by
 induction l with
 | nil => intro j;simp [op]
 | cons x l ih =>
   intro j
   cases j with
   | zero => simp
   | succ j =>
     have : op (x :: l) = oqp x ++ op l := by simp [op]
     rw [this,List.drop_succ_cons,← ih,show (j + 1) * 4 = (oqp x).length + j * 4 by rw [oqp_len];omega,← List.drop_drop,List.drop_left]
theorem op_hd {l : List (Option Rat)} {s : Nat} (h : s < l.length) : (op (l.drop s)).take 4 = oqp (l.getD s none) := by
 rw [List.drop_eq_getElem_cons h]
 have e : l.getD s none = l[s] := by simp [h]
 have : op (l[s] :: l.drop (s + 1)) = oqp l[s] ++ op (l.drop (s + 1)) := rfl
 rw [this,e,show (4 : Nat) = (oqp l[s]).length from (oqp_len _).symm,List.take_left]
theorem op_td {l : List (Option Rat)} {s : Nat} (h : s < l.length) : ((op l).drop (s * 4)).take 4 = oqp (l.getD s none) := by
 rw [op_drop]
 exact op_hd h
theorem op_somes (l : List Rat) : op (l.map some) = qc l := by
 induction l with
 | nil => rfl
 | cons x l ih => simp only [op,qc,List.map_cons,List.flatMap_cons] at *;rw [ih];rfl
def oP (o : Nat → Option Rat) (N : Nat) : List (Option Rat) := (List.range N).map o
theorem oP_len (o : Nat → Option Rat) (N : Nat) : (oP o N).length = N := by simp [oP]
theorem oP_get {o : Nat → Option Rat} {N i : Nat} (h : i < N) : (oP o N).getD i none = o i := by simp [oP,h]
theorem oP_dget {o : Nat → Option Rat} {N s i : Nat} (h : s + i < N) : ((oP o N).drop s).getD i none = o (s + i) := by simp [oP,h]
theorem aP_oP (a : Nat → Rat) (N : Nat) : op (oP (fun i => some (a i)) N) = qc (aP a N) := by
 rw [← op_somes]
 simp [aP,oP,Function.comp_def]
theorem sign_none : PureGood Tryz.prog 68 [.agg [.lit (.bool false),.sl 0 [],.lit (.bool false),.sl 0 []]] (i64 0) := evl_good (by kernel_rfl)
theorem norm_none' : PureGood Tryz.prog 103 [.agg [.lit (.bool false),.sl 0 [],.lit (.bool false),.sl 0 []]] (.agg [.lit (.bool false),.sl 0 [],.lit (.bool false),.sl 1 [.lit (.int .u32 1)]]) := evl_good (by kernel_rfl)
theorem encQ_zero : encQ 0 = .agg [.lit (.bool false),.sl 0 [],.lit (.bool false),.sl 1 [.lit (.int .u32 1)]] := by with_unfolding_all rfl
theorem norm_none : PureGood Tryz.prog 103 [.agg [.lit (.bool false),.sl 0 [],.lit (.bool false),.sl 0 []]] (encQ 0) := by
 rw [encQ_zero]
 exact norm_none'
def cSer (h : Int) (a : Nat → Rat) (N : Nat) : LV := .agg [i64 (h + ordN a N),.sl (N - ordN a N) (qc (aP (fun i => a (ordN a N + i)) (N - ordN a N)))]
theorem cSer_eq {h : Int} {a : Nat → Rat} {N s : Nat} (hs : ordN a N = s) : cSer h a N = .agg [i64 (h + s),.sl (N - s) (qc (aP (fun i => a (s + i)) (N - s)))] := by
 unfold cSer
 rw [hs]
theorem cSer_shift {h : Int} {a : Nat → Rat} {N f : Nat} (hf : f ≤ N) (hz : ∀ j,j < f → a j = 0) : cSer h a N = cSer (h + f) (fun i => a (f + i)) (N - f) := by
 have e := ordN_shift hf hz
 rw [cSer_eq e,cSer_eq rfl]
 have e2 : (fun i => a (f + ordN (fun i => a (f + i)) (N - f) + i)) = fun i => a (f + (ordN (fun i => a (f + i)) (N - f) + i)) := by
  funext i
  rw [Nat.add_assoc]
 rw [e2,show N - (f + ordN (fun i => a (f + i)) (N - f)) = N - f - ordN (fun i => a (f + i)) (N - f) by omega,show h + ((f + ordN (fun i => a (f + i)) (N - f) : Nat) : Int) = h + (f : Int) + (ordN (fun i => a (f + i)) (N - f) : Int) by omega]
theorem cSer_zero {h : Int} {a : Nat → Rat} {N : Nat} (ha : 0 < N → a 0 ≠ 0) : cSer h a N = .agg [i64 h,.sl N (qc (aP a N))] := by
 rw [cSer_eq (ordN_zero ha)]
 simp only [Nat.zero_add,Nat.sub_zero,Int.natCast_zero,Int.add_zero]
attribute [local irreducible] Go.Lg.lrun Go.Lg.lwp Go.Lg.exThen Go.Lg.exBlk Go.Lg.keep Go.Lg.goodPost sg mg sS qs sv oc mC oqc cSer op oqp
theorem build_all (h : Int) (o : Nat → Option Rat) (a : Nat → Rat) (N : Nat) (ha : ∀ i,i < N → a i = (o i).getD 0) (h1 : -100 ≤ h) (h2 : h + N ≤ 1000) (ba : ∀ i,i < N → lq (a i) ≤ 1000) : PureGood Tryz.prog 71 [i64 h,.sl N (op (oP o N))] (.tup [cSer h a N,i64 0]) := by
 have hl := oP_len o N
 have hmn : (if 1000 - h < (N : Int) then 1000 - h else (N : Int)) = N := if_neg (by omega)
 generalize hR : cSer h a N = R
 simp only [i64] at *
 refine good_of_lwp mix Tryz.func71 rfl (by decide) (nt := 61) rfl (rs := [.cell 4 26,.tmp 5]) rfl (nle rfl) ?_
 (repeat (first|apply zO (by decide +kernel)|apply zP (by decide +kernel)|(apply zS;(case h=>constructor<;>decide))|((first|apply l_go rfl|apply c_dec|apply zT rfl (by decide) rfl);(case hs=>(simp (disch := first|omega|exact kD rfl|exact kX rfl) only [smY,simprocAttr,bl,i64,smT,smO,smM,op_len,@op_td,oqp_none,oqp_some,hmn,@op_take,op_drop];exact rfl));first|refine c_bt ?_|refine c_bf ?_|refine zq ?_|(case hg=>assumption))))
 refine w_loop (α := {s : Nat // s ≤ N ∧ ∀ j,j < s → a j = 0}) (fun s => st 61 (lk [(0,i64 h),(1,.sl N (op (oP o N))),(4,.ptr 0 0),(6,i64 s.1)]) (lkH [(0,⟨26,[i64 0,nilL],false⟩)]) 1) (fun s => N - s.1) ⟨0,Nat.zero_le _,fun j hj => by omega⟩ ?_ ?_
 ·(refine Sub.heap1 0 ?_ (by simp only [smF,dg,renL,renLs,simprocAttr,bl,i64,smT,smO,smM,op_len,@op_td,oqp_none,oqp_some,hmn,@op_take,op_drop];exact rfl) ?_ ?_;all_goals (first | exact dgs_plain _ | with_reducible rfl | (simp only [smF,dg,renL,renLs,simprocAttr,bl,i64,smT,smO,smM,op_len,@op_td,oqp_none,oqp_some,hmn,@op_take,op_drop];done) | (simp only [smF,dg,renL,renLs,simprocAttr,bl,i64,smT,smO,smM,op_len,@op_td,oqp_none,oqp_some,hmn,@op_take,op_drop]) | skip))
  all_goals (first | exact ⟨rfl,rfl⟩ | simp)
 ·rintro ⟨s,hs,hz⟩
  simp only [st]
  by_cases hc : s < N ∧ a s = 0
  ·obtain ⟨hlt,has⟩ := hc
   have e0 : (op ((oP o N).drop s)).take 4 = oqp (o s) := by rw [op_hd (by omega),oP_get hlt]
   have has' := ha s hlt
   rw [has] at has'
   cases ho : o s with
   | none =>
     rw [ho,oqp_none] at e0
     have g1 := sign_none
     simp only [i64,bl] at g1
     (repeat (first|apply zO (by decide +kernel)|apply zP (by decide +kernel)|(apply zS;(case h=>constructor<;>decide))|((first|apply l_go rfl|apply c_dec|apply zT rfl (by decide) rfl);(case hs=>(simp (disch := first|omega|exact kD rfl|exact kX rfl) only [smY,simprocAttr,bl,i64,smT,smO,smM,op_len,@op_td,oqp_none,oqp_some,hmn,op_drop,e0];exact rfl));first|refine c_bt ?_|refine c_bf ?_|refine zq ?_|(case hg=>assumption))))
     refine ⟨⟨s + 1,by omega,fun j hj => ?_⟩,?_,by simp only;omega⟩
     · by_cases e : j = s
       · rw [e];exact has
       · exact hz j (by omega)
     · (refine Sub.heap1 0 ?_ (by simp only [smF,dg,renL,renLs,simprocAttr,bl,i64,smT,smO,smM,op_len,@op_td,oqp_none,oqp_some,hmn,op_drop];exact rfl) ?_ ?_;all_goals (first | exact dgs_plain _ | with_reducible rfl | (simp only [smF,dg,renL,renLs,simprocAttr,bl,i64,smT,smO,smM,op_len,@op_td,oqp_none,oqp_some,hmn,op_drop];done) | (simp only [smF,dg,renL,renLs,simprocAttr,bl,i64,smT,smO,smM,op_len,@op_td,oqp_none,oqp_some,hmn,op_drop]) | skip))
       all_goals (first | exact ⟨rfl,rfl⟩ | simp)
   | some q =>
     rw [ho] at e0 has'
     obtain rfl : (0 : Rat) = q := has'
     rw [oqp_some] at e0
     have g1 := qsign_good 0 (by decide +kernel)
     rw [show (0 : Rat).num.sign = 0 from rfl] at g1
     generalize (0 : Rat) = q at *
     simp only [i64,encQ_sm] at g1
     (repeat (first|apply zO (by decide +kernel)|apply zP (by decide +kernel)|(apply zS;(case h=>constructor<;>decide))|((first|apply l_go rfl|apply c_dec|apply zT rfl (by decide) rfl);(case hs=>(simp (disch := first|omega|exact kD rfl|exact kX rfl) only [smY,simprocAttr,bl,i64,smT,smO,smM,op_len,@op_td,oqp_none,oqp_some,hmn,op_drop,e0];exact rfl));first|refine c_bt ?_|refine c_bf ?_|refine zq ?_|(case hg=>assumption))))
     refine ⟨⟨s + 1,by omega,fun j hj => ?_⟩,?_,by simp only;omega⟩
     · by_cases e : j = s
       · rw [e];exact has
       · exact hz j (by omega)
     · (refine Sub.heap1 0 ?_ (by simp only [smF,dg,renL,renLs,simprocAttr,bl,i64,smT,smO,smM,op_len,@op_td,oqp_none,oqp_some,hmn,op_drop];exact rfl) ?_ ?_;all_goals (first | exact dgs_plain _ | with_reducible rfl | (simp only [smF,dg,renL,renLs,simprocAttr,bl,i64,smT,smO,smM,op_len,@op_td,oqp_none,oqp_some,hmn,op_drop];done) | (simp only [smF,dg,renL,renLs,simprocAttr,bl,i64,smT,smO,smM,op_len,@op_td,oqp_none,oqp_some,hmn,op_drop]) | skip))
       all_goals (first | exact ⟨rfl,rfl⟩ | simp)
  ·have hord : ordN a N = s := ordN_eq hs hz (fun hlt e => hc ⟨hlt,e⟩)
   rw [cSer_eq hord] at hR
   have hdl : ((oP o N).drop s).length = N - s := by rw [List.length_drop,hl]
   have hcast : ((N - s : Nat) : Int) = (N : Int) - s := by omega
   by_cases hlt : s < N
   ·have e0 : (op ((oP o N).drop s)).take 4 = oqp (o s) := by rw [op_hd (by omega),oP_get hlt]
    have has := ha s hlt
    have has0 : a s ≠ 0 := fun e => hc ⟨hlt,e⟩
    cases ho : o s with
    | none => rw [ho] at has;exact absurd has has0
    | some q =>
      rw [ho] at e0 has
      obtain rfl : a s = q := has
      rw [oqp_some] at e0
      have g1 := qsign_good (a s) (by have := ba s hlt;omega)
      have g2 : (a s).num.sign ≠ 0 := fun e => has0 (Rat.num_eq_zero.1 (Int.sign_eq_zero_iff_zero.1 e))
      have g3 : -1 ≤ (a s).num.sign ∧ (a s).num.sign ≤ 1 := by
        rcases Int.sign_trichotomy (a s).num with e | e | e <;> rw [e] <;> omega
      generalize (a s).num.sign = sg0 at *
      generalize a s = q at *
      simp only [i64,encQ_sm] at g1
      (repeat (first|apply zO (by decide +kernel)|apply zP (by decide +kernel)|(apply zS;(case h=>constructor<;>decide))|((first|apply l_go rfl|apply c_dec|apply zT rfl (by decide) rfl);(case hs=>(simp (disch := first|omega|exact kD rfl|exact kX rfl) only [smY,simprocAttr,bl,i64,smT,smO,smM,op_len,@op_td,oqp_none,oqp_some,hmn,op_drop,hdl,e0];exact rfl));first|refine c_bt ?_|refine c_bf ?_|refine zq ?_|(case hg=>assumption))))
      refine w_loop (α := {i : Nat // i ≤ N - s}) (fun i => st 61 (lk [(0,i64 (h + s)),(4,.ptr 0 0),(7,.own 1 0 i.1 4),(46,.sl (N - s) (op ((oP o N).drop s))),(47,i64 ((N - s : Nat) : Int)),(48,i64 i.1)]) (lkH [(0,⟨26,[i64 0,nilL],false⟩),(1,⟨45,mC (fun i => a (s + i)) (N - s) i.1,false⟩)]) 2) (fun i => N - s - i.1) ⟨0,by omega⟩ ?_ ?_
      · have htk : (op ((oP o N).drop s)).take ((N - s) * 4) = op ((oP o N).drop s) := op_take (by rw [hdl])
        (refine Sub.heapL [0,23] rfl (by decide) ?_ (by simp only [smL];decide) ?_ ?_;all_goals (first|(simp only [plainC,smF,dg,renL,renLs,simprocAttr,bl,i64,smT,smO,smM,op_len,@op_td,oqp_none,oqp_some,op_drop,htk,mC_zero (fun i => a (s + i))];done) | (simp only [smF,dg,renL,renLs,simprocAttr,bl,i64,smT,smO,smM,op_len,@op_td,oqp_none,oqp_some,op_drop,htk,mC_zero (fun i => a (s + i))];(repeat' apply And.intro);all_goals rfl) | (simp only [smF,dg,renL,renLs,simprocAttr,bl,i64,smT,smO,smM,op_len,@op_td,oqp_none,oqp_some,op_drop,htk,mC_zero (fun i => a (s + i))]) | skip))
        all_goals (first | done | ((repeat' apply And.intro);all_goals (first | trivial | rfl)))
      · rintro ⟨i,hi⟩
        simp only [st]
        have hl2 := aP_len (fun i => a (s + i)) i
        have happ := aP_succ (fun i => a (s + i)) i
        by_cases hil : i < N - s
        · have e5 : ((oP o N).drop s).getD i none = o (s + i) := oP_dget (by omega)
          have b5 := ba (s + i) (by omega)
          have ha5 := ha (s + i) (by omega)
          cases ho5 : o (s + i) with
          | none =>
            rw [ho5] at e5 ha5
            have g5 := norm_none
            rw [show (0 : Rat) = a (s + i) from ha5.symm] at g5
            generalize hbv : a (s + i) = v at *
            simp only [encQ_sm] at g5
            (repeat (first|apply zO (by decide +kernel)|apply zP (by decide +kernel)|(apply zS;(case h=>constructor<;>decide))|((first|apply l_go rfl|apply c_dec|apply zT rfl (by decide) rfl);(case hs=>(simp (disch := first|omega|exact kD rfl|exact kX rfl) only [smY,simprocAttr,bl,i64,smT,smO,smM,op_len,@op_td,oqp_none,oqp_some,hdl,e5];exact rfl));first|refine c_bt ?_|refine c_bf ?_|refine zq ?_|(case hg=>assumption))))
            refine ⟨⟨i + 1,by omega⟩,?_,by simp only;omega⟩
            (refine Sub.heapL [0,11] rfl (by decide) ?_ (by simp only [smL];decide) ?_ ?_;all_goals (first|(simp only [plainC,smF,dg,renL,renLs,simprocAttr,bl,i64,smT,smO,smM,op_len,@op_td,oqp_none,oqp_some];done) | (simp only [smF,dg,renL,renLs,simprocAttr,bl,i64,smT,smO,smM,op_len,@op_td,oqp_none,oqp_some];(repeat' apply And.intro);all_goals rfl) | (simp only [smF,dg,renL,renLs,simprocAttr,bl,i64,smT,smO,smM,op_len,@op_td,oqp_none,oqp_some]) | skip))
            all_goals (first | done | (rw [mC_succ (a := fun i => a (s + i)) (N := N - s) (i := i) hbv];exact ⟨trivial,rfl⟩))
          | some q =>
            rw [ho5] at e5 ha5
            obtain rfl : a (s + i) = q := ha5
            have g5 := qnorm_good (a (s + i)) (by omega)
            generalize hbv : a (s + i) = v at *
            simp only [encQ_sm] at g5
            (repeat (first|apply zO (by decide +kernel)|apply zP (by decide +kernel)|(apply zS;(case h=>constructor<;>decide))|((first|apply l_go rfl|apply c_dec|apply zT rfl (by decide) rfl);(case hs=>(simp (disch := first|omega|exact kD rfl|exact kX rfl) only [smY,simprocAttr,bl,i64,smT,smO,smM,op_len,@op_td,oqp_none,oqp_some,hdl,e5];exact rfl));first|refine c_bt ?_|refine c_bf ?_|refine zq ?_|(case hg=>assumption))))
            refine ⟨⟨i + 1,by omega⟩,?_,by simp only;omega⟩
            (refine Sub.heapL [0,11] rfl (by decide) ?_ (by simp only [smL];decide) ?_ ?_;all_goals (first|(simp only [plainC,smF,dg,renL,renLs,simprocAttr,bl,i64,smT,smO,smM,op_len,@op_td,oqp_none,oqp_some];done) | (simp only [smF,dg,renL,renLs,simprocAttr,bl,i64,smT,smO,smM,op_len,@op_td,oqp_none,oqp_some];(repeat' apply And.intro);all_goals rfl) | (simp only [smF,dg,renL,renLs,simprocAttr,bl,i64,smT,smO,smM,op_len,@op_td,oqp_none,oqp_some]) | skip))
            all_goals (first | done | (rw [mC_succ (a := fun i => a (s + i)) (N := N - s) (i := i) hbv];exact ⟨trivial,rfl⟩))
        · obtain rfl : i = N - s := by omega
          subst hR
          (repeat (first|apply zO (by decide +kernel)|apply zP (by decide +kernel)|(apply zS;(case h=>constructor<;>decide))|((first|apply l_go rfl|apply c_dec|apply zT rfl (by decide) rfl);(case hs=>(simp (disch := first|omega|exact kD rfl|exact kX rfl) only [smY,simprocAttr,bl,i64,smT,smO,smM,op_len,@op_td,oqp_none,oqp_some];exact rfl));first|refine c_bt ?_|refine c_bf ?_|refine zq ?_|(case hg=>assumption))))
          ((first|apply g_ret|apply g_end);case hres => (simp only [smR];simp (disch := first|omega|exact kD rfl|exact kX rfl) only [smY,simprocAttr,bl,i64,smT,smO,smM,op_len,@op_td,oqp_none,oqp_some];exact rfl))
          simp (disch := first|omega|exact kD rfl|exact kX rfl) only [smY,simprocAttr,bl,i64,smT,smO,smM,op_len,@op_td,oqp_none,oqp_some]
   ·-- X: bl,i64,smT,smO,smM,op_len,@op_td,oqp_none,oqp_some,hmn,op_drop,hdl
    (repeat (first|apply zO (by decide +kernel)|apply zP (by decide +kernel)|(apply zS;(case h=>constructor<;>decide))|((first|apply l_go rfl|apply c_dec|apply zT rfl (by decide) rfl);(case hs=>(simp (disch := first|omega|exact kD rfl|exact kX rfl) only [smY,simprocAttr,bl,i64,smT,smO,smM,op_len,@op_td,oqp_none,oqp_some];exact rfl));first|refine c_bt ?_|refine c_bf ?_|refine zq ?_|(case hg=>assumption))))
    refine l_cskip rfl (by decide) rfl ?_
    (repeat (first|apply zO (by decide +kernel)|apply zP (by decide +kernel)|(apply zS;(case h=>constructor<;>decide))|((first|apply l_go rfl|apply c_dec|apply zT rfl (by decide) rfl);(case hs=>(simp (disch := first|omega|exact kD rfl|exact kX rfl) only [smY,simprocAttr,bl,i64,smT,smO,smM,op_len,@op_td,oqp_none,oqp_some];exact rfl));first|refine c_bt ?_|refine c_bf ?_|refine zq ?_|(case hg=>assumption))))
    refine w_loop (α := {i : Nat // i ≤ N - s}) (fun i => st 61 (lk [(0,i64 (h + s)),(4,.ptr 0 0),(7,.own 1 0 i.1 4),(46,.sl (N - s) (op ((oP o N).drop s))),(47,i64 ((N - s : Nat) : Int)),(48,i64 i.1)]) (lkH [(0,⟨26,[i64 0,nilL],false⟩),(1,⟨45,mC (fun i => a (s + i)) (N - s) i.1,false⟩)]) 2) (fun i => N - s - i.1) ⟨0,by omega⟩ ?_ ?_
    ·have htk : (op ((oP o N).drop s)).take ((N - s) * 4) = op ((oP o N).drop s) := op_take (by rw [hdl])
     (refine Sub.heapL [0,23] rfl (by decide) ?_ (by simp only [smL];decide) ?_ ?_;all_goals (first|(simp only [plainC,smF,dg,renL,renLs,simprocAttr,bl,i64,smT,smO,smM,op_len,@op_td,oqp_none,oqp_some,op_drop,htk,mC_zero (fun i => a (s + i))];done) | (simp only [smF,dg,renL,renLs,simprocAttr,bl,i64,smT,smO,smM,op_len,@op_td,oqp_none,oqp_some,op_drop,htk,mC_zero (fun i => a (s + i))];(repeat' apply And.intro);all_goals rfl) | (simp only [smF,dg,renL,renLs,simprocAttr,bl,i64,smT,smO,smM,op_len,@op_td,oqp_none,oqp_some,op_drop,htk,mC_zero (fun i => a (s + i))]) | skip))
     all_goals (first | done | ((repeat' apply And.intro);all_goals (first | trivial | rfl)))
    ·rintro ⟨i,hi⟩
     simp only [st]
     have hl2 := aP_len (fun i => a (s + i)) i
     have happ := aP_succ (fun i => a (s + i)) i
     by_cases hil : i < N - s
     ·exfalso;omega
     ·obtain rfl : i = N - s := by omega
      subst hR
      (repeat (first|apply zO (by decide +kernel)|apply zP (by decide +kernel)|(apply zS;(case h=>constructor<;>decide))|((first|apply l_go rfl|apply c_dec|apply zT rfl (by decide) rfl);(case hs=>(simp (disch := first|omega|exact kD rfl|exact kX rfl) only [smY,simprocAttr,bl,i64,smT,smO,smM,op_len,@op_td,oqp_none,oqp_some];exact rfl));first|refine c_bt ?_|refine c_bf ?_|refine zq ?_|(case hg=>assumption))))
      ((first|apply g_ret|apply g_end);case hres => (simp only [smR];simp (disch := first|omega|exact kD rfl|exact kX rfl) only [smY,simprocAttr,bl,i64,smT,smO,smM,op_len,@op_td,oqp_none,oqp_some];exact rfl))
      simp (disch := first|omega|exact kD rfl|exact kX rfl) only [smY,simprocAttr,bl,i64,smT,smO,smM,op_len,@op_td,oqp_none,oqp_some]
end Go.Proofs.YteecamhdbilmoaaGreatDoor
namespace Go.Proofs.YteecamhdbilmoaaGreatDoor
open Go Go.Lg Go.Num
set_option maxRecDepth 100000
set_option maxHeartbeats 8000000
attribute [local irreducible] Go.Lg.lrun Go.Lg.lwp Go.Lg.exThen Go.Lg.exBlk Go.Lg.keep Go.Lg.goodPost sg mg sS qs sv oc mC oqc cSer
theorem rzero_all (q : Rat) (hq : lq q ≤ 1000) : PureGood Tryz.prog 109 [encQ q] (bl (decide (q = 0))) := by
 by_cases h : q = 0
 ·subst h
  rw [dec_t rfl,encQ_zero]
  exact evl_good (by kernel_rfl)
 ·rw [dec_f h]
  exact rzero_good q hq (fun e => h (Rat.num_eq_zero.1 e))
theorem rResult_all (h : Int) (a : Nat → Rat) (N : Nat) (h1 : -100 ≤ h) (h2 : h + N ≤ 1000) (ba : ∀ i,i < N → lq (a i) ≤ 1000) : PureGood Tryz.prog 75 [i64 h,.sl N (qc (aP a N))] (.tup [cSer h a N,i64 0]) := by
 have hl := aP_len a N
 generalize hR : cSer h a N = R
 simp only [i64] at *
 refine good_of_lwp mix Tryz.func75 rfl (by decide) (nt := 68) rfl (rs := [.cell 4 26,.tmp 5]) rfl (nle rfl) ?_
 (repeat (first|apply zO (by decide +kernel)|apply zP (by decide +kernel)|(apply zS;(case h=>constructor<;>decide))|((first|apply l_go rfl|apply c_dec|apply zT rfl (by decide) rfl);(case hs=>(simp (disch := first|omega|exact kD rfl|exact kX rfl) only [smY,simprocAttr,bl,i64,smT];exact rfl));first|refine c_bt ?_|refine c_bf ?_|refine zq ?_|(case hg=>assumption))))
 refine w_loop (α := {s : Nat // s ≤ N ∧ ∀ j,j < s → a j = 0}) (fun s => st 68 (lk [(0,i64 h),(1,.sl N (qc (aP a N))),(4,.ptr 0 0),(6,i64 (h + N)),(7,i64 s.1)]) (lkH [(0,⟨26,[i64 0,nilL],false⟩)]) 1) (fun s => N - s.1) ⟨0,Nat.zero_le _,fun j hj => by omega⟩ ?_ ?_
 ·(refine Sub.heap1 0 ?_ (by simp only [smF,dg,renL,renLs,simprocAttr,bl,i64,smT];exact rfl) ?_ ?_;all_goals (first | exact dgs_plain _ | with_reducible rfl | (simp only [smF,dg,renL,renLs,simprocAttr,bl,i64,smT];done) | (simp only [smF,dg,renL,renLs,simprocAttr,bl,i64,smT]) | skip))
  all_goals (first | exact ⟨rfl,rfl⟩ | simp)
 ·rintro ⟨s,hs,hz⟩
  simp only [st]
  by_cases hc : s < N ∧ a s = 0
  ·obtain ⟨hlt,has⟩ := hc
   have e0 : (aP a N).getD s 0 = a s := aP_get hlt
   have g1 := rzero_all (a s) (ba s hlt)
   rw [dec_t has] at g1
   have hz' : ∀ j,j < s + 1 → a j = 0 := fun j hj => by
    by_cases e : j = s
    ·rw [e];exact has
    ·exact hz j (by omega)
   clear has
   generalize a s = av at g1 e0
   simp only [encQ_sm,bl] at g1
   (repeat (first|apply zO (by decide +kernel)|apply zP (by decide +kernel)|(apply zS;(case h=>constructor<;>decide))|((first|apply l_go rfl|apply c_dec|apply zT rfl (by decide) rfl);(case hs=>(simp (disch := first|omega|exact kD rfl|exact kX rfl) only [smY,simprocAttr,bl,i64,smT,e0];exact rfl));first|refine c_bt ?_|refine c_bf ?_|refine zq ?_|(case hg=>assumption))))
   refine ⟨⟨s + 1,by omega,hz'⟩,?_,by simp only;omega⟩
   (refine Sub.heap1 0 ?_ (by simp only [smF,dg,renL,renLs,simprocAttr,bl,i64,smT];exact rfl) ?_ ?_;all_goals (first | exact dgs_plain _ | with_reducible rfl | (simp only [smF,dg,renL,renLs,simprocAttr,bl,i64,smT];done) | (simp only [smF,dg,renL,renLs,simprocAttr,bl,i64,smT]) | skip))
   all_goals (first | exact ⟨rfl,rfl⟩ | simp)
  ·have hord : ordN a N = s := ordN_eq hs hz (fun hlt e => hc ⟨hlt,e⟩)
   rw [cSer_eq hord] at hR
   by_cases hlt : s < N
   ·have e0 : (aP a N).getD s 0 = a s := aP_get hlt
    have g1 := rzero_all (a s) (ba s hlt)
    rw [dec_f (fun e => hc ⟨hlt,e⟩)] at g1
    generalize a s = av at g1 e0
    simp only [encQ_sm,bl] at g1
    (repeat (first|apply zO (by decide +kernel)|apply zP (by decide +kernel)|(apply zS;(case h=>constructor<;>decide))|((first|apply l_go rfl|apply c_dec|apply zT rfl (by decide) rfl);(case hs=>(simp (disch := first|omega|exact kD rfl|exact kX rfl) only [smY,simprocAttr,bl,i64,smT,e0];exact rfl));first|refine c_bt ?_|refine c_bf ?_|refine zq ?_|(case hg=>assumption))))
    refine w_loop (α := {m : Nat // s + m ≤ N}) (fun m => st 68 (lk [(1,.sl N (qc (aP a N))),(4,.ptr 0 0),(8,.ptr 1 0),(9,i64 ((s : Int) + (m.1 : Int)))]) (lkH ((0,⟨26,[i64 0,nilL],false⟩) :: (1,⟨26,[i64 (h + s),nV 2 m.1],false⟩) :: nB 2 m.1 (qc (aP (fun i => a (s + i)) m.1)))) 3) (fun m => N - (s + m.1)) ⟨0,by omega⟩ ?_ ?_
    ·simp only [nV_zero,nB_zero]
     (refine Sub.heapR [0,24,99] rfl (by decide) ?_ (by simp only [smL];decide) ?_;all_goals (first|(simp only [smF,dg,renL,renLs,simprocAttr,bl,i64,smT];done) | (simp only [smF,dg,renL,renLs,simprocAttr,bl,i64,smT,Option.some.injEq,Blk.mk.injEq,true_and,and_true];first | done | (repeat' (first | apply And.intro | (refine ⟨_,rfl,?_⟩;simp only [smF,dg,renL,renLs,simprocAttr,bl,i64,smT];first | done | rfl)))) | skip))
     all_goals (first | done | ((repeat' apply And.intro);all_goals (first | trivial | rfl | (simp only [LV.lit.injEq,Value.int.injEq,true_and];omega) | exact ⟨_,rfl,rfl⟩)))
    ·rintro ⟨m,hm⟩
     simp only [st]
     have hl2 := aP_len (fun i => a (s + i)) m
     have happ := aP_succ (fun i => a (s + i)) m
     have hcn : ((s : Int) + (m : Int)).toNat = s + m := by omega
     by_cases hlt : s + m < N
     ·by_cases hi0 : m = 0
      ·simp only [nV_of hi0,nB_of hi0]
       have e1 : (aP a N).getD (s + m) 0 = a (s + m) := aP_get (by omega)
       have b1 := ba (s + m) (by omega)
       have g2 := rqnorm_good (a (s + m)) (by omega)
       generalize hai : a (s + m) = ai at *
       simp only [encQ_sm] at g2
       (repeat (first|apply zO (by decide +kernel)|apply zP (by decide +kernel)|(apply zS;(case h=>constructor<;>decide))|((first|apply l_go rfl|apply c_dec|apply zT rfl (by decide) rfl);(case hs=>(simp (disch := first|omega|exact kD rfl|exact kX rfl) only [smY,simprocAttr,bl,i64,smT,e1,hcn];exact rfl));first|refine c_bt ?_|refine c_bf ?_|refine zq ?_|(case hg=>assumption))))
       refine ⟨⟨m + 1,by omega⟩,?_,by simp only;omega⟩
       (subst hi0;simp only [nV_succ,nB_succ];(refine Sub.heapR [0,1,15] rfl (by decide) ?_ (by simp only [smL];decide) ?_;all_goals (first|(simp only [smF,dg,renL,renLs,simprocAttr,bl,i64,smT];done) | (simp only [smF,dg,renL,renLs,simprocAttr,bl,i64,smT,Option.some.injEq,Blk.mk.injEq,true_and,and_true];first | done | (repeat' (first | apply And.intro | (refine ⟨_,rfl,?_⟩;simp only [smF,dg,renL,renLs,simprocAttr,bl,i64,smT];first | done | rfl)))) | skip));have e : aP (fun i => a (s + i)) 1 = [ai] := (by rw [← hai];rfl);all_goals (first | done | ((repeat' apply And.intro);all_goals (first | trivial | rfl | (simp only [LV.lit.injEq,Value.int.injEq,true_and];omega) | (refine ⟨_,rfl,?_⟩;show qc [a (s + 0)] = _;rw [hai,← qc_one])))))
      ·simp only [nV_ne hi0,nB_ne hi0]
       have e1 : (aP a N).getD (s + m) 0 = a (s + m) := aP_get (by omega)
       have b1 := ba (s + m) (by omega)
       have g2 := rqnorm_good (a (s + m)) (by omega)
       generalize hai : a (s + m) = ai at *
       simp only [encQ_sm] at g2
       (repeat (first|apply zO (by decide +kernel)|apply zP (by decide +kernel)|(apply zS;(case h=>constructor<;>decide))|((first|apply l_go rfl|apply c_dec|apply zT rfl (by decide) rfl);(case hs=>(simp (disch := first|omega|exact kD rfl|exact kX rfl) only [smY,simprocAttr,bl,i64,smT,e1,hcn];exact rfl));first|refine c_bt ?_|refine c_bf ?_|refine zq ?_|(case hg=>assumption))))
       refine ⟨⟨m + 1,by omega⟩,?_,by simp only;omega⟩
       (simp only [nV_succ,nB_succ];(refine Sub.heapR [0,1,15] rfl (by decide) ?_ (by simp only [smL];decide) ?_;all_goals (first|(simp only [smF,dg,renL,renLs,simprocAttr,bl,i64,smT];done) | (simp only [smF,dg,renL,renLs,simprocAttr,bl,i64,smT,Option.some.injEq,Blk.mk.injEq,true_and,and_true];first | done | (repeat' (first | apply And.intro | (refine ⟨_,rfl,?_⟩;simp only [smF,dg,renL,renLs,simprocAttr,bl,i64,smT];first | done | rfl)))) | skip));all_goals (first | done | ((repeat' apply And.intro);all_goals (first | trivial | rfl | (simp only [LV.lit.injEq,Value.int.injEq,true_and];omega) | exact ⟨_,rfl,(by rw [happ,← qc_app])⟩))))
     ·have hi0 : m ≠ 0 := by omega
      obtain rfl : m = N - s := by omega
      simp only [nV_ne hi0,nB_ne hi0]
      subst hR
      (repeat (first|apply zO (by decide +kernel)|apply zP (by decide +kernel)|(apply zS;(case h=>constructor<;>decide))|((first|apply l_go rfl|apply c_dec|apply zT rfl (by decide) rfl);(case hs=>(simp (disch := first|omega|exact kD rfl|exact kX rfl) only [smY,simprocAttr,bl,i64,smT];exact rfl));first|refine c_bt ?_|refine c_bf ?_|refine zq ?_|(case hg=>assumption))))
      ((first|apply g_ret|apply g_end);case hres => (simp only [smR];simp (disch := first|omega|exact kD rfl|exact kX rfl) only [smY,simprocAttr,bl,i64,smT];exact rfl))
      simp (disch := first|omega|exact kD rfl|exact kX rfl) only [smY,simprocAttr,bl,i64,smT]
   ·have hsN : (h : Int) + N - s = h := by omega
    (repeat (first|apply zO (by decide +kernel)|apply zP (by decide +kernel)|(apply zS;(case h=>constructor<;>decide))|((first|apply l_go rfl|apply c_dec|apply zT rfl (by decide) rfl);(case hs=>(simp (disch := first|omega|exact kD rfl|exact kX rfl) only [smY,simprocAttr,bl,i64,smT,hsN];exact rfl));first|refine c_bt ?_|refine c_bf ?_|refine zq ?_|(case hg=>assumption))))
    refine l_cskip rfl (by decide) rfl ?_
    (repeat (first|apply zO (by decide +kernel)|apply zP (by decide +kernel)|(apply zS;(case h=>constructor<;>decide))|((first|apply l_go rfl|apply c_dec|apply zT rfl (by decide) rfl);(case hs=>(simp (disch := first|omega|exact kD rfl|exact kX rfl) only [smY,simprocAttr,bl,i64,smT,hsN];exact rfl));first|refine c_bt ?_|refine c_bf ?_|refine zq ?_|(case hg=>assumption))))
    refine w_loop (α := {m : Nat // s + m ≤ N}) (fun m => st 68 (lk [(1,.sl N (qc (aP a N))),(4,.ptr 0 0),(8,.ptr 1 0),(9,i64 ((s : Int) + (m.1 : Int)))]) (lkH ((0,⟨26,[i64 0,nilL],false⟩) :: (1,⟨26,[i64 (h + s),nV 2 m.1],false⟩) :: nB 2 m.1 (qc (aP (fun i => a (s + i)) m.1)))) 3) (fun m => N - (s + m.1)) ⟨0,by omega⟩ ?_ ?_
    ·simp only [nV_zero,nB_zero]
     (refine Sub.heapR [0,28,99] rfl (by decide) ?_ (by simp only [smL];decide) ?_;all_goals (first|(simp only [smF,dg,renL,renLs,simprocAttr,bl,i64,smT];done) | (simp only [smF,dg,renL,renLs,simprocAttr,bl,i64,smT,Option.some.injEq,Blk.mk.injEq,true_and,and_true];first | done | (repeat' (first | apply And.intro | (refine ⟨_,rfl,?_⟩;simp only [smF,dg,renL,renLs,simprocAttr,bl,i64,smT];first | done | rfl)))) | skip))
     all_goals (first | done | ((repeat' apply And.intro);all_goals (first | trivial | rfl | (simp only [LV.lit.injEq,Value.int.injEq,true_and];omega) | exact ⟨_,rfl,rfl⟩)))
    ·rintro ⟨m,hm⟩
     simp only [st]
     have hl2 := aP_len (fun i => a (s + i)) m
     have happ := aP_succ (fun i => a (s + i)) m
     have hcn : ((s : Int) + (m : Int)).toNat = s + m := by omega
     by_cases hlt : s + m < N
     ·exfalso;omega
     ·have hi0 : m = 0 := by omega
      simp only [nV_of hi0,nB_of hi0]
      subst hR
      rw [show N - s = 0 by omega]
      have hq : qc (aP (fun i => a (s + i)) 0) = [] := rfl
      rw [hq]
      (repeat (first|apply zO (by decide +kernel)|apply zP (by decide +kernel)|(apply zS;(case h=>constructor<;>decide))|((first|apply l_go rfl|apply c_dec|apply zT rfl (by decide) rfl);(case hs=>(simp (disch := first|omega|exact kD rfl|exact kX rfl) only [smY,simprocAttr,bl,i64,smT];exact rfl));first|refine c_bt ?_|refine c_bf ?_|refine zq ?_|(case hg=>assumption))))
      ((first|apply g_ret|apply g_end);case hres => (simp only [smR];simp (disch := first|omega|exact kD rfl|exact kX rfl) only [smY,simprocAttr,bl,i64,smT];exact rfl))
      simp (disch := first|omega|exact kD rfl|exact kX rfl) only [smY,simprocAttr,bl,i64,smT]
end Go.Proofs.YteecamhdbilmoaaGreatDoor
namespace Go.Proofs.YteecamhdbilmoaaGreatDoor
open Go Go.Lg Go.Num
set_option maxRecDepth 100000
attribute [local irreducible] Go.Lg.lrun Go.Lg.lwp Go.Lg.exThen Go.Lg.exBlk Go.Lg.keep Go.Lg.goodPost Go.Lg.mutPost
theorem sub_good (x y : Int) (hx : len x ≤ 549755813888) (hy : len y ≤ 549755813888) : PureGood Tryz.prog 100 [encI x,encI y] (encI (x - y)) := by
 have hy' := hy
 unfold len at hy'
 have hi := add_inner x (-y) (!decide (y < 0)) y.natAbs (by by_cases h : y < 0 <;> simp [h] <;> omega) hx hy
 rw [show x + -y = x - y by omega] at hi
 simp only [encI,bl] at hi ⊢
 refine good_of_lwp mix Tryz.func100 rfl (by decide) (nt := 13) rfl (rs := [.cell 4 43]) rfl (nle rfl) ?_
 (repeat (first|apply zO (by decide +kernel)|apply zP (by decide +kernel)|(apply zS;(case h=>constructor<;>decide))|((first|apply l_go rfl|apply c_dec);(case hs=>(simp (disch := first|omega|exact kD rfl|exact kX rfl) only [smY,simprocAttr,bl,u32,u64,i64];exact rfl));first|refine c_bt ?_|refine c_bf ?_|refine zq ?_)))
 refine l_call rfl (by decide) rfl (by simp (disch := first|omega|exact kD rfl|exact kX rfl) only [smY,simprocAttr,bl,u32,u64,i64];exact rfl) (trimmed_digs _ (by omega)) ?_
 (repeat (first|apply zO (by decide +kernel)|apply zP (by decide +kernel)|(apply zS;(case h=>constructor<;>decide))|((first|apply l_go rfl|apply c_dec|apply zT rfl (by decide) rfl);(case hs=>(simp (disch := first|omega|exact kD rfl|exact kX rfl) only [smY,simprocAttr,bl,u32,u64,i64];exact rfl));first|refine c_bt ?_|refine c_bf ?_|refine zq ?_|(case hg=>assumption))))
 ((first|apply g_ret|apply g_end);case hres => (simp only [smR];simp (disch := first|omega|exact kD rfl|exact kX rfl) only [smY,simprocAttr,bl,u32,u64,i64];exact rfl))
 simp (disch := first|omega|exact kD rfl|exact kX rfl) only [smY,simprocAttr,bl,u32,u64,i64]
end Go.Proofs.YteecamhdbilmoaaGreatDoor
namespace Go.Proofs.YteecamhdbilmoaaGreatDoor
open Go Go.Lg Go.Num
set_option maxRecDepth 100000
set_option maxHeartbeats 8000000
attribute [local irreducible] Go.Lg.lrun Go.Lg.lwp Go.Lg.exThen Go.Lg.exBlk Go.Lg.keep Go.Lg.goodPost sg mg oc mC twP tw bq kr chi eK gB
theorem term_good (d k : Nat) (hd1 : 1 ≤ d) (hd : d ≤ 1000) (hk : k ≤ 40) : PureGood Tryz.prog 99 [i64 d,i64 k] (encI ((d : Int) ^ k)) := by
 have g1 := of_good (d : Int) (by omega)
 have hb := nbits_len d
 have hdl : (digs d).length ≤ 1 := length_digs_le (k := 1) (by omega)
 have g2 := pow_good (d : Int) k (Nat.le_trans (len_pow_lt (e := 1) (by omega)) (by omega)) (by
  rw [Int.natAbs_natCast]
  by_cases h : nbits d ≤ 1
  ·exact .inl h
  ·refine .inr ((Nat.le_div_iff_mul_le (by omega)).2 ?_)
   have : k * nbits d ≤ 40 * 32 := Nat.mul_le_mul hk (by omega)
   omega) (by omega)
 generalize (d : Int) ^ k = p at *
 simp only [encI_sm,i64] at *
 refine good_of_lwp mix Tryz.func99 rfl (by decide) (nt := 15) rfl (rs := [.cell 4 43]) rfl (nle rfl) ?_
 (repeat (first|apply zO (by decide +kernel)|apply zP (by decide +kernel)|(apply zS;(case h=>constructor<;>decide))|((first|apply l_go rfl|apply c_dec|apply zT rfl (by decide) rfl);(case hs=>(simp (disch := first|omega|exact kD rfl|exact kX rfl) only [smY,simprocAttr,bl,i64,smT,smO];exact rfl));first|refine c_bt ?_|refine c_bf ?_|refine zq ?_|(case hg=>assumption))))
 ((first|apply g_ret|apply g_end);case hres => (simp only [smR];simp (disch := first|omega|exact kD rfl|exact kX rfl) only [smY,simprocAttr,bl,i64,smT,smO];exact rfl))
 simp (disch := first|omega|exact kD rfl|exact kX rfl) only [smY,simprocAttr,bl,i64,smT,smO]
theorem sum_good (k : Nat) (d1 d2 : Int) (n : Nat) (hd1 : d1 ∈ fdL) (hd2 : d2 ∈ fdL) (hk : k ≤ 40) (hn1 : 1 ≤ n) (hn : n ≤ 1000) : PureGood Tryz.prog 61 [i64 k,i64 d1,i64 d2,i64 n] (encI (tw k d1 d2 n)) := by
 have k0 : PureGood Tryz.prog 78 [i64 0] (encI (twP k d1 d2 n 0)) := by
  have e : twP k d1 d2 n 0 = 0 := by unfold twP;rfl
  rw [e]
  exact of_good 0 (by omega)
 have hl : tw k d1 d2 n = twP k d1 d2 n n := by unfold tw;rfl
 rw [hl]
 simp only [encI_sm,i64] at *
 refine good_of_lwp mix Tryz.func61 rfl (by decide) (nt := 45) rfl (rs := [.cell 8 43]) rfl (nle rfl) ?_
 (repeat (first|apply zO (by decide +kernel)|apply zP (by decide +kernel)|(apply zS;(case h=>constructor<;>decide))|((first|apply l_go rfl|apply c_dec|apply zT rfl (by decide) rfl);(case hs=>(simp (disch := first|omega|exact kD rfl|exact kX rfl) only [smY,simprocAttr,bl,i64,smT,smO];exact rfl));first|refine c_bt ?_|refine c_bf ?_|refine zq ?_|(case hg=>assumption))))
 refine w_loop (α := {j : Nat // j ≤ n}) (fun j => st 45 (lk [(0,i64 k),(1,i64 d1),(2,i64 d2),(3,i64 n),(8,.ptr 0 0),(9,.ptr 1 0),(10,i64 (j.1 + 1 : Nat))]) (lkH [(0,⟨43,[bl false,.lit (.slice none 0 0)],false⟩),(1,⟨43,[sg (twP k d1 d2 n j.1),mg (twP k d1 d2 n j.1)],false⟩)]) 2) (fun j => n - j.1) ⟨0,by omega⟩ ?_ ?_
 ·(refine Sub.heapL [0,2] rfl (by decide) ?_ (by simp only [smL];decide) ?_ ?_;all_goals (first|(simp only [plainC,smF,dg,renL,renLs,simprocAttr,bl,i64,smT,smO];done) | (simp only [smF,dg,renL,renLs,simprocAttr,bl,i64,smT,smO];(repeat' apply And.intro);all_goals rfl) | (simp only [smF,dg,renL,renLs,simprocAttr,bl,i64,smT,smO]) | skip))
  all_goals (first | done | ((repeat' apply And.intro);all_goals (first | trivial | rfl)))
 ·rintro ⟨j,hj⟩
  simp only [st]
  by_cases hjn : j < n
  ·by_cases hdv : n % (j + 1) = 0
   ·have hq1 : 1 ≤ n / (j + 1) := Nat.div_pos (Nat.le_of_dvd hn1 (Nat.dvd_of_mod_eq_zero hdv)) (by omega)
    have hq2 : n / (j + 1) ≤ n := Nat.div_le_self _ _
    have r1 := kron_good d1 hd1 (n / (j + 1)) hq1 (by omega)
    have r2 := kron_good d2 hd2 (j + 1) (by omega) (by omega)
    have v1 := isS_bd (kr_val hd1 hq1 (by omega)).2
    have v2 := isS_bd (kr_val hd2 (n := j + 1) (by omega) (by omega)).2
    have hv := chi_val hd1 hd2 hn (j := j + 1) (by omega) (by omega)
    have hce : kr d1 (n / (j + 1)) * kr d2 (j + 1) = chi d1 d2 n (j + 1) := by unfold chi;rfl
    have r3 := term_good (j + 1) k (by omega) (by omega) hk
    have b1 := len_dk' (d := j + 1) (k := k) (by omega) hk
    have b2 := len_twP (k := k) hd1 hd2 hn hk (j := j) (by omega)
    have e1 := twP_pos (k := k) (d1 := d1) (d2 := d2) hdv
    have e2 := twP_zer (k := k) (d1 := d1) (d2 := d2) hdv
    have e3 := twP_neg (k := k) (d1 := d1) (d2 := d2) hdv
    have r4 := add_good (twP k d1 d2 n j) (((j + 1 : Nat) : Int) ^ k) (by omega) (by omega)
    have r5 := sub_good (twP k d1 d2 n j) (((j + 1 : Nat) : Int) ^ k) (by omega) (by omega)
    generalize ((j + 1 : Nat) : Int) ^ k = p at *
    generalize chi d1 d2 n (j + 1) = c at *
    generalize hq : n / (j + 1) = q at *
    generalize kr d1 q = u at *
    generalize kr d2 (j + 1) = w at *
    simp only [i64] at r1 r2
    rcases hv with hc | hc | hc
    ·rw [← e1 hc] at r4
     clear e1 e2 e3 r5
     simp only [encI_sm,i64] at r3 r4
     (repeat (first|apply zO (by decide +kernel)|apply zP (by decide +kernel)|(apply zS;(case h=>constructor<;>decide))|((first|apply l_go rfl|apply c_dec|apply zT rfl (by decide) rfl);(case hs=>(simp (disch := first|omega|exact kD rfl|exact kX rfl) only [smY,simprocAttr,bl,i64,smT,smO,hq,hce];exact rfl));first|refine c_bt ?_|refine c_bf ?_|refine zq ?_|(case hg=>assumption))))
     refine ⟨⟨j + 1,by omega⟩,?_,by simp only;omega⟩
     (refine Sub.heapL [0,1] rfl (by decide) ?_ (by simp only [smL];decide) ?_ ?_;all_goals (first|(simp only [plainC,smF,dg,renL,renLs,simprocAttr,bl,i64,smT,smO];done) | (simp only [smF,dg,renL,renLs,simprocAttr,bl,i64,smT,smO];(repeat' apply And.intro);all_goals rfl) | (simp only [smF,dg,renL,renLs,simprocAttr,bl,i64,smT,smO]) | skip))
     all_goals (first | done | ((repeat' apply And.intro);all_goals (first | trivial | rfl)))
    ·have e4 := e2 hc
     clear e1 e2 e3 r4 r5
     simp only [encI_sm,i64] at r3
     (repeat (first|apply zO (by decide +kernel)|apply zP (by decide +kernel)|(apply zS;(case h=>constructor<;>decide))|((first|apply l_go rfl|apply c_dec|apply zT rfl (by decide) rfl);(case hs=>(simp (disch := first|omega|exact kD rfl|exact kX rfl) only [smY,simprocAttr,bl,i64,smT,smO,hq,hce];exact rfl));first|refine c_bt ?_|refine c_bf ?_|refine zq ?_|(case hg=>assumption))))
     refine ⟨⟨j + 1,by omega⟩,?_,by simp only;omega⟩
     simp only [e4]
     (refine Sub.heapL [0,1] rfl (by decide) ?_ (by simp only [smL];decide) ?_ ?_;all_goals (first|(simp only [plainC,smF,dg,renL,renLs,simprocAttr,bl,i64,smT,smO];done) | (simp only [smF,dg,renL,renLs,simprocAttr,bl,i64,smT,smO];(repeat' apply And.intro);all_goals rfl) | (simp only [smF,dg,renL,renLs,simprocAttr,bl,i64,smT,smO]) | skip))
     all_goals (first | done | ((repeat' apply And.intro);all_goals (first | trivial | rfl)))
    ·rw [← e3 hc] at r5
     clear e1 e2 e3 r4
     simp only [encI_sm,i64] at r3 r5
     (repeat (first|apply zO (by decide +kernel)|apply zP (by decide +kernel)|(apply zS;(case h=>constructor<;>decide))|((first|apply l_go rfl|apply c_dec|apply zT rfl (by decide) rfl);(case hs=>(simp (disch := first|omega|exact kD rfl|exact kX rfl) only [smY,simprocAttr,bl,i64,smT,smO,hq,hce];exact rfl));first|refine c_bt ?_|refine c_bf ?_|refine zq ?_|(case hg=>assumption))))
     refine ⟨⟨j + 1,by omega⟩,?_,by simp only;omega⟩
     (refine Sub.heapL [0,1] rfl (by decide) ?_ (by simp only [smL];decide) ?_ ?_;all_goals (first|(simp only [plainC,smF,dg,renL,renLs,simprocAttr,bl,i64,smT,smO];done) | (simp only [smF,dg,renL,renLs,simprocAttr,bl,i64,smT,smO];(repeat' apply And.intro);all_goals rfl) | (simp only [smF,dg,renL,renLs,simprocAttr,bl,i64,smT,smO]) | skip))
     all_goals (first | done | ((repeat' apply And.intro);all_goals (first | trivial | rfl)))
   ·have es : twP k d1 d2 n (j + 1) = twP k d1 d2 n j := twP_no hdv
    (repeat (first|apply zO (by decide +kernel)|apply zP (by decide +kernel)|(apply zS;(case h=>constructor<;>decide))|((first|apply l_go rfl|apply c_dec|apply zT rfl (by decide) rfl);(case hs=>(simp (disch := first|omega|exact kD rfl|exact kX rfl) only [smY,simprocAttr,bl,i64,smT,smO];exact rfl));first|refine c_bt ?_|refine c_bf ?_|refine zq ?_|(case hg=>assumption))))
    refine ⟨⟨j + 1,by omega⟩,?_,by simp only;omega⟩
    simp only [es]
    (refine Sub.heapL [0,1] rfl (by decide) ?_ (by simp only [smL];decide) ?_ ?_;all_goals (first|(simp only [plainC,smF,dg,renL,renLs,simprocAttr,bl,i64,smT,smO];done) | (simp only [smF,dg,renL,renLs,simprocAttr,bl,i64,smT,smO];(repeat' apply And.intro);all_goals rfl) | (simp only [smF,dg,renL,renLs,simprocAttr,bl,i64,smT,smO]) | skip))
    all_goals (first | done | ((repeat' apply And.intro);all_goals (first | trivial | rfl)))
  ·obtain rfl : j = n := by omega
   (repeat (first|apply zO (by decide +kernel)|apply zP (by decide +kernel)|(apply zS;(case h=>constructor<;>decide))|((first|apply l_go rfl|apply c_dec|apply zT rfl (by decide) rfl);(case hs=>(simp (disch := first|omega|exact kD rfl|exact kX rfl) only [smY,simprocAttr,bl,i64,smT,smO];exact rfl));first|refine c_bt ?_|refine c_bf ?_|refine zq ?_|(case hg=>assumption))))
   ((first|apply g_ret|apply g_end);case hres => (simp only [smR];simp (disch := first|omega|exact kD rfl|exact kX rfl) only [smY,simprocAttr,bl,i64,smT,smO];exact rfl))
   simp (disch := first|omega|exact kD rfl|exact kX rfl) only [smY,simprocAttr,bl,i64,smT,smO]
end Go.Proofs.YteecamhdbilmoaaGreatDoor
namespace Go.Proofs.YteecamhdbilmoaaGreatDoor
open Go Go.Lg Go.Num
set_option maxRecDepth 100000
set_option maxHeartbeats 8000000
attribute [local irreducible] Go.Lg.lrun Go.Lg.lwp Go.Lg.exThen Go.Lg.exBlk Go.Lg.keep Go.Lg.goodPost sg mg oc mC twP tw bq kr chi eK gB
theorem m2k_ne {k : Nat} (hk : 1 ≤ k) : (((-2 * (k : Int) : Int)) : Rat) ≠ 0 := by
 intro e
 have := Rat.intCast_inj.1 (e.trans Rat.intCast_zero.symm)
 omega
theorem lq_tw {k : Nat} {d1 d2 : Int} (h1 : d1 ∈ fdL) (h2 : d2 ∈ fdL) {n : Nat} (hn : n ≤ 1000) (hk : k ≤ 40) : len (tw k d1 d2 n) ≤ 14 := by
 have := len_twP (k := k) h1 h2 hn hk (Nat.le_refl n)
 unfold tw
 exact this
theorem lq_eK {k m : Nat} {d1 d2 : Int} (hk1 : 1 ≤ k) (hk : k ≤ 40) (hd1 : d1 ∈ fdL) (hd2 : d2 ∈ fdL) (hm : m ≤ 1000) : lq (eK k d1 d2 m) ≤ 410 := by
 by_cases h0 : m = 0
 ·subst h0
  by_cases e : d1 = 1
  ·subst e
   rw [eK_zero1]
   have b1 := lq_gB hk hd2
   have b2 := lq_i64 (z := -2 * (k : Int)) (by omega)
   have b3 := lq_div (gB k d2) (((-2 * (k : Int) : Int)) : Rat) (m2k_ne hk1)
   omega
  ·rw [eK_zero0 e]
   decide +kernel
 ·rw [eK_pos h0,lq_int]
  have := lq_tw (k := k - 1) hd1 hd2 hm (by omega)
  omega
theorem classical_good (k prec : Nat) (d1 d2 : Int) (hd1 : d1 ∈ fdL) (hd2 : d2 ∈ fdL) (hk1 : 2 ≤ k) (hk : k ≤ 40) (hp : prec ≤ 1000) : PureGood Tryz.prog 41 [i64 k,i64 d1,i64 d2,i64 prec] (.sl prec (qc (aP (eK k d1 d2) prec))) := by
 obtain ⟨_,hr1⟩ := fd_rng hd1
 obtain ⟨_,hr2⟩ := fd_rng hd2
 simp only [i64]
 refine good_of_lwp mix Tryz.func41 rfl (by decide) (nt := 53) rfl (rs := [.tmp 8]) rfl (nle rfl) ?_
 (repeat (first|apply zO (by decide +kernel)|apply zP (by decide +kernel)|(apply zS;(case h=>constructor<;>decide))|((first|apply l_go rfl|apply c_dec|apply zT rfl (by decide) rfl);(case hs=>(simp (disch := first|omega|exact kD rfl|exact kX rfl) only [smY,simprocAttr,bl,i64,smT,smO];exact rfl));first|refine c_bt ?_|refine c_bf ?_|refine zq ?_|(case hg=>assumption))))
 refine w_loop (α := {m : Nat // m ≤ prec}) (fun m => st 53 (lk [(0,i64 k),(1,i64 d1),(2,i64 d2),(3,i64 prec),(9,nV 0 m.1),(14,i64 prec),(15,i64 m.1)]) (lkH (nB 0 m.1 (qc (aP (eK k d1 d2) m.1)))) 1) (fun m => prec - m.1) ⟨0,by omega⟩ ?_ ?_
 ·simp only [nV_zero,nB_zero]
  (refine Sub.plain ?_;simp only [smF,dg,renL,renLs,simprocAttr,bl,i64,smT,smO])
  all_goals (first | done | ((repeat' apply And.intro);all_goals (first | trivial | rfl)))
 ·rintro ⟨m,hm⟩
  simp only [st]
  have hla := aP_len (eK k d1 d2) m
  have happ := aP_succ (eK k d1 d2) m
  by_cases hmp : m < prec
  ·by_cases h0 : m = 0
   ·simp only [nV_of h0,nB_of h0]
    subst h0
    have r0 := qof_good 0 (by omega)
    by_cases he : d1 = 1
    ·subst he
     have r1 := quadB_good hd2 k (by omega) hk
     have r2 := qof_good (-2 * (k : Int)) (by omega)
     have b1 := lq_gB hk hd2
     have b2 := lq_i64 (z := -2 * (k : Int)) (by omega)
     have r3 := quo_good (gB k d2) (((-2 * (k : Int) : Int)) : Rat) (m2k_ne (by omega)) (by omega) (by omega)
     rw [← eK_zero1] at r3
     generalize hc0 : eK k 1 d2 0 = c0 at *
     generalize gB k d2 = bk at *
     simp only [encQ_sm,i64] at r0 r1 r2 r3
     (repeat (first|apply zO (by decide +kernel)|apply zP (by decide +kernel)|(apply zS;(case h=>constructor<;>decide))|((first|apply l_go rfl|apply c_dec|apply zT rfl (by decide) rfl);(case hs=>(simp (disch := first|omega|exact kD rfl|exact kX rfl) only [smY,simprocAttr,bl,i64,smT,smO];exact rfl));first|refine c_bt ?_|refine c_bf ?_|refine zq ?_|(case hg=>assumption))))
     refine ⟨⟨0 + 1,by omega⟩,?_,by simp only;omega⟩
     simp only [nV_succ,nB_succ]
     (refine Sub.heapL [32] rfl (by decide) ?_ (by simp only [smL];decide) ?_ ?_;all_goals (first|(simp only [plainC,smF,dg,renL,renLs,simprocAttr,bl,i64,smT,smO];done) | (simp only [smF,dg,renL,renLs,simprocAttr,bl,i64,smT,smO];(repeat' apply And.intro);all_goals rfl) | (simp only [smF,dg,renL,renLs,simprocAttr,bl,i64,smT,smO]) | skip))
     all_goals (first | done | (have e : aP (eK k 1 d2) 1 = [c0] := happ;rw [e,← qc_one]))
    ·rw [show ((0 : Int) : Rat) = eK k d1 d2 0 by rw [eK_zero0 he];rfl] at r0
     generalize hc0 : eK k d1 d2 0 = c0 at *
     simp only [encQ_sm,i64] at r0
     (repeat (first|apply zO (by decide +kernel)|apply zP (by decide +kernel)|(apply zS;(case h=>constructor<;>decide))|((first|apply l_go rfl|apply c_dec|apply zT rfl (by decide) rfl);(case hs=>(simp (disch := first|omega|exact kD rfl|exact kX rfl) only [smY,simprocAttr,bl,i64,smT,smO];exact rfl));first|refine c_bt ?_|refine c_bf ?_|refine zq ?_|(case hg=>assumption))))
     refine ⟨⟨0 + 1,by omega⟩,?_,by simp only;omega⟩
     simp only [nV_succ,nB_succ]
     (refine Sub.heapL [14] rfl (by decide) ?_ (by simp only [smL];decide) ?_ ?_;all_goals (first|(simp only [plainC,smF,dg,renL,renLs,simprocAttr,bl,i64,smT,smO];done) | (simp only [smF,dg,renL,renLs,simprocAttr,bl,i64,smT,smO];(repeat' apply And.intro);all_goals rfl) | (simp only [smF,dg,renL,renLs,simprocAttr,bl,i64,smT,smO]) | skip))
     all_goals (first | done | (have e : aP (eK k d1 d2) 1 = [c0] := happ;rw [e,← qc_one]))
   ·simp only [nV_ne h0,nB_ne h0]
    have r1 := sum_good (k - 1) d1 d2 m hd1 hd2 (by omega) (by omega) (by omega)
    have b1 := lq_tw (k := k - 1) (n := m) hd1 hd2 (by omega) (by omega)
    have r2 := whole_good (tw (k - 1) d1 d2 m) (by omega)
    rw [← eK_pos h0] at r2
    have e2 : (k : Int) - 1 = ((k - 1 : Nat) : Int) := by omega
    generalize hcm : eK k d1 d2 m = cm at *
    generalize tw (k - 1) d1 d2 m = s at *
    generalize k - 1 = k' at *
    simp only [encQ_sm,encI_sm,i64] at r1 r2
    (repeat (first|apply zO (by decide +kernel)|apply zP (by decide +kernel)|(apply zS;(case h=>constructor<;>decide))|((first|apply l_go rfl|apply c_dec|apply zT rfl (by decide) rfl);(case hs=>(simp (disch := first|omega|exact kD rfl|exact kX rfl) only [smY,simprocAttr,bl,i64,smT,smO,e2];exact rfl));first|refine c_bt ?_|refine c_bf ?_|refine zq ?_|(case hg=>assumption))))
    refine ⟨⟨m + 1,by omega⟩,?_,by simp only;omega⟩
    simp only [nV_succ,nB_succ]
    (refine Sub.heapL [15] rfl (by decide) ?_ (by simp only [smL];decide) ?_ ?_;all_goals (first|(simp only [plainC,smF,dg,renL,renLs,simprocAttr,bl,i64,smT,smO];done) | (simp only [smF,dg,renL,renLs,simprocAttr,bl,i64,smT,smO];(repeat' apply And.intro);all_goals rfl) | (simp only [smF,dg,renL,renLs,simprocAttr,bl,i64,smT,smO]) | skip))
    all_goals (first | done | rw [happ,← qc_app])
  ·obtain rfl : m = prec := by omega
   by_cases h0 : m = 0
   ·simp only [nV_of h0,nB_of h0]
    subst h0
    have hq : qc (aP (eK k d1 d2) 0) = [] := rfl
    rw [hq]
    (repeat (first|apply zO (by decide +kernel)|apply zP (by decide +kernel)|(apply zS;(case h=>constructor<;>decide))|((first|apply l_go rfl|apply c_dec|apply zT rfl (by decide) rfl);(case hs=>(simp (disch := first|omega|exact kD rfl|exact kX rfl) only [smY,simprocAttr,bl,i64,smT,smO];exact rfl));first|refine c_bt ?_|refine c_bf ?_|refine zq ?_|(case hg=>assumption))))
    ((first|apply g_ret|apply g_end);case hres => (simp only [smR];simp (disch := first|omega|exact kD rfl|exact kX rfl) only [smY,simprocAttr,bl,i64,smT,smO];exact rfl))
    simp (disch := first|omega|exact kD rfl|exact kX rfl) only [smY,simprocAttr,bl,i64,smT,smO]
   ·simp only [nV_ne h0,nB_ne h0]
    (repeat (first|apply zO (by decide +kernel)|apply zP (by decide +kernel)|(apply zS;(case h=>constructor<;>decide))|((first|apply l_go rfl|apply c_dec|apply zT rfl (by decide) rfl);(case hs=>(simp (disch := first|omega|exact kD rfl|exact kX rfl) only [smY,simprocAttr,bl,i64,smT,smO];exact rfl));first|refine c_bt ?_|refine c_bf ?_|refine zq ?_|(case hg=>assumption))))
    ((first|apply g_ret|apply g_end);case hres => (simp only [smR];simp (disch := first|omega|exact kD rfl|exact kX rfl) only [smY,simprocAttr,bl,i64,smT,smO];exact rfl))
    simp (disch := first|omega|exact kD rfl|exact kX rfl) only [smY,simprocAttr,bl,i64,smT,smO]
end Go.Proofs.YteecamhdbilmoaaGreatDoor
namespace Go.Proofs.YteecamhdbilmoaaGreatDoor
open Go Go.Lg Go.Num
set_option maxRecDepth 100000
set_option maxHeartbeats 8000000
attribute [local irreducible] Go.Lg.lrun Go.Lg.lwp Go.Lg.exThen Go.Lg.exBlk Go.Lg.keep Go.Lg.goodPost sg mg oc mC twP tw bq kr chi eK gB cSer
theorem aP0 (a : Nat → Rat) : qc (aP a 0) = [] := rfl
theorem cSer_form (h : Int) (a : Nat → Rat) (N : Nat) : ∃ x M L,cSer h a N = .agg [i64 x,.sl M (qc L)] ∧ L.length = M ∧ M ≤ N ∧ x = h + ((N : Int) - M) := by
 obtain ⟨h1,_,_⟩ := ordN_spec a N
 exact ⟨_,_,_,cSer_eq rfl,aP_len _ _,by omega,by omega⟩
theorem rplain_good (k prec : Nat) (d1 d2 : Int) (hd1 : d1 ∈ fdL) (hd2 : d2 ∈ fdL) (hk1 : 2 ≤ k) (hk : k ≤ 40) (hp : prec ≤ 1000) : PureGood Tryz.prog 42 [i64 k,i64 d1,i64 d2,i64 prec] (cSer 0 (eK k d1 d2) prec) := by
 obtain ⟨_,hr1⟩ := fd_rng hd1
 obtain ⟨_,hr2⟩ := fd_rng hd2
 have rR := rResult_all 0 (eK k d1 d2) prec (by omega) (by omega) (fun i hi => Nat.le_trans (lq_eK (by omega) hk hd1 hd2 (by omega)) (by omega))
 obtain ⟨x,M,L,hR,hLM,hM,hx⟩ := cSer_form 0 (eK k d1 d2) prec
 rw [hR] at rR ⊢
 clear hR
 simp only [i64] at rR ⊢
 refine good_of_lwp mix Tryz.func42 rfl (by decide) (nt := 52) rfl (rs := [.cell 8 26]) rfl (nle rfl) ?_
 (repeat (first|apply zO (by decide +kernel)|apply zP (by decide +kernel)|(apply zS;(case h=>constructor<;>decide))|((first|apply l_go rfl|apply c_dec|apply zT rfl (by decide) rfl);(case hs=>(simp (disch := first|omega|exact kD rfl|exact kX rfl) only [smY,simprocAttr,bl,i64,smT];exact rfl));first|refine c_bt ?_|refine c_bf ?_|refine zq ?_|(case hg=>assumption))))
 refine w_loop (α := {m : Nat // m ≤ prec}) (fun m => st 52 (lk [(0,i64 k),(1,i64 d1),(2,i64 d2),(3,i64 prec),(8,.ptr 0 0),(9,nV 1 m.1),(10,i64 m.1)]) (lkH ((0,⟨26,[i64 0,nilL],false⟩) :: nB 1 m.1 (qc (aP (eK k d1 d2) m.1)))) 2) (fun m => prec - m.1) ⟨0,by omega⟩ ?_ ?_
 ·simp only [nV_zero,nB_zero]
  (refine Sub.heapL [0,99] rfl (by decide) ?_ (by simp only [smL];decide) ?_ ?_;all_goals (first|(simp only [plainC,smF,dg,renL,renLs,simprocAttr,bl,i64,smT];done) | (simp only [smF,dg,renL,renLs,simprocAttr,bl,i64,smT];(repeat' apply And.intro);all_goals rfl) | (simp only [smF,dg,renL,renLs,simprocAttr,bl,i64,smT]) | skip))
  all_goals (first | done | ((repeat' apply And.intro);all_goals (first | trivial | rfl)))
 ·rintro ⟨m,hm⟩
  simp only [st]
  have hla := aP_len (eK k d1 d2) m
  have happ := aP_succ (eK k d1 d2) m
  by_cases hmp : m < prec
  ·by_cases h0 : m = 0
   ·simp only [nV_of h0,nB_of h0]
    subst h0
    by_cases he : d1 = 1
    ·subst he
     have r1 := gen34_good hd2 k (by omega) hk
     have r2 := frac_good (-1) (2 * (k : Int)) (by omega) (by omega)
     have b1 := lq_gB hk hd2
     have b2 : lq (Rat.divInt (-1) (2 * (k : Int))) ≤ 3 := by
      obtain ⟨h1,h2⟩ := lq_divInt (n := -1) (d := 2 * (k : Int)) (by omega)
      have h3 : len (-1) ≤ 1 := len_pow_lt (e := 1) (by decide)
      have h4 : len (2 * (k : Int)) ≤ 1 := len_pow_lt (e := 1) (by omega)
      unfold lq
      omega
     have r3 := rqmul_good (Rat.divInt (-1) (2 * (k : Int))) (gB k d2) (by omega) (by omega)
     rw [neg_half,← eK_zero1] at r3
     generalize hc0 : eK k 1 d2 0 = c0 at *
     generalize Rat.divInt (-1) (2 * (k : Int)) = fr at *
     generalize gB k d2 = bk at *
     simp only [encQ_sm,i64] at r1 r2 r3
     (repeat (first|apply zO (by decide +kernel)|apply zP (by decide +kernel)|(apply zS;(case h=>constructor<;>decide))|((first|apply l_go rfl|apply c_dec|apply zT rfl (by decide) rfl);(case hs=>(simp (disch := first|omega|exact kD rfl|exact kX rfl) only [smY,simprocAttr,bl,i64,smT];exact rfl));first|refine c_bt ?_|refine c_bf ?_|refine zq ?_|(case hg=>assumption))))
     refine ⟨⟨0 + 1,by omega⟩,?_,by simp only;omega⟩
     simp only [nV_succ,nB_succ]
     (refine Sub.heapL [0,18] rfl (by decide) ?_ (by simp only [smL];decide) ?_ ?_;all_goals (first|(simp only [plainC,smF,dg,renL,renLs,simprocAttr,bl,i64,smT];done) | (simp only [smF,dg,renL,renLs,simprocAttr,bl,i64,smT];(repeat' apply And.intro);all_goals rfl) | (simp only [smF,dg,renL,renLs,simprocAttr,bl,i64,smT]) | skip))
     all_goals (first | done | (have e : aP (eK k 1 d2) 1 = [c0] := happ;rw [e,← qc_one];exact ⟨trivial,rfl⟩) | trace_state)
    ·have r0 := baseQ_good 0 (by omega)
     rw [show ((0 : Int) : Rat) = eK k d1 d2 0 by rw [eK_zero0 he];rfl] at r0
     generalize hc0 : eK k d1 d2 0 = c0 at *
     simp only [encQ_sm,i64] at r0
     (repeat (first|apply zO (by decide +kernel)|apply zP (by decide +kernel)|(apply zS;(case h=>constructor<;>decide))|((first|apply l_go rfl|apply c_dec|apply zT rfl (by decide) rfl);(case hs=>(simp (disch := first|omega|exact kD rfl|exact kX rfl) only [smY,simprocAttr,bl,i64,smT];exact rfl));first|refine c_bt ?_|refine c_bf ?_|refine zq ?_|(case hg=>assumption))))
     refine ⟨⟨0 + 1,by omega⟩,?_,by simp only;omega⟩
     simp only [nV_succ,nB_succ]
     (refine Sub.heapL [0,12] rfl (by decide) ?_ (by simp only [smL];decide) ?_ ?_;all_goals (first|(simp only [plainC,smF,dg,renL,renLs,simprocAttr,bl,i64,smT];done) | (simp only [smF,dg,renL,renLs,simprocAttr,bl,i64,smT];(repeat' apply And.intro);all_goals rfl) | (simp only [smF,dg,renL,renLs,simprocAttr,bl,i64,smT]) | skip))
     all_goals (first | done | (have e : aP (eK k d1 d2) 1 = [c0] := happ;rw [e,← qc_one];exact ⟨trivial,rfl⟩) | trace_state)
   ·simp only [nV_ne h0,nB_ne h0]
    have r1 := rsum34_good (k - 1) d1 d2 m hd1 hd2 (by omega) (by omega) (by omega)
    have b1 := lq_tw (k := k - 1) (n := m) hd1 hd2 (by omega) (by omega)
    have r2 := rwhole_good (tw (k - 1) d1 d2 m) (by omega)
    rw [← eK_pos h0] at r2
    have e2 : (k : Int) - 1 = ((k - 1 : Nat) : Int) := by omega
    generalize hcm : eK k d1 d2 m = cm at *
    generalize tw (k - 1) d1 d2 m = s at *
    generalize k - 1 = k' at *
    simp only [encQ_sm,encI_sm,i64] at r1 r2
    (repeat (first|apply zO (by decide +kernel)|apply zP (by decide +kernel)|(apply zS;(case h=>constructor<;>decide))|((first|apply l_go rfl|apply c_dec|apply zT rfl (by decide) rfl);(case hs=>(simp (disch := first|omega|exact kD rfl|exact kX rfl) only [smY,simprocAttr,bl,i64,smT,e2];exact rfl));first|refine c_bt ?_|refine c_bf ?_|refine zq ?_|(case hg=>assumption))))
    refine ⟨⟨m + 1,by omega⟩,?_,by simp only;omega⟩
    simp only [nV_succ,nB_succ]
    (refine Sub.heapL [0,16] rfl (by decide) ?_ (by simp only [smL];decide) ?_ ?_;all_goals (first|(simp only [plainC,smF,dg,renL,renLs,simprocAttr,bl,i64,smT];done) | (simp only [smF,dg,renL,renLs,simprocAttr,bl,i64,smT];(repeat' apply And.intro);all_goals rfl) | (simp only [smF,dg,renL,renLs,simprocAttr,bl,i64,smT]) | skip))
    all_goals (first | done | (rw [happ,← qc_app];exact ⟨trivial,rfl⟩) | trace_state)
  ·obtain rfl : m = prec := by omega
   by_cases h0 : m = 0
   ·simp only [nV_of h0,nB_of h0]
    subst h0
    rw [aP0] at rR
    (repeat (first|apply zO (by decide +kernel)|apply zP (by decide +kernel)|(apply zS;(case h=>constructor<;>decide))|((first|apply l_go rfl|apply c_dec|apply zT rfl (by decide) rfl);(case hs=>(simp (disch := first|omega|exact kD rfl|exact kX rfl) only [smY,simprocAttr,bl,i64,smT];exact rfl));first|refine c_bt ?_|refine c_bf ?_|refine zq ?_|(case hg=>assumption))))
    ((first|apply g_ret|apply g_end);case hres => (simp only [smR];simp (disch := first|omega|exact kD rfl|exact kX rfl) only [smY,simprocAttr,bl,i64,smT];exact rfl))
    simp (disch := first|omega|exact kD rfl|exact kX rfl) only [smY,simprocAttr,bl,i64,smT]
   ·simp only [nV_ne h0,nB_ne h0]
    (repeat (first|apply zO (by decide +kernel)|apply zP (by decide +kernel)|(apply zS;(case h=>constructor<;>decide))|((first|apply l_go rfl|apply c_dec|apply zT rfl (by decide) rfl);(case hs=>(simp (disch := first|omega|exact kD rfl|exact kX rfl) only [smY,simprocAttr,bl,i64,smT];exact rfl));first|refine c_bt ?_|refine c_bf ?_|refine zq ?_|(case hg=>assumption))))
    ((first|apply g_ret|apply g_end);case hres => (simp only [smR];simp (disch := first|omega|exact kD rfl|exact kX rfl) only [smY,simprocAttr,bl,i64,smT];exact rfl))
    simp (disch := first|omega|exact kD rfl|exact kX rfl) only [smY,simprocAttr,bl,i64,smT]
end Go.Proofs.YteecamhdbilmoaaGreatDoor
namespace Go.Proofs.YteecamhdbilmoaaGreatDoor
open Go Go.Lg Go.Num
set_option maxRecDepth 100000
set_option maxHeartbeats 8000000
attribute [local irreducible] Go.Lg.lrun Go.Lg.lwp Go.Lg.exThen Go.Lg.exBlk Go.Lg.keep Go.Lg.goodPost sg mg oc mC twP tw bq kr chi eK gB cSer oqc op oqp
theorem svalid_all (x : Int) (M : Nat) (cs : List LV) (h1 : -100 ≤ x) (h2 : x + M ≤ 1000) : PureGood Tryz.prog 66 [.agg [i64 x,.sl M cs]] (bl true) := by
 simp only [i64,bl]
 refine good_of_lwp mix Tryz.func66 rfl (by decide) (nt := 20) rfl (rs := [.tmp 2]) rfl (nle rfl) ?_
 (repeat (first|apply zO (by decide +kernel)|apply zP (by decide +kernel)|(apply zS;(case h=>constructor<;>decide))|((first|apply l_go rfl|apply c_dec|apply zT rfl (by decide) rfl);(case hs=>(simp (disch := first|omega|exact kD rfl|exact kX rfl) only [smY,simprocAttr,bl,i64,smT,smO,smM];exact rfl));first|refine c_bt ?_|refine c_bf ?_|refine zq ?_|(case hg=>assumption))))
 ((first|apply g_ret|apply g_end);case hres => (simp only [smR];simp (disch := first|omega|exact kD rfl|exact kX rfl) only [smY,simprocAttr,bl,i64,smT,smO,smM];exact rfl))
 simp (disch := first|omega|exact kD rfl|exact kX rfl) only [smY,simprocAttr,bl,i64,smT,smO,smM]
theorem tidy_all (h : Int) (o : Nat → Option Rat) (a : Nat → Rat) (N : Nat) (ha : ∀ i,i < N → a i = (o i).getD 0) (h1 : -100 ≤ h) (h2 : h + N ≤ 1000) (ba : ∀ i,i < N → lq (a i) ≤ 1000) : PureGood Tryz.prog 67 [.agg [i64 h,.sl N (op (oP o N))]] (cSer h a N) := by
 have g := build_all h o a N ha h1 h2 ba
 have hl := oP_len o N
 obtain ⟨x,M,L,hR,hLM,hM,hx⟩ := cSer_form h a N
 rw [hR] at g ⊢
 clear hR
 simp only [i64] at *
 refine good_of_lwp mix Tryz.func67 rfl (by decide) (nt := 14) rfl (rs := [.cell 2 26]) rfl (nle rfl) ?_
 (repeat (first|apply zO (by decide +kernel)|apply zP (by decide +kernel)|(apply zS;(case h=>constructor<;>decide))|((first|apply l_go rfl|apply c_dec|apply zT rfl (by decide) rfl);(case hs=>(simp (disch := first|omega|exact kD rfl|exact kX rfl) only [smY,simprocAttr,bl,i64,smT,smO,smM];exact rfl));first|refine c_bt ?_|refine c_bf ?_|refine zq ?_|(case hg=>assumption))))
 ((first|apply g_ret|apply g_end);case hres => (simp only [smR];simp (disch := first|omega|exact kD rfl|exact kX rfl) only [smY,simprocAttr,bl,i64,smT,smO,smM];exact rfl))
 simp (disch := first|omega|exact kD rfl|exact kX rfl) only [smY,simprocAttr,bl,i64,smT,smO,smM]
theorem snormal_all (h : Int) (o : Nat → Option Rat) (a : Nat → Rat) (N : Nat) (ha : ∀ i,i < N → a i = (o i).getD 0) (h1 : -100 ≤ h) (h2 : h + N ≤ 1000) (ba : ∀ i,i < N → lq (a i) ≤ 1000) : PureGood Tryz.prog 40 [.agg [i64 h,.sl N (op (oP o N))]] (.tup [cSer h a N,i64 0]) := by
 have g2 := tidy_all h o a N ha h1 h2 ba
 have g1 := svalid_all h N (op (oP o N)) h1 h2
 have hl := oP_len o N
 obtain ⟨x,M,L,hR,hLM,hM,hx⟩ := cSer_form h a N
 rw [hR] at g2 ⊢
 clear hR
 simp only [i64,bl] at *
 refine good_of_lwp mix Tryz.func40 rfl (by decide) (nt := 10) rfl (rs := [.cell 2 26,.tmp 3]) rfl (nle rfl) ?_
 (repeat (first|apply zO (by decide +kernel)|apply zP (by decide +kernel)|(apply zS;(case h=>constructor<;>decide))|((first|apply l_go rfl|apply c_dec|apply zT rfl (by decide) rfl);(case hs=>(simp (disch := first|omega|exact kD rfl|exact kX rfl) only [smY,simprocAttr,bl,i64,smT,smO,smM];exact rfl));first|refine c_bt ?_|refine c_bf ?_|refine zq ?_|(case hg=>assumption))))
 ((first|apply g_ret|apply g_end);case hres => (simp only [smR];simp (disch := first|omega|exact kD rfl|exact kX rfl) only [smY,simprocAttr,bl,i64,smT,smO,smM];exact rfl))
 simp (disch := first|omega|exact kD rfl|exact kX rfl) only [smY,simprocAttr,bl,i64,smT,smO,smM]
end Go.Proofs.YteecamhdbilmoaaGreatDoor
namespace Go.Proofs.YteecamhdbilmoaaGreatDoor
open Go Go.Lg Go.Num
set_option maxRecDepth 100000
set_option maxHeartbeats 8000000
attribute [local irreducible] Go.Lg.lrun Go.Lg.lwp Go.Lg.exThen Go.Lg.exBlk Go.Lg.keep Go.Lg.goodPost sg mg oc mC twP tw bq kr chi eK gB cSer
theorem rcheckA_good (x : Int) (M : Nat) (cs : List LV) (h1 : -100 ≤ x) (h2 : x + M ≤ 1000) : PureGood Tryz.prog 84 [.agg [i64 x,.sl M cs]] (i64 0) := by
 simp only [i64]
 refine good_of_lwp mix Tryz.func84 rfl (by decide) (nt := 20) rfl (rs := [.tmp 2]) rfl (nle rfl) ?_
 (repeat (first|apply zO (by decide +kernel)|apply zP (by decide +kernel)|(apply zS;(case h=>constructor<;>decide))|((first|apply l_go rfl|apply c_dec|apply zT rfl (by decide) rfl);(case hs=>(simp (disch := first|omega|exact kD rfl|exact kX rfl) only [smY,simprocAttr,bl,i64,smT];exact rfl));first|refine c_bt ?_|refine c_bf ?_|refine zq ?_|(case hg=>assumption))))
 ((first|apply g_ret|apply g_end);case hres => (simp only [smR];simp (disch := first|omega|exact kD rfl|exact kX rfl) only [smY,simprocAttr,bl,i64,smT];exact rfl))
 simp (disch := first|omega|exact kD rfl|exact kX rfl) only [smY,simprocAttr,bl,i64,smT]
end Go.Proofs.YteecamhdbilmoaaGreatDoor
namespace Go.Proofs.YteecamhdbilmoaaGreatDoor
open Go Go.Lg Go.Num
set_option maxRecDepth 100000
set_option maxHeartbeats 8000000
attribute [local irreducible] Go.Lg.lrun Go.Lg.lwp Go.Lg.exThen Go.Lg.exBlk Go.Lg.keep Go.Lg.goodPost sg mg oc mC twP tw bq kr chi eK gB cSer
end Go.Proofs.YteecamhdbilmoaaGreatDoor
namespace Go.Proofs.YteecamhdbilmoaaGreatDoor
open Go Go.Lg Go.Num
set_option maxRecDepth 100000
set_option maxHeartbeats 8000000
attribute [local irreducible] Go.Lg.lrun Go.Lg.lwp Go.Lg.exThen Go.Lg.exBlk Go.Lg.keep Go.Lg.goodPost sg mg oc mC twP tw bq kr chi eK gB cSer
theorem rscaleA_good (q : Rat) (c : Nat → Rat) (p : Nat) (hp : p ≤ 1000) (lqq : lq q ≤ 480) (ba : ∀ i,i < p → lq (c i) ≤ 480) : PureGood Tryz.prog 48 [encQ q,cSer 0 c p] (.tup [cSer 0 (fun i => q * c i) p,i64 0]) := by
 obtain ⟨ho,hz,hnz⟩ := ordN_spec c p
 have hb1 : ∀ i,i < p → lq (q * c i) ≤ 1000 := fun i hi => by
  have := lq_mul q (c i)
  have := ba i hi
  omega
 rw [cSer_eq (a := c) rfl,Int.zero_add,cSer_shift (a := fun i => q * c i) ho (fun j hj => by simp only [hz j hj];exact Rat.mul_zero q),Int.zero_add]
 generalize ordN c p = o at *
 have hoM : o + (p - o) = p := by omega
 generalize p - o = M at *
 have g1 := rcheckA_good o M (qc (aP (fun i => c (o + i)) M)) (by omega) (by omega)
 have hl := aP_len (fun i => c (o + i)) M
 have gR := rResult_all o (fun i => q * c (o + i)) M (by omega) (by omega) (fun i hi => hb1 _ (by omega))
 obtain ⟨x,MR,LR,hR,hLM,hM,hx⟩ := cSer_form o (fun i => q * c (o + i)) M
 rw [hR] at gR ⊢
 clear hR
 obtain ⟨b,hbd⟩ : ∃ b,b = fun i => q * c (o + i) := ⟨_,rfl⟩
 rw [← hbd] at gR
 have hbf : ∀ i,b i = q * c (o + i) := fun i => by rw [hbd]
 clear hbd
 simp only [i64,bl,encQ_sm] at g1 gR ⊢
 refine good_of_lwp mix Tryz.func48 rfl (by decide) (nt := 38) rfl (rs := [.cell 4 26,.tmp 5]) rfl (nle rfl) ?_
 (repeat (first|apply zO (by decide +kernel)|apply zP (by decide +kernel)|(apply zS;(case h=>constructor<;>decide))|((first|apply l_go rfl|apply c_dec|apply zT rfl (by decide) rfl);(case hs=>(simp (disch := first|omega|exact kD rfl|exact kX rfl) only [smY,simprocAttr,bl,i64,smT];exact rfl));first|refine c_bt ?_|refine c_bf ?_|refine zq ?_|(case hg=>assumption))))
 refine w_loop (α := {m : Nat // m ≤ M}) (fun m => st 38 (lk [(2,.ptr 0 0),(3,.ptr 1 0),(4,.ptr 2 0),(7,nV 3 m.1),(8,i64 m.1)]) (lkH ((0,⟨45,[sg (q).num,mg (q).num,sg ((q).den : Int),mg ((q).den : Int)],false⟩) :: (1,⟨26,[i64 o,.sl M (qc (aP (fun i => c (o + i)) M))],false⟩) :: (2,⟨26,[i64 0,nilL],false⟩) :: nB 3 m.1 (qc (aP b m.1)))) 4) (fun m => M - m.1) ⟨0,by omega⟩ ?_ ?_
 ·simp only [nV_zero,nB_zero]
  (refine Sub.heapL [0,1,2,99] rfl (by decide) ?_ (by simp only [smL];decide) ?_ ?_;all_goals (first|(simp only [plainC,smF,dg,renL,renLs,simprocAttr,bl,i64,smT];done) | (simp only [smF,dg,renL,renLs,simprocAttr,bl,i64,smT];(repeat' apply And.intro);all_goals rfl) | (simp only [smF,dg,renL,renLs,simprocAttr,bl,i64,smT]) | skip))
  all_goals (first | done | ((repeat' apply And.intro);all_goals (first | trivial | rfl)))
 ·rintro ⟨m,hm⟩
  simp only [st]
  have hla := aP_len b m
  have happ := aP_succ b m
  by_cases hlt : m < M
  ·have e1 : (aP (fun i => c (o + i)) M).getD m 0 = c (o + m) := aP_get hlt
   have b1 := ba (o + m) (by omega)
   have r1 := rqmul_good q (c (o + m)) (by omega) (by omega)
   rw [← hbf m] at r1
   generalize c (o + m) = ci at *
   generalize hbm : b m = bv at *
   simp only [encQ_sm] at r1
   by_cases h0 : m = 0
   ·simp only [nV_of h0,nB_of h0]
    (repeat (first|apply zO (by decide +kernel)|apply zP (by decide +kernel)|(apply zS;(case h=>constructor<;>decide))|((first|apply l_go rfl|apply c_dec|apply zT rfl (by decide) rfl);(case hs=>(simp (disch := first|omega|exact kD rfl|exact kX rfl) only [smY,simprocAttr,bl,i64,smT,e1];exact rfl));first|refine c_bt ?_|refine c_bf ?_|refine zq ?_|(case hg=>assumption))))
    refine ⟨⟨m + 1,by omega⟩,?_,by simp only;omega⟩
    simp only [nV_succ,nB_succ]
    (refine Sub.heapL [0,1,2,18] rfl (by decide) ?_ (by simp only [smL];decide) ?_ ?_;all_goals (first|(simp only [plainC,smF,dg,renL,renLs,simprocAttr,bl,i64,smT];done) | (simp only [smF,dg,renL,renLs,simprocAttr,bl,i64,smT];(repeat' apply And.intro);all_goals rfl) | (simp only [smF,dg,renL,renLs,simprocAttr,bl,i64,smT]) | skip))
    all_goals (first | done | (subst h0;(repeat' apply And.intro);all_goals (first | trivial | rfl | (simp only [LV.lit.injEq,Value.int.injEq,true_and];omega) | (have e : aP b 1 = [bv] := happ;rw [e,← qc_one]))))
   ·simp only [nV_ne h0,nB_ne h0]
    (repeat (first|apply zO (by decide +kernel)|apply zP (by decide +kernel)|(apply zS;(case h=>constructor<;>decide))|((first|apply l_go rfl|apply c_dec|apply zT rfl (by decide) rfl);(case hs=>(simp (disch := first|omega|exact kD rfl|exact kX rfl) only [smY,simprocAttr,bl,i64,smT,e1];exact rfl));first|refine c_bt ?_|refine c_bf ?_|refine zq ?_|(case hg=>assumption))))
    refine ⟨⟨m + 1,by omega⟩,?_,by simp only;omega⟩
    simp only [nV_succ,nB_succ]
    (refine Sub.heapL [0,1,2,18] rfl (by decide) ?_ (by simp only [smL];decide) ?_ ?_;all_goals (first|(simp only [plainC,smF,dg,renL,renLs,simprocAttr,bl,i64,smT];done) | (simp only [smF,dg,renL,renLs,simprocAttr,bl,i64,smT];(repeat' apply And.intro);all_goals rfl) | (simp only [smF,dg,renL,renLs,simprocAttr,bl,i64,smT]) | skip))
    all_goals (first | done | ((repeat' apply And.intro);all_goals (first | trivial | rfl | (simp only [LV.lit.injEq,Value.int.injEq,true_and];omega) | rw [happ,← qc_app])))
  ·obtain rfl : m = M := by omega
   by_cases h0 : m = 0
   ·simp only [nV_of h0,nB_of h0]
    subst h0
    rw [aP0] at gR
    (repeat (first|apply zO (by decide +kernel)|apply zP (by decide +kernel)|(apply zS;(case h=>constructor<;>decide))|((first|apply l_go rfl|apply c_dec|apply zT rfl (by decide) rfl);(case hs=>(simp (disch := first|omega|exact kD rfl|exact kX rfl) only [smY,simprocAttr,bl,i64,smT];exact rfl));first|refine c_bt ?_|refine c_bf ?_|refine zq ?_|(case hg=>assumption))))
    ((first|apply g_ret|apply g_end);case hres => (simp only [smR];simp (disch := first|omega|exact kD rfl|exact kX rfl) only [smY,simprocAttr,bl,i64,smT];exact rfl))
    simp (disch := first|omega|exact kD rfl|exact kX rfl) only [smY,simprocAttr,bl,i64,smT]
   ·simp only [nV_ne h0,nB_ne h0]
    (repeat (first|apply zO (by decide +kernel)|apply zP (by decide +kernel)|(apply zS;(case h=>constructor<;>decide))|((first|apply l_go rfl|apply c_dec|apply zT rfl (by decide) rfl);(case hs=>(simp (disch := first|omega|exact kD rfl|exact kX rfl) only [smY,simprocAttr,bl,i64,smT];exact rfl));first|refine c_bt ?_|refine c_bf ?_|refine zq ?_|(case hg=>assumption))))
    ((first|apply g_ret|apply g_end);case hres => (simp only [smR];simp (disch := first|omega|exact kD rfl|exact kX rfl) only [smY,simprocAttr,bl,i64,smT];exact rfl))
    simp (disch := first|omega|exact kD rfl|exact kX rfl) only [smY,simprocAttr,bl,i64,smT]
end Go.Proofs.YteecamhdbilmoaaGreatDoor
namespace Go.Proofs.YteecamhdbilmoaaGreatDoor
open Go Go.Lg Go.Num
set_option maxRecDepth 100000
set_option maxHeartbeats 8000000
attribute [local irreducible] Go.Lg.lrun Go.Lg.lwp Go.Lg.exThen Go.Lg.exBlk Go.Lg.keep Go.Lg.goodPost sg mg oc mC twP tw bq kr chi eK gB cSer
end Go.Proofs.YteecamhdbilmoaaGreatDoor
namespace Go.Proofs.YteecamhdbilmoaaGreatDoor
open Go Go.Lg Go.Num
set_option maxRecDepth 100000
set_option maxHeartbeats 8000000
attribute [local irreducible] Go.Lg.lrun Go.Lg.lwp Go.Lg.exThen Go.Lg.exBlk Go.Lg.keep Go.Lg.goodPost sg mg oc mC twP tw bq kr chi
theorem fd_out {d : Int} (h : ¬ (-60 ≤ d ∧ d ≤ 60)) : fdL.contains d = false := by
 cases e : fdL.contains d with
 | false => rfl
 | true => exact absurd (fd_rng (List.contains_iff_mem.1 e)).2 h
theorem qd_good (d : Int) (h : -9223372036854775808 ≤ d ∧ d ≤ 9223372036854775807) : PureGood Tryz.prog 49 [i64 d] (bl (fdL.contains d)) ∧ PureGood Tryz.prog 31 [i64 d] (bl (fdL.contains d)) := by
 by_cases h1 : d < -60
 ·rw [fd_out (by omega)]
  simp only [i64,bl]
  constructor
  ·refine good_of_lwp mix Tryz.func49 rfl (by decide) (nt := 29) rfl (rs := [.tmp 2]) rfl (nle rfl) ?_
   (repeat (first|apply zO (by decide +kernel)|apply zP (by decide +kernel)|(apply zS;(case h=>constructor<;>decide))|((first|apply l_go rfl|apply c_dec|apply zT rfl (by decide) rfl);(case hs=>(simp (disch := first|omega|exact kD rfl|exact kX rfl) only [smY,simprocAttr,bl,i64,smT];exact rfl));first|refine c_bt ?_|refine c_bf ?_|refine zq ?_|(case hg=>assumption))))
   ((first|apply g_ret|apply g_end);case hres => (simp only [smR];simp (disch := first|omega|exact kD rfl|exact kX rfl) only [smY,simprocAttr,bl,i64,smT];exact rfl))
   simp (disch := first|omega|exact kD rfl|exact kX rfl) only [smY,simprocAttr,bl,i64,smT]
  ·refine good_of_lwp mix Tryz.func31 rfl (by decide) (nt := 13) rfl (rs := [.tmp 2]) rfl (nle rfl) ?_
   (repeat (first|apply zO (by decide +kernel)|apply zP (by decide +kernel)|(apply zS;(case h=>constructor<;>decide))|((first|apply l_go rfl|apply c_dec|apply zT rfl (by decide) rfl);(case hs=>(simp (disch := first|omega|exact kD rfl|exact kX rfl) only [smY,simprocAttr,bl,i64,smT];exact rfl));first|refine c_bt ?_|refine c_bf ?_|refine zq ?_|(case hg=>assumption))))
   refine l_cskip rfl (by decide) rfl ?_
   (repeat (first|apply zO (by decide +kernel)|apply zP (by decide +kernel)|(apply zS;(case h=>constructor<;>decide))|((first|apply l_go rfl|apply c_dec|apply zT rfl (by decide) rfl);(case hs=>(simp (disch := first|omega|exact kD rfl|exact kX rfl) only [smY,simprocAttr,bl,i64,smT];exact rfl));first|refine c_bt ?_|refine c_bf ?_|refine zq ?_|(case hg=>assumption))))
   ((first|apply g_ret|apply g_end);case hres => (simp only [smR];simp (disch := first|omega|exact kD rfl|exact kX rfl) only [smY,simprocAttr,bl,i64,smT];exact rfl))
   simp (disch := first|omega|exact kD rfl|exact kX rfl) only [smY,simprocAttr,bl,i64,smT]
 ·by_cases h2 : 60 < d
  ·rw [fd_out (by omega)]
   simp only [i64,bl]
   constructor
   ·refine good_of_lwp mix Tryz.func49 rfl (by decide) (nt := 29) rfl (rs := [.tmp 2]) rfl (nle rfl) ?_
    (repeat (first|apply zO (by decide +kernel)|apply zP (by decide +kernel)|(apply zS;(case h=>constructor<;>decide))|((first|apply l_go rfl|apply c_dec|apply zT rfl (by decide) rfl);(case hs=>(simp (disch := first|omega|exact kD rfl|exact kX rfl) only [smY,simprocAttr,bl,i64,smT];exact rfl));first|refine c_bt ?_|refine c_bf ?_|refine zq ?_|(case hg=>assumption))))
    ((first|apply g_ret|apply g_end);case hres => (simp only [smR];simp (disch := first|omega|exact kD rfl|exact kX rfl) only [smY,simprocAttr,bl,i64,smT];exact rfl))
    simp (disch := first|omega|exact kD rfl|exact kX rfl) only [smY,simprocAttr,bl,i64,smT]
   ·refine good_of_lwp mix Tryz.func31 rfl (by decide) (nt := 13) rfl (rs := [.tmp 2]) rfl (nle rfl) ?_
    (repeat (first|apply zO (by decide +kernel)|apply zP (by decide +kernel)|(apply zS;(case h=>constructor<;>decide))|((first|apply l_go rfl|apply c_dec|apply zT rfl (by decide) rfl);(case hs=>(simp (disch := first|omega|exact kD rfl|exact kX rfl) only [smY,simprocAttr,bl,i64,smT];exact rfl));first|refine c_bt ?_|refine c_bf ?_|refine zq ?_|(case hg=>assumption))))
    refine l_cskip rfl (by decide) rfl ?_
    (repeat (first|apply zO (by decide +kernel)|apply zP (by decide +kernel)|(apply zS;(case h=>constructor<;>decide))|((first|apply l_go rfl|apply c_dec|apply zT rfl (by decide) rfl);(case hs=>(simp (disch := first|omega|exact kD rfl|exact kX rfl) only [smY,simprocAttr,bl,i64,smT];exact rfl));first|refine c_bt ?_|refine c_bf ?_|refine zq ?_|(case hg=>assumption))))
    ((first|apply g_ret|apply g_end);case hres => (simp only [smR];simp (disch := first|omega|exact kD rfl|exact kX rfl) only [smY,simprocAttr,bl,i64,smT];exact rfl))
    simp (disch := first|omega|exact kD rfl|exact kX rfl) only [smY,simprocAttr,bl,i64,smT]
  ·exact fd_in (by omega) (by omega)
theorem inside_good (p : Int) (hp : -9223372036854775808 ≤ p ∧ p ≤ 9223372036854775807) : PureGood Tryz.prog 39 [i64 p] (bl (decide (0 ≤ p ∧ p ≤ 1000))) := by
 by_cases h1 : 0 ≤ p
 ·by_cases h2 : p ≤ 1000
  ·rw [dec_t ⟨h1,h2⟩]
   simp only [i64,bl]
   refine good_of_lwp mix Tryz.func39 rfl (by decide) (nt := 9) rfl (rs := [.tmp 2]) rfl (nle rfl) ?_
   (repeat (first|apply zO (by decide +kernel)|apply zP (by decide +kernel)|(apply zS;(case h=>constructor<;>decide))|((first|apply l_go rfl|apply c_dec|apply zT rfl (by decide) rfl);(case hs=>(simp (disch := first|omega|exact kD rfl|exact kX rfl) only [smY,simprocAttr,bl,i64,smT];exact rfl));first|refine c_bt ?_|refine c_bf ?_|refine zq ?_|(case hg=>assumption))))
   ((first|apply g_ret|apply g_end);case hres => (simp only [smR];simp (disch := first|omega|exact kD rfl|exact kX rfl) only [smY,simprocAttr,bl,i64,smT];exact rfl))
   simp (disch := first|omega|exact kD rfl|exact kX rfl) only [smY,simprocAttr,bl,i64,smT]
  ·rw [dec_f (fun e => h2 e.2)]
   simp only [i64,bl]
   refine good_of_lwp mix Tryz.func39 rfl (by decide) (nt := 9) rfl (rs := [.tmp 2]) rfl (nle rfl) ?_
   (repeat (first|apply zO (by decide +kernel)|apply zP (by decide +kernel)|(apply zS;(case h=>constructor<;>decide))|((first|apply l_go rfl|apply c_dec|apply zT rfl (by decide) rfl);(case hs=>(simp (disch := first|omega|exact kD rfl|exact kX rfl) only [smY,simprocAttr,bl,i64,smT];exact rfl));first|refine c_bt ?_|refine c_bf ?_|refine zq ?_|(case hg=>assumption))))
   ((first|apply g_ret|apply g_end);case hres => (simp only [smR];simp (disch := first|omega|exact kD rfl|exact kX rfl) only [smY,simprocAttr,bl,i64,smT];exact rfl))
   simp (disch := first|omega|exact kD rfl|exact kX rfl) only [smY,simprocAttr,bl,i64,smT]
 ·rw [dec_f (fun e => h1 e.1)]
  simp only [i64,bl]
  refine good_of_lwp mix Tryz.func39 rfl (by decide) (nt := 9) rfl (rs := [.tmp 2]) rfl (nle rfl) ?_
  (repeat (first|apply zO (by decide +kernel)|apply zP (by decide +kernel)|(apply zS;(case h=>constructor<;>decide))|((first|apply l_go rfl|apply c_dec|apply zT rfl (by decide) rfl);(case hs=>(simp (disch := first|omega|exact kD rfl|exact kX rfl) only [smY,simprocAttr,bl,i64,smT];exact rfl));first|refine c_bt ?_|refine c_bf ?_|refine zq ?_|(case hg=>assumption))))
  ((first|apply g_ret|apply g_end);case hres => (simp only [smR];simp (disch := first|omega|exact kD rfl|exact kX rfl) only [smY,simprocAttr,bl,i64,smT];exact rfl))
  simp (disch := first|omega|exact kD rfl|exact kX rfl) only [smY,simprocAttr,bl,i64,smT]
end Go.Proofs.YteecamhdbilmoaaGreatDoor
namespace Go.Proofs.YteecamhdbilmoaaGreatDoor
open Go Go.Lg Go.Num
set_option maxRecDepth 100000
set_option maxHeartbeats 8000000
attribute [local irreducible] Go.Lg.lrun Go.Lg.lwp Go.Lg.exThen Go.Lg.exBlk Go.Lg.keep Go.Lg.goodPost sg mg oc mC twP tw bq kr chi eK gB cSer
def eR (e : Int) : LV := .tup [.agg [i64 0,.sl 0 []],i64 e]
end Go.Proofs.YteecamhdbilmoaaGreatDoor
namespace Go.Proofs.YteecamhdbilmoaaGreatDoor
open Go Go.Lg Go.Num
set_option maxRecDepth 100000
set_option maxHeartbeats 8000000
attribute [local irreducible] Go.Lg.lrun Go.Lg.lwp Go.Lg.exThen Go.Lg.exBlk Go.Lg.keep Go.Lg.goodPost sg mg oc mC twP tw bq kr chi eK gB cSer op oqp
end Go.Proofs.YteecamhdbilmoaaGreatDoor
namespace Go.Proofs.YteecamhdbilmoaaGreatDoor
open Go Go.Lg Go.Num
set_option maxRecDepth 100000
set_option maxHeartbeats 8000000
theorem awake_good : PureGood Tryz.prog 10 [] (.lit (.bool true)) := evl_good (by kernel_rfl)
attribute [local irreducible] Go.Lg.lrun Go.Lg.lwp Go.Lg.exThen Go.Lg.exBlk Go.Lg.keep Go.Lg.goodPost sg mg oc mC bq
theorem sameSeries_good (f : Int) (hf : -9223372036854775808 ≤ f ∧ f ≤ 9223372036854775807) (l : List Rat) (hl : l.length ≤ 1000000) (hb : ∀ q ∈ l,lq q ≤ 100000) : PureGood Tryz.prog 36 [.agg [i64 f,.sl l.length (qc l)],.agg [i64 f,.sl l.length (qc l)]] (.lit (.bool true)) := by
 have g := sameRats_self l hb (by omega)
 rw [encF_qc] at g
 simp only [i64]
 refine good_of_lwp mix Tryz.func36 rfl (by decide) (nt := 17) rfl (rs := [.tmp 4]) rfl (nle rfl) ?_
 (repeat (first|apply zO (by decide +kernel)|apply zP (by decide +kernel)|(apply zS;(case h=>constructor<;>decide))|((first|apply l_go rfl|apply c_dec|apply zT rfl (by decide) rfl);(case hs=>(simp (disch := first|omega|exact kD rfl|exact kX rfl) only [smY,simprocAttr,bl,i64,smT];exact rfl));first|refine c_bt ?_|refine c_bf ?_|refine zq ?_|(case hg=>assumption))))
 ((first|apply g_ret|apply g_end);case hres => (simp only [smR];simp (disch := first|omega|exact kD rfl|exact kX rfl) only [smY,simprocAttr,bl,i64,smT];exact rfl))
 simp (disch := first|omega|exact kD rfl|exact kX rfl) only [smY,simprocAttr,bl,i64,smT]
theorem same_list (f : Int) (hf : -9223372036854775808 ≤ f ∧ f ≤ 9223372036854775807) (l : List Rat) (e : Int) (hl : l.length ≤ 1000000) (hb : ∀ q ∈ l,lq q ≤ 100000) : PureGood Tryz.prog 15 [.agg [i64 f,.sl l.length (qc l)],i64 e,.agg [i64 f,.sl l.length (qc l)],i64 e] (.lit (.bool true)) := by
 have g := sameSeries_good f hf l hl hb
 simp only [i64] at *
 refine good_of_lwp mix Tryz.func15 rfl (by decide) (nt := 17) rfl (rs := [.tmp 8]) rfl (nle rfl) ?_
 (repeat (first|apply zO (by decide +kernel)|apply zP (by decide +kernel)|(apply zS;(case h=>constructor<;>decide))|((first|apply l_go rfl|apply c_dec|apply zT rfl (by decide) rfl);(case hs=>(simp (disch := first|omega|exact kD rfl|exact kX rfl) only [smY,simprocAttr,bl,i64,smT];exact rfl));first|refine c_bt ?_|refine c_bf ?_|refine zq ?_|(case hg=>assumption))))
 ((first|apply g_ret|apply g_end);case hres => (simp only [smR];simp (disch := first|omega|exact kD rfl|exact kX rfl) only [smY,simprocAttr,bl,i64,smT];exact rfl))
 simp (disch := first|omega|exact kD rfl|exact kX rfl) only [smY,simprocAttr,bl,i64,smT]
theorem long_good (p : Int) : PureGood Tryz.prog 9 [i64 p] (bl (decide (40 < p ∧ p ≤ 1000))) := by
 by_cases h1 : 40 < p
 ·by_cases h2 : p ≤ 1000
  ·rw [dec_t ⟨h1,h2⟩]
   simp only [i64,bl]
   refine good_of_lwp mix Tryz.func9 rfl (by decide) (nt := 9) rfl (rs := [.tmp 2]) rfl (nle rfl) ?_
   (repeat (first|apply zO (by decide +kernel)|apply zP (by decide +kernel)|(apply zS;(case h=>constructor<;>decide))|((first|apply l_go rfl|apply c_dec|apply zT rfl (by decide) rfl);(case hs=>(simp (disch := first|omega|exact kD rfl|exact kX rfl) only [smY,simprocAttr,bl,i64,smT];exact rfl));first|refine c_bt ?_|refine c_bf ?_|refine zq ?_|(case hg=>assumption))))
   ((first|apply g_ret|apply g_end);case hres => (simp only [smR];simp (disch := first|omega|exact kD rfl|exact kX rfl) only [smY,simprocAttr,bl,i64,smT];exact rfl))
   simp (disch := first|omega|exact kD rfl|exact kX rfl) only [smY,simprocAttr,bl,i64,smT]
  ·rw [dec_f (fun e => h2 e.2)]
   simp only [i64,bl]
   refine good_of_lwp mix Tryz.func9 rfl (by decide) (nt := 9) rfl (rs := [.tmp 2]) rfl (nle rfl) ?_
   (repeat (first|apply zO (by decide +kernel)|apply zP (by decide +kernel)|(apply zS;(case h=>constructor<;>decide))|((first|apply l_go rfl|apply c_dec|apply zT rfl (by decide) rfl);(case hs=>(simp (disch := first|omega|exact kD rfl|exact kX rfl) only [smY,simprocAttr,bl,i64,smT];exact rfl));first|refine c_bt ?_|refine c_bf ?_|refine zq ?_|(case hg=>assumption))))
   ((first|apply g_ret|apply g_end);case hres => (simp only [smR];simp (disch := first|omega|exact kD rfl|exact kX rfl) only [smY,simprocAttr,bl,i64,smT];exact rfl))
   simp (disch := first|omega|exact kD rfl|exact kX rfl) only [smY,simprocAttr,bl,i64,smT]
 ·rw [dec_f (fun e => h1 e.1)]
  simp only [i64,bl]
  refine good_of_lwp mix Tryz.func9 rfl (by decide) (nt := 9) rfl (rs := [.tmp 2]) rfl (nle rfl) ?_
  (repeat (first|apply zO (by decide +kernel)|apply zP (by decide +kernel)|(apply zS;(case h=>constructor<;>decide))|((first|apply l_go rfl|apply c_dec|apply zT rfl (by decide) rfl);(case hs=>(simp (disch := first|omega|exact kD rfl|exact kX rfl) only [smY,simprocAttr,bl,i64,smT];exact rfl));first|refine c_bt ?_|refine c_bf ?_|refine zq ?_|(case hg=>assumption))))
  ((first|apply g_ret|apply g_end);case hres => (simp only [smR];simp (disch := first|omega|exact kD rfl|exact kX rfl) only [smY,simprocAttr,bl,i64,smT];exact rfl))
  simp (disch := first|omega|exact kD rfl|exact kX rfl) only [smY,simprocAttr,bl,i64,smT]
end Go.Proofs.YteecamhdbilmoaaGreatDoor
namespace Go.Proofs.YteecamhdbilmoaaGreatDoor
open Go Go.Lg Go.Num
set_option maxRecDepth 100000
set_option maxHeartbeats 8000000
attribute [local irreducible] Go.Lg.lrun Go.Lg.lwp Go.Lg.exThen Go.Lg.exBlk Go.Lg.keep Go.Lg.goodPost sg mg oc mC twP tw bq kr chi eK gB cSer op oqp
end Go.Proofs.YteecamhdbilmoaaGreatDoor
namespace Go.Num
def eC (k : Nat) (m : Nat) : Rat := eK k 1 1 m
def eF (k : Nat) : Rat := (1 : Rat) / (bq k / (((-2 * (k : Int) : Int)) : Rat))
def eN (k : Nat) (m : Nat) : Rat := eF k * eC k m
def chkW (k : Nat) : Bool := decide (bq k ≠ 0) && decide (eF k = (((-2 * (k : Int) : Int)) : Rat) / bq k) && decide (Rat.divInt (-1) (2 * (k : Int)) * bq k = eC k 0) && decide (eF k * eC k 0 = 1) && decide (eC k 0 ≠ 0)
theorem chkW_all : ((List.range 20).all fun j => chkW (2 * (j + 1))) = true := by decide +kernel
theorem wt {k : Nat} (h1 : 2 ≤ k) (h2 : k ≤ 40) (h3 : k % 2 = 0) : bq k ≠ 0 ∧ eF k = (((-2 * (k : Int) : Int)) : Rat) / bq k ∧ Rat.divInt (-1) (2 * (k : Int)) * bq k = eC k 0 ∧ eF k * eC k 0 = 1 ∧ eC k 0 ≠ 0 := by
 have h := List.all_eq_true.1 chkW_all (k / 2 - 1) (List.mem_range.2 (by omega))
 rw [show 2 * (k / 2 - 1 + 1) = k by omega] at h
 unfold chkW at h
 simp only [Bool.and_eq_true,decide_eq_true_eq] at h
 exact ⟨h.1.1.1.1,h.1.1.1.2,h.1.1.2,h.1.2,h.2⟩
end Go.Num
namespace Go.Proofs.YteecamhdbilmoaaGreatDoor
open Go Go.Lg Go.Num
set_option maxRecDepth 100000
set_option maxHeartbeats 8000000
attribute [local irreducible] Go.Lg.lrun Go.Lg.lwp Go.Lg.exThen Go.Lg.exBlk Go.Lg.keep Go.Lg.goodPost sg mg oc mC twP tw kr chi eK gB eC eF eN bq cSer op oqp
theorem eC_eq (k m : Nat) : eC k m = eK k 1 1 m := by unfold eC;rfl
theorem lq_eC {k m : Nat} (hk : k ≤ 40) (hk1 : 2 ≤ k) (hk2 : k % 2 = 0) (hm : m ≤ 40) : lq (eC k m) ≤ 30 := by
 rw [eC_eq]
 by_cases h0 : m = 0
 ·subst h0
  rw [eK_zero1,gB_one hk1 hk hk2]
  have b1 := lq_bq k
  have b2 := lq_i64 (z := -2 * (k : Int)) (by omega)
  have b3 := lq_div (bq k) (((-2 * (k : Int) : Int)) : Rat) (m2k_ne (by omega))
  omega
 ·rw [eK_pos h0,lq_int]
  have b1 := lq_tw (k := k - 1) (d1 := 1) (d2 := 1) (n := m) (by decide) (by decide) (by omega) (by omega)
  omega
theorem eF_eq (k : Nat) (hk1 : 2 ≤ k) (hk : k ≤ 40) (hk2 : k % 2 = 0) : eF k = (1 : Rat) / eC k 0 := by
 rw [eC_eq,eK_zero1,gB_one hk1 hk hk2];unfold eF;rfl
theorem eN_eq (k m : Nat) : eN k m = eF k * eC k m := by unfold eN;rfl
theorem lq_eF {k : Nat} (hk : k ≤ 40) (hk1 : 2 ≤ k) (hk2 : k % 2 = 0) (h0 : eC k 0 ≠ 0) : lq (eF k) ≤ 40 := by
 rw [eF_eq k hk1 hk hk2]
 have b1 := lq_eC (m := 0) hk hk1 hk2 (by omega)
 have b2 := lq_div 1 (eC k 0) h0
 have b3 := lq_i64 (z := 1) (by omega)
 have : lq (1 : Rat) ≤ 3 := b3
 omega
theorem lq_eN {k m : Nat} (hk : k ≤ 40) (hk1 : 2 ≤ k) (hk2 : k % 2 = 0) (h0 : eC k 0 ≠ 0) (hm : m ≤ 40) : lq (eN k m) ≤ 100 := by
 rw [eN_eq]
 have b1 := lq_eC (m := m) hk hk1 hk2 hm
 have b2 := lq_eF hk hk1 hk2 h0
 have b3 := lq_mul (eF k) (eC k m)
 omega
def clsErr (k prec : Int) : Option Int := if k < 2 ∨ 40 < k then some 2 else if k % 2 ≠ 0 then some 16 else if prec < 0 ∨ 1000 < prec then some 2 else none
theorem clsErr_none {k prec : Int} (h : clsErr k prec = none) : (2 ≤ k ∧ k ≤ 40) ∧ k % 2 = 0 ∧ 0 ≤ prec ∧ prec ≤ 1000 := by
 unfold clsErr at h
 split at h
 ·cases h
 ·split at h
  ·cases h
  ·split at h
   ·cases h
   ·omega
theorem Classical_err {k prec e : Int} (hk : -9223372036854775808 ≤ k ∧ k ≤ 9223372036854775807) (hp : -9223372036854775808 ≤ prec ∧ prec ≤ 9223372036854775807) (h : clsErr k prec = some e) : PureGood Tryz.prog 11 [i64 k,i64 prec] (.tup [.agg [i64 0,.sl 0 []],i64 e]) := by
 have hk2 := tmod_iff k 2
 unfold clsErr at h
 by_cases h1 : k < 2
 ·rw [if_pos (.inl h1)] at h
  cases h
  simp only [i64]
  refine good_of_lwp mix Tryz.func11 rfl (by decide) (nt := 31) rfl (rs := [.cell 4 26,.tmp 5]) rfl (nle rfl) ?_
  (repeat (first|apply zO (by decide +kernel)|apply zP (by decide +kernel)|(apply zS;(case h=>constructor<;>decide))|((first|apply l_go rfl|apply c_dec|apply zT rfl (by decide) rfl);(case hs=>(simp (disch := first|omega|exact kD rfl|exact kX rfl) only [smY,simprocAttr,bl,i64,smT,smO,smM];exact rfl));first|refine c_bt ?_|refine c_bf ?_|refine zq ?_|(case hg=>assumption))))
  ((first|apply g_ret|apply g_end);case hres => (simp only [smR];simp (disch := first|omega|exact kD rfl|exact kX rfl) only [smY,simprocAttr,bl,i64,smT,smO,smM];exact rfl))
  simp (disch := first|omega|exact kD rfl|exact kX rfl) only [smY,simprocAttr,bl,i64,smT,smO,smM]
 ·by_cases h2 : 40 < k
  ·rw [if_pos (.inr h2)] at h
   cases h
   simp only [i64]
   refine good_of_lwp mix Tryz.func11 rfl (by decide) (nt := 31) rfl (rs := [.cell 4 26,.tmp 5]) rfl (nle rfl) ?_
   (repeat (first|apply zO (by decide +kernel)|apply zP (by decide +kernel)|(apply zS;(case h=>constructor<;>decide))|((first|apply l_go rfl|apply c_dec|apply zT rfl (by decide) rfl);(case hs=>(simp (disch := first|omega|exact kD rfl|exact kX rfl) only [smY,simprocAttr,bl,i64,smT,smO,smM];exact rfl));first|refine c_bt ?_|refine c_bf ?_|refine zq ?_|(case hg=>assumption))))
   ((first|apply g_ret|apply g_end);case hres => (simp only [smR];simp (disch := first|omega|exact kD rfl|exact kX rfl) only [smY,simprocAttr,bl,i64,smT,smO,smM];exact rfl))
   simp (disch := first|omega|exact kD rfl|exact kX rfl) only [smY,simprocAttr,bl,i64,smT,smO,smM]
  ·rw [if_neg (by omega)] at h
   by_cases h3 : k % 2 = 0
   ·rw [if_neg (fun e => e h3)] at h
    have h3' := hk2.2 h3
    by_cases h4 : prec < 0
    ·rw [if_pos (.inl h4)] at h
     cases h
     have gi := inside_good prec hp;rw [dec_f (by omega)] at gi;simp only [i64,bl] at *
     refine good_of_lwp mix Tryz.func11 rfl (by decide) (nt := 31) rfl (rs := [.cell 4 26,.tmp 5]) rfl (nle rfl) ?_
     (repeat (first|apply zO (by decide +kernel)|apply zP (by decide +kernel)|(apply zS;(case h=>constructor<;>decide))|((first|apply l_go rfl|apply c_dec|apply zT rfl (by decide) rfl);(case hs=>(simp (disch := first|omega|exact kD rfl|exact kX rfl) only [smY,simprocAttr,bl,i64,smT,smO,smM];exact rfl));first|refine c_bt ?_|refine c_bf ?_|refine zq ?_|(case hg=>assumption))))
     ((first|apply g_ret|apply g_end);case hres => (simp only [smR];simp (disch := first|omega|exact kD rfl|exact kX rfl) only [smY,simprocAttr,bl,i64,smT,smO,smM];exact rfl))
     simp (disch := first|omega|exact kD rfl|exact kX rfl) only [smY,simprocAttr,bl,i64,smT,smO,smM]
    ·by_cases h5 : 1000 < prec
     ·rw [if_pos (.inr h5)] at h
      cases h
      have gi := inside_good prec hp;rw [dec_f (by omega)] at gi;simp only [i64,bl] at *
      refine good_of_lwp mix Tryz.func11 rfl (by decide) (nt := 31) rfl (rs := [.cell 4 26,.tmp 5]) rfl (nle rfl) ?_
      (repeat (first|apply zO (by decide +kernel)|apply zP (by decide +kernel)|(apply zS;(case h=>constructor<;>decide))|((first|apply l_go rfl|apply c_dec|apply zT rfl (by decide) rfl);(case hs=>(simp (disch := first|omega|exact kD rfl|exact kX rfl) only [smY,simprocAttr,bl,i64,smT,smO,smM];exact rfl));first|refine c_bt ?_|refine c_bf ?_|refine zq ?_|(case hg=>assumption))))
      ((first|apply g_ret|apply g_end);case hres => (simp only [smR];simp (disch := first|omega|exact kD rfl|exact kX rfl) only [smY,simprocAttr,bl,i64,smT,smO,smM];exact rfl))
      simp (disch := first|omega|exact kD rfl|exact kX rfl) only [smY,simprocAttr,bl,i64,smT,smO,smM]
     ·rw [if_neg (by omega)] at h
      cases h
   ·rw [if_pos h3] at h
    cases h
    have h3' : k.tmod 2 = 1 := by rw [Int.tmod_eq_emod_of_nonneg (by omega)];omega
    simp only [i64]
    refine good_of_lwp mix Tryz.func11 rfl (by decide) (nt := 31) rfl (rs := [.cell 4 26,.tmp 5]) rfl (nle rfl) ?_
    (repeat (first|apply zO (by decide +kernel)|apply zP (by decide +kernel)|(apply zS;(case h=>constructor<;>decide))|((first|apply l_go rfl|apply c_dec|apply zT rfl (by decide) rfl);(case hs=>(simp (disch := first|omega|exact kD rfl|exact kX rfl) only [smY,simprocAttr,bl,i64,smT,smO,smM];exact rfl));first|refine c_bt ?_|refine c_bf ?_|refine zq ?_|(case hg=>assumption))))
    ((first|apply g_ret|apply g_end);case hres => (simp only [smR];simp (disch := first|omega|exact kD rfl|exact kX rfl) only [smY,simprocAttr,bl,i64,smT,smO,smM];exact rfl))
    simp (disch := first|omega|exact kD rfl|exact kX rfl) only [smY,simprocAttr,bl,i64,smT,smO,smM]
theorem rClassical_err {k prec e : Int} (hk : -9223372036854775808 ≤ k ∧ k ≤ 9223372036854775807) (hp : -9223372036854775808 ≤ prec ∧ prec ≤ 9223372036854775807) (h : clsErr k prec = some e) : PureGood Tryz.prog 12 [i64 k,i64 prec] (.tup [.agg [i64 0,.sl 0 []],i64 e]) := by
 have hk2 := tmod_iff k 2
 unfold clsErr at h
 by_cases h1 : k < 2
 ·rw [if_pos (.inl h1)] at h
  cases h
  simp only [i64]
  refine good_of_lwp mix Tryz.func12 rfl (by decide) (nt := 27) rfl (rs := [.cell 4 26,.tmp 5]) rfl (nle rfl) ?_
  (repeat (first|apply zO (by decide +kernel)|apply zP (by decide +kernel)|(apply zS;(case h=>constructor<;>decide))|((first|apply l_go rfl|apply c_dec|apply zT rfl (by decide) rfl);(case hs=>(simp (disch := first|omega|exact kD rfl|exact kX rfl) only [smY,simprocAttr,bl,i64,smT,smO,smM];exact rfl));first|refine c_bt ?_|refine c_bf ?_|refine zq ?_|(case hg=>assumption))))
  ((first|apply g_ret|apply g_end);case hres => (simp only [smR];simp (disch := first|omega|exact kD rfl|exact kX rfl) only [smY,simprocAttr,bl,i64,smT,smO,smM];exact rfl))
  simp (disch := first|omega|exact kD rfl|exact kX rfl) only [smY,simprocAttr,bl,i64,smT,smO,smM]
 ·by_cases h2 : 40 < k
  ·rw [if_pos (.inr h2)] at h
   cases h
   simp only [i64]
   refine good_of_lwp mix Tryz.func12 rfl (by decide) (nt := 27) rfl (rs := [.cell 4 26,.tmp 5]) rfl (nle rfl) ?_
   (repeat (first|apply zO (by decide +kernel)|apply zP (by decide +kernel)|(apply zS;(case h=>constructor<;>decide))|((first|apply l_go rfl|apply c_dec|apply zT rfl (by decide) rfl);(case hs=>(simp (disch := first|omega|exact kD rfl|exact kX rfl) only [smY,simprocAttr,bl,i64,smT,smO,smM];exact rfl));first|refine c_bt ?_|refine c_bf ?_|refine zq ?_|(case hg=>assumption))))
   ((first|apply g_ret|apply g_end);case hres => (simp only [smR];simp (disch := first|omega|exact kD rfl|exact kX rfl) only [smY,simprocAttr,bl,i64,smT,smO,smM];exact rfl))
   simp (disch := first|omega|exact kD rfl|exact kX rfl) only [smY,simprocAttr,bl,i64,smT,smO,smM]
  ·rw [if_neg (by omega)] at h
   by_cases h3 : k % 2 = 0
   ·rw [if_neg (fun e => e h3)] at h
    have h3' := hk2.2 h3
    by_cases h4 : prec < 0
    ·rw [if_pos (.inl h4)] at h
     cases h
     simp only [i64]
     refine good_of_lwp mix Tryz.func12 rfl (by decide) (nt := 27) rfl (rs := [.cell 4 26,.tmp 5]) rfl (nle rfl) ?_
     (repeat (first|apply zO (by decide +kernel)|apply zP (by decide +kernel)|(apply zS;(case h=>constructor<;>decide))|((first|apply l_go rfl|apply c_dec|apply zT rfl (by decide) rfl);(case hs=>(simp (disch := first|omega|exact kD rfl|exact kX rfl) only [smY,simprocAttr,bl,i64,smT,smO,smM];exact rfl));first|refine c_bt ?_|refine c_bf ?_|refine zq ?_|(case hg=>assumption))))
     ((first|apply g_ret|apply g_end);case hres => (simp only [smR];simp (disch := first|omega|exact kD rfl|exact kX rfl) only [smY,simprocAttr,bl,i64,smT,smO,smM];exact rfl))
     simp (disch := first|omega|exact kD rfl|exact kX rfl) only [smY,simprocAttr,bl,i64,smT,smO,smM]
    ·by_cases h5 : 1000 < prec
     ·rw [if_pos (.inr h5)] at h
      cases h
      simp only [i64]
      refine good_of_lwp mix Tryz.func12 rfl (by decide) (nt := 27) rfl (rs := [.cell 4 26,.tmp 5]) rfl (nle rfl) ?_
      (repeat (first|apply zO (by decide +kernel)|apply zP (by decide +kernel)|(apply zS;(case h=>constructor<;>decide))|((first|apply l_go rfl|apply c_dec|apply zT rfl (by decide) rfl);(case hs=>(simp (disch := first|omega|exact kD rfl|exact kX rfl) only [smY,simprocAttr,bl,i64,smT,smO,smM];exact rfl));first|refine c_bt ?_|refine c_bf ?_|refine zq ?_|(case hg=>assumption))))
      ((first|apply g_ret|apply g_end);case hres => (simp only [smR];simp (disch := first|omega|exact kD rfl|exact kX rfl) only [smY,simprocAttr,bl,i64,smT,smO,smM];exact rfl))
      simp (disch := first|omega|exact kD rfl|exact kX rfl) only [smY,simprocAttr,bl,i64,smT,smO,smM]
     ·rw [if_neg (by omega)] at h
      cases h
   ·rw [if_pos h3] at h
    cases h
    have h3' : k.tmod 2 = 1 := by rw [Int.tmod_eq_emod_of_nonneg (by omega)];omega
    simp only [i64]
    refine good_of_lwp mix Tryz.func12 rfl (by decide) (nt := 27) rfl (rs := [.cell 4 26,.tmp 5]) rfl (nle rfl) ?_
    (repeat (first|apply zO (by decide +kernel)|apply zP (by decide +kernel)|(apply zS;(case h=>constructor<;>decide))|((first|apply l_go rfl|apply c_dec|apply zT rfl (by decide) rfl);(case hs=>(simp (disch := first|omega|exact kD rfl|exact kX rfl) only [smY,simprocAttr,bl,i64,smT,smO,smM];exact rfl));first|refine c_bt ?_|refine c_bf ?_|refine zq ?_|(case hg=>assumption))))
    ((first|apply g_ret|apply g_end);case hres => (simp only [smR];simp (disch := first|omega|exact kD rfl|exact kX rfl) only [smY,simprocAttr,bl,i64,smT,smO,smM];exact rfl))
    simp (disch := first|omega|exact kD rfl|exact kX rfl) only [smY,simprocAttr,bl,i64,smT,smO,smM]
theorem Classical_ok (k p : Nat) (hk1 : 2 ≤ k) (hk : k ≤ 40) (hk2 : k % 2 = 0) (hp : p ≤ 40) : PureGood Tryz.prog 11 [i64 k,i64 p] (.tup [.agg [i64 0,.sl p (qc (aP (eC k) p))],i64 0]) := by
 have g1 := classical_good k p 1 1 (by decide) (by decide) hk1 hk (by omega)
 have gi := inside_good (p : Int) (by omega)
 rw [dec_t (by omega)] at gi
 obtain ⟨_,_,_,_,h0⟩ := wt hk1 hk hk2
 have he : eK k 1 1 = eC k := funext fun m => (eC_eq k m).symm
 rw [he] at g1
 have g2 := snormal_all 0 (fun i => some (eC k i)) (eC k) p (fun i hi => rfl) (by omega) (by omega) (fun i hi => Nat.le_trans (lq_eC hk hk1 hk2 (by omega)) (by omega))
 rw [aP_oP,cSer_zero (fun _ => h0)] at g2
 have h3' := (tmod_iff (k : Int) 2).2 (by omega)
 have hl := aP_len (eC k) p
 simp only [i64,bl] at *
 refine good_of_lwp mix Tryz.func11 rfl (by decide) (nt := 31) rfl (rs := [.cell 4 26,.tmp 5]) rfl (nle rfl) ?_
 (repeat (first|apply zO (by decide +kernel)|apply zP (by decide +kernel)|(apply zS;(case h=>constructor<;>decide))|((first|apply l_go rfl|apply c_dec|apply zT rfl (by decide) rfl);(case hs=>(simp (disch := first|omega|exact kD rfl|exact kX rfl) only [smY,simprocAttr,bl,i64,smT,smO,smM];exact rfl));first|refine c_bt ?_|refine c_bf ?_|refine zq ?_|(case hg=>assumption))))
 ((first|apply g_ret|apply g_end);case hres => (simp only [smR];simp (disch := first|omega|exact kD rfl|exact kX rfl) only [smY,simprocAttr,bl,i64,smT,smO,smM];exact rfl))
 simp (disch := first|omega|exact kD rfl|exact kX rfl) only [smY,simprocAttr,bl,i64,smT,smO,smM]
theorem rClassical_ok (k p : Nat) (hk1 : 2 ≤ k) (hk : k ≤ 40) (hk2 : k % 2 = 0) (hp : p ≤ 40) : PureGood Tryz.prog 12 [i64 k,i64 p] (.tup [.agg [i64 0,.sl p (qc (aP (eC k) p))],i64 0]) := by
 have g1 := rplain_good k p 1 1 (by decide) (by decide) hk1 hk (by omega)
 obtain ⟨_,_,_,_,h0⟩ := wt hk1 hk hk2
 have he : eK k 1 1 = eC k := funext fun m => (eC_eq k m).symm
 rw [he,cSer_zero (fun _ => h0)] at g1
 have h3' := (tmod_iff (k : Int) 2).2 (by omega)
 have hl := aP_len (eC k) p
 simp only [i64] at *
 refine good_of_lwp mix Tryz.func12 rfl (by decide) (nt := 27) rfl (rs := [.cell 4 26,.tmp 5]) rfl (nle rfl) ?_
 (repeat (first|apply zO (by decide +kernel)|apply zP (by decide +kernel)|(apply zS;(case h=>constructor<;>decide))|((first|apply l_go rfl|apply c_dec|apply zT rfl (by decide) rfl);(case hs=>(simp (disch := first|omega|exact kD rfl|exact kX rfl) only [smY,simprocAttr,bl,i64,smT,smO,smM];exact rfl));first|refine c_bt ?_|refine c_bf ?_|refine zq ?_|(case hg=>assumption))))
 ((first|apply g_ret|apply g_end);case hres => (simp only [smR];simp (disch := first|omega|exact kD rfl|exact kX rfl) only [smY,simprocAttr,bl,i64,smT,smO,smM];exact rfl))
 simp (disch := first|omega|exact kD rfl|exact kX rfl) only [smY,simprocAttr,bl,i64,smT,smO,smM]
theorem rquo_good (p q : Rat) (h0 : q ≠ 0) (hp : lq p ≤ 1000) (hq : lq q ≤ 1000) : PureGood Tryz.prog 46 [encQ p,encQ q] (.tup [encQ (p / q),i64 0]) := by
 have r1 := rqsign_good q (by omega)
 have r2 := rratio_good p q (by omega) (by omega)
 have hsg : q.num.sign ≠ 0 := fun e => h0 (Rat.num_eq_zero.1 (Int.sign_eq_zero_iff_zero.1 e))
 generalize q.num.sign = s at *
 generalize p / q = r at *
 clear h0
 simp only [encQ_sm,i64] at *
 refine good_of_lwp mix Tryz.func46 rfl (by decide) (nt := 13) rfl (rs := [.cell 4 45,.tmp 5]) rfl (nle rfl) ?_
 (repeat (first|apply zO (by decide +kernel)|apply zP (by decide +kernel)|(apply zS;(case h=>constructor<;>decide))|((first|apply l_go rfl|apply c_dec|apply zT rfl (by decide) rfl);(case hs=>(simp (disch := first|omega|exact kD rfl|exact kX rfl) only [smY,simprocAttr,bl,i64,smT];exact rfl));first|refine c_bt ?_|refine c_bf ?_|refine zq ?_|(case hg=>assumption))))
 ((first|apply g_ret|apply g_end);case hres => (simp only [smR];simp (disch := first|omega|exact kD rfl|exact kX rfl) only [smY,simprocAttr,bl,i64,smT];exact rfl))
 simp (disch := first|omega|exact kD rfl|exact kX rfl) only [smY,simprocAttr,bl,i64,smT]
theorem scale_good (c : Rat) (a b : Nat → Rat) (N : Nat) (hN : 1 ≤ N) (h2 : N ≤ 1000) (hb : ∀ i,b i = c * a i) (b0 : b 0 ≠ 0) (lc : lq c ≤ 400) (la : ∀ i,i < N → lq (a i) ≤ 400) : PureGood Tryz.prog 45 [encQ c,.agg [i64 0,.sl N (qc (aP a N))]] (.tup [.agg [i64 0,.sl N (qc (aP b N))],i64 0]) := by
 have g1 := svalid_all 0 N (qc (aP a N)) (by omega) (by omega)
 have lb : ∀ i,i < N → lq (b i) ≤ 1000 := fun i hi => by
  rw [hb]
  have := lq_mul c (a i)
  have := la i hi
  omega
 have g2 := build_gen 0 b N (by omega) hN (by omega) b0 lb
 have hl := aP_len a N
 have hlb := aP_len b N
 clear b0
 simp only [encQ_sm,i64,bl] at *
 refine good_of_lwp mix Tryz.func45 rfl (by decide) (nt := 37) rfl (rs := [.cell 4 26,.tmp 5]) rfl (nle rfl) ?_
 (repeat (first|apply zO (by decide +kernel)|apply zP (by decide +kernel)|(apply zS;(case h=>constructor<;>decide))|((first|apply l_go rfl|apply c_dec|apply zT rfl (by decide) rfl);(case hs=>(simp (disch := first|omega|exact kD rfl|exact kX rfl) only [smY,simprocAttr,bl,i64,smT,smO,smM];exact rfl));first|refine c_bt ?_|refine c_bf ?_|refine zq ?_|(case hg=>assumption))))
 refine w_loop (α := {i : Nat // i ≤ N}) (fun i => st 37 (lk [(2,.ptr 0 0),(3,.ptr 1 0),(4,.ptr 2 0),(6,.own 3 0 i.1 4),(18,.sl N (qc (aP a N))),(19,i64 N),(20,i64 i.1)]) (lkH [(0,⟨45,[sg (c).num,mg (c).num,sg ((c).den : Int),mg ((c).den : Int)],false⟩),(1,⟨26,[i64 0,.sl N (qc (aP a N))],false⟩),(2,⟨26,[i64 0,nilL],false⟩),(3,⟨45,mC b N i.1,false⟩)]) 4) (fun i => N - i.1) ⟨0,by omega⟩ ?_ ?_
 ·(refine Sub.heapL [0,1,2,10] rfl (by decide) ?_ (by simp only [smL];decide) ?_ ?_;all_goals (first|(simp only [plainC,smF,dg,renL,renLs,simprocAttr,bl,i64,smT,smO,smM];done) | (simp only [smF,dg,renL,renLs,simprocAttr,bl,i64,smT,smO,smM];(repeat' apply And.intro);all_goals rfl) | (simp only [smF,dg,renL,renLs,simprocAttr,bl,i64,smT,smO,smM]) | skip))
  all_goals (first | done | ((repeat' apply And.intro);all_goals (first | trivial | rfl | (rw [mC_zero b]) | rw [hs])))
 ·rintro ⟨i,hi⟩
  simp only [st]
  by_cases hlt : i < N
  ·have e1 : (aP a N).getD i 0 = a i := aP_get hlt
   have b1 := la i hlt
   have r1 := qmul_good c (a i) (by omega) (by omega)
   rw [← hb i] at r1
   have hs := mC_succ (a := b) (N := N) (i := i) rfl
   have hla := aP_len b i
   generalize a i = ai at *
   generalize b i = bi at *
   simp only [encQ_sm] at r1
   (repeat (first|apply zO (by decide +kernel)|apply zP (by decide +kernel)|(apply zS;(case h=>constructor<;>decide))|((first|apply l_go rfl|apply c_dec|apply zT rfl (by decide) rfl);(case hs=>(simp (disch := first|omega|exact kD rfl|exact kX rfl) only [smY,simprocAttr,bl,i64,smT,smO,smM,e1];exact rfl));first|refine c_bt ?_|refine c_bf ?_|refine zq ?_|(case hg=>assumption))))
   refine ⟨⟨i + 1,by omega⟩,?_,by simp only;omega⟩
   (refine Sub.heapL [0,1,2,14] rfl (by decide) ?_ (by simp only [smL];decide) ?_ ?_;all_goals (first|(simp only [plainC,smF,dg,renL,renLs,simprocAttr,bl,i64,smT,smO,smM];done) | (simp only [smF,dg,renL,renLs,simprocAttr,bl,i64,smT,smO,smM];(repeat' apply And.intro);all_goals rfl) | (simp only [smF,dg,renL,renLs,simprocAttr,bl,i64,smT,smO,smM]) | skip))
   all_goals (first | done | ((repeat' apply And.intro);all_goals (first | trivial | rfl | (rw [mC_zero b]) | rw [hs])))
  ·obtain rfl : i = N := by omega
   (repeat (first|apply zO (by decide +kernel)|apply zP (by decide +kernel)|(apply zS;(case h=>constructor<;>decide))|((first|apply l_go rfl|apply c_dec|apply zT rfl (by decide) rfl);(case hs=>(simp (disch := first|omega|exact kD rfl|exact kX rfl) only [smY,simprocAttr,bl,i64,smT,smO,smM];exact rfl));first|refine c_bt ?_|refine c_bf ?_|refine zq ?_|(case hg=>assumption))))
   ((first|apply g_ret|apply g_end);case hres => (simp only [smR];simp (disch := first|omega|exact kD rfl|exact kX rfl) only [smY,simprocAttr,bl,i64,smT,smO,smM];exact rfl))
   simp (disch := first|omega|exact kD rfl|exact kX rfl) only [smY,simprocAttr,bl,i64,smT,smO,smM]
end Go.Proofs.YteecamhdbilmoaaGreatDoor
namespace Go.Proofs.YteecamhdbilmoaaGreatDoor
open Go Go.Lg Go.Num
set_option maxRecDepth 100000
set_option maxHeartbeats 8000000
attribute [local irreducible] Go.Lg.lrun Go.Lg.lwp Go.Lg.exThen Go.Lg.exBlk Go.Lg.keep Go.Lg.goodPost sg mg oc mC twP tw kr chi eK gB eC eF eN bq cSer op oqp
theorem same34_good (l : List Rat) (e : Int) (hl : l.length ≤ 1000000) (hb : ∀ q ∈ l,lq q ≤ 100000) : PureGood Tryz.prog 15 [.agg [i64 0,.sl l.length (qc l)],i64 e,.agg [i64 0,.sl l.length (qc l)],i64 e] (.lit (.bool true)) := by
 exact same_list 0 (by omega) l e hl hb
theorem Normalized_ok (k p : Nat) (hk1 : 2 ≤ k) (hk : k ≤ 40) (hk2 : k % 2 = 0) (hp1 : 1 ≤ p) (hp : p ≤ 40) : PureGood Tryz.prog 13 [i64 k,i64 p] (.tup [.agg [i64 0,.sl p (qc (aP (eN k) p))],i64 0]) := by
 obtain ⟨_,_,_,h1,h0⟩ := wt hk1 hk hk2
 have g1 := Classical_ok k p hk1 hk hk2 hp
 have r0 := qof_good 1 (by omega)
 have l1 : lq (((1 : Int) : Rat)) ≤ 3 := lq_i64 (by omega)
 have l2 := lq_eC (m := 0) hk hk1 hk2 (by omega)
 have r1 := quo_good (((1 : Int) : Rat)) (eC k 0) h0 (by omega) (by omega)
 have er : (((1 : Int) : Rat)) / eC k 0 = eF k := by rw [eF_eq k hk1 hk hk2];rfl
 rw [er] at r1
 have r2 := scale_good (eF k) (eC k) (eN k) p hp1 (by omega) (fun i => eN_eq k i) (by rw [eN_eq,h1];decide) (Nat.le_trans (lq_eF hk hk1 hk2 h0) (by omega)) (fun i hi => Nat.le_trans (lq_eC hk hk1 hk2 (by omega)) (by omega))
 have e0 : (aP (eC k) p).getD 0 0 = eC k 0 := aP_get (by omega)
 have hl := aP_len (eC k) p
 have hl2 := aP_len (eN k) p
 clear er h1 h0
 generalize eC k 0 = c0 at *
 generalize eF k = F at *
 simp only [encQ_sm,i64] at *
 refine good_of_lwp mix Tryz.func13 rfl (by decide) (nt := 38) rfl (rs := [.cell 4 26,.tmp 5]) rfl (nle rfl) ?_
 (repeat (first|apply zO (by decide +kernel)|apply zP (by decide +kernel)|(apply zS;(case h=>constructor<;>decide))|((first|apply l_go rfl|apply c_dec|apply zT rfl (by decide) rfl);(case hs=>(simp (disch := first|omega|exact kD rfl|exact kX rfl) only [smY,simprocAttr,bl,i64,smT,e0];exact rfl));first|refine c_bt ?_|refine c_bf ?_|refine zq ?_|(case hg=>assumption))))
 ((first|apply g_ret|apply g_end);case hres => (simp only [smR];simp (disch := first|omega|exact kD rfl|exact kX rfl) only [smY,simprocAttr,bl,i64,smT,e0];exact rfl))
 simp (disch := first|omega|exact kD rfl|exact kX rfl) only [smY,simprocAttr,bl,i64,smT,e0]
theorem rNormalized_ok (k p : Nat) (hk1 : 2 ≤ k) (hk : k ≤ 40) (hk2 : k % 2 = 0) (hp : p ≤ 40) : PureGood Tryz.prog 14 [i64 k,i64 p] (.tup [.agg [i64 0,.sl p (qc (aP (eN k) p))],i64 0]) := by
 obtain ⟨hb,hq,_,h1,h0⟩ := wt hk1 hk hk2
 have g1 := rClassical_ok k p hk1 hk hk2 hp
 have r0 := baseQ_good (-2 * (k : Int)) (by omega)
 have r3 := gen34_good (d := 1) (by decide) k (by omega) hk
 rw [gB_one hk1 hk hk2] at r3
 have l1 := lq_i64 (z := -2 * (k : Int)) (by omega)
 have l2 := lq_bq k
 have r1 := rquo_good (((-2 * (k : Int) : Int)) : Rat) (bq k) hb (by omega) (by omega)
 rw [← hq] at r1
 have r2 := rscaleA_good (eF k) (eC k) p (by omega) (Nat.le_trans (lq_eF hk hk1 hk2 h0) (by omega)) (fun i hi => Nat.le_trans (lq_eC hk hk1 hk2 (by omega)) (by omega))
 rw [show (fun i => eF k * eC k i) = eN k from funext fun i => (eN_eq k i).symm,cSer_zero (fun _ => h0),cSer_zero (fun _ => by rw [eN_eq,h1];decide)] at r2
 have hl := aP_len (eC k) p
 have hl2 := aP_len (eN k) p
 clear hq h1 h0 hb
 generalize (((-2 * (k : Int) : Int)) : Rat) = w at *
 generalize bq k = bk at *
 generalize eF k = F at *
 simp only [encQ_sm,i64] at *
 refine good_of_lwp mix Tryz.func14 rfl (by decide) (nt := 34) rfl (rs := [.cell 4 26,.tmp 5]) rfl (nle rfl) ?_
 (repeat (first|apply zO (by decide +kernel)|apply zP (by decide +kernel)|(apply zS;(case h=>constructor<;>decide))|((first|apply l_go rfl|apply c_dec|apply zT rfl (by decide) rfl);(case hs=>(simp (disch := first|omega|exact kD rfl|exact kX rfl) only [smY,simprocAttr,bl,i64,smT];exact rfl));first|refine c_bt ?_|refine c_bf ?_|refine zq ?_|(case hg=>assumption))))
 ((first|apply g_ret|apply g_end);case hres => (simp only [smR];simp (disch := first|omega|exact kD rfl|exact kX rfl) only [smY,simprocAttr,bl,i64,smT];exact rfl))
 simp (disch := first|omega|exact kD rfl|exact kX rfl) only [smY,simprocAttr,bl,i64,smT]
theorem Normalized_zero (k : Nat) (hk1 : 2 ≤ k) (hk : k ≤ 40) (hk2 : k % 2 = 0) : PureGood Tryz.prog 13 [i64 k,i64 0] (.tup [.agg [i64 0,.sl 0 []],i64 0]) := by
 have g1 := Classical_ok k 0 hk1 hk hk2 (by omega)
 rw [aP0,Int.natCast_zero] at g1
 simp only [i64] at *
 refine good_of_lwp mix Tryz.func13 rfl (by decide) (nt := 38) rfl (rs := [.cell 4 26,.tmp 5]) rfl (nle rfl) ?_
 (repeat (first|apply zO (by decide +kernel)|apply zP (by decide +kernel)|(apply zS;(case h=>constructor<;>decide))|((first|apply l_go rfl|apply c_dec|apply zT rfl (by decide) rfl);(case hs=>(simp (disch := first|omega|exact kD rfl|exact kX rfl) only [smY,simprocAttr,bl,i64,smT];exact rfl));first|refine c_bt ?_|refine c_bf ?_|refine zq ?_|(case hg=>assumption))))
 ((first|apply g_ret|apply g_end);case hres => (simp only [smR];simp (disch := first|omega|exact kD rfl|exact kX rfl) only [smY,simprocAttr,bl,i64,smT];exact rfl))
 simp (disch := first|omega|exact kD rfl|exact kX rfl) only [smY,simprocAttr,bl,i64,smT]
theorem Normalized_err {k prec e : Int} (he : e ≠ 0) (h : PureGood Tryz.prog 11 [i64 k,i64 prec] (.tup [.agg [i64 0,.sl 0 []],i64 e])) : PureGood Tryz.prog 13 [i64 k,i64 prec] (.tup [.agg [i64 0,.sl 0 []],i64 e]) := by
 simp only [i64] at *
 refine good_of_lwp mix Tryz.func13 rfl (by decide) (nt := 38) rfl (rs := [.cell 4 26,.tmp 5]) rfl (nle rfl) ?_
 (repeat (first|apply zO (by decide +kernel)|apply zP (by decide +kernel)|(apply zS;(case h=>constructor<;>decide))|((first|apply l_go rfl|apply c_dec|apply zT rfl (by decide) rfl);(case hs=>(simp (disch := first|omega|exact kD rfl|exact kX rfl) only [smY,simprocAttr,bl,i64,smT];exact rfl));first|refine c_bt ?_|refine c_bf ?_|refine zq ?_|(case hg=>assumption))))
 ((first|apply g_ret|apply g_end);case hres => (simp only [smR];simp (disch := first|omega|exact kD rfl|exact kX rfl) only [smY,simprocAttr,bl,i64,smT];exact rfl))
 simp (disch := first|omega|exact kD rfl|exact kX rfl) only [smY,simprocAttr,bl,i64,smT]
theorem rNormalized_err {k prec e : Int} (he : e ≠ 0) (h : PureGood Tryz.prog 12 [i64 k,i64 prec] (.tup [.agg [i64 0,.sl 0 []],i64 e])) : PureGood Tryz.prog 14 [i64 k,i64 prec] (.tup [.agg [i64 0,.sl 0 []],i64 e]) := by
 simp only [i64] at *
 refine good_of_lwp mix Tryz.func14 rfl (by decide) (nt := 34) rfl (rs := [.cell 4 26,.tmp 5]) rfl (nle rfl) ?_
 (repeat (first|apply zO (by decide +kernel)|apply zP (by decide +kernel)|(apply zS;(case h=>constructor<;>decide))|((first|apply l_go rfl|apply c_dec|apply zT rfl (by decide) rfl);(case hs=>(simp (disch := first|omega|exact kD rfl|exact kX rfl) only [smY,simprocAttr,bl,i64,smT];exact rfl));first|refine c_bt ?_|refine c_bf ?_|refine zq ?_|(case hg=>assumption))))
 ((first|apply g_ret|apply g_end);case hres => (simp only [smR];simp (disch := first|omega|exact kD rfl|exact kX rfl) only [smY,simprocAttr,bl,i64,smT];exact rfl))
 simp (disch := first|omega|exact kD rfl|exact kX rfl) only [smY,simprocAttr,bl,i64,smT]
theorem clsErr_ne {k prec e : Int} (h : clsErr k prec = some e) : e ≠ 0 := by
 unfold clsErr at h
 split at h
 ·cases h;omega
 ·split at h
  ·cases h;omega
  ·split at h
   ·cases h;omega
   ·cases h
theorem both34 (k prec : Int) (hk : -9223372036854775808 ≤ k ∧ k ≤ 9223372036854775807) (hp : -9223372036854775808 ≤ prec ∧ prec ≤ 9223372036854775807) (hl : ¬ (40 < prec ∧ prec ≤ 1000)) :
  ∃ (l m : List Rat) (e : Int), l.length ≤ 1000000 ∧ (∀ q ∈ l, lq q ≤ 100000) ∧ m.length ≤ 1000000 ∧ (∀ q ∈ m, lq q ≤ 100000) ∧
    PureGood Tryz.prog 11 [i64 k,i64 prec] (.tup [.agg [i64 0,.sl l.length (qc l)],i64 e]) ∧
    PureGood Tryz.prog 12 [i64 k,i64 prec] (.tup [.agg [i64 0,.sl l.length (qc l)],i64 e]) ∧
    PureGood Tryz.prog 13 [i64 k,i64 prec] (.tup [.agg [i64 0,.sl m.length (qc m)],i64 e]) ∧
    PureGood Tryz.prog 14 [i64 k,i64 prec] (.tup [.agg [i64 0,.sl m.length (qc m)],i64 e]) := by
 cases h : clsErr k prec with
 | some e =>
   have h1 := Classical_err hk hp h
   have h2 := rClassical_err hk hp h
   have he := clsErr_ne h
   exact ⟨[],[],e,by simp,by simp,by simp,by simp,h1,h2,Normalized_err he h1,rNormalized_err he h2⟩
 | none =>
   obtain ⟨⟨a1,a2⟩,a3,a4,a5⟩ := clsErr_none h
   obtain ⟨K,rfl⟩ : ∃ n : Nat,k = n := ⟨k.toNat,by omega⟩
   obtain ⟨p,rfl⟩ : ∃ n : Nat,prec = n := ⟨prec.toNat,by omega⟩
   have k1 : 2 ≤ K := by omega
   have k2 : K ≤ 40 := by omega
   have k3 : K % 2 = 0 := by omega
   have p1 : p ≤ 40 := by omega
   obtain ⟨_,_,_,_,h0⟩ := wt k1 k2 k3
   refine ⟨aP (eC K) p,aP (eN K) p,0,by rw [aP_len];omega,?_,by rw [aP_len];omega,?_,?_,?_,?_,?_⟩
   · intro q hq
     simp only [aP,List.mem_map] at hq
     obtain ⟨i,hi,rfl⟩ := hq
     have := List.mem_range.1 hi
     exact Nat.le_trans (lq_eC k2 k1 k3 (by omega)) (by omega)
   · intro q hq
     simp only [aP,List.mem_map] at hq
     obtain ⟨i,hi,rfl⟩ := hq
     have := List.mem_range.1 hi
     exact Nat.le_trans (lq_eN k2 k1 k3 h0 (by omega)) (by omega)
   · rw [aP_len];exact Classical_ok K p k1 k2 k3 p1
   · rw [aP_len];exact rClassical_ok K p k1 k2 k3 p1
   · rw [aP_len]
     by_cases hp0 : p = 0
     · subst hp0
       rw [aP0]
       exact Normalized_zero K k1 k2 k3
     · exact Normalized_ok K p k1 k2 k3 (by omega) p1
   · rw [aP_len];exact rNormalized_ok K p k1 k2 k3 p1
theorem lawLevelOne_good (k prec : Int) (hk : -9223372036854775808 ≤ k ∧ k ≤ 9223372036854775807) (hp : -9223372036854775808 ≤ prec ∧ prec ≤ 9223372036854775807) : PureGood Tryz.prog 3 [i64 k,i64 prec] (.lit (.bool true)) := by
 have ha := awake_good
 have g0 := long_good prec
 by_cases h : 40 < prec ∧ prec ≤ 1000
 ·rw [dec_t h] at g0
  simp only [i64,bl] at *
  refine good_of_lwp mix Tryz.func3 rfl (by decide) (nt := 55) rfl (rs := [.tmp 4]) rfl (nle rfl) ?_
  (repeat (first|apply zO (by decide +kernel)|apply zP (by decide +kernel)|(apply zS;(case h=>constructor<;>decide))|((first|apply l_go rfl|apply c_dec|apply zT rfl (by decide) rfl);(case hs=>(simp (disch := first|omega|exact kD rfl|exact kX rfl) only [smY,simprocAttr,bl,i64,smT];exact rfl));first|refine c_bt ?_|refine c_bf ?_|refine zq ?_|(case hg=>assumption))))
  ((first|apply g_ret|apply g_end);case hres => (simp only [smR];simp (disch := first|omega|exact kD rfl|exact kX rfl) only [smY,simprocAttr,bl,i64,smT];exact rfl))
  simp (disch := first|omega|exact kD rfl|exact kX rfl) only [smY,simprocAttr,bl,i64,smT]
 ·rw [dec_f h] at g0
  obtain ⟨l,m,e,l1,l2,m1,m2,r1,r2,r3,r4⟩ := both34 k prec hk hp h
  have s1 := same34_good l e l1 l2
  have s2 := same34_good m e m1 m2
  simp only [i64,bl] at *
  refine good_of_lwp mix Tryz.func3 rfl (by decide) (nt := 55) rfl (rs := [.tmp 4]) rfl (nle rfl) ?_
  (repeat (first|apply zO (by decide +kernel)|apply zP (by decide +kernel)|(apply zS;(case h=>constructor<;>decide))|((first|apply l_go rfl|apply c_dec|apply zT rfl (by decide) rfl);(case hs=>(simp (disch := first|omega|exact kD rfl|exact kX rfl) only [smY,simprocAttr,bl,i64,smT];exact rfl));first|refine c_bt ?_|refine c_bf ?_|refine zq ?_|(case hg=>assumption))))
  ((first|apply g_ret|apply g_end);case hres => (simp only [smR];simp (disch := first|omega|exact kD rfl|exact kX rfl) only [smY,simprocAttr,bl,i64,smT];exact rfl))
  simp (disch := first|omega|exact kD rfl|exact kX rfl) only [smY,simprocAttr,bl,i64,smT]
end Go.Proofs.YteecamhdbilmoaaGreatDoor