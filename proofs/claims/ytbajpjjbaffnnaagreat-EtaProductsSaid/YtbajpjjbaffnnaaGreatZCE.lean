/- Contracts of functions of the program, and what proves them (texts: X1 X2). -/
import Derived.Test.YtbajpjjbaffnnaaGreatZBX
set_option linter.all false
namespace Go.Proofs.YtbajpjjbaffnnaaGreat
open Go Go.Lg Go.Num
set_option maxRecDepth 100000
set_option maxHeartbeats 4000000
attribute [local irreducible] Go.Lg.lrun Go.Lg.lwp Go.Lg.exThen Go.Lg.exBlk Go.Lg.keep Go.Lg.goodPost sg mg sS qs sv svM spM oc mC
theorem build_gen (h : Int) (a : Nat → Rat) (N : Nat) (h1 : -100 ≤ h) (hN : 1 ≤ N) (h2 : h + N ≤ 1000) (a0 : a 0 ≠ 0) (ba : ∀ i,i < N → lq (a i) ≤ 1000) : PureGood Tryz.prog 109 [i64 h,.sl N (qc (aP a N))] (.tup [.agg [i64 h,.sl N (qc (aP a N))],i64 0]) := by
 have e0 : (aP a N).getD 0 0 = a 0 := aP_get (by omega)
 have hl := aP_len a N
 have b0 := ba 0 (by omega)
 have g1 := qsign_good (a 0) (by omega)
 have es : (a 0).num.sign ≠ 0 := fun e => a0 (Rat.num_eq_zero.1 (Int.sign_eq_zero_iff_zero.1 e))
 have eb : -1 ≤ (a 0).num.sign ∧ (a 0).num.sign ≤ 1 := by
  rcases Int.sign_trichotomy (a 0).num with e | e | e <;> rw [e] <;> omega
 generalize (a 0).num.sign = sg0' at *
 clear a0
 have hmn : (if 1000 - h < (N : Int) then 1000 - h else (N : Int)) = N := if_neg (by omega)
 simp only [encQ_sm,i64] at *
 refine good_of_lwp mix Tryz.func109 rfl (by decide) (nt := 61) rfl (rs := [.cell 4 31,.tmp 5]) rfl (nle rfl) ?_
 (repeat (first|apply zO (by decide +kernel)|apply zP (by decide +kernel)|(apply zS;(case h=>constructor<;>decide))|((first|apply l_go rfl|apply c_dec|apply zT rfl (by decide) rfl);(case hs=>(simp (disch := first|omega|exact kD rfl|exact kX rfl) only [smY,simprocAttr,bl,i64,smT,smO,smM,e0,hmn,Int.sub_zero,Int.add_zero];exact rfl));first|refine c_bt ?_|refine c_bf ?_|refine zq ?_|(case hg=>assumption))))
 refine w_loop (α := Unit) (fun _ => st 61 (lk [(0,i64 h),(1,.sl N (qc (aP a N))),(4,.ptr 0 0),(6,i64 0)]) (lkH [(0,⟨31,[i64 0,nilL],false⟩)]) 1) (fun _ => 0) () ?_ ?_
 ·(refine Sub.heap1 0 ?_ (by simp only [smF,dg,renL,renLs,simprocAttr,bl,i64,smT,smO,smM,e0,hmn,Int.sub_zero,Int.add_zero];exact rfl) ?_ ?_;all_goals (first | exact dgs_plain _ | with_reducible rfl | (simp only [smF,dg,renL,renLs,simprocAttr,bl,i64,smT,smO,smM,e0,hmn,Int.sub_zero,Int.add_zero];done) | (simp only [smF,dg,renL,renLs,simprocAttr,bl,i64,smT,smO,smM,e0,hmn,Int.sub_zero,Int.add_zero]) | skip))
  all_goals (first | exact ⟨rfl,rfl⟩ | simp)
 ·rintro ⟨⟩
  simp only [st]
  (repeat (first|apply zO (by decide +kernel)|apply zP (by decide +kernel)|(apply zS;(case h=>constructor<;>decide))|((first|apply l_go rfl|apply c_dec|apply zT rfl (by decide) rfl);(case hs=>(simp (disch := first|omega|exact kD rfl|exact kX rfl) only [smY,simprocAttr,bl,i64,smT,smO,smM,e0,hmn,Int.sub_zero,Int.add_zero];exact rfl));first|refine c_bt ?_|refine c_bf ?_|refine zq ?_|(case hg=>assumption))))
  refine w_loop (α := {i : Nat // i ≤ N}) (fun i => st 61 (lk [(0,i64 h),(4,.ptr 0 0),(7,.own 1 0 i.1 4),(46,.sl N (qc (aP a N))),(47,i64 N),(48,i64 i.1)]) (lkH [(0,⟨31,[i64 0,nilL],false⟩),(1,⟨46,mC a N i.1,false⟩)]) 2) (fun i => N - i.1) ⟨0,by omega⟩ ?_ ?_
  ·(refine Sub.heapL [0,23] rfl (by decide) ?_ (by simp only [smL];decide) ?_ ?_;all_goals (first|(simp only [plainC,smF,dg,renL,renLs,simprocAttr,bl,i64,smT,smO,smM,e0,hmn,Int.sub_zero,Int.add_zero];done) | (simp only [smF,dg,renL,renLs,simprocAttr,bl,i64,smT,smO,smM,e0,hmn,Int.sub_zero,Int.add_zero];(repeat' apply And.intro);all_goals rfl) | (simp only [smF,dg,renL,renLs,simprocAttr,bl,i64,smT,smO,smM,e0,hmn,Int.sub_zero,Int.add_zero]) | skip))
   all_goals (first | done | exact ⟨trivial,rfl⟩ | simp [mC_zero a])
  ·rintro ⟨i,hi⟩
   simp only [st]
   by_cases hlt : i < N
   ·have e1 : (aP a N).getD i 0 = a i := aP_get hlt
    have hl2 := aP_len a i
    have b1 := ba i hlt
    have g2 := qnorm_good (a i) (by omega)
    have happ := aP_succ a i
    generalize hai : a i = ai at *
    simp only [encQ_sm] at g2
    (repeat (first|apply zO (by decide +kernel)|apply zP (by decide +kernel)|(apply zS;(case h=>constructor<;>decide))|((first|apply l_go rfl|apply c_dec|apply zT rfl (by decide) rfl);(case hs=>(simp (disch := first|omega|exact kD rfl|exact kX rfl) only [smY,simprocAttr,bl,i64,smT,smO,smM,e1];exact rfl));first|refine c_bt ?_|refine c_bf ?_|refine zq ?_|(case hg=>assumption))))
    refine ⟨⟨i + 1,by omega⟩,?_,by simp only;omega⟩
    (refine Sub.heapL [0,11] rfl (by decide) ?_ (by simp only [smL];decide) ?_ ?_;all_goals (first|(simp only [plainC,smF,dg,renL,renLs,simprocAttr,bl,i64,smT,smO,smM];done) | (simp only [smF,dg,renL,renLs,simprocAttr,bl,i64,smT,smO,smM];(repeat' apply And.intro);all_goals rfl) | (simp only [smF,dg,renL,renLs,simprocAttr,bl,i64,smT,smO,smM]) | skip))
    all_goals (first | done | (rw [mC_succ hai];exact ⟨trivial,rfl⟩))
   ·obtain rfl : i = N := by omega
    (repeat (first|apply zO (by decide +kernel)|apply zP (by decide +kernel)|(apply zS;(case h=>constructor<;>decide))|((first|apply l_go rfl|apply c_dec|apply zT rfl (by decide) rfl);(case hs=>(simp (disch := first|omega|exact kD rfl|exact kX rfl) only [smY,simprocAttr,bl,i64,smT,smO,smM];exact rfl));first|refine c_bt ?_|refine c_bf ?_|refine zq ?_|(case hg=>assumption))))
    ((first|apply g_ret|apply g_end);case hres => (simp only [smR];simp (disch := first|omega|exact kD rfl|exact kX rfl) only [smY,simprocAttr,bl,i64,smT,smO,smM];exact rfl))
    simp (disch := first|omega|exact kD rfl|exact kX rfl) only [smY,simprocAttr,bl,i64,smT,smO,smM]
theorem build_good (h : Int) (a : Nat → Rat) (N : Nat) (h1 : -100 ≤ h) (hN : 1 ≤ N) (h2 : h + N ≤ 1000) (a0 : a 0 = 1) (ba : ∀ i,i < N → lq (a i) ≤ 1000) : PureGood Tryz.prog 109 [i64 h,.sl N (qc (aP a N))] (.tup [.agg [i64 h,.sl N (qc (aP a N))],i64 0]) :=
 build_gen h a N h1 hN h2 (by rw [a0];decide) ba
end Go.Proofs.YtbajpjjbaffnnaaGreat
namespace Go.Proofs.YtbajpjjbaffnnaaGreat
open Go Go.Lg Go.Num
set_option maxRecDepth 100000
set_option maxHeartbeats 8000000
attribute [local irreducible] Go.Lg.lrun Go.Lg.lwp Go.Lg.exThen Go.Lg.exBlk Go.Lg.keep Go.Lg.goodPost sg mg sS qs sv svM spM oc mC dc
theorem prod_good {c : List Int} {a : Nat → Rat} (P : ProdOk c a) (h : Int) (h1 : -100 ≤ h) (h2 : h + c.length + 1 ≤ 1000) :
  PureGood Tryz.prog 66 [i64 h,.sl c.length (qc (cQ c c.length))] (.tup [.agg [i64 h,.sl (c.length + 1) (qc (aP a (c.length + 1)))],i64 0]) := by
 obtain ⟨N,hN⟩ : ∃ N,c.length = N := ⟨_,rfl⟩
 have P1 := P.len
 have hl := cQ_len c N
 have k1 := qof_good 1 (by omega)
 rw [show ((1 : Int) : Rat) = a 0 by rw [P.a0];rfl] at k1
 have k0 := qof_good 0 (by omega)
 have kb := build_good h a (N + 1) h1 (by omega) (by omega) P.a0 (fun i hi => P.ba i (by omega))
 have z0 : spM c 0 1 = List.replicate (N + 1) none := by rw [spM_zero,hN]
 have zl := fun k m => spM_len c k m
 rw [hN] at h2 P1 ⊢
 simp only [hN] at zl
 simp only [encQ_sm,i64] at *
 refine good_of_lwp mix Tryz.func66 rfl (by decide) (nt := 109) rfl (rs := [.cell 4 31,.tmp 5]) rfl (nle rfl) ?_
 (repeat (first|apply zO (by decide +kernel)|apply zP (by decide +kernel)|(apply zS;(case h=>constructor<;>decide))|((first|apply l_go rfl|apply c_dec|apply zT rfl (by decide) rfl);(case hs=>(simp (disch := first|omega|exact kD rfl|exact kX rfl) only [smY,simprocAttr,bl,i64,smT,smO];exact rfl));first|refine c_bt ?_|refine c_bf ?_|refine zq ?_|(case hg=>assumption))))
 refine w_loop (α := {k : Nat // k ≤ N}) (fun k => st 109 (lk [(0,i64 h),(1,.sl N (qc (cQ c N))),(4,.ptr 0 0),(6,.own 1 0 (N + 1) 4),(7,i64 ((k.1 : Int) + 1))]) (lkH [(0,⟨31,[i64 0,nilL],false⟩),(1,⟨46,oc (spM c k.1 (k.1 + 1)),false⟩)]) 2) (fun k => N - k.1) ⟨0,by omega⟩ ?_ ?_
 ·(refine Sub.heapL [0,19] rfl (by decide) ?_ (by simp only [smL];decide) ?_ ?_;all_goals (first|(simp only [plainC,smF,dg,renL,renLs,simprocAttr,bl,i64,smT,smO];done) | (simp only [smF,dg,renL,renLs,simprocAttr,bl,i64,smT,smO];(repeat' apply And.intro);all_goals rfl) | (simp only [smF,dg,renL,renLs,simprocAttr,bl,i64,smT,smO]) | skip))
  all_goals (first | done | simp [z0])
 ·rintro ⟨k,hk⟩
  simp only [st]
  by_cases hkN : k < N
  ·have e1 : (cQ c N).getD k 0 = ((c.getD k 0 : Int) : Rat) := cQ_get hkN
   have c1 := P.cj k
   have c2 := P.dcb (j := k) (by omega)
   have hdc : (((k : Int) + 1 : Int) : Rat) * ((c.getD k 0 : Int) : Rat) = ((dc c k : Int) : Rat) := by
    rw [← Rat.intCast_mul]
    unfold dc
    rw [Int.natCast_add,Int.natCast_one]
   have b1 := lq_i64 (z := (k : Int) + 1) (by omega)
   have b2 := lq_i64 (z := c.getD k 0) (by omega)
   have b3 := lq_i64 (z := dc c k) (by omega)
   have r1 := qof_good ((k : Int) + 1) (by omega)
   have r2 := qmul_good (((k : Int) + 1 : Int) : Rat) ((c.getD k 0 : Int) : Rat) (by omega) (by omega)
   rw [hdc] at r2
   clear hdc
   have ssv := fun m n => P.svm (k := k) (by omega) m n
   generalize c.getD k 0 = ck at *
   generalize hx : dc c k = x at *
   simp only [encQ_sm,i64] at r1 r2
   have e0 : ((k : Int) + 1 - 1).toNat = k := by omega
   (repeat (first|apply zO (by decide +kernel)|apply zP (by decide +kernel)|(apply zS;(case h=>constructor<;>decide))|((first|apply l_go rfl|apply c_dec|apply zT rfl (by decide) rfl);(case hs=>(simp (disch := first|omega|exact kD rfl|exact kX rfl) only [smY,simprocAttr,bl,i64,smT,smO,e0,e1];exact rfl));first|refine c_bt ?_|refine c_bf ?_|refine zq ?_|(case hg=>assumption))))
   refine w_loop (α := {p : Nat × Nat // p.2 = p.1 * (k + 1) ∧ 1 ≤ p.2 ∧ p.2 ≤ N + (k + 1)}) (fun p => st 109 (lk [(0,i64 h),(1,.sl N (qc (cQ c N))),(4,.ptr 0 0),(6,.own 1 0 (N + 1) 4),(7,i64 ((k : Int) + 1)),(8,.ptr 2 0),(9,i64 p.1.2)]) (lkH [(0,⟨31,[i64 0,nilL],false⟩),(1,⟨46,oc (spM c k p.1.2),false⟩),(2,⟨46,[sg (((x : Int) : Rat)).num,mg (((x : Int) : Rat)).num,sg ((((x : Int) : Rat)).den : Int),mg ((((x : Int) : Rat)).den : Int)],false⟩)]) 3) (fun p => N + (k + 1) - p.1.2) ⟨(1,k + 1),by simp,by simp only;omega,by simp only;omega⟩ ?_ ?_
   ·(refine Sub.heapL [0,1,14] rfl (by decide) ?_ (by simp only [smL];decide) ?_ ?_;all_goals (first|(simp only [plainC,smF,dg,renL,renLs,simprocAttr,bl,i64,smT,smO];done) | (simp only [smF,dg,renL,renLs,simprocAttr,bl,i64,smT,smO];(repeat' apply And.intro);all_goals rfl) | (simp only [smF,dg,renL,renLs,simprocAttr,bl,i64,smT,smO]) | skip))
    all_goals (first | done | simp)
   ·rintro ⟨⟨t,n⟩,hn,hn1,hn2⟩
    simp only at hn hn1 hn2
    simp only [st]
    by_cases hnN : n ≤ N
    ·have hset := spM_set (c := c) (k := k) hn hn1 (by omega)
     have hoc := fun q => oc_set (l := spM c k n) (j := n) (by rw [zl];omega) q
     rw [hx] at hset
     have hz := zl k n
     by_cases hk0 : k = 0
     ·subst hk0
      have e2 := spM_none (c := c) (m := n) (by omega)
      have e3 := svM_one (c := c) (m := n) (i := n) (Nat.le_refl _)
      rw [e3,Int.zero_add] at hset
      have r3 := qadd_none ((x : Int) : Rat) (by omega)
      rw [sg0,mg0] at r3
      simp only [encQ_sm] at r3
      (repeat (first|apply zO (by decide +kernel)|apply zP (by decide +kernel)|(apply zS;(case h=>constructor<;>decide))|((first|apply l_go rfl|apply c_dec|apply zT rfl (by decide) rfl);(case hs=>(simp (disch := first|omega|exact kD rfl|exact kX rfl) only [smY,simprocAttr,bl,i64,smT,smO,e2];exact rfl));first|refine c_bt ?_|refine c_bf ?_|refine zq ?_|(case hg=>assumption))))
      refine ⟨⟨(t + 1,n + (0 + 1)),by simp only;rw [Nat.add_mul,Nat.one_mul,hn],by simp only;omega,by simp only;omega⟩,?_,by simp only;omega⟩
      (refine Sub.heapL [0,1,2] rfl (by decide) ?_ (by simp only [smL];decide) ?_ ?_;all_goals (first|(simp only [plainC,smF,dg,renL,renLs,simprocAttr,bl,i64,smT,smO];done) | (simp only [smF,dg,renL,renLs,simprocAttr,bl,i64,smT,smO];(repeat' apply And.intro);all_goals rfl) | (simp only [smF,dg,renL,renLs,simprocAttr,bl,i64,smT,smO]) | skip))
      all_goals (first | done | (rw [← hset,← hoc];simp) | simp)
     ·have e2 := spM_some (c := c) (k := k) (m := n) hk0 hn1 (by omega)
      have s1 := ssv n n
      generalize svM (fun j => j + 1) (dc c) k n n = S at *
      have b4 := lq_i64 (z := S) (by omega)
      have r3 := qadd_good ((S : Int) : Rat) ((x : Int) : Rat) (by omega) (by omega)
      rw [← Rat.intCast_add] at r3
      generalize ((S + x : Int) : Rat) = y at *
      simp only [encQ_sm] at r3
      (repeat (first|apply zO (by decide +kernel)|apply zP (by decide +kernel)|(apply zS;(case h=>constructor<;>decide))|((first|apply l_go rfl|apply c_dec|apply zT rfl (by decide) rfl);(case hs=>(simp (disch := first|omega|exact kD rfl|exact kX rfl) only [smY,simprocAttr,bl,i64,smT,smO,e2];exact rfl));first|refine c_bt ?_|refine c_bf ?_|refine zq ?_|(case hg=>assumption))))
      refine ⟨⟨(t + 1,n + (k + 1)),by simp only;rw [Nat.add_mul,Nat.one_mul,hn],by simp only;omega,by simp only;omega⟩,?_,by simp only;omega⟩
      (refine Sub.heapL [0,1,2] rfl (by decide) ?_ (by simp only [smL];decide) ?_ ?_;all_goals (first|(simp only [plainC,smF,dg,renL,renLs,simprocAttr,bl,i64,smT,smO];done) | (simp only [smF,dg,renL,renLs,simprocAttr,bl,i64,smT,smO];(repeat' apply And.intro);all_goals rfl) | (simp only [smF,dg,renL,renLs,simprocAttr,bl,i64,smT,smO]) | skip))
      all_goals (first | done | (rw [← hset,← hoc];simp) | simp)
    ·have hnx := spM_next (c := c) (k := k) (m := n) (by omega)
     (repeat (first|apply zO (by decide +kernel)|apply zP (by decide +kernel)|(apply zS;(case h=>constructor<;>decide))|((first|apply l_go rfl|apply c_dec|apply zT rfl (by decide) rfl);(case hs=>(simp (disch := first|omega|exact kD rfl|exact kX rfl) only [smY,simprocAttr,bl,i64,smT,smO];exact rfl));first|refine c_bt ?_|refine c_bf ?_|refine zq ?_|(case hg=>assumption))))
     refine ⟨⟨k + 1,by omega⟩,?_,by simp only;omega⟩
     (refine Sub.heapL [0,1] rfl (by decide) ?_ (by simp only [smL];decide) ?_ ?_;all_goals (first|(simp only [plainC,smF,dg,renL,renLs,simprocAttr,bl,i64,smT,smO];done) | (simp only [smF,dg,renL,renLs,simprocAttr,bl,i64,smT,smO];(repeat' apply And.intro);all_goals rfl) | (simp only [smF,dg,renL,renLs,simprocAttr,bl,i64,smT,smO]) | skip))
     all_goals (first | done | simp [hnx])
  ·obtain rfl : k = N := by omega
   have hz := zl k (k + 1)
   (repeat (first|apply zO (by decide +kernel)|apply zP (by decide +kernel)|(apply zS;(case h=>constructor<;>decide))|((first|apply l_go rfl|apply c_dec|apply zT rfl (by decide) rfl);(case hs=>(simp (disch := first|omega|exact kD rfl|exact kX rfl) only [smY,simprocAttr,bl,i64,smT,smO];exact rfl));first|refine c_bt ?_|refine c_bf ?_|refine zq ?_|(case hg=>assumption))))
   refine w_loop (α := {m : Nat // 1 ≤ m ∧ m ≤ k + 1}) (fun m => st 109 (lk [(0,i64 h),(1,.sl k (qc (cQ c k))),(4,.ptr 0 0),(6,.own 1 0 (k + 1) 4),(10,.own 2 0 m.1 4),(11,i64 m.1)]) (lkH [(0,⟨31,[i64 0,nilL],false⟩),(1,⟨46,oc (spM c k (k + 1)),false⟩),(2,⟨46,qc (aP a m.1),false⟩)]) 3) (fun m => k + 1 - m.1) ⟨1,by omega,by omega⟩ ?_ ?_
   ·(refine Sub.heapL [0,1,7] rfl (by decide) ?_ (by simp only [smL];decide) ?_ ?_;all_goals (first|(simp only [plainC,smF,dg,renL,renLs,simprocAttr,bl,i64,smT,smO];done) | (simp only [smF,dg,renL,renLs,simprocAttr,bl,i64,smT,smO];(repeat' apply And.intro);all_goals rfl) | (simp only [smF,dg,renL,renLs,simprocAttr,bl,i64,smT,smO]) | skip))
    rw [show aP a 1 = [a 0] from rfl,← qc_one]
    exact ⟨trivial,trivial,rfl⟩
   ·rintro ⟨m,hm1,hm2⟩
    simp only [st]
    have hla := aP_len a m
    by_cases hmN : m ≤ k
    ·have r0 : PureGood Tryz.prog 65 [i64 0] (encQ (-(qs (sS c) a m 0))) := by
      rw [qs_zero]
      have := qof_good 0 (by omega)
      exact this
     simp only [encQ_sm,i64] at r0
     clear k0
     (repeat (first|apply zO (by decide +kernel)|apply zP (by decide +kernel)|(apply zS;(case h=>constructor<;>decide))|((first|apply l_go rfl|apply c_dec|apply zT rfl (by decide) rfl);(case hs=>(simp (disch := first|omega|exact kD rfl|exact kX rfl) only [smY,simprocAttr,bl,i64,smT,smO];exact rfl));first|refine c_bt ?_|refine c_bf ?_|refine zq ?_|(case hg=>assumption))))
     refine w_loop (α := {i : Nat // i ≤ m}) (fun i => st 109 (lk [(0,i64 h),(1,.sl k (qc (cQ c k))),(4,.ptr 0 0),(6,.own 1 0 (k + 1) 4),(10,.own 2 0 m 4),(11,i64 m),(12,.ptr 3 0),(13,i64 ((i.1 : Int) + 1))]) (lkH [(0,⟨31,[i64 0,nilL],false⟩),(1,⟨46,oc (spM c k (k + 1)),false⟩),(2,⟨46,qc (aP a m),false⟩),(3,⟨46,[sg (-(qs (sS c) a m i.1)).num,mg (-(qs (sS c) a m i.1)).num,sg ((-(qs (sS c) a m i.1)).den : Int),mg ((-(qs (sS c) a m i.1)).den : Int)],false⟩)]) 4) (fun i => m - i.1) ⟨0,by omega⟩ ?_ ?_
     ·(refine Sub.heapL [0,1,2,8] rfl (by decide) ?_ (by simp only [smL];decide) ?_ ?_;all_goals (first|(simp only [plainC,smF,dg,renL,renLs,simprocAttr,bl,i64,smT,smO];done) | (simp only [smF,dg,renL,renLs,simprocAttr,bl,i64,smT,smO];(repeat' apply And.intro);all_goals rfl) | (simp only [smF,dg,renL,renLs,simprocAttr,bl,i64,smT,smO]) | skip))
      all_goals (first | done | simp)
     ·rintro ⟨i,hi⟩
      simp only [st]
      by_cases him : i < m
      ·have e2 := sp_last (c := c) (i := i + 1) (by omega) (by omega)
       rw [hN] at e2
       have e3 : ((m : Int) - ((i : Int) + 1)).toNat = m - 1 - i := by omega
       have e4 : (aP a m).getD (m - 1 - i) 0 = a (m - 1 - i) := aP_get (by omega)
       have b1 := P.bq m i hm1 (by omega) (by omega)
       have b2 := P.ba (m - 1 - i) (by omega)
       have b3 := P.svb (k := c.length) (Nat.le_refl _) (i + 1)
       have b4 := lq_i64 (z := sS c (i + 1)) (by unfold sS;omega)
       have b5 := lq_mul ((sS c (i + 1) : Int) : Rat) (a (m - 1 - i))
       have r2 := qmul_good ((sS c (i + 1) : Int) : Rat) (a (m - 1 - i)) (by omega) (by omega)
       have r3 := qsub_good (-(qs (sS c) a m i)) (((sS c (i + 1) : Int) : Rat) * a (m - 1 - i)) (by rw [lq_neg];omega) (by omega)
       rw [qs_step] at r3
       generalize ((sS c (i + 1) : Int) : Rat) * a (m - 1 - i) = y at *
       generalize a (m - 1 - i) = ai at *
       generalize ((sS c (i + 1) : Int) : Rat) = si at *
       simp only [encQ_sm] at r2 r3
       (repeat (first|apply zO (by decide +kernel)|apply zP (by decide +kernel)|(apply zS;(case h=>constructor<;>decide))|((first|apply l_go rfl|apply c_dec|apply zT rfl (by decide) rfl);(case hs=>(simp (disch := first|omega|exact kD rfl|exact kX rfl) only [smY,simprocAttr,bl,i64,smT,smO,e2,e3,e4];exact rfl));first|refine c_bt ?_|refine c_bf ?_|refine zq ?_|(case hg=>assumption))))
       refine ⟨⟨i + 1,by omega⟩,?_,by simp only;omega⟩
       (refine Sub.heapL [0,1,2,3] rfl (by decide) ?_ (by simp only [smL];decide) ?_ ?_;all_goals (first|(simp only [plainC,smF,dg,renL,renLs,simprocAttr,bl,i64,smT,smO];done) | (simp only [smF,dg,renL,renLs,simprocAttr,bl,i64,smT,smO];(repeat' apply And.intro);all_goals rfl) | (simp only [smF,dg,renL,renLs,simprocAttr,bl,i64,smT,smO]) | skip))
       all_goals (first | done | simp)
      ·obtain rfl : i = m := by omega
       have r1 := qof_good (i : Int) (by omega)
       have b1 := P.bq i i hm1 (by omega) (by omega)
       have b3 := lq_i64 (z := (i : Int)) (by omega)
       have r2 := quo_good (-(qs (sS c) a i i)) ((i : Int) : Rat) (by
        intro e
        have := Rat.intCast_inj.1 (e.trans Rat.intCast_zero.symm)
        omega) (by rw [lq_neg];omega) (by omega)
       rw [← P.step i hm1 (by omega)] at r2
       have happ := aP_succ a i
       generalize a i = ai at *
       simp only [encQ_sm,i64] at r1 r2
       (repeat (first|apply zO (by decide +kernel)|apply zP (by decide +kernel)|(apply zS;(case h=>constructor<;>decide))|((first|apply l_go rfl|apply c_dec|apply zT rfl (by decide) rfl);(case hs=>(simp (disch := first|omega|exact kD rfl|exact kX rfl) only [smY,simprocAttr,bl,i64,smT,smO];exact rfl));first|refine c_bt ?_|refine c_bf ?_|refine zq ?_|(case hg=>assumption))))
       refine ⟨⟨i + 1,by omega,by omega⟩,?_,by simp only;omega⟩
       (refine Sub.heapL [0,1,20] rfl (by decide) ?_ (by simp only [smL];decide) ?_ ?_;all_goals (first|(simp only [plainC,smF,dg,renL,renLs,simprocAttr,bl,i64,smT,smO];done) | (simp only [smF,dg,renL,renLs,simprocAttr,bl,i64,smT,smO];(repeat' apply And.intro);all_goals rfl) | (simp only [smF,dg,renL,renLs,simprocAttr,bl,i64,smT,smO]) | skip))
       rw [happ,← qc_app]
       exact ⟨trivial,trivial,rfl⟩
    ·obtain rfl : m = k + 1 := by omega
     (repeat (first|apply zO (by decide +kernel)|apply zP (by decide +kernel)|(apply zS;(case h=>constructor<;>decide))|((first|apply l_go rfl|apply c_dec|apply zT rfl (by decide) rfl);(case hs=>(simp (disch := first|omega|exact kD rfl|exact kX rfl) only [smY,simprocAttr,bl,i64,smT,smO];exact rfl));first|refine c_bt ?_|refine c_bf ?_|refine zq ?_|(case hg=>assumption))))
     ((first|apply g_ret|apply g_end);case hres => (simp only [smR];simp (disch := first|omega|exact kD rfl|exact kX rfl) only [smY,simprocAttr,bl,i64,smT,smO];exact rfl))
     simp (disch := first|omega|exact kD rfl|exact kX rfl) only [smY,simprocAttr,bl,i64,smT,smO]
end Go.Proofs.YtbajpjjbaffnnaaGreat