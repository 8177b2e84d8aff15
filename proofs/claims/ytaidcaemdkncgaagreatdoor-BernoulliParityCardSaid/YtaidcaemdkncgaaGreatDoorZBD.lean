/- Contracts of functions of the program, and what proves them (texts: BC5 BC6 BC7 BC8). -/
import Derived.Test.YtaidcaemdkncgaaGreatDoorZAX
import Derived.Test.YtaidcaemdkncgaaGreatDoorZAZ
import Derived.Test.YtaidcaemdkncgaaGreatDoorZBB
set_option linter.all false
set_option maxRecDepth 100000
set_option maxHeartbeats 8000000
namespace Go.Proofs.YtaidcaemdkncgaaGreatDoor
open Go Go.Lg Go.Num
attribute [local irreducible] Go.Lg.lrun Go.Lg.lwp Go.Lg.exThen Go.Lg.exBlk Go.Lg.keep Go.Lg.goodPost sg mg oc op ec plP plR pwC smd trm
structure ChD (n : Nat) (v : List Int) (o f : Nat) (w : List Int) (ix : Nat → Option Nat) : Prop where
 o1 : 1 ≤ o
 o2 : o ≤ 60
 f1 : 1 ≤ f
 f2 : f ≤ 60
 ord : PureGood Tryz.prog 56 [.agg [i64 n,.sl v.length (ec v)]] (.tup [i64 o,i64 0])
 prim : PureGood Tryz.prog 57 [.agg [i64 n,.sl v.length (ec v)]] (.tup [.agg [i64 f,.sl w.length (ec w)],i64 0])
 no : ∀ j,j < f → ix j = none → ∃ a d : Int,PureGood Tryz.prog 44 [.agg [i64 f,.sl w.length (ec w)],i64 ((j : Int) + 1)] (.tup [.agg [bl true,i64 a,i64 d],i64 0])
 yes : ∀ j i,j < f → ix j = some i → i < o ∧ ∃ a d : Nat,1 ≤ d ∧ d ≤ 60 ∧ a ≤ 60 ∧ a * (o / d) = i ∧ PureGood Tryz.prog 44 [.agg [i64 f,.sl w.length (ec w)],i64 ((j : Int) + 1)] (.tup [.agg [bl false,i64 a,i64 d],i64 0])
theorem bchar_good {n : Nat} {v : List Int} {o f : Nat} {w : List Int} {ix : Nat → Option Nat} (h : ChD n v o f w ix) (hlw : w.length ≤ 10) (F : LV) (hF : PureGood Tryz.prog 48 [i64 o] (.tup [.agg [F], i64 0])) (hFp : ∃ m cs, F = .sl m cs) {k : Nat} (k1 : 1 ≤ k) (k2 : k ≤ 40)
  {R : List Rat} (hN : PureGood Tryz.prog 60 [.agg [F],.sl o (op (plP ix k f o f))] (.tup [encF R,i64 0])) : PureGood Tryz.prog 17 [i64 k,.agg [i64 n,.sl v.length (ec v)]] (.tup [encF R,i64 o,i64 0]) := by
 obtain ⟨o1,o2,f1,f2,go,gp,hno,hyes⟩ := h
 obtain ⟨m,cs,rfl⟩ := hFp
 have gs := summands_good k f k1 k2 f1 f2
 rw [encF_qc,smd_length] at gs
 have hls := smd_length k f f
 have hpl := fun j => plP_len ix k f o j
 have hz := plP_zero ix k f o
 rw [encF_qc] at hN ⊢
 simp only [i64] at go gp gs hF hN ⊢
 refine good_of_lwp mix Tryz.func17 rfl (by decide) (nt := 91) rfl (rs := [.tmp 4,.tmp 5,.tmp 6]) rfl (nle rfl) ?_
 (repeat (first|refine zW ?_|((first|apply l_go rfl|apply c_dec|apply zT rfl (by decide) rfl);(case hs=>(simp (disch := first|omega|exact kD rfl|exact kX rfl) only [smY,simprocAttr,bl,i64,smT,smO,smE];exact rfl));first|refine c_bt ?_|refine c_bf ?_|refine zq ?_|(case hg=>assumption))))
 refine w_loop (α := {j : Nat // j ≤ f}) (fun j => st 91 (lk [(3,.ptr 0 0),(7,i64 o),(9,.ptr 1 0),(10,.own 2 0 o 4),(49,.sl f (qc (smd k f f))),(50,i64 f),(51,i64 j.1)]) (lkH [(0,⟨25,[i64 f,.sl w.length (ec w)],false⟩),(1,⟨101,[.sl m cs],false⟩),(2,⟨47,oc (plP ix k f o j.1),false⟩)]) 3) (fun j => f - j.1) ⟨0,by omega⟩ ?_ ?_
 ·simp only [hz]
  (refine Sub.heapL [0,24,36] rfl (by decide) ?_ (by simp only [smL];decide) ?_ ?_;all_goals (first|(simp only [plainC,smF,dg,renL,renLs,simprocAttr,bl,i64,smT,smO,smE];done) | (simp only [smF,dg,renL,renLs,simprocAttr,bl,i64,smT,smO,smE];(repeat' apply And.intro);all_goals rfl) | (simp only [smF,dg,renL,renLs,simprocAttr,bl,i64,smT,smO,smE]) | skip))
  all_goals (first | done | ((repeat' apply And.intro);all_goals (first | trivial | rfl | (rw [← oc_zeros]))) | trace_state)
 ·rintro ⟨j,hj⟩
  simp only [st]
  have hpj := hpl j
  by_cases hlt : j < f
  ·have e1 : (smd k f f).getD j 0 = trm k f j := smd_getD hlt
   have lt := lq_trm (k := k) (f := f) (j := j) k2 f1 f2 hlt
   cases hix : ix j with
   | none =>
     obtain ⟨a,d,gv⟩ := hno j hlt hix
     have es := plP_miss (k := k) (f := f) (o := o) hix
     generalize trm k f j = T at *
     simp only [i64,bl] at gv
     (repeat (first|refine zW ?_|((first|apply l_go rfl|apply c_dec|apply zT rfl (by decide) rfl);(case hs=>(simp (disch := first|omega|exact kD rfl|exact kX rfl) only [smY,simprocAttr,bl,i64,smT,smO,smE,e1];exact rfl));first|refine c_bt ?_|refine c_bf ?_|refine zq ?_|(case hg=>assumption))))
     refine ⟨⟨j + 1,by omega⟩,?_,by simp only;omega⟩
     simp only
     rw [es]
     (refine Sub.heapL [0,1,2] rfl (by decide) ?_ (by simp only [smL];decide) ?_ ?_;all_goals (first|(simp only [plainC,smF,dg,renL,renLs,simprocAttr,bl,i64,smT,smO,smE];done) | (simp only [smF,dg,renL,renLs,simprocAttr,bl,i64,smT,smO,smE];(repeat' apply And.intro);all_goals rfl) | (simp only [smF,dg,renL,renLs,simprocAttr,bl,i64,smT,smO,smE]) | skip))
     all_goals (first | done | trace_state)
   | some i =>
     obtain ⟨hio,a,d,d1,d2,a2,hi,gv⟩ := hyes j i hlt hix
     have es := plP_hit (k := k) (f := f) hix hio
     have eg := plP_get (ix := ix) (k := k) (f := f) (j := j) hio
     have lp := lq_pwC (ix := ix) (i := i) (j := j) k2 f1 f2 (by omega)
     have q1 : ((o : Int)).tdiv (d : Int) = ((o / d : Nat) : Int) := by rw [Int.tdiv_eq_ediv_of_nonneg (by omega)];rfl
     have q2 : (a : Int) * ((o / d : Nat) : Int) = (i : Int) := by rw [← hi];simp
     have b1 : o / d ≤ o := Nat.div_le_self _ _
     have hset := oc_set (l := plP ix k f o j) (j := i) (by omega) (pwC ix k f j i + trm k f j)
     rw [es] at hset
     have hd0 : ¬ (d : Int) = 0 := by omega
     cases ht : tcC ix j i with
     | true =>
       rw [ht,if_pos rfl] at eg
       have ga := qadd_good (pwC ix k f j i) (trm k f j) (by omega) (by omega)
       generalize pwC ix k f j i + trm k f j = S at *
       generalize pwC ix k f j i = P at *
       generalize trm k f j = T at *
       generalize hyd : o / d = y at *
       simp only [encQ_sm,i64,bl] at ga gv
       (repeat (first|refine zW ?_|((first|apply l_go rfl|apply c_dec|apply zT rfl (by decide) rfl);(case hs=>(simp (disch := first|omega|exact kD rfl|exact kX rfl) only [smY,simprocAttr,bl,i64,smT,smO,smE,e1,q1,q2,eg,hset,hyd];exact rfl));first|refine c_bt ?_|refine c_bf ?_|refine zq ?_|(case hg=>assumption))))
       refine ⟨⟨j + 1,by omega⟩,?_,by simp only;omega⟩
       (refine Sub.heapL [0,1,2] rfl (by decide) ?_ (by simp only [smL];decide) ?_ ?_;all_goals (first|(simp only [plainC,smF,dg,renL,renLs,simprocAttr,bl,i64,smT,smO,smE];done) | (simp only [smF,dg,renL,renLs,simprocAttr,bl,i64,smT,smO,smE];(repeat' apply And.intro);all_goals rfl) | (simp only [smF,dg,renL,renLs,simprocAttr,bl,i64,smT,smO,smE]) | skip))
       all_goals (first | done | trace_state)
     | false =>
       rw [ht,if_neg (by simp)] at eg
       have ga := qadd_none (trm k f j) (by omega)
       rw [z4p] at ga
       rw [pwC_none ht,Rat.zero_add] at hset
       generalize trm k f j = T at *
       generalize hyd : o / d = y at *
       simp only [encQ_sm,i64,bl] at ga gv
       (repeat (first|refine zW ?_|((first|apply l_go rfl|apply c_dec|apply zT rfl (by decide) rfl);(case hs=>(simp (disch := first|omega|exact kD rfl|exact kX rfl) only [smY,simprocAttr,bl,i64,smT,smO,smE,e1,q1,q2,eg,hset,hyd];exact rfl));first|refine c_bt ?_|refine c_bf ?_|refine zq ?_|(case hg=>assumption))))
       refine ⟨⟨j + 1,by omega⟩,?_,by simp only;omega⟩
       (refine Sub.heapL [0,1,2] rfl (by decide) ?_ (by simp only [smL];decide) ?_ ?_;all_goals (first|(simp only [plainC,smF,dg,renL,renLs,simprocAttr,bl,i64,smT,smO,smE];done) | (simp only [smF,dg,renL,renLs,simprocAttr,bl,i64,smT,smO,smE];(repeat' apply And.intro);all_goals rfl) | (simp only [smF,dg,renL,renLs,simprocAttr,bl,i64,smT,smO,smE]) | skip))
       all_goals (first | done | trace_state)
  ·obtain rfl : j = f := by omega
   (repeat (first|refine zW ?_|((first|apply l_go rfl|apply c_dec|apply zT rfl (by decide) rfl);(case hs=>(simp (disch := first|omega|exact kD rfl|exact kX rfl) only [smY,simprocAttr,bl,i64,smT,smO,smE,pvs_oc2,@oc_take2];exact rfl));first|refine c_bt ?_|refine c_bf ?_|refine zq ?_|(case hg=>assumption))))
   ((first|apply g_ret|apply g_end);case hres => (simp only [smR];simp (disch := first|omega|exact kD rfl|exact kX rfl) only [smY,simprocAttr,bl,i64,smT,smO,smE,pvs_oc2,@oc_take2];exact rfl))
   simp (disch := first|omega|exact kD rfl|exact kX rfl) only [smY,simprocAttr,bl,i64,smT,smO,smE,pvs_oc2,@oc_take2]
end Go.Proofs.YtaidcaemdkncgaaGreatDoor
namespace Go.Proofs.YtaidcaemdkncgaaGreatDoor
open Go Go.Lg Go.Num
theorem oc_somes2 (Q : List Rat) : oc (Q.map some) = qc Q := oc_some Q
theorem subQ_cons (c b : Rat) (g r : List Rat) (i : Nat) : subQ c (b :: g) r i = subQ c g (r.set i (r.getD i 0 - c * b)) (i + 1) := rfl
theorem subQ_nil (c : Rat) (r : List Rat) (i : Nat) : subQ c [] r i = r := rfl
theorem divR_succ (g : List Rat) (k : Nat) (r : List Rat) : divR g (k + 1) r = divR g k (subQ (r.getD (k + g.length - 1) 0) g r k) := rfl
theorem divR_zero (g r : List Rat) : divR g 0 r = r := rfl
theorem div_one (q : Rat) : q / 1 = q := by
 rw [Rat.div_def,show (1 : Rat)⁻¹ = 1 by decide +kernel,Rat.mul_one]
theorem frm_lq {D : Int} {L M : Nat} {q : Rat} (h : frm D L q) (hD : D ≠ 0) (hK : len D ≤ 60) (hL : L + 60 ≤ M) : lq q ≤ M := by
 have := h.lq hD hK
 omega
def divQ (g : List Rat) : Nat → List (Option Rat) → List Rat → List (Option Rat)
 | 0,q,_ => q
 | k + 1,q,r => divQ g k (q.set k (some (r.getD (k + g.length - 1) 0))) (subQ (r.getD (k + g.length - 1) 0) g r k)
theorem divQ_zero (g : List Rat) (q : List (Option Rat)) (r : List Rat) : divQ g 0 q r = q := rfl
theorem divQ_succ (g : List Rat) (k : Nat) (q : List (Option Rat)) (r : List Rat) : divQ g (k + 1) q r = divQ g k (q.set k (some (r.getD (k + g.length - 1) 0))) (subQ (r.getD (k + g.length - 1) 0) g r k) := rfl
theorem divQ_ok {D : Int} {g : List Rat} (hD : D ≠ 0) (hK : len D ≤ 60) (hg : ∀ b ∈ g, one1 b) : ∀ (k L : Nat) (q : List (Option Rat)) (r : List Rat), L + k ≤ 4000 → (∀ j, frm D L (r.getD j 0)) → (∀ j, k ≤ j → j < q.length → ∃ x, q.getD j none = some x ∧ lq x ≤ 5000) →
  (divQ g k q r).length = q.length ∧ ∀ j,j < q.length → ∃ x,(divQ g k q r).getD j none = some x ∧ lq x ≤ 5000
 | 0,L,q,r,_,_,hq => ⟨rfl,fun j hj => hq j (Nat.zero_le _) hj⟩
 | k + 1,L,q,r,hL,hr,hq => by
   have hc := hr (k + g.length - 1)
   have hs := subQ_frm hc g r k hg (fun j _ => (hr j).mono (by omega)) (fun j _ => hr j)
   obtain ⟨h1,h2⟩ := divQ_ok hD hK hg k (L + 1) (q.set k (some (r.getD (k + g.length - 1) 0))) (subQ (r.getD (k + g.length - 1) 0) g r k) (by omega) hs (fun j j1 j2 => by
     rw [List.length_set] at j2
     by_cases e : k = j
     · subst e
       exact ⟨_,by simp [List.getD,j2],frm_lq hc hD hK (by omega)⟩
     · have : (q.set k (some (r.getD (k + g.length - 1) 0))).getD j none = q.getD j none := by simp [List.getD,List.getElem?_set,e]
       rw [this]
       exact hq j (by omega) j2)
   rw [List.length_set] at h1 h2
   exact ⟨h1,h2⟩
attribute [local irreducible] Go.Lg.lrun Go.Lg.lwp Go.Lg.exThen Go.Lg.exBlk Go.Lg.keep Go.Lg.goodPost sg mg oc subQ divR divQ frm
theorem rdivide_gen (X : LV) (hX : ∃ n cs, X = .sl n cs) (t : List Rat) (gnN : NewGood Tryz.prog 72 [X] t.length 4 47 (qc t)) (lt : lastQ t) (g : List Rat) {Dn : Int} {L : Nat} (hD : Dn ≠ 0) (hK : len Dn ≤ 60) (hL : L ≤ 3000) (htl : t.length ≤ 500) (ht : ∀ j, frm Dn L (t.getD j 0)) (hg : ∀ b ∈ g, one1 b) (hg1 : 1 ≤ g.length) (hg2 : g.length ≤ 500) (hm : g.getD (g.length - 1) 0 = 1) :
  ∃ Q : List Rat,PureGood Tryz.prog 70 [X,encF g] (.tup [encF Q,encF (remQ g t)]) := by
 obtain ⟨nX,cX,rfl⟩ := hX
 have lg : lastQ g := fun _ => by rw [hm];decide
 have hsg : ∀ j,j < g.length → lq (g.getD j 0) ≤ 5000 := fun j hj => by
  have h1 : g.getD j 0 ∈ g := by rw [show g.getD j 0 = g[j] by simp [List.getD,hj]];exact List.getElem_mem hj
  rcases hg _ h1 with h | h | h
  all_goals rw [h];decide +kernel
 have gng := rpnorm_good g (by omega) (fun j hj => by have := hsg j hj;omega)
 rw [trimQ_last lg] at gng
 by_cases hs : t.length < g.length
 ·refine ⟨[],?_⟩
  rw [remQ_short hs,trimQ_last lt]
  have e0 : encF [] = .sl 0 [] := by rw [encF_qc];rfl
  rw [e0]
  simp only [encF_qc,i64] at *
  refine good_of_lwp mix Tryz.func70 rfl (by decide) (nt := 85) rfl (rs := [.tmp 4,.tmp 5]) rfl (nle rfl) ?_
  (repeat(first|refine zW ?_|refine zG6 ?_|refine zD6 ?_|refine zT6 ?_))
  refine l_ncall (by simp only [List.size_toArray,List.length_cons,List.length_nil,Nat.reduceAdd,Nat.max_def,Nat.reduceLeDiff,↓reduceIte];exact rfl) rfl rfl rfl (by decide) rfl (by simp (disch := first|omega|exact kD rfl|exact kX rfl) only [smY,simprocAttr,bl,i64,smT,smO];try exact rfl) gnN (by simp [plainC]) (by simp [upd]) ?_
  (repeat(first|refine zW ?_|refine zG6 ?_|refine zD6 ?_|refine zT6 ?_))
  exact zQ6
 ·obtain ⟨D,hDl⟩ : ∃ D,D = t.length + 1 - g.length := ⟨_,rfl⟩
  have gR := rpnorm_good (divR g D t) (by rw [divR_len];omega) (fun j _ => frm_lq (divR_frm hg D L t ht j) hD hK (by omega))
  have hRl := divR_len g D t
  have e1 : remQ g t = trimQ (divR g D t) := by rw [hDl];rfl
  rw [e1]
  have hDz : ((t.length : Int) - (g.length : Int) + 1).toNat = D := by omega
  obtain ⟨qa,qb⟩ := divQ_ok hD hK hg D L (List.replicate D none) t (by omega) ht (fun j h1 h2 => by rw [List.length_replicate] at h2;omega)
  rw [List.length_replicate] at qa qb
  obtain ⟨Q,hQe,hQl⟩ := opt_somes (q := divQ g D (List.replicate D none) t) (fun j hj => by
   obtain ⟨x,h1,_⟩ := qb j (by omega)
   rw [h1]
   exact fun e => nomatch e)
  rw [qa] at hQl
  have hQs : ∀ j,j < Q.length → lq (Q.getD j 0) ≤ 100000 := fun j hj => by
   obtain ⟨x,h1,h2⟩ := qb j (by omega)
   rw [hQe] at h1
   have : Q.getD j 0 = x := by simpa [List.getD,hj] using h1
   rw [this]
   omega
  have gQ := rpnorm_good Q (by omega) hQs
  refine ⟨trimQ Q,?_⟩
  generalize trimQ Q = tQ at *
  generalize hR : divR g D t = R at *
  generalize trimQ R = tR at *
  have hRl' : R.length = t.length := hRl
  simp only [encF_qc,i64] at *
  rw [hQl] at gQ
  rw [hRl'] at gR
  refine good_of_lwp mix Tryz.func70 rfl (by decide) (nt := 85) rfl (rs := [.tmp 4,.tmp 5]) rfl (nle rfl) ?_
  (repeat(first|refine zW ?_|refine zG6 ?_|refine zD6 ?_|refine zT6 ?_))
  refine l_ncall (by simp only [List.size_toArray,List.length_cons,List.length_nil,Nat.reduceAdd,Nat.max_def,Nat.reduceLeDiff,↓reduceIte];exact rfl) rfl rfl rfl (by decide) rfl (by simp (disch := first|omega|exact kD rfl|exact kX rfl) only [smY,simprocAttr,bl,i64,smT,smO];try exact rfl) gnN (by simp [plainC]) (by simp [upd]) ?_
  (repeat (first|refine zW ?_|((first|apply l_go rfl|apply c_dec|apply zT rfl (by decide) rfl);(case hs=>(simp (disch := first|omega|exact kD rfl|exact kX rfl) only [smY,simprocAttr,bl,i64,smT,smO,hDz];exact rfl));first|refine c_bt ?_|refine c_bf ?_|refine zq ?_|(case hg=>assumption))))
  refine w_loop (α := {x : Nat × List (Option Rat) × List Rat // x.1 ≤ D ∧ x.2.1.length = D ∧ x.2.2.length = t.length ∧ (∀ j,frm Dn (L + (D - x.1)) (x.2.2.getD j 0)) ∧ divR g x.1 x.2.2 = R ∧ divQ g x.1 x.2.1 x.2.2 = Q.map some}) (fun x => st 85 (lk [(6,.own 0 0 t.length 4),(7,.sl g.length (qc g)),(8,.own 1 0 D 4),(9,i64 ((x.1.1 : Int) - 1))]) (lkH [(0,⟨47,qc x.1.2.2,false⟩),(1,⟨47,oc x.1.2.1,false⟩)]) 2) (fun x => x.1.1) ⟨(D,List.replicate D none,t),Nat.le_refl _,by simp,rfl,by simpa using ht,hR,hQe⟩ ?_ ?_
  ·(refine Sub.heapL [8,20] rfl (by decide) ?_ (by simp only [smL];decide) ?_ ?_;all_goals (first|(simp only [plainC,smF,dg,renL,renLs,simprocAttr,bl,i64,smT,smO,hDz];done) | (simp only [smF,dg,renL,renLs,simprocAttr,bl,i64,smT,smO,hDz];(repeat' apply And.intro);all_goals rfl) | (simp only [smF,dg,renL,renLs,simprocAttr,bl,i64,smT,smO,hDz]) | skip))
   all_goals (first | done | ((repeat' apply And.intro);all_goals (first | trivial | rfl | (simp only [LV.lit.injEq,Value.int.injEq,true_and];omega))) | trace_state)
  ·rintro ⟨⟨k,q,r⟩,hk,hq,hr,hfr,hdr,hdq⟩
   simp only at hk hq hr hfr hdr hdq
   simp only [st]
   by_cases hk0 : k = 0
   ·subst hk0
    rw [divR_zero] at hdr
    rw [divQ_zero] at hdq
    subst hdr hdq
    rw [oc_somes2]
    (repeat(first|refine zW ?_|refine zG6 ?_|refine zD6 ?_|refine zT6 ?_))
    exact zQ6
   ·obtain ⟨k,rfl⟩ : ∃ j,k = j + 1 := ⟨k - 1,by omega⟩
    rw [divR_succ] at hdr
    rw [divQ_succ] at hdq
    have la := frm_lq (hfr (k + g.length - 1)) hD hK (M := 5000) (by omega)
    have gq := rratio_good (r.getD (k + g.length - 1) 0) (g.getD (g.length - 1) 0) (by omega) (by rw [hm];decide +kernel)
    rw [hm,div_one] at gq
    have hca := hfr (k + g.length - 1)
    obtain ⟨M,hM⟩ : ∃ M,M = L + (D - (k + 1)) := ⟨_,rfl⟩
    have hM1 : L + (D - k) = M + 1 := by omega
    rw [← hM] at hfr hca
    have hset := oc_set (l := q) (j := k) (by omega) (r.getD (k + g.length - 1) 0)
    have hql : (q.set k (some (r.getD (k + g.length - 1) 0))).length = D := by simp [hq]
    have hk1 : ((k + 1 : Nat) : Int) - 1 = k := by omega
    generalize hc : r.getD (k + g.length - 1) 0 = c at *
    generalize hr' : subQ c g r k = r' at *
    simp only [encQ_sm,i64] at gq
    (repeat (first|refine zW ?_|((first|apply l_go rfl|apply c_dec|apply zT rfl (by decide) rfl);(case hs=>(simp (disch := first|omega|exact kD rfl|exact kX rfl) only [smY,simprocAttr,bl,i64,smT,smO,hc,hk1,hset,hm];exact rfl));first|refine c_bt ?_|refine c_bf ?_|refine zq ?_|(case hg=>assumption))))
    refine w_loop (α := {x : Nat × List Rat // x.1 ≤ g.length ∧ x.2.length = t.length ∧ (∀ j,j < k + x.1 → frm Dn (M + 1) (x.2.getD j 0)) ∧ (∀ j,k + x.1 ≤ j → frm Dn M (x.2.getD j 0)) ∧ subQ c (g.drop x.1) x.2 (k + x.1) = r'}) (fun x => st 85 (lk [(6,.own 0 0 t.length 4),(7,.sl g.length (qc g)),(8,.own 1 0 D 4),(9,i64 k),(10,.ptr 2 0),(11,i64 x.1.1)]) (lkH [(0,⟨47,qc x.1.2,false⟩),(1,⟨47,oc (q.set k (some c)),false⟩),(2,⟨47,[sg (c).num,mg (c).num,sg ((c).den : Int),mg ((c).den : Int)],false⟩)]) 3) (fun x => g.length - x.1.1) ⟨(0,r),by simp,hr,fun j _ => (hfr j).mono (by omega),fun j _ => hfr j,by simpa using hr'⟩ ?_ ?_
    ·(refine Sub.heapL [0,1,19] rfl (by decide) ?_ (by simp only [smL];decide) ?_ ?_;all_goals (first|(simp only [plainC,smF,dg,renL,renLs,simprocAttr,bl,i64,smT,smO];done) | (simp only [smF,dg,renL,renLs,simprocAttr,bl,i64,smT,smO];(repeat' apply And.intro);all_goals rfl) | (simp only [smF,dg,renL,renLs,simprocAttr,bl,i64,smT,smO]) | skip))
     all_goals (first | done | ((repeat' apply And.intro);all_goals (first | trivial | rfl)) | trace_state)
    ·rintro ⟨⟨j,y⟩,hj,hy,fy1,fy2,hsub⟩
     simp only at hj hy fy1 fy2 hsub
     simp only [st]
     by_cases hlt : j < g.length
     ·rw [List.drop_eq_getElem_cons hlt,subQ_cons] at hsub
      have hgj : g.getD j 0 = g[j] := by simp [hlt]
      have hbm := hg _ (List.getElem_mem hlt)
      rw [← hgj] at hsub hbm
      have lb := hsg j hlt
      have fyk := fy2 (k + j) (Nat.le_refl _)
      have ly := frm_lq fyk hD hK (M := 5000) (by omega)
      have lc := frm_lq hca hD hK (M := 5000) (by omega)
      have lm := frm_lq (hca.mul1 hbm) hD hK (M := 5000) (by omega)
      have fv := fyk.sub1 hca hbm
      have gm := rqmul_good c (g.getD j 0) (by omega) (by omega)
      have gs := rqsub_good (y.getD (k + j) 0) (c * g.getD j 0) (by omega) (by omega)
      have hys := qc_set (l := y) (j := k + j) (by omega) (y.getD (k + j) 0 - c * g.getD j 0)
      have hyl : (y.set (k + j) (y.getD (k + j) 0 - c * g.getD j 0)).length = t.length := by simp [hy]
      have hkj : ((k : Int) + (j : Int)) = ((k + j : Nat) : Int) := by simp
      have hkb : k + j < y.length := by omega
      have hgd : (qc (y.set (k + j) (y.getD (k + j) 0 - c * g.getD j 0))).length = t.length * 4 := by rw [qc_len,hyl]
      generalize hv : y.getD (k + j) 0 - c * g.getD j 0 = v at *
      generalize hmm : c * g.getD j 0 = mm at *
      generalize hb : g.getD j 0 = b at *
      generalize hx : y.getD (k + j) 0 = x at *
      simp only [encQ_sm] at gm gs
      (repeat (first|refine zW ?_|((first|apply l_go rfl|apply c_dec|apply zT rfl (by decide) rfl);(case hs=>(simp (disch := first|omega|exact kD rfl|exact kX rfl) only [smY,simprocAttr,bl,i64,smT,smO,hb,hx,hkj,hys];exact rfl));first|refine c_bt ?_|refine c_bf ?_|refine zq ?_|(case hg=>assumption))))
      refine ⟨⟨(j + 1,y.set (k + j) v),by simp only;omega,by simp only;exact hyl,?_,?_,by simp only;exact hsub⟩,?_,by simp only;omega⟩
      ·intro i hi
       refine set_getD_same _ fv ?_
       rcases Nat.lt_or_ge i (k + j) with h | h
       ·exact fy1 i h
       ·exact (fy2 i h).mono (by omega)
      ·intro i hi
       rw [set_getD_ne (by simp only at hi;omega)]
       exact fy2 i (by simp only at hi;omega)
      ·(refine Sub.heapL [0,1,2] rfl (by decide) ?_ (by simp only [smL];decide) ?_ ?_;all_goals (first|(simp only [plainC,smF,dg,renL,renLs,simprocAttr,bl,i64,smT,smO];done) | (simp only [smF,dg,renL,renLs,simprocAttr,bl,i64,smT,smO];(repeat' apply And.intro);all_goals rfl) | (simp only [smF,dg,renL,renLs,simprocAttr,bl,i64,smT,smO]) | skip))
       all_goals (first | done | trace_state)
     ·obtain rfl : j = g.length := by omega
      rw [List.drop_length,subQ_nil] at hsub
      subst hsub
      (repeat(first|refine zW ?_|refine zG6 ?_|refine zD6 ?_|refine zT6 ?_))
      refine ⟨⟨(k,q.set k (some c),y),by simp only;omega,by simp only;exact hql,hy,?_,hdr,hdq⟩,?_,by simp only;omega⟩
      ·intro i
       simp only
       rw [hM1]
       rcases Nat.lt_or_ge i (k + g.length) with h | h
       ·exact fy1 i h
       ·exact (fy2 i h).mono (by omega)
      ·(refine Sub.heapL [0,1] rfl (by decide) ?_ (by simp only [smL];decide) ?_ ?_;all_goals (first|(simp only [plainC,smF,dg,renL,renLs,simprocAttr,bl,i64,smT,smO];done) | (simp only [smF,dg,renL,renLs,simprocAttr,bl,i64,smT,smO];(repeat' apply And.intro);all_goals rfl) | (simp only [smF,dg,renL,renLs,simprocAttr,bl,i64,smT,smO]) | skip))
       all_goals (first | done | ((repeat' apply And.intro);all_goals (first | trivial | rfl)) | trace_state)
theorem rdivide_good (F : List Rat) (g : List Rat) {Dn : Int} {L : Nat} (hD : Dn ≠ 0) (hK : len Dn ≤ 60) (hL : L ≤ 3000) (hF1 : 1 ≤ F.length) (hF : F.length ≤ 500) (hf : ∀ j, frm Dn L (F.getD j 0)) (hg : ∀ b ∈ g, one1 b) (hg1 : 1 ≤ g.length) (hg2 : g.length ≤ 500) (hm : g.getD (g.length - 1) 0 = 1) :
  ∃ Q : List Rat,PureGood Tryz.prog 70 [encF F,encF g] (.tup [encF Q,encF (remQ g (trimQ F))]) := by
 have gnN := rpnorm_new F hF1 (by omega) (fun j _ => frm_lq (hf j) hD hK (by omega))
 have htl := trimQ_le F
 exact rdivide_gen _ ⟨_,_,encF_qc F⟩ (trimQ F) gnN (lastQ_trim F) g hD hK hL (by omega) (fun j => by rw [trimQ_getD];exact hf j) hg hg1 hg2 hm
end Go.Proofs.YtaidcaemdkncgaaGreatDoor
namespace Go.Proofs.YtaidcaemdkncgaaGreatDoor
open Go Go.Lg Go.Num
attribute [local irreducible] Go.Lg.lrun Go.Lg.lwp Go.Lg.exThen Go.Lg.exBlk Go.Lg.keep Go.Lg.goodPost sg mg oc op plP plR pwC smd trm ec
theorem rep_snoc (q : Rat) (m : Nat) : List.replicate m q ++ [q] = List.replicate (m + 1) q := by rw [List.replicate_succ']
theorem rep_one (q : Rat) : [q] = List.replicate 1 q := rfl
theorem zeros_new (n : Nat) (h1 : 1 ≤ n) (hn : n ≤ 100000) : NewGood Tryz.prog 66 [i64 n] n 4 47 (qc (List.replicate n 0)) := by
 have h0 := baseQ_good 0 (by omega)
 rw [show ((0 : Int) : Rat) = 0 from rfl] at h0
 simp only [encQ_sm,i64] at *
 refine new_of_lwp mix Tryz.func66 rfl (by decide) (nt := 15) rfl (rs := [.tmp 2]) rfl (nle rfl) (qc_all s9 s10 _) ?_
 (repeat(first|refine zW ?_|refine zG6 ?_|refine zD6 ?_|refine zT6 ?_))
 refine w_loop (α := {m : Nat // m ≤ n}) (fun m => st 15 (lk [(0,i64 n),(3,nV 0 m.1),(4,i64 m.1)]) (lkH (nB 0 m.1 (qc (List.replicate m.1 0)))) 1) (fun m => n - m.1) ⟨0,by omega⟩ ?_ ?_
 ·simp only [nV_zero,nB_zero,i64]
  (refine Sub.plain ?_;simp only [smF,dg,renL,renLs,simprocAttr,bl,i64,smT,smO])
  all_goals (first | done | simp)
 ·rintro ⟨m,hm⟩
  simp only [st]
  by_cases hlt : m < n
  ·have htl : (List.replicate m (0 : Rat)).length = m := by simp
   have hsn := rep_snoc 0 m
   by_cases h0 : m = 0
   ·simp only [nV_of h0,nB_of h0]
    (repeat(first|refine zW ?_|refine zG6 ?_|refine zD6 ?_|refine zT6 ?_))
    refine ⟨⟨m + 1,by omega⟩,?_,by simp only;omega⟩
    subst h0
    simp only [nV_succ,nB_succ,i64]
    (refine Sub.heapL [7] rfl (by decide) ?_ (by simp only [smL];decide) ?_ ?_;all_goals (first|(simp only [plainC,smF,dg,renL,renLs,simprocAttr,bl,i64,smT,smO];done) | (simp only [smF,dg,renL,renLs,simprocAttr,bl,i64,smT,smO];(repeat' apply And.intro);all_goals rfl) | (simp only [smF,dg,renL,renLs,simprocAttr,bl,i64,smT,smO]) | skip))
    all_goals (first | done | rfl | (rw [← qc_one]) | (rw [← rep_one,← qc_one]))
   ·generalize hL : List.replicate m (0 : Rat) = L at *
    simp only [nV_ne h0,nB_ne h0]
    (repeat(first|refine zW ?_|refine zG6 ?_|refine zD6 ?_|refine zT6 ?_))
    refine ⟨⟨m + 1,by omega⟩,?_,by simp only;omega⟩
    simp only [nV_succ,nB_succ,i64]
    (refine Sub.heapL [7] rfl (by decide) ?_ (by simp only [smL];decide) ?_ ?_;all_goals (first|(simp only [plainC,smF,dg,renL,renLs,simprocAttr,bl,i64,smT,smO];done) | (simp only [smF,dg,renL,renLs,simprocAttr,bl,i64,smT,smO];(repeat' apply And.intro);all_goals rfl) | (simp only [smF,dg,renL,renLs,simprocAttr,bl,i64,smT,smO]) | skip))
    all_goals (first | done | (rw [qc_app,hsn]) | (rw [← hsn,← qc_app]))
  ·obtain rfl : m = n := by omega
   have h0 : ¬ m = 0 := by omega
   simp only [nV_ne h0,nB_ne h0]
   (repeat(first|refine zW ?_|refine zG6 ?_|refine zD6 ?_|refine zT6 ?_))
   (apply n_ret;(case hres => (simp only [smR];simp (disch := first|omega|exact kD rfl|exact kX rfl) only [smY,simprocAttr,bl,i64,smT,smO];exact rfl));(case h0 => (simp only [smF,dg,renL,renLs,simprocAttr,bl,i64,smT,smO];exact rfl));(case hf => rfl))
   all_goals rfl
theorem rz_take {l : List Int} {m : Nat} (h : m < l.length) : rz (l.take (m + 1)) = rz (l.take m) ++ [((l.getD m 0 : Int) : Rat)] := by
 have e : l.take (m + 1) = l.take m ++ [l.getD m 0] := by
  rw [List.take_succ_eq_append_getElem h]
  simp [List.getD,h]
 rw [e]
 simp [rz]
theorem qs_good (l : List Int) (hl : l.length ≤ 100000) (hb : ∀ j,j < l.length → -9223372036854775808 ≤ l.getD j 0 ∧ l.getD j 0 ≤ 9223372036854775807) : PureGood Tryz.prog 15 [.sl l.length (ec l)] (encF (rz l)) := by
 obtain ⟨n,hn⟩ : ∃ n,l.length = n := ⟨_,rfl⟩
 rw [encF_qc,rz_len,hn]
 rw [hn] at hb hl
 refine good_of_lwp mix Tryz.func15 rfl (by decide) (nt := 20) rfl (rs := [.tmp 2]) rfl (nle rfl) ?_
 (repeat(first|refine zW ?_|refine zG6 ?_|refine zD6 ?_|refine zT6 ?_))
 refine w_loop (α := {m : Nat // m ≤ n}) (fun m => st 20 (lk [(0,.sl n (ec l)),(3,nV 0 m.1),(4,i64 m.1)]) (lkH (nB 0 m.1 (qc (rz (l.take m.1))))) 1) (fun m => n - m.1) ⟨0,by omega⟩ ?_ ?_
 ·simp only [nV_zero,nB_zero,i64]
  (refine Sub.plain ?_;simp only [smF,dg,renL,renLs,simprocAttr,bl,i64,smT,smO])
  all_goals (first | done | simp)
 ·rintro ⟨m,hm⟩
  simp only [st]
  by_cases hlt : m < n
  ·have hsn := rz_take (l := l) (m := m) (by omega)
   have h0 := baseQ_good (l.getD m 0) (hb m hlt)
   have htl : (rz (l.take m)).length = m := by rw [rz_len,List.length_take];omega
   generalize hz : l.getD m 0 = z at *
   simp only [encQ_sm,i64] at h0
   by_cases h00 : m = 0
   ·simp only [nV_of h00,nB_of h00]
    (repeat (first|refine zW ?_|((first|apply l_go rfl|apply c_dec|apply zT rfl (by decide) rfl);(case hs=>(simp (disch := first|omega|exact kD rfl|exact kX rfl) only [smY,simprocAttr,bl,i64,smT,smO,smE,hz];exact rfl));first|refine c_bt ?_|refine c_bf ?_|refine zq ?_|(case hg=>assumption))))
    refine ⟨⟨m + 1,by omega⟩,?_,by simp only;omega⟩
    subst h00
    simp only [nV_succ,nB_succ,i64]
    (refine Sub.heapL [12] rfl (by decide) ?_ (by simp only [smL];decide) ?_ ?_;all_goals (first|(simp only [plainC,smF,dg,renL,renLs,simprocAttr,bl,i64,smT,smO,smE,hz];done) | (simp only [smF,dg,renL,renLs,simprocAttr,bl,i64,smT,smO,smE,hz];(repeat' apply And.intro);all_goals rfl) | (simp only [smF,dg,renL,renLs,simprocAttr,bl,i64,smT,smO,smE,hz]) | skip))
    all_goals (first | done | (rw [hsn];exact (qc_one _).symm) | (rw [hsn];simp [qc_one,rz];rw [← qc_one,Rat.num_intCast,Rat.den_intCast];rfl) | (rw [← qc_one,Rat.num_intCast,Rat.den_intCast];rfl))
   ·generalize rz (l.take m) = L at *
    simp only [nV_ne h00,nB_ne h00]
    (repeat (first|refine zW ?_|((first|apply l_go rfl|apply c_dec|apply zT rfl (by decide) rfl);(case hs=>(simp (disch := first|omega|exact kD rfl|exact kX rfl) only [smY,simprocAttr,bl,i64,smT,smO,smE,hz];exact rfl));first|refine c_bt ?_|refine c_bf ?_|refine zq ?_|(case hg=>assumption))))
    refine ⟨⟨m + 1,by omega⟩,?_,by simp only;omega⟩
    simp only [nV_succ,nB_succ,i64]
    (refine Sub.heapL [12] rfl (by decide) ?_ (by simp only [smL];decide) ?_ ?_;all_goals (first|(simp only [plainC,smF,dg,renL,renLs,simprocAttr,bl,i64,smT,smO,smE,hz];done) | (simp only [smF,dg,renL,renLs,simprocAttr,bl,i64,smT,smO,smE,hz];(repeat' apply And.intro);all_goals rfl) | (simp only [smF,dg,renL,renLs,simprocAttr,bl,i64,smT,smO,smE,hz]) | skip))
    all_goals (first | done | (rw [hsn,← qc_app]))
  ·obtain rfl : m = n := by omega
   have ht : l.take m = l := List.take_of_length_le (by omega)
   rw [ht]
   by_cases h00 : m = 0
   ·simp only [nV_of h00,nB_of h00]
    have hln : rz l = [] := by
     have : l = [] := List.eq_nil_of_length_eq_zero (by omega)
     rw [this];rfl
    rw [hln]
    subst h00
    (repeat(first|refine zW ?_|refine zG6 ?_|refine zD6 ?_|refine zT6 ?_))
    refine zR6 ?_
    simp (disch := first|omega|exact kD rfl|exact kX rfl) only [smY,simprocAttr,bl,i64,smT,smO]
    rfl
   ·simp only [nV_ne h00,nB_ne h00]
    have hrl : (rz l).length = m := by rw [rz_len,hn]
    generalize rz l = RL at *
    subst hrl
    (repeat(first|refine zW ?_|refine zG6 ?_|refine zD6 ?_|refine zT6 ?_))
    exact zQ6
end Go.Proofs.YtaidcaemdkncgaaGreatDoor
namespace Go.Proofs.YtaidcaemdkncgaaGreatDoor
open Go Go.Lg Go.Num
attribute [local irreducible] Go.Lg.lrun Go.Lg.lwp Go.Lg.exThen Go.Lg.exBlk Go.Lg.keep Go.Lg.goodPost sg mg oc op plP plR pwC smd trm ec cyF rz
structure RChD (n : Nat) (v : List Int) (o f : Nat) (w : List Int) (ix : Nat → Option Nat) : Prop where
 chk : PureGood Tryz.prog 61 [.agg [i64 n,.sl v.length (ec v)]] (i64 0)
 ord : PureGood Tryz.prog 62 [.agg [i64 n,.sl v.length (ec v)]] (i64 o)
 cond : PureGood Tryz.prog 64 [.agg [i64 n,.sl v.length (ec v)]] (i64 f)
 wth : PureGood Tryz.prog 65 [i64 f,.agg [i64 n,.sl v.length (ec v)]] (.agg [i64 f,.sl w.length (ec w)])
 no : ∀ j,j < f → ix j = none → ∃ a d : Int,PureGood Tryz.prog 68 [.agg [i64 f,.sl w.length (ec w)],i64 ((j : Int) + 1)] (.agg [bl true,i64 a,i64 d])
 yes : ∀ j i,j < f → ix j = some i → i < o ∧ ∃ a d : Nat,1 ≤ d ∧ d ≤ 60 ∧ a ≤ 60 ∧ a * (o / d) = i ∧ PureGood Tryz.prog 68 [.agg [i64 f,.sl w.length (ec w)],i64 ((j : Int) + 1)] (.agg [bl false,i64 a,i64 d])
theorem remQ_last (g t : List Rat) : trimQ (remQ g t) = remQ g t := trimQ_last (lastQ_trim _)
theorem remQ_len (g t : List Rat) : (remQ g t).length ≤ t.length := by
 unfold remQ
 exact Nat.le_trans (trimQ_le _) (by rw [divR_len];exact Nat.le_refl _)
theorem remQ_frm {D : Int} {g t : List Rat} {L : Nat} (hg : ∀ b ∈ g,one1 b) (ht : ∀ j,frm D L (t.getD j 0)) (j : Nat) : frm D (L + (t.length + 1 - g.length)) ((remQ g t).getD j 0) := by
 unfold remQ
 rw [trimQ_getD]
 exact divR_frm hg _ L t ht j
theorem rchar_good {n : Nat} {v : List Int} {o f : Nat} {w : List Int} {ix : Nat → Option Nat} (h : RChD n v o f w ix) (o1 : 1 ≤ o) (o2 : o ≤ 60) (f1 : 1 ≤ f) (f2 : f ≤ 60) (hlw : w.length ≤ 10) (hF : o ∈ nFC) (hph : phN o o ≤ 12) {k : Nat} (k1 : 1 ≤ k) (k2 : k ≤ 40) :
  PureGood Tryz.prog 19 [i64 k,.agg [i64 n,.sl v.length (ec v)]] (.tup [encF (remQ (rz (cyF o)) (trimQ (plR ix k f o f))),i64 o,i64 0]) := by
 obtain ⟨gc,go,gcd,gw,hno,hyes⟩ := h
 have gs := rparts_good k f k1 k2 f1 f2
 rw [encF_qc,smd_length] at gs
 have hls := smd_length k f f
 have hpl := fun j => plR_len ix k f o j
 have hz := plR_zero ix k f o
 have gphi := phi28_good o (by omega)
 have gzn := zeros_new o o1 (by omega)
 rw [← hz] at gzn
 have gcy := cyc29_good hF
 obtain ⟨c1,c2,c3,c4⟩ := cy_ok hF
 have hzl := rz_len (cyF o)
 have hfr := fun i => frm_plR (ix := ix) (k := k) (f := f) (o := o) (j := f) k2 f1 f2 (Nat.le_refl _) i
 have gqs := qs_good (cyF o) (by omega) (fun j hj => by
  have h1 : (rz (cyF o)).getD j 0 ∈ rz (cyF o) := by
   have h3 : j < (rz (cyF o)).length := by omega
   rw [show (rz (cyF o)).getD j 0 = (rz (cyF o))[j] by simp [List.getD,h3]]
   exact List.getElem_mem h3
  have h2 := c1 _ h1
  rw [rz_get] at h2
  rcases h2 with h | h | h
  ·have : (cyF o).getD j 0 = 1 := by exact_mod_cast h
   omega
  ·have : (cyF o).getD j 0 = 0 := by exact_mod_cast h
   omega
  ·have : (cyF o).getD j 0 = -1 := by
    have h' : (((cyF o).getD j 0 : Int) : Rat) = ((-1 : Int) : Rat) := h
    exact_mod_cast h'
   omega)
 obtain ⟨Q,gdv⟩ := rdivide_good (plR ix k f o f) (rz (cyF o)) (trmD_ne f1) (len_trmD k2 f2) (L := 260) (by omega) (by rw [hpl];omega) (by rw [hpl];omega) hfr c1 (by omega) (by omega) (by rw [hzl];exact c4)
 have hlr : (remQ (rz (cyF o)) (trimQ (plR ix k f o f))).length ≤ 60 := by
  have h1 := remQ_len (rz (cyF o)) (trimQ (plR ix k f o f))
  have h2 := trimQ_le (plR ix k f o f)
  rw [hpl] at h2
  omega
 have gnm := rpnorm_good (remQ (rz (cyF o)) (trimQ (plR ix k f o f))) (by omega) (fun j _ => by
  have h2 := trimQ_le (plR ix k f o f)
  rw [hpl] at h2
  refine frm_lq (remQ_frm c1 (L := 260) (fun j => ?_) j) (trmD_ne f1) (len_trmD k2 f2) (by omega)
  rw [trimQ_getD]
  exact hfr j)
 rw [remQ_last] at gnm
 generalize remQ (rz (cyF o)) (trimQ (plR ix k f o f)) = R at *
 clear c1 c4 hfr
 rw [encF_qc,hpl] at gdv
 generalize rz (cyF o) = G at *
 generalize hcl : (cyF o).length = cl at *
 generalize ec (cyF o) = ccy at *
 generalize hph2 : phN o o = ph at *
 simp only [encF_qc] at gqs gdv gnm ⊢
 simp only [i64] at gc go gcd gw gs gphi gzn gcy gqs gdv gnm ⊢
 refine good_of_lwp mix Tryz.func19 rfl (by decide) (nt := 86) rfl (rs := [.tmp 4,.tmp 5,.tmp 6]) rfl (nle rfl) ?_
 (repeat (first|refine zW ?_|((first|apply l_go rfl|apply c_dec|apply zT rfl (by decide) rfl);(case hs=>(simp (disch := first|omega|exact kD rfl|exact kX rfl) only [smY,simprocAttr,bl,i64,smT,smO,smE];exact rfl));first|refine c_bt ?_|refine c_bf ?_|refine zq ?_|(case hg=>assumption))))
 refine l_ncall (by simp only [List.size_toArray,List.length_cons,List.length_nil,Nat.reduceAdd,Nat.max_def,Nat.reduceLeDiff,↓reduceIte];exact rfl) rfl rfl rfl (by decide) rfl (by simp (disch := first|omega|exact kD rfl|exact kX rfl) only [smY,simprocAttr,bl,i64,smT,smO,smE];try exact rfl) gzn (by simp [plainC]) (by simp [upd]) ?_
 (repeat (first|refine zW ?_|((first|apply l_go rfl|apply c_dec|apply zT rfl (by decide) rfl);(case hs=>(simp (disch := first|omega|exact kD rfl|exact kX rfl) only [smY,simprocAttr,bl,i64,smT,smO,smE];exact rfl));first|refine c_bt ?_|refine c_bf ?_|refine zq ?_|(case hg=>assumption))))
 refine w_loop (α := {j : Nat // j ≤ f}) (fun j => st 86 (lk [(0,i64 k),(8,i64 o),(9,i64 f),(10,.ptr 0 0),(11,.own 1 0 o 4),(12,.sl f (qc (smd k f f))),(13,i64 ((j.1 : Int) + 1))]) (lkH [(0,⟨25,[i64 f,.sl w.length (ec w)],false⟩),(1,⟨47,qc (plR ix k f o j.1),false⟩)]) 2) (fun j => f - j.1) ⟨0,by omega⟩ ?_ ?_
 ·simp only [i64]
  (refine Sub.heapL [27,32] rfl (by decide) ?_ (by simp only [smL];decide) ?_ ?_;all_goals (first|(simp only [plainC,smF,dg,renL,renLs,simprocAttr,bl,i64,smT,smO,smE];done) | (simp only [smF,dg,renL,renLs,simprocAttr,bl,i64,smT,smO,smE];(repeat' apply And.intro);all_goals rfl) | (simp only [smF,dg,renL,renLs,simprocAttr,bl,i64,smT,smO,smE]) | skip))
  all_goals (first | done | ((repeat' apply And.intro);all_goals (first | trivial | rfl)) | trace_state)
 ·rintro ⟨j,hj⟩
  simp only [st]
  have hpj := hpl j
  by_cases hlt : j < f
  ·have e1 : (smd k f f).getD j 0 = trm k f j := smd_getD hlt
   have e0 : (j : Int) + 1 - 1 = j := by omega
   have lt := lq_trm (k := k) (f := f) (j := j) k2 f1 f2 hlt
   cases hix : ix j with
   | none =>
     obtain ⟨a,d,gv⟩ := hno j hlt hix
     have es := plR_miss (k := k) (f := f) (o := o) hix
     generalize trm k f j = T at *
     simp only [i64,bl] at gv
     (repeat (first|refine zW ?_|((first|apply l_go rfl|apply c_dec|apply zT rfl (by decide) rfl);(case hs=>(simp (disch := first|omega|exact kD rfl|exact kX rfl) only [smY,simprocAttr,bl,i64,smT,smO,smE,e1,e0];exact rfl));first|refine c_bt ?_|refine c_bf ?_|refine zq ?_|(case hg=>assumption))))
     refine ⟨⟨j + 1,by omega⟩,?_,by simp only;omega⟩
     simp only [i64]
     rw [es]
     (refine Sub.heapL [0,1] rfl (by decide) ?_ (by simp only [smL];decide) ?_ ?_;all_goals (first|(simp only [plainC,smF,dg,renL,renLs,simprocAttr,bl,i64,smT,smO,smE];done) | (simp only [smF,dg,renL,renLs,simprocAttr,bl,i64,smT,smO,smE];(repeat' apply And.intro);all_goals rfl) | (simp only [smF,dg,renL,renLs,simprocAttr,bl,i64,smT,smO,smE]) | skip))
     all_goals (first | done | trace_state)
   | some i =>
     obtain ⟨hio,a,d,d1,d2,a2,hi,gv⟩ := hyes j i hlt hix
     have es := plR_hit (k := k) (f := f) hix hio
     have eg := plR_get (ix := ix) (k := k) (f := f) (j := j) hio
     have lp := lq_pwC (ix := ix) (i := i) (j := j) k2 f1 f2 (by omega)
     have q1 : ((o : Int)).tdiv (d : Int) = ((o / d : Nat) : Int) := by rw [Int.tdiv_eq_ediv_of_nonneg (by omega)];rfl
     have q2 : (a : Int) * ((o / d : Nat) : Int) = (i : Int) := by rw [← hi];simp
     have b1 : o / d ≤ o := Nat.div_le_self _ _
     have hset := qc_set (l := plR ix k f o j) (j := i) (by omega) (pwC ix k f j i + trm k f j)
     rw [es] at hset
     have hd0 : ¬ (d : Int) = 0 := by omega
     have ga := rqadd_good (pwC ix k f j i) (trm k f j) (by omega) (by omega)
     generalize pwC ix k f j i + trm k f j = S at *
     generalize pwC ix k f j i = P at *
     generalize trm k f j = T at *
     generalize hyd : o / d = y at *
     simp only [encQ_sm,i64,bl] at ga gv
     (repeat (first|refine zW ?_|((first|apply l_go rfl|apply c_dec|apply zT rfl (by decide) rfl);(case hs=>(simp (disch := first|omega|exact kD rfl|exact kX rfl) only [smY,simprocAttr,bl,i64,smT,smO,smE,e1,e0,q1,q2,eg,hset,hyd];exact rfl));first|refine c_bt ?_|refine c_bf ?_|refine zq ?_|(case hg=>assumption))))
     refine ⟨⟨j + 1,by omega⟩,?_,by simp only;omega⟩
     simp only [i64]
     (refine Sub.heapL [0,1] rfl (by decide) ?_ (by simp only [smL];decide) ?_ ?_;all_goals (first|(simp only [plainC,smF,dg,renL,renLs,simprocAttr,bl,i64,smT,smO,smE];done) | (simp only [smF,dg,renL,renLs,simprocAttr,bl,i64,smT,smO,smE];(repeat' apply And.intro);all_goals rfl) | (simp only [smF,dg,renL,renLs,simprocAttr,bl,i64,smT,smO,smE]) | skip))
     all_goals (first | done | trace_state)
  ·obtain rfl : j = f := by omega
   (repeat (first|refine zW ?_|((first|apply l_go rfl|apply c_dec|apply zT rfl (by decide) rfl);(case hs=>(simp (disch := first|omega|exact kD rfl|exact kX rfl) only [smY,simprocAttr,bl,i64,smT,smO,smE];exact rfl));first|refine c_bt ?_|refine c_bf ?_|refine zq ?_|(case hg=>assumption))))
   ((first|apply g_ret|apply g_end);case hres => (simp only [smR];simp (disch := first|omega|exact kD rfl|exact kX rfl) only [smY,simprocAttr,bl,i64,smT,smO,smE];exact rfl))
   simp (disch := first|omega|exact kD rfl|exact kX rfl) only [smY,simprocAttr,bl,i64,smT,smO,smE]
end Go.Proofs.YtaidcaemdkncgaaGreatDoor