/- Contracts of functions of the program, and what proves them (texts: S2 B11s L1 L3 R3 S3 R4 R5 R6 R7). -/
import Derived.Test.YteecamhdbilmoaaGreatDoorZAG
import Derived.Test.YteecamhdbilmoaaGreatDoorZFinRealAB
set_option linter.all false
namespace Go.Proofs.YteecamhdbilmoaaGreatDoor
open Go Go.Lg Go.Num
set_option maxRecDepth 100000
set_option maxHeartbeats 8000000
attribute [local irreducible] Go.Lg.lrun Go.Lg.lwp Go.Lg.exThen Go.Lg.exBlk Go.Lg.keep Go.Lg.goodPost sg mg sS qs sv oc mC oqc cSer
theorem rzero_all (q : Rat) (hq : lq q ≤ 1000) : PureGood Tryz.prog 109 [encQ q] (bl (decide (q = 0))) := by
 by_cases h : q = 0
 ·subst h
  rw [dec_t rfl,encQ_zero]
  exact evl_good (by kernel_rfl)
 ·rw [dec_f h]
  exact rzero_good q hq (fun e => h (Rat.num_eq_zero.1 e))
theorem rResult_all (h : Int) (a : Nat → Rat) (N : Nat) (h1 : -100 ≤ h) (h2 : h + N ≤ 1000) (ba : ∀ i,i < N → lq (a i) ≤ 1000) : PureGood Tryz.prog 75 [i64 h,.sl N (qc (aP a N))] (.tup [cSer h a N,i64 0]) := by
 have hl := aP_len a N
 generalize hR : cSer h a N = R
 simp only [i64] at *
 refine good_of_lwp mix Tryz.func75 rfl (by decide) (nt := 68) rfl (rs := [.cell 4 26,.tmp 5]) rfl (nle rfl) ?_
 (repeat (first|apply zO (by decide +kernel)|apply zP (by decide +kernel)|(apply zS;(case h=>constructor<;>decide))|((first|apply l_go rfl|apply c_dec|apply zT rfl (by decide) rfl);(case hs=>(simp (disch := first|omega|exact kD rfl|exact kX rfl) only [smY,simprocAttr,bl,i64,smT];exact rfl));first|refine c_bt ?_|refine c_bf ?_|refine zq ?_|(case hg=>assumption))))
 refine w_loop (α := {s : Nat // s ≤ N ∧ ∀ j,j < s → a j = 0}) (fun s => st 68 (lk [(0,i64 h),(1,.sl N (qc (aP a N))),(4,.ptr 0 0),(6,i64 (h + N)),(7,i64 s.1)]) (lkH [(0,⟨26,[i64 0,nilL],false⟩)]) 1) (fun s => N - s.1) ⟨0,Nat.zero_le _,fun j hj => by omega⟩ ?_ ?_
 ·(refine Sub.heap1 0 ?_ (by simp only [smF,dg,renL,renLs,simprocAttr,bl,i64,smT];exact rfl) ?_ ?_;all_goals (first | exact dgs_plain _ | with_reducible rfl | (simp only [smF,dg,renL,renLs,simprocAttr,bl,i64,smT];done) | (simp only [smF,dg,renL,renLs,simprocAttr,bl,i64,smT]) | skip))
  all_goals (first | exact ⟨rfl,rfl⟩ | simp)
 ·rintro ⟨s,hs,hz⟩
  simp only [st]
  by_cases hc : s < N ∧ a s = 0
  ·obtain ⟨hlt,has⟩ := hc
   have e0 : (aP a N).getD s 0 = a s := aP_get hlt
   have g1 := rzero_all (a s) (ba s hlt)
   rw [dec_t has] at g1
   have hz' : ∀ j,j < s + 1 → a j = 0 := fun j hj => by
    by_cases e : j = s
    ·rw [e];exact has
    ·exact hz j (by omega)
   clear has
   generalize a s = av at g1 e0
   simp only [encQ_sm,bl] at g1
   (repeat (first|apply zO (by decide +kernel)|apply zP (by decide +kernel)|(apply zS;(case h=>constructor<;>decide))|((first|apply l_go rfl|apply c_dec|apply zT rfl (by decide) rfl);(case hs=>(simp (disch := first|omega|exact kD rfl|exact kX rfl) only [smY,simprocAttr,bl,i64,smT,e0];exact rfl));first|refine c_bt ?_|refine c_bf ?_|refine zq ?_|(case hg=>assumption))))
   refine ⟨⟨s + 1,by omega,hz'⟩,?_,by simp only;omega⟩
   (refine Sub.heap1 0 ?_ (by simp only [smF,dg,renL,renLs,simprocAttr,bl,i64,smT];exact rfl) ?_ ?_;all_goals (first | exact dgs_plain _ | with_reducible rfl | (simp only [smF,dg,renL,renLs,simprocAttr,bl,i64,smT];done) | (simp only [smF,dg,renL,renLs,simprocAttr,bl,i64,smT]) | skip))
   all_goals (first | exact ⟨rfl,rfl⟩ | simp)
  ·have hord : ordN a N = s := ordN_eq hs hz (fun hlt e => hc ⟨hlt,e⟩)
   rw [cSer_eq hord] at hR
   by_cases hlt : s < N
   ·have e0 : (aP a N).getD s 0 = a s := aP_get hlt
    have g1 := rzero_all (a s) (ba s hlt)
    rw [dec_f (fun e => hc ⟨hlt,e⟩)] at g1
    generalize a s = av at g1 e0
    simp only [encQ_sm,bl] at g1
    (repeat (first|apply zO (by decide +kernel)|apply zP (by decide +kernel)|(apply zS;(case h=>constructor<;>decide))|((first|apply l_go rfl|apply c_dec|apply zT rfl (by decide) rfl);(case hs=>(simp (disch := first|omega|exact kD rfl|exact kX rfl) only [smY,simprocAttr,bl,i64,smT,e0];exact rfl));first|refine c_bt ?_|refine c_bf ?_|refine zq ?_|(case hg=>assumption))))
    refine w_loop (α := {m : Nat // s + m ≤ N}) (fun m => st 68 (lk [(1,.sl N (qc (aP a N))),(4,.ptr 0 0),(8,.ptr 1 0),(9,i64 ((s : Int) + (m.1 : Int)))]) (lkH ((0,⟨26,[i64 0,nilL],false⟩) :: (1,⟨26,[i64 (h + s),nV 2 m.1],false⟩) :: nB 2 m.1 (qc (aP (fun i => a (s + i)) m.1)))) 3) (fun m => N - (s + m.1)) ⟨0,by omega⟩ ?_ ?_
    ·simp only [nV_zero,nB_zero]
     (refine Sub.heapR [0,24,99] rfl (by decide) ?_ (by simp only [smL];decide) ?_;all_goals (first|(simp only [smF,dg,renL,renLs,simprocAttr,bl,i64,smT];done) | (simp only [smF,dg,renL,renLs,simprocAttr,bl,i64,smT,Option.some.injEq,Blk.mk.injEq,true_and,and_true];first | done | (repeat' (first | apply And.intro | (refine ⟨_,rfl,?_⟩;simp only [smF,dg,renL,renLs,simprocAttr,bl,i64,smT];first | done | rfl)))) | skip))
     all_goals (first | done | ((repeat' apply And.intro);all_goals (first | trivial | rfl | (simp only [LV.lit.injEq,Value.int.injEq,true_and];omega) | exact ⟨_,rfl,rfl⟩)))
    ·rintro ⟨m,hm⟩
     simp only [st]
     have hl2 := aP_len (fun i => a (s + i)) m
     have happ := aP_succ (fun i => a (s + i)) m
     have hcn : ((s : Int) + (m : Int)).toNat = s + m := by omega
     by_cases hlt : s + m < N
     ·by_cases hi0 : m = 0
      ·simp only [nV_of hi0,nB_of hi0]
       have e1 : (aP a N).getD (s + m) 0 = a (s + m) := aP_get (by omega)
       have b1 := ba (s + m) (by omega)
       have g2 := rqnorm_good (a (s + m)) (by omega)
       generalize hai : a (s + m) = ai at *
       simp only [encQ_sm] at g2
       (repeat (first|apply zO (by decide +kernel)|apply zP (by decide +kernel)|(apply zS;(case h=>constructor<;>decide))|((first|apply l_go rfl|apply c_dec|apply zT rfl (by decide) rfl);(case hs=>(simp (disch := first|omega|exact kD rfl|exact kX rfl) only [smY,simprocAttr,bl,i64,smT,e1,hcn];exact rfl));first|refine c_bt ?_|refine c_bf ?_|refine zq ?_|(case hg=>assumption))))
       refine ⟨⟨m + 1,by omega⟩,?_,by simp only;omega⟩
       (subst hi0;simp only [nV_succ,nB_succ];(refine Sub.heapR [0,1,15] rfl (by decide) ?_ (by simp only [smL];decide) ?_;all_goals (first|(simp only [smF,dg,renL,renLs,simprocAttr,bl,i64,smT];done) | (simp only [smF,dg,renL,renLs,simprocAttr,bl,i64,smT,Option.some.injEq,Blk.mk.injEq,true_and,and_true];first | done | (repeat' (first | apply And.intro | (refine ⟨_,rfl,?_⟩;simp only [smF,dg,renL,renLs,simprocAttr,bl,i64,smT];first | done | rfl)))) | skip));have e : aP (fun i => a (s + i)) 1 = [ai] := (by rw [← hai];rfl);all_goals (first | done | ((repeat' apply And.intro);all_goals (first | trivial | rfl | (simp only [LV.lit.injEq,Value.int.injEq,true_and];omega) | (refine ⟨_,rfl,?_⟩;show qc [a (s + 0)] = _;rw [hai,← qc_one])))))
      ·simp only [nV_ne hi0,nB_ne hi0]
       have e1 : (aP a N).getD (s + m) 0 = a (s + m) := aP_get (by omega)
       have b1 := ba (s + m) (by omega)
       have g2 := rqnorm_good (a (s + m)) (by omega)
       generalize hai : a (s + m) = ai at *
       simp only [encQ_sm] at g2
       (repeat (first|apply zO (by decide +kernel)|apply zP (by decide +kernel)|(apply zS;(case h=>constructor<;>decide))|((first|apply l_go rfl|apply c_dec|apply zT rfl (by decide) rfl);(case hs=>(simp (disch := first|omega|exact kD rfl|exact kX rfl) only [smY,simprocAttr,bl,i64,smT,e1,hcn];exact rfl));first|refine c_bt ?_|refine c_bf ?_|refine zq ?_|(case hg=>assumption))))
       refine ⟨⟨m + 1,by omega⟩,?_,by simp only;omega⟩
       (simp only [nV_succ,nB_succ];(refine Sub.heapR [0,1,15] rfl (by decide) ?_ (by simp only [smL];decide) ?_;all_goals (first|(simp only [smF,dg,renL,renLs,simprocAttr,bl,i64,smT];done) | (simp only [smF,dg,renL,renLs,simprocAttr,bl,i64,smT,Option.some.injEq,Blk.mk.injEq,true_and,and_true];first | done | (repeat' (first | apply And.intro | (refine ⟨_,rfl,?_⟩;simp only [smF,dg,renL,renLs,simprocAttr,bl,i64,smT];first | done | rfl)))) | skip));all_goals (first | done | ((repeat' apply And.intro);all_goals (first | trivial | rfl | (simp only [LV.lit.injEq,Value.int.injEq,true_and];omega) | exact ⟨_,rfl,(by rw [happ,← qc_app])⟩))))
     ·have hi0 : m ≠ 0 := by omega
      obtain rfl : m = N - s := by omega
      simp only [nV_ne hi0,nB_ne hi0]
      subst hR
      (repeat (first|apply zO (by decide +kernel)|apply zP (by decide +kernel)|(apply zS;(case h=>constructor<;>decide))|((first|apply l_go rfl|apply c_dec|apply zT rfl (by decide) rfl);(case hs=>(simp (disch := first|omega|exact kD rfl|exact kX rfl) only [smY,simprocAttr,bl,i64,smT];exact rfl));first|refine c_bt ?_|refine c_bf ?_|refine zq ?_|(case hg=>assumption))))
      ((first|apply g_ret|apply g_end);case hres => (simp only [smR];simp (disch := first|omega|exact kD rfl|exact kX rfl) only [smY,simprocAttr,bl,i64,smT];exact rfl))
      simp (disch := first|omega|exact kD rfl|exact kX rfl) only [smY,simprocAttr,bl,i64,smT]
   ·have hsN : (h : Int) + N - s = h := by omega
    (repeat (first|apply zO (by decide +kernel)|apply zP (by decide +kernel)|(apply zS;(case h=>constructor<;>decide))|((first|apply l_go rfl|apply c_dec|apply zT rfl (by decide) rfl);(case hs=>(simp (disch := first|omega|exact kD rfl|exact kX rfl) only [smY,simprocAttr,bl,i64,smT,hsN];exact rfl));first|refine c_bt ?_|refine c_bf ?_|refine zq ?_|(case hg=>assumption))))
    refine l_cskip rfl (by decide) rfl ?_
    (repeat (first|apply zO (by decide +kernel)|apply zP (by decide +kernel)|(apply zS;(case h=>constructor<;>decide))|((first|apply l_go rfl|apply c_dec|apply zT rfl (by decide) rfl);(case hs=>(simp (disch := first|omega|exact kD rfl|exact kX rfl) only [smY,simprocAttr,bl,i64,smT,hsN];exact rfl));first|refine c_bt ?_|refine c_bf ?_|refine zq ?_|(case hg=>assumption))))
    refine w_loop (α := {m : Nat // s + m ≤ N}) (fun m => st 68 (lk [(1,.sl N (qc (aP a N))),(4,.ptr 0 0),(8,.ptr 1 0),(9,i64 ((s : Int) + (m.1 : Int)))]) (lkH ((0,⟨26,[i64 0,nilL],false⟩) :: (1,⟨26,[i64 (h + s),nV 2 m.1],false⟩) :: nB 2 m.1 (qc (aP (fun i => a (s + i)) m.1)))) 3) (fun m => N - (s + m.1)) ⟨0,by omega⟩ ?_ ?_
    ·simp only [nV_zero,nB_zero]
     (refine Sub.heapR [0,28,99] rfl (by decide) ?_ (by simp only [smL];decide) ?_;all_goals (first|(simp only [smF,dg,renL,renLs,simprocAttr,bl,i64,smT];done) | (simp only [smF,dg,renL,renLs,simprocAttr,bl,i64,smT,Option.some.injEq,Blk.mk.injEq,true_and,and_true];first | done | (repeat' (first | apply And.intro | (refine ⟨_,rfl,?_⟩;simp only [smF,dg,renL,renLs,simprocAttr,bl,i64,smT];first | done | rfl)))) | skip))
     all_goals (first | done | ((repeat' apply And.intro);all_goals (first | trivial | rfl | (simp only [LV.lit.injEq,Value.int.injEq,true_and];omega) | exact ⟨_,rfl,rfl⟩)))
    ·rintro ⟨m,hm⟩
     simp only [st]
     have hl2 := aP_len (fun i => a (s + i)) m
     have happ := aP_succ (fun i => a (s + i)) m
     have hcn : ((s : Int) + (m : Int)).toNat = s + m := by omega
     by_cases hlt : s + m < N
     ·exfalso;omega
     ·have hi0 : m = 0 := by omega
      simp only [nV_of hi0,nB_of hi0]
      subst hR
      rw [show N - s = 0 by omega]
      have hq : qc (aP (fun i => a (s + i)) 0) = [] := rfl
      rw [hq]
      (repeat (first|apply zO (by decide +kernel)|apply zP (by decide +kernel)|(apply zS;(case h=>constructor<;>decide))|((first|apply l_go rfl|apply c_dec|apply zT rfl (by decide) rfl);(case hs=>(simp (disch := first|omega|exact kD rfl|exact kX rfl) only [smY,simprocAttr,bl,i64,smT];exact rfl));first|refine c_bt ?_|refine c_bf ?_|refine zq ?_|(case hg=>assumption))))
      ((first|apply g_ret|apply g_end);case hres => (simp only [smR];simp (disch := first|omega|exact kD rfl|exact kX rfl) only [smY,simprocAttr,bl,i64,smT];exact rfl))
      simp (disch := first|omega|exact kD rfl|exact kX rfl) only [smY,simprocAttr,bl,i64,smT]
end Go.Proofs.YteecamhdbilmoaaGreatDoor
namespace Go.Proofs.YteecamhdbilmoaaGreatDoor
open Go Go.Lg Go.Num
set_option maxRecDepth 100000
attribute [local irreducible] Go.Lg.lrun Go.Lg.lwp Go.Lg.exThen Go.Lg.exBlk Go.Lg.keep Go.Lg.goodPost Go.Lg.mutPost
theorem sub_good (x y : Int) (hx : len x ≤ 549755813888) (hy : len y ≤ 549755813888) : PureGood Tryz.prog 100 [encI x,encI y] (encI (x - y)) := by
 have hy' := hy
 unfold len at hy'
 have hi := add_inner x (-y) (!decide (y < 0)) y.natAbs (by by_cases h : y < 0 <;> simp [h] <;> omega) hx hy
 rw [show x + -y = x - y by omega] at hi
 simp only [encI,bl] at hi ⊢
 refine good_of_lwp mix Tryz.func100 rfl (by decide) (nt := 13) rfl (rs := [.cell 4 43]) rfl (nle rfl) ?_
 (repeat (first|apply zO (by decide +kernel)|apply zP (by decide +kernel)|(apply zS;(case h=>constructor<;>decide))|((first|apply l_go rfl|apply c_dec);(case hs=>(simp (disch := first|omega|exact kD rfl|exact kX rfl) only [smY,simprocAttr,bl,u32,u64,i64];exact rfl));first|refine c_bt ?_|refine c_bf ?_|refine zq ?_)))
 refine l_call rfl (by decide) rfl (by simp (disch := first|omega|exact kD rfl|exact kX rfl) only [smY,simprocAttr,bl,u32,u64,i64];exact rfl) (trimmed_digs _ (by omega)) ?_
 (repeat (first|apply zO (by decide +kernel)|apply zP (by decide +kernel)|(apply zS;(case h=>constructor<;>decide))|((first|apply l_go rfl|apply c_dec|apply zT rfl (by decide) rfl);(case hs=>(simp (disch := first|omega|exact kD rfl|exact kX rfl) only [smY,simprocAttr,bl,u32,u64,i64];exact rfl));first|refine c_bt ?_|refine c_bf ?_|refine zq ?_|(case hg=>assumption))))
 ((first|apply g_ret|apply g_end);case hres => (simp only [smR];simp (disch := first|omega|exact kD rfl|exact kX rfl) only [smY,simprocAttr,bl,u32,u64,i64];exact rfl))
 simp (disch := first|omega|exact kD rfl|exact kX rfl) only [smY,simprocAttr,bl,u32,u64,i64]
end Go.Proofs.YteecamhdbilmoaaGreatDoor
namespace Go.Proofs.YteecamhdbilmoaaGreatDoor
open Go Go.Lg Go.Num
set_option maxRecDepth 100000
set_option maxHeartbeats 8000000
attribute [local irreducible] Go.Lg.lrun Go.Lg.lwp Go.Lg.exThen Go.Lg.exBlk Go.Lg.keep Go.Lg.goodPost sg mg oc mC twP tw bq kr chi eK gB
theorem term_good (d k : Nat) (hd1 : 1 ≤ d) (hd : d ≤ 1000) (hk : k ≤ 40) : PureGood Tryz.prog 99 [i64 d,i64 k] (encI ((d : Int) ^ k)) := by
 have g1 := of_good (d : Int) (by omega)
 have hb := nbits_len d
 have hdl : (digs d).length ≤ 1 := length_digs_le (k := 1) (by omega)
 have g2 := pow_good (d : Int) k (Nat.le_trans (len_pow_lt (e := 1) (by omega)) (by omega)) (by
  rw [Int.natAbs_natCast]
  by_cases h : nbits d ≤ 1
  ·exact .inl h
  ·refine .inr ((Nat.le_div_iff_mul_le (by omega)).2 ?_)
   have : k * nbits d ≤ 40 * 32 := Nat.mul_le_mul hk (by omega)
   omega) (by omega)
 generalize (d : Int) ^ k = p at *
 simp only [encI_sm,i64] at *
 refine good_of_lwp mix Tryz.func99 rfl (by decide) (nt := 15) rfl (rs := [.cell 4 43]) rfl (nle rfl) ?_
 (repeat (first|apply zO (by decide +kernel)|apply zP (by decide +kernel)|(apply zS;(case h=>constructor<;>decide))|((first|apply l_go rfl|apply c_dec|apply zT rfl (by decide) rfl);(case hs=>(simp (disch := first|omega|exact kD rfl|exact kX rfl) only [smY,simprocAttr,bl,i64,smT,smO];exact rfl));first|refine c_bt ?_|refine c_bf ?_|refine zq ?_|(case hg=>assumption))))
 ((first|apply g_ret|apply g_end);case hres => (simp only [smR];simp (disch := first|omega|exact kD rfl|exact kX rfl) only [smY,simprocAttr,bl,i64,smT,smO];exact rfl))
 simp (disch := first|omega|exact kD rfl|exact kX rfl) only [smY,simprocAttr,bl,i64,smT,smO]
theorem sum_good (k : Nat) (d1 d2 : Int) (n : Nat) (hd1 : d1 ∈ fdL) (hd2 : d2 ∈ fdL) (hk : k ≤ 40) (hn1 : 1 ≤ n) (hn : n ≤ 1000) : PureGood Tryz.prog 61 [i64 k,i64 d1,i64 d2,i64 n] (encI (tw k d1 d2 n)) := by
 have k0 : PureGood Tryz.prog 78 [i64 0] (encI (twP k d1 d2 n 0)) := by
  have e : twP k d1 d2 n 0 = 0 := by unfold twP;rfl
  rw [e]
  exact of_good 0 (by omega)
 have hl : tw k d1 d2 n = twP k d1 d2 n n := by unfold tw;rfl
 rw [hl]
 simp only [encI_sm,i64] at *
 refine good_of_lwp mix Tryz.func61 rfl (by decide) (nt := 45) rfl (rs := [.cell 8 43]) rfl (nle rfl) ?_
 (repeat (first|apply zO (by decide +kernel)|apply zP (by decide +kernel)|(apply zS;(case h=>constructor<;>decide))|((first|apply l_go rfl|apply c_dec|apply zT rfl (by decide) rfl);(case hs=>(simp (disch := first|omega|exact kD rfl|exact kX rfl) only [smY,simprocAttr,bl,i64,smT,smO];exact rfl));first|refine c_bt ?_|refine c_bf ?_|refine zq ?_|(case hg=>assumption))))
 refine w_loop (α := {j : Nat // j ≤ n}) (fun j => st 45 (lk [(0,i64 k),(1,i64 d1),(2,i64 d2),(3,i64 n),(8,.ptr 0 0),(9,.ptr 1 0),(10,i64 (j.1 + 1 : Nat))]) (lkH [(0,⟨43,[bl false,.lit (.slice none 0 0)],false⟩),(1,⟨43,[sg (twP k d1 d2 n j.1),mg (twP k d1 d2 n j.1)],false⟩)]) 2) (fun j => n - j.1) ⟨0,by omega⟩ ?_ ?_
 ·(refine Sub.heapL [0,2] rfl (by decide) ?_ (by simp only [smL];decide) ?_ ?_;all_goals (first|(simp only [plainC,smF,dg,renL,renLs,simprocAttr,bl,i64,smT,smO];done) | (simp only [smF,dg,renL,renLs,simprocAttr,bl,i64,smT,smO];(repeat' apply And.intro);all_goals rfl) | (simp only [smF,dg,renL,renLs,simprocAttr,bl,i64,smT,smO]) | skip))
  all_goals (first | done | ((repeat' apply And.intro);all_goals (first | trivial | rfl)))
 ·rintro ⟨j,hj⟩
  simp only [st]
  by_cases hjn : j < n
  ·by_cases hdv : n % (j + 1) = 0
   ·have hq1 : 1 ≤ n / (j + 1) := Nat.div_pos (Nat.le_of_dvd hn1 (Nat.dvd_of_mod_eq_zero hdv)) (by omega)
    have hq2 : n / (j + 1) ≤ n := Nat.div_le_self _ _
    have r1 := kron_good d1 hd1 (n / (j + 1)) hq1 (by omega)
    have r2 := kron_good d2 hd2 (j + 1) (by omega) (by omega)
    have v1 := isS_bd (kr_val hd1 hq1 (by omega)).2
    have v2 := isS_bd (kr_val hd2 (n := j + 1) (by omega) (by omega)).2
    have hv := chi_val hd1 hd2 hn (j := j + 1) (by omega) (by omega)
    have hce : kr d1 (n / (j + 1)) * kr d2 (j + 1) = chi d1 d2 n (j + 1) := by unfold chi;rfl
    have r3 := term_good (j + 1) k (by omega) (by omega) hk
    have b1 := len_dk' (d := j + 1) (k := k) (by omega) hk
    have b2 := len_twP (k := k) hd1 hd2 hn hk (j := j) (by omega)
    have e1 := twP_pos (k := k) (d1 := d1) (d2 := d2) hdv
    have e2 := twP_zer (k := k) (d1 := d1) (d2 := d2) hdv
    have e3 := twP_neg (k := k) (d1 := d1) (d2 := d2) hdv
    have r4 := add_good (twP k d1 d2 n j) (((j + 1 : Nat) : Int) ^ k) (by omega) (by omega)
    have r5 := sub_good (twP k d1 d2 n j) (((j + 1 : Nat) : Int) ^ k) (by omega) (by omega)
    generalize ((j + 1 : Nat) : Int) ^ k = p at *
    generalize chi d1 d2 n (j + 1) = c at *
    generalize hq : n / (j + 1) = q at *
    generalize kr d1 q = u at *
    generalize kr d2 (j + 1) = w at *
    simp only [i64] at r1 r2
    rcases hv with hc | hc | hc
    ·rw [← e1 hc] at r4
     clear e1 e2 e3 r5
     simp only [encI_sm,i64] at r3 r4
     (repeat (first|apply zO (by decide +kernel)|apply zP (by decide +kernel)|(apply zS;(case h=>constructor<;>decide))|((first|apply l_go rfl|apply c_dec|apply zT rfl (by decide) rfl);(case hs=>(simp (disch := first|omega|exact kD rfl|exact kX rfl) only [smY,simprocAttr,bl,i64,smT,smO,hq,hce];exact rfl));first|refine c_bt ?_|refine c_bf ?_|refine zq ?_|(case hg=>assumption))))
     refine ⟨⟨j + 1,by omega⟩,?_,by simp only;omega⟩
     (refine Sub.heapL [0,1] rfl (by decide) ?_ (by simp only [smL];decide) ?_ ?_;all_goals (first|(simp only [plainC,smF,dg,renL,renLs,simprocAttr,bl,i64,smT,smO];done) | (simp only [smF,dg,renL,renLs,simprocAttr,bl,i64,smT,smO];(repeat' apply And.intro);all_goals rfl) | (simp only [smF,dg,renL,renLs,simprocAttr,bl,i64,smT,smO]) | skip))
     all_goals (first | done | ((repeat' apply And.intro);all_goals (first | trivial | rfl)))
    ·have e4 := e2 hc
     clear e1 e2 e3 r4 r5
     simp only [encI_sm,i64] at r3
     (repeat (first|apply zO (by decide +kernel)|apply zP (by decide +kernel)|(apply zS;(case h=>constructor<;>decide))|((first|apply l_go rfl|apply c_dec|apply zT rfl (by decide) rfl);(case hs=>(simp (disch := first|omega|exact kD rfl|exact kX rfl) only [smY,simprocAttr,bl,i64,smT,smO,hq,hce];exact rfl));first|refine c_bt ?_|refine c_bf ?_|refine zq ?_|(case hg=>assumption))))
     refine ⟨⟨j + 1,by omega⟩,?_,by simp only;omega⟩
     simp only [e4]
     (refine Sub.heapL [0,1] rfl (by decide) ?_ (by simp only [smL];decide) ?_ ?_;all_goals (first|(simp only [plainC,smF,dg,renL,renLs,simprocAttr,bl,i64,smT,smO];done) | (simp only [smF,dg,renL,renLs,simprocAttr,bl,i64,smT,smO];(repeat' apply And.intro);all_goals rfl) | (simp only [smF,dg,renL,renLs,simprocAttr,bl,i64,smT,smO]) | skip))
     all_goals (first | done | ((repeat' apply And.intro);all_goals (first | trivial | rfl)))
    ·rw [← e3 hc] at r5
     clear e1 e2 e3 r4
     simp only [encI_sm,i64] at r3 r5
     (repeat (first|apply zO (by decide +kernel)|apply zP (by decide +kernel)|(apply zS;(case h=>constructor<;>decide))|((first|apply l_go rfl|apply c_dec|apply zT rfl (by decide) rfl);(case hs=>(simp (disch := first|omega|exact kD rfl|exact kX rfl) only [smY,simprocAttr,bl,i64,smT,smO,hq,hce];exact rfl));first|refine c_bt ?_|refine c_bf ?_|refine zq ?_|(case hg=>assumption))))
     refine ⟨⟨j + 1,by omega⟩,?_,by simp only;omega⟩
     (refine Sub.heapL [0,1] rfl (by decide) ?_ (by simp only [smL];decide) ?_ ?_;all_goals (first|(simp only [plainC,smF,dg,renL,renLs,simprocAttr,bl,i64,smT,smO];done) | (simp only [smF,dg,renL,renLs,simprocAttr,bl,i64,smT,smO];(repeat' apply And.intro);all_goals rfl) | (simp only [smF,dg,renL,renLs,simprocAttr,bl,i64,smT,smO]) | skip))
     all_goals (first | done | ((repeat' apply And.intro);all_goals (first | trivial | rfl)))
   ·have es : twP k d1 d2 n (j + 1) = twP k d1 d2 n j := twP_no hdv
    (repeat (first|apply zO (by decide +kernel)|apply zP (by decide +kernel)|(apply zS;(case h=>constructor<;>decide))|((first|apply l_go rfl|apply c_dec|apply zT rfl (by decide) rfl);(case hs=>(simp (disch := first|omega|exact kD rfl|exact kX rfl) only [smY,simprocAttr,bl,i64,smT,smO];exact rfl));first|refine c_bt ?_|refine c_bf ?_|refine zq ?_|(case hg=>assumption))))
    refine ⟨⟨j + 1,by omega⟩,?_,by simp only;omega⟩
    simp only [es]
    (refine Sub.heapL [0,1] rfl (by decide) ?_ (by simp only [smL];decide) ?_ ?_;all_goals (first|(simp only [plainC,smF,dg,renL,renLs,simprocAttr,bl,i64,smT,smO];done) | (simp only [smF,dg,renL,renLs,simprocAttr,bl,i64,smT,smO];(repeat' apply And.intro);all_goals rfl) | (simp only [smF,dg,renL,renLs,simprocAttr,bl,i64,smT,smO]) | skip))
    all_goals (first | done | ((repeat' apply And.intro);all_goals (first | trivial | rfl)))
  ·obtain rfl : j = n := by omega
   (repeat (first|apply zO (by decide +kernel)|apply zP (by decide +kernel)|(apply zS;(case h=>constructor<;>decide))|((first|apply l_go rfl|apply c_dec|apply zT rfl (by decide) rfl);(case hs=>(simp (disch := first|omega|exact kD rfl|exact kX rfl) only [smY,simprocAttr,bl,i64,smT,smO];exact rfl));first|refine c_bt ?_|refine c_bf ?_|refine zq ?_|(case hg=>assumption))))
   ((first|apply g_ret|apply g_end);case hres => (simp only [smR];simp (disch := first|omega|exact kD rfl|exact kX rfl) only [smY,simprocAttr,bl,i64,smT,smO];exact rfl))
   simp (disch := first|omega|exact kD rfl|exact kX rfl) only [smY,simprocAttr,bl,i64,smT,smO]
end Go.Proofs.YteecamhdbilmoaaGreatDoor
namespace Go.Proofs.YteecamhdbilmoaaGreatDoor
open Go Go.Lg Go.Num
set_option maxRecDepth 100000
set_option maxHeartbeats 8000000
attribute [local irreducible] Go.Lg.lrun Go.Lg.lwp Go.Lg.exThen Go.Lg.exBlk Go.Lg.keep Go.Lg.goodPost sg mg oc mC twP tw bq kr chi eK gB
theorem m2k_ne {k : Nat} (hk : 1 ≤ k) : (((-2 * (k : Int) : Int)) : Rat) ≠ 0 := by
 intro e
 have := Rat.intCast_inj.1 (e.trans Rat.intCast_zero.symm)
 omega
theorem lq_tw {k : Nat} {d1 d2 : Int} (h1 : d1 ∈ fdL) (h2 : d2 ∈ fdL) {n : Nat} (hn : n ≤ 1000) (hk : k ≤ 40) : len (tw k d1 d2 n) ≤ 14 := by
 have := len_twP (k := k) h1 h2 hn hk (Nat.le_refl n)
 unfold tw
 exact this
theorem lq_eK {k m : Nat} {d1 d2 : Int} (hk1 : 1 ≤ k) (hk : k ≤ 40) (hd1 : d1 ∈ fdL) (hd2 : d2 ∈ fdL) (hm : m ≤ 1000) : lq (eK k d1 d2 m) ≤ 410 := by
 by_cases h0 : m = 0
 ·subst h0
  by_cases e : d1 = 1
  ·subst e
   rw [eK_zero1]
   have b1 := lq_gB hk hd2
   have b2 := lq_i64 (z := -2 * (k : Int)) (by omega)
   have b3 := lq_div (gB k d2) (((-2 * (k : Int) : Int)) : Rat) (m2k_ne hk1)
   omega
  ·rw [eK_zero0 e]
   decide +kernel
 ·rw [eK_pos h0,lq_int]
  have := lq_tw (k := k - 1) hd1 hd2 hm (by omega)
  omega
theorem classical_good (k prec : Nat) (d1 d2 : Int) (hd1 : d1 ∈ fdL) (hd2 : d2 ∈ fdL) (hk1 : 2 ≤ k) (hk : k ≤ 40) (hp : prec ≤ 1000) : PureGood Tryz.prog 41 [i64 k,i64 d1,i64 d2,i64 prec] (.sl prec (qc (aP (eK k d1 d2) prec))) := by
 obtain ⟨_,hr1⟩ := fd_rng hd1
 obtain ⟨_,hr2⟩ := fd_rng hd2
 simp only [i64]
 refine good_of_lwp mix Tryz.func41 rfl (by decide) (nt := 53) rfl (rs := [.tmp 8]) rfl (nle rfl) ?_
 (repeat (first|apply zO (by decide +kernel)|apply zP (by decide +kernel)|(apply zS;(case h=>constructor<;>decide))|((first|apply l_go rfl|apply c_dec|apply zT rfl (by decide) rfl);(case hs=>(simp (disch := first|omega|exact kD rfl|exact kX rfl) only [smY,simprocAttr,bl,i64,smT,smO];exact rfl));first|refine c_bt ?_|refine c_bf ?_|refine zq ?_|(case hg=>assumption))))
 refine w_loop (α := {m : Nat // m ≤ prec}) (fun m => st 53 (lk [(0,i64 k),(1,i64 d1),(2,i64 d2),(3,i64 prec),(9,nV 0 m.1),(14,i64 prec),(15,i64 m.1)]) (lkH (nB 0 m.1 (qc (aP (eK k d1 d2) m.1)))) 1) (fun m => prec - m.1) ⟨0,by omega⟩ ?_ ?_
 ·simp only [nV_zero,nB_zero]
  (refine Sub.plain ?_;simp only [smF,dg,renL,renLs,simprocAttr,bl,i64,smT,smO])
  all_goals (first | done | ((repeat' apply And.intro);all_goals (first | trivial | rfl)))
 ·rintro ⟨m,hm⟩
  simp only [st]
  have hla := aP_len (eK k d1 d2) m
  have happ := aP_succ (eK k d1 d2) m
  by_cases hmp : m < prec
  ·by_cases h0 : m = 0
   ·simp only [nV_of h0,nB_of h0]
    subst h0
    have r0 := qof_good 0 (by omega)
    by_cases he : d1 = 1
    ·subst he
     have r1 := quadB_good hd2 k (by omega) hk
     have r2 := qof_good (-2 * (k : Int)) (by omega)
     have b1 := lq_gB hk hd2
     have b2 := lq_i64 (z := -2 * (k : Int)) (by omega)
     have r3 := quo_good (gB k d2) (((-2 * (k : Int) : Int)) : Rat) (m2k_ne (by omega)) (by omega) (by omega)
     rw [← eK_zero1] at r3
     generalize hc0 : eK k 1 d2 0 = c0 at *
     generalize gB k d2 = bk at *
     simp only [encQ_sm,i64] at r0 r1 r2 r3
     (repeat (first|apply zO (by decide +kernel)|apply zP (by decide +kernel)|(apply zS;(case h=>constructor<;>decide))|((first|apply l_go rfl|apply c_dec|apply zT rfl (by decide) rfl);(case hs=>(simp (disch := first|omega|exact kD rfl|exact kX rfl) only [smY,simprocAttr,bl,i64,smT,smO];exact rfl));first|refine c_bt ?_|refine c_bf ?_|refine zq ?_|(case hg=>assumption))))
     refine ⟨⟨0 + 1,by omega⟩,?_,by simp only;omega⟩
     simp only [nV_succ,nB_succ]
     (refine Sub.heapL [32] rfl (by decide) ?_ (by simp only [smL];decide) ?_ ?_;all_goals (first|(simp only [plainC,smF,dg,renL,renLs,simprocAttr,bl,i64,smT,smO];done) | (simp only [smF,dg,renL,renLs,simprocAttr,bl,i64,smT,smO];(repeat' apply And.intro);all_goals rfl) | (simp only [smF,dg,renL,renLs,simprocAttr,bl,i64,smT,smO]) | skip))
     all_goals (first | done | (have e : aP (eK k 1 d2) 1 = [c0] := happ;rw [e,← qc_one]))
    ·rw [show ((0 : Int) : Rat) = eK k d1 d2 0 by rw [eK_zero0 he];rfl] at r0
     generalize hc0 : eK k d1 d2 0 = c0 at *
     simp only [encQ_sm,i64] at r0
     (repeat (first|apply zO (by decide +kernel)|apply zP (by decide +kernel)|(apply zS;(case h=>constructor<;>decide))|((first|apply l_go rfl|apply c_dec|apply zT rfl (by decide) rfl);(case hs=>(simp (disch := first|omega|exact kD rfl|exact kX rfl) only [smY,simprocAttr,bl,i64,smT,smO];exact rfl));first|refine c_bt ?_|refine c_bf ?_|refine zq ?_|(case hg=>assumption))))
     refine ⟨⟨0 + 1,by omega⟩,?_,by simp only;omega⟩
     simp only [nV_succ,nB_succ]
     (refine Sub.heapL [14] rfl (by decide) ?_ (by simp only [smL];decide) ?_ ?_;all_goals (first|(simp only [plainC,smF,dg,renL,renLs,simprocAttr,bl,i64,smT,smO];done) | (simp only [smF,dg,renL,renLs,simprocAttr,bl,i64,smT,smO];(repeat' apply And.intro);all_goals rfl) | (simp only [smF,dg,renL,renLs,simprocAttr,bl,i64,smT,smO]) | skip))
     all_goals (first | done | (have e : aP (eK k d1 d2) 1 = [c0] := happ;rw [e,← qc_one]))
   ·simp only [nV_ne h0,nB_ne h0]
    have r1 := sum_good (k - 1) d1 d2 m hd1 hd2 (by omega) (by omega) (by omega)
    have b1 := lq_tw (k := k - 1) (n := m) hd1 hd2 (by omega) (by omega)
    have r2 := whole_good (tw (k - 1) d1 d2 m) (by omega)
    rw [← eK_pos h0] at r2
    have e2 : (k : Int) - 1 = ((k - 1 : Nat) : Int) := by omega
    generalize hcm : eK k d1 d2 m = cm at *
    generalize tw (k - 1) d1 d2 m = s at *
    generalize k - 1 = k' at *
    simp only [encQ_sm,encI_sm,i64] at r1 r2
    (repeat (first|apply zO (by decide +kernel)|apply zP (by decide +kernel)|(apply zS;(case h=>constructor<;>decide))|((first|apply l_go rfl|apply c_dec|apply zT rfl (by decide) rfl);(case hs=>(simp (disch := first|omega|exact kD rfl|exact kX rfl) only [smY,simprocAttr,bl,i64,smT,smO,e2];exact rfl));first|refine c_bt ?_|refine c_bf ?_|refine zq ?_|(case hg=>assumption))))
    refine ⟨⟨m + 1,by omega⟩,?_,by simp only;omega⟩
    simp only [nV_succ,nB_succ]
    (refine Sub.heapL [15] rfl (by decide) ?_ (by simp only [smL];decide) ?_ ?_;all_goals (first|(simp only [plainC,smF,dg,renL,renLs,simprocAttr,bl,i64,smT,smO];done) | (simp only [smF,dg,renL,renLs,simprocAttr,bl,i64,smT,smO];(repeat' apply And.intro);all_goals rfl) | (simp only [smF,dg,renL,renLs,simprocAttr,bl,i64,smT,smO]) | skip))
    all_goals (first | done | rw [happ,← qc_app])
  ·obtain rfl : m = prec := by omega
   by_cases h0 : m = 0
   ·simp only [nV_of h0,nB_of h0]
    subst h0
    have hq : qc (aP (eK k d1 d2) 0) = [] := rfl
    rw [hq]
    (repeat (first|apply zO (by decide +kernel)|apply zP (by decide +kernel)|(apply zS;(case h=>constructor<;>decide))|((first|apply l_go rfl|apply c_dec|apply zT rfl (by decide) rfl);(case hs=>(simp (disch := first|omega|exact kD rfl|exact kX rfl) only [smY,simprocAttr,bl,i64,smT,smO];exact rfl));first|refine c_bt ?_|refine c_bf ?_|refine zq ?_|(case hg=>assumption))))
    ((first|apply g_ret|apply g_end);case hres => (simp only [smR];simp (disch := first|omega|exact kD rfl|exact kX rfl) only [smY,simprocAttr,bl,i64,smT,smO];exact rfl))
    simp (disch := first|omega|exact kD rfl|exact kX rfl) only [smY,simprocAttr,bl,i64,smT,smO]
   ·simp only [nV_ne h0,nB_ne h0]
    (repeat (first|apply zO (by decide +kernel)|apply zP (by decide +kernel)|(apply zS;(case h=>constructor<;>decide))|((first|apply l_go rfl|apply c_dec|apply zT rfl (by decide) rfl);(case hs=>(simp (disch := first|omega|exact kD rfl|exact kX rfl) only [smY,simprocAttr,bl,i64,smT,smO];exact rfl));first|refine c_bt ?_|refine c_bf ?_|refine zq ?_|(case hg=>assumption))))
    ((first|apply g_ret|apply g_end);case hres => (simp only [smR];simp (disch := first|omega|exact kD rfl|exact kX rfl) only [smY,simprocAttr,bl,i64,smT,smO];exact rfl))
    simp (disch := first|omega|exact kD rfl|exact kX rfl) only [smY,simprocAttr,bl,i64,smT,smO]
end Go.Proofs.YteecamhdbilmoaaGreatDoor
namespace Go.Proofs.YteecamhdbilmoaaGreatDoor
open Go Go.Lg Go.Num
set_option maxRecDepth 100000
set_option maxHeartbeats 8000000
attribute [local irreducible] Go.Lg.lrun Go.Lg.lwp Go.Lg.exThen Go.Lg.exBlk Go.Lg.keep Go.Lg.goodPost sg mg oc mC twP tw bq kr chi eK gB cSer
theorem aP0 (a : Nat → Rat) : qc (aP a 0) = [] := rfl
theorem cSer_form (h : Int) (a : Nat → Rat) (N : Nat) : ∃ x M L,cSer h a N = .agg [i64 x,.sl M (qc L)] ∧ L.length = M ∧ M ≤ N ∧ x = h + ((N : Int) - M) := by
 obtain ⟨h1,_,_⟩ := ordN_spec a N
 exact ⟨_,_,_,cSer_eq rfl,aP_len _ _,by omega,by omega⟩
theorem rplain_good (k prec : Nat) (d1 d2 : Int) (hd1 : d1 ∈ fdL) (hd2 : d2 ∈ fdL) (hk1 : 2 ≤ k) (hk : k ≤ 40) (hp : prec ≤ 1000) : PureGood Tryz.prog 42 [i64 k,i64 d1,i64 d2,i64 prec] (cSer 0 (eK k d1 d2) prec) := by
 obtain ⟨_,hr1⟩ := fd_rng hd1
 obtain ⟨_,hr2⟩ := fd_rng hd2
 have rR := rResult_all 0 (eK k d1 d2) prec (by omega) (by omega) (fun i hi => Nat.le_trans (lq_eK (by omega) hk hd1 hd2 (by omega)) (by omega))
 obtain ⟨x,M,L,hR,hLM,hM,hx⟩ := cSer_form 0 (eK k d1 d2) prec
 rw [hR] at rR ⊢
 clear hR
 simp only [i64] at rR ⊢
 refine good_of_lwp mix Tryz.func42 rfl (by decide) (nt := 52) rfl (rs := [.cell 8 26]) rfl (nle rfl) ?_
 (repeat (first|apply zO (by decide +kernel)|apply zP (by decide +kernel)|(apply zS;(case h=>constructor<;>decide))|((first|apply l_go rfl|apply c_dec|apply zT rfl (by decide) rfl);(case hs=>(simp (disch := first|omega|exact kD rfl|exact kX rfl) only [smY,simprocAttr,bl,i64,smT];exact rfl));first|refine c_bt ?_|refine c_bf ?_|refine zq ?_|(case hg=>assumption))))
 refine w_loop (α := {m : Nat // m ≤ prec}) (fun m => st 52 (lk [(0,i64 k),(1,i64 d1),(2,i64 d2),(3,i64 prec),(8,.ptr 0 0),(9,nV 1 m.1),(10,i64 m.1)]) (lkH ((0,⟨26,[i64 0,nilL],false⟩) :: nB 1 m.1 (qc (aP (eK k d1 d2) m.1)))) 2) (fun m => prec - m.1) ⟨0,by omega⟩ ?_ ?_
 ·simp only [nV_zero,nB_zero]
  (refine Sub.heapL [0,99] rfl (by decide) ?_ (by simp only [smL];decide) ?_ ?_;all_goals (first|(simp only [plainC,smF,dg,renL,renLs,simprocAttr,bl,i64,smT];done) | (simp only [smF,dg,renL,renLs,simprocAttr,bl,i64,smT];(repeat' apply And.intro);all_goals rfl) | (simp only [smF,dg,renL,renLs,simprocAttr,bl,i64,smT]) | skip))
  all_goals (first | done | ((repeat' apply And.intro);all_goals (first | trivial | rfl)))
 ·rintro ⟨m,hm⟩
  simp only [st]
  have hla := aP_len (eK k d1 d2) m
  have happ := aP_succ (eK k d1 d2) m
  by_cases hmp : m < prec
  ·by_cases h0 : m = 0
   ·simp only [nV_of h0,nB_of h0]
    subst h0
    by_cases he : d1 = 1
    ·subst he
     have r1 := gen34_good hd2 k (by omega) hk
     have r2 := frac_good (-1) (2 * (k : Int)) (by omega) (by omega)
     have b1 := lq_gB hk hd2
     have b2 : lq (Rat.divInt (-1) (2 * (k : Int))) ≤ 3 := by
      obtain ⟨h1,h2⟩ := lq_divInt (n := -1) (d := 2 * (k : Int)) (by omega)
      have h3 : len (-1) ≤ 1 := len_pow_lt (e := 1) (by decide)
      have h4 : len (2 * (k : Int)) ≤ 1 := len_pow_lt (e := 1) (by omega)
      unfold lq
      omega
     have r3 := rqmul_good (Rat.divInt (-1) (2 * (k : Int))) (gB k d2) (by omega) (by omega)
     rw [neg_half,← eK_zero1] at r3
     generalize hc0 : eK k 1 d2 0 = c0 at *
     generalize Rat.divInt (-1) (2 * (k : Int)) = fr at *
     generalize gB k d2 = bk at *
     simp only [encQ_sm,i64] at r1 r2 r3
     (repeat (first|apply zO (by decide +kernel)|apply zP (by decide +kernel)|(apply zS;(case h=>constructor<;>decide))|((first|apply l_go rfl|apply c_dec|apply zT rfl (by decide) rfl);(case hs=>(simp (disch := first|omega|exact kD rfl|exact kX rfl) only [smY,simprocAttr,bl,i64,smT];exact rfl));first|refine c_bt ?_|refine c_bf ?_|refine zq ?_|(case hg=>assumption))))
     refine ⟨⟨0 + 1,by omega⟩,?_,by simp only;omega⟩
     simp only [nV_succ,nB_succ]
     (refine Sub.heapL [0,18] rfl (by decide) ?_ (by simp only [smL];decide) ?_ ?_;all_goals (first|(simp only [plainC,smF,dg,renL,renLs,simprocAttr,bl,i64,smT];done) | (simp only [smF,dg,renL,renLs,simprocAttr,bl,i64,smT];(repeat' apply And.intro);all_goals rfl) | (simp only [smF,dg,renL,renLs,simprocAttr,bl,i64,smT]) | skip))
     all_goals (first | done | (have e : aP (eK k 1 d2) 1 = [c0] := happ;rw [e,← qc_one];exact ⟨trivial,rfl⟩) | trace_state)
    ·have r0 := baseQ_good 0 (by omega)
     rw [show ((0 : Int) : Rat) = eK k d1 d2 0 by rw [eK_zero0 he];rfl] at r0
     generalize hc0 : eK k d1 d2 0 = c0 at *
     simp only [encQ_sm,i64] at r0
     (repeat (first|apply zO (by decide +kernel)|apply zP (by decide +kernel)|(apply zS;(case h=>constructor<;>decide))|((first|apply l_go rfl|apply c_dec|apply zT rfl (by decide) rfl);(case hs=>(simp (disch := first|omega|exact kD rfl|exact kX rfl) only [smY,simprocAttr,bl,i64,smT];exact rfl));first|refine c_bt ?_|refine c_bf ?_|refine zq ?_|(case hg=>assumption))))
     refine ⟨⟨0 + 1,by omega⟩,?_,by simp only;omega⟩
     simp only [nV_succ,nB_succ]
     (refine Sub.heapL [0,12] rfl (by decide) ?_ (by simp only [smL];decide) ?_ ?_;all_goals (first|(simp only [plainC,smF,dg,renL,renLs,simprocAttr,bl,i64,smT];done) | (simp only [smF,dg,renL,renLs,simprocAttr,bl,i64,smT];(repeat' apply And.intro);all_goals rfl) | (simp only [smF,dg,renL,renLs,simprocAttr,bl,i64,smT]) | skip))
     all_goals (first | done | (have e : aP (eK k d1 d2) 1 = [c0] := happ;rw [e,← qc_one];exact ⟨trivial,rfl⟩) | trace_state)
   ·simp only [nV_ne h0,nB_ne h0]
    have r1 := rsum34_good (k - 1) d1 d2 m hd1 hd2 (by omega) (by omega) (by omega)
    have b1 := lq_tw (k := k - 1) (n := m) hd1 hd2 (by omega) (by omega)
    have r2 := rwhole_good (tw (k - 1) d1 d2 m) (by omega)
    rw [← eK_pos h0] at r2
    have e2 : (k : Int) - 1 = ((k - 1 : Nat) : Int) := by omega
    generalize hcm : eK k d1 d2 m = cm at *
    generalize tw (k - 1) d1 d2 m = s at *
    generalize k - 1 = k' at *
    simp only [encQ_sm,encI_sm,i64] at r1 r2
    (repeat (first|apply zO (by decide +kernel)|apply zP (by decide +kernel)|(apply zS;(case h=>constructor<;>decide))|((first|apply l_go rfl|apply c_dec|apply zT rfl (by decide) rfl);(case hs=>(simp (disch := first|omega|exact kD rfl|exact kX rfl) only [smY,simprocAttr,bl,i64,smT,e2];exact rfl));first|refine c_bt ?_|refine c_bf ?_|refine zq ?_|(case hg=>assumption))))
    refine ⟨⟨m + 1,by omega⟩,?_,by simp only;omega⟩
    simp only [nV_succ,nB_succ]
    (refine Sub.heapL [0,16] rfl (by decide) ?_ (by simp only [smL];decide) ?_ ?_;all_goals (first|(simp only [plainC,smF,dg,renL,renLs,simprocAttr,bl,i64,smT];done) | (simp only [smF,dg,renL,renLs,simprocAttr,bl,i64,smT];(repeat' apply And.intro);all_goals rfl) | (simp only [smF,dg,renL,renLs,simprocAttr,bl,i64,smT]) | skip))
    all_goals (first | done | (rw [happ,← qc_app];exact ⟨trivial,rfl⟩) | trace_state)
  ·obtain rfl : m = prec := by omega
   by_cases h0 : m = 0
   ·simp only [nV_of h0,nB_of h0]
    subst h0
    rw [aP0] at rR
    (repeat (first|apply zO (by decide +kernel)|apply zP (by decide +kernel)|(apply zS;(case h=>constructor<;>decide))|((first|apply l_go rfl|apply c_dec|apply zT rfl (by decide) rfl);(case hs=>(simp (disch := first|omega|exact kD rfl|exact kX rfl) only [smY,simprocAttr,bl,i64,smT];exact rfl));first|refine c_bt ?_|refine c_bf ?_|refine zq ?_|(case hg=>assumption))))
    ((first|apply g_ret|apply g_end);case hres => (simp only [smR];simp (disch := first|omega|exact kD rfl|exact kX rfl) only [smY,simprocAttr,bl,i64,smT];exact rfl))
    simp (disch := first|omega|exact kD rfl|exact kX rfl) only [smY,simprocAttr,bl,i64,smT]
   ·simp only [nV_ne h0,nB_ne h0]
    (repeat (first|apply zO (by decide +kernel)|apply zP (by decide +kernel)|(apply zS;(case h=>constructor<;>decide))|((first|apply l_go rfl|apply c_dec|apply zT rfl (by decide) rfl);(case hs=>(simp (disch := first|omega|exact kD rfl|exact kX rfl) only [smY,simprocAttr,bl,i64,smT];exact rfl));first|refine c_bt ?_|refine c_bf ?_|refine zq ?_|(case hg=>assumption))))
    ((first|apply g_ret|apply g_end);case hres => (simp only [smR];simp (disch := first|omega|exact kD rfl|exact kX rfl) only [smY,simprocAttr,bl,i64,smT];exact rfl))
    simp (disch := first|omega|exact kD rfl|exact kX rfl) only [smY,simprocAttr,bl,i64,smT]
end Go.Proofs.YteecamhdbilmoaaGreatDoor
namespace Go.Proofs.YteecamhdbilmoaaGreatDoor
open Go Go.Lg Go.Num
set_option maxRecDepth 100000
set_option maxHeartbeats 8000000
attribute [local irreducible] Go.Lg.lrun Go.Lg.lwp Go.Lg.exThen Go.Lg.exBlk Go.Lg.keep Go.Lg.goodPost sg mg oc mC twP tw bq kr chi eK gB cSer oqc op oqp
theorem svalid_all (x : Int) (M : Nat) (cs : List LV) (h1 : -100 ≤ x) (h2 : x + M ≤ 1000) : PureGood Tryz.prog 66 [.agg [i64 x,.sl M cs]] (bl true) := by
 simp only [i64,bl]
 refine good_of_lwp mix Tryz.func66 rfl (by decide) (nt := 20) rfl (rs := [.tmp 2]) rfl (nle rfl) ?_
 (repeat (first|apply zO (by decide +kernel)|apply zP (by decide +kernel)|(apply zS;(case h=>constructor<;>decide))|((first|apply l_go rfl|apply c_dec|apply zT rfl (by decide) rfl);(case hs=>(simp (disch := first|omega|exact kD rfl|exact kX rfl) only [smY,simprocAttr,bl,i64,smT,smO,smM];exact rfl));first|refine c_bt ?_|refine c_bf ?_|refine zq ?_|(case hg=>assumption))))
 ((first|apply g_ret|apply g_end);case hres => (simp only [smR];simp (disch := first|omega|exact kD rfl|exact kX rfl) only [smY,simprocAttr,bl,i64,smT,smO,smM];exact rfl))
 simp (disch := first|omega|exact kD rfl|exact kX rfl) only [smY,simprocAttr,bl,i64,smT,smO,smM]
theorem tidy_all (h : Int) (o : Nat → Option Rat) (a : Nat → Rat) (N : Nat) (ha : ∀ i,i < N → a i = (o i).getD 0) (h1 : -100 ≤ h) (h2 : h + N ≤ 1000) (ba : ∀ i,i < N → lq (a i) ≤ 1000) : PureGood Tryz.prog 67 [.agg [i64 h,.sl N (op (oP o N))]] (cSer h a N) := by
 have g := build_all h o a N ha h1 h2 ba
 have hl := oP_len o N
 obtain ⟨x,M,L,hR,hLM,hM,hx⟩ := cSer_form h a N
 rw [hR] at g ⊢
 clear hR
 simp only [i64] at *
 refine good_of_lwp mix Tryz.func67 rfl (by decide) (nt := 14) rfl (rs := [.cell 2 26]) rfl (nle rfl) ?_
 (repeat (first|apply zO (by decide +kernel)|apply zP (by decide +kernel)|(apply zS;(case h=>constructor<;>decide))|((first|apply l_go rfl|apply c_dec|apply zT rfl (by decide) rfl);(case hs=>(simp (disch := first|omega|exact kD rfl|exact kX rfl) only [smY,simprocAttr,bl,i64,smT,smO,smM];exact rfl));first|refine c_bt ?_|refine c_bf ?_|refine zq ?_|(case hg=>assumption))))
 ((first|apply g_ret|apply g_end);case hres => (simp only [smR];simp (disch := first|omega|exact kD rfl|exact kX rfl) only [smY,simprocAttr,bl,i64,smT,smO,smM];exact rfl))
 simp (disch := first|omega|exact kD rfl|exact kX rfl) only [smY,simprocAttr,bl,i64,smT,smO,smM]
theorem snormal_all (h : Int) (o : Nat → Option Rat) (a : Nat → Rat) (N : Nat) (ha : ∀ i,i < N → a i = (o i).getD 0) (h1 : -100 ≤ h) (h2 : h + N ≤ 1000) (ba : ∀ i,i < N → lq (a i) ≤ 1000) : PureGood Tryz.prog 40 [.agg [i64 h,.sl N (op (oP o N))]] (.tup [cSer h a N,i64 0]) := by
 have g2 := tidy_all h o a N ha h1 h2 ba
 have g1 := svalid_all h N (op (oP o N)) h1 h2
 have hl := oP_len o N
 obtain ⟨x,M,L,hR,hLM,hM,hx⟩ := cSer_form h a N
 rw [hR] at g2 ⊢
 clear hR
 simp only [i64,bl] at *
 refine good_of_lwp mix Tryz.func40 rfl (by decide) (nt := 10) rfl (rs := [.cell 2 26,.tmp 3]) rfl (nle rfl) ?_
 (repeat (first|apply zO (by decide +kernel)|apply zP (by decide +kernel)|(apply zS;(case h=>constructor<;>decide))|((first|apply l_go rfl|apply c_dec|apply zT rfl (by decide) rfl);(case hs=>(simp (disch := first|omega|exact kD rfl|exact kX rfl) only [smY,simprocAttr,bl,i64,smT,smO,smM];exact rfl));first|refine c_bt ?_|refine c_bf ?_|refine zq ?_|(case hg=>assumption))))
 ((first|apply g_ret|apply g_end);case hres => (simp only [smR];simp (disch := first|omega|exact kD rfl|exact kX rfl) only [smY,simprocAttr,bl,i64,smT,smO,smM];exact rfl))
 simp (disch := first|omega|exact kD rfl|exact kX rfl) only [smY,simprocAttr,bl,i64,smT,smO,smM]
theorem qmul_none (q : Rat) (h : lq q ≤ 1000) : PureGood Tryz.prog 70 [encQ q,.agg [.lit (.bool false),.sl 0 [],.lit (.bool false),.sl 0 []]] (encQ 0) := by
 have e0 : encI 0 = .agg [.lit (.bool false),.sl 0 []] := by with_unfolding_all rfl
 have hz : len 0 = 0 := by simp [len,digs_zero]
 have h1 := mul_good q.num 0 (by unfold lq at h;omega) (by omega)
 have h2 := mul_good (q.den : Int) 0 (by unfold lq at h;omega) (by omega)
 have h3 := over_good 0 0 (by omega) (by omega)
 rw [Int.mul_zero] at h1 h2
 rw [show Rat.divInt 0 0 = 0 from rfl] at h3
 rw [e0] at h1 h2 h3
 simp only [encQ_sm,encI_sm] at *
 refine good_of_lwp mix Tryz.func70 rfl (by decide) (nt := 16) rfl (rs := [.cell 4 45]) rfl (nle rfl) ?_
 (repeat (first|apply zO (by decide +kernel)|apply zP (by decide +kernel)|(apply zS;(case h=>constructor<;>decide))|((first|apply l_go rfl|apply c_dec|apply zT rfl (by decide) rfl);(case hs=>(simp (disch := first|omega|exact kD rfl|exact kX rfl) only [smY,simprocAttr,bl,i64,smT,smO,smM];exact rfl));first|refine c_bt ?_|refine c_bf ?_|refine zq ?_|(case hg=>assumption))))
 ((first|apply g_ret|apply g_end);case hres => (simp only [smR];simp (disch := first|omega|exact kD rfl|exact kX rfl) only [smY,simprocAttr,bl,i64,smT,smO,smM];exact rfl))
 simp (disch := first|omega|exact kD rfl|exact kX rfl) only [smY,simprocAttr,bl,i64,smT,smO,smM]
theorem oc_take' {l : List (Option Rat)} {m : Nat} (h : m = l.length * 4) : (oc l).take m = oc l := List.take_of_length_le (by rw [oc_len];omega)
def upT (a : Nat → Rat) (t n : Nat) : Rat := if n % t = 0 then a (n / t) else 0
def upO (a : Nat → Rat) (t n : Nat) : Option Rat := if n % t = 0 then some (a (n / t)) else none
theorem upO_get (a : Nat → Rat) (t n : Nat) : (upO a t n).getD 0 = upT a t n := by unfold upO upT;split <;> rfl
def stO (w : Nat → Option Rat) (m n : Nat) : Option Rat := if n < m then w n else none
theorem stO_zero (w : Nat → Option Rat) (N : Nat) : oP (stO w 0) N = List.replicate N none := by
 apply List.ext_getElem
 ·simp [oP]
 ·intro i h1 h2
  simp [oP,stO]
theorem stO_all (w : Nat → Option Rat) (N : Nat) : oP (stO w N) N = oP w N := by
 apply List.ext_getElem
 ·simp [oP]
 ·intro i h1 h2
  simp [oP] at h1
  simp [oP,stO,h1]
theorem stO_none {w : Nat → Option Rat} {m N : Nat} (h : w m = none) : oP (stO w (m + 1)) N = oP (stO w m) N := by
 apply List.ext_getElem
 ·simp [oP]
 ·intro i h1 h2
  simp only [oP,stO,List.getElem_map,List.getElem_range]
  by_cases e : i = m
  ·subst e;rw [if_pos (by omega),if_neg (by omega),h]
  ·by_cases e2 : i < m
   ·rw [if_pos (by omega),if_pos (by omega)]
   ·rw [if_neg (by omega),if_neg (by omega)]
theorem stO_set {w : Nat → Option Rat} {m N : Nat} {q : Rat} (h : w m = some q) : (oP (stO w m) N).set m (some q) = oP (stO w (m + 1)) N := by
 apply List.ext_getElem
 ·simp [oP]
 ·intro i h1 h2
  simp only [List.getElem_set,oP,stO,List.getElem_map,List.getElem_range]
  by_cases e : m = i
  ·subst e;rw [if_pos rfl,if_pos (by omega),h]
  ·rw [if_neg e]
   by_cases e2 : i < m
   ·rw [if_pos (by omega),if_pos (by omega)]
   ·rw [if_neg (by omega),if_neg (by omega)]
theorem stO_get {w : Nat → Option Rat} {m N : Nat} (h : m < N) : (oP (stO w m) N).getD m none = none := by
 rw [oP_get h,stO,if_neg (by omega)]
theorem raise0_good (a : Nat → Rat) (N t : Nat) (hN : N ≤ 1000) (ht1 : 1 ≤ t) (ht : t ≤ 1000) : PureGood Tryz.prog 50 [.sl N (qc (aP a N)),i64 t,bl false] (.sl N (op (oP (upO a t) N))) := by
 have hl := aP_len a N
 have hl2 : ∀ m,(oP (stO (upO a t) m) N).length = N := fun m => oP_len _ _
 rw [← stO_all (upO a t) N]
 simp only [i64,bl] at *
 refine good_of_lwp mix Tryz.func50 rfl (by decide) (nt := 48) rfl (rs := [.tmp 6]) rfl (nle rfl) ?_
 (repeat (first|apply zO (by decide +kernel)|apply zP (by decide +kernel)|(apply zS;(case h=>constructor<;>decide))|((first|apply l_go rfl|apply c_dec|apply zT rfl (by decide) rfl);(case hs=>(simp (disch := first|omega|exact kD rfl|exact kX rfl) only [smY,simprocAttr,bl,i64,smT,smO,hl2,@pvs_oc,@oc_take'];exact rfl));first|refine c_bt ?_|refine c_bf ?_|refine zq ?_|(case hg=>assumption))))
 refine w_loop (α := {n : Nat // n ≤ N}) (fun n => st 48 (lk [(0,.sl N (qc (aP a N))),(1,i64 t),(2,bl false),(7,.own 0 0 N 4),(13,i64 N),(14,i64 n.1)]) (lkH [(0,⟨45,oc (oP (stO (upO a t) n.1) N),false⟩)]) 1) (fun n => N - n.1) ⟨0,by omega⟩ ?_ ?_
 ·simp only [stO_zero]
  (refine Sub.heap1 3 ?_ (by simp only [smF,dg,renL,renLs,simprocAttr,bl,i64,smT,smO,hl2,@pvs_oc,@oc_take'];exact rfl) ?_ ?_;all_goals (first | exact dgs_plain _ | with_reducible rfl | (simp only [smF,dg,renL,renLs,simprocAttr,bl,i64,smT,smO,hl2,@pvs_oc,@oc_take'];done) | (simp only [smF,dg,renL,renLs,simprocAttr,bl,i64,smT,smO,hl2,@pvs_oc,@oc_take']) | skip))
  all_goals (first | done | (rw [oc_zeros]) | trace_state)
 ·rintro ⟨n,hn⟩
  simp only [st]
  by_cases hlt : n < N
  ·have hq : n / t ≤ n := Nat.div_le_self _ _
   have e1 : (aP a N).getD (n / t) 0 = a (n / t) := aP_get (by omega)
   by_cases hd : n % t = 0
   ·have hw : upO a t n = some (a (n / t)) := if_pos hd
    have hs := stO_set (N := N) hw
    have hos := oc_set (l := oP (stO (upO a t) n) N) (j := n) (by rw [oP_len];exact hlt) (a (n / t))
    rw [hs] at hos
    generalize a (n / t) = av at *
    generalize hqv : n / t = q at *
    (repeat (first|apply zO (by decide +kernel)|apply zP (by decide +kernel)|(apply zS;(case h=>constructor<;>decide))|((first|apply l_go rfl|apply c_dec|apply zT rfl (by decide) rfl);(case hs=>(simp (disch := first|omega|exact kD rfl|exact kX rfl) only [smY,simprocAttr,bl,i64,smT,smO,hl2,@pvs_oc,@oc_take',e1,hqv];exact rfl));first|refine c_bt ?_|refine c_bf ?_|refine zq ?_|(case hg=>assumption))))
    refine ⟨⟨n + 1,by omega⟩,?_,by simp only;omega⟩
    (refine Sub.heap1 0 ?_ (by simp only [smF,dg,renL,renLs,simprocAttr,bl,i64,smT,smO,hl2,@pvs_oc,@oc_take'];exact rfl) ?_ ?_;all_goals (first | exact dgs_plain _ | with_reducible rfl | (simp only [smF,dg,renL,renLs,simprocAttr,bl,i64,smT,smO,hl2,@pvs_oc,@oc_take'];done) | (simp only [smF,dg,renL,renLs,simprocAttr,bl,i64,smT,smO,hl2,@pvs_oc,@oc_take']) | skip))
    all_goals (first | done | exact hos | trace_state)
   ·have hw : upO a t n = none := if_neg hd
    have hs := stO_none (N := N) hw
    (repeat (first|apply zO (by decide +kernel)|apply zP (by decide +kernel)|(apply zS;(case h=>constructor<;>decide))|((first|apply l_go rfl|apply c_dec|apply zT rfl (by decide) rfl);(case hs=>(simp (disch := first|omega|exact kD rfl|exact kX rfl) only [smY,simprocAttr,bl,i64,smT,smO,hl2,@pvs_oc,@oc_take'];exact rfl));first|refine c_bt ?_|refine c_bf ?_|refine zq ?_|(case hg=>assumption))))
    refine ⟨⟨n + 1,by omega⟩,?_,by simp only;omega⟩
    simp only [hs]
    (refine Sub.heap1 0 ?_ (by simp only [smF,dg,renL,renLs,simprocAttr,bl,i64,smT,smO,hl2,@pvs_oc,@oc_take'];exact rfl) ?_ ?_;all_goals (first | exact dgs_plain _ | with_reducible rfl | (simp only [smF,dg,renL,renLs,simprocAttr,bl,i64,smT,smO,hl2,@pvs_oc,@oc_take'];done) | (simp only [smF,dg,renL,renLs,simprocAttr,bl,i64,smT,smO,hl2,@pvs_oc,@oc_take']) | skip))
    all_goals (first | done | exact hos | trace_state)
  ·obtain rfl : n = N := by omega
   have htk : (oc (oP (stO (upO a t) n) n)).take (n * 4) = oc (oP (stO (upO a t) n) n) := oc_take' (by rw [oP_len])
   (repeat (first|apply zO (by decide +kernel)|apply zP (by decide +kernel)|(apply zS;(case h=>constructor<;>decide))|((first|apply l_go rfl|apply c_dec|apply zT rfl (by decide) rfl);(case hs=>(simp (disch := first|omega|exact kD rfl|exact kX rfl) only [smY,simprocAttr,bl,i64,smT,smO,hl2,@pvs_oc,htk];exact rfl));first|refine c_bt ?_|refine c_bf ?_|refine zq ?_|(case hg=>assumption))))
   ((first|apply g_ret|apply g_end);case hres => (simp only [smR];simp (disch := first|omega|exact kD rfl|exact kX rfl) only [smY,simprocAttr,bl,i64,smT,smO,hl2,@pvs_oc,htk];exact rfl))
   simp (disch := first|omega|exact kD rfl|exact kX rfl) only [smY,simprocAttr,bl,i64,smT,smO,hl2,@pvs_oc,htk]
def dfT (a : Nat → Rat) (t n : Nat) : Rat := a n - ((t : Int) : Rat) * upT a t n
def dfO (a : Nat → Rat) (t n : Nat) : Option Rat := some (dfT a t n)
theorem raise1_good (a : Nat → Rat) (N t : Nat) (hN : N ≤ 1000) (ht1 : 1 ≤ t) (ht : t ≤ 1000) (ba : ∀ i,i < N → lq (a i) ≤ 1000) : PureGood Tryz.prog 50 [.sl N (qc (aP a N)),i64 t,bl true] (.sl N (qc (aP (dfT a t) N))) := by
 have hl := aP_len a N
 have hl2 : ∀ m,(oP (stO (dfO a t) m) N).length = N := fun m => oP_len _ _
 have g1 := qof_good (t : Int) (by omega)
 have b1 := lq_i64 (z := (t : Int)) (by omega)
 rw [← aP_oP (dfT a t),show (fun i => some (dfT a t i)) = dfO a t from rfl,← stO_all (dfO a t) N]
 simp only [i64,bl,encQ_sm] at *
 refine good_of_lwp mix Tryz.func50 rfl (by decide) (nt := 48) rfl (rs := [.tmp 6]) rfl (nle rfl) ?_
 (repeat (first|apply zO (by decide +kernel)|apply zP (by decide +kernel)|(apply zS;(case h=>constructor<;>decide))|((first|apply l_go rfl|apply c_dec|apply zT rfl (by decide) rfl);(case hs=>(simp (disch := first|omega|exact kD rfl|exact kX rfl) only [smY,simprocAttr,bl,i64,smT,smO,hl2];exact rfl));first|refine c_bt ?_|refine c_bf ?_|refine zq ?_|(case hg=>assumption))))
 refine w_loop (α := {n : Nat // n ≤ N}) (fun n => st 48 (lk [(0,.sl N (qc (aP a N))),(1,i64 t),(2,bl true),(7,.own 0 0 N 4),(13,i64 N),(14,i64 n.1)]) (lkH [(0,⟨45,oc (oP (stO (dfO a t) n.1) N),false⟩)]) 1) (fun n => N - n.1) ⟨0,by omega⟩ ?_ ?_
 ·simp only [stO_zero]
  (refine Sub.heap1 3 ?_ (by simp only [smF,dg,renL,renLs,simprocAttr,bl,i64,smT,smO,hl2];exact rfl) ?_ ?_;all_goals (first | exact dgs_plain _ | with_reducible rfl | (simp only [smF,dg,renL,renLs,simprocAttr,bl,i64,smT,smO,hl2];done) | (simp only [smF,dg,renL,renLs,simprocAttr,bl,i64,smT,smO,hl2]) | skip))
  all_goals (first | done | (rw [oc_zeros]) | trace_state)
 ·rintro ⟨n,hn⟩
  simp only [st]
  by_cases hlt : n < N
  ·have hq : n / t ≤ n := Nat.div_le_self _ _
   have e1 : (aP a N).getD (n / t) 0 = a (n / t) := aP_get (by omega)
   have e2 : (aP a N).getD n 0 = a n := aP_get hlt
   have b2 := ba n hlt
   have b3 := ba (n / t) (by omega)
   by_cases hd : n % t = 0
   ·have hu : upT a t n = a (n / t) := if_pos hd
    have b4 := lq_mul ((t : Int) : Rat) (a (n / t))
    have g2 := qmul_good ((t : Int) : Rat) (a (n / t)) (by omega) (by omega)
    have g3 := qsub_good (a n) (((t : Int) : Rat) * a (n / t)) (by omega) (by omega)
    have hw : dfO a t n = some (a n - ((t : Int) : Rat) * a (n / t)) := by rw [← hu];rfl
    have hs := stO_set (N := N) hw
    have ho1 := oc_set (l := oP (stO (dfO a t) n) N) (j := n) (by rw [oP_len];exact hlt) (a (n / t))
    have hln : ((oP (stO (dfO a t) n) N).set n (some (a (n / t)))).length = N := by rw [List.length_set,oP_len]
    have hgd : ((oP (stO (dfO a t) n) N).set n (some (a (n / t)))).getD n none = some (a (n / t)) := by
     rw [List.getD_eq_getElem?_getD,List.getElem?_set_self (by rw [oP_len];exact hlt)];rfl
    have ho2 := oc_set (l := (oP (stO (dfO a t) n) N).set n (some (a (n / t)))) (j := n) (by rw [hln];exact hlt) (a n - ((t : Int) : Rat) * a (n / t))
    rw [List.set_set,hs] at ho2
    clear hw hs b4
    generalize hS : (oP (stO (dfO a t) n) N).set n (some (a (n / t))) = S1 at *
    generalize a n - ((t : Int) : Rat) * a (n / t) = dv at *
    generalize ((t : Int) : Rat) * a (n / t) = mv at *
    generalize a (n / t) = av at *
    generalize a n = an at *
    generalize hqv : n / t = q at *
    simp only [encQ_sm] at g2 g3
    (repeat (first|apply zO (by decide +kernel)|apply zP (by decide +kernel)|(apply zS;(case h=>constructor<;>decide))|((first|apply l_go rfl|apply c_dec|apply zT rfl (by decide) rfl);(case hs=>(simp (disch := first|omega|exact kD rfl|exact kX rfl) only [smY,simprocAttr,bl,i64,smT,smO,hl2,e1,e2,hqv,ho1,hln,hgd];exact rfl));first|refine c_bt ?_|refine c_bf ?_|refine zq ?_|(case hg=>assumption))))
    refine ⟨⟨n + 1,by omega⟩,?_,by simp only;omega⟩
    (refine Sub.heap1 0 ?_ (by simp only [smF,dg,renL,renLs,simprocAttr,bl,i64,smT,smO,hl2];exact rfl) ?_ ?_;all_goals (first | exact dgs_plain _ | with_reducible rfl | (simp only [smF,dg,renL,renLs,simprocAttr,bl,i64,smT,smO,hl2];done) | (simp only [smF,dg,renL,renLs,simprocAttr,bl,i64,smT,smO,hl2]) | skip))
    all_goals (first | done | exact ho2 | trace_state)
   ·have hu : upT a t n = 0 := if_neg hd
    have g2 := qmul_none ((t : Int) : Rat) (by omega)
    have g3 := qsub_good (a n) 0 (by omega) (by have : lq 0 ≤ 3 := by decide +kernel
                                                omega)
    have hw : dfO a t n = some (a n - 0) := by
     show some (a n - ((t : Int) : Rat) * upT a t n) = _
     rw [hu,Rat.mul_zero]
    have hs := stO_set (N := N) hw
    have ho2 := oc_set (l := oP (stO (dfO a t) n) N) (j := n) (by rw [oP_len];exact hlt) (a n - 0)
    have hgd : ((oc (oP (stO (dfO a t) n) N)).drop (n * 4)).take 4 = [.lit (.bool false),.lit (.slice none 0 0),.lit (.bool false),.lit (.slice none 0 0)] := by
     rw [oc_td (by rw [oP_len];exact hlt),stO_get hlt,oqc_none]
    rw [hs] at ho2
    clear hw hs
    generalize a n - 0 = dv at *
    generalize a n = an at *
    simp only [encQ_sm] at g2 g3
    (repeat (first|apply zO (by decide +kernel)|apply zP (by decide +kernel)|(apply zS;(case h=>constructor<;>decide))|((first|apply l_go rfl|apply c_dec|apply zT rfl (by decide) rfl);(case hs=>(simp (disch := first|omega|exact kD rfl|exact kX rfl) only [smY,simprocAttr,bl,i64,smT,smO,hl2,e2,hgd];exact rfl));first|refine c_bt ?_|refine c_bf ?_|refine zq ?_|(case hg=>assumption))))
    refine ⟨⟨n + 1,by omega⟩,?_,by simp only;omega⟩
    (refine Sub.heap1 0 ?_ (by simp only [smF,dg,renL,renLs,simprocAttr,bl,i64,smT,smO,hl2];exact rfl) ?_ ?_;all_goals (first | exact dgs_plain _ | with_reducible rfl | (simp only [smF,dg,renL,renLs,simprocAttr,bl,i64,smT,smO,hl2];done) | (simp only [smF,dg,renL,renLs,simprocAttr,bl,i64,smT,smO,hl2]) | skip))
    all_goals (first | done | exact ho2 | trace_state)
  ·obtain rfl : n = N := by omega
   have htk : (oc (oP (stO (dfO a t) n) n)).take (n * 4) = oc (oP (stO (dfO a t) n) n) := oc_take' (by rw [oP_len])
   (repeat (first|apply zO (by decide +kernel)|apply zP (by decide +kernel)|(apply zS;(case h=>constructor<;>decide))|((first|apply l_go rfl|apply c_dec|apply zT rfl (by decide) rfl);(case hs=>(simp (disch := first|omega|exact kD rfl|exact kX rfl) only [smY,simprocAttr,bl,i64,smT,smO,hl2,@pvs_oc,htk];exact rfl));first|refine c_bt ?_|refine c_bf ?_|refine zq ?_|(case hg=>assumption))))
   ((first|apply g_ret|apply g_end);case hres => (simp only [smR];simp (disch := first|omega|exact kD rfl|exact kX rfl) only [smY,simprocAttr,bl,i64,smT,smO,hl2,@pvs_oc,htk];exact rfl))
   simp (disch := first|omega|exact kD rfl|exact kX rfl) only [smY,simprocAttr,bl,i64,smT,smO,hl2,@pvs_oc,htk]
end Go.Proofs.YteecamhdbilmoaaGreatDoor
namespace Go.Proofs.YteecamhdbilmoaaGreatDoor
open Go Go.Lg Go.Num
set_option maxRecDepth 100000
set_option maxHeartbeats 8000000
attribute [local irreducible] Go.Lg.lrun Go.Lg.lwp Go.Lg.exThen Go.Lg.exBlk Go.Lg.keep Go.Lg.goodPost sg mg oc mC twP tw bq kr chi eK gB cSer
theorem lq_0 : lq 0 ≤ 3 := by decide +kernel
theorem rcheckA_good (x : Int) (M : Nat) (cs : List LV) (h1 : -100 ≤ x) (h2 : x + M ≤ 1000) : PureGood Tryz.prog 84 [.agg [i64 x,.sl M cs]] (i64 0) := by
 simp only [i64]
 refine good_of_lwp mix Tryz.func84 rfl (by decide) (nt := 20) rfl (rs := [.tmp 2]) rfl (nle rfl) ?_
 (repeat (first|apply zO (by decide +kernel)|apply zP (by decide +kernel)|(apply zS;(case h=>constructor<;>decide))|((first|apply l_go rfl|apply c_dec|apply zT rfl (by decide) rfl);(case hs=>(simp (disch := first|omega|exact kD rfl|exact kX rfl) only [smY,simprocAttr,bl,i64,smT];exact rfl));first|refine c_bt ?_|refine c_bf ?_|refine zq ?_|(case hg=>assumption))))
 ((first|apply g_ret|apply g_end);case hres => (simp only [smR];simp (disch := first|omega|exact kD rfl|exact kX rfl) only [smY,simprocAttr,bl,i64,smT];exact rfl))
 simp (disch := first|omega|exact kD rfl|exact kX rfl) only [smY,simprocAttr,bl,i64,smT]
theorem rtwoA_good (x y : Int) (M N : Nat) (cs ds : List LV) (h1 : -100 ≤ x) (h2 : x + M ≤ 1000) (h3 : -100 ≤ y) (h4 : y + N ≤ 1000) (hc : (∀ c ∈ cs,pureC c = true)) : PureGood Tryz.prog 128 [.agg [i64 x,.sl M cs],.agg [i64 y,.sl N ds]] (i64 0) := by
 have g1 := rcheckA_good x M cs h1 h2
 have g2 := rcheckA_good y N ds h3 h4
 simp only [i64] at *
 refine good_of_lwp mix Tryz.func128 rfl (by decide) (nt := 13) rfl (rs := [.tmp 4]) rfl (nle rfl) ?_
 (repeat (first|apply zO (by decide +kernel)|apply zP (by decide +kernel)|(apply zS;(case h=>constructor<;>decide))|((first|apply l_go rfl|apply c_dec|apply zT rfl (by decide) rfl);(case hs=>(simp (disch := first|omega|exact kD rfl|exact kX rfl) only [smY,simprocAttr,bl,i64,smT];exact rfl));first|refine c_bt ?_|refine c_bf ?_|refine zq ?_|(case hg=>assumption))))
 ((first|apply g_ret|apply g_end);case hres => (simp only [smR];simp (disch := first|omega|exact kD rfl|exact kX rfl) only [smY,simprocAttr,bl,i64,smT];exact rfl))
 simp (disch := first|omega|exact kD rfl|exact kX rfl) only [smY,simprocAttr,bl,i64,smT]
theorem rempty_good (x : Int) (h1 : -1000000 ≤ x ∧ x ≤ 1000000) : PureGood Tryz.prog 126 [i64 x] (.agg [i64 x,.sl 0 []]) := by
 simp only [i64] at *
 refine good_of_lwp mix Tryz.func126 rfl (by decide) (nt := 5) rfl (rs := [.cell 2 26]) rfl (nle rfl) ?_
 (repeat (first|apply zO (by decide +kernel)|apply zP (by decide +kernel)|(apply zS;(case h=>constructor<;>decide))|((first|apply l_go rfl|apply c_dec|apply zT rfl (by decide) rfl);(case hs=>(simp (disch := first|omega|exact kD rfl|exact kX rfl) only [smY,simprocAttr,bl,i64,smT];exact rfl));first|refine c_bt ?_|refine c_bf ?_|refine zq ?_|(case hg=>assumption))))
 ((first|apply g_ret|apply g_end);case hres => (simp only [smR];simp (disch := first|omega|exact kD rfl|exact kX rfl) only [smY,simprocAttr,bl,i64,smT];exact rfl))
 simp (disch := first|omega|exact kD rfl|exact kX rfl) only [smY,simprocAttr,bl,i64,smT]
theorem rprec_good (x : Int) (M : Nat) (cs : List LV) (h1 : -100 ≤ x) (h2 : x + M ≤ 1000) : PureGood Tryz.prog 127 [.agg [i64 x,.sl M cs]] (i64 (x + M)) := by
 simp only [i64] at *
 refine good_of_lwp mix Tryz.func127 rfl (by decide) (nt := 9) rfl (rs := [.tmp 2]) rfl (nle rfl) ?_
 (repeat (first|apply zO (by decide +kernel)|apply zP (by decide +kernel)|(apply zS;(case h=>constructor<;>decide))|((first|apply l_go rfl|apply c_dec|apply zT rfl (by decide) rfl);(case hs=>(simp (disch := first|omega|exact kD rfl|exact kX rfl) only [smY,simprocAttr,bl,i64,smT];exact rfl));first|refine c_bt ?_|refine c_bf ?_|refine zq ?_|(case hg=>assumption))))
 ((first|apply g_ret|apply g_end);case hres => (simp only [smR];simp (disch := first|omega|exact kD rfl|exact kX rfl) only [smY,simprocAttr,bl,i64,smT];exact rfl))
 simp (disch := first|omega|exact kD rfl|exact kX rfl) only [smY,simprocAttr,bl,i64,smT]
theorem rstride_good (d : Nat) (h1 : 1 ≤ d) (h2 : d ≤ 1000) : PureGood Tryz.prog 124 [i64 d] (bl false) := by
 simp only [i64,bl] at *
 refine good_of_lwp mix Tryz.func124 rfl (by decide) (nt := 9) rfl (rs := [.tmp 2]) rfl (nle rfl) ?_
 (repeat (first|apply zO (by decide +kernel)|apply zP (by decide +kernel)|(apply zS;(case h=>constructor<;>decide))|((first|apply l_go rfl|apply c_dec|apply zT rfl (by decide) rfl);(case hs=>(simp (disch := first|omega|exact kD rfl|exact kX rfl) only [smY,simprocAttr,bl,i64,smT];exact rfl));first|refine c_bt ?_|refine c_bf ?_|refine zq ?_|(case hg=>assumption))))
 ((first|apply g_ret|apply g_end);case hres => (simp only [smR];simp (disch := first|omega|exact kD rfl|exact kX rfl) only [smY,simprocAttr,bl,i64,smT];exact rfl))
 simp (disch := first|omega|exact kD rfl|exact kX rfl) only [smY,simprocAttr,bl,i64,smT]
theorem bmodN_good (n d : Nat) (hn : n ≤ 10000000) (h1 : 1 ≤ d) (h2 : d ≤ 10000000) : PureGood Tryz.prog 18 [i64 n,i64 d] (i64 ((n % d : Nat) : Int)) := by
 have := Nat.mod_lt n (show 0 < d by omega)
 simp only [i64] at *
 refine good_of_lwp mix Tryz.func18 rfl (by decide) (nt := 15) rfl (rs := [.tmp 4]) rfl (nle rfl) ?_
 (repeat (first|apply zO (by decide +kernel)|apply zP (by decide +kernel)|(apply zS;(case h=>constructor<;>decide))|((first|apply l_go rfl|apply c_dec|apply zT rfl (by decide) rfl);(case hs=>(simp (disch := first|omega|exact kD rfl|exact kX rfl) only [smY,simprocAttr,bl,i64,smT];exact rfl));first|refine c_bt ?_|refine c_bf ?_|refine zq ?_|(case hg=>assumption))))
 ((first|apply g_ret|apply g_end);case hres => (simp only [smR];simp (disch := first|omega|exact kD rfl|exact kX rfl) only [smY,simprocAttr,bl,i64,smT];exact rfl))
 simp (disch := first|omega|exact kD rfl|exact kX rfl) only [smY,simprocAttr,bl,i64,smT]
theorem rord_good (o M : Nat) (a : Nat → Rat) (h2 : o + M ≤ 1000) (ha : 0 < M → a o ≠ 0) (hb : 0 < M → lq (a o) ≤ 1000) : PureGood Tryz.prog 125 [.agg [i64 o,.sl M (qc (aP (fun i => a (o + i)) M))]] (i64 o) := by
 have hl := aP_len (fun i => a (o + i)) M
 have gp := rprec_good o M (qc (aP (fun i => a (o + i)) M)) (by omega) (by omega)
 simp only [i64,bl] at *
 refine good_of_lwp mix Tryz.func125 rfl (by decide) (nt := 24) rfl (rs := [.tmp 2]) rfl (nle rfl) ?_
 (repeat (first|apply zO (by decide +kernel)|apply zP (by decide +kernel)|(apply zS;(case h=>constructor<;>decide))|((first|apply l_go rfl|apply c_dec|apply zT rfl (by decide) rfl);(case hs=>(simp (disch := first|omega|exact kD rfl|exact kX rfl) only [smY,simprocAttr,bl,i64,smT];exact rfl));first|refine c_bt ?_|refine c_bf ?_|refine zq ?_|(case hg=>assumption))))
 refine w_loop (α := Unit) (fun _ => st 24 (lk [(1,.ptr 0 0),(3,i64 0)]) (lkH [(0,⟨26,[i64 o,.sl M (qc (aP (fun i => a (o + i)) M))],false⟩)]) 1) (fun _ => 0) () ?_ ?_
 ·(refine Sub.heap1 0 ?_ (by simp only [smF,dg,renL,renLs,simprocAttr,bl,i64,smT];exact rfl) ?_ ?_;all_goals (first | exact dgs_plain _ | with_reducible rfl | (simp only [smF,dg,renL,renLs,simprocAttr,bl,i64,smT];done) | (simp only [smF,dg,renL,renLs,simprocAttr,bl,i64,smT]) | skip))
  all_goals (first | exact ⟨rfl,rfl⟩ | simp)
 ·rintro ⟨⟩
  simp only [st]
  by_cases hM : 0 < M
  ·have e1 : (aP (fun i => a (o + i)) M).getD 0 0 = a o := aP_get hM
   have gz := rzero_all (a o) (hb hM)
   rw [dec_f (ha hM)] at gz
   generalize a o = q at gz e1
   simp only [encQ_sm,bl] at gz
   (repeat (first|apply zO (by decide +kernel)|apply zP (by decide +kernel)|(apply zS;(case h=>constructor<;>decide))|((first|apply l_go rfl|apply c_dec|apply zT rfl (by decide) rfl);(case hs=>(simp (disch := first|omega|exact kD rfl|exact kX rfl) only [smY,simprocAttr,bl,i64,smT,e1,Int.add_zero];exact rfl));first|refine c_bt ?_|refine c_bf ?_|refine zq ?_|(case hg=>assumption))))
   ((first|apply g_ret|apply g_end);case hres => (simp only [smR];simp (disch := first|omega|exact kD rfl|exact kX rfl) only [smY,simprocAttr,bl,i64,smT,e1,Int.add_zero];exact rfl))
   simp (disch := first|omega|exact kD rfl|exact kX rfl) only [smY,simprocAttr,bl,i64,smT,e1,Int.add_zero]
  ·obtain rfl : M = 0 := by omega
   rw [Int.natCast_zero,Int.add_zero] at gp
   (repeat (first|apply zO (by decide +kernel)|apply zP (by decide +kernel)|(apply zS;(case h=>constructor<;>decide))|((first|apply l_go rfl|apply c_dec|apply zT rfl (by decide) rfl);(case hs=>(simp (disch := first|omega|exact kD rfl|exact kX rfl) only [smY,simprocAttr,bl,i64,smT];exact rfl));first|refine c_bt ?_|refine c_bf ?_|refine zq ?_|(case hg=>assumption))))
   ((first|apply g_ret|apply g_end);case hres => (simp only [smR];simp (disch := first|omega|exact kD rfl|exact kX rfl) only [smY,simprocAttr,bl,i64,smT];exact rfl))
   simp (disch := first|omega|exact kD rfl|exact kX rfl) only [smY,simprocAttr,bl,i64,smT]
theorem rcoef_good (o M n : Nat) (a : Nat → Rat) (h2 : o + M ≤ 1000) (hz : ∀ j,j < o → a j = 0) (hn : n < o + M) (hb : lq (a n) ≤ 1000) : PureGood Tryz.prog 26 [.agg [i64 o,.sl M (qc (aP (fun i => a (o + i)) M))],i64 n] (encQ (a n)) := by
 have hl := aP_len (fun i => a (o + i)) M
 by_cases hno : n < o
 ·have g0 := baseQ_good 0 (by omega)
  rw [show ((0 : Int) : Rat) = a n from (hz n hno).symm] at g0
  generalize a n = q at *
  simp only [i64,encQ_sm] at *
  refine good_of_lwp mix Tryz.func26 rfl (by decide) (nt := 29) rfl (rs := [.cell 4 45]) rfl (nle rfl) ?_
  (repeat (first|apply zO (by decide +kernel)|apply zP (by decide +kernel)|(apply zS;(case h=>constructor<;>decide))|((first|apply l_go rfl|apply c_dec|apply zT rfl (by decide) rfl);(case hs=>(simp (disch := first|omega|exact kD rfl|exact kX rfl) only [smY,simprocAttr,bl,i64,smT];exact rfl));first|refine c_bt ?_|refine c_bf ?_|refine zq ?_|(case hg=>assumption))))
  ((first|apply g_ret|apply g_end);case hres => (simp only [smR];simp (disch := first|omega|exact kD rfl|exact kX rfl) only [smY,simprocAttr,bl,i64,smT];exact rfl))
  simp (disch := first|omega|exact kD rfl|exact kX rfl) only [smY,simprocAttr,bl,i64,smT]
 ·have e1 : (aP (fun i => a (o + i)) M).getD (n - o) 0 = a n := by
   rw [aP_get (by omega)]
   show a (o + (n - o)) = _
   rw [show o + (n - o) = n by omega]
  have g0 := rqnorm_good (a n) (by omega)
  have hc : ((n : Int) - (o : Int)).toNat = n - o := by omega
  generalize hq : a n = q at g0 e1 ⊢
  simp only [i64,encQ_sm] at g0 ⊢
  refine good_of_lwp mix Tryz.func26 rfl (by decide) (nt := 29) rfl (rs := [.cell 4 45]) rfl (nle rfl) ?_
  (repeat (first|apply zO (by decide +kernel)|apply zP (by decide +kernel)|(apply zS;(case h=>constructor<;>decide))|((first|apply l_go rfl|apply c_dec|apply zT rfl (by decide) rfl);(case hs=>(simp (disch := first|omega|exact kD rfl|exact kX rfl) only [smY,simprocAttr,bl,i64,smT,e1,hc];exact rfl));first|refine c_bt ?_|refine c_bf ?_|refine zq ?_|(case hg=>assumption))))
  ((first|apply g_ret|apply g_end);case hres => (simp only [smR];simp (disch := first|omega|exact kD rfl|exact kX rfl) only [smY,simprocAttr,bl,i64,smT,e1,hc];exact rfl))
  simp (disch := first|omega|exact kD rfl|exact kX rfl) only [smY,simprocAttr,bl,i64,smT,e1,hc]
end Go.Proofs.YteecamhdbilmoaaGreatDoor
namespace Go.Proofs.YteecamhdbilmoaaGreatDoor
open Go Go.Lg Go.Num
set_option maxRecDepth 100000
set_option maxHeartbeats 8000000
attribute [local irreducible] Go.Lg.lrun Go.Lg.lwp Go.Lg.exThen Go.Lg.exBlk Go.Lg.keep Go.Lg.goodPost sg mg oc mC twP tw bq kr chi eK gB cSer
theorem upT_low {a : Nat → Rat} {t o j : Nat} (ht : 1 ≤ t) (hz : ∀ j,j < o → a j = 0) (h : j < t * o) : upT a t j = 0 := by
 unfold upT
 split
 ·exact hz _ (Nat.div_lt_of_lt_mul h)
 ·rfl
theorem lq_upT {a : Nat → Rat} {t p B j : Nat} (ba : ∀ i,i < p → lq (a i) ≤ B) (hB : 3 ≤ B) (h : j < t * p) : lq (upT a t j) ≤ B := by
 unfold upT
 split
 ·exact ba _ (Nat.div_lt_of_lt_mul h)
 ·exact Nat.le_trans lq_0 hB
theorem rexpand_good (a : Nat → Rat) (p t : Nat) (hp : p ≤ 1000) (ht1 : 1 ≤ t) (ht : t ≤ 1000) (ba : ∀ i,i < p → lq (a i) ≤ 1000) : PureGood Tryz.prog 87 [cSer 0 a p,i64 t] (.tup [cSer 0 (upT a t) (min (t * p) 1000),i64 0]) := by
 obtain ⟨ho,hz,hnz⟩ := ordN_spec a p
 rw [cSer_eq (a := a) rfl,Int.zero_add]
 generalize ordN a p = o at *
 have hoM : o + (p - o) = p := by omega
 generalize p - o = M at *
 have g1 := rcheckA_good o M (qc (aP (fun i => a (o + i)) M)) (by omega) (by omega)
 have g2 := rstride_good t ht1 ht
 have g3 := rord_good o M a (by omega) (fun h => hnz (by omega)) (fun h => ba _ (by omega))
 have g4 := rprec_good o M (qc (aP (fun i => a (o + i)) M)) (by omega) (by omega)
 rw [show (o : Int) + M = ((p : Nat) : Int) by omega] at g4
 have hl := aP_len (fun i => a (o + i)) M
 have b1 : t * o ≤ 1000 * 1000 := Nat.mul_le_mul ht (by omega)
 have b2 : t * p ≤ 1000 * 1000 := Nat.mul_le_mul ht hp
 have b3 : t * o ≤ t * p := Nat.mul_le_mul_left _ ho
 have hmul : (t : Int) * o = ((t * o : Nat) : Int) := by simp
 have hmul2 : (t : Int) * p = ((t * p : Nat) : Int) := by simp
 by_cases hF : 1000 ≤ t * o
 ·have hN : min (t * p) 1000 = 1000 := by omega
  rw [hN,cSer_none (fun j hj => upT_low ht1 hz (by omega))]
  have g5 := rempty_good 1000 (by omega)
  generalize t * o = F at *
  simp only [i64,bl] at *
  refine good_of_lwp mix Tryz.func87 rfl (by decide) (nt := 61) rfl (rs := [.cell 4 26,.tmp 5]) rfl (nle rfl) ?_
  (repeat (first|apply zO (by decide +kernel)|apply zP (by decide +kernel)|(apply zS;(case h=>constructor<;>decide))|((first|apply l_go rfl|apply c_dec|apply zT rfl (by decide) rfl);(case hs=>(simp (disch := first|omega|exact kD rfl|exact kX rfl) only [smY,simprocAttr,bl,i64,smT,hmul];exact rfl));first|refine c_bt ?_|refine c_bf ?_|refine zq ?_|(case hg=>assumption))))
  ((first|apply g_ret|apply g_end);case hres => (simp only [smR];simp (disch := first|omega|exact kD rfl|exact kX rfl) only [smY,simprocAttr,bl,i64,smT,hmul];exact rfl))
  simp (disch := first|omega|exact kD rfl|exact kX rfl) only [smY,simprocAttr,bl,i64,smT,hmul]
  trace_state
 ·have hN : ((min (t * p) 1000 : Nat) : Int) = if (1000 : Int) < ((t * p : Nat) : Int) then 1000 else ((t * p : Nat) : Int) := by split <;> omega
  have hFN : t * o ≤ min (t * p) 1000 := by omega
  have hNp : min (t * p) 1000 ≤ t * p := by omega
  have hN1 : min (t * p) 1000 ≤ 1000 := by omega
  rw [cSer_shift hFN (fun j hj => upT_low ht1 hz hj),Int.zero_add]
  have gR := rResult_all ((t * o : Nat) : Int) (fun i => upT a t (t * o + i)) (min (t * p) 1000 - t * o) (by omega) (by omega) (fun i hi => lq_upT ba (by omega) (by omega))
  obtain ⟨x,MR,LR,hR,hLM,hM,hx⟩ := cSer_form ((t * o : Nat) : Int) (fun i => upT a t (t * o + i)) (min (t * p) 1000 - t * o)
  rw [hR] at gR ⊢
  clear hR
  generalize hNv : min (t * p) 1000 = N at *
  obtain ⟨b,hbd⟩ : ∃ b,b = fun i => upT a t (t * o + i) := ⟨_,rfl⟩
  rw [← hbd] at gR
  have hbf : ∀ i,b i = upT a t (t * o + i) := fun i => by rw [hbd]
  clear hbd
  generalize hFv : t * o = F at *
  generalize hPv : t * p = P at *
  have hmn := hN.symm
  simp only [i64,bl] at g1 g2 g3 g4 gR ⊢
  refine good_of_lwp mix Tryz.func87 rfl (by decide) (nt := 61) rfl (rs := [.cell 4 26,.tmp 5]) rfl (nle rfl) ?_
  (repeat (first|apply zO (by decide +kernel)|apply zP (by decide +kernel)|(apply zS;(case h=>constructor<;>decide))|((first|apply l_go rfl|apply c_dec|apply zT rfl (by decide) rfl);(case hs=>(simp (disch := first|omega|exact kD rfl|exact kX rfl) only [smY,simprocAttr,bl,i64,smT,hmul];exact rfl));first|refine c_bt ?_|refine c_bf ?_|refine zq ?_|(case hg=>assumption))))
  refine w_loop (α := {m : Nat // F + m ≤ N}) (fun m => st 61 (lk [(1,i64 t),(2,.ptr 0 0),(4,.ptr 1 0),(7,i64 F),(8,nV 2 m.1),(9,i64 ((F + m.1 : Nat) : Int))]) (lkH ((0,⟨26,[i64 o,.sl M (qc (aP (fun i => a (o + i)) M))],false⟩) :: (1,⟨26,[i64 0,nilL],false⟩) :: nB 2 m.1 (qc (aP b m.1)))) 3) (fun m => N - (F + m.1)) ⟨0,by omega⟩ ?_ ?_
  ·simp only [nV_zero,nB_zero]
   (refine Sub.heapL [0,1,99] rfl (by decide) ?_ (by simp only [smL];decide) ?_ ?_;all_goals (first|(simp only [plainC,smF,dg,renL,renLs,simprocAttr,bl,i64,smT,hmul];done) | (simp only [smF,dg,renL,renLs,simprocAttr,bl,i64,smT,hmul];(repeat' apply And.intro);all_goals rfl) | (simp only [smF,dg,renL,renLs,simprocAttr,bl,i64,smT,hmul]) | skip))
   all_goals (first | done | ((repeat' apply And.intro);all_goals (first | trivial | rfl)))
  ·rintro ⟨m,hm⟩
   simp only [st]
   have hla := aP_len b m
   have happ := aP_succ b m
   have hbm0 := hbf m
   rw [upT] at hbm0
   by_cases hlt : F + m < N
   ·have gm := bmodN_good (F + m) t (by omega) ht1 (by omega)
    generalize hn : F + m = n at *
    simp only [i64] at gm
    by_cases h0 : m = 0
    ·simp only [nV_of h0,nB_of h0]
     by_cases hd : n % t = 0
     ·have hb : b m = a (n / t) := by rw [hbm0,if_pos hd]
      have hnt : n / t < o + M := by rw [hoM];exact Nat.div_lt_of_lt_mul (by omega)
      have gc := rcoef_good o M (n / t) a (by omega) hz hnt (ba _ (by omega))
      rw [← hb] at gc
      rw [hd] at gm
      generalize hbm : b m = bv at *
      generalize hqt : n / t = q at *
      simp only [i64,encQ_sm] at gc
      (repeat (first|apply zO (by decide +kernel)|apply zP (by decide +kernel)|(apply zS;(case h=>constructor<;>decide))|((first|apply l_go rfl|apply c_dec|apply zT rfl (by decide) rfl);(case hs=>(simp (disch := first|omega|exact kD rfl|exact kX rfl) only [smY,simprocAttr,bl,i64,smT,hmul2,hmn,hqt,Int.sub_zero];exact rfl));first|refine c_bt ?_|refine c_bf ?_|refine zq ?_|(case hg=>assumption))))
      refine ⟨⟨m + 1,by omega⟩,?_,by simp only;omega⟩
      simp only [nV_succ,nB_succ]
      (refine Sub.heapL [0,1,25] rfl (by decide) ?_ (by simp only [smL];decide) ?_ ?_;all_goals (first|(simp only [plainC,smF,dg,renL,renLs,simprocAttr,bl,i64,smT];done) | (simp only [smF,dg,renL,renLs,simprocAttr,bl,i64,smT];(repeat' apply And.intro);all_goals rfl) | (simp only [smF,dg,renL,renLs,simprocAttr,bl,i64,smT]) | skip))
      all_goals (first | done | (subst h0;(repeat' apply And.intro);all_goals (first | trivial | rfl | (simp only [LV.lit.injEq,Value.int.injEq,true_and];omega) | (have e : aP b 1 = [bv] := happ;rw [e,← qc_one]))))
     ·have hb : b m = 0 := by rw [hbm0,if_neg hd]
      have gc := baseQ_good 0 (by omega)
      rw [show ((0 : Int) : Rat) = b m from hb.symm] at gc
      generalize hbm : b m = bv at *
      generalize hrt : n % t = r at *
      simp only [i64,encQ_sm] at gc
      (repeat (first|apply zO (by decide +kernel)|apply zP (by decide +kernel)|(apply zS;(case h=>constructor<;>decide))|((first|apply l_go rfl|apply c_dec|apply zT rfl (by decide) rfl);(case hs=>(simp (disch := first|omega|exact kD rfl|exact kX rfl) only [smY,simprocAttr,bl,i64,smT,hmul2,hmn];exact rfl));first|refine c_bt ?_|refine c_bf ?_|refine zq ?_|(case hg=>assumption))))
      refine ⟨⟨m + 1,by omega⟩,?_,by simp only;omega⟩
      simp only [nV_succ,nB_succ]
      (refine Sub.heapL [0,1,17] rfl (by decide) ?_ (by simp only [smL];decide) ?_ ?_;all_goals (first|(simp only [plainC,smF,dg,renL,renLs,simprocAttr,bl,i64,smT];done) | (simp only [smF,dg,renL,renLs,simprocAttr,bl,i64,smT];(repeat' apply And.intro);all_goals rfl) | (simp only [smF,dg,renL,renLs,simprocAttr,bl,i64,smT]) | skip))
      all_goals (first | done | (subst h0;(repeat' apply And.intro);all_goals (first | trivial | rfl | (simp only [LV.lit.injEq,Value.int.injEq,true_and];omega) | (have e : aP b 1 = [bv] := happ;rw [e,← qc_one]))))
    ·simp only [nV_ne h0,nB_ne h0]
     by_cases hd : n % t = 0
     ·have hb : b m = a (n / t) := by rw [hbm0,if_pos hd]
      have hnt : n / t < o + M := by rw [hoM];exact Nat.div_lt_of_lt_mul (by omega)
      have gc := rcoef_good o M (n / t) a (by omega) hz hnt (ba _ (by omega))
      rw [← hb] at gc
      rw [hd] at gm
      generalize hbm : b m = bv at *
      generalize hqt : n / t = q at *
      simp only [i64,encQ_sm] at gc
      (repeat (first|apply zO (by decide +kernel)|apply zP (by decide +kernel)|(apply zS;(case h=>constructor<;>decide))|((first|apply l_go rfl|apply c_dec|apply zT rfl (by decide) rfl);(case hs=>(simp (disch := first|omega|exact kD rfl|exact kX rfl) only [smY,simprocAttr,bl,i64,smT,hmul2,hmn,hqt,Int.sub_zero];exact rfl));first|refine c_bt ?_|refine c_bf ?_|refine zq ?_|(case hg=>assumption))))
      refine ⟨⟨m + 1,by omega⟩,?_,by simp only;omega⟩
      simp only [nV_succ,nB_succ]
      (refine Sub.heapL [0,1,25] rfl (by decide) ?_ (by simp only [smL];decide) ?_ ?_;all_goals (first|(simp only [plainC,smF,dg,renL,renLs,simprocAttr,bl,i64,smT];done) | (simp only [smF,dg,renL,renLs,simprocAttr,bl,i64,smT];(repeat' apply And.intro);all_goals rfl) | (simp only [smF,dg,renL,renLs,simprocAttr,bl,i64,smT]) | skip))
      all_goals (first | done | ((repeat' apply And.intro);all_goals (first | trivial | rfl | (simp only [LV.lit.injEq,Value.int.injEq,true_and];omega) | rw [happ,← qc_app])))
     ·have hb : b m = 0 := by rw [hbm0,if_neg hd]
      have gc := baseQ_good 0 (by omega)
      rw [show ((0 : Int) : Rat) = b m from hb.symm] at gc
      generalize hbm : b m = bv at *
      generalize hrt : n % t = r at *
      simp only [i64,encQ_sm] at gc
      (repeat (first|apply zO (by decide +kernel)|apply zP (by decide +kernel)|(apply zS;(case h=>constructor<;>decide))|((first|apply l_go rfl|apply c_dec|apply zT rfl (by decide) rfl);(case hs=>(simp (disch := first|omega|exact kD rfl|exact kX rfl) only [smY,simprocAttr,bl,i64,smT,hmul2,hmn];exact rfl));first|refine c_bt ?_|refine c_bf ?_|refine zq ?_|(case hg=>assumption))))
      refine ⟨⟨m + 1,by omega⟩,?_,by simp only;omega⟩
      simp only [nV_succ,nB_succ]
      (refine Sub.heapL [0,1,17] rfl (by decide) ?_ (by simp only [smL];decide) ?_ ?_;all_goals (first|(simp only [plainC,smF,dg,renL,renLs,simprocAttr,bl,i64,smT];done) | (simp only [smF,dg,renL,renLs,simprocAttr,bl,i64,smT];(repeat' apply And.intro);all_goals rfl) | (simp only [smF,dg,renL,renLs,simprocAttr,bl,i64,smT]) | skip))
      all_goals (first | done | ((repeat' apply And.intro);all_goals (first | trivial | rfl | (simp only [LV.lit.injEq,Value.int.injEq,true_and];omega) | rw [happ,← qc_app])))
   ·have hmN : N - F = m := by omega
    rw [hmN] at gR
    by_cases h0 : m = 0
    ·simp only [nV_of h0,nB_of h0]
     subst h0
     rw [aP0] at gR
     (repeat (first|apply zO (by decide +kernel)|apply zP (by decide +kernel)|(apply zS;(case h=>constructor<;>decide))|((first|apply l_go rfl|apply c_dec|apply zT rfl (by decide) rfl);(case hs=>(simp (disch := first|omega|exact kD rfl|exact kX rfl) only [smY,simprocAttr,bl,i64,smT,hmul2,hmn];exact rfl));first|refine c_bt ?_|refine c_bf ?_|refine zq ?_|(case hg=>assumption))))
     ((first|apply g_ret|apply g_end);case hres => (simp only [smR];simp (disch := first|omega|exact kD rfl|exact kX rfl) only [smY,simprocAttr,bl,i64,smT,hmul2,hmn];exact rfl))
     simp (disch := first|omega|exact kD rfl|exact kX rfl) only [smY,simprocAttr,bl,i64,smT,hmul2,hmn]
    ·simp only [nV_ne h0,nB_ne h0]
     (repeat (first|apply zO (by decide +kernel)|apply zP (by decide +kernel)|(apply zS;(case h=>constructor<;>decide))|((first|apply l_go rfl|apply c_dec|apply zT rfl (by decide) rfl);(case hs=>(simp (disch := first|omega|exact kD rfl|exact kX rfl) only [smY,simprocAttr,bl,i64,smT,hmul2,hmn];exact rfl));first|refine c_bt ?_|refine c_bf ?_|refine zq ?_|(case hg=>assumption))))
     ((first|apply g_ret|apply g_end);case hres => (simp only [smR];simp (disch := first|omega|exact kD rfl|exact kX rfl) only [smY,simprocAttr,bl,i64,smT,hmul2,hmn];exact rfl))
     simp (disch := first|omega|exact kD rfl|exact kX rfl) only [smY,simprocAttr,bl,i64,smT,hmul2,hmn]
end Go.Proofs.YteecamhdbilmoaaGreatDoor
namespace Go.Proofs.YteecamhdbilmoaaGreatDoor
open Go Go.Lg Go.Num
set_option maxRecDepth 100000
set_option maxHeartbeats 8000000
attribute [local irreducible] Go.Lg.lrun Go.Lg.lwp Go.Lg.exThen Go.Lg.exBlk Go.Lg.keep Go.Lg.goodPost sg mg oc mC twP tw bq kr chi eK gB cSer
theorem aP_takeR (b : Nat → Rat) {m n : Nat} (h : m ≤ n) : (qc (aP b n)).take (m * 4) = qc (aP b m) := by
 rw [qc_takes]
 congr 1
 unfold aP
 rw [← List.map_take,List.take_range,Nat.min_eq_left h]
theorem rcut_good (c : Nat → Rat) (N p : Nat) (hp : p ≤ N) (hN : N ≤ 1000) (ba : ∀ i,i < N → lq (c i) ≤ 1000) : PureGood Tryz.prog 88 [cSer 0 c N,i64 p] (.tup [cSer 0 c p,i64 0]) := by
 obtain ⟨ho,hz,hnz⟩ := ordN_spec c N
 rw [cSer_eq (a := c) (N := N) rfl,Int.zero_add]
 generalize ordN c N = o at *
 have hoM : o + (N - o) = N := by omega
 generalize N - o = M at *
 have g1 := rcheckA_good o M (qc (aP (fun i => c (o + i)) M)) (by omega) (by omega)
 have hl := aP_len (fun i => c (o + i)) M
 by_cases hpo : p ≤ o
 ·have g5 := rempty_good p (by omega)
  rw [cSer_none (fun j hj => hz j (by omega)),Int.zero_add]
  simp only [i64,bl] at *
  refine good_of_lwp mix Tryz.func88 rfl (by decide) (nt := 45) rfl (rs := [.cell 4 26,.tmp 5]) rfl (nle rfl) ?_
  (repeat (first|apply zO (by decide +kernel)|apply zP (by decide +kernel)|(apply zS;(case h=>constructor<;>decide))|((first|apply l_go rfl|apply c_dec|apply zT rfl (by decide) rfl);(case hs=>(simp (disch := first|omega|exact kD rfl|exact kX rfl) only [smY,simprocAttr,bl,i64,smT];exact rfl));first|refine c_bt ?_|refine c_bf ?_|refine zq ?_|(case hg=>assumption))))
  ((first|apply g_ret|apply g_end);case hres => (simp only [smR];simp (disch := first|omega|exact kD rfl|exact kX rfl) only [smY,simprocAttr,bl,i64,smT];exact rfl))
  simp (disch := first|omega|exact kD rfl|exact kX rfl) only [smY,simprocAttr,bl,i64,smT]
 ·rw [cSer_shift (f := o) (by omega) hz,Int.zero_add]
  have g4 := rprec_good o M (qc (aP (fun i => c (o + i)) M)) (by omega) (by omega)
  rw [show (o : Int) + M = ((N : Nat) : Int) by omega] at g4
  have gR := rResult_all o (fun i => c (o + i)) (p - o) (by omega) (by omega) (fun i hi => ba _ (by omega))
  obtain ⟨x,MR,LR,hR,hLM,hM,hx⟩ := cSer_form o (fun i => c (o + i)) (p - o)
  rw [hR] at gR ⊢
  clear hR
  by_cases hpN : p = N
  ·have hMe : p - o = M := by omega
   rw [hMe] at gR
   simp only [i64,bl] at *
   refine good_of_lwp mix Tryz.func88 rfl (by decide) (nt := 45) rfl (rs := [.cell 4 26,.tmp 5]) rfl (nle rfl) ?_
   (repeat (first|apply zO (by decide +kernel)|apply zP (by decide +kernel)|(apply zS;(case h=>constructor<;>decide))|((first|apply l_go rfl|apply c_dec|apply zT rfl (by decide) rfl);(case hs=>(simp (disch := first|omega|exact kD rfl|exact kX rfl) only [smY,simprocAttr,bl,i64,smT];exact rfl));first|refine c_bt ?_|refine c_bf ?_|refine zq ?_|(case hg=>assumption))))
   ((first|apply g_ret|apply g_end);case hres => (simp only [smR];simp (disch := first|omega|exact kD rfl|exact kX rfl) only [smY,simprocAttr,bl,i64,smT];exact rfl))
   simp (disch := first|omega|exact kD rfl|exact kX rfl) only [smY,simprocAttr,bl,i64,smT]
  ·have hpm : p - o ≤ M := by omega
   have htk := aP_takeR (fun i => c (o + i)) hpm
   have hcn : ((p : Int) - (o : Int)).toNat = p - o := by omega
   have hlq := aP_len (fun i => c (o + i)) (p - o)
   generalize hq : p - o = q at *
   simp only [i64,bl] at g1 g4 gR ⊢
   refine good_of_lwp mix Tryz.func88 rfl (by decide) (nt := 45) rfl (rs := [.cell 4 26,.tmp 5]) rfl (nle rfl) ?_
   (repeat (first|apply zO (by decide +kernel)|apply zP (by decide +kernel)|(apply zS;(case h=>constructor<;>decide))|((first|apply l_go rfl|apply c_dec|apply zT rfl (by decide) rfl);(case hs=>(simp (disch := first|omega|exact kD rfl|exact kX rfl) only [smY,simprocAttr,bl,i64,smT,htk,hcn];exact rfl));first|refine c_bt ?_|refine c_bf ?_|refine zq ?_|(case hg=>assumption))))
   ((first|apply g_ret|apply g_end);case hres => (simp only [smR];simp (disch := first|omega|exact kD rfl|exact kX rfl) only [smY,simprocAttr,bl,i64,smT,htk,hcn];exact rfl))
   simp (disch := first|omega|exact kD rfl|exact kX rfl) only [smY,simprocAttr,bl,i64,smT,htk,hcn]
theorem rscaleA_good (q : Rat) (c : Nat → Rat) (p : Nat) (hp : p ≤ 1000) (lqq : lq q ≤ 480) (ba : ∀ i,i < p → lq (c i) ≤ 480) : PureGood Tryz.prog 48 [encQ q,cSer 0 c p] (.tup [cSer 0 (fun i => q * c i) p,i64 0]) := by
 obtain ⟨ho,hz,hnz⟩ := ordN_spec c p
 have hb1 : ∀ i,i < p → lq (q * c i) ≤ 1000 := fun i hi => by
  have := lq_mul q (c i)
  have := ba i hi
  omega
 rw [cSer_eq (a := c) rfl,Int.zero_add,cSer_shift (a := fun i => q * c i) ho (fun j hj => by simp only [hz j hj];exact Rat.mul_zero q),Int.zero_add]
 generalize ordN c p = o at *
 have hoM : o + (p - o) = p := by omega
 generalize p - o = M at *
 have g1 := rcheckA_good o M (qc (aP (fun i => c (o + i)) M)) (by omega) (by omega)
 have hl := aP_len (fun i => c (o + i)) M
 have gR := rResult_all o (fun i => q * c (o + i)) M (by omega) (by omega) (fun i hi => hb1 _ (by omega))
 obtain ⟨x,MR,LR,hR,hLM,hM,hx⟩ := cSer_form o (fun i => q * c (o + i)) M
 rw [hR] at gR ⊢
 clear hR
 obtain ⟨b,hbd⟩ : ∃ b,b = fun i => q * c (o + i) := ⟨_,rfl⟩
 rw [← hbd] at gR
 have hbf : ∀ i,b i = q * c (o + i) := fun i => by rw [hbd]
 clear hbd
 simp only [i64,bl,encQ_sm] at g1 gR ⊢
 refine good_of_lwp mix Tryz.func48 rfl (by decide) (nt := 38) rfl (rs := [.cell 4 26,.tmp 5]) rfl (nle rfl) ?_
 (repeat (first|apply zO (by decide +kernel)|apply zP (by decide +kernel)|(apply zS;(case h=>constructor<;>decide))|((first|apply l_go rfl|apply c_dec|apply zT rfl (by decide) rfl);(case hs=>(simp (disch := first|omega|exact kD rfl|exact kX rfl) only [smY,simprocAttr,bl,i64,smT];exact rfl));first|refine c_bt ?_|refine c_bf ?_|refine zq ?_|(case hg=>assumption))))
 refine w_loop (α := {m : Nat // m ≤ M}) (fun m => st 38 (lk [(2,.ptr 0 0),(3,.ptr 1 0),(4,.ptr 2 0),(7,nV 3 m.1),(8,i64 m.1)]) (lkH ((0,⟨45,[sg (q).num,mg (q).num,sg ((q).den : Int),mg ((q).den : Int)],false⟩) :: (1,⟨26,[i64 o,.sl M (qc (aP (fun i => c (o + i)) M))],false⟩) :: (2,⟨26,[i64 0,nilL],false⟩) :: nB 3 m.1 (qc (aP b m.1)))) 4) (fun m => M - m.1) ⟨0,by omega⟩ ?_ ?_
 ·simp only [nV_zero,nB_zero]
  (refine Sub.heapL [0,1,2,99] rfl (by decide) ?_ (by simp only [smL];decide) ?_ ?_;all_goals (first|(simp only [plainC,smF,dg,renL,renLs,simprocAttr,bl,i64,smT];done) | (simp only [smF,dg,renL,renLs,simprocAttr,bl,i64,smT];(repeat' apply And.intro);all_goals rfl) | (simp only [smF,dg,renL,renLs,simprocAttr,bl,i64,smT]) | skip))
  all_goals (first | done | ((repeat' apply And.intro);all_goals (first | trivial | rfl)))
 ·rintro ⟨m,hm⟩
  simp only [st]
  have hla := aP_len b m
  have happ := aP_succ b m
  by_cases hlt : m < M
  ·have e1 : (aP (fun i => c (o + i)) M).getD m 0 = c (o + m) := aP_get hlt
   have b1 := ba (o + m) (by omega)
   have r1 := rqmul_good q (c (o + m)) (by omega) (by omega)
   rw [← hbf m] at r1
   generalize c (o + m) = ci at *
   generalize hbm : b m = bv at *
   simp only [encQ_sm] at r1
   by_cases h0 : m = 0
   ·simp only [nV_of h0,nB_of h0]
    (repeat (first|apply zO (by decide +kernel)|apply zP (by decide +kernel)|(apply zS;(case h=>constructor<;>decide))|((first|apply l_go rfl|apply c_dec|apply zT rfl (by decide) rfl);(case hs=>(simp (disch := first|omega|exact kD rfl|exact kX rfl) only [smY,simprocAttr,bl,i64,smT,e1];exact rfl));first|refine c_bt ?_|refine c_bf ?_|refine zq ?_|(case hg=>assumption))))
    refine ⟨⟨m + 1,by omega⟩,?_,by simp only;omega⟩
    simp only [nV_succ,nB_succ]
    (refine Sub.heapL [0,1,2,18] rfl (by decide) ?_ (by simp only [smL];decide) ?_ ?_;all_goals (first|(simp only [plainC,smF,dg,renL,renLs,simprocAttr,bl,i64,smT];done) | (simp only [smF,dg,renL,renLs,simprocAttr,bl,i64,smT];(repeat' apply And.intro);all_goals rfl) | (simp only [smF,dg,renL,renLs,simprocAttr,bl,i64,smT]) | skip))
    all_goals (first | done | (subst h0;(repeat' apply And.intro);all_goals (first | trivial | rfl | (simp only [LV.lit.injEq,Value.int.injEq,true_and];omega) | (have e : aP b 1 = [bv] := happ;rw [e,← qc_one]))))
   ·simp only [nV_ne h0,nB_ne h0]
    (repeat (first|apply zO (by decide +kernel)|apply zP (by decide +kernel)|(apply zS;(case h=>constructor<;>decide))|((first|apply l_go rfl|apply c_dec|apply zT rfl (by decide) rfl);(case hs=>(simp (disch := first|omega|exact kD rfl|exact kX rfl) only [smY,simprocAttr,bl,i64,smT,e1];exact rfl));first|refine c_bt ?_|refine c_bf ?_|refine zq ?_|(case hg=>assumption))))
    refine ⟨⟨m + 1,by omega⟩,?_,by simp only;omega⟩
    simp only [nV_succ,nB_succ]
    (refine Sub.heapL [0,1,2,18] rfl (by decide) ?_ (by simp only [smL];decide) ?_ ?_;all_goals (first|(simp only [plainC,smF,dg,renL,renLs,simprocAttr,bl,i64,smT];done) | (simp only [smF,dg,renL,renLs,simprocAttr,bl,i64,smT];(repeat' apply And.intro);all_goals rfl) | (simp only [smF,dg,renL,renLs,simprocAttr,bl,i64,smT]) | skip))
    all_goals (first | done | ((repeat' apply And.intro);all_goals (first | trivial | rfl | (simp only [LV.lit.injEq,Value.int.injEq,true_and];omega) | rw [happ,← qc_app])))
  ·obtain rfl : m = M := by omega
   by_cases h0 : m = 0
   ·simp only [nV_of h0,nB_of h0]
    subst h0
    rw [aP0] at gR
    (repeat (first|apply zO (by decide +kernel)|apply zP (by decide +kernel)|(apply zS;(case h=>constructor<;>decide))|((first|apply l_go rfl|apply c_dec|apply zT rfl (by decide) rfl);(case hs=>(simp (disch := first|omega|exact kD rfl|exact kX rfl) only [smY,simprocAttr,bl,i64,smT];exact rfl));first|refine c_bt ?_|refine c_bf ?_|refine zq ?_|(case hg=>assumption))))
    ((first|apply g_ret|apply g_end);case hres => (simp only [smR];simp (disch := first|omega|exact kD rfl|exact kX rfl) only [smY,simprocAttr,bl,i64,smT];exact rfl))
    simp (disch := first|omega|exact kD rfl|exact kX rfl) only [smY,simprocAttr,bl,i64,smT]
   ·simp only [nV_ne h0,nB_ne h0]
    (repeat (first|apply zO (by decide +kernel)|apply zP (by decide +kernel)|(apply zS;(case h=>constructor<;>decide))|((first|apply l_go rfl|apply c_dec|apply zT rfl (by decide) rfl);(case hs=>(simp (disch := first|omega|exact kD rfl|exact kX rfl) only [smY,simprocAttr,bl,i64,smT];exact rfl));first|refine c_bt ?_|refine c_bf ?_|refine zq ?_|(case hg=>assumption))))
    ((first|apply g_ret|apply g_end);case hres => (simp only [smR];simp (disch := first|omega|exact kD rfl|exact kX rfl) only [smY,simprocAttr,bl,i64,smT];exact rfl))
    simp (disch := first|omega|exact kD rfl|exact kX rfl) only [smY,simprocAttr,bl,i64,smT]
theorem raddA_good (a c : Nat → Rat) (p : Nat) (hp : p ≤ 1000) (ba : ∀ i,i < p → lq (a i) ≤ 450) (bc : ∀ i,i < p → lq (c i) ≤ 450) (bs : ∀ i,i < p → lq (a i + c i) ≤ 1000) : PureGood Tryz.prog 89 [cSer 0 a p,cSer 0 c p] (.tup [cSer 0 (fun i => a i + c i) p,i64 0]) := by
 obtain ⟨ho,hz,hnz⟩ := ordN_spec a p
 obtain ⟨ho2,hz2,hnz2⟩ := ordN_spec c p
 rw [cSer_eq (a := a) rfl,cSer_eq (a := c) rfl,Int.zero_add,Int.zero_add]
 generalize ordN a p = o at *
 generalize ordN c p = w at *
 have hf1 : min (min o w) p ≤ p := by omega
 rw [cSer_shift (a := fun i => a i + c i) hf1 (fun j hj => by simp only [hz j (by omega),hz2 j (by omega)];exact Rat.add_zero 0),Int.zero_add]
 have hoM : o + (p - o) = p := by omega
 have hwM : w + (p - w) = p := by omega
 have hmin : (if (p : Int) < (if (w : Int) < (o : Int) then (w : Int) else (o : Int)) then (p : Int) else (if (w : Int) < (o : Int) then (w : Int) else (o : Int))) = ((min (min o w) p : Nat) : Int) := by
  by_cases h1 : (w : Int) < o
  ·rw [if_pos h1];split <;> omega
  ·rw [if_neg h1];split <;> omega
 have hfo : min (min o w) p ≤ o := by omega
 have hfw : min (min o w) p ≤ w := by omega
 generalize min (min o w) p = f at *
 generalize p - o = M at *
 generalize p - w = K at *
 have g1 := rtwoA_good o w M K (qc (aP (fun i => a (o + i)) M)) (qc (aP (fun i => c (w + i)) K)) (by omega) (by omega) (by omega) (by omega) (qc_all pure_sg pure_mg _)
 have g2 := rprec_good o M (qc (aP (fun i => a (o + i)) M)) (by omega) (by omega)
 have g3 := rprec_good w K (qc (aP (fun i => c (w + i)) K)) (by omega) (by omega)
 rw [show (o : Int) + M = ((p : Nat) : Int) by omega] at g2
 rw [show (w : Int) + K = ((p : Nat) : Int) by omega] at g3
 have hmp : (if (p : Int) < (p : Int) then (p : Int) else (p : Int)) = (p : Int) := by split <;> rfl
 have hl := aP_len (fun i => a (o + i)) M
 have hl' := aP_len (fun i => c (w + i)) K
 have gR := rResult_all f (fun i => a (f + i) + c (f + i)) (p - f) (by omega) (by omega) (fun i hi => bs _ (by omega))
 obtain ⟨x,MR,LR,hR,hLM,hM,hx⟩ := cSer_form f (fun i => a (f + i) + c (f + i)) (p - f)
 rw [hR] at gR ⊢
 clear hR
 obtain ⟨b,hbd⟩ : ∃ b,b = fun i => a (f + i) + c (f + i) := ⟨_,rfl⟩
 rw [← hbd] at gR
 have hbf : ∀ i,b i = a (f + i) + c (f + i) := fun i => by rw [hbd]
 clear hbd
 simp only [i64,bl] at g1 g2 g3 gR ⊢
 refine good_of_lwp mix Tryz.func89 rfl (by decide) (nt := 50) rfl (rs := [.cell 4 26,.tmp 5]) rfl (nle rfl) ?_
 (repeat (first|apply zO (by decide +kernel)|apply zP (by decide +kernel)|(apply zS;(case h=>constructor<;>decide))|((first|apply l_go rfl|apply c_dec|apply zT rfl (by decide) rfl);(case hs=>(simp (disch := first|omega|exact kD rfl|exact kX rfl) only [smY,simprocAttr,bl,i64,smT,hmin,hmp];exact rfl));first|refine c_bt ?_|refine c_bf ?_|refine zq ?_|(case hg=>assumption))))
 refine w_loop (α := {m : Nat // f + m ≤ p}) (fun m => st 50 (lk [(2,.ptr 0 0),(3,.ptr 1 0),(4,.ptr 2 0),(7,i64 p),(8,i64 f),(9,nV 3 m.1),(10,i64 ((f + m.1 : Nat) : Int))]) (lkH ((0,⟨26,[i64 o,.sl M (qc (aP (fun i => a (o + i)) M))],false⟩) :: (1,⟨26,[i64 w,.sl K (qc (aP (fun i => c (w + i)) K))],false⟩) :: (2,⟨26,[i64 0,nilL],false⟩) :: nB 3 m.1 (qc (aP b m.1)))) 4) (fun m => p - (f + m.1)) ⟨0,by omega⟩ ?_ ?_
 ·simp only [nV_zero,nB_zero]
  (refine Sub.heapL [0,1,2,99] rfl (by decide) ?_ (by simp only [smL];decide) ?_ ?_;all_goals (first|(simp only [plainC,smF,dg,renL,renLs,simprocAttr,bl,i64,smT];done) | (simp only [smF,dg,renL,renLs,simprocAttr,bl,i64,smT];(repeat' apply And.intro);all_goals rfl) | (simp only [smF,dg,renL,renLs,simprocAttr,bl,i64,smT]) | skip))
  all_goals (first | done | ((repeat' apply And.intro);all_goals (first | trivial | rfl)))
 ·rintro ⟨m,hm⟩
  simp only [st]
  have hla := aP_len b m
  have happ := aP_succ b m
  by_cases hlt : f + m < p
  ·have b1 := ba (f + m) hlt
   have b2 := bc (f + m) hlt
   have r1 := rcoef_good o M (f + m) a (by omega) hz (by omega) (by omega)
   have r2 := rcoef_good w K (f + m) c (by omega) hz2 (by omega) (by omega)
   have r3 := rqadd_good (a (f + m)) (c (f + m)) (by omega) (by omega)
   rw [← hbf m] at r3
   generalize hn : f + m = n at *
   generalize a n = av at *
   generalize c n = cv at *
   generalize hbm : b m = bv at *
   simp only [encQ_sm,i64] at r1 r2 r3
   by_cases h0 : m = 0
   ·simp only [nV_of h0,nB_of h0]
    (repeat (first|apply zO (by decide +kernel)|apply zP (by decide +kernel)|(apply zS;(case h=>constructor<;>decide))|((first|apply l_go rfl|apply c_dec|apply zT rfl (by decide) rfl);(case hs=>(simp (disch := first|omega|exact kD rfl|exact kX rfl) only [smY,simprocAttr,bl,i64,smT];exact rfl));first|refine c_bt ?_|refine c_bf ?_|refine zq ?_|(case hg=>assumption))))
    refine ⟨⟨m + 1,by omega⟩,?_,by simp only;omega⟩
    simp only [nV_succ,nB_succ]
    (refine Sub.heapL [0,1,2,16] rfl (by decide) ?_ (by simp only [smL];decide) ?_ ?_;all_goals (first|(simp only [plainC,smF,dg,renL,renLs,simprocAttr,bl,i64,smT];done) | (simp only [smF,dg,renL,renLs,simprocAttr,bl,i64,smT];(repeat' apply And.intro);all_goals rfl) | (simp only [smF,dg,renL,renLs,simprocAttr,bl,i64,smT]) | skip))
    all_goals (first | done | (subst h0;(repeat' apply And.intro);all_goals (first | trivial | rfl | (simp only [LV.lit.injEq,Value.int.injEq,true_and];omega) | (have e : aP b 1 = [bv] := happ;rw [e,← qc_one]))))
   ·simp only [nV_ne h0,nB_ne h0]
    (repeat (first|apply zO (by decide +kernel)|apply zP (by decide +kernel)|(apply zS;(case h=>constructor<;>decide))|((first|apply l_go rfl|apply c_dec|apply zT rfl (by decide) rfl);(case hs=>(simp (disch := first|omega|exact kD rfl|exact kX rfl) only [smY,simprocAttr,bl,i64,smT];exact rfl));first|refine c_bt ?_|refine c_bf ?_|refine zq ?_|(case hg=>assumption))))
    refine ⟨⟨m + 1,by omega⟩,?_,by simp only;omega⟩
    simp only [nV_succ,nB_succ]
    (refine Sub.heapL [0,1,2,16] rfl (by decide) ?_ (by simp only [smL];decide) ?_ ?_;all_goals (first|(simp only [plainC,smF,dg,renL,renLs,simprocAttr,bl,i64,smT];done) | (simp only [smF,dg,renL,renLs,simprocAttr,bl,i64,smT];(repeat' apply And.intro);all_goals rfl) | (simp only [smF,dg,renL,renLs,simprocAttr,bl,i64,smT]) | skip))
    all_goals (first | done | ((repeat' apply And.intro);all_goals (first | trivial | rfl | (simp only [LV.lit.injEq,Value.int.injEq,true_and];omega) | rw [happ,← qc_app])))
  ·have hmN : p - f = m := by omega
   rw [hmN] at gR
   by_cases h0 : m = 0
   ·simp only [nV_of h0,nB_of h0]
    subst h0
    rw [aP0] at gR
    (repeat (first|apply zO (by decide +kernel)|apply zP (by decide +kernel)|(apply zS;(case h=>constructor<;>decide))|((first|apply l_go rfl|apply c_dec|apply zT rfl (by decide) rfl);(case hs=>(simp (disch := first|omega|exact kD rfl|exact kX rfl) only [smY,simprocAttr,bl,i64,smT];exact rfl));first|refine c_bt ?_|refine c_bf ?_|refine zq ?_|(case hg=>assumption))))
    ((first|apply g_ret|apply g_end);case hres => (simp only [smR];simp (disch := first|omega|exact kD rfl|exact kX rfl) only [smY,simprocAttr,bl,i64,smT];exact rfl))
    simp (disch := first|omega|exact kD rfl|exact kX rfl) only [smY,simprocAttr,bl,i64,smT]
   ·simp only [nV_ne h0,nB_ne h0]
    (repeat (first|apply zO (by decide +kernel)|apply zP (by decide +kernel)|(apply zS;(case h=>constructor<;>decide))|((first|apply l_go rfl|apply c_dec|apply zT rfl (by decide) rfl);(case hs=>(simp (disch := first|omega|exact kD rfl|exact kX rfl) only [smY,simprocAttr,bl,i64,smT];exact rfl));first|refine c_bt ?_|refine c_bf ?_|refine zq ?_|(case hg=>assumption))))
    ((first|apply g_ret|apply g_end);case hres => (simp only [smR];simp (disch := first|omega|exact kD rfl|exact kX rfl) only [smY,simprocAttr,bl,i64,smT];exact rfl))
    simp (disch := first|omega|exact kD rfl|exact kX rfl) only [smY,simprocAttr,bl,i64,smT]
end Go.Proofs.YteecamhdbilmoaaGreatDoor
namespace Go.Proofs.YteecamhdbilmoaaGreatDoor
open Go Go.Lg Go.Num
set_option maxRecDepth 100000
set_option maxHeartbeats 8000000
attribute [local irreducible] Go.Lg.lrun Go.Lg.lwp Go.Lg.exThen Go.Lg.exBlk Go.Lg.keep Go.Lg.goodPost sg mg oc mC twP tw bq kr chi eK gB cSer
theorem rat_plain_good (a : Nat → Rat) (k p t : Nat) (b : Bool) (hp : p ≤ 1000) (ht1 : 1 ≤ t) (ht : t ≤ 1000) (ba : ∀ i,i < p → lq (a i) ≤ 410) (hk : k ≤ 40) (hkb : ¬ (k = 2 ∧ b = true)) : PureGood Tryz.prog 51 [cSer 0 a p,i64 k,i64 t,bl b,i64 p] (cSer 0 (upT a t) p) := by
 have hpt : p ≤ t * p := Nat.le_mul_of_pos_left p (by omega)
 have g1 := rexpand_good a p t hp ht1 ht (fun i hi => Nat.le_trans (ba i hi) (by omega))
 have g2 := rcut_good (upT a t) (min (t * p) 1000) p (by omega) (by omega) (fun i hi => lq_upT (fun i hi => Nat.le_trans (ba i hi) (by omega)) (by omega) (by omega : i < t * p))
 obtain ⟨x1,M1,L1,hR1,hL1,hM1,hx1⟩ := cSer_form 0 a p
 rw [hR1] at g1 ⊢
 clear hR1
 obtain ⟨x2,M2,L2,hR2,hL2,hM2,hx2⟩ := cSer_form 0 (upT a t) (min (t * p) 1000)
 rw [hR2] at g1 g2
 clear hR2
 obtain ⟨x3,M3,L3,hR3,hL3,hM3,hx3⟩ := cSer_form 0 (upT a t) p
 rw [hR3] at g2 ⊢
 clear hR3
 simp only [i64,bl] at *
 by_cases h2 : k = 2
 ·obtain rfl : b = false := by
   cases b with
   | false => rfl
   | true => exact absurd ⟨h2,rfl⟩ hkb
  refine good_of_lwp mix Tryz.func51 rfl (by decide) (nt := 45) rfl (rs := [.cell 10 26]) rfl (nle rfl) ?_
  (repeat (first|apply zO (by decide +kernel)|apply zP (by decide +kernel)|(apply zS;(case h=>constructor<;>decide))|((first|apply l_go rfl|apply c_dec|apply zT rfl (by decide) rfl);(case hs=>(simp (disch := first|omega|exact kD rfl|exact kX rfl) only [smY,simprocAttr,bl,i64,smT];exact rfl));first|refine c_bt ?_|refine c_bf ?_|refine zq ?_|(case hg=>assumption))))
  ((first|apply g_ret|apply g_end);case hres => (simp only [smR];simp (disch := first|omega|exact kD rfl|exact kX rfl) only [smY,simprocAttr,bl,i64,smT];exact rfl))
  simp (disch := first|omega|exact kD rfl|exact kX rfl) only [smY,simprocAttr,bl,i64,smT]
 ·refine good_of_lwp mix Tryz.func51 rfl (by decide) (nt := 45) rfl (rs := [.cell 10 26]) rfl (nle rfl) ?_
  (repeat (first|apply zO (by decide +kernel)|apply zP (by decide +kernel)|(apply zS;(case h=>constructor<;>decide))|((first|apply l_go rfl|apply c_dec|apply zT rfl (by decide) rfl);(case hs=>(simp (disch := first|omega|exact kD rfl|exact kX rfl) only [smY,simprocAttr,bl,i64,smT];exact rfl));first|refine c_bt ?_|refine c_bf ?_|refine zq ?_|(case hg=>assumption))))
  ((first|apply g_ret|apply g_end);case hres => (simp only [smR];simp (disch := first|omega|exact kD rfl|exact kX rfl) only [smY,simprocAttr,bl,i64,smT];exact rfl))
  simp (disch := first|omega|exact kD rfl|exact kX rfl) only [smY,simprocAttr,bl,i64,smT]
theorem rat_diff_good (a : Nat → Rat) (p t : Nat) (hp : p ≤ 1000) (ht1 : 1 ≤ t) (ht : t ≤ 1000) (ba : ∀ i,i < p → lq (a i) ≤ 100) : PureGood Tryz.prog 51 [cSer 0 a p,i64 2,i64 t,bl true,i64 p] (cSer 0 (dfT a t) p) := by
 have hpt : p ≤ t * p := Nat.le_mul_of_pos_left p (by omega)
 have bu : ∀ i,i < p → lq (upT a t i) ≤ 100 := fun i hi => lq_upT ba (by omega) (by omega : i < t * p)
 have lt' := lq_i64 (z := -(t : Int)) (by omega)
 have bm : ∀ i,i < p → lq (((-(t : Int) : Int) : Rat) * upT a t i) ≤ 103 := fun i hi => by
  have := lq_mul ((-(t : Int) : Int) : Rat) (upT a t i)
  have := bu i hi
  omega
 have g1 := rexpand_good a p t hp ht1 ht (fun i hi => Nat.le_trans (ba i hi) (by omega))
 have g2 := rcut_good (upT a t) (min (t * p) 1000) p (by omega) (by omega) (fun i hi => lq_upT (fun i hi => Nat.le_trans (ba i hi) (by omega)) (by omega) (by omega : i < t * p))
 have g0 := baseQ_good (-(t : Int)) (by omega)
 have g3 := rscaleA_good ((-(t : Int) : Int) : Rat) (upT a t) p hp (by omega) (fun i hi => Nat.le_trans (bu i hi) (by omega))
 have g4 := raddA_good a (fun i => ((-(t : Int) : Int) : Rat) * upT a t i) p hp (fun i hi => Nat.le_trans (ba i hi) (by omega)) (fun i hi => Nat.le_trans (bm i hi) (by omega)) (fun i hi => by
  have h1 := lq_add (a i) (((-(t : Int) : Int) : Rat) * upT a t i)
  have h2 := ba i hi
  have h3 := bm i hi
  omega)
 rw [show (fun i => a i + ((-(t : Int) : Int) : Rat) * upT a t i) = dfT a t from funext fun i => by
  unfold dfT
  rw [Rat.intCast_neg,Rat.neg_mul,Rat.sub_eq_add_neg]] at g4
 rw [show -(t : Int) = 0 - (t : Int) by omega] at g0
 generalize hc : (fun i => ((-(t : Int) : Int) : Rat) * upT a t i) = c at *
 generalize hq : ((-(t : Int) : Int) : Rat) = q at *
 rw [show ((0 - (t : Int) : Int) : Rat) = q by rw [← hq];congr 1;omega] at g0
 clear hc hq bm lt' bu
 obtain ⟨x1,M1,L1,hR1,hL1,hM1,hx1⟩ := cSer_form 0 a p
 rw [hR1] at g1 g4 ⊢
 clear hR1
 obtain ⟨x2,M2,L2,hR2,hL2,hM2,hx2⟩ := cSer_form 0 (upT a t) (min (t * p) 1000)
 rw [hR2] at g1 g2
 clear hR2
 obtain ⟨x3,M3,L3,hR3,hL3,hM3,hx3⟩ := cSer_form 0 (upT a t) p
 rw [hR3] at g2 g3
 clear hR3
 obtain ⟨x4,M4,L4,hR4,hL4,hM4,hx4⟩ := cSer_form 0 c p
 rw [hR4] at g3 g4
 clear hR4
 obtain ⟨x5,M5,L5,hR5,hL5,hM5,hx5⟩ := cSer_form 0 (dfT a t) p
 rw [hR5] at g4 ⊢
 clear hR5
 simp only [i64,bl,encQ_sm] at *
 refine good_of_lwp mix Tryz.func51 rfl (by decide) (nt := 45) rfl (rs := [.cell 10 26]) rfl (nle rfl) ?_
 (repeat (first|apply zO (by decide +kernel)|apply zP (by decide +kernel)|(apply zS;(case h=>constructor<;>decide))|((first|apply l_go rfl|apply c_dec|apply zT rfl (by decide) rfl);(case hs=>(simp (disch := first|omega|exact kD rfl|exact kX rfl) only [smY,simprocAttr,bl,i64,smT];exact rfl));first|refine c_bt ?_|refine c_bf ?_|refine zq ?_|(case hg=>assumption))))
 ((first|apply g_ret|apply g_end);case hres => (simp only [smR];simp (disch := first|omega|exact kD rfl|exact kX rfl) only [smY,simprocAttr,bl,i64,smT];exact rfl))
 simp (disch := first|omega|exact kD rfl|exact kX rfl) only [smY,simprocAttr,bl,i64,smT]
end Go.Proofs.YteecamhdbilmoaaGreatDoor