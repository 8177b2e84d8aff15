/- Contracts of functions of the program, and what proves them (texts: B8 B9 Num3 B10). -/
import Derived.Test.YtpkjokknpbclhaaGreatZAE
set_option linter.all false
namespace Go.Proofs.YtpkjokknpbclhaaGreat
open Go Go.Lg Go.Num
set_option maxRecDepth 100000
attribute [local irreducible] Go.Lg.lrun Go.Lg.lwp Go.Lg.exThen Go.Lg.exBlk Go.Lg.keep Go.Lg.goodPost Go.Lg.mutPost
theorem tn_sub2 (k : Nat) : ((k : Int) - 2).toNat = k - 2 := by omega
set_option maxHeartbeats 2000000 in
theorem digit_mut {L v : List Nat} {j : Nat} (hL : OkD L) (hv : OkD v) (hn : 2 ≤ v.length) (hj : j + v.length + 1 ≤ L.length) (hu : sec L j (v.length + 1) < 4294967296 * val v) (h1 : 2147483648 ≤ v.getD (v.length - 1) 0) (lL : L.length ≤ 1099511627776) :
  MutGood Tryz.prog 168 [.own 0 j (v.length + 1) 1,dg v] 122 (dgs L) (u32 (sec L j (v.length + 1) / val v)) (dgs (L.take j ++ padL (v.length + 1) (sec L j (v.length + 1) % val v) ++ L.drop (j + (v.length + 1)))) := by
 unfold u32
 refine mut_of_lwp mix Tryz.func168 rfl (by decide) (nt := 160) rfl (rs := [.tmp 4]) rfl (nle rfl) (dgs_plain _) (dgs_plain _) ?_
 have b0 := hL.getD (j + v.length)
 have b1 := hL.getD (j + (v.length - 1))
 have b2 := hL.getD (j + (v.length - 2))
 have c1 := hv.getD (v.length - 1)
 have c2 := hv.getD (v.length - 2)
 have hg0 := guess_first hL hv hn hu h1
 have hr0 : (L.getD (j + v.length) 0 * 4294967296 + L.getD (j + (v.length - 1)) 0) % v.getD (v.length - 1) 0 < v.getD (v.length - 1) 0 := Nat.mod_lt _ (by omega)
 have hq0 : (L.getD (j + v.length) 0 * 4294967296 + L.getD (j + (v.length - 1)) 0) / v.getD (v.length - 1) 0 ≤ 18446744073709551615 := Nat.le_trans (Nat.div_le_self _ _) (by omega)
 have hq1 := Int.natCast_nonneg ((L.getD (j + v.length) 0 * 4294967296 + L.getD (j + (v.length - 1)) 0) / v.getD (v.length - 1) 0)
 (repeat (first|apply zO (by decide +kernel)|apply zP (by decide +kernel)|((fail_if_success refine is_bl ?_);apply zS;(case h=>constructor<;>decide))|((first|apply l_go rfl|apply c_dec);(case hs=>(simp (disch := first|omega|exact kD rfl|exact kX rfl) only [smY,simprocAttr,bl,u32,u64,i64,tn_sub2];exact rfl));first|refine c_bt ?_|refine c_bf ?_|refine zq ?_)))
 refine w_cut (α := {g : Nat // g < 4294967296 ∧ g * val v < sec L j (v.length + 1) + val v ∧ sec L j (v.length + 1) < (g + 1) * val v})
  (fun p => st 160 (lk [(0,.own 0 j (v.length + 1) 1),(1,dg v),(5,i64 v.length),(7,u64 p.1)]) (lkH [(0,⟨122,dgs L,false⟩)]) 1) ?_ ?_
 ·refine w_block ?_
  refine w_loop (α := {p : Nat × Nat // Guess L v j p.1 p.2 ∧ p.2 < 4294967296})
   (fun p => st 160 (lk [(0,.own 0 j (v.length + 1) 1),(1,dg v),(5,i64 v.length),(7,u64 p.1.1),(8,u64 p.1.2)]) (lkH [(0,⟨122,dgs L,false⟩)]) 1) (fun p => p.1.1) ⟨(_,_),hg0,by simp only;omega⟩ ?_ ?_
  ·(refine Sub.heap1 0 ?_ (by simp only [smF,dg,renL,renLs,simprocAttr,bl,u32,u64,i64,tn_sub2];exact rfl) ?_ ?_;all_goals (first | exact dgs_plain _ | with_reducible rfl | (simp only [smF,dg,renL,renLs,simprocAttr,bl,u32,u64,i64,tn_sub2];done) | (simp only [smF,dg,renL,renLs,simprocAttr,bl,u32,u64,i64,tn_sub2]) | skip))
  ·rintro ⟨⟨g,rest⟩,hg,hr⟩
   simp only at hg hr
   simp only [st]
   obtain ⟨hlead,hg8,hglt⟩ := guess_lt hL hv hn hu h1 hg
   by_cases hc : 4294967296 ≤ g
   ·obtain ⟨h0,hg'⟩ := guess_step hL hv hn hu h1 hg (.inl hc)
    obtain ⟨_,_,hglt'⟩ := guess_lt hL hv hn hu h1 hg'
    by_cases hb : 4294967296 ≤ rest + v.getD (v.length - 1) 0
    ·(repeat (first|apply zO (by decide +kernel)|apply zP (by decide +kernel)|(apply zS;(case h=>constructor<;>decide))|((first|apply l_go rfl|apply c_dec);(case hs=>(simp (disch := first|omega|exact kD rfl|exact kX rfl) only [smY,simprocAttr,bl,u32,u64,i64,tn_sub2];exact rfl));first|refine c_bt ?_|refine c_bf ?_|refine zq ?_)))
     refine ⟨⟨g - 1,hglt' hb,guess_end hL hv hn hu h1 hg' (hglt' hb) (.inl hb)⟩,?_⟩
     (refine Sub.heap1 0 ?_ (by simp only [smF,dg,renL,renLs,simprocAttr,bl,u32,u64,i64,tn_sub2];exact rfl) ?_ ?_;all_goals (first | exact dgs_plain _ | with_reducible rfl | (simp only [smF,dg,renL,renLs,simprocAttr,bl,u32,u64,i64,tn_sub2];done) | (simp only [smF,dg,renL,renLs,simprocAttr,bl,u32,u64,i64,tn_sub2]) | skip))
     (simp only [true_and];(simp only [LV.lit.injEq,Value.int.injEq,true_and,and_true,dg,LV.sl.injEq];omega))
    ·(repeat (first|apply zO (by decide +kernel)|apply zP (by decide +kernel)|(apply zS;(case h=>constructor<;>decide))|((first|apply l_go rfl|apply c_dec);(case hs=>(simp (disch := first|omega|exact kD rfl|exact kX rfl) only [smY,simprocAttr,bl,u32,u64,i64,tn_sub2];exact rfl));first|refine c_bt ?_|refine c_bf ?_|refine zq ?_)))
     refine ⟨⟨(g - 1,rest + v.getD (v.length - 1) 0),hg',by simp only;omega⟩,?_,by simp only;omega⟩
     (refine Sub.heap1 0 ?_ (by simp only [smF,dg,renL,renLs,simprocAttr,bl,u32,u64,i64,tn_sub2];exact rfl) ?_ ?_;all_goals (first | exact dgs_plain _ | with_reducible rfl | (simp only [smF,dg,renL,renLs,simprocAttr,bl,u32,u64,i64,tn_sub2];done) | (simp only [smF,dg,renL,renLs,simprocAttr,bl,u32,u64,i64,tn_sub2]) | skip))
     (simp only [true_and];(simp only [LV.lit.injEq,Value.int.injEq,true_and,and_true,dg,LV.sl.injEq];omega))
   ·have hm := mul_bound (show g < 4294967296 by omega) c2
    by_cases hd : g * v.getD (v.length - 2) 0 > rest * 4294967296 + L.getD (j + (v.length - 2)) 0
    ·obtain ⟨h0,hg'⟩ := guess_step hL hv hn hu h1 hg (.inr hd)
     obtain ⟨_,_,hglt'⟩ := guess_lt hL hv hn hu h1 hg'
     by_cases hb : 4294967296 ≤ rest + v.getD (v.length - 1) 0
     ·(repeat (first|apply zO (by decide +kernel)|apply zP (by decide +kernel)|(apply zS;(case h=>constructor<;>decide))|((first|apply l_go rfl|apply c_dec);(case hs=>(simp (disch := first|omega|exact kD rfl|exact kX rfl) only [smY,simprocAttr,bl,u32,u64,i64,tn_sub2];exact rfl));first|refine c_bt ?_|refine c_bf ?_|refine zq ?_)))
      refine ⟨⟨g - 1,hglt' hb,guess_end hL hv hn hu h1 hg' (hglt' hb) (.inl hb)⟩,?_⟩
      (refine Sub.heap1 0 ?_ (by simp only [smF,dg,renL,renLs,simprocAttr,bl,u32,u64,i64,tn_sub2];exact rfl) ?_ ?_;all_goals (first | exact dgs_plain _ | with_reducible rfl | (simp only [smF,dg,renL,renLs,simprocAttr,bl,u32,u64,i64,tn_sub2];done) | (simp only [smF,dg,renL,renLs,simprocAttr,bl,u32,u64,i64,tn_sub2]) | skip))
      (simp only [true_and];(simp only [LV.lit.injEq,Value.int.injEq,true_and,and_true,dg,LV.sl.injEq];omega))
     ·(repeat (first|apply zO (by decide +kernel)|apply zP (by decide +kernel)|(apply zS;(case h=>constructor<;>decide))|((first|apply l_go rfl|apply c_dec);(case hs=>(simp (disch := first|omega|exact kD rfl|exact kX rfl) only [smY,simprocAttr,bl,u32,u64,i64,tn_sub2];exact rfl));first|refine c_bt ?_|refine c_bf ?_|refine zq ?_)))
      refine ⟨⟨(g - 1,rest + v.getD (v.length - 1) 0),hg',by simp only;omega⟩,?_,by simp only;omega⟩
      (refine Sub.heap1 0 ?_ (by simp only [smF,dg,renL,renLs,simprocAttr,bl,u32,u64,i64,tn_sub2];exact rfl) ?_ ?_;all_goals (first | exact dgs_plain _ | with_reducible rfl | (simp only [smF,dg,renL,renLs,simprocAttr,bl,u32,u64,i64,tn_sub2];done) | (simp only [smF,dg,renL,renLs,simprocAttr,bl,u32,u64,i64,tn_sub2]) | skip))
      (simp only [true_and];(simp only [LV.lit.injEq,Value.int.injEq,true_and,and_true,dg,LV.sl.injEq];omega))
    ·(repeat (first|apply zO (by decide +kernel)|apply zP (by decide +kernel)|(apply zS;(case h=>constructor<;>decide))|((first|apply l_go rfl|apply c_dec);(case hs=>(simp (disch := first|omega|exact kD rfl|exact kX rfl) only [smY,simprocAttr,bl,u32,u64,i64,tn_sub2];exact rfl));first|refine c_bt ?_|refine c_bf ?_|refine zq ?_)))
     refine ⟨⟨g,by omega,guess_end hL hv hn hu h1 hg (by omega) (.inr (by omega))⟩,?_⟩
     (refine Sub.heap1 0 ?_ (by simp only [smF,dg,renL,renLs,simprocAttr,bl,u32,u64,i64,tn_sub2];exact rfl) ?_ ?_;all_goals (first | exact dgs_plain _ | with_reducible rfl | (simp only [smF,dg,renL,renLs,simprocAttr,bl,u32,u64,i64,tn_sub2];done) | (simp only [smF,dg,renL,renLs,simprocAttr,bl,u32,u64,i64,tn_sub2]) | skip))
 ·rintro ⟨g,hglt,hg1,hg2⟩
  simp only [st]
  have hV : 0 < val v := by
   rcases Nat.eq_zero_or_pos (val v) with h | h
   ·rw [h] at hu;omega
   ·exact h
  (repeat (first|apply zO (by decide +kernel)|apply zP (by decide +kernel)|(apply zS;(case h=>constructor<;>decide))|((first|apply l_go rfl|apply c_dec);(case hs=>(simp (disch := first|omega|exact kD rfl|exact kX rfl) only [smY,simprocAttr,bl,u32,u64,i64,tn_sub2];exact rfl));first|refine c_bt ?_|refine c_bf ?_|refine zq ?_)))
  -- multiply and subtract
  refine w_loop (α := {p : Nat × List Nat × Nat × Nat // p.1 ≤ v.length ∧ p.2.1.length = L.length ∧ OkD p.2.1 ∧ p.2.2.1 < 4294967296 ∧ p.2.2.2 ≤ 1 ∧ p.2.1.take j = L.take j ∧ p.2.1.drop (j + p.1) = L.drop (j + p.1) ∧ sec p.2.1 j p.1 + g * val (v.take p.1) = sec L j p.1 + 4294967296 ^ p.1 * (p.2.2.1 + p.2.2.2)})
   (fun p => st 160 (lk [(0,.own 0 j (v.length + 1) 1),(1,dg v),(5,i64 v.length),(7,u64 g),(9,u64 p.1.2.2.1),(10,u32 p.1.2.2.2),(82,dg v),(83,i64 v.length),(84,i64 p.1.1)]) (lkH [(0,⟨122,dgs p.1.2.1,false⟩)]) 1) (fun p => v.length - p.1.1) ⟨(0,L,0,0),by simp,rfl,hL,by simp,by simp,rfl,rfl,by simp [sec,val]⟩ ?_ ?_
  ·(refine Sub.heap1 0 ?_ (by simp only [smF,dg,renL,renLs,simprocAttr,bl,u32,u64,i64,tn_sub2];exact rfl) ?_ ?_;all_goals (first | exact dgs_plain _ | with_reducible rfl | (simp only [smF,dg,renL,renLs,simprocAttr,bl,u32,u64,i64,tn_sub2];done) | (simp only [smF,dg,renL,renLs,simprocAttr,bl,u32,u64,i64,tn_sub2]) | skip))
  ·rintro ⟨⟨i,M,c,b⟩,hi,hM,hMo,hc,hb,ht,hd,he⟩
   simp only at hi hM hMo hc hb ht hd he
   simp only [st]
   have hx := hv.getD i
   have hy := hMo.getD (j + i)
   have hgx := mul_bound hglt hx
   by_cases hlt : i < v.length
   ·have hw : IntKind.u32.wrap ((g : Int) * (v.getD i 0 : Nat) + c) = (((g * v.getD i 0 + c) % 4294967296 : Nat) : Int) := by rw [wrap_u32_mod];simp
    have hu0 : L.getD (j + i) 0 = M.getD (j + i) 0 := getD_of_drop hd.symm (Nat.le_refl _)
    have hy2 : (g * v.getD i 0 + c) % 4294967296 < 4294967296 := Nat.mod_lt _ (by omega)
    (repeat (first|apply zO (by decide +kernel)|apply zP (by decide +kernel)|(apply zS;(case h=>constructor<;>decide))|((first|apply l_go rfl|apply c_dec);(case hs=>(simp (disch := first|omega|exact kD rfl|exact kX rfl) only [smY,simprocAttr,bl,u32,u64,i64,tn_sub2];exact rfl));first|refine c_bt ?_|refine c_bf ?_|refine zq ?_)))
    simp only [hw]
    refine l_call rfl (by decide) rfl (by simp (disch := first|omega|exact kD rfl|exact kX rfl) only [smY,simprocAttr,bl,u32,u64,i64,tn_sub2];exact rfl) (sub32_good hy hy2 hb) ?_
    simp only [u32]
    (repeat (first|apply zO (by decide +kernel)|apply zP (by decide +kernel)|(apply zS;(case h=>constructor<;>decide))|((first|apply l_go rfl|apply c_dec);(case hs=>(simp (disch := first|omega|exact kD rfl|exact kX rfl) only [smY,simprocAttr,bl,u32,u64,i64,tn_sub2];exact rfl));first|refine c_bt ?_|refine c_bf ?_|refine zq ?_)))
    generalize hlo : (g * v.getD i 0 + c) % 4294967296 = lo at *
    generalize hc' : (g * v.getD i 0 + c) / 4294967296 = c' at *
    have hlc : lo + 4294967296 * c' = g * v.getD i 0 + c := by omega
    refine ⟨⟨(i + 1,M.set (j + i) ((M.getD (j + i) 0 + 8589934592 - lo - b) % 4294967296),c',if M.getD (j + i) 0 < lo + b then 1 else 0),by simp only;omega,by simp [hM],hMo.set (Nat.mod_lt _ (by omega)),by simp only;omega,by simp only;split <;> omega,?_,?_,?_⟩,?_,by simp only;omega⟩
    ·simp only [take_set_at];exact ht
    ·simp only
     rw [← Nat.add_assoc,drop_set_at_succ,← List.drop_drop,hd,List.drop_drop]
    ·simp only
     rw [sec_set_next (by omega),sec_next,val_take_next,Nat.pow_succ,hu0]
     refine mulsub_next he hlc ?_
     split <;> omega
    ·(refine Sub.heap1 0 ?_ (by simp only [smF,dg,renL,renLs,simprocAttr,bl,u32,u64,i64,tn_sub2];exact rfl) ?_ ?_;all_goals (first | exact dgs_plain _ | with_reducible rfl | (simp only [smF,dg,renL,renLs,simprocAttr,bl,u32,u64,i64,tn_sub2];done) | (simp only [smF,dg,renL,renLs,simprocAttr,bl,u32,u64,i64,tn_sub2]) | skip))
     simp only [true_and]
     rw [← hc']
     simp
   ·have hi2 : i = v.length := by omega
    subst hi2
    rw [List.take_of_length_le (Nat.le_refl _)] at he
    (repeat (first|apply zO (by decide +kernel)|apply zP (by decide +kernel)|(apply zS;(case h=>constructor<;>decide))|((first|apply l_go rfl|apply c_dec);(case hs=>(simp (disch := first|omega|exact kD rfl|exact kX rfl) only [smY,simprocAttr,bl,u32,u64,i64,tn_sub2];exact rfl));first|refine c_bt ?_|refine c_bf ?_|refine zq ?_)))
    refine l_call rfl (by decide) rfl (by simp (disch := first|omega|exact kD rfl|exact kX rfl) only [smY,simprocAttr,bl,u32,u64,i64,tn_sub2];exact rfl) (sub32_good hy hc hb) ?_
    simp only [u32]
    have hd0 : L.getD (j + v.length) 0 = M.getD (j + v.length) 0 := getD_of_drop hd.symm (Nat.le_refl _)
    have hdl : (M.getD (j + v.length) 0 + 8589934592 - c - b) % 4294967296 < 4294967296 := Nat.mod_lt _ (by omega)
    have hdb : (M.getD (j + v.length) 0 + 8589934592 - c - b) % 4294967296 + c + b = L.getD (j + v.length) 0 + 4294967296 * (if M.getD (j + v.length) 0 < c + b then 1 else 0) := by
     rw [hd0];split <;> omega
    generalize hdd : (M.getD (j + v.length) 0 + 8589934592 - c - b) % 4294967296 = d at *
    have hM1 : (M.set (j + v.length) d).length = L.length := by simp [hM]
    have hM1o : OkD (M.set (j + v.length) d) := hMo.set hdl
    have hM1t : (M.set (j + v.length) d).take j = L.take j := by rw [take_set_at];exact ht
    have hM1d : (M.set (j + v.length) d).drop (j + (v.length + 1)) = L.drop (j + (v.length + 1)) := by
     rw [← Nat.add_assoc,drop_set_at_succ,← List.drop_drop,hd,List.drop_drop]
    have hsec : sec (M.set (j + v.length) d) j (v.length + 1) = sec M j v.length + 4294967296 ^ v.length * d := sec_set_next (by omega)
    have hU := sec_next L j v.length
    have hp : 4294967296 ^ (v.length + 1) = 4294967296 ^ v.length * 4294967296 := Nat.pow_succ ..
    have hVlt := val_lt hv
    have e1 : 4294967296 ^ v.length * (d + c + b) = 4294967296 ^ v.length * (L.getD (j + v.length) 0 + 4294967296 * (if M.getD (j + v.length) 0 < c + b then 1 else 0)) := by rw [hdb]
    by_cases hbr : M.getD (j + v.length) 0 < c + b
    ·simp only [if_pos hbr] at e1 ⊢
     have htot : sec (M.set (j + v.length) d) j (v.length + 1) + g * val v = sec L j (v.length + 1) + 4294967296 ^ (v.length + 1) := by
      rw [hsec,hU,hp]
      simp only [Nat.mul_add] at he e1 ⊢
      omega
     obtain ⟨a1,a2,a3⟩ := add_back htot (sec_lt hM1o _ _) hg1 hg2
     have hgV : g * val v = (g - 1) * val v + val v := by
      conv => lhs;rw [show g = g - 1 + 1 by omega,Nat.add_mul,Nat.one_mul]
     have hrlt := sec_lt hM1o j (v.length + 1)
     obtain ⟨q1,q2⟩ := div_of a1 (by rw [show g - 1 + 1 = g by omega];omega)
     rw [q1,q2]
     have hUlt : sec L j (v.length + 1) - (g - 1) * val v < 4294967296 ^ v.length := by omega
     generalize hMM : M.set (j + v.length) d = M1 at *
     (repeat (first|apply zO (by decide +kernel)|apply zP (by decide +kernel)|(apply zS;(case h=>constructor<;>decide))|((first|apply l_go rfl|apply c_dec);(case hs=>(simp (disch := first|omega|exact kD rfl|exact kX rfl) only [smY,simprocAttr,bl,u32,u64,i64,tn_sub2];exact rfl));first|refine c_bt ?_|refine c_bf ?_|refine zq ?_)))
     refine w_loop (α := {p : Nat × List Nat × Nat // p.1 ≤ v.length ∧ p.2.1.length = L.length ∧ OkD p.2.1 ∧ p.2.2 ≤ 1 ∧ p.2.1.take j = L.take j ∧ p.2.1.drop (j + p.1) = M1.drop (j + p.1) ∧ sec p.2.1 j p.1 + 4294967296 ^ p.1 * p.2.2 = sec M1 j p.1 + val (v.take p.1)})
      (fun p => st 160 (lk [(0,.own 0 j (v.length + 1) 1),(1,dg v),(5,i64 v.length),(7,u64 (g - 1)),(14,u32 p.1.2.2),(130,dg v),(131,i64 v.length),(132,i64 p.1.1)]) (lkH [(0,⟨122,dgs p.1.2.1,false⟩)]) 1) (fun p => v.length - p.1.1) ⟨(0,M1,0),by simp,hM1,hM1o,by simp,hM1t,rfl,by simp [sec,val]⟩ ?_ ?_
     ·(refine Sub.heap1 0 ?_ (by simp only [smF,dg,renL,renLs,simprocAttr,bl,u32,u64,i64,tn_sub2];exact rfl) ?_ ?_;all_goals (first | exact dgs_plain _ | with_reducible rfl | (simp only [smF,dg,renL,renLs,simprocAttr,bl,u32,u64,i64,tn_sub2];done) | (simp only [smF,dg,renL,renLs,simprocAttr,bl,u32,u64,i64,tn_sub2]) | skip))
      ·simp only [true_and]
       (simp only [LV.lit.injEq,Value.int.injEq,true_and,and_true,dg,LV.sl.injEq];omega)
      ·rw [hMM]
     ·rintro ⟨⟨i,N,k⟩,hi,hN,hNo,hk,hNt,hNd,hNe⟩
      simp only at hi hN hNo hk hNt hNd hNe
      simp only [st]
      have hx := hv.getD i
      have hy := hNo.getD (j + i)
      by_cases hlt : i < v.length
      ·(repeat (first|apply zO (by decide +kernel)|apply zP (by decide +kernel)|(apply zS;(case h=>constructor<;>decide))|((first|apply l_go rfl|apply c_dec);(case hs=>(simp (disch := first|omega|exact kD rfl|exact kX rfl) only [smY,simprocAttr,bl,u32,u64,i64,tn_sub2];exact rfl));first|refine c_bt ?_|refine c_bf ?_|refine zq ?_)))
       refine l_call rfl (by decide) rfl (by simp (disch := first|omega|exact kD rfl|exact kX rfl) only [smY,simprocAttr,bl,u32,u64,i64,tn_sub2];exact rfl) (add32_good hy hx (by omega)) ?_
       simp only [u32]
       (repeat (first|apply zO (by decide +kernel)|apply zP (by decide +kernel)|(apply zS;(case h=>constructor<;>decide))|((first|apply l_go rfl|apply c_dec);(case hs=>(simp (disch := first|omega|exact kD rfl|exact kX rfl) only [smY,simprocAttr,bl,u32,u64,i64,tn_sub2];exact rfl));first|refine c_bt ?_|refine c_bf ?_|refine zq ?_)))
       have hn0 : M1.getD (j + i) 0 = N.getD (j + i) 0 := getD_of_drop hNd.symm (Nat.le_refl _)
       refine ⟨⟨(i + 1,N.set (j + i) ((N.getD (j + i) 0 + v.getD i 0 + k) % 4294967296),(N.getD (j + i) 0 + v.getD i 0 + k) / 4294967296),by simp only;omega,by simp [hN],hNo.set (Nat.mod_lt _ (by omega)),by simp only;omega,?_,?_,?_⟩,?_,by simp only;omega⟩
       ·simp only [take_set_at];exact hNt
       ·simp only
        rw [← Nat.add_assoc,drop_set_at_succ,← List.drop_drop,hNd,List.drop_drop]
       ·simp only
        rw [sec_set_next (by omega),sec_next,val_take_next,Nat.pow_succ,hn0]
        exact add_next hNe rfl
       ·(refine Sub.heap1 0 ?_ (by simp only [smF,dg,renL,renLs,simprocAttr,bl,u32,u64,i64,tn_sub2];exact rfl) ?_ ?_;all_goals (first | exact dgs_plain _ | with_reducible rfl | (simp only [smF,dg,renL,renLs,simprocAttr,bl,u32,u64,i64,tn_sub2];done) | (simp only [smF,dg,renL,renLs,simprocAttr,bl,u32,u64,i64,tn_sub2]) | skip))
      ·have hi2 : i = v.length := by omega
       subst hi2
       rw [List.take_of_length_le (Nat.le_refl _)] at hNe
       have hn0 : M1.getD (j + v.length) 0 = N.getD (j + v.length) 0 := getD_of_drop hNd.symm (Nat.le_refl _)
       (repeat (first|apply zO (by decide +kernel)|apply zP (by decide +kernel)|(apply zS;(case h=>constructor<;>decide))|((first|apply l_go rfl|apply c_dec);(case hs=>(simp (disch := first|omega|exact kD rfl|exact kX rfl) only [smY,simprocAttr,bl,u32,u64,i64,tn_sub2];exact rfl));first|refine c_bt ?_|refine c_bf ?_|refine zq ?_)))
       (apply m_ret;(case hres => (simp only [smR];simp (disch := first|omega|exact kD rfl|exact kX rfl) only [smY,simprocAttr,bl,u32,u64,i64,tn_sub2];exact rfl));(case h0 => (simp only [smF,dg,renL,renLs,simprocAttr,bl,u32,u64,i64,tn_sub2];exact rfl));(case hpv => (simp (disch := first|omega|exact kD rfl|exact kX rfl) only [smY,simprocAttr,bl,u32,u64,i64,tn_sub2];try rfl)))
       have e : (((N.getD (j + v.length) 0 : Nat) : Int) + k) % 4294967296 = ((N.getD (j + v.length) 0 + k) % 4294967296 : Nat) := by simp
       rw [e,Int.toNat_natCast]
       have hs := sec_next M1 j v.length
       obtain ⟨z1,z2⟩ := addback_end (S := sec N j v.length) (p := 4294967296 ^ v.length) (k := k) (d := N.getD (j + v.length) 0) (R := sec L j (v.length + 1) - (g - 1) * val v) (by
        rw [hn0] at hs
        rw [hs,hp] at a2
        rw [Nat.mul_add]
        omega) (sec_lt hNo _ _) hUlt (by omega)
       congr 1
       refine join_sec (hNo.set (by omega)) (by simp [hN]) (by omega) (by rw [take_set_at];exact hNt) ?_ ?_
       ·rw [← Nat.add_assoc,drop_set_at_succ,← List.drop_drop,hNd,List.drop_drop,Nat.add_assoc,hM1d]
       ·rw [sec_set_next (by omega),z1,Nat.mul_zero,Nat.add_zero,z2]
    ·simp only [if_neg hbr] at e1 ⊢
     have htot : sec (M.set (j + v.length) d) j (v.length + 1) + g * val v = sec L j (v.length + 1) := by
      rw [hsec,hU]
      simp only [Nat.mul_add] at he e1 ⊢
      omega
     obtain ⟨q1,q2⟩ := div_of (by omega) hg2
     rw [q1]
     (repeat (first|apply zO (by decide +kernel)|apply zP (by decide +kernel)|(apply zS;(case h=>constructor<;>decide))|((first|apply l_go rfl|apply c_dec);(case hs=>(simp (disch := first|omega|exact kD rfl|exact kX rfl) only [smY,simprocAttr,bl,u32,u64,i64,tn_sub2];exact rfl));first|refine c_bt ?_|refine c_bf ?_|refine zq ?_)))
     (apply m_ret;(case hres => (simp only [smR];simp (disch := first|omega|exact kD rfl|exact kX rfl) only [smY,simprocAttr,bl,u32,u64,i64,tn_sub2];exact rfl));(case h0 => (simp only [smF,dg,renL,renLs,simprocAttr,bl,u32,u64,i64,tn_sub2];exact rfl));(case hpv => (simp (disch := first|omega|exact kD rfl|exact kX rfl) only [smY,simprocAttr,bl,u32,u64,i64,tn_sub2];try rfl)))
     congr 1
     rw [q2]
     exact join_sec hM1o hM1 (by omega) hM1t hM1d (by omega)
end Go.Proofs.YtpkjokknpbclhaaGreat
namespace Go.Proofs.YtpkjokknpbclhaaGreat
open Go Go.Lg Go.Num
set_option maxRecDepth 100000
attribute [local irreducible] Go.Lg.lrun Go.Lg.lwp Go.Lg.exThen Go.Lg.exBlk Go.Lg.keep Go.Lg.goodPost Go.Lg.mutPost
theorem trimmed_good' {ds : List Nat} {n : Nat} (hn : ds.length = n) (hok : OkD ds) (hlen : ds.length ≤ 1099511627776) : PureGood Tryz.prog 100 [.sl n (dgs ds)] (dg (digs (val ds))) := by
 subst hn;exact trimmed_good hok hlen
theorem unshifted_good' {a : List Nat} {n s : Nat} (hn : a.length = n) (ha : OkD a) (hs : s < 32) (la : a.length ≤ 1099511627776) : PureGood Tryz.prog 169 [.sl n (dgs a),u64 s] (dg (padL a.length (val a / 2 ^ s))) := by
 subst hn;exact unshifted_good ha hs la
theorem compare_digs {x y : Nat} (lx : (digs x).length ≤ 1099511627776) (ly : (digs y).length ≤ 1099511627776) : PureGood Tryz.prog 156 [dg (digs x),dg (digs y)] (i64 (cmpN x y)) := by
 have := compare_good (digs_ok x) (digs_ok y) (by rw [val_digs]) (by rw [val_digs]) lx ly
 rwa [val_digs,val_digs] at this
theorem len_one {x : Nat} (h : (digs x).length = 1) : (digs x).getD 0 0 = x ∧ x ≠ 0 ∧ x < 4294967296 := by
 have hx : x < 4294967296 ^ 1 := by have := lt_pow_digs x;rwa [h] at this
 have h0 : x ≠ 0 := fun e => by subst e;rw [digs_zero] at h;simp at h
 rw [digs_small h0 (by omega)]
 exact ⟨rfl,h0,by omega⟩
theorem len_two {x : Nat} (h : (digs x).length ≤ 2) : x < 18446744073709551616 := by
 have := lt_pow_digs x
 have h2 : 4294967296 ^ (digs x).length ≤ 4294967296 ^ 2 := Nat.pow_le_pow_right (by omega) h
 omega
theorem word_digs {x : Nat} (h : (digs x).length ≤ 2) : PureGood Tryz.prog 163 [dg (digs x)] (u64 x) := by
 have := word_good (digs_ok x) h
 rwa [val_digs] at this
theorem short_digs {x d : Nat} (hd0 : 0 < d) (hd : d < 4294967296) (la : (digs x).length ≤ 1099511627776) : PureGood Tryz.prog 165 [dg (digs x),u32 d] (.tup [dg (padL (digs x).length (x / d)),u32 (x % d)]) := by
 have := short_good (digs_ok x) hd0 hd la
 rwa [val_digs] at this
theorem divide_good {x y : Nat} (hy : y ≠ 0) (lx : (digs x).length ≤ 549755813888) (ly : (digs y).length ≤ 549755813888) :
  PureGood Tryz.prog 164 [dg (digs x),dg (digs y)] (.tup [dg (digs (x / y)),dg (digs (x % y))]) := by
 refine good_of_lwp mix Tryz.func164 rfl (by decide) (nt := 101) rfl (rs := [.tmp 4,.tmp 5]) rfl (nle rfl) ?_
 have hly : (digs y).length ≠ 0 := fun e => hy (digs_eq_nil.1 (List.eq_nil_of_length_eq_zero e))
 (repeat (first|apply zO (by decide +kernel)|apply zP (by decide +kernel)|(apply zS;(case h=>constructor<;>decide))|((first|apply l_go rfl|apply c_dec);(case hs=>(simp (disch := first|omega|exact kD rfl|exact kX rfl) only [smY,simprocAttr,bl,u32,u64,i64];exact rfl));first|refine c_bt ?_|refine c_bf ?_|refine zq ?_)))
 refine l_call rfl (by decide) rfl (by simp (disch := first|omega|exact kD rfl|exact kX rfl) only [smY,simprocAttr,bl,u32,u64,i64];exact rfl) (compare_digs (by omega) (by omega)) ?_
 simp only [i64]
 by_cases h1 : x < y
 ·have hc : cmpN x y = -1 := by simp [cmpN,h1]
  rw [hc]
  (repeat (first|apply zO (by decide +kernel)|apply zP (by decide +kernel)|(apply zS;(case h=>constructor<;>decide))|((first|apply l_go rfl|apply c_dec);(case hs=>(simp (disch := first|omega|exact kD rfl|exact kX rfl) only [smY,simprocAttr,bl,u32,u64,i64];exact rfl));first|refine c_bt ?_|refine c_bf ?_|refine zq ?_)))
  refine l_call rfl (by decide) rfl (by simp (disch := first|omega|exact kD rfl|exact kX rfl) only [smY,simprocAttr,bl,u32,u64,i64];exact rfl) (clone_good _ (by omega)) ?_
  (repeat (first|apply zO (by decide +kernel)|apply zP (by decide +kernel)|(apply zS;(case h=>constructor<;>decide))|((first|apply l_go rfl|apply c_dec);(case hs=>(simp (disch := first|omega|exact kD rfl|exact kX rfl) only [smY,simprocAttr,bl,u32,u64,i64];exact rfl));first|refine c_bt ?_|refine c_bf ?_|refine zq ?_)))
  ((first|apply g_ret|apply g_end);case hres => (simp only [smR];simp (disch := first|omega|exact kD rfl|exact kX rfl) only [smY,simprocAttr,bl,u32,u64,i64];exact rfl))
  simp (disch := first|omega|exact kD rfl|exact kX rfl) only [smY,simprocAttr,bl,u32,u64,i64]
  rw [Nat.div_eq_of_lt h1,Nat.mod_eq_of_lt h1,digs_zero]
  rfl
 have hc : ¬ cmpN x y < 0 := by unfold cmpN;rw [if_neg h1];split <;> simp
 have hlxy : (digs y).length ≤ (digs x).length := length_le_of_le (by omega)
 by_cases h2 : (digs x).length ≤ 2
 ·have bx := len_two h2
  have by_ := len_two (x := y) (by omega)
  have hdiv := Nat.div_le_self x y
  have hmod := Nat.mod_lt x (Nat.pos_of_ne_zero hy)
  (repeat (first|apply zO (by decide +kernel)|apply zP (by decide +kernel)|(apply zS;(case h=>constructor<;>decide))|((first|apply l_go rfl|apply c_dec);(case hs=>(simp (disch := first|omega|exact kD rfl|exact kX rfl) only [smY,simprocAttr,bl,u32,u64,i64];exact rfl));first|refine c_bt ?_|refine c_bf ?_|refine zq ?_)))
  refine l_call rfl (by decide) rfl (by simp (disch := first|omega|exact kD rfl|exact kX rfl) only [smY,simprocAttr,bl,u32,u64,i64];exact rfl) (word_digs h2) ?_
  simp only [u64]
  (repeat (first|apply zO (by decide +kernel)|apply zP (by decide +kernel)|(apply zS;(case h=>constructor<;>decide))|((first|apply l_go rfl|apply c_dec);(case hs=>(simp (disch := first|omega|exact kD rfl|exact kX rfl) only [smY,simprocAttr,bl,u32,u64,i64];exact rfl));first|refine c_bt ?_|refine c_bf ?_|refine zq ?_)))
  refine l_call rfl (by decide) rfl (by simp (disch := first|omega|exact kD rfl|exact kX rfl) only [smY,simprocAttr,bl,u32,u64,i64];exact rfl) (word_digs (by omega)) ?_
  simp only [u64]
  have p1 := Int.natCast_nonneg (x / y)
  have p2 := Int.natCast_nonneg (x % y)
  (repeat (first|apply zO (by decide +kernel)|apply zP (by decide +kernel)|(apply zS;(case h=>constructor<;>decide))|((first|apply l_go rfl|apply c_dec);(case hs=>(simp (disch := first|omega|exact kD rfl|exact kX rfl) only [smY,simprocAttr,bl,u32,u64,i64];exact rfl));first|refine c_bt ?_|refine c_bf ?_|refine zq ?_)))
  refine l_call rfl (by decide) rfl (by simp (disch := first|omega|exact kD rfl|exact kX rfl) only [smY,simprocAttr,bl,u32,u64,i64];exact rfl) (wide_good (x / y) (by omega)) ?_
  (repeat (first|apply zO (by decide +kernel)|apply zP (by decide +kernel)|(apply zS;(case h=>constructor<;>decide))|((first|apply l_go rfl|apply c_dec);(case hs=>(simp (disch := first|omega|exact kD rfl|exact kX rfl) only [smY,simprocAttr,bl,u32,u64,i64];exact rfl));first|refine c_bt ?_|refine c_bf ?_|refine zq ?_)))
  refine l_call rfl (by decide) rfl (by simp (disch := first|omega|exact kD rfl|exact kX rfl) only [smY,simprocAttr,bl,u32,u64,i64];exact rfl) (wide_good (x % y) (by omega)) ?_
  (repeat (first|apply zO (by decide +kernel)|apply zP (by decide +kernel)|(apply zS;(case h=>constructor<;>decide))|((first|apply l_go rfl|apply c_dec);(case hs=>(simp (disch := first|omega|exact kD rfl|exact kX rfl) only [smY,simprocAttr,bl,u32,u64,i64];exact rfl));first|refine c_bt ?_|refine c_bf ?_|refine zq ?_)))
  ((first|apply g_ret|apply g_end);case hres => (simp only [smR];simp (disch := first|omega|exact kD rfl|exact kX rfl) only [smY,simprocAttr,bl,u32,u64,i64];exact rfl))
  simp (disch := first|omega|exact kD rfl|exact kX rfl) only [smY,simprocAttr,bl,u32,u64,i64]
 by_cases h3 : (digs y).length = 1
 ·obtain ⟨e1,e2,e3⟩ := len_one h3
  have hmod := Nat.mod_lt x (Nat.pos_of_ne_zero hy)
  (repeat (first|apply zO (by decide +kernel)|apply zP (by decide +kernel)|(apply zS;(case h=>constructor<;>decide))|((first|apply l_go rfl|apply c_dec);(case hs=>(simp (disch := first|omega|exact kD rfl|exact kX rfl) only [smY,simprocAttr,bl,u32,u64,i64];exact rfl));first|refine c_bt ?_|refine c_bf ?_|refine zq ?_)))
  simp only [e1]
  refine l_call rfl (by decide) rfl (by simp (disch := first|omega|exact kD rfl|exact kX rfl) only [smY,simprocAttr,bl,u32,u64,i64];exact rfl) (short_digs (d := y) (by omega) e3 (by omega)) ?_
  simp only [u32]
  (repeat (first|apply zO (by decide +kernel)|apply zP (by decide +kernel)|(apply zS;(case h=>constructor<;>decide))|((first|apply l_go rfl|apply c_dec);(case hs=>(simp (disch := first|omega|exact kD rfl|exact kX rfl) only [smY,simprocAttr,bl,u32,u64,i64];exact rfl));first|refine c_bt ?_|refine c_bf ?_|refine zq ?_)))
  have hv : x / y < 4294967296 ^ (digs x).length := Nat.lt_of_le_of_lt (Nat.div_le_self x y) (lt_pow_digs x)
  refine l_call rfl (by decide) rfl (by simp (disch := first|omega|exact kD rfl|exact kX rfl) only [smY,simprocAttr,bl,u32,u64,i64];exact rfl) (trimmed_good (padL_ok _ _) (by rw [padL_length];omega)) ?_
  rw [val_padL hv]
  (repeat (first|apply zO (by decide +kernel)|apply zP (by decide +kernel)|(apply zS;(case h=>constructor<;>decide))|((first|apply l_go rfl|apply c_dec);(case hs=>(simp (disch := first|omega|exact kD rfl|exact kX rfl) only [smY,simprocAttr,bl,u32,u64,i64];exact rfl));first|refine c_bt ?_|refine c_bf ?_|refine zq ?_)))
  refine l_call rfl (by decide) rfl (by simp (disch := first|omega|exact kD rfl|exact kX rfl) only [smY,simprocAttr,bl,u32,u64,i64];exact rfl) (wide_good (x % y) (by omega)) ?_
  (repeat (first|apply zO (by decide +kernel)|apply zP (by decide +kernel)|(apply zS;(case h=>constructor<;>decide))|((first|apply l_go rfl|apply c_dec);(case hs=>(simp (disch := first|omega|exact kD rfl|exact kX rfl) only [smY,simprocAttr,bl,u32,u64,i64];exact rfl));first|refine c_bt ?_|refine c_bf ?_|refine zq ?_)))
  ((first|apply g_ret|apply g_end);case hres => (simp only [smR];simp (disch := first|omega|exact kD rfl|exact kX rfl) only [smY,simprocAttr,bl,u32,u64,i64];exact rfl))
  simp (disch := first|omega|exact kD rfl|exact kX rfl) only [smY,simprocAttr,bl,u32,u64,i64]
 have ht0 := digs_last hy
 have htl := (digs_ok y).getD ((digs y).length - 1)
 generalize ht : (digs y).getD ((digs y).length - 1) 0 = t at *
 obtain ⟨b1,b2,b3,b4⟩ := lead_spec ht0 htl
 obtain ⟨f1,f2,f3⟩ := norm_facts (s := 32 - Lib.bitLen t) hy ht.symm b3 b4 (by omega)
 (repeat (first|apply zO (by decide +kernel)|apply zP (by decide +kernel)|(apply zS;(case h=>constructor<;>decide))|((first|apply l_go rfl|apply c_dec);(case hs=>(simp (disch := first|omega|exact kD rfl|exact kX rfl) only [smY,simprocAttr,bl,u32,u64,i64];exact rfl));first|refine c_bt ?_|refine c_bf ?_|refine zq ?_)))
 simp only [ht]
 refine l_call rfl (by decide) rfl (by simp (disch := first|omega|exact kD rfl|exact kX rfl) only [smY,simprocAttr,bl,u32,u64,i64];exact rfl) (lz32_good htl) ?_
 simp only [i64]
 have hsr : ∃ s : Nat,s = 32 - Lib.bitLen t ∧ (32 : Int) - (Lib.bitLen t : Int) = (s : Int) ∧ s < 32 := ⟨_,rfl,by omega,by omega⟩
 obtain ⟨s,hs0,hs1,hs2⟩ := hsr
 rw [← hs0] at b3 b4 f1 f2 f3
 rw [hs1]
 have h2s := Nat.two_pow_pos s
 have hxlt := lt_pow_digs x
 have hylt := lt_pow_digs y
 have hx2 : x * 2 ^ s < 4294967296 ^ ((digs x).length + 1) := by
  rw [Nat.pow_succ]
  exact Nat.mul_lt_mul'' hxlt (Nat.lt_of_lt_of_le (Nat.pow_lt_pow_right (by omega) hs2) (by omega))
 have hy2 : y * 2 ^ s < 4294967296 ^ ((digs y).length + 1) := by
  rw [Nat.pow_succ]
  exact Nat.mul_lt_mul'' hylt (Nat.lt_of_lt_of_le (Nat.pow_lt_pow_right (by omega) hs2) (by omega))
 have hVlt : y * 2 ^ s < 4294967296 ^ (digs y).length := by
  have := lt_pow_digs (y * 2 ^ s)
  rwa [f1] at this
 have hV0 : 0 < y * 2 ^ s := Nat.mul_pos (Nat.pos_of_ne_zero hy) h2s
 have hA : x * 2 ^ s < y * 2 ^ s * 4294967296 ^ ((digs x).length + 1 - (digs y).length) := by
  have a1 := Nat.mul_le_mul_right (4294967296 ^ ((digs x).length + 1 - (digs y).length)) f3
  have a2 : 4294967296 ^ ((digs y).length - 1) * 2 ^ s * 4294967296 ^ ((digs x).length + 1 - (digs y).length) = 4294967296 ^ (digs x).length * 2 ^ s := by
   rw [Nat.mul_right_comm,← Nat.pow_add,show (digs y).length - 1 + ((digs x).length + 1 - (digs y).length) = (digs x).length by omega]
  have a3 := Nat.mul_lt_mul_of_pos_right hxlt h2s
  omega
 (repeat (first|apply zO (by decide +kernel)|apply zP (by decide +kernel)|(apply zS;(case h=>constructor<;>decide))|((first|apply l_go rfl|apply c_dec);(case hs=>(simp (disch := first|omega|exact kD rfl|exact kX rfl) only [smY,simprocAttr,bl,u32,u64,i64];exact rfl));first|refine c_bt ?_|refine c_bf ?_|refine zq ?_)))
 refine l_ncall (by simp only [List.size_toArray,List.length_cons,List.length_nil,Nat.reduceAdd,Nat.max_def,Nat.reduceLeDiff,↓reduceIte];exact rfl) rfl rfl rfl (by decide) rfl (by simp (disch := first|omega|exact kD rfl|exact kX rfl) only [smY,simprocAttr,bl,u32,u64,i64];try exact rfl) (shifted_new (s := s) (digs_ok x) hs2 (by omega)) (by simp [plainC,dg,u64]) (by simp [upd]) ?_
 rw [val_digs]
 (repeat (first|apply zO (by decide +kernel)|apply zP (by decide +kernel)|(apply zS;(case h=>constructor<;>decide))|((first|apply l_go rfl|apply c_dec);(case hs=>(simp (disch := first|omega|exact kD rfl|exact kX rfl) only [smY,simprocAttr,bl,u32,u64,i64];exact rfl));first|refine c_bt ?_|refine c_bf ?_|refine zq ?_)))
 refine l_call rfl (by decide) rfl (by simp (disch := first|omega|exact kD rfl|exact kX rfl) only [smY,simprocAttr,bl,u32,u64,i64];exact rfl) (shifted_good (s := s) (digs_ok y) hs2 (by omega)) ?_
 rw [val_digs]
 (repeat (first|apply zO (by decide +kernel)|apply zP (by decide +kernel)|(apply zS;(case h=>constructor<;>decide))|((first|apply l_go rfl|apply c_dec);(case hs=>(simp (disch := first|omega|exact kD rfl|exact kX rfl) only [smY,simprocAttr,bl,u32,u64,i64];exact rfl));first|refine c_bt ?_|refine c_bf ?_|refine zq ?_)))
 refine l_call rfl (by decide) rfl (by simp (disch := first|omega|exact kD rfl|exact kX rfl) only [smY,simprocAttr,bl,u32,u64,i64];exact rfl) (trimmed_good (padL_ok _ _) (by rw [padL_length];omega)) ?_
 rw [val_padL hy2]
 rw [← f1] at hVlt hA f2
 have hvo := digs_ok (y * 2 ^ s)
 have hvv := val_digs (y * 2 ^ s)
 have hlv : 2 ≤ (digs (y * 2 ^ s)).length := by omega
 generalize hv : digs (y * 2 ^ s) = v at *
 (repeat (first|apply zO (by decide +kernel)|apply zP (by decide +kernel)|(apply zS;(case h=>constructor<;>decide))|((first|apply l_go rfl|apply c_dec);(case hs=>(simp (disch := first|omega|exact kD rfl|exact kX rfl) only [smY,simprocAttr,bl,u32,u64,i64];exact rfl));first|refine c_bt ?_|refine c_bf ?_|refine zq ?_)))
 have hm0 : (digs x).length + 1 - v.length ≤ (digs x).length + 1 := by omega
 have hmm : ∀ k l : Nat,k + l + 1 - k = l + 1 := fun k l => by omega
 have hmt : ∀ k l : Nat,(((k + 1 : Nat) : Int) - 1 + (l : Int) + 1).toNat = k + l + 1 := fun k l => by omega
 refine w_loop (α := {p : Nat × List Nat × List Nat // p.1 ≤ (digs x).length + 1 - v.length ∧ Div (x * 2 ^ s) (y * 2 ^ s) v.length ((digs x).length + 1) ((digs x).length + 1 - v.length) p.1 p.2.1 p.2.2})
  (fun p => st 101 (lk [(4,.own 1 0 ((digs x).length + 1 - v.length) 1),(10,u64 s),(11,.own 0 0 ((digs x).length + 1) 1),(12,dg v),(13,i64 v.length),(14,i64 ((p.1.1 : Int) - 1))]) (lkH [(0,⟨122,dgs p.1.2.1,false⟩),(1,⟨122,dgs p.1.2.2,false⟩)]) 2) (fun p => p.1.1) ⟨(_,_,_),Nat.le_refl _,div_first hx2 hA hm0⟩ ?_ ?_
 ·(refine Sub.heap2 30 38 (by decide) ?_ (by simp only [smF,dg,renL,renLs,simprocAttr,bl,u32,u64,i64];exact rfl) (by simp only [smF,dg,renL,renLs,simprocAttr,bl,u32,u64,i64];exact rfl) ?_ ?_ ?_ ?_;all_goals (first | exact dgs_plain _ | with_reducible rfl | (simp only [smF,dg,renL,renLs,simprocAttr,bl,u32,u64,i64];done) | (simp only [smF,dg,renL,renLs,simprocAttr,bl,u32,u64,i64]) | skip))
  ·rfl
  ·exact zeros_dgs _
 ·rintro ⟨⟨k,L,q⟩,hk,hD⟩
  simp only at hk hD
  simp only [st]
  have hlL := hD.lL
  have hlq := hD.lq
  rcases k with _ | k
  ·have hn1 : (L.take v.length).length = v.length := by rw [List.length_take,hlL];omega
   have hn2 : (q.take ((digs x).length + 1 - v.length)) = q := List.take_of_length_le (by omega)
   obtain ⟨r1,r2⟩ := div_end hD hy hVlt (by omega)
   (repeat (first|apply zO (by decide +kernel)|apply zP (by decide +kernel)|(apply zS;(case h=>constructor<;>decide))|((first|apply l_go rfl|apply c_dec);(case hs=>(simp (disch := first|omega|exact kD rfl|exact kX rfl) only [smY,simprocAttr,bl,u32,u64,i64];exact rfl));first|refine c_bt ?_|refine c_bf ?_|refine zq ?_)))
   refine l_call rfl (by decide) rfl (by simp (disch := first|omega|exact kD rfl|exact kX rfl) only [smY,simprocAttr,bl,u32,u64,i64];exact rfl) (trimmed_good' (ds := q.take ((digs x).length + 1 - v.length)) (by rw [hn2];exact hlq) (hD.oq.take _) (by rw [hn2];omega)) ?_
   rw [hn2,r1]
   (repeat (first|apply zO (by decide +kernel)|apply zP (by decide +kernel)|(apply zS;(case h=>constructor<;>decide))|((first|apply l_go rfl|apply c_dec);(case hs=>(simp (disch := first|omega|exact kD rfl|exact kX rfl) only [smY,simprocAttr,bl,u32,u64,i64];exact rfl));first|refine c_bt ?_|refine c_bf ?_|refine zq ?_)))
   refine l_call rfl (by decide) rfl (by simp (disch := first|omega|exact kD rfl|exact kX rfl) only [smY,simprocAttr,bl,u32,u64,i64];exact rfl) (unshifted_good' hn1 (hD.oL.take _) hs2 (by omega)) ?_
   rw [r2,hn1]
   (repeat (first|apply zO (by decide +kernel)|apply zP (by decide +kernel)|(apply zS;(case h=>constructor<;>decide))|((first|apply l_go rfl|apply c_dec);(case hs=>(simp (disch := first|omega|exact kD rfl|exact kX rfl) only [smY,simprocAttr,bl,u32,u64,i64];exact rfl));first|refine c_bt ?_|refine c_bf ?_|refine zq ?_)))
   have hmy : x % y < 4294967296 ^ v.length := by
    rw [f1];exact Nat.lt_trans (Nat.mod_lt x (Nat.pos_of_ne_zero hy)) hylt
   refine l_call rfl (by decide) rfl (by simp (disch := first|omega|exact kD rfl|exact kX rfl) only [smY,simprocAttr,bl,u32,u64,i64];exact rfl) (trimmed_good (padL_ok _ _) (by rw [padL_length];omega)) ?_
   rw [val_padL hmy]
   (repeat (first|apply zO (by decide +kernel)|apply zP (by decide +kernel)|(apply zS;(case h=>constructor<;>decide))|((first|apply l_go rfl|apply c_dec);(case hs=>(simp (disch := first|omega|exact kD rfl|exact kX rfl) only [smY,simprocAttr,bl,u32,u64,i64];exact rfl));first|refine c_bt ?_|refine c_bf ?_|refine zq ?_)))
   ((first|apply g_ret|apply g_end);case hres => (simp only [smR];simp (disch := first|omega|exact kD rfl|exact kX rfl) only [smY,simprocAttr,bl,u32,u64,i64];exact rfl))
   simp (disch := first|omega|exact kD rfl|exact kX rfl) only [smY,simprocAttr,bl,u32,u64,i64]
  ·obtain ⟨g1,g2,g3⟩ := div_sec hD hVlt (by omega)
   have hq1 : sec L k (v.length + 1) / val v < 4294967296 := Nat.div_lt_of_lt_mul (by rw [hvv,Nat.mul_comm];exact g2)
   (repeat (first|apply zO (by decide +kernel)|apply zP (by decide +kernel)|(apply zS;(case h=>constructor<;>decide))|((first|apply l_go rfl|apply c_dec);(case hs=>(simp (disch := first|omega|exact kD rfl|exact kX rfl) only [smY,simprocAttr,bl,u32,u64,i64,hmm,hmt];exact rfl));first|refine c_bt ?_|refine c_bf ?_|refine zq ?_)))
   refine l_mcall' 0 (by simp only [List.size_toArray,List.length_cons,List.length_nil,Nat.reduceAdd,Nat.max_def,Nat.reduceLeDiff,↓reduceIte];exact rfl) rfl rfl rfl (by decide) rfl (by simp (disch := first|omega|exact kD rfl|exact kX rfl) only [smY,simprocAttr,bl,u32,u64,i64];try exact rfl) (by simp only [smF,dg,renL,renLs,simprocAttr,bl,u32,u64,i64];try exact rfl) (digit_mut (v := v) (j := k) hD.oL hvo hlv (by omega) (by rw [hvv];exact g2) f2 (by omega)) (by simp [renLs,renL,dg]) (dgs_plain _) (dgs_plain _) ?_
   rw [hvv] at hq1 ⊢
   simp only [u32]
   (repeat (first|apply zO (by decide +kernel)|apply zP (by decide +kernel)|(apply zS;(case h=>constructor<;>decide))|((first|apply l_go rfl|apply c_dec);(case hs=>(simp (disch := first|omega|exact kD rfl|exact kX rfl) only [smY,simprocAttr,bl,u32,u64,i64];exact rfl));first|refine c_bt ?_|refine c_bf ?_|refine zq ?_)))
   refine ⟨⟨(k,_,_),by simp only;omega,div_next hD hVlt hV0 (by omega) (by omega) rfl hq1⟩,?_,by simp only;omega⟩
   (refine Sub.heap2 0 1 (by decide) ?_ (by simp only [smF,dg,renL,renLs,simprocAttr,bl,u32,u64,i64];exact rfl) (by simp only [smF,dg,renL,renLs,simprocAttr,bl,u32,u64,i64];exact rfl) ?_ ?_ ?_ ?_;all_goals (first | exact dgs_plain _ | with_reducible rfl | (simp only [smF,dg,renL,renLs,simprocAttr,bl,u32,u64,i64];done) | (simp only [smF,dg,renL,renLs,simprocAttr,bl,u32,u64,i64]) | skip))
   simp only [true_and]
   (simp only [LV.lit.injEq,Value.int.injEq,true_and,and_true,dg,LV.sl.injEq];omega)
end Go.Proofs.YtpkjokknpbclhaaGreat
namespace Go.Num
def len (z : Int) : Nat := (digs z.natAbs).length
theorem length_mul (x y : Nat) : (digs (x * y)).length ≤ (digs x).length + (digs y).length := by
 refine length_digs_le ?_
 rw [Nat.pow_add]
 exact Nat.mul_lt_mul'' (lt_pow_digs x) (lt_pow_digs y)
theorem length_add (x y : Nat) : (digs (x + y)).length ≤ max (digs x).length (digs y).length + 1 := by
 refine length_digs_le ?_
 rw [Nat.pow_succ]
 have h1 : 4294967296 ^ (digs x).length ≤ 4294967296 ^ max (digs x).length (digs y).length := Nat.pow_le_pow_right (by omega) (by omega)
 have h2 : 4294967296 ^ (digs y).length ≤ 4294967296 ^ max (digs x).length (digs y).length := Nat.pow_le_pow_right (by omega) (by omega)
 have h3 := lt_pow_digs x
 have h4 := lt_pow_digs y
 omega
theorem len_mul (x y : Int) : len (x * y) ≤ len x + len y := by
 unfold len
 rw [Int.natAbs_mul]
 exact length_mul _ _
theorem len_add (x y : Int) : len (x + y) ≤ max (len x) (len y) + 1 := by
 unfold len
 exact Nat.le_trans (length_le_of_le (Int.natAbs_add_le x y)) (length_add _ _)
theorem len_neg (x : Int) : len (-x) = len x := by simp [len]
theorem len_le_of {x y : Int} (h : x.natAbs ≤ y.natAbs) : len x ≤ len y := length_le_of_le h
theorem len_gcd_le {x y : Int} (h : y ≠ 0) : len ((Int.gcd x y : Nat) : Int) ≤ len y := by
 refine len_le_of ?_
 have := Nat.le_of_dvd (Int.natAbs_pos.2 h) (Nat.gcd_dvd_right x.natAbs y.natAbs)
 simpa [Int.gcd] using this
end Go.Num
namespace Go.Num
theorem euclid_of {x y q r : Int} (hy : y ≠ 0) (h : r + y * q = x) (h0 : 0 ≤ r) (h1 : r < (y.natAbs : Int)) : x / y = q ∧ x % y = r := by
 rcases Int.lt_or_gt_of_ne hy with hn | hp
 ·have h2 : 0 < -y := by omega
  have h3 := (Int.ediv_emod_unique (a := x) (b := -y) (r := r) (q := -q) h2).2 ⟨by rw [Int.neg_mul_neg];exact h,h0,by omega⟩
  rw [Int.ediv_neg,Int.emod_neg] at h3
  exact ⟨by omega,h3.2⟩
 ·exact (Int.ediv_emod_unique hp).2 ⟨h,h0,by omega⟩
theorem ediv_abs {x y : Int} (hy : y ≠ 0) : (0 ≤ x → x / y = (if (decide (x < 0) != decide (y < 0)) = true then -((x.natAbs / y.natAbs : Nat) : Int) else ((x.natAbs / y.natAbs : Nat) : Int)) ∧ x % y = ((x.natAbs % y.natAbs : Nat) : Int)) ∧
  (x < 0 → x.natAbs % y.natAbs = 0 → x / y = (if (decide (x < 0) != decide (y < 0)) = true then -((x.natAbs / y.natAbs : Nat) : Int) else ((x.natAbs / y.natAbs : Nat) : Int)) ∧ x % y = ((x.natAbs % y.natAbs : Nat) : Int)) ∧
  (x < 0 → x.natAbs % y.natAbs ≠ 0 → x / y = (if (decide (x < 0) != decide (y < 0)) = true then -((x.natAbs / y.natAbs + 1 : Nat) : Int) else ((x.natAbs / y.natAbs + 1 : Nat) : Int)) ∧ x % y = ((y.natAbs - x.natAbs % y.natAbs : Nat) : Int)) := by
 have hd := Nat.div_add_mod x.natAbs y.natAbs
 have hm := Nat.mod_lt x.natAbs (Int.natAbs_pos.2 hy)
 generalize hq : x.natAbs / y.natAbs = q at *
 generalize hr : x.natAbs % y.natAbs = r at *
 have hdi : (y.natAbs : Int) * (q : Int) + (r : Int) = (x.natAbs : Int) := by rw [← hd];simp
 refine ⟨fun hx => ?_,fun hx h0 => ?_,fun hx h0 => ?_⟩
 ·refine euclid_of hy ?_ (by omega) (by omega)
  have e1 : decide (x < 0) = false := by simp;omega
  by_cases h : y < 0
  ·have e2 : decide (y < 0) = true := by simpa using h
   rw [e1,e2,if_pos (by simp)]
   have e3 : (y.natAbs : Int) = -y := by omega
   rw [e3,Int.neg_mul] at hdi
   rw [Int.mul_neg];omega
  ·have e2 : decide (y < 0) = false := by simpa using h
   rw [e1,e2,if_neg (by simp)]
   have e3 : (y.natAbs : Int) = y := by omega
   rw [e3] at hdi
   omega
 ·refine euclid_of hy ?_ (by omega) (by omega)
  have e1 : decide (x < 0) = true := by simpa using hx
  by_cases h : y < 0
  ·have e2 : decide (y < 0) = true := by simpa using h
   rw [e1,e2,if_neg (by simp)]
   have e3 : (y.natAbs : Int) = -y := by omega
   rw [e3,Int.neg_mul] at hdi
   omega
  ·have e2 : decide (y < 0) = false := by simpa using h
   rw [e1,e2,if_pos (by simp)]
   have e3 : (y.natAbs : Int) = y := by omega
   rw [e3] at hdi
   rw [Int.mul_neg];omega
 ·refine euclid_of hy ?_ (by omega) (by omega)
  have e1 : decide (x < 0) = true := by simpa using hx
  by_cases h : y < 0
  ·have e2 : decide (y < 0) = true := by simpa using h
   rw [e1,e2,if_neg (by simp)]
   have e3 : (y.natAbs : Int) = -y := by omega
   rw [e3,Int.neg_mul] at hdi
   have : y * ((q + 1 : Nat) : Int) = y * q + y := by
    rw [Int.natCast_add,Int.natCast_one,Int.mul_add,Int.mul_one]
   rw [this];omega
  ·have e2 : decide (y < 0) = false := by simpa using h
   rw [e1,e2,if_pos (by simp)]
   have e3 : (y.natAbs : Int) = y := by omega
   rw [e3] at hdi
   have : y * ((q + 1 : Nat) : Int) = y * q + y := by
    rw [Int.natCast_add,Int.natCast_one,Int.mul_add,Int.mul_one]
   rw [Int.mul_neg,this];omega
end Go.Num
namespace Go.Num
end Go.Num
namespace Go.Proofs.YtpkjokknpbclhaaGreat
open Go Go.Lg Go.Num
set_option maxRecDepth 100000
attribute [local irreducible] Go.Lg.lrun Go.Lg.lwp Go.Lg.exThen Go.Lg.exBlk Go.Lg.keep Go.Lg.goodPost Go.Lg.mutPost
theorem trimmed_digs (n : Nat) (h : (digs n).length ≤ 1099511627776) : PureGood Tryz.prog 100 [dg (digs n)] (dg (digs n)) := by
 have := trimmed_good (digs_ok n) h
 rwa [val_digs] at this
theorem signed_eq {neg : Bool} {n : Nat} {z : Int} (hz : (if neg then -(n : Int) else n) = z) (h : (digs n).length ≤ 1099511627776) : PureGood Tryz.prog 75 [bl neg,dg (digs n)] (encI z) := by
 have := signed_good (neg := neg) (digs_ok n) h
 rwa [val_digs,hz] at this
theorem signed_val {neg : Bool} {ds : List Nat} {z : Int} (hok : OkD ds) (hz : (if neg then -(val ds : Int) else val ds) = z) (h : ds.length ≤ 1099511627776) : PureGood Tryz.prog 75 [bl neg,dg ds] (encI z) := by
 have := signed_good (neg := neg) hok h
 rwa [hz] at this
theorem normal_good (z : Int) (h : len z ≤ 1099511627776) : PureGood Tryz.prog 74 [encI z] (encI z) := by
 unfold len at h
 simp only [encI,bl]
 refine good_of_lwp mix Tryz.func74 rfl (by decide) (nt := 10) rfl (rs := [.cell 2 66]) rfl (nle rfl) ?_
 (repeat (first|apply zO (by decide +kernel)|apply zP (by decide +kernel)|(apply zS;(case h=>constructor<;>decide))|((first|apply l_go rfl|apply c_dec);(case hs=>(simp (disch := first|omega|exact kD rfl|exact kX rfl) only [smY,simprocAttr,bl,u32,u64,i64];exact rfl));first|refine c_bt ?_|refine c_bf ?_|refine zq ?_)))
 refine l_call rfl (by decide) rfl (by simp (disch := first|omega|exact kD rfl|exact kX rfl) only [smY,simprocAttr,bl,u32,u64,i64];exact rfl) (trimmed_digs _ h) ?_
 (repeat (first|apply zO (by decide +kernel)|apply zP (by decide +kernel)|(apply zS;(case h=>constructor<;>decide))|((first|apply l_go rfl|apply c_dec);(case hs=>(simp (disch := first|omega|exact kD rfl|exact kX rfl) only [smY,simprocAttr,bl,u32,u64,i64];exact rfl));first|refine c_bt ?_|refine c_bf ?_|refine zq ?_)))
 refine l_call rfl (by decide) rfl (by simp (disch := first|omega|exact kD rfl|exact kX rfl) only [smY,simprocAttr,bl,u32,u64,i64];exact rfl) (clone_good _ h) ?_
 (repeat (first|apply zO (by decide +kernel)|apply zP (by decide +kernel)|(apply zS;(case h=>constructor<;>decide))|((first|apply l_go rfl|apply c_dec);(case hs=>(simp (disch := first|omega|exact kD rfl|exact kX rfl) only [smY,simprocAttr,bl,u32,u64,i64];exact rfl));first|refine c_bt ?_|refine c_bf ?_|refine zq ?_)))
 refine l_call rfl (by decide) rfl (by simp (disch := first|omega|exact kD rfl|exact kX rfl) only [smY,simprocAttr,bl,u32,u64,i64];exact rfl) (signed_eq (neg := decide (z < 0)) (z := z) (by by_cases h : z < 0 <;> simp [h] <;> omega) h) ?_
 simp only [encI]
 (repeat (first|apply zO (by decide +kernel)|apply zP (by decide +kernel)|(apply zS;(case h=>constructor<;>decide))|((first|apply l_go rfl|apply c_dec);(case hs=>(simp (disch := first|omega|exact kD rfl|exact kX rfl) only [smY,simprocAttr,bl,u32,u64,i64];exact rfl));first|refine c_bt ?_|refine c_bf ?_|refine zq ?_)))
 ((first|apply g_ret|apply g_end);case hres => (simp only [smR];simp (disch := first|omega|exact kD rfl|exact kX rfl) only [smY,simprocAttr,bl,u32,u64,i64];exact rfl))
 simp (disch := first|omega|exact kD rfl|exact kX rfl) only [smY,simprocAttr,bl,u32,u64,i64]
theorem neg_good (z : Int) (h : len z ≤ 1099511627776) : PureGood Tryz.prog 149 [encI z] (encI (-z)) := by
 unfold len at h
 simp only [encI,bl]
 refine good_of_lwp mix Tryz.func149 rfl (by decide) (nt := 11) rfl (rs := [.cell 2 66]) rfl (nle rfl) ?_
 (repeat (first|apply zO (by decide +kernel)|apply zP (by decide +kernel)|(apply zS;(case h=>constructor<;>decide))|((first|apply l_go rfl|apply c_dec);(case hs=>(simp (disch := first|omega|exact kD rfl|exact kX rfl) only [smY,simprocAttr,bl,u32,u64,i64];exact rfl));first|refine c_bt ?_|refine c_bf ?_|refine zq ?_)))
 refine l_call rfl (by decide) rfl (by simp (disch := first|omega|exact kD rfl|exact kX rfl) only [smY,simprocAttr,bl,u32,u64,i64];exact rfl) (trimmed_digs _ h) ?_
 (repeat (first|apply zO (by decide +kernel)|apply zP (by decide +kernel)|(apply zS;(case h=>constructor<;>decide))|((first|apply l_go rfl|apply c_dec);(case hs=>(simp (disch := first|omega|exact kD rfl|exact kX rfl) only [smY,simprocAttr,bl,u32,u64,i64];exact rfl));first|refine c_bt ?_|refine c_bf ?_|refine zq ?_)))
 refine l_call rfl (by decide) rfl (by simp (disch := first|omega|exact kD rfl|exact kX rfl) only [smY,simprocAttr,bl,u32,u64,i64];exact rfl) (clone_good _ h) ?_
 (repeat (first|apply zO (by decide +kernel)|apply zP (by decide +kernel)|(apply zS;(case h=>constructor<;>decide))|((first|apply l_go rfl|apply c_dec);(case hs=>(simp (disch := first|omega|exact kD rfl|exact kX rfl) only [smY,simprocAttr,bl,u32,u64,i64];exact rfl));first|refine c_bt ?_|refine c_bf ?_|refine zq ?_)))
 refine l_call rfl (by decide) rfl (by simp (disch := first|omega|exact kD rfl|exact kX rfl) only [smY,simprocAttr,bl,u32,u64,i64];exact rfl) (signed_eq (neg := !decide (z < 0)) (z := -z) (by by_cases h : z < 0 <;> simp [h] <;> omega) h) ?_
 simp only [encI]
 (repeat (first|apply zO (by decide +kernel)|apply zP (by decide +kernel)|(apply zS;(case h=>constructor<;>decide))|((first|apply l_go rfl|apply c_dec);(case hs=>(simp (disch := first|omega|exact kD rfl|exact kX rfl) only [smY,simprocAttr,bl,u32,u64,i64];exact rfl));first|refine c_bt ?_|refine c_bf ?_|refine zq ?_)))
 ((first|apply g_ret|apply g_end);case hres => (simp only [smR];simp (disch := first|omega|exact kD rfl|exact kX rfl) only [smY,simprocAttr,bl,u32,u64,i64];exact rfl))
 simp (disch := first|omega|exact kD rfl|exact kX rfl) only [smY,simprocAttr,bl,u32,u64,i64]
theorem isign_good (z : Int) (h : len z ≤ 1099511627776) : PureGood Tryz.prog 135 [encI z] (i64 z.sign) := by
 unfold len at h
 simp only [encI,bl,i64]
 refine good_of_lwp mix Tryz.func135 rfl (by decide) (nt := 12) rfl (rs := [.tmp 2]) rfl (nle rfl) ?_
 (repeat (first|apply zO (by decide +kernel)|apply zP (by decide +kernel)|(apply zS;(case h=>constructor<;>decide))|((first|apply l_go rfl|apply c_dec);(case hs=>(simp (disch := first|omega|exact kD rfl|exact kX rfl) only [smY,simprocAttr,bl,u32,u64,i64];exact rfl));first|refine c_bt ?_|refine c_bf ?_|refine zq ?_)))
 refine l_call rfl (by decide) rfl (by simp (disch := first|omega|exact kD rfl|exact kX rfl) only [smY,simprocAttr,bl,u32,u64,i64];exact rfl) (trimmed_digs _ h) ?_
 by_cases h0 : z = 0
 ·subst h0
  have e0 : (digs 0).length = 0 := by simp [digs_zero]
  (repeat (first|apply zO (by decide +kernel)|apply zP (by decide +kernel)|(apply zS;(case h=>constructor<;>decide))|((first|apply l_go rfl|apply c_dec);(case hs=>(simp (disch := first|omega|exact kD rfl|exact kX rfl) only [smY,simprocAttr,bl,u32,u64,i64];exact rfl));first|refine c_bt ?_|refine c_bf ?_|refine zq ?_)))
  ((first|apply g_ret|apply g_end);case hres => (simp only [smR];simp (disch := first|omega|exact kD rfl|exact kX rfl) only [smY,simprocAttr,bl,u32,u64,i64];exact rfl))
  simp (disch := first|omega|exact kD rfl|exact kX rfl) only [smY,simprocAttr,bl,u32,u64,i64]
  rfl
 ·have h1 : (digs z.natAbs).length ≠ 0 := fun e => h0 (by have := digs_eq_nil.1 (List.eq_nil_of_length_eq_zero e);omega)
  by_cases h2 : z < 0
  ·(repeat (first|apply zO (by decide +kernel)|apply zP (by decide +kernel)|(apply zS;(case h=>constructor<;>decide))|((first|apply l_go rfl|apply c_dec);(case hs=>(simp (disch := first|omega|exact kD rfl|exact kX rfl) only [smY,simprocAttr,bl,u32,u64,i64];exact rfl));first|refine c_bt ?_|refine c_bf ?_|refine zq ?_)))
   ((first|apply g_ret|apply g_end);case hres => (simp only [smR];simp (disch := first|omega|exact kD rfl|exact kX rfl) only [smY,simprocAttr,bl,u32,u64,i64];exact rfl))
   simp (disch := first|omega|exact kD rfl|exact kX rfl) only [smY,simprocAttr,bl,u32,u64,i64]
   rw [Int.sign_eq_neg_one_of_neg h2]
  ·(repeat (first|apply zO (by decide +kernel)|apply zP (by decide +kernel)|(apply zS;(case h=>constructor<;>decide))|((first|apply l_go rfl|apply c_dec);(case hs=>(simp (disch := first|omega|exact kD rfl|exact kX rfl) only [smY,simprocAttr,bl,u32,u64,i64];exact rfl));first|refine c_bt ?_|refine c_bf ?_|refine zq ?_)))
   ((first|apply g_ret|apply g_end);case hres => (simp only [smR];simp (disch := first|omega|exact kD rfl|exact kX rfl) only [smY,simprocAttr,bl,u32,u64,i64];exact rfl))
   simp (disch := first|omega|exact kD rfl|exact kX rfl) only [smY,simprocAttr,bl,u32,u64,i64]
   rw [Int.sign_eq_one_of_pos (by omega)]
theorem mul_good (x y : Int) (hx : len x ≤ 274877906944) (hy : len y ≤ 274877906944) : PureGood Tryz.prog 140 [encI x,encI y] (encI (x * y)) := by
 unfold len at hx hy
 simp only [encI,bl]
 refine good_of_lwp mix Tryz.func140 rfl (by decide) (nt := 18) rfl (rs := [.cell 4 66]) rfl (nle rfl) ?_
 (repeat (first|apply zO (by decide +kernel)|apply zP (by decide +kernel)|(apply zS;(case h=>constructor<;>decide))|((first|apply l_go rfl|apply c_dec);(case hs=>(simp (disch := first|omega|exact kD rfl|exact kX rfl) only [smY,simprocAttr,bl,u32,u64,i64];exact rfl));first|refine c_bt ?_|refine c_bf ?_|refine zq ?_)))
 refine l_call rfl (by decide) rfl (by simp (disch := first|omega|exact kD rfl|exact kX rfl) only [smY,simprocAttr,bl,u32,u64,i64];exact rfl) (trimmed_digs _ (by omega)) ?_
 (repeat (first|apply zO (by decide +kernel)|apply zP (by decide +kernel)|(apply zS;(case h=>constructor<;>decide))|((first|apply l_go rfl|apply c_dec);(case hs=>(simp (disch := first|omega|exact kD rfl|exact kX rfl) only [smY,simprocAttr,bl,u32,u64,i64];exact rfl));first|refine c_bt ?_|refine c_bf ?_|refine zq ?_)))
 refine l_call rfl (by decide) rfl (by simp (disch := first|omega|exact kD rfl|exact kX rfl) only [smY,simprocAttr,bl,u32,u64,i64];exact rfl) (trimmed_digs _ (by omega)) ?_
 (repeat (first|apply zO (by decide +kernel)|apply zP (by decide +kernel)|(apply zS;(case h=>constructor<;>decide))|((first|apply l_go rfl|apply c_dec);(case hs=>(simp (disch := first|omega|exact kD rfl|exact kX rfl) only [smY,simprocAttr,bl,u32,u64,i64];exact rfl));first|refine c_bt ?_|refine c_bf ?_|refine zq ?_)))
 refine l_call rfl (by decide) rfl (by simp (disch := first|omega|exact kD rfl|exact kX rfl) only [smY,simprocAttr,bl,u32,u64,i64];exact rfl) (times_good (digs_ok _) (digs_ok _) (by omega) (by omega)) ?_
 have hv : OkD (timesL (digs x.natAbs) (digs y.natAbs)) ∧ val (timesL (digs x.natAbs) (digs y.natAbs)) = x.natAbs * y.natAbs ∧ (timesL (digs x.natAbs) (digs y.natAbs)).length ≤ (digs x.natAbs).length + (digs y.natAbs).length := by
  unfold timesL
  rw [val_digs,val_digs]
  split
  ·rename_i h
   refine ⟨OkD.nil,?_,by simp⟩
   rcases h with h | h
   ·rw [digs_eq_nil.1 (List.eq_nil_of_length_eq_zero h)];simp [val]
   ·rw [digs_eq_nil.1 (List.eq_nil_of_length_eq_zero h)];simp [val]
  ·split
   ·exact ⟨digs_ok _,val_digs _,length_mul _ _⟩
   ·refine ⟨padL_ok _ _,val_padL ?_,by rw [padL_length];omega⟩
    rw [Nat.pow_add]
    exact Nat.mul_lt_mul'' (lt_pow_digs _) (lt_pow_digs _)
 obtain ⟨h1,h2,h3⟩ := hv
 generalize timesL (digs x.natAbs) (digs y.natAbs) = ds at *
 (repeat (first|apply zO (by decide +kernel)|apply zP (by decide +kernel)|(apply zS;(case h=>constructor<;>decide))|((first|apply l_go rfl|apply c_dec);(case hs=>(simp (disch := first|omega|exact kD rfl|exact kX rfl) only [smY,simprocAttr,bl,u32,u64,i64];exact rfl));first|refine c_bt ?_|refine c_bf ?_|refine zq ?_)))
 refine l_call rfl (by decide) rfl (by simp (disch := first|omega|exact kD rfl|exact kX rfl) only [smY,simprocAttr,bl,u32,u64,i64];exact rfl) (signed_val (neg := (decide (x < 0) != decide (y < 0))) (z := x * y) h1 (by
  rw [h2]
  by_cases hx : x < 0 <;> by_cases hy : y < 0 <;> simp only [hx,hy,decide_true,decide_false,bne_self_eq_false,Bool.true_bne,Bool.false_bne,Bool.not_false,Bool.not_true,if_true,Bool.false_eq_true,if_false]
  ·rw [← Int.natAbs_mul,Int.natAbs_of_nonneg (Int.mul_nonneg_of_nonpos_of_nonpos (by omega) (by omega))]
  ·rw [← Int.natAbs_mul];have := Int.mul_nonpos_of_nonpos_of_nonneg (a := x) (b := y) (by omega) (by omega);omega
  ·rw [← Int.natAbs_mul];have := Int.mul_nonpos_of_nonneg_of_nonpos (a := x) (b := y) (by omega) (by omega);omega
  ·rw [← Int.natAbs_mul,Int.natAbs_of_nonneg (Int.mul_nonneg (by omega) (by omega))]) (by omega)) ?_
 simp only [encI]
 (repeat (first|apply zO (by decide +kernel)|apply zP (by decide +kernel)|(apply zS;(case h=>constructor<;>decide))|((first|apply l_go rfl|apply c_dec);(case hs=>(simp (disch := first|omega|exact kD rfl|exact kX rfl) only [smY,simprocAttr,bl,u32,u64,i64];exact rfl));first|refine c_bt ?_|refine c_bf ?_|refine zq ?_)))
 ((first|apply g_ret|apply g_end);case hres => (simp only [smR];simp (disch := first|omega|exact kD rfl|exact kX rfl) only [smY,simprocAttr,bl,u32,u64,i64];exact rfl))
 simp (disch := first|omega|exact kD rfl|exact kX rfl) only [smY,simprocAttr,bl,u32,u64,i64]
end Go.Proofs.YtpkjokknpbclhaaGreat