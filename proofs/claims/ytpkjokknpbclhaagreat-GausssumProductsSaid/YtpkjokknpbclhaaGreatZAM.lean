/- Contracts of functions of the program, and what proves them (texts: C10 Num6 Enc2 C11 C12 Orc). -/
import Derived.Test.YtpkjokknpbclhaaGreatZAH
import Derived.Test.YtpkjokknpbclhaaGreatZAL
set_option linter.all false
namespace Go.Proofs.YtpkjokknpbclhaaGreat
open Go Go.Lg Go.Num
set_option maxRecDepth 100000
attribute [local irreducible] Go.Lg.lrun Go.Lg.lwp Go.Lg.exThen Go.Lg.exBlk Go.Lg.keep Go.Lg.goodPost
theorem baseZ_good (n : Int) (h : -9223372036854775808 ≤ n ∧ n ≤ 9223372036854775807) : PureGood Tryz.prog 72 [i64 n] (encI n) := by
 have hm : n.natAbs ≤ 9223372036854775808 := by omega
 rw [encI]
 by_cases hneg : n < 0
 ·have hw1 : IntKind.wrap .u64 n = ((18446744073709551616 - n.natAbs : Nat) : Int) := by rw [wrap_u64_mod];omega
  have hw2 : IntKind.wrap .u64 (0 - ((18446744073709551616 - n.natAbs : Nat) : Int)) = (n.natAbs : Int) := by rw [wrap_u64_mod];omega
  generalize n.natAbs = m at *
  refine good_of_lwp mix Tryz.func72 rfl (by decide) (nt := 26) rfl (rs := [.cell 2 66]) rfl (nle rfl) ?_
  (repeat (first|apply zO (by decide +kernel)|apply zP (by decide +kernel)|((fail_if_success refine is_bl ?_);apply zS;(case h=>constructor<;>decide))|((first|apply l_go rfl|apply c_dec);(case hs=>(simp (disch := first|omega|exact kD rfl|exact kX rfl) only [smY,simprocAttr,bl,i64,hw1,hw2];exact rfl));first|refine c_bt ?_|refine c_bf ?_|refine zq ?_)))
  apply w_seq
  apply w_block
  by_cases m0 : m = 0
  ·subst m0
   refine loop_done (s' := ?_) (e := .exit 0) (by simp) (fun Φ hΦ => ?_) ?_
   rotate_left
   ·(repeat (first|apply zO (by decide +kernel)|apply zP (by decide +kernel)|(apply zS;(case h=>constructor<;>decide))|((first|apply l_go rfl|apply c_dec|apply zT rfl (by decide) rfl);(case hs=>(simp (disch := first|omega|exact kD rfl|exact kX rfl) only [smY,simprocAttr,bl,i64];exact rfl));first|refine c_bt ?_|refine c_bf ?_|refine zq ?_|(case hg=>assumption))))
    exact hΦ
   (repeat (first|apply zO (by decide +kernel)|apply zP (by decide +kernel)|(apply zS;(case h=>constructor<;>decide))|((first|apply l_go rfl|apply c_dec|apply zT rfl (by decide) rfl);(case hs=>(simp (disch := first|omega|exact kD rfl|exact kX rfl) only [smY,simprocAttr,bl,i64];exact rfl));first|refine c_bt ?_|refine c_bf ?_|refine zq ?_|(case hg=>assumption))))
   ((first|apply g_ret|apply g_end);case hres => (simp only [smR];simp (disch := first|omega|exact kD rfl|exact kX rfl) only [smY,simprocAttr,bl,i64];exact rfl))
   simp (disch := first|omega|exact kD rfl|exact kX rfl) only [smY,simprocAttr,bl,i64]
   rw [digs_zero]
   rfl
  ·skip
   refine loop_more (s' := ?_) (fun Φ hΦ => ?_) ?_
   rotate_left
   ·(repeat (first|apply zO (by decide +kernel)|apply zP (by decide +kernel)|(apply zS;(case h=>constructor<;>decide))|((first|apply l_go rfl|apply c_dec|apply zT rfl (by decide) rfl);(case hs=>(simp (disch := first|omega|exact kD rfl|exact kX rfl) only [smY,simprocAttr,bl,i64];exact rfl));first|refine c_bt ?_|refine c_bf ?_|refine zq ?_|(case hg=>assumption))))
    exact hΦ
   by_cases m1 : m / 4294967296 = 0
   ·rw [digs_small m0 (by omega)]
    have hd : (m : Int) / 4294967296 = 0 := by omega
    refine loop_done (s' := ?_) (e := .exit 0) (by simp) (fun Φ hΦ => ?_) ?_
    rotate_left
    ·(repeat (first|apply zO (by decide +kernel)|apply zP (by decide +kernel)|(apply zS;(case h=>constructor<;>decide))|((first|apply l_go rfl|apply c_dec|apply zT rfl (by decide) rfl);(case hs=>(simp (disch := first|omega|exact kD rfl|exact kX rfl) only [smY,simprocAttr,bl,i64];exact rfl));first|refine c_bt ?_|refine c_bf ?_|refine zq ?_|(case hg=>assumption))))
     exact hΦ
    (repeat (first|apply zO (by decide +kernel)|apply zP (by decide +kernel)|(apply zS;(case h=>constructor<;>decide))|((first|apply l_go rfl|apply c_dec|apply zT rfl (by decide) rfl);(case hs=>(simp (disch := first|omega|exact kD rfl|exact kX rfl) only [smY,simprocAttr,bl,i64];exact rfl));first|refine c_bt ?_|refine c_bf ?_|refine zq ?_|(case hg=>assumption))))
    ((first|apply g_ret|apply g_end);case hres => (simp only [smR];simp (disch := first|omega|exact kD rfl|exact kX rfl) only [smY,simprocAttr,bl,i64];exact rfl))
    simp (disch := first|omega|exact kD rfl|exact kX rfl) only [smY,simprocAttr,bl,i64]
    simp [dg,dgs,wrap_u32_mod]
   ·rw [digs_pos m0,digs_small m1 (by omega)]
    have hd : (m : Int) / 4294967296 / 4294967296 = 0 := by omega
    refine loop_more (s' := ?_) (fun Φ hΦ => ?_) ?_
    rotate_left
    ·(repeat (first|apply zO (by decide +kernel)|apply zP (by decide +kernel)|(apply zS;(case h=>constructor<;>decide))|((first|apply l_go rfl|apply c_dec|apply zT rfl (by decide) rfl);(case hs=>(simp (disch := first|omega|exact kD rfl|exact kX rfl) only [smY,simprocAttr,bl,i64];exact rfl));first|refine c_bt ?_|refine c_bf ?_|refine zq ?_|(case hg=>assumption))))
     exact hΦ
    refine loop_done (s' := ?_) (e := .exit 0) (by simp) (fun Φ hΦ => ?_) ?_
    rotate_left
    ·(repeat (first|apply zO (by decide +kernel)|apply zP (by decide +kernel)|(apply zS;(case h=>constructor<;>decide))|((first|apply l_go rfl|apply c_dec|apply zT rfl (by decide) rfl);(case hs=>(simp (disch := first|omega|exact kD rfl|exact kX rfl) only [smY,simprocAttr,bl,i64];exact rfl));first|refine c_bt ?_|refine c_bf ?_|refine zq ?_|(case hg=>assumption))))
     exact hΦ
    (repeat (first|apply zO (by decide +kernel)|apply zP (by decide +kernel)|(apply zS;(case h=>constructor<;>decide))|((first|apply l_go rfl|apply c_dec|apply zT rfl (by decide) rfl);(case hs=>(simp (disch := first|omega|exact kD rfl|exact kX rfl) only [smY,simprocAttr,bl,i64];exact rfl));first|refine c_bt ?_|refine c_bf ?_|refine zq ?_|(case hg=>assumption))))
    ((first|apply g_ret|apply g_end);case hres => (simp only [smR];simp (disch := first|omega|exact kD rfl|exact kX rfl) only [smY,simprocAttr,bl,i64];exact rfl))
    simp (disch := first|omega|exact kD rfl|exact kX rfl) only [smY,simprocAttr,bl,i64]
    simp [dg,dgs,wrap_u32_mod]
 ·have hw1 : IntKind.wrap .u64 n = (n.natAbs : Int) := by rw [wrap_u64_mod];omega
  generalize n.natAbs = m at *
  refine good_of_lwp mix Tryz.func72 rfl (by decide) (nt := 26) rfl (rs := [.cell 2 66]) rfl (nle rfl) ?_
  (repeat (first|apply zO (by decide +kernel)|apply zP (by decide +kernel)|((fail_if_success refine is_bl ?_);apply zS;(case h=>constructor<;>decide))|((first|apply l_go rfl|apply c_dec);(case hs=>(simp (disch := first|omega|exact kD rfl|exact kX rfl) only [smY,simprocAttr,bl,i64,hw1];exact rfl));first|refine c_bt ?_|refine c_bf ?_|refine zq ?_)))
  apply w_seq
  apply w_block
  by_cases m0 : m = 0
  ·subst m0
   refine loop_done (s' := ?_) (e := .exit 0) (by simp) (fun Φ hΦ => ?_) ?_
   rotate_left
   ·(repeat (first|apply zO (by decide +kernel)|apply zP (by decide +kernel)|(apply zS;(case h=>constructor<;>decide))|((first|apply l_go rfl|apply c_dec|apply zT rfl (by decide) rfl);(case hs=>(simp (disch := first|omega|exact kD rfl|exact kX rfl) only [smY,simprocAttr,bl,i64];exact rfl));first|refine c_bt ?_|refine c_bf ?_|refine zq ?_|(case hg=>assumption))))
    exact hΦ
   (repeat (first|apply zO (by decide +kernel)|apply zP (by decide +kernel)|(apply zS;(case h=>constructor<;>decide))|((first|apply l_go rfl|apply c_dec|apply zT rfl (by decide) rfl);(case hs=>(simp (disch := first|omega|exact kD rfl|exact kX rfl) only [smY,simprocAttr,bl,i64];exact rfl));first|refine c_bt ?_|refine c_bf ?_|refine zq ?_|(case hg=>assumption))))
   ((first|apply g_ret|apply g_end);case hres => (simp only [smR];simp (disch := first|omega|exact kD rfl|exact kX rfl) only [smY,simprocAttr,bl,i64];exact rfl))
   simp (disch := first|omega|exact kD rfl|exact kX rfl) only [smY,simprocAttr,bl,i64]
   rw [digs_zero]
   rfl
  ·skip
   refine loop_more (s' := ?_) (fun Φ hΦ => ?_) ?_
   rotate_left
   ·(repeat (first|apply zO (by decide +kernel)|apply zP (by decide +kernel)|(apply zS;(case h=>constructor<;>decide))|((first|apply l_go rfl|apply c_dec|apply zT rfl (by decide) rfl);(case hs=>(simp (disch := first|omega|exact kD rfl|exact kX rfl) only [smY,simprocAttr,bl,i64];exact rfl));first|refine c_bt ?_|refine c_bf ?_|refine zq ?_|(case hg=>assumption))))
    exact hΦ
   by_cases m1 : m / 4294967296 = 0
   ·rw [digs_small m0 (by omega)]
    have hd : (m : Int) / 4294967296 = 0 := by omega
    refine loop_done (s' := ?_) (e := .exit 0) (by simp) (fun Φ hΦ => ?_) ?_
    rotate_left
    ·(repeat (first|apply zO (by decide +kernel)|apply zP (by decide +kernel)|(apply zS;(case h=>constructor<;>decide))|((first|apply l_go rfl|apply c_dec|apply zT rfl (by decide) rfl);(case hs=>(simp (disch := first|omega|exact kD rfl|exact kX rfl) only [smY,simprocAttr,bl,i64];exact rfl));first|refine c_bt ?_|refine c_bf ?_|refine zq ?_|(case hg=>assumption))))
     exact hΦ
    (repeat (first|apply zO (by decide +kernel)|apply zP (by decide +kernel)|(apply zS;(case h=>constructor<;>decide))|((first|apply l_go rfl|apply c_dec|apply zT rfl (by decide) rfl);(case hs=>(simp (disch := first|omega|exact kD rfl|exact kX rfl) only [smY,simprocAttr,bl,i64];exact rfl));first|refine c_bt ?_|refine c_bf ?_|refine zq ?_|(case hg=>assumption))))
    ((first|apply g_ret|apply g_end);case hres => (simp only [smR];simp (disch := first|omega|exact kD rfl|exact kX rfl) only [smY,simprocAttr,bl,i64];exact rfl))
    simp (disch := first|omega|exact kD rfl|exact kX rfl) only [smY,simprocAttr,bl,i64]
    simp [dg,dgs,wrap_u32_mod]
   ·rw [digs_pos m0,digs_small m1 (by omega)]
    have hd : (m : Int) / 4294967296 / 4294967296 = 0 := by omega
    refine loop_more (s' := ?_) (fun Φ hΦ => ?_) ?_
    rotate_left
    ·(repeat (first|apply zO (by decide +kernel)|apply zP (by decide +kernel)|(apply zS;(case h=>constructor<;>decide))|((first|apply l_go rfl|apply c_dec|apply zT rfl (by decide) rfl);(case hs=>(simp (disch := first|omega|exact kD rfl|exact kX rfl) only [smY,simprocAttr,bl,i64];exact rfl));first|refine c_bt ?_|refine c_bf ?_|refine zq ?_|(case hg=>assumption))))
     exact hΦ
    refine loop_done (s' := ?_) (e := .exit 0) (by simp) (fun Φ hΦ => ?_) ?_
    rotate_left
    ·(repeat (first|apply zO (by decide +kernel)|apply zP (by decide +kernel)|(apply zS;(case h=>constructor<;>decide))|((first|apply l_go rfl|apply c_dec|apply zT rfl (by decide) rfl);(case hs=>(simp (disch := first|omega|exact kD rfl|exact kX rfl) only [smY,simprocAttr,bl,i64];exact rfl));first|refine c_bt ?_|refine c_bf ?_|refine zq ?_|(case hg=>assumption))))
     exact hΦ
    (repeat (first|apply zO (by decide +kernel)|apply zP (by decide +kernel)|(apply zS;(case h=>constructor<;>decide))|((first|apply l_go rfl|apply c_dec|apply zT rfl (by decide) rfl);(case hs=>(simp (disch := first|omega|exact kD rfl|exact kX rfl) only [smY,simprocAttr,bl,i64];exact rfl));first|refine c_bt ?_|refine c_bf ?_|refine zq ?_|(case hg=>assumption))))
    ((first|apply g_ret|apply g_end);case hres => (simp only [smR];simp (disch := first|omega|exact kD rfl|exact kX rfl) only [smY,simprocAttr,bl,i64];exact rfl))
    simp (disch := first|omega|exact kD rfl|exact kX rfl) only [smY,simprocAttr,bl,i64]
    simp [dg,dgs,wrap_u32_mod]
attribute [local irreducible] sg mg
theorem baseQ_good (n : Int) (h : -9223372036854775808 ≤ n ∧ n ≤ 9223372036854775807) : PureGood Tryz.prog 44 [i64 n] (encQ n) := by
 have h1 := baseZ_good n h
 have h2 := baseZ_good 1 (by omega)
 rw [encQ_sm,Rat.num_intCast,Rat.den_intCast,Int.natCast_one]
 rw [encI_sm,i64] at *
 refine good_of_lwp mix Tryz.func44 rfl (by decide) (nt := 7) rfl (rs := [.cell 2 68]) rfl (nle rfl) ?_
 (repeat (first|apply zO (by decide +kernel)|apply zP (by decide +kernel)|(apply zS;(case h=>constructor<;>decide))|((first|apply l_go rfl|apply c_dec|apply zT rfl (by decide) rfl);(case hs=>(simp (disch := first|omega|exact kD rfl|exact kX rfl) only [smY,simprocAttr,bl,i64,smS];exact rfl));first|refine c_bt ?_|refine c_bf ?_|refine zq ?_|(case hg=>assumption))))
 ((first|apply g_ret|apply g_end);case hres => (simp only [smR];simp (disch := first|omega|exact kD rfl|exact kX rfl) only [smY,simprocAttr,bl,i64,smS];exact rfl))
 simp (disch := first|omega|exact kD rfl|exact kX rfl) only [smY,simprocAttr,bl,i64,smS]
end Go.Proofs.YtpkjokknpbclhaaGreat
namespace Go.Num
def ch : Nat → Nat → Nat
 | _,0 => 1
 | 0,_ + 1 => 0
 | n + 1,k + 1 => ch n k + ch n (k + 1)
def bL : Int := 117288381359406970983270
def bU : List Int := [117288381359406970983270,-58644190679703485491635,19548063559901161830545,0,-3909612711980232366109,0,2792580508557308832935,0,-3909612711980232366109,0,8885483436318709922975,0,-29687278944816929285509,0,136836444919308132813815,0,-831827598778382380483309,0,6447480482572814030229455,0,-62060125931961850334423509,0,726264105946166152143673895,0,-10154857745376400364660802109,0,167196601078381306956319931135,0,-3201765335919225172319660547109,0,70558446956583857937898967065175,0,-1772968208439921418506649377818509,0,50388806092943619857172626414420015,0,-1608217844763097977263566777424008309,0,57275707257898363866531649321536619655,0,-2263264556789521123807814394864273740509,0,98720815151383560847395902019358601568095,0,-4731187154922086023514472442331162912871109,0,248073707230031824271815688716185260902449335,0,-14176208608958377565787153081487291535638488109,0,879764519439969048939855863579482941685333727375,0,-59099012755194024999880431893589136769594730911509,0,4284401066943885675566805652970005387196639671146215,0,-334257452221961966008565390215914584966870907637693309,0,27991373618881717075294980054448641465401013587915729855,0,-2509965409553402879582773192133475171882497240453229617509]
def bq (j : Nat) : Rat := Rat.divInt (bU.getD j 0) bL
end Go.Num
namespace Go.Proofs.YtpkjokknpbclhaaGreat
open Go Go.Lg Go.Num
set_option maxRecDepth 100000
def ic (l : List Int) : List LV := l.flatMap fun z => [sg z,mg z]
def qc (l : List Rat) : List LV := l.flatMap qcells
theorem encF_qc (f : List Rat) : encF f = .sl f.length (qc f) := rfl
theorem ic_len (l : List Int) : (ic l).length = l.length * 2 := by induction l with
 | nil => rfl
 | cons a l ih => rw [ic,List.flatMap_cons,List.length_append];rw [ic] at ih;rw [ih,List.length_cons];simp;omega
theorem qc_len (l : List Rat) : (qc l).length = l.length * 4 := by induction l with
 | nil => rfl
 | cons a l ih => rw [qc,List.flatMap_cons,List.length_append];rw [qc] at ih;rw [ih,List.length_cons];simp [qcells];omega
theorem ic_take {l : List Int} {m : Nat} (h : m = l.length * 2) : (ic l).take m = ic l := List.take_of_length_le (by rw [ic_len];omega)
theorem qc_take {l : List Rat} {m : Nat} (h : m = l.length * 4) : (qc l).take m = qc l := List.take_of_length_le (by rw [qc_len];omega)
theorem qc_app (l : List Rat) (x : Rat) : qc l ++ [sg x.num,mg x.num,sg (x.den : Int),mg (x.den : Int)] = qc (l ++ [x]) := by simp [qc,qcells_sm]
theorem ic_drop : ∀ (l : List Int) (j : Nat),(ic l).drop (j * 2) = ic (l.drop j)
 | [],j => by simp [ic]
 | q :: f,0 => by simp
 | q :: f,j + 1 => by
   rw [show (j + 1) * 2 = 2 + j * 2 by omega,← List.drop_drop,List.drop_succ_cons,← ic_drop f j]
   rfl
theorem qc_drop (l : List Rat) (j : Nat) : (qc l).drop (j * 4) = qc (l.drop j) := encF_drop l j
theorem ic_td {l : List Int} {j : Nat} (h : j < l.length) : ((ic l).drop (j * 2)).take 2 = [sg (l.getD j 0),mg (l.getD j 0)] := by
 rw [ic_drop,List.drop_eq_getElem_cons h]
 have : l.getD j 0 = l[j] := by simp [h]
 rw [this]
 simp only [ic,List.flatMap_cons]
 simp
theorem qc_td {l : List Rat} {j : Nat} (h : j < l.length) : ((qc l).drop (j * 4)).take 4 = [sg (l.getD j 0).num,mg (l.getD j 0).num,sg ((l.getD j 0).den : Int),mg ((l.getD j 0).den : Int)] := by
 rw [qc_drop,List.drop_eq_getElem_cons h]
 have : l.getD j 0 = l[j] := by simp [h]
 rw [this]
 simp only [qc,List.flatMap_cons,qcells_sm]
 simp
theorem ic_t0 {l : List Int} (h : 0 < l.length) : (ic l).take 2 = [sg (l.getD 0 0),mg (l.getD 0 0)] := by
 have := ic_td h
 rwa [Nat.zero_mul,List.drop_zero] at this
theorem qc_t0 {l : List Rat} (h : 0 < l.length) : (qc l).take 4 = [sg (l.getD 0 0).num,mg (l.getD 0 0).num,sg ((l.getD 0 0).den : Int),mg ((l.getD 0 0).den : Int)] := by
 have := qc_td h
 rwa [Nat.zero_mul,List.drop_zero] at this
theorem pure_sg (z : Int) : pureC (sg z) = true := rfl
theorem pure_mg (z : Int) : pureC (mg z) = true := rfl
theorem ic_all {Q : LV → Prop} (h1 : ∀ z,Q (sg z)) (h2 : ∀ z,Q (mg z)) (l : List Int) : ∀ c ∈ ic l,Q c := by
 intro c hc
 simp only [ic,List.mem_flatMap,List.mem_cons,List.not_mem_nil,or_false] at hc
 obtain ⟨x,_,rfl | rfl⟩ := hc
 ·exact h1 _
 ·exact h2 _
theorem qc_all {Q : LV → Prop} (h1 : ∀ z,Q (sg z)) (h2 : ∀ z,Q (mg z)) (l : List Rat) : ∀ c ∈ qc l,Q c := by
 intro c hc
 simp only [qc,List.mem_flatMap,qcells_sm,List.mem_cons,List.not_mem_nil,or_false] at hc
 obtain ⟨x,_,rfl | rfl | rfl | rfl⟩ := hc
 ·exact h1 _
 ·exact h2 _
 ·exact h1 _
 ·exact h2 _
theorem pvs_ic {h : Nat → Option Blk} {ok : Nat → Bool} {k : Nat} (l : List Int) : pvs h ok (k + 1) (ic l) = some (ic l,[]) := pvs_pure (ic_all pure_sg pure_mg _)
theorem pvs_qc {h : Nat → Option Blk} {ok : Nat → Bool} {k : Nat} (l : List Rat) : pvs h ok (k + 1) (qc l) = some (qc l,[]) := pvs_pure (qc_all pure_sg pure_mg _)
theorem ic_plain (l : List Int) : (∀ c ∈ ic l,plainC c = true) = True := eq_true (ic_all s9 s10 _)
theorem qc_plain (l : List Rat) : (∀ c ∈ qc l,plainC c = true) = True := eq_true (qc_all s9 s10 _)
theorem ren_ic {nb : Nat} {ρ : Nat → Nat} (l : List Int) : renLs nb ρ (ic l) = some (ic l) := rens_plain (ic_all s9 s10 _)
theorem ren_qc {nb : Nat} {ρ : Nat → Nat} (l : List Rat) : renLs nb ρ (qc l) = some (qc l) := rens_plain (qc_all s9 s10 _)
def smT := And.intro ic_len (And.intro qc_len (And.intro @ic_take (And.intro @qc_take (And.intro @ic_td (And.intro @qc_td (And.intro @ic_t0 (And.intro @qc_t0 (And.intro @pvs_ic (And.intro @pvs_qc (And.intro ic_plain (And.intro qc_plain (And.intro @ren_ic (And.intro @ren_qc smS)))))))))))))
end Go.Proofs.YtpkjokknpbclhaaGreat
namespace Go.Proofs.YtpkjokknpbclhaaGreat
open Go Go.Lg Go.Num
set_option maxRecDepth 100000
set_option maxHeartbeats 4000000
attribute [local irreducible] Go.Lg.lrun Go.Lg.lwp Go.Lg.exThen Go.Lg.exBlk Go.Lg.keep Go.Lg.goodPost sg mg
end Go.Proofs.YtpkjokknpbclhaaGreat
namespace Go.Proofs.YtpkjokknpbclhaaGreat
open Go Go.Lg Go.Num
set_option maxRecDepth 100000
set_option maxHeartbeats 4000000
attribute [local irreducible] Go.Lg.lrun Go.Lg.lwp Go.Lg.exThen Go.Lg.exBlk Go.Lg.keep Go.Lg.goodPost sg mg bq
end Go.Proofs.YtpkjokknpbclhaaGreat
namespace Go.Proofs.YtpkjokknpbclhaaGreat
open Go Go.Lg Go.Num
set_option maxRecDepth 100000
def dgF : Nat → Nat → List Nat
 | 0,_ => []
 | k + 1,n => match n with
   | 0 => []
   | m + 1 => fNat ((m + 1) % 4294967296) fun d => d :: fNat ((m + 1) / 4294967296) fun r => dgF k r
theorem dgF_eq : ∀ (k n : Nat),n < 4294967296 ^ k → dgF k n = digs n
 | 0,n,h => by
   obtain rfl : n = 0 := by simp at h;exact h
   rw [digs_zero];rfl
 | k + 1,0,_ => by rw [digs_zero];rfl
 | k + 1,m + 1,h => by
   rw [Nat.pow_succ] at h
   have := dgF_eq k ((m + 1) / 4294967296) (by omega)
   rw [dgF,fNat_eq,fNat_eq,this,← digs_pos (by omega)]
def rdD : LV → Option Nat
 | .lit (.int .u32 (.ofNat d)) => bif Nat.blt d 4294967296 then some d else none
 | _ => none
def rdDs : List LV → Option (List Nat)
 | [] => some []
 | c :: cs => match rdD c,rdDs cs with
   | some d,some ds => some (d :: ds)
   | _,_ => none
def lastNz : List Nat → Bool
 | [] => true
 | [d] => !(Nat.beq d 0)
 | _ :: ds => lastNz ds
def rdM : LV → Option Nat
 | .sl n cs => match rdDs cs with
   | some ds => bif Nat.beq n ds.length && lastNz ds then some (val ds) else none
   | none => none
 | _ => none
def rdI : LV → LV → Option Int
 | .lit (.bool false),m => (rdM m).map Int.ofNat
 | .lit (.bool true),m => match rdM m with
   | some (k + 1) => some (Int.negSucc k)
   | _ => none
 | _,_ => none
def rdQ : List LV → Option Rat
 | [a,b,c,d] => match rdI a b,rdI c d with
   | some n,some (.ofNat e) => fInt n fun n => fNat e fun e => if h : e ≠ 0 ∧ Nat.Coprime n.natAbs e then some ⟨n,e,h.1,h.2⟩ else none
   | _,_ => none
 | _ => none
theorem rdD_ok {c : LV} {d : Nat} (h : rdD c = some d) : c = .lit (.int .u32 (d : Int)) ∧ d < 4294967296 := by
 unfold rdD at h
 split at h
 ·rename_i e
  cases hb : Nat.blt e 4294967296 with
  | true =>
    rw [hb] at h
    cases h
    exact ⟨rfl,Nat.le_of_ble_eq_true hb⟩
  | false => rw [hb] at h;cases h
 ·cases h
theorem rdDs_ok : ∀ {cs : List LV} {ds : List Nat},rdDs cs = some ds → cs = dgs ds ∧ OkD ds
 | [],ds,h => by cases h;exact ⟨rfl,OkD.nil⟩
 | c :: cs,ds,h => by
   unfold rdDs at h
   split at h
   · rename_i d ds' h1 h2
     cases h
     obtain ⟨e1,l1⟩ := rdD_ok h1
     obtain ⟨e2,l2⟩ := rdDs_ok h2
     subst e1
     subst e2
     exact ⟨rfl,OkD.cons l1 l2⟩
   · cases h
theorem lastNz_ok : ∀ {ds : List Nat},lastNz ds = true → ∀ h : ds ≠ [],ds.getLast h ≠ 0
 | [],_,h => absurd rfl h
 | [d],hl,_ => by
   simp only [lastNz,Bool.not_eq_true'] at hl
   intro e
   simp only [List.getLast_singleton] at e
   subst e
   cases hl
 | a :: b :: ds,hl,h => by
   rw [List.getLast_cons (by simp)]
   exact lastNz_ok (ds := b :: ds) hl (by simp)
theorem rdM_ok {m : LV} {n : Nat} (h : rdM m = some n) : m = dg (digs n) := by
 unfold rdM at h
 split at h
 ·rename_i k cs
  split at h
  ·rename_i ds hd
   obtain ⟨e1,e2⟩ := rdDs_ok hd
   cases hb : (Nat.beq k ds.length && lastNz ds) with
   | true =>
     rw [hb] at h
     cases h
     rw [Bool.and_eq_true] at hb
     have hk := Nat.eq_of_beq_eq_true hb.1
     rw [digs_val_last e2 (lastNz_ok hb.2),e1,hk]
     rfl
   | false => rw [hb] at h;cases h
  ·cases h
 ·cases h
theorem rdI_ok {a b : LV} {z : Int} (h : rdI a b = some z) : a = sg z ∧ b = mg z := by
 unfold rdI at h
 split at h
 ·obtain ⟨n,hn,rfl⟩ := Option.map_eq_some_iff.1 h
  rw [rdM_ok hn]
  refine ⟨?_,rfl⟩
  have : ¬ (Int.ofNat n < 0) := by simp
  simp [sg,bl]
 ·split at h
  ·rename_i k hk
   cases h
   rw [rdM_ok hk]
   refine ⟨?_,rfl⟩
   have : Int.negSucc k < 0 := Int.negSucc_lt_zero k
   simp [sg,bl]
  ·cases h
 ·cases h
theorem rdQ_ok {l : List LV} {q : Rat} (h : rdQ l = some q) : l = qcells q := by
 unfold rdQ at h
 split at h
 ·split at h
  ·rename_i a b c d n e h1 h2
   rw [fInt_eq,fNat_eq] at h
   split at h
   ·cases h
    obtain ⟨a1,a2⟩ := rdI_ok h1
    obtain ⟨a3,a4⟩ := rdI_ok h2
    rw [qcells_sm,a1,a2,a3,a4]
    rfl
   ·cases h
  ·cases h
 ·cases h
def fQ {α : Type} (q : Rat) (k : Rat → α) : α := fInt q.num fun n => fNat q.den fun e => if h : e ≠ 0 ∧ Nat.Coprime n.natAbs e then k ⟨n,e,h.1,h.2⟩ else k q
theorem fQ_eq {α : Type} (q : Rat) (k : Rat → α) : fQ q k = k q := by
 unfold fQ
 rw [fInt_eq,fNat_eq]
 split <;> rfl
def wrI (z : Int) : List LV := match z with
 | .ofNat n => [.lit (.bool false),dg (dgF 100 n)]
 | .negSucc n => [.lit (.bool true),dg (dgF 100 (n + 1))]
def wrQ (q : Rat) : LV := .agg (wrI q.num ++ wrI q.den)
theorem wrI_eq {z : Int} (h : z.natAbs < 4294967296 ^ 100) : wrI z = [sg z,mg z] := by
 unfold wrI
 split
 ·rename_i n
  rw [dgF_eq _ _ (by simpa using h)]
  simp [sg,mg,bl]
 ·rename_i n
  rw [dgF_eq 100 (n + 1) h]
  simp [sg,mg,bl]
def tiny (q : Rat) : Bool := Nat.ble (q.num.natAbs + 1) (4294967296 ^ 100) && Nat.ble (q.den + 1) (4294967296 ^ 100)
theorem tiny_lq {q : Rat} (h : tiny q = true) : lq q ≤ 200 := by
 unfold tiny at h
 rw [Bool.and_eq_true] at h
 have h1 := Nat.le_of_ble_eq_true h.1
 have h2 := Nat.le_of_ble_eq_true h.2
 unfold lq len
 rw [Int.natAbs_natCast]
 have := length_digs_le (n := q.num.natAbs) (k := 100) (by omega)
 have := length_digs_le (n := q.den) (k := 100) (by omega)
 omega
theorem wrQ_eq {q : Rat} (h : tiny q = true) : wrQ q = encQ q := by
 unfold tiny at h
 rw [Bool.and_eq_true] at h
 rw [wrQ,encQ_sm,wrI_eq (Nat.le_of_ble_eq_true h.1),wrI_eq (by rw [Int.natAbs_natCast];exact Nat.le_of_ble_eq_true h.2)]
 rfl
def orcQ2 (g : Rat → Rat → Rat) (args : List LV) : Option LV :=
 match args with
 | [.agg l,.agg m] => match rdQ l,rdQ m with
   | some x,some y => fQ (g x y) fun r => bif tiny x && tiny y && tiny r then some (wrQ r) else none
   | _,_ => none
 | _ => none
theorem orcQ2_ok {fid : FuncId} {g : Rat → Rat → Rat} (hg : ∀ p q,lq p ≤ 34359738368 → lq q ≤ 34359738368 → PureGood Tryz.prog fid [encQ p,encQ q] (encQ (g p q))) {args : List LV} {r : LV} (h : orcQ2 g args = some r) : PureGood Tryz.prog fid args r := by
 unfold orcQ2 at h
 split at h
 ·split at h
  ·rename_i l m x y h1 h2
   rw [fQ_eq] at h
   cases hb : (tiny x && tiny y && tiny (g x y)) with
   | true =>
     rw [hb] at h
     simp only [Bool.and_eq_true] at hb
     cases h
     have hx := tiny_lq hb.1.1
     have hy := tiny_lq hb.1.2
     rw [wrQ_eq hb.2,rdQ_ok h1,rdQ_ok h2]
     exact hg x y (by omega) (by omega)
   | false => rw [hb] at h;cases h
  ·cases h
 ·cases h
def orcLen (args : List LV) : Option LV :=
 match args with
 | [.lit (.int .u64 (.ofNat n))] => bif Nat.blt n 18446744073709551616 then fNat (Lib.bitLen n) fun k => some (i64 k) else none
 | _ => none
theorem orcLen_ok {args : List LV} {r : LV} (h : orcLen args = some r) : PureGood Tryz.prog 107 args r := by
 unfold orcLen at h
 split at h
 ·rename_i n
  cases hb : Nat.blt n 18446744073709551616 with
  | true =>
    rw [hb,cond_true,fNat_eq] at h
    cases h
    exact len_good (x := n) (Nat.le_of_ble_eq_true hb)
  | false => rw [hb] at h;cases h
 ·cases h
def orcLen32 (args : List LV) : Option LV :=
 match args with
 | [.lit (.int .u32 (.ofNat n))] => bif Nat.blt n 4294967296 then fNat (Lib.bitLen n) fun k => some (i64 k) else none
 | _ => none
theorem orcLen32_ok {args : List LV} {r : LV} (h : orcLen32 args = some r) : PureGood Tryz.prog 132 args r := by
 unfold orcLen32 at h
 split at h
 ·rename_i n
  cases hb : Nat.blt n 4294967296 with
  | true =>
    rw [hb,cond_true,fNat_eq] at h
    cases h
    exact len32_good (x := n) (Nat.le_of_ble_eq_true hb)
  | false => rw [hb] at h;cases h
 ·cases h
def orcClone (args : List LV) : Option LV :=
 match args with
 | [m] => match rdM m with
   | some n => bif Nat.ble (n + 1) (4294967296 ^ 100) then some m else none
   | none => none
 | _ => none
theorem orcClone_ok {args : List LV} {r : LV} (h : orcClone args = some r) : PureGood Tryz.prog 99 args r := by
 unfold orcClone at h
 split at h
 ·split at h
  ·rename_i m n hn
   cases hb : Nat.ble (n + 1) (4294967296 ^ 100) with
   | true =>
     rw [hb,cond_true] at h
     cases h
     rw [rdM_ok hn]
     have := length_digs_le (n := n) (k := 100) (Nat.le_of_ble_eq_true hb)
     exact clone_good _ (by omega)
   | false => rw [hb] at h;cases h
  ·cases h
 ·cases h
theorem orc_nil : OrcOk Tryz.prog fun _ _ => none := fun _ _ _ h => nomatch h
theorem orc_cons {f0 : Nat} {g : List LV → Option LV} {o : FuncId → List LV → Option LV} (hg : ∀ args r,g args = some r → PureGood Tryz.prog f0 args r) (ho : OrcOk Tryz.prog o) : OrcOk Tryz.prog (fun f args => bif Nat.beq f f0 then g args else o f args) := by
 intro f args r h
 simp only at h
 cases h1 : Nat.beq f f0 with
 | true => rw [h1] at h;rw [Nat.eq_of_beq_eq_true h1];exact hg args r h
 | false => rw [h1] at h;exact ho f args r h
def orc (f : FuncId) (args : List LV) : Option LV :=
 bif Nat.beq f 116 then orcQ2 (· + ·) args else bif Nat.beq f 117 then orcQ2 (· * ·) args else bif Nat.beq f 114 then orcQ2 (· - ·) args else bif Nat.beq f 107 then orcLen args else bif Nat.beq f 132 then orcLen32 args else bif Nat.beq f 99 then orcClone args else none
theorem orc_ok : OrcOk Tryz.prog orc := by
 intro f args r h
 exact orc_cons (f0 := 116) (g := orcQ2 (· + ·)) (fun _ _ => orcQ2_ok (g := (· + ·)) (fun p q a b => qadd_good p q a b)) (orc_cons (f0 := 117) (g := orcQ2 (· * ·)) (fun _ _ => orcQ2_ok (g := (· * ·)) (fun p q a b => qmul_good p q a b)) (orc_cons (f0 := 114) (g := orcQ2 (· - ·)) (fun _ _ => orcQ2_ok (g := (· - ·)) (fun p q a b => qsub_good p q a b)) (orc_cons (f0 := 107) (g := orcLen) (fun _ _ => orcLen_ok) (orc_cons (f0 := 132) (g := orcLen32) (fun _ _ => orcLen32_ok) (orc_cons (f0 := 99) (g := orcClone) (fun _ _ => orcClone_ok) orc_nil))))) f args r h
end Go.Proofs.YtpkjokknpbclhaaGreat