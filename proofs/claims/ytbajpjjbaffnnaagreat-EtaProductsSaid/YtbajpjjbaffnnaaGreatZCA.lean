/- Contracts of functions of the program, and what proves them (texts: OP3). -/
import Derived.Test.YtbajpjjbaffnnaaGreatZBI
import Derived.Test.YtbajpjjbaffnnaaGreatZBZ
set_option linter.all false
namespace Go.Proofs.YtbajpjjbaffnnaaGreat
open Go Go.Lg Go.Num
set_option maxRecDepth 100000
set_option maxHeartbeats 8000000
attribute [local irreducible] Go.Lg.lrun Go.Lg.lwp Go.Lg.exThen Go.Lg.exBlk Go.Lg.keep Go.Lg.goodPost ec
def lvP (n k : Nat) : Nat := n / Nat.gcd n k * k
theorem lvP_facts {n k : Nat} (n1 : 1 ≤ n) (k1 : 1 ≤ k) : 1 ≤ lvP n k ∧ lvP n k % n = 0 ∧ lvP n k % k = 0 := by
 have hg : 0 < Nat.gcd n k := Nat.gcd_pos_of_pos_left _ n1
 have e : lvP n k = Nat.lcm n k := by
  unfold lvP
  rw [Nat.lcm,Nat.div_mul_right_comm (Nat.gcd_dvd_left n k)]
 rw [e]
 exact ⟨Nat.lcm_pos n1 k1,Nat.mod_eq_zero_of_dvd (Nat.dvd_lcm_left _ _),Nat.mod_eq_zero_of_dvd (Nat.dvd_lcm_right _ _)⟩
theorem etimes_large {n k : Nat} {xs ys : List Int} (hx : EtaOk n xs) (hy : EtaOk k ys) (hL : 600 < lvP n k) : PureGood Tryz.prog 47 [.agg [i64 n,.sl xs.length (ec xs)],.agg [i64 k,.sl ys.length (ec ys)]] (shp 0 7 (.sl 0 [])) := by
 have n1 := hx.n1
 have n2 := hx.n2
 have k1 := hy.n1
 have k2 := hy.n2
 have hgp : 0 < Nat.gcd n k := Nat.gcd_pos_of_pos_left _ (by omega)
 have hgl : Nat.gcd n k ≤ n := Nat.le_of_dvd (by omega) (Nat.gcd_dvd_left _ _)
 have q1 : (n : Int) / ((Nat.gcd n k : Nat) : Int) = ((n / Nat.gcd n k : Nat) : Int) := rfl
 have q2 : n / Nat.gcd n k ≤ n := Nat.div_le_self _ _
 have q3 : ((n / Nat.gcd n k : Nat) : Int) * (k : Int) = ((n / Nat.gcd n k * k : Nat) : Int) := by simp
 have q4 : n / Nat.gcd n k * k ≤ 600 * 600 := Nat.mul_le_mul (by omega) k2
 have q0 : ¬ ((Nat.gcd n k : Nat) : Int) = 0 := by omega
 have l1 := hx.len_le
 have l2 := hy.len_le
 have g1 := check_good n xs (by omega) (by omega)
 have g2 := check_good k ys (by omega) (by omega)
 rw [etaErr_zero hx] at g1
 rw [etaErr_zero hy] at g2
 have g3 := gcdA_good n k (by omega) (by omega)
 unfold lvP at hL
 generalize n / Nat.gcd n k * k = L at *
 generalize n / Nat.gcd n k = Q at *
 generalize Nat.gcd n k = g at *
 simp only [i64,bl] at *
 refine good_of_lwp mix Tryz.func47 rfl (by decide) (nt := 65) rfl (rs := [.cell 4 24,.tmp 5]) rfl (nle rfl) ?_
 (repeat (first|apply zO (by decide +kernel)|apply zP (by decide +kernel)|(apply zS;(case h=>constructor<;>decide))|((first|apply l_go rfl|apply c_dec|apply zT rfl (by decide) rfl);(case hs=>(simp (disch := first|omega|exact kD rfl|exact kX rfl) only [smY,simprocAttr,bl,i64,smE,shp,ec_nil,undefL,undef,q1,q3];exact rfl));first|refine c_bt ?_|refine c_bf ?_|refine zq ?_|(case hg=>assumption))))
 ((first|apply g_ret|apply g_end);case hres => (simp only [smR];simp (disch := first|omega|exact kD rfl|exact kX rfl) only [smY,simprocAttr,bl,i64,smE,shp,ec_nil,undefL,undef,q1,q3];exact rfl))
 simp (disch := first|omega|exact kD rfl|exact kX rfl) only [smY,simprocAttr,bl,i64,smE,shp,ec_nil,undefL,undef,q1,q3]
theorem rtimes_large {n k : Nat} {xs ys : List Int} (hx : EtaOk n xs) (hy : EtaOk k ys) (hL : 600 < lvP n k) : PureGood Tryz.prog 50 [.agg [i64 n,.sl xs.length (ec xs)],.agg [i64 k,.sl ys.length (ec ys)]] (shp 0 7 (.sl 0 [])) := by
 have n1 := hx.n1
 have n2 := hx.n2
 have k1 := hy.n1
 have k2 := hy.n2
 have hgp : 0 < Nat.gcd n k := Nat.gcd_pos_of_pos_left _ (by omega)
 have hgl : Nat.gcd n k ≤ n := Nat.le_of_dvd (by omega) (Nat.gcd_dvd_left _ _)
 have q1 : (n : Int) / ((Nat.gcd n k : Nat) : Int) = ((n / Nat.gcd n k : Nat) : Int) := rfl
 have q2 : n / Nat.gcd n k ≤ n := Nat.div_le_self _ _
 have q3 : ((n / Nat.gcd n k : Nat) : Int) * (k : Int) = ((n / Nat.gcd n k * k : Nat) : Int) := by simp
 have q4 : n / Nat.gcd n k * k ≤ 600 * 600 := Nat.mul_le_mul (by omega) k2
 have q0 : ¬ ((Nat.gcd n k : Nat) : Int) = 0 := by omega
 have l1 := hx.len_le
 have l2 := hy.len_le
 have g1 := rcheck_good n xs (by omega) (by omega)
 have g2 := rcheck_good k ys (by omega) (by omega)
 rw [etaErr_zero hx] at g1
 rw [etaErr_zero hy] at g2
 have g3 := rgcdA_good n k (by omega) (by omega)
 unfold lvP at hL
 have g4 := made_large n ((n / Nat.gcd n k * k : Nat) : Int) 1 xs (by omega)
 generalize n / Nat.gcd n k * k = L at *
 generalize n / Nat.gcd n k = Q at *
 generalize Nat.gcd n k = g at *
 simp only [i64,bl,shp] at *
 refine good_of_lwp mix Tryz.func50 rfl (by decide) (nt := 79) rfl (rs := [.cell 4 24,.tmp 5]) rfl (nle rfl) ?_
 (repeat (first|apply zO (by decide +kernel)|apply zP (by decide +kernel)|(apply zS;(case h=>constructor<;>decide))|((first|apply l_go rfl|apply c_dec|apply zT rfl (by decide) rfl);(case hs=>(simp (disch := first|omega|exact kD rfl|exact kX rfl) only [smY,simprocAttr,bl,i64,smE,shp,ec_nil,undefL,undef,q1,q3];exact rfl));first|refine c_bt ?_|refine c_bf ?_|refine zq ?_|(case hg=>assumption))))
 ((first|apply g_ret|apply g_end);case hres => (simp only [smR];simp (disch := first|omega|exact kD rfl|exact kX rfl) only [smY,simprocAttr,bl,i64,smE,shp,ec_nil,undefL,undef,q1,q3];exact rfl))
 simp (disch := first|omega|exact kD rfl|exact kX rfl) only [smY,simprocAttr,bl,i64,smE,shp,ec_nil,undefL,undef,q1,q3]
def prL (n k : Nat) (xs ys : List Int) : List Int := adZ (mdL (divL (lvP n k)) (divL n) xs 1) (mdL (divL (lvP n k)) (divL k) ys 1)
theorem etimes_gen {n k : Nat} {xs ys : List Int} (hx : EtaOk n xs) (hy : EtaOk k ys) (hL : lvP n k ≤ 600) (r : LV) (h1 : (∀ x ∈ prL n k xs ys,-200 ≤ x ∧ x ≤ 200) → r = shp (lvP n k) 0 (.sl (divN (lvP n k)).length (ec (prL n k xs ys)))) (h2 : ¬ (∀ x ∈ prL n k xs ys,-200 ≤ x ∧ x ≤ 200) → r = shp 0 7 (.sl 0 [])) : PureGood Tryz.prog 47 [.agg [i64 n,.sl xs.length (ec xs)],.agg [i64 k,.sl ys.length (ec ys)]] r := by
 have n1 := hx.n1
 have n2 := hx.n2
 have k1 := hy.n1
 have k2 := hy.n2
 have hgp : 0 < Nat.gcd n k := Nat.gcd_pos_of_pos_left _ (by omega)
 have hgl : Nat.gcd n k ≤ n := Nat.le_of_dvd (by omega) (Nat.gcd_dvd_left _ _)
 have q1 : (n : Int) / ((Nat.gcd n k : Nat) : Int) = ((n / Nat.gcd n k : Nat) : Int) := rfl
 have q2 : n / Nat.gcd n k ≤ n := Nat.div_le_self _ _
 have q3 : ((n / Nat.gcd n k : Nat) : Int) * (k : Int) = ((n / Nat.gcd n k * k : Nat) : Int) := by simp
 have q4 : n / Nat.gcd n k * k ≤ 600 * 600 := Nat.mul_le_mul (by omega) k2
 have q0 : ¬ ((Nat.gcd n k : Nat) : Int) = 0 := by omega
 have l1 := hx.len_le
 have l2 := hy.len_le
 have g1 := check_good n xs (by omega) (by omega)
 have g2 := check_good k ys (by omega) (by omega)
 rw [etaErr_zero hx] at g1
 rw [etaErr_zero hy] at g2
 have g3 := gcdA_good n k (by omega) (by omega)
 obtain ⟨p1,p2,p3⟩ := lvP_facts n1 k1
 have gs := spread_eta (t := 1) hx p1 hL (by rw [Nat.mul_one];exact p2)
 have gt := spread_etaP (t := 1) hy p1 hL (by rw [Nat.mul_one];exact p3)
 have hA := hx.md p1 hL 1
 have hB := hy.md p1 hL 1
 have bA := fun i => hA.get i
 have bB := fun i => hB.get i
 have lA := hA.len
 have lB := hB.len
 have lM := divN_length_le _ hL
 have lM1 := divN_length_pos p1
 unfold prL at h1 h2
 have gf := fits_good (adZ (mdL (divL (lvP n k)) (divL n) xs 1) (mdL (divL (lvP n k)) (divL k) ys 1)) (by rw [adZ_len (by omega)];omega)
 rw [adZ_len (by omega)] at gf
 have e1 : ((1 : Nat) : Int) = 1 := rfl
 rw [e1] at gs gt
 generalize hZA : mdL (divL (lvP n k)) (divL n) xs 1 = A at *
 generalize hZB : mdL (divL (lvP n k)) (divL k) ys 1 = B at *
 have hAB : A.length = B.length := by omega
 rw [← lA] at gs gt h1
 have eL : ((n / Nat.gcd n k * k : Nat) : Int) = ((lvP n k : Nat) : Int) := rfl
 rw [eL] at q3
 have lA1 : 1 ≤ A.length ∧ A.length ≤ 24 := by omega
 clear hA hB p1 p2 p3 hZA hZB lM lM1 lB q4 eL
 generalize lvP n k = L at *
 generalize n / Nat.gcd n k = Q at *
 generalize Nat.gcd n k = g at *
 simp only [i64,bl] at *
 refine good_of_lwp mix Tryz.func47 rfl (by decide) (nt := 65) rfl (rs := [.cell 4 24,.tmp 5]) rfl (nle rfl) ?_
 (repeat (first|apply zO (by decide +kernel)|apply zP (by decide +kernel)|(apply zS;(case h=>constructor<;>decide))|((first|apply l_go rfl|apply c_dec|apply zT rfl (by decide) rfl);(case hs=>(simp (disch := first|omega|exact kD rfl|exact kX rfl) only [smY,simprocAttr,bl,i64,smE,shp,ec_nil,undefL,undef,q1,q3];exact rfl));first|refine c_bt ?_|refine c_bf ?_|refine zq ?_|(case hg=>assumption))))
 refine l_ncallD (by simp only [List.size_toArray,List.length_cons,List.length_nil,Nat.reduceAdd,Nat.max_def,Nat.reduceLeDiff,↓reduceIte];exact rfl) rfl rfl rfl (by decide) rfl (by simp (disch := first|omega|exact kD rfl|exact kX rfl) only [smY,simprocAttr,bl,i64,smE,shp,ec_nil,undefL,undef,q1,q3];try exact rfl) gs (by simp [plainD,plainC]) (by simp [upd]) ?_
 (repeat (first|apply zO (by decide +kernel)|apply zP (by decide +kernel)|(apply zS;(case h=>constructor<;>decide))|((first|apply l_go rfl|apply c_dec|apply zT rfl (by decide) rfl);(case hs=>(simp (disch := first|omega|exact kD rfl|exact kX rfl) only [smY,simprocAttr,bl,i64,smE,shp,ec_nil,undefL,undef,q1,q3];exact rfl));first|refine c_bt ?_|refine c_bf ?_|refine zq ?_|(case hg=>assumption))))
 refine w_loop (α := {i : Nat // i ≤ A.length}) (fun i => st 65 (lk [(4,.ptr 0 0),(5,.lit (.int .i64 0)),(8,.lit (.int .i64 L)),(9,.own 1 0 A.length 1),(43,.sl A.length (ec B)),(44,.lit (.int .i64 A.length)),(45,.lit (.int .i64 i.1))]) (lkH [(0,⟨24,[.lit (.int .i64 0),nilL],false⟩),(1,⟨3,ec (adT A B i.1),false⟩)]) 2) (fun i => A.length - i.1) ⟨0,by omega⟩ ?_ ?_
 ·simp only [adT_zero]
  (refine Sub.heapL [2,32] rfl (by decide) ?_ (by simp only [smL];decide) ?_ ?_;all_goals (first|(simp only [plainC,smF,dg,renL,renLs,simprocAttr,bl,i64,smE,shp,ec_nil,undefL,undef];done) | (simp only [smF,dg,renL,renLs,simprocAttr,bl,i64,smE,shp,ec_nil,undefL,undef];(repeat' apply And.intro);all_goals rfl) | (simp only [smF,dg,renL,renLs,simprocAttr,bl,i64,smE,shp,ec_nil,undefL,undef]) | skip))
  all_goals (first | done | trace_state)
 ·rintro ⟨i,hi⟩
  simp only [st]
  have hl := adT_len hAB hi
  by_cases hlt : i < A.length
  ·have b1 := bA i
   have b2 := bB i
   have hg := adT_get hAB hlt
   have hs := adT_succ hAB hlt
   generalize adT A B i = T at *
   (repeat (first|apply zO (by decide +kernel)|apply zP (by decide +kernel)|(apply zS;(case h=>constructor<;>decide))|((first|apply l_go rfl|apply c_dec|apply zT rfl (by decide) rfl);(case hs=>(simp (disch := first|omega|exact kD rfl|exact kX rfl) only [smY,simprocAttr,bl,i64,smE,shp,ec_nil,undefL,undef,hl,hg];exact rfl));first|refine c_bt ?_|refine c_bf ?_|refine zq ?_|(case hg=>assumption))))
   refine ⟨⟨i + 1,by omega⟩,?_,by simp only;omega⟩
   rw [hs]
   (refine Sub.heapL [0,1] rfl (by decide) ?_ (by simp only [smL];decide) ?_ ?_;all_goals (first|(simp only [plainC,smF,dg,renL,renLs,simprocAttr,bl,i64,smE,shp,ec_nil,undefL,undef];done) | (simp only [smF,dg,renL,renLs,simprocAttr,bl,i64,smE,shp,ec_nil,undefL,undef];(repeat' apply And.intro);all_goals rfl) | (simp only [smF,dg,renL,renLs,simprocAttr,bl,i64,smE,shp,ec_nil,undefL,undef]) | skip))
   all_goals (first | done | trace_state)
  ·obtain rfl : i = A.length := by omega
   rw [adT_end hAB] at hl ⊢
   have htk : (adZ A B).take A.length = adZ A B := List.take_of_length_le (by omega)
   by_cases hall : ∀ x ∈ adZ A B,-200 ≤ x ∧ x ≤ 200
   ·obtain rfl := h1 hall
    rw [dec_t hall] at gf
    (repeat (first|apply zO (by decide +kernel)|apply zP (by decide +kernel)|(apply zS;(case h=>constructor<;>decide))|((first|apply l_go rfl|apply c_dec|apply zT rfl (by decide) rfl);(case hs=>(simp (disch := first|omega|exact kD rfl|exact kX rfl) only [smY,simprocAttr,bl,i64,smE,shp,ec_nil,undefL,undef,hl,htk];exact rfl));first|refine c_bt ?_|refine c_bf ?_|refine zq ?_|(case hg=>assumption))))
    ((first|apply g_ret|apply g_end);case hres => (simp only [smR];simp (disch := first|omega|exact kD rfl|exact kX rfl) only [smY,simprocAttr,bl,i64,smE,shp,ec_nil,undefL,undef,hl,htk];exact rfl))
    simp (disch := first|omega|exact kD rfl|exact kX rfl) only [smY,simprocAttr,bl,i64,smE,shp,ec_nil,undefL,undef,hl,htk]
    all_goals trace_state
   ·obtain rfl := h2 hall
    rw [dec_f hall] at gf
    (repeat (first|apply zO (by decide +kernel)|apply zP (by decide +kernel)|(apply zS;(case h=>constructor<;>decide))|((first|apply l_go rfl|apply c_dec|apply zT rfl (by decide) rfl);(case hs=>(simp (disch := first|omega|exact kD rfl|exact kX rfl) only [smY,simprocAttr,bl,i64,smE,shp,ec_nil,undefL,undef,hl,htk];exact rfl));first|refine c_bt ?_|refine c_bf ?_|refine zq ?_|(case hg=>assumption))))
    ((first|apply g_ret|apply g_end);case hres => (simp only [smR];simp (disch := first|omega|exact kD rfl|exact kX rfl) only [smY,simprocAttr,bl,i64,smE,shp,ec_nil,undefL,undef,hl,htk];exact rfl))
    simp (disch := first|omega|exact kD rfl|exact kX rfl) only [smY,simprocAttr,bl,i64,smE,shp,ec_nil,undefL,undef,hl,htk]
    all_goals trace_state
theorem rtimes_gen {n k : Nat} {xs ys : List Int} (hx : EtaOk n xs) (hy : EtaOk k ys) (hL : lvP n k ≤ 600) (r : LV) (h1 : (∀ x ∈ prL n k xs ys,-200 ≤ x ∧ x ≤ 200) → r = shp (lvP n k) 0 (.sl (divN (lvP n k)).length (ec (prL n k xs ys)))) (h2 : ¬ (∀ x ∈ prL n k xs ys,-200 ≤ x ∧ x ≤ 200) → r = shp 0 7 (.sl 0 [])) : PureGood Tryz.prog 50 [.agg [i64 n,.sl xs.length (ec xs)],.agg [i64 k,.sl ys.length (ec ys)]] r := by
 have n1 := hx.n1
 have n2 := hx.n2
 have k1 := hy.n1
 have k2 := hy.n2
 have hgp : 0 < Nat.gcd n k := Nat.gcd_pos_of_pos_left _ (by omega)
 have hgl : Nat.gcd n k ≤ n := Nat.le_of_dvd (by omega) (Nat.gcd_dvd_left _ _)
 have q1 : (n : Int) / ((Nat.gcd n k : Nat) : Int) = ((n / Nat.gcd n k : Nat) : Int) := rfl
 have q2 : n / Nat.gcd n k ≤ n := Nat.div_le_self _ _
 have q3 : ((n / Nat.gcd n k : Nat) : Int) * (k : Int) = ((n / Nat.gcd n k * k : Nat) : Int) := by simp
 have q4 : n / Nat.gcd n k * k ≤ 600 * 600 := Nat.mul_le_mul (by omega) k2
 have q0 : ¬ ((Nat.gcd n k : Nat) : Int) = 0 := by omega
 have l1 := hx.len_le
 have l2 := hy.len_le
 have g1 := rcheck_good n xs (by omega) (by omega)
 have g2 := rcheck_good k ys (by omega) (by omega)
 rw [etaErr_zero hx] at g1
 rw [etaErr_zero hy] at g2
 have g3 := rgcdA_good n k (by omega) (by omega)
 obtain ⟨p1,p2,p3⟩ := lvP_facts n1 k1
 have gs := made_new (t := 1) hx p1 hL (by omega)
 have gt := made_good (t := 1) hy p1 hL (by omega)
 have hA := hx.md p1 hL 1
 have hB := hy.md p1 hL 1
 have bA := fun i => hA.get i
 have bB := fun i => hB.get i
 have lA := hA.len
 have lB := hB.len
 have lM := divN_length_le _ hL
 have lM1 := divN_length_pos p1
 unfold prL at h1 h2
 have e1 : ((1 : Nat) : Int) = 1 := rfl
 rw [e1] at gs gt
 generalize hZA : mdL (divL (lvP n k)) (divL n) xs 1 = A at *
 generalize hZB : mdL (divL (lvP n k)) (divL k) ys 1 = B at *
 have hAB : A.length = B.length := by omega
 have hzl := adZ_len hAB
 rw [← lA] at gs gt h1
 have gb := bounded_gen (lvP n k) (adZ A B) (by omega) r (fun h => by rw [h1 h,hzl]) (fun h => h2 h)
 rw [hzl] at gb
 have eL : ((n / Nat.gcd n k * k : Nat) : Int) = ((lvP n k : Nat) : Int) := rfl
 rw [eL] at q3
 have lA1 : 1 ≤ A.length ∧ A.length ≤ 24 := by omega
 clear hA hB p1 p2 p3 hZA hZB lM lM1 lB q4 eL
 generalize lvP n k = L at *
 generalize n / Nat.gcd n k = Q at *
 generalize Nat.gcd n k = g at *
 simp only [i64,bl,shp] at g1 g2 g3 gt gb ⊢
 simp only [i64] at gs
 refine good_of_lwp mix Tryz.func50 rfl (by decide) (nt := 79) rfl (rs := [.cell 4 24,.tmp 5]) rfl (nle rfl) ?_
 (repeat (first|apply zO (by decide +kernel)|apply zP (by decide +kernel)|(apply zS;(case h=>constructor<;>decide))|((first|apply l_go rfl|apply c_dec|apply zT rfl (by decide) rfl);(case hs=>(simp (disch := first|omega|exact kD rfl|exact kX rfl) only [smY,simprocAttr,bl,i64,smE,shp,ec_nil,undefL,undef,q1,q3];exact rfl));first|refine c_bt ?_|refine c_bf ?_|refine zq ?_|(case hg=>assumption))))
 refine l_scall (by simp only [List.size_toArray,List.length_cons,List.length_nil,Nat.reduceAdd,Nat.max_def,Nat.reduceLeDiff,↓reduceIte];exact rfl) rfl rfl rfl (by decide) rfl (by simp (disch := first|omega|exact kD rfl|exact kX rfl) only [smY,simprocAttr,bl,i64,smE,shp,ec_nil,undefL,undef,q1,q3];try exact rfl) gs (by simp [plainD,plainC]) (by simp [upd]) ?_
 (repeat (first|apply zO (by decide +kernel)|apply zP (by decide +kernel)|(apply zS;(case h=>constructor<;>decide))|((first|apply l_go rfl|apply c_dec|apply zT rfl (by decide) rfl);(case hs=>(simp (disch := first|omega|exact kD rfl|exact kX rfl) only [smY,simprocAttr,bl,i64,smE,shp,ec_nil,undefL,undef,q1,q3];exact rfl));first|refine c_bt ?_|refine c_bf ?_|refine zq ?_|(case hg=>assumption))))
 refine w_loop (α := {i : Nat // i ≤ A.length}) (fun i => st 79 (lk [(4,.ptr 0 0),(5,.lit (.int .i64 0)),(9,.ptr 1 0),(11,.ptr 3 0),(13,.lit (.int .i64 i.1))]) (lkH [(0,⟨24,[.lit (.int .i64 0),nilL],false⟩),(1,⟨24,[.lit (.int .i64 L),.own 2 0 A.length 1],false⟩),(2,⟨3,ec (adT A B i.1),false⟩),(3,⟨24,[.lit (.int .i64 L),.sl A.length (ec B)],false⟩)]) 4) (fun i => A.length - i.1) ⟨0,by omega⟩ ?_ ?_
 ·simp only [adT_zero]
  (refine Sub.heapR [2,32,35,44] rfl (by decide) ?_ (by simp only [smL];decide) ?_;all_goals (first|(simp only [smF,dg,renL,renLs,simprocAttr,bl,i64,smE,shp,ec_nil,undefL,undef];done) | (simp only [smF,dg,renL,renLs,simprocAttr,bl,i64,smE,shp,ec_nil,undefL,undef,Option.some.injEq,Blk.mk.injEq,true_and,and_true];first | done | (repeat' (first | apply And.intro | (refine ⟨_,rfl,?_⟩;simp only [smF,dg,renL,renLs,simprocAttr,bl,i64,smE,shp,ec_nil,undefL,undef];first | done | rfl)))) | skip))
  all_goals (first | done | trace_state)
 ·rintro ⟨i,hi⟩
  simp only [st]
  have hl := adT_len hAB hi
  by_cases hlt : i < A.length
  ·have b1 := bA i
   have b2 := bB i
   have hg := adT_get hAB hlt
   have hs := adT_succ hAB hlt
   generalize adT A B i = T at *
   (repeat (first|apply zO (by decide +kernel)|apply zP (by decide +kernel)|(apply zS;(case h=>constructor<;>decide))|((first|apply l_go rfl|apply c_dec|apply zT rfl (by decide) rfl);(case hs=>(simp (disch := first|omega|exact kD rfl|exact kX rfl) only [smY,simprocAttr,bl,i64,smE,shp,ec_nil,undefL,undef,hl,hg];exact rfl));first|refine c_bt ?_|refine c_bf ?_|refine zq ?_|(case hg=>assumption))))
   refine ⟨⟨i + 1,by omega⟩,?_,by simp only;omega⟩
   rw [hs]
   (refine Sub.heapR [0,1,2,3] rfl (by decide) ?_ (by simp only [smL];decide) ?_;all_goals (first|(simp only [smF,dg,renL,renLs,simprocAttr,bl,i64,smE,shp,ec_nil,undefL,undef];done) | (simp only [smF,dg,renL,renLs,simprocAttr,bl,i64,smE,shp,ec_nil,undefL,undef,Option.some.injEq,Blk.mk.injEq,true_and,and_true];first | done | (repeat' (first | apply And.intro | (refine ⟨_,rfl,?_⟩;simp only [smF,dg,renL,renLs,simprocAttr,bl,i64,smE,shp,ec_nil,undefL,undef];first | done | rfl)))) | skip))
   all_goals (first | done | trace_state)
  ·obtain rfl : i = A.length := by omega
   rw [adT_end hAB] at hl ⊢
   have htk : (adZ A B).take A.length = adZ A B := List.take_of_length_le (by omega)
   by_cases hall : ∀ x ∈ adZ A B,-200 ≤ x ∧ x ≤ 200
   ·obtain rfl := h1 hall
    simp only [shp] at gb
    (repeat (first|apply zO (by decide +kernel)|apply zP (by decide +kernel)|(apply zS;(case h=>constructor<;>decide))|((first|apply l_go rfl|apply c_dec|apply zT rfl (by decide) rfl);(case hs=>(simp (disch := first|omega|exact kD rfl|exact kX rfl) only [smY,simprocAttr,bl,i64,smE,shp,ec_nil,undefL,undef,hl,htk];exact rfl));first|refine c_bt ?_|refine c_bf ?_|refine zq ?_|(case hg=>assumption))))
    ((first|apply g_ret|apply g_end);case hres => (simp only [smR];simp (disch := first|omega|exact kD rfl|exact kX rfl) only [smY,simprocAttr,bl,i64,smE,shp,ec_nil,undefL,undef,hl,htk];exact rfl))
    simp (disch := first|omega|exact kD rfl|exact kX rfl) only [smY,simprocAttr,bl,i64,smE,shp,ec_nil,undefL,undef,hl,htk]
    all_goals trace_state
   ·obtain rfl := h2 hall
    simp only [shp] at gb
    (repeat (first|apply zO (by decide +kernel)|apply zP (by decide +kernel)|(apply zS;(case h=>constructor<;>decide))|((first|apply l_go rfl|apply c_dec|apply zT rfl (by decide) rfl);(case hs=>(simp (disch := first|omega|exact kD rfl|exact kX rfl) only [smY,simprocAttr,bl,i64,smE,shp,ec_nil,undefL,undef,hl,htk];exact rfl));first|refine c_bt ?_|refine c_bf ?_|refine zq ?_|(case hg=>assumption))))
    ((first|apply g_ret|apply g_end);case hres => (simp only [smR];simp (disch := first|omega|exact kD rfl|exact kX rfl) only [smY,simprocAttr,bl,i64,smE,shp,ec_nil,undefL,undef,hl,htk];exact rfl))
    simp (disch := first|omega|exact kD rfl|exact kX rfl) only [smY,simprocAttr,bl,i64,smE,shp,ec_nil,undefL,undef,hl,htk]
    all_goals trace_state
theorem times_both (la : Int) (xs : List Int) (lb : Int) (ys : List Int) (hla : -9223372036854775808 ≤ la ∧ la ≤ 9223372036854775807) (hlb : -9223372036854775808 ≤ lb ∧ lb ≤ 9223372036854775807) (hxl : xs.length ≤ 1000000) (hyl : ys.length ≤ 1000000) : bothE 47 50 [.agg [i64 la,.sl xs.length (ec xs)],.agg [i64 lb,.sl ys.length (ec ys)]] := by
 have g1 := check_good la xs hla hxl
 have g2 := rcheck_good la xs hla hxl
 by_cases ea : etaErr la xs = 0
 ·have g3 := check_good lb ys hlb hyl
  have g4 := rcheck_good lb ys hlb hyl
  by_cases eb : etaErr lb ys = 0
  ·obtain ⟨n,rfl,hx⟩ := etaErr_inv ea
   obtain ⟨k,rfl,hy⟩ := etaErr_inv eb
   have e0 : shp 0 7 (.sl ([] : List Int).length (ec [])) = shp 0 7 (.sl 0 []) := by rw [ec_nil];rfl
   by_cases hL : lvP n k ≤ 600
   ·have hzl : (prL n k xs ys).length = (divN (lvP n k)).length := by
     unfold prL
     rw [adZ_len (by rw [mdL_len,mdL_len]),mdL_len,divL_length]
    have lM := divN_length_le _ hL
    by_cases hall : ∀ x ∈ prL n k xs ys,-200 ≤ x ∧ x ≤ 200
    ·refine ⟨lvP n k,prL n k xs ys,0,by omega,?_,?_⟩
     ·rw [hzl];exact etimes_gen hx hy hL _ (fun _ => rfl) (fun h => absurd hall h)
     ·rw [hzl];exact rtimes_gen hx hy hL _ (fun _ => rfl) (fun h => absurd hall h)
    ·exact ⟨0,[],7,by simp,etimes_gen hx hy hL _ (fun h => absurd h hall) (fun _ => e0),rtimes_gen hx hy hL _ (fun h => absurd h hall) (fun _ => e0)⟩
   ·refine ⟨0,[],7,by simp,?_,?_⟩
    ·rw [e0];exact etimes_large hx hy (by omega)
    ·rw [e0];exact rtimes_large hx hy (by omega)
  ·rw [ea] at g1 g2
   generalize etaErr lb ys = e at *
   simp only [i64,bl] at *
   refine ⟨0,[],e,by simp,?_,?_⟩
   ·
    refine good_of_lwp mix Tryz.func47 rfl (by decide) (nt := 65) rfl (rs := [.cell 4 24,.tmp 5]) rfl (nle rfl) ?_
    (repeat (first|apply zO (by decide +kernel)|apply zP (by decide +kernel)|(apply zS;(case h=>constructor<;>decide))|((first|apply l_go rfl|apply c_dec|apply zT rfl (by decide) rfl);(case hs=>(simp (disch := first|omega|exact kD rfl|exact kX rfl) only [smY,simprocAttr,bl,i64,smE,shp,ec_nil,undefL,undef];exact rfl));first|refine c_bt ?_|refine c_bf ?_|refine zq ?_|(case hg=>assumption))))
    ((first|apply g_ret|apply g_end);case hres => (simp only [smR];simp (disch := first|omega|exact kD rfl|exact kX rfl) only [smY,simprocAttr,bl,i64,smE,shp,ec_nil,undefL,undef];exact rfl))
    simp (disch := first|omega|exact kD rfl|exact kX rfl) only [smY,simprocAttr,bl,i64,smE,shp,ec_nil,undefL,undef]
   ·
    refine good_of_lwp mix Tryz.func50 rfl (by decide) (nt := 79) rfl (rs := [.cell 4 24,.tmp 5]) rfl (nle rfl) ?_
    (repeat (first|apply zO (by decide +kernel)|apply zP (by decide +kernel)|(apply zS;(case h=>constructor<;>decide))|((first|apply l_go rfl|apply c_dec|apply zT rfl (by decide) rfl);(case hs=>(simp (disch := first|omega|exact kD rfl|exact kX rfl) only [smY,simprocAttr,bl,i64,smE,shp,ec_nil,undefL,undef];exact rfl));first|refine c_bt ?_|refine c_bf ?_|refine zq ?_|(case hg=>assumption))))
    ((first|apply g_ret|apply g_end);case hres => (simp only [smR];simp (disch := first|omega|exact kD rfl|exact kX rfl) only [smY,simprocAttr,bl,i64,smE,shp,ec_nil,undefL,undef];exact rfl))
    simp (disch := first|omega|exact kD rfl|exact kX rfl) only [smY,simprocAttr,bl,i64,smE,shp,ec_nil,undefL,undef]
 ·generalize etaErr la xs = e at *
  simp only [i64,bl] at *
  refine ⟨0,[],e,by simp,?_,?_⟩
  ·
   refine good_of_lwp mix Tryz.func47 rfl (by decide) (nt := 65) rfl (rs := [.cell 4 24,.tmp 5]) rfl (nle rfl) ?_
   (repeat (first|apply zO (by decide +kernel)|apply zP (by decide +kernel)|(apply zS;(case h=>constructor<;>decide))|((first|apply l_go rfl|apply c_dec|apply zT rfl (by decide) rfl);(case hs=>(simp (disch := first|omega|exact kD rfl|exact kX rfl) only [smY,simprocAttr,bl,i64,smE,shp,ec_nil,undefL,undef];exact rfl));first|refine c_bt ?_|refine c_bf ?_|refine zq ?_|(case hg=>assumption))))
   ((first|apply g_ret|apply g_end);case hres => (simp only [smR];simp (disch := first|omega|exact kD rfl|exact kX rfl) only [smY,simprocAttr,bl,i64,smE,shp,ec_nil,undefL,undef];exact rfl))
   simp (disch := first|omega|exact kD rfl|exact kX rfl) only [smY,simprocAttr,bl,i64,smE,shp,ec_nil,undefL,undef]
  ·
   refine good_of_lwp mix Tryz.func50 rfl (by decide) (nt := 79) rfl (rs := [.cell 4 24,.tmp 5]) rfl (nle rfl) ?_
   (repeat (first|apply zO (by decide +kernel)|apply zP (by decide +kernel)|(apply zS;(case h=>constructor<;>decide))|((first|apply l_go rfl|apply c_dec|apply zT rfl (by decide) rfl);(case hs=>(simp (disch := first|omega|exact kD rfl|exact kX rfl) only [smY,simprocAttr,bl,i64,smE,shp,ec_nil,undefL,undef];exact rfl));first|refine c_bt ?_|refine c_bf ?_|refine zq ?_|(case hg=>assumption))))
   ((first|apply g_ret|apply g_end);case hres => (simp only [smR];simp (disch := first|omega|exact kD rfl|exact kX rfl) only [smY,simprocAttr,bl,i64,smE,shp,ec_nil,undefL,undef];exact rfl))
   simp (disch := first|omega|exact kD rfl|exact kX rfl) only [smY,simprocAttr,bl,i64,smE,shp,ec_nil,undefL,undef]
end Go.Proofs.YtbajpjjbaffnnaaGreat