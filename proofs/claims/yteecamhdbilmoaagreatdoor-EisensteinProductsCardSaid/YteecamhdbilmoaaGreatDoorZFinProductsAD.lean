/- Contracts of functions of the program, and what proves them (texts: NumQ M1 L9 ClsD). -/
import Derived.Test.YteecamhdbilmoaaGreatDoorZAO
import Derived.Test.YteecamhdbilmoaaGreatDoorZFinProductsAC
set_option linter.all false
namespace Go.Num
def eT4 : List Int := [1,240,2160,6720,17520,30240,60480,82560,140400,181680,272160,319680,490560,527520,743040,846720,1123440,1179360,1635120,1646400,2207520,2311680,2877120,2920320,3931200,3780240,4747680,4905600,6026880,5853600,7620480,7150080,8987760,8951040,10614240,10402560,13262640,12156960,14817600,14770560]
def eT6 : List Int := [1,-504,-16632,-122976,-532728,-1575504,-4058208,-8471232,-17047800,-29883672,-51991632,-81170208,-129985632,-187132176,-279550656,-384422976,-545530104,-715608432,-986161176,-1247954400,-1665307728,-2066980608,-2678616864,-3243917376,-4159663200,-4923450504,-6175361808,-7261732800,-8954092224,-10337619600,-12685958208,-14429092608,-17456963832,-19805530752,-23615078256,-26481071232,-31587041304,-34949354832,-41182495200,-45660250944]
def eT8 : List Int := [1,480,61920,1050240,7926240,37500480,135480960,395301120,1014559200,2296875360,4837561920,9353842560,17342613120,30119288640,50993844480,82051050240,129863578080,196962563520,296296921440,429058435200,619245426240,864918850560,1206645690240,1634316215040,2219855529600,2929725000480,3885388234560,5023266412800,6527607394560,8279940628800,10584585480960,13206054773760,16622537994720,20466207521280,25408170694080,30883295301120,37928302819680,45567301024320,55348538140800,65901003544320]
def eT10 : List Int := [1,-264,-135432,-5196576,-69341448,-515625264,-2665843488,-10653352512,-35502821640,-102284205672,-264515760432,-622498190688,-1364917062432,-2799587834736,-5465169838656,-10149567696576,-18177444679944,-31307199395472,-52471797509736,-85189552213920,-135432584966448,-209700590846208,-319341571822944,-475504302626496,-698837541161760,-1007080593750264,-1436188559219568,-2013260020242240,-2798177610744384,-3829886537629680,-5206728228343488,-6980060250417408,-9306851676131592,-12253254385502592,-16060593289877136,-20807339778352512,-26865662609190504,-34309899305900592,-43702240285740960,-55107086938943424]
def eT14 : List Int := [1,-24,-196632,-38263776,-1610809368,-29296875024,-313495116768,-2325336249792,-13195750342680,-61004818143672,-240029297071632,-828545091454368,-2568152034827232,-7269002558214096,-19051479894545856,-46708710975763776,-108099586807234584,-237709872789742512,-499812475051104696,-1009271603094169440,-1966320030907684368,-3707339391113380608,-6788269934285637024,-12096872686475217216,-21038301469342948320,-35762786894531250024,-59554937959448088528,-97261384677273574080,-156069725621455902144,-246255089111006452560,-382684469024432616768,-586021111138681022208,-885551815124865712152,-1320969324387893807232,-1947556987766360400816,-2838545229122211249792,-4094463856623467813304,-5845661381185951329552,-8268962244150530221920,-11589145234622130391104]
def eTx (k : Nat) : List Int := bif Nat.beq k 4 then eT4 else bif Nat.beq k 6 then eT6 else bif Nat.beq k 8 then eT8 else bif Nat.beq k 10 then eT10 else eT14
def eI (k m : Nat) : Int := (eTx k).getD m 0
def chkE (k m : Nat) : Bool := decide (eN k m = ((eI k m : Int) : Rat)) && !(eI k m == 0) && Nat.ble (eI k m).natAbs (2 ^ 100)
theorem chkE4 : ((List.range 40).all (chkE 4)) = true := by decide +kernel
theorem chkE6 : ((List.range 40).all (chkE 6)) = true := by decide +kernel
theorem chkE8 : ((List.range 40).all (chkE 8)) = true := by decide +kernel
theorem chkE10 : ((List.range 40).all (chkE 10)) = true := by decide +kernel
theorem chkE14 : ((List.range 40).all (chkE 14)) = true := by decide +kernel
theorem eI_ok {k m : Nat} (hk : k = 4 ∨ k = 6 ∨ k = 8 ∨ k = 10 ∨ k = 14) (hm : m < 40) : eN k m = ((eI k m : Int) : Rat) ∧ eI k m ≠ 0 ∧ (eI k m).natAbs ≤ 2 ^ 100 := by
 have h : chkE k m = true := by
  rcases hk with rfl | rfl | rfl | rfl | rfl
  ·exact List.all_eq_true.1 chkE4 m (List.mem_range.2 hm)
  ·exact List.all_eq_true.1 chkE6 m (List.mem_range.2 hm)
  ·exact List.all_eq_true.1 chkE8 m (List.mem_range.2 hm)
  ·exact List.all_eq_true.1 chkE10 m (List.mem_range.2 hm)
  ·exact List.all_eq_true.1 chkE14 m (List.mem_range.2 hm)
 unfold chkE at h
 simp only [Bool.and_eq_true,decide_eq_true_eq,Bool.not_eq_true',beq_eq_false_iff_ne,ne_eq] at h
 exact ⟨h.1.1,h.1.2,Nat.le_of_ble_eq_true h.2⟩
def cvP (x y : Nat → Int) (m : Nat) : Nat → Int
 | 0 => 0
 | i + 1 => cvP x y m i + x i * y (m - i)
theorem cvP_bd {x y : Nat → Int} {m : Nat} (hm : m < 40) (hx : ∀ i,i < 40 → (x i).natAbs ≤ 2 ^ 100) (hy : ∀ i,i < 40 → (y i).natAbs ≤ 2 ^ 100) : ∀ i,i ≤ m + 1 → (cvP x y m i).natAbs ≤ i * 2 ^ 200
 | 0,_ => by simp [cvP]
 | i + 1,h => by
   have ih := cvP_bd hm hx hy i (by omega)
   have h1 : (x i * y (m - i)).natAbs ≤ 2 ^ 100 * 2 ^ 100 := by
     rw [Int.natAbs_mul]
     exact Nat.mul_le_mul (hx i (by omega)) (hy (m - i) (by omega))
   rw [cvP,Nat.succ_mul]
   exact Nat.le_trans (Int.natAbs_add_le _ _) (Nat.add_le_add ih (Nat.le_trans h1 (by decide +kernel)))
def chkC (k l r m : Nat) : Bool := decide (cvP (eI k) (eI l) m (m + 1) = eI r m)
theorem cv448 : ((List.range 40).all (chkC 4 4 8)) = true := by decide +kernel
theorem cv4610 : ((List.range 40).all (chkC 4 6 10)) = true := by decide +kernel
theorem cv41014 : ((List.range 40).all (chkC 4 10 14)) = true := by decide +kernel
theorem cv6814 : ((List.range 40).all (chkC 6 8 14)) = true := by decide +kernel
theorem cv_ok {k l r : Nat} (h : ((List.range 40).all (chkC k l r)) = true) {m : Nat} (hm : m < 40) : cvP (eI k) (eI l) m (m + 1) = eI r m := of_decide_eq_true (List.all_eq_true.1 h m (List.mem_range.2 hm))
end Go.Num
namespace Go.Proofs.YteecamhdbilmoaaGreatDoor
open Go Go.Lg Go.Num
set_option maxRecDepth 100000
set_option maxHeartbeats 8000000
attribute [local irreducible] Go.Lg.lrun Go.Lg.lwp Go.Lg.exThen Go.Lg.exBlk Go.Lg.keep Go.Lg.goodPost sg mg oc mC twP tw bq kr chi eK gB eC eF eN cSer op oqp cvP eI
theorem lq_of_abs {z : Int} (h : z.natAbs ≤ 41 * 2 ^ 200) : len z ≤ 10 := by
 refine len_at (e := 10) ?_
 exact Nat.lt_of_le_of_lt h (by decide +kernel)
theorem cvP_zero (x y : Nat → Int) (m : Nat) : cvP x y m 0 = 0 := by unfold cvP;rfl
theorem cvP_succ (x y : Nat → Int) (m i : Nat) : cvP x y m (i + 1) = cvP x y m i + x i * y (m - i) := by conv => lhs;unfold cvP
theorem smul_good (x y z : Nat → Int) (N : Nat) (hN : 1 ≤ N) (hN2 : N ≤ 40) (hx : ∀ i, i < 40 → x i ≠ 0 ∧ (x i).natAbs ≤ 2 ^ 100) (hy : ∀ i, i < 40 → y i ≠ 0 ∧ (y i).natAbs ≤ 2 ^ 100) (hz : ∀ m, m < 40 → cvP x y m (m + 1) = z m) (z0 : z 0 ≠ 0) :
  PureGood Tryz.prog 35 [.agg [i64 0,.sl N (qc (aP (fun i => ((x i : Int) : Rat)) N))],.agg [i64 0,.sl N (qc (aP (fun i => ((y i : Int) : Rat)) N))]] (.tup [.agg [i64 0,.sl N (qc (aP (fun i => ((z i : Int) : Rat)) N))],i64 0]) := by
 have bx : ∀ i,i < 40 → lq ((x i : Int) : Rat) ≤ 11 := fun i hi => by
  rw [lq_int]
  have := lq_of_abs (z := x i) (Nat.le_trans (hx i hi).2 (by decide +kernel))
  omega
 have by' : ∀ i,i < 40 → lq ((y i : Int) : Rat) ≤ 11 := fun i hi => by
  rw [lq_int]
  have := lq_of_abs (z := y i) (Nat.le_trans (hy i hi).2 (by decide +kernel))
  omega
 have bc : ∀ m,m < 40 → ∀ i,i ≤ m + 1 → lq ((cvP x y m i : Int) : Rat) ≤ 11 := fun m hm i hi => by
  rw [lq_int]
  have h1 := cvP_bd hm (fun i hi => (hx i hi).2) (fun i hi => (hy i hi).2) i hi
  have h2 := lq_of_abs (z := cvP x y m i) (Nat.le_trans h1 (Nat.mul_le_mul_right _ (by omega)))
  omega
 have nz : ∀ {w : Int},w ≠ 0 → ((w : Int) : Rat) ≠ 0 := fun h e => h (Rat.intCast_inj.1 (e.trans Rat.intCast_zero.symm))
 have v1 := svalid_all 0 N (qc (aP (fun i => ((x i : Int) : Rat)) N)) (by omega) (by omega)
 have v2 := svalid_all 0 N (qc (aP (fun i => ((y i : Int) : Rat)) N)) (by omega) (by omega)
 have t1 := tidy_all 0 (fun i => some ((x i : Int) : Rat)) (fun i => ((x i : Int) : Rat)) N (fun i hi => rfl) (by omega) (by omega) (fun i hi => Nat.le_trans (bx i (by omega)) (by omega))
 have t2 := tidy_all 0 (fun i => some ((y i : Int) : Rat)) (fun i => ((y i : Int) : Rat)) N (fun i hi => rfl) (by omega) (by omega) (fun i hi => Nat.le_trans (by' i (by omega)) (by omega))
 rw [aP_oP,cSer_zero (fun _ => nz (hx 0 (by omega)).1)] at t1
 rw [aP_oP,cSer_zero (fun _ => nz (hy 0 (by omega)).1)] at t2
 have gb := build_gen 0 (fun i => ((z i : Int) : Rat)) N (by omega) hN (by omega) (nz z0) (fun i hi => by
  rw [← hz i (by omega)]
  exact Nat.le_trans (bc i (by omega) (i + 1) (by omega)) (by omega))
 have hlx := aP_len (fun i => ((x i : Int) : Rat)) N
 have hly := aP_len (fun i => ((y i : Int) : Rat)) N
 have hlz := aP_len (fun i => ((z i : Int) : Rat)) N
 have hmn : (if (1000 : Int) < (if (N : Int) < (N : Int) then (N : Int) else (N : Int)) then (1000 : Int) else (if (N : Int) < (N : Int) then (N : Int) else (N : Int))) = (N : Int) := by
  rw [if_neg (show ¬ ((N : Int) < (N : Int)) by omega),if_neg (by omega)]
 have hmx : (if (N : Int) > 0 then (N : Int) else 0) = (N : Int) := if_pos (by omega)
 clear z0
 simp only [i64,bl] at v1 v2 t1 t2 gb ⊢
 refine good_of_lwp mix Tryz.func35 rfl (by decide) (nt := 95) rfl (rs := [.cell 4 26,.tmp 5]) rfl (nle rfl) ?_
 (repeat (first|apply zO (by decide +kernel)|apply zP (by decide +kernel)|(apply zS;(case h=>constructor<;>decide))|((first|apply l_go rfl|apply c_dec|apply zT rfl (by decide) rfl);(case hs=>(simp (disch := first|omega|exact kD rfl|exact kX rfl) only [smY,simprocAttr,bl,i64,smT,smO,smM,hmn,hmx,Int.add_zero,Int.sub_zero];exact rfl));first|refine c_bt ?_|refine c_bf ?_|refine zq ?_|(case hg=>assumption))))
 refine w_loop (α := {m : Nat // m ≤ N}) (fun m => st 95 (lk [(2,.ptr 0 0),(3,.ptr 1 0),(4,.ptr 2 0),(6,i64 0),(8,.own 3 0 m.1 4),(42,i64 N),(43,i64 m.1)]) (lkH [(0,⟨26,[i64 0,.sl N (qc (aP (fun i => ((x i : Int) : Rat)) N))],false⟩),(1,⟨26,[i64 0,.sl N (qc (aP (fun i => ((y i : Int) : Rat)) N))],false⟩),(2,⟨26,[i64 0,nilL],false⟩),(3,⟨45,mC (fun i => ((z i : Int) : Rat)) N m.1,false⟩)]) 4) (fun m => N - m.1) ⟨0,by omega⟩ ?_ ?_
 ·-- X: bl,i64,smT,smO,smM,mC_zero (fun i => ((z i : Int) : Rat))
  (refine Sub.heapL [0,1,2,36] rfl (by decide) ?_ (by simp only [smL];decide) ?_ ?_;all_goals (first|(simp only [plainC,smF,dg,renL,renLs,simprocAttr,bl,i64,smT,smO,smM,hmn,hmx,Int.add_zero,Int.sub_zero];done) | (simp only [smF,dg,renL,renLs,simprocAttr,bl,i64,smT,smO,smM,hmn,hmx,Int.add_zero,Int.sub_zero];(repeat' apply And.intro);all_goals rfl) | (simp only [smF,dg,renL,renLs,simprocAttr,bl,i64,smT,smO,smM,hmn,hmx,Int.add_zero,Int.sub_zero]) | skip))
  all_goals (first | done | ((repeat' apply And.intro);all_goals (first | trivial | rfl | (rw [mC_zero (fun i => ((z i : Int) : Rat))]))))
 ·-- X: bl,i64,smT,smO,smM
  rintro ⟨m,hm⟩
  simp only [st]
  have hlm := aP_len (fun i => ((z i : Int) : Rat)) m
  by_cases hlt : m < N
  ·have r0 := qof_good 0 (by omega)
   rw [show (0 : Int) = cvP x y m 0 from (cvP_zero x y m).symm] at r0
   have r0' : PureGood Tryz.prog 44 [.lit (.int .i64 0)] (encQ ((cvP x y m 0 : Int) : Rat)) := by rw [cvP_zero] at r0 ⊢;exact r0
   clear r0
   simp only [encQ_sm] at r0'
   (repeat (first|apply zO (by decide +kernel)|apply zP (by decide +kernel)|(apply zS;(case h=>constructor<;>decide))|((first|apply l_go rfl|apply c_dec|apply zT rfl (by decide) rfl);(case hs=>(simp (disch := first|omega|exact kD rfl|exact kX rfl) only [smY,simprocAttr,bl,i64,smT,smO,smM,hmn,hmx,Int.add_zero,Int.sub_zero];exact rfl));first|refine c_bt ?_|refine c_bf ?_|refine zq ?_|(case hg=>assumption))))
   refine w_loop (α := {i : Nat // i ≤ m + 1}) (fun i => st 95 (lk [(2,.ptr 0 0),(3,.ptr 1 0),(4,.ptr 2 0),(6,i64 0),(8,.own 3 0 m 4),(9,i64 m),(10,.ptr 4 0),(11,i64 i.1),(42,i64 N),(43,i64 m)]) (lkH [(0,⟨26,[i64 0,.sl N (qc (aP (fun i => ((x i : Int) : Rat)) N))],false⟩),(1,⟨26,[i64 0,.sl N (qc (aP (fun i => ((y i : Int) : Rat)) N))],false⟩),(2,⟨26,[i64 0,nilL],false⟩),(3,⟨45,mC (fun i => ((z i : Int) : Rat)) N m,false⟩),(4,⟨45,[sg (((cvP x y m i.1 : Int) : Rat)).num,mg (((cvP x y m i.1 : Int) : Rat)).num,sg ((((cvP x y m i.1 : Int) : Rat)).den : Int),mg ((((cvP x y m i.1 : Int) : Rat)).den : Int)],false⟩)]) 5) (fun i => m + 1 - i.1) ⟨0,by omega⟩ ?_ ?_
   ·(refine Sub.heapL [0,1,2,3,8] rfl (by decide) ?_ (by simp only [smL];decide) ?_ ?_;all_goals (first|(simp only [plainC,smF,dg,renL,renLs,simprocAttr,bl,i64,smT,smO,smM,hmn,hmx,Int.add_zero,Int.sub_zero];done) | (simp only [smF,dg,renL,renLs,simprocAttr,bl,i64,smT,smO,smM,hmn,hmx,Int.add_zero,Int.sub_zero];(repeat' apply And.intro);all_goals rfl) | (simp only [smF,dg,renL,renLs,simprocAttr,bl,i64,smT,smO,smM,hmn,hmx,Int.add_zero,Int.sub_zero]) | skip))
    all_goals (first | done | ((repeat' apply And.intro);all_goals (first | trivial | rfl)))
   ·rintro ⟨i,hi⟩
    simp only [st]
    by_cases hil : i ≤ m
    ·have e1 : (aP (fun i => ((x i : Int) : Rat)) N).getD i 0 = ((x i : Int) : Rat) := aP_get (by omega)
     have e2 : (aP (fun i => ((y i : Int) : Rat)) N).getD (m - i) 0 = ((y (m - i) : Int) : Rat) := aP_get (by omega)
     have hc : ((m : Int) - (i : Int)).toNat = m - i := by omega
     have b1 := bx i (by omega)
     have b2 := by' (m - i) (by omega)
     have b3 := bc m (by omega) i (by omega)
     have s1 := qsign_good ((x i : Int) : Rat) (by omega)
     have s2 := qsign_good ((y (m - i) : Int) : Rat) (by omega)
     have n1 : (((x i : Int) : Rat)).num.sign ≠ 0 := fun e => nz (hx i (by omega)).1 (Rat.num_eq_zero.1 (Int.sign_eq_zero_iff_zero.1 e))
     have n2 : (((y (m - i) : Int) : Rat)).num.sign ≠ 0 := fun e => nz (hy (m - i) (by omega)).1 (Rat.num_eq_zero.1 (Int.sign_eq_zero_iff_zero.1 e))
     have r1 := qmul_good ((x i : Int) : Rat) ((y (m - i) : Int) : Rat) (by omega) (by omega)
     have l1 := lq_mul ((x i : Int) : Rat) ((y (m - i) : Int) : Rat)
     have r2 := qadd_good ((cvP x y m i : Int) : Rat) (((x i : Int) : Rat) * ((y (m - i) : Int) : Rat)) (by omega) (by omega)
     have es : ((cvP x y m i : Int) : Rat) + ((x i : Int) : Rat) * ((y (m - i) : Int) : Rat) = ((cvP x y m (i + 1) : Int) : Rat) := by rw [cvP_succ,Rat.intCast_add,Rat.intCast_mul]
     rw [es] at r2
     clear es
     generalize (((x i : Int) : Rat)).num.sign = sg1 at *
     generalize (((y (m - i) : Int) : Rat)).num.sign = sg2 at *
     generalize ((x i : Int) : Rat) * ((y (m - i) : Int) : Rat) = pr at *
     generalize ((x i : Int) : Rat) = xi at *
     generalize ((y (m - i) : Int) : Rat) = yi at *
     simp only [encQ_sm,i64] at s1 s2 r1 r2
     (repeat (first|apply zO (by decide +kernel)|apply zP (by decide +kernel)|(apply zS;(case h=>constructor<;>decide))|((first|apply l_go rfl|apply c_dec|apply zT rfl (by decide) rfl);(case hs=>(simp (disch := first|omega|exact kD rfl|exact kX rfl) only [smY,simprocAttr,bl,i64,smT,smO,smM,e1,e2,hc];exact rfl));first|refine c_bt ?_|refine c_bf ?_|refine zq ?_|(case hg=>assumption))))
     refine ⟨⟨i + 1,by omega⟩,?_,by simp only;omega⟩
     (refine Sub.heapL [0,1,2,3,4] rfl (by decide) ?_ (by simp only [smL];decide) ?_ ?_;all_goals (first|(simp only [plainC,smF,dg,renL,renLs,simprocAttr,bl,i64,smT,smO,smM];done) | (simp only [smF,dg,renL,renLs,simprocAttr,bl,i64,smT,smO,smM];(repeat' apply And.intro);all_goals rfl) | (simp only [smF,dg,renL,renLs,simprocAttr,bl,i64,smT,smO,smM]) | skip))
     all_goals (first | done | ((repeat' apply And.intro);all_goals (first | trivial | rfl)))
    ·obtain rfl : i = m + 1 := by omega
     have hzm : (fun i => ((z i : Int) : Rat)) m = ((cvP x y m (m + 1) : Int) : Rat) := by rw [hz m (by omega)]
     generalize ((cvP x y m (m + 1) : Int) : Rat) = cv at *
     (repeat (first|apply zO (by decide +kernel)|apply zP (by decide +kernel)|(apply zS;(case h=>constructor<;>decide))|((first|apply l_go rfl|apply c_dec|apply zT rfl (by decide) rfl);(case hs=>(simp (disch := first|omega|exact kD rfl|exact kX rfl) only [smY,simprocAttr,bl,i64,smT,smO,smM];exact rfl));first|refine c_bt ?_|refine c_bf ?_|refine zq ?_|(case hg=>assumption))))
     refine ⟨⟨m + 1,by omega⟩,?_,by simp only;omega⟩
     (refine Sub.heapL [0,1,2,11] rfl (by decide) ?_ (by simp only [smL];decide) ?_ ?_;all_goals (first|(simp only [plainC,smF,dg,renL,renLs,simprocAttr,bl,i64,smT,smO,smM];done) | (simp only [smF,dg,renL,renLs,simprocAttr,bl,i64,smT,smO,smM];(repeat' apply And.intro);all_goals rfl) | (simp only [smF,dg,renL,renLs,simprocAttr,bl,i64,smT,smO,smM]) | skip))
     all_goals (first | done | ((repeat' apply And.intro);all_goals (first | trivial | rfl | (rw [mC_succ (a := fun i => ((z i : Int) : Rat)) (N := N) (i := m) hzm]))))
  ·obtain rfl : m = N := by omega
   (repeat (first|apply zO (by decide +kernel)|apply zP (by decide +kernel)|(apply zS;(case h=>constructor<;>decide))|((first|apply l_go rfl|apply c_dec|apply zT rfl (by decide) rfl);(case hs=>(simp (disch := first|omega|exact kD rfl|exact kX rfl) only [smY,simprocAttr,bl,i64,smT,smO,smM];exact rfl));first|refine c_bt ?_|refine c_bf ?_|refine zq ?_|(case hg=>assumption))))
   ((first|apply g_ret|apply g_end);case hres => (simp only [smR];simp (disch := first|omega|exact kD rfl|exact kX rfl) only [smY,simprocAttr,bl,i64,smT,smO,smM];exact rfl))
   simp (disch := first|omega|exact kD rfl|exact kX rfl) only [smY,simprocAttr,bl,i64,smT,smO,smM]
end Go.Proofs.YteecamhdbilmoaaGreatDoor
namespace Go.Proofs.YteecamhdbilmoaaGreatDoor
open Go Go.Lg Go.Num
set_option maxRecDepth 100000
set_option maxHeartbeats 16000000
attribute [local irreducible] Go.Lg.lrun Go.Lg.lwp Go.Lg.exThen Go.Lg.exBlk Go.Lg.keep Go.Lg.goodPost sg mg oc mC twP tw bq kr chi eK gB eC eF eN cSer op oqp cvP eI
def isE (k : Nat) : Prop := k = 4 ∨ k = 6 ∨ k = 8 ∨ k = 10 ∨ k = 14
def eS (k p : Nat) : List Rat := aP (fun i => ((eI k i : Int) : Rat)) p
theorem eS_len (k p : Nat) : (eS k p).length = p := aP_len _ _
theorem norm_e {k p : Nat} (hk : isE k) (hp1 : 1 ≤ p) (hp : p ≤ 40) : PureGood Tryz.prog 13 [i64 k,i64 p] (.tup [.agg [i64 0,.sl p (qc (eS k p))],i64 0]) := by
 have h := Normalized_ok k p (by rcases hk with rfl | rfl | rfl | rfl | rfl <;> omega) (by rcases hk with rfl | rfl | rfl | rfl | rfl <;> omega) (by rcases hk with rfl | rfl | rfl | rfl | rfl <;> rfl) hp1 hp
 rw [show aP (eN k) p = eS k p from aP_congr fun j hj => (eI_ok hk (by omega)).1] at h
 exact h
theorem mul_e {k l r p : Nat} (hk : isE k) (hl : isE l) (hr : isE r) (hp1 : 1 ≤ p) (hp : p ≤ 40) (hc : ((List.range 40).all (chkC k l r)) = true) : PureGood Tryz.prog 35 [.agg [i64 0,.sl p (qc (eS k p))],.agg [i64 0,.sl p (qc (eS l p))]] (.tup [.agg [i64 0,.sl p (qc (eS r p))],i64 0]) :=
 smul_good (eI k) (eI l) (eI r) p hp1 hp (fun i hi => (eI_ok hk hi).2) (fun i hi => (eI_ok hl hi).2) (fun m hm => cv_ok hc hm) (eI_ok hr (by omega)).2.1
theorem same_e {r p : Nat} (hr : isE r) (hp : p ≤ 40) : PureGood Tryz.prog 36 [.agg [i64 0,.sl p (qc (eS r p))],.agg [i64 0,.sl p (qc (eS r p))]] (.lit (.bool true)) := by
 have h := sameSeries_good 0 (by omega) (eS r p) (by rw [eS_len];omega) (fun q hq => by
  simp only [eS,aP,List.mem_map] at hq
  obtain ⟨i,hi,rfl⟩ := hq
  have := List.mem_range.1 hi
  rw [lq_int]
  have h1 := (eI_ok hr (show i < 40 by omega)).2.2
  have := lq_of_abs (z := eI r i) (Nat.le_trans h1 (by decide +kernel))
  omega)
 rwa [eS_len] at h
theorem lawProducts_good (prec : Int) (rp : -9223372036854775808 ≤ prec ∧ prec ≤ 9223372036854775807) : PureGood Tryz.prog 8 [i64 prec] (.lit (.bool true)) := by
 have ha := awake_good
 by_cases c1 : prec < 1
 ·simp only [i64,bl] at *
  refine good_of_lwp mix Tryz.func8 rfl (by decide) (nt := 112) rfl (rs := [.tmp 2]) rfl (nle rfl) ?_
  (repeat (first|apply zO (by decide +kernel)|apply zP (by decide +kernel)|(apply zS;(case h=>constructor<;>decide))|((first|apply l_go rfl|apply c_dec|apply zT rfl (by decide) rfl);(case hs=>(simp (disch := first|omega|exact kD rfl|exact kX rfl) only [smY,simprocAttr,bl,i64,smT];exact rfl));first|refine c_bt ?_|refine c_bf ?_|refine zq ?_|(case hg=>assumption))))
  ((first|apply g_ret|apply g_end);case hres => (simp only [smR];simp (disch := first|omega|exact kD rfl|exact kX rfl) only [smY,simprocAttr,bl,i64,smT];exact rfl))
  simp (disch := first|omega|exact kD rfl|exact kX rfl) only [smY,simprocAttr,bl,i64,smT]
 by_cases c2 : 40 < prec
 ·simp only [i64,bl] at *
  refine good_of_lwp mix Tryz.func8 rfl (by decide) (nt := 112) rfl (rs := [.tmp 2]) rfl (nle rfl) ?_
  (repeat (first|apply zO (by decide +kernel)|apply zP (by decide +kernel)|(apply zS;(case h=>constructor<;>decide))|((first|apply l_go rfl|apply c_dec|apply zT rfl (by decide) rfl);(case hs=>(simp (disch := first|omega|exact kD rfl|exact kX rfl) only [smY,simprocAttr,bl,i64,smT];exact rfl));first|refine c_bt ?_|refine c_bf ?_|refine zq ?_|(case hg=>assumption))))
  ((first|apply g_ret|apply g_end);case hres => (simp only [smR];simp (disch := first|omega|exact kD rfl|exact kX rfl) only [smY,simprocAttr,bl,i64,smT];exact rfl))
  simp (disch := first|omega|exact kD rfl|exact kX rfl) only [smY,simprocAttr,bl,i64,smT]
 obtain ⟨p,rfl⟩ : ∃ n : Nat,prec = n := ⟨prec.toNat,by omega⟩
 have p1 : 1 ≤ p := by omega
 have p2 : p ≤ 40 := by omega
 have i4 : isE 4 := .inl rfl
 have i6 : isE 6 := .inr (.inl rfl)
 have i8 : isE 8 := .inr (.inr (.inl rfl))
 have i10 : isE 10 := .inr (.inr (.inr (.inl rfl)))
 have i14 : isE 14 := .inr (.inr (.inr (.inr rfl)))
 have n4 := norm_e i4 p1 p2
 have n6 := norm_e i6 p1 p2
 have n8 := norm_e i8 p1 p2
 have n10 := norm_e i10 p1 p2
 have n12 := Normalized_ok 12 p (by omega) (by omega) rfl p1 p2
 have n14 := norm_e i14 p1 p2
 have m1 := mul_e i4 i4 i8 p1 p2 cv448
 have m2 := mul_e i4 i6 i10 p1 p2 cv4610
 have m3 := mul_e i4 i10 i14 p1 p2 cv41014
 have m4 := mul_e i6 i8 i14 p1 p2 cv6814
 have s1 := same_e i8 p2
 have s2 := same_e i10 p2
 have s3 := same_e i14 p2
 have l4 := eS_len 4 p
 have l6 := eS_len 6 p
 have l8 := eS_len 8 p
 have l10 := eS_len 10 p
 have l14 := eS_len 14 p
 have l12 := aP_len (eN 12) p
 generalize eS 4 p = L4 at *
 generalize eS 6 p = L6 at *
 generalize eS 8 p = L8 at *
 generalize eS 10 p = L10 at *
 generalize eS 14 p = L14 at *
 generalize aP (eN 12) p = L12 at *
 rw [show ((4 : Nat) : Int) = 4 from rfl] at n4
 rw [show ((6 : Nat) : Int) = 6 from rfl] at n6
 rw [show ((8 : Nat) : Int) = 8 from rfl] at n8
 rw [show ((10 : Nat) : Int) = 10 from rfl] at n10
 rw [show ((12 : Nat) : Int) = 12 from rfl] at n12
 rw [show ((14 : Nat) : Int) = 14 from rfl] at n14
 simp only [i64,bl] at *
 refine good_of_lwp mix Tryz.func8 rfl (by decide) (nt := 112) rfl (rs := [.tmp 2]) rfl (nle rfl) ?_
 (repeat (first|apply zO (by decide +kernel)|apply zP (by decide +kernel)|(apply zS;(case h=>constructor<;>decide))|((first|apply l_go rfl|apply c_dec|apply zT rfl (by decide) rfl);(case hs=>(simp (disch := first|omega|exact kD rfl|exact kX rfl) only [smY,simprocAttr,bl,i64,smT];exact rfl));first|refine c_bt ?_|refine c_bf ?_|refine zq ?_|(case hg=>assumption))))
 refine loop_more (s' := ?_) (fun Φ hΦ => ?_) ?_
 rotate_left
 ·(repeat (first|apply zO (by decide +kernel)|apply zP (by decide +kernel)|(apply zS;(case h=>constructor<;>decide))|((first|apply l_go rfl|apply c_dec|apply zT rfl (by decide) rfl);(case hs=>(simp (disch := first|omega|exact kD rfl|exact kX rfl) only [smY,simprocAttr,bl,i64,smT];exact rfl));first|refine c_bt ?_|refine c_bf ?_|refine zq ?_|(case hg=>assumption))))
  exact hΦ
 refine loop_more (s' := ?_) (fun Φ hΦ => ?_) ?_
 rotate_left
 ·(repeat (first|apply zO (by decide +kernel)|apply zP (by decide +kernel)|(apply zS;(case h=>constructor<;>decide))|((first|apply l_go rfl|apply c_dec|apply zT rfl (by decide) rfl);(case hs=>(simp (disch := first|omega|exact kD rfl|exact kX rfl) only [smY,simprocAttr,bl,i64,smT];exact rfl));first|refine c_bt ?_|refine c_bf ?_|refine zq ?_|(case hg=>assumption))))
  exact hΦ
 refine loop_more (s' := ?_) (fun Φ hΦ => ?_) ?_
 rotate_left
 ·(repeat (first|apply zO (by decide +kernel)|apply zP (by decide +kernel)|(apply zS;(case h=>constructor<;>decide))|((first|apply l_go rfl|apply c_dec|apply zT rfl (by decide) rfl);(case hs=>(simp (disch := first|omega|exact kD rfl|exact kX rfl) only [smY,simprocAttr,bl,i64,smT];exact rfl));first|refine c_bt ?_|refine c_bf ?_|refine zq ?_|(case hg=>assumption))))
  exact hΦ
 refine loop_more (s' := ?_) (fun Φ hΦ => ?_) ?_
 rotate_left
 ·(repeat (first|apply zO (by decide +kernel)|apply zP (by decide +kernel)|(apply zS;(case h=>constructor<;>decide))|((first|apply l_go rfl|apply c_dec|apply zT rfl (by decide) rfl);(case hs=>(simp (disch := first|omega|exact kD rfl|exact kX rfl) only [smY,simprocAttr,bl,i64,smT];exact rfl));first|refine c_bt ?_|refine c_bf ?_|refine zq ?_|(case hg=>assumption))))
  exact hΦ
 refine loop_more (s' := ?_) (fun Φ hΦ => ?_) ?_
 rotate_left
 ·(repeat (first|apply zO (by decide +kernel)|apply zP (by decide +kernel)|(apply zS;(case h=>constructor<;>decide))|((first|apply l_go rfl|apply c_dec|apply zT rfl (by decide) rfl);(case hs=>(simp (disch := first|omega|exact kD rfl|exact kX rfl) only [smY,simprocAttr,bl,i64,smT];exact rfl));first|refine c_bt ?_|refine c_bf ?_|refine zq ?_|(case hg=>assumption))))
  exact hΦ
 refine loop_more (s' := ?_) (fun Φ hΦ => ?_) ?_
 rotate_left
 ·(repeat (first|apply zO (by decide +kernel)|apply zP (by decide +kernel)|(apply zS;(case h=>constructor<;>decide))|((first|apply l_go rfl|apply c_dec|apply zT rfl (by decide) rfl);(case hs=>(simp (disch := first|omega|exact kD rfl|exact kX rfl) only [smY,simprocAttr,bl,i64,smT];exact rfl));first|refine c_bt ?_|refine c_bf ?_|refine zq ?_|(case hg=>assumption))))
  exact hΦ
 refine loop_done (s' := ?_) (e := .exit 0) (by simp) (fun Φ hΦ => ?_) ?_
 rotate_left
 ·(repeat (first|apply zO (by decide +kernel)|apply zP (by decide +kernel)|(apply zS;(case h=>constructor<;>decide))|((first|apply l_go rfl|apply c_dec|apply zT rfl (by decide) rfl);(case hs=>(simp (disch := first|omega|exact kD rfl|exact kX rfl) only [smY,simprocAttr,bl,i64,smT];exact rfl));first|refine c_bt ?_|refine c_bf ?_|refine zq ?_|(case hg=>assumption))))
  exact hΦ
 (repeat (first|apply zO (by decide +kernel)|apply zP (by decide +kernel)|(apply zS;(case h=>constructor<;>decide))|((first|apply l_go rfl|apply c_dec|apply zT rfl (by decide) rfl);(case hs=>(simp (disch := first|omega|exact kD rfl|exact kX rfl) only [smY,simprocAttr,bl,i64,smT];exact rfl));first|refine c_bt ?_|refine c_bf ?_|refine zq ?_|(case hg=>assumption))))
 ((first|apply g_ret|apply g_end);case hres => (simp only [smR];simp (disch := first|omega|exact kD rfl|exact kX rfl) only [smY,simprocAttr,bl,i64,smT];exact rfl))
 simp (disch := first|omega|exact kD rfl|exact kX rfl) only [smY,simprocAttr,bl,i64,smT]
end Go.Proofs.YteecamhdbilmoaaGreatDoor
namespace Go.Proofs.YteecamhdbilmoaaGreatDoor
open Go Go.Lg Go.ChangeShapes Go.WideShapes Go.ChangeAt Go.RowKit
set_option maxRecDepth 100000
theorem cDat : Tryz.prog.cellsOf 35 = 5 := by kernel_rfl
theorem cIntD : Tryz.prog.cellsOf 3 = 1 := by kernel_rfl
section
variable {H : Type} {enc : TypeId × Value → H} {w : World} {base : Nat} {spare : Nat → Bool} {held : Bool}
def datV (a b c e f : Int) : Value := .agg #[.int .i64 a,.int .i64 b,.int .i64 c,.int .i64 e,.int .i64 f]
def datD (a b c e f : Int) : DataW H := .agg [.lit (.int .i64 a),.lit (.int .i64 b),.lit (.int .i64 c),.lit (.int .i64 e),.lit (.int .i64 f)]
theorem open_dat {r : Reach} {b0 : Nat} {v : Value} {d : DataW H} {ps : List MemPlace} (hval : Value.okWide Tryz.prog w r b0 35 v) (hd : DataW.Trod enc Tryz.prog w base spare held 35 v d ps) :
  ∃ a b c e f,v = datV a b c e f ∧ d = datD a b c e f ∧ ps = [] ∧ (Lit.int .i64 a).wf = true ∧ (Lit.int .i64 b).wf = true ∧ (Lit.int .i64 c).wf = true ∧ (Lit.int .i64 e).wf = true ∧ (Lit.int .i64 f).wf = true := by
 obtain ⟨cs,rfl,h2⟩ := okWide_struct Tryz.underlying35 hval
 rw [cDat] at h2
 obtain ⟨fuel,hf⟩ := hd
 obtain ⟨xs,n,rfl,hx,hlen,hn,hel⟩ := DataW.trod_struct Tryz.underlying35 hf
 obtain ⟨l⟩ := cs
 match l,h2 with
 | [c0,c1,c2,c3,c4],_ =>
   match xs,hn with
   | [x0,x1,x2,x3,x4],_ =>
     have hc : (Value.agg #[c0,c1,c2,c3,c4]).cells = #[c0,c1,c2,c3,c4] := rfl
     have e0 : DataW.trod enc Tryz.prog w base spare held n 3 (([c0,c1,c2,c3,c4].drop 0).take (Tryz.prog.cellsOf 3)) = some x0 := hel 0 _ rfl
     have e1 : DataW.trod enc Tryz.prog w base spare held n 3 (([c0,c1,c2,c3,c4].drop 1).take (Tryz.prog.cellsOf 3)) = some x1 := hel 1 _ rfl
     have e2 : DataW.trod enc Tryz.prog w base spare held n 3 (([c0,c1,c2,c3,c4].drop 2).take (Tryz.prog.cellsOf 3)) = some x2 := hel 2 _ rfl
     have e3 : DataW.trod enc Tryz.prog w base spare held n 3 (([c0,c1,c2,c3,c4].drop 3).take (Tryz.prog.cellsOf 3)) = some x3 := hel 3 _ rfl
     have e4 : DataW.trod enc Tryz.prog w base spare held n 3 (([c0,c1,c2,c3,c4].drop 4).take (Tryz.prog.cellsOf 3)) = some x4 := hel 4 _ rfl
     simp only [hc,cIntD,List.drop_zero,List.drop_succ_cons,List.take_succ_cons,List.take_zero,List.getElem?_cons_zero,List.getElem?_cons_succ] at e0 e1 e2 e3 e4
     obtain ⟨a0,a1,rfl,w0⟩ := DataW.trod_int Tryz.underlying3 e0
     obtain ⟨b0,b1,rfl,w1⟩ := DataW.trod_int Tryz.underlying3 e1
     obtain ⟨g0,g1,rfl,w2⟩ := DataW.trod_int Tryz.underlying3 e2
     obtain ⟨h0,h1,rfl,w3⟩ := DataW.trod_int Tryz.underlying3 e3
     obtain ⟨k0,k1,rfl,w4⟩ := DataW.trod_int Tryz.underlying3 e4
     simp only [List.cons.injEq,and_true] at a1 b1 g1 h1 k1
     subst a1 b1 g1 h1 k1
     obtain ⟨hx1,hx2⟩ := Prod.mk.inj hx
     exact ⟨_,_,_,_,_,rfl,hx1,by simpa using hx2,w0,w1,w2,w3,w4⟩
theorem shut_dat {a b c e f : Int} (w0 : (Lit.int .i64 a).wf = true) (w1 : (Lit.int .i64 b).wf = true) (w2 : (Lit.int .i64 c).wf = true) (w3 : (Lit.int .i64 e).wf = true) (w4 : (Lit.int .i64 f).wf = true) :
  DataW.Trod enc Tryz.prog w base spare held 35 (datV a b c e f) (datD a b c e f) [] := by
 have hc : (datV a b c e f).cells = #[.int .i64 a,.int .i64 b,.int .i64 c,.int .i64 e,.int .i64 f] := rfl
 refine ⟨2,?_⟩
 have := trod_struct_mk (enc := enc) (w := w) (base := base) (spare := spare) (held := held) (n := 1) (cs := [.int .i64 a,.int .i64 b,.int .i64 c,.int .i64 e,.int .i64 f]) (xs := [(.lit (.int .i64 a),[]),(.lit (.int .i64 b),[]),(.lit (.int .i64 c),[]),(.lit (.int .i64 e),[]),(.lit (.int .i64 f),[])]) Tryz.underlying35 (by rw [cDat];rfl) (by
  simp [cIntD,DataW.trod,Tryz.underlying3,w0,w1,w2,w3,w4])
 rw [hc]
 exact this
theorem rep_dat {St : Nat → Prop} {hp : Array Obj} {μ : Nat → Option (Nat × Nat)} (a b c e f : Int) : Rep St hp μ (.agg [.lit (.int .i64 a),.lit (.int .i64 b),.lit (.int .i64 c),.lit (.int .i64 e),.lit (.int .i64 f)]) (datV a b c e f) := by
 refine Rep.agg (us := [.int .i64 a,.int .i64 b,.int .i64 c,.int .i64 e,.int .i64 f]) rfl (by simp [Value.oneCell']) ?_
 intro j x u hc hu
 match j with
 | 0 => simp at hc hu;subst hc;subst hu;exact .lit _
 | 1 => simp at hc hu;subst hc;subst hu;exact .lit _
 | 2 => simp at hc hu;subst hc;subst hu;exact .lit _
 | 3 => simp at hc hu;subst hc;subst hu;exact .lit _
 | 4 => simp at hc hu;subst hc;subst hu;exact .lit _
 | j + 5 => simp at hc
end
end Go.Proofs.YteecamhdbilmoaaGreatDoor