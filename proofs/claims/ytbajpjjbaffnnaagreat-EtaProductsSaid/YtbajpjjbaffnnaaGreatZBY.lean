/- Contracts of functions of the program, and what proves them (texts: OP0 MD OP1). -/
import Derived.Test.YtbajpjjbaffnnaaGreatZBC
import Derived.Test.YtbajpjjbaffnnaaGreatZBT
import Derived.Test.YtbajpjjbaffnnaaGreatZBU
import Derived.Test.YtbajpjjbaffnnaaGreatZBV
import Derived.Test.YtbajpjjbaffnnaaGreatZBX
set_option linter.all false
namespace Go.Proofs.YtbajpjjbaffnnaaGreat
open Go Go.Lg Go.Num
set_option maxRecDepth 100000
set_option maxHeartbeats 4000000
def nVi (b m : Nat) : LV := if m = 0 then nilL else .own b 0 m 1
theorem nVi_zero (b : Nat) : nVi b 0 = nilL := rfl
theorem nVi_of {b m : Nat} (h : m = 0) : nVi b m = nilL := if_pos h
theorem nVi_ne {b m : Nat} (h : m ≠ 0) : nVi b m = .own b 0 m 1 := if_neg h
theorem nVi_succ (b m : Nat) : nVi b (m + 1) = .own b 0 (m + 1) 1 := rfl
def nBi (b m : Nat) (cs : List LV) : List (Nat × Blk) := if m = 0 then [] else [(b,⟨3,cs,false⟩)]
theorem nBi_of {b m : Nat} {cs : List LV} (h : m = 0) : nBi b m cs = [] := if_pos h
theorem nBi_ne {b m : Nat} {cs : List LV} (h : m ≠ 0) : nBi b m cs = [(b,⟨3,cs,false⟩)] := if_neg h
theorem nBi_zero (b : Nat) (cs : List LV) : nBi b 0 cs = [] := rfl
theorem nBi_succ (b m : Nat) (cs : List LV) : nBi b (m + 1) cs = [(b,⟨3,cs,false⟩)] := rfl
theorem ec_nil : ec [] = [] := rfl
theorem ec_one (a : Int) : ec [a] = [LV.lit (.int .i64 a)] := rfl
theorem mapAt_place {D : List Int} (hnd : ∀ i j,i < j → j < D.length → D.getD i 0 ≠ D.getD j 0) {p : Nat} : ∀ k,k ≤ D.length → p < k → mapAt (mE D k) (D.getD p 0) = (p : Int)
 | 0,_,h => absurd h (Nat.not_lt_zero _)
 | k + 1,hk,h => by
   unfold mapAt
   rw [mE_succ,List.find?_append]
   by_cases hp : p = k
   · subst hp
     have : (mE D p).find? (fun q => D.getD p 0 == q.1) = none := by
       rw [List.find?_eq_none]
       intro q hq
       simp only [mE,List.mem_map,List.mem_range] at hq
       obtain ⟨j,hj,rfl⟩ := hq
       simp only [beq_iff_eq]
       exact fun e => hnd j p hj (by omega) e.symm
     rw [this]
     simp
   · have ih := mapAt_place hnd k (by omega) (show p < k by omega)
     unfold mapAt at ih
     cases hf : (mE D k).find? (fun q => D.getD p 0 == q.1) with
     | some q =>
       rw [hf] at ih
       simpa using ih
     | none =>
       exfalso
       rw [List.find?_eq_none] at hf
       have := hf (D.getD p 0,(p : Int)) (by
         simp only [mE,List.mem_map,List.mem_range]
         exact ⟨p,by omega,rfl⟩)
       simp at this
theorem spF_get {D E xs : List Int} {t : Int} (hnd : ∀ i j,i < j → j < D.length → D.getD i 0 ≠ D.getD j 0) (hp : ∀ i,i < E.length → ∃ p,p < D.length ∧ D.getD p 0 = E.getD i 0 * t) : ∀ i,i ≤ E.length → ∀ j,j < D.length → (spF D E xs t i).getD j 0 = atk E xs t (D.getD j 0) i
 | 0,_,j,hj => by
   rw [spF,atk,List.getD,List.getElem?_replicate]
   split <;> rfl
 | i + 1,hi,j,hj => by
   obtain ⟨p,h1,h2⟩ := hp i (by omega)
   have ih := spF_get (xs := xs) hnd hp i (by omega) j hj
   rw [spF,atk,← h2,mapAt_place hnd D.length (Nat.le_refl _) h1,Int.toNat_natCast]
   by_cases hpj : p = j
   · subst hpj
     rw [if_pos rfl,setD_same _ (by rw [spF_len];exact h1)]
   · have hne : D.getD p 0 ≠ D.getD j 0 := by
       rcases Nat.lt_or_gt_of_ne hpj with h | h
       · exact hnd p j h hj
       · exact fun e => hnd j p h h1 e.symm
     rw [if_neg hne,setD_ne _ hpj]
     exact ih
theorem spF_mdL {D E xs : List Int} {t : Int} (hnd : ∀ i j,i < j → j < D.length → D.getD i 0 ≠ D.getD j 0) (hp : ∀ i,i < E.length → ∃ p,p < D.length ∧ D.getD p 0 = E.getD i 0 * t) : spF D E xs t E.length = mdL D E xs t := by
 apply List.ext_getElem
 ·rw [spF_len,mdL_len]
 ·intro j h1 h2
  have e1 : (spF D E xs t E.length)[j] = (spF D E xs t E.length).getD j 0 := by simp [List.getD,h1]
  have e2 : (mdL D E xs t)[j] = (mdL D E xs t).getD j 0 := by simp [List.getD,h2]
  rw [spF_len] at h1
  rw [e1,e2,spF_get hnd hp _ (Nat.le_refl _) j h1,mdL_get E xs t h1]
theorem spread_eta {n m t : Nat} {xs : List Int} (hx : EtaOk n xs) (m1 : 1 ≤ m) (m2 : m ≤ 600) (hm : m % (n * t) = 0) : NewGood Tryz.prog 103 [.agg [i64 n,.sl xs.length (ec xs)],i64 m,i64 t] (divN m).length 1 3 (ec (mdL (divL m) (divL n) xs t)) := by
 have hD := divisors_good m1 m2
 have hE := divisors_good hx.n1 hx.n2
 have l1 := divN_length_le m m2
 have l2 := divN_length_le n hx.n2
 have l3 := divN_length_pos m1
 rw [← divL_length] at hD hE l1 l2 l3
 have hp : ∀ i,i < (divL n).length → ∃ p,p < (divL m).length ∧ (divL m).getD p 0 = (divL n).getD i 0 * t := fun i hi => by
  rw [divL_length] at hi ⊢
  exact div_place m1 hm hi
 have hnd : ∀ i j,i < j → j < (divL m).length → (divL m).getD i 0 ≠ (divL m).getD j 0 := fun i j h hj => divL_apart h (by rw [divL_length] at hj;exact hj)
 have h := spread_new (xs := xs) (t := (t : Int)) hD hE hnd (by rw [hx.len,divL_length]) ⟨by omega,by omega⟩ (by omega) (fun i hi => by
  obtain ⟨p,p1,p2⟩ := hp i hi
  rw [← p2]
  rw [divL_length] at p1
  obtain ⟨d,e1,e2,e3,_⟩ := divL_get (n := m) p1
  rw [e1]
  omega)
 rw [spF_mdL hnd hp,divL_length] at h
 exact h
theorem spread_etaP {n m t : Nat} {xs : List Int} (hx : EtaOk n xs) (m1 : 1 ≤ m) (m2 : m ≤ 600) (hm : m % (n * t) = 0) : PureGood Tryz.prog 103 [.agg [i64 n,.sl xs.length (ec xs)],i64 m,i64 t] (.sl (divN m).length (ec (mdL (divL m) (divL n) xs t))) :=
 good_of_newD (spread_eta hx m1 m2 hm) (by rw [ec_len,mdL_len,divL_length];omega) (by simp [ec,pureC])
end Go.Proofs.YtbajpjjbaffnnaaGreat
namespace Go.Proofs.YtbajpjjbaffnnaaGreat
open Go Go.Lg Go.Num
set_option maxRecDepth 100000
set_option maxHeartbeats 8000000
attribute [local irreducible] Go.Lg.lrun Go.Lg.lwp Go.Lg.exThen Go.Lg.exBlk Go.Lg.keep Go.Lg.goodPost ec
theorem made_large (n m t : Int) (xs : List Int) (hm : 600 < m ∧ m ≤ 9223372036854775807) : PureGood Tryz.prog 110 [.agg [i64 n,.sl xs.length (ec xs)],i64 m,i64 t] (shp 0 7 (.sl 0 [])) := by
 simp only [i64]
 refine good_of_lwp mix Tryz.func110 rfl (by decide) (nt := 59) rfl (rs := [.cell 6 24,.tmp 7]) rfl (nle rfl) ?_
 (repeat (first|apply zO (by decide +kernel)|apply zP (by decide +kernel)|(apply zS;(case h=>constructor<;>decide))|((first|apply l_go rfl|apply c_dec|apply zT rfl (by decide) rfl);(case hs=>(simp (disch := first|omega|exact kD rfl|exact kX rfl) only [smY,simprocAttr,bl,i64,smE,shp,undefL,undef];exact rfl));first|refine c_bt ?_|refine c_bf ?_|refine zq ?_|(case hg=>assumption))))
 ((first|apply g_ret|apply g_end);case hres => (simp only [smR];simp (disch := first|omega|exact kD rfl|exact kX rfl) only [smY,simprocAttr,bl,i64,smE,shp,undefL,undef];exact rfl))
 simp (disch := first|omega|exact kD rfl|exact kX rfl) only [smY,simprocAttr,bl,i64,smE,shp,undefL,undef]
theorem made_new {n m t : Nat} {xs : List Int} (hx : EtaOk n xs) (m1 : 1 ≤ m) (m2 : m ≤ 600) (t2 : t ≤ 600) : NewS Tryz.prog 110 [.agg [i64 n,.sl xs.length (ec xs)],i64 m,i64 t] m 0 (divN m).length 3 (ec (mdL (divL m) (divL n) xs t)) := by
 have gm := rdivisors_good m1 m2
 have gn := rdivisors_good hx.n1 hx.n2
 have lm := divN_length_le m m2
 have lm1 := divN_length_pos m1
 have ln := divN_length_le n hx.n2
 have n1 := hx.n1
 have n2 := hx.n2
 have hlen := hx.len
 have hmd := mdL_len (divL m) (divL n) xs t
 have hdm := divL_length m
 have hdn := divL_length n
 have hz : ∀ i,i < (divN m).length → (mdL (divL m) (divL n) xs t).take (i + 1) = (mdL (divL m) (divL n) xs t).take i ++ [atk (divL n) xs t ((divL m).getD i 0) (divN n).length] := fun i hi => by
  have := mdL_take (divL n) xs (t : Int) (show i < (divL m).length by omega)
  rw [hdn] at this
  exact this
 rw [hdm] at hmd
 generalize mdL (divL m) (divL n) xs t = Z at *
 generalize hM : (divN m).length = M at *
 generalize hN : (divN n).length = N at *
 simp only [i64] at *
 refine newS_of_lwp mix Tryz.func110 rfl (by decide) (nt := 59) rfl (rs := [.cell 6 24,.tmp 7]) rfl (nle rfl) (ec_plain' _) ?_
 (repeat (first|apply zO (by decide +kernel)|apply zP (by decide +kernel)|(apply zS;(case h=>constructor<;>decide))|((first|apply l_go rfl|apply c_dec|apply zT rfl (by decide) rfl);(case hs=>(simp (disch := first|omega|exact kD rfl|exact kX rfl) only [smY,simprocAttr,bl,i64,smE,shp,undefL,undef];exact rfl));first|refine c_bt ?_|refine c_bf ?_|refine zq ?_|(case hg=>assumption))))
 refine w_loop (α := {i : Nat // i ≤ M}) (fun i => st 59 (lk [(2,.lit (.int .i64 t)),(3,.ptr 0 0),(6,.ptr 1 0),(7,.lit (.int .i64 0)),(8,.ptr 2 0),(9,.sl M (ec (divL m))),(10,.sl N (ec (divL n))),(11,.lit (.int .i64 i.1))]) (lkH ((0,⟨24,[.lit (.int .i64 n),.sl xs.length (ec xs)],false⟩) :: (1,⟨24,[.lit (.int .i64 0),nilL],false⟩) :: (2,⟨24,[.lit (.int .i64 m),nVi 3 i.1],false⟩) :: nBi 3 i.1 (ec (Z.take i.1)))) 4) (fun i => M - i.1) ⟨0,by omega⟩ ?_ ?_
 ·simp only [nVi_zero,nBi_zero]
  (refine Sub.heapR [0,1,7,99] rfl (by decide) ?_ (by simp only [smL];decide) ?_;all_goals (first|(simp only [smF,dg,renL,renLs,simprocAttr,bl,i64,smE,shp,undefL,undef];done) | (simp only [smF,dg,renL,renLs,simprocAttr,bl,i64,smE,shp,undefL,undef,Option.some.injEq,Blk.mk.injEq,true_and,and_true];first | done | (repeat' (first | apply And.intro | (refine ⟨_,rfl,?_⟩;simp only [smF,dg,renL,renLs,simprocAttr,bl,i64,smE,shp,undefL,undef];first | done | rfl)))) | skip))
  all_goals (first | done | trace_state)
 ·rintro ⟨i,hi⟩
  simp only [st]
  by_cases hlt : i < M
  ·by_cases hi0 : i = 0
   ·simp only [nVi_of hi0,nBi_of hi0]
    (repeat (first|apply zO (by decide +kernel)|apply zP (by decide +kernel)|(apply zS;(case h=>constructor<;>decide))|((first|apply l_go rfl|apply c_dec|apply zT rfl (by decide) rfl);(case hs=>(simp (disch := first|omega|exact kD rfl|exact kX rfl) only [smY,simprocAttr,bl,i64,smE,shp,undefL,undef];exact rfl));first|refine c_bt ?_|refine c_bf ?_|refine zq ?_|(case hg=>assumption))))
    refine w_loop (α := {k : Nat // k ≤ N}) (fun k => st 59 (lk [(2,.lit (.int .i64 t)),(3,.ptr 0 0),(6,.ptr 1 0),(7,.lit (.int .i64 0)),(8,.ptr 2 0),(9,.sl M (ec (divL m))),(10,.sl N (ec (divL n))),(11,.lit (.int .i64 i)),(12,.lit (.int .i64 (atk (divL n) xs t ((divL m).getD i 0) k.1))),(13,.lit (.int .i64 k.1))]) (lkH [(0,⟨24,[.lit (.int .i64 n),.sl xs.length (ec xs)],false⟩),(1,⟨24,[.lit (.int .i64 0),nilL],false⟩),(2,⟨24,[.lit (.int .i64 m),nilL],false⟩)]) 3) (fun k => N - k.1) ⟨0,by omega⟩ ?_ ?_
    ·simp only [atk]
     (refine Sub.heapR [0,1,2] rfl (by decide) ?_ (by simp only [smL];decide) ?_;all_goals (first|(simp only [smF,dg,renL,renLs,simprocAttr,bl,i64,smE,shp,undefL,undef];done) | (simp only [smF,dg,renL,renLs,simprocAttr,bl,i64,smE,shp,undefL,undef,Option.some.injEq,Blk.mk.injEq,true_and,and_true];first | done | (repeat' (first | apply And.intro | (refine ⟨_,rfl,?_⟩;simp only [smF,dg,renL,renLs,simprocAttr,bl,i64,smE,shp,undefL,undef];first | done | rfl)))) | skip))
     all_goals (first | done | trace_state)
    ·rintro ⟨k,hk⟩
     simp only [st]
     by_cases hkl : k < N
     ·obtain ⟨d,e1,e2,e3,e4,e5⟩ := divL_get (n := n) (k := k) (by omega)
      have c1 : (d : Int) * (t : Int) = ((d * t : Nat) : Int) := by simp
      have c2 : d * t ≤ 600 * 600 := Nat.mul_le_mul (by omega) t2
      have ea : atk (divL n) xs t ((divL m).getD i 0) (k + 1) = if ((d * t : Nat) : Int) = (divL m).getD i 0 then xs.getD k 0 else atk (divL n) xs t ((divL m).getD i 0) k := by rw [atk,e1,c1]
      generalize hav : atk (divL n) xs t ((divL m).getD i 0) k = av at *
      by_cases he : ((d * t : Nat) : Int) = (divL m).getD i 0
      ·rw [if_pos he] at ea
       (repeat (first|apply zO (by decide +kernel)|apply zP (by decide +kernel)|(apply zS;(case h=>constructor<;>decide))|((first|apply l_go rfl|apply c_dec|apply zT rfl (by decide) rfl);(case hs=>(simp (disch := first|omega|exact kD rfl|exact kX rfl) only [smY,simprocAttr,bl,i64,smE,shp,undefL,undef,e1,c1];exact rfl));first|refine c_bt ?_|refine c_bf ?_|refine zq ?_|(case hg=>assumption))))
       refine ⟨⟨k + 1,by omega⟩,?_,by simp only;omega⟩
       rw [ea]
       (refine Sub.heapR [0,1,2] rfl (by decide) ?_ (by simp only [smL];decide) ?_;all_goals (first|(simp only [smF,dg,renL,renLs,simprocAttr,bl,i64,smE,shp,undefL,undef];done) | (simp only [smF,dg,renL,renLs,simprocAttr,bl,i64,smE,shp,undefL,undef,Option.some.injEq,Blk.mk.injEq,true_and,and_true];first | done | (repeat' (first | apply And.intro | (refine ⟨_,rfl,?_⟩;simp only [smF,dg,renL,renLs,simprocAttr,bl,i64,smE,shp,undefL,undef];first | done | rfl)))) | skip))
       all_goals (first | done | trace_state)
      ·rw [if_neg he] at ea
       (repeat (first|apply zO (by decide +kernel)|apply zP (by decide +kernel)|(apply zS;(case h=>constructor<;>decide))|((first|apply l_go rfl|apply c_dec|apply zT rfl (by decide) rfl);(case hs=>(simp (disch := first|omega|exact kD rfl|exact kX rfl) only [smY,simprocAttr,bl,i64,smE,shp,undefL,undef,e1,c1];exact rfl));first|refine c_bt ?_|refine c_bf ?_|refine zq ?_|(case hg=>assumption))))
       refine ⟨⟨k + 1,by omega⟩,?_,by simp only;omega⟩
       rw [ea]
       (refine Sub.heapR [0,1,2] rfl (by decide) ?_ (by simp only [smL];decide) ?_;all_goals (first|(simp only [smF,dg,renL,renLs,simprocAttr,bl,i64,smE,shp,undefL,undef];done) | (simp only [smF,dg,renL,renLs,simprocAttr,bl,i64,smE,shp,undefL,undef,Option.some.injEq,Blk.mk.injEq,true_and,and_true];first | done | (repeat' (first | apply And.intro | (refine ⟨_,rfl,?_⟩;simp only [smF,dg,renL,renLs,simprocAttr,bl,i64,smE,shp,undefL,undef];first | done | rfl)))) | skip))
       all_goals (first | done | trace_state)
     ·obtain rfl : k = N := by omega
      (repeat (first|apply zO (by decide +kernel)|apply zP (by decide +kernel)|(apply zS;(case h=>constructor<;>decide))|((first|apply l_go rfl|apply c_dec|apply zT rfl (by decide) rfl);(case hs=>(simp (disch := first|omega|exact kD rfl|exact kX rfl) only [smY,simprocAttr,bl,i64,smE,shp,undefL,undef];exact rfl));first|refine c_bt ?_|refine c_bf ?_|refine zq ?_|(case hg=>assumption))))
      refine ⟨⟨i + 1,by omega⟩,?_,by simp only;omega⟩
      simp only [nVi_succ,nBi_succ]
      rw [hz i hlt]
      (subst hi0;(refine Sub.heapR [0,1,2,11] rfl (by decide) ?_ (by simp only [smL];decide) ?_;all_goals (first|(simp only [smF,dg,renL,renLs,simprocAttr,bl,i64,smE,shp,undefL,undef];done) | (simp only [smF,dg,renL,renLs,simprocAttr,bl,i64,smE,shp,undefL,undef,Option.some.injEq,Blk.mk.injEq,true_and,and_true];first | done | (repeat' (first | apply And.intro | (refine ⟨_,rfl,?_⟩;simp only [smF,dg,renL,renLs,simprocAttr,bl,i64,smE,shp,undefL,undef];first | done | rfl)))) | skip));rw [List.take_zero,List.nil_append,ec_one];exact ⟨_,rfl,rfl⟩)
   ·simp only [nVi_ne hi0,nBi_ne hi0]
    have hlz : (Z.take i).length = i := by rw [List.length_take];omega
    (repeat (first|apply zO (by decide +kernel)|apply zP (by decide +kernel)|(apply zS;(case h=>constructor<;>decide))|((first|apply l_go rfl|apply c_dec|apply zT rfl (by decide) rfl);(case hs=>(simp (disch := first|omega|exact kD rfl|exact kX rfl) only [smY,simprocAttr,bl,i64,smE,shp,undefL,undef];exact rfl));first|refine c_bt ?_|refine c_bf ?_|refine zq ?_|(case hg=>assumption))))
    refine w_loop (α := {k : Nat // k ≤ N}) (fun k => st 59 (lk [(2,.lit (.int .i64 t)),(3,.ptr 0 0),(6,.ptr 1 0),(7,.lit (.int .i64 0)),(8,.ptr 2 0),(9,.sl M (ec (divL m))),(10,.sl N (ec (divL n))),(11,.lit (.int .i64 i)),(12,.lit (.int .i64 (atk (divL n) xs t ((divL m).getD i 0) k.1))),(13,.lit (.int .i64 k.1))]) (lkH [(0,⟨24,[.lit (.int .i64 n),.sl xs.length (ec xs)],false⟩),(1,⟨24,[.lit (.int .i64 0),nilL],false⟩),(2,⟨24,[.lit (.int .i64 m),.own 3 0 i 1],false⟩),(3,⟨3,ec (Z.take i),false⟩)]) 4) (fun k => N - k.1) ⟨0,by omega⟩ ?_ ?_
    ·simp only [atk]
     (refine Sub.heapR [0,1,2,3] rfl (by decide) ?_ (by simp only [smL];decide) ?_;all_goals (first|(simp only [smF,dg,renL,renLs,simprocAttr,bl,i64,smE,shp,undefL,undef];done) | (simp only [smF,dg,renL,renLs,simprocAttr,bl,i64,smE,shp,undefL,undef,Option.some.injEq,Blk.mk.injEq,true_and,and_true];first | done | (repeat' (first | apply And.intro | (refine ⟨_,rfl,?_⟩;simp only [smF,dg,renL,renLs,simprocAttr,bl,i64,smE,shp,undefL,undef];first | done | rfl)))) | skip))
     all_goals (first | done | trace_state)
    ·rintro ⟨k,hk⟩
     simp only [st]
     by_cases hkl : k < N
     ·obtain ⟨d,e1,e2,e3,e4,e5⟩ := divL_get (n := n) (k := k) (by omega)
      have c1 : (d : Int) * (t : Int) = ((d * t : Nat) : Int) := by simp
      have c2 : d * t ≤ 600 * 600 := Nat.mul_le_mul (by omega) t2
      have ea : atk (divL n) xs t ((divL m).getD i 0) (k + 1) = if ((d * t : Nat) : Int) = (divL m).getD i 0 then xs.getD k 0 else atk (divL n) xs t ((divL m).getD i 0) k := by rw [atk,e1,c1]
      generalize hav : atk (divL n) xs t ((divL m).getD i 0) k = av at *
      by_cases he : ((d * t : Nat) : Int) = (divL m).getD i 0
      ·rw [if_pos he] at ea
       (repeat (first|apply zO (by decide +kernel)|apply zP (by decide +kernel)|(apply zS;(case h=>constructor<;>decide))|((first|apply l_go rfl|apply c_dec|apply zT rfl (by decide) rfl);(case hs=>(simp (disch := first|omega|exact kD rfl|exact kX rfl) only [smY,simprocAttr,bl,i64,smE,shp,undefL,undef,e1,c1];exact rfl));first|refine c_bt ?_|refine c_bf ?_|refine zq ?_|(case hg=>assumption))))
       refine ⟨⟨k + 1,by omega⟩,?_,by simp only;omega⟩
       rw [ea]
       (refine Sub.heapR [0,1,2,3] rfl (by decide) ?_ (by simp only [smL];decide) ?_;all_goals (first|(simp only [smF,dg,renL,renLs,simprocAttr,bl,i64,smE,shp,undefL,undef];done) | (simp only [smF,dg,renL,renLs,simprocAttr,bl,i64,smE,shp,undefL,undef,Option.some.injEq,Blk.mk.injEq,true_and,and_true];first | done | (repeat' (first | apply And.intro | (refine ⟨_,rfl,?_⟩;simp only [smF,dg,renL,renLs,simprocAttr,bl,i64,smE,shp,undefL,undef];first | done | rfl)))) | skip))
       all_goals (first | done | trace_state)
      ·rw [if_neg he] at ea
       (repeat (first|apply zO (by decide +kernel)|apply zP (by decide +kernel)|(apply zS;(case h=>constructor<;>decide))|((first|apply l_go rfl|apply c_dec|apply zT rfl (by decide) rfl);(case hs=>(simp (disch := first|omega|exact kD rfl|exact kX rfl) only [smY,simprocAttr,bl,i64,smE,shp,undefL,undef,e1,c1];exact rfl));first|refine c_bt ?_|refine c_bf ?_|refine zq ?_|(case hg=>assumption))))
       refine ⟨⟨k + 1,by omega⟩,?_,by simp only;omega⟩
       rw [ea]
       (refine Sub.heapR [0,1,2,3] rfl (by decide) ?_ (by simp only [smL];decide) ?_;all_goals (first|(simp only [smF,dg,renL,renLs,simprocAttr,bl,i64,smE,shp,undefL,undef];done) | (simp only [smF,dg,renL,renLs,simprocAttr,bl,i64,smE,shp,undefL,undef,Option.some.injEq,Blk.mk.injEq,true_and,and_true];first | done | (repeat' (first | apply And.intro | (refine ⟨_,rfl,?_⟩;simp only [smF,dg,renL,renLs,simprocAttr,bl,i64,smE,shp,undefL,undef];first | done | rfl)))) | skip))
       all_goals (first | done | trace_state)
     ·obtain rfl : k = N := by omega
      (repeat (first|apply zO (by decide +kernel)|apply zP (by decide +kernel)|(apply zS;(case h=>constructor<;>decide))|((first|apply l_go rfl|apply c_dec|apply zT rfl (by decide) rfl);(case hs=>(simp (disch := first|omega|exact kD rfl|exact kX rfl) only [smY,simprocAttr,bl,i64,smE,shp,undefL,undef];exact rfl));first|refine c_bt ?_|refine c_bf ?_|refine zq ?_|(case hg=>assumption))))
      refine ⟨⟨i + 1,by omega⟩,?_,by simp only;omega⟩
      simp only [nVi_succ,nBi_succ]
      rw [hz i hlt]
      ((refine Sub.heapR [0,1,2,12] rfl (by decide) ?_ (by simp only [smL];decide) ?_;all_goals (first|(simp only [smF,dg,renL,renLs,simprocAttr,bl,i64,smE,shp,undefL,undef];done) | (simp only [smF,dg,renL,renLs,simprocAttr,bl,i64,smE,shp,undefL,undef,Option.some.injEq,Blk.mk.injEq,true_and,and_true];first | done | (repeat' (first | apply And.intro | (refine ⟨_,rfl,?_⟩;simp only [smF,dg,renL,renLs,simprocAttr,bl,i64,smE,shp,undefL,undef];first | done | rfl)))) | skip));all_goals (first | done | exact ⟨_,rfl,rfl⟩ | trace_state))
  ·obtain rfl : i = M := by omega
   have hi0 : i ≠ 0 := by omega
   simp only [nVi_ne hi0,nBi_ne hi0]
   (repeat (first|apply zO (by decide +kernel)|apply zP (by decide +kernel)|(apply zS;(case h=>constructor<;>decide))|((first|apply l_go rfl|apply c_dec|apply zT rfl (by decide) rfl);(case hs=>(simp (disch := first|omega|exact kD rfl|exact kX rfl) only [smY,simprocAttr,bl,i64,smE,shp,undefL,undef];exact rfl));first|refine c_bt ?_|refine c_bf ?_|refine zq ?_|(case hg=>assumption))))
   (apply ns_ret;(case hres => (simp only [smR];simp (disch := first|omega|exact kD rfl|exact kX rfl) only [smY,simprocAttr,bl,i64,smE,shp,undefL,undef];exact rfl));(case h0 => (simp only [smF,dg,renL,renLs,simprocAttr,bl,i64,smE,shp,undefL,undef];exact rfl));(case hf => rfl))
   rw [List.take_of_length_le (by omega)]
theorem made_good {n m t : Nat} {xs : List Int} (hx : EtaOk n xs) (m1 : 1 ≤ m) (m2 : m ≤ 600) (t2 : t ≤ 600) : PureGood Tryz.prog 110 [.agg [i64 n,.sl xs.length (ec xs)],i64 m,i64 t] (shp m 0 (.sl (divN m).length (ec (mdL (divL m) (divL n) xs t)))) :=
 good_of_newS (made_new hx m1 m2 t2) (by rw [ec_len,mdL_len,divL_length]) (by simp [ec,pureC])
end Go.Proofs.YtbajpjjbaffnnaaGreat
namespace Go.Proofs.YtbajpjjbaffnnaaGreat
open Go Go.Lg Go.Num
set_option maxRecDepth 100000
set_option maxHeartbeats 4000000
attribute [local irreducible] Go.Lg.lrun Go.Lg.lwp Go.Lg.exThen Go.Lg.exBlk Go.Lg.keep Go.Lg.goodPost ec
theorem bounded_gen (a : Int) (zs : List Int) (hl : zs.length ≤ 1000000) (r : LV) (h1 : (∀ x ∈ zs,-200 ≤ x ∧ x ≤ 200) → r = shp a 0 (.sl zs.length (ec zs))) (h2 : ¬ (∀ x ∈ zs,-200 ≤ x ∧ x ≤ 200) → r = shp 0 7 (.sl 0 [])) : PureGood Tryz.prog 111 [.agg [i64 a,.sl zs.length (ec zs)]] r := by
 simp only [i64]
 refine good_of_lwp mix Tryz.func111 rfl (by decide) (nt := 28) rfl (rs := [.cell 2 24,.tmp 3]) rfl (nle rfl) ?_
 (repeat (first|apply zO (by decide +kernel)|apply zP (by decide +kernel)|(apply zS;(case h=>constructor<;>decide))|((first|apply l_go rfl|apply c_dec|apply zT rfl (by decide) rfl);(case hs=>(simp (disch := first|omega|exact kD rfl|exact kX rfl) only [smY,simprocAttr,bl,i64,smE,shp,ec_nil,undefL,undef];exact rfl));first|refine c_bt ?_|refine c_bf ?_|refine zq ?_|(case hg=>assumption))))
 refine w_loop (α := {i : Nat // i ≤ zs.length ∧ ∀ j,j < i → -200 ≤ zs.getD j 0 ∧ zs.getD j 0 ≤ 200}) (fun i => st 28 (lk [(1,.ptr 0 0),(2,.ptr 1 0),(3,.lit (.int .i64 0)),(4,.lit (.int .i64 i.1))]) (lkH [(0,⟨24,[.lit (.int .i64 a),.sl zs.length (ec zs)],false⟩),(1,⟨24,[.lit (.int .i64 0),nilL],false⟩)]) 2) (fun i => zs.length - i.1) ⟨0,by simp⟩ ?_ ?_
 ·(refine Sub.heapL [0,1] rfl (by decide) ?_ (by simp only [smL];decide) ?_ ?_;all_goals (first|(simp only [plainC,smF,dg,renL,renLs,simprocAttr,bl,i64,smE,shp,ec_nil,undefL,undef];done) | (simp only [smF,dg,renL,renLs,simprocAttr,bl,i64,smE,shp,ec_nil,undefL,undef];(repeat' apply And.intro);all_goals rfl) | (simp only [smF,dg,renL,renLs,simprocAttr,bl,i64,smE,shp,ec_nil,undefL,undef]) | skip))
  all_goals (first | done | trace_state)
 ·rintro ⟨i,hi,hj⟩
  simp only [st]
  by_cases h3 : i < zs.length
  ·have hm : zs.getD i 0 ∈ zs := by
    have e : zs.getD i 0 = zs[i] := by simp [h3]
    rw [e];exact List.getElem_mem h3
   by_cases h4 : zs.getD i 0 < -200
   ·obtain rfl := h2 (fun h => by have := h _ hm;omega)
    (repeat (first|apply zO (by decide +kernel)|apply zP (by decide +kernel)|(apply zS;(case h=>constructor<;>decide))|((first|apply l_go rfl|apply c_dec|apply zT rfl (by decide) rfl);(case hs=>(simp (disch := first|omega|exact kD rfl|exact kX rfl) only [smY,simprocAttr,bl,i64,smE,shp,ec_nil,undefL,undef];exact rfl));first|refine c_bt ?_|refine c_bf ?_|refine zq ?_|(case hg=>assumption))))
    ((first|apply g_ret|apply g_end);case hres => (simp only [smR];simp (disch := first|omega|exact kD rfl|exact kX rfl) only [smY,simprocAttr,bl,i64,smE,shp,ec_nil,undefL,undef];exact rfl))
    simp (disch := first|omega|exact kD rfl|exact kX rfl) only [smY,simprocAttr,bl,i64,smE,shp,ec_nil,undefL,undef]
   ·by_cases h5 : zs.getD i 0 > 200
    ·obtain rfl := h2 (fun h => by have := h _ hm;omega)
     (repeat (first|apply zO (by decide +kernel)|apply zP (by decide +kernel)|(apply zS;(case h=>constructor<;>decide))|((first|apply l_go rfl|apply c_dec|apply zT rfl (by decide) rfl);(case hs=>(simp (disch := first|omega|exact kD rfl|exact kX rfl) only [smY,simprocAttr,bl,i64,smE,shp,ec_nil,undefL,undef];exact rfl));first|refine c_bt ?_|refine c_bf ?_|refine zq ?_|(case hg=>assumption))))
     ((first|apply g_ret|apply g_end);case hres => (simp only [smR];simp (disch := first|omega|exact kD rfl|exact kX rfl) only [smY,simprocAttr,bl,i64,smE,shp,ec_nil,undefL,undef];exact rfl))
     simp (disch := first|omega|exact kD rfl|exact kX rfl) only [smY,simprocAttr,bl,i64,smE,shp,ec_nil,undefL,undef]
    ·(repeat (first|apply zO (by decide +kernel)|apply zP (by decide +kernel)|(apply zS;(case h=>constructor<;>decide))|((first|apply l_go rfl|apply c_dec|apply zT rfl (by decide) rfl);(case hs=>(simp (disch := first|omega|exact kD rfl|exact kX rfl) only [smY,simprocAttr,bl,i64,smE,shp,ec_nil,undefL,undef];exact rfl));first|refine c_bt ?_|refine c_bf ?_|refine zq ?_|(case hg=>assumption))))
     refine ⟨⟨i + 1,by omega,fun j hj' => ?_⟩,?_,by simp only;omega⟩
     ·by_cases h6 : j = i
      ·subst h6;omega
      ·exact hj j (by omega)
     ·(refine Sub.heapL [0,1] rfl (by decide) ?_ (by simp only [smL];decide) ?_ ?_;all_goals (first|(simp only [plainC,smF,dg,renL,renLs,simprocAttr,bl,i64,smE,shp,ec_nil,undefL,undef];done) | (simp only [smF,dg,renL,renLs,simprocAttr,bl,i64,smE,shp,ec_nil,undefL,undef];(repeat' apply And.intro);all_goals rfl) | (simp only [smF,dg,renL,renLs,simprocAttr,bl,i64,smE,shp,ec_nil,undefL,undef]) | skip))
      all_goals (first | done | trace_state)
  ·obtain rfl : i = zs.length := by omega
   obtain rfl := h1 (fun x hx => by
    obtain ⟨j,hjl,rfl⟩ := List.getElem_of_mem hx
    have := hj j hjl
    simpa [List.getD,hjl] using this)
   (repeat (first|apply zO (by decide +kernel)|apply zP (by decide +kernel)|(apply zS;(case h=>constructor<;>decide))|((first|apply l_go rfl|apply c_dec|apply zT rfl (by decide) rfl);(case hs=>(simp (disch := first|omega|exact kD rfl|exact kX rfl) only [smY,simprocAttr,bl,i64,smE,shp,ec_nil,undefL,undef];exact rfl));first|refine c_bt ?_|refine c_bf ?_|refine zq ?_|(case hg=>assumption))))
   ((first|apply g_ret|apply g_end);case hres => (simp only [smR];simp (disch := first|omega|exact kD rfl|exact kX rfl) only [smY,simprocAttr,bl,i64,smE,shp,ec_nil,undefL,undef];exact rfl))
   simp (disch := first|omega|exact kD rfl|exact kX rfl) only [smY,simprocAttr,bl,i64,smE,shp,ec_nil,undefL,undef]
theorem etaErr_inv {lv : Int} {xs : List Int} (h : etaErr lv xs = 0) : ∃ n : Nat,lv = n ∧ EtaOk n xs := by
 unfold etaErr at h
 split at h
 ·rename_i h1
  split at h
  ·rename_i h2
   split at h
   ·rename_i h3
    exact ⟨lv.toNat,by omega,⟨by omega,by omega,h2,h3⟩⟩
   ·cases h
  ·cases h
 ·cases h
def bothE (f g : FuncId) (args : List LV) : Prop := ∃ (a : Int) (zs : List Int) (e : Int),zs.length ≤ 1000 ∧ PureGood Tryz.prog f args (shp a e (.sl zs.length (ec zs))) ∧ PureGood Tryz.prog g args (shp a e (.sl zs.length (ec zs)))
theorem raise_both (lv : Int) (xs : List Int) (L : Int) (hlv : -9223372036854775808 ≤ lv ∧ lv ≤ 9223372036854775807) (hl : xs.length ≤ 1000000) (hL : -9223372036854775808 ≤ L ∧ L ≤ 9223372036854775807) : bothE 48 55 [.agg [i64 lv,.sl xs.length (ec xs)],i64 L] := by
 have g1 := check_good lv xs hlv hl
 have g2 := rcheck_good lv xs hlv hl
 by_cases he : etaErr lv xs = 0
 ·obtain ⟨n,rfl,hx⟩ := etaErr_inv he
  have n1 := hx.n1
  have n2 := hx.n2
  rw [he] at g1 g2
  by_cases h1 : L < 1
  ·simp only [i64,bl] at *
   refine ⟨0,[],2,by simp,?_,?_⟩
   ·
    refine good_of_lwp mix Tryz.func48 rfl (by decide) (nt := 31) rfl (rs := [.cell 4 24,.tmp 5]) rfl (nle rfl) ?_
    (repeat (first|apply zO (by decide +kernel)|apply zP (by decide +kernel)|(apply zS;(case h=>constructor<;>decide))|((first|apply l_go rfl|apply c_dec|apply zT rfl (by decide) rfl);(case hs=>(simp (disch := first|omega|exact kD rfl|exact kX rfl) only [smY,simprocAttr,bl,i64,smE,shp,ec_nil,undefL,undef];exact rfl));first|refine c_bt ?_|refine c_bf ?_|refine zq ?_|(case hg=>assumption))))
    ((first|apply g_ret|apply g_end);case hres => (simp only [smR];simp (disch := first|omega|exact kD rfl|exact kX rfl) only [smY,simprocAttr,bl,i64,smE,shp,ec_nil,undefL,undef];exact rfl))
    simp (disch := first|omega|exact kD rfl|exact kX rfl) only [smY,simprocAttr,bl,i64,smE,shp,ec_nil,undefL,undef]
   ·
    refine good_of_lwp mix Tryz.func55 rfl (by decide) (nt := 31) rfl (rs := [.cell 4 24,.tmp 5]) rfl (nle rfl) ?_
    (repeat (first|apply zO (by decide +kernel)|apply zP (by decide +kernel)|(apply zS;(case h=>constructor<;>decide))|((first|apply l_go rfl|apply c_dec|apply zT rfl (by decide) rfl);(case hs=>(simp (disch := first|omega|exact kD rfl|exact kX rfl) only [smY,simprocAttr,bl,i64,smE,shp,ec_nil,undefL,undef];exact rfl));first|refine c_bt ?_|refine c_bf ?_|refine zq ?_|(case hg=>assumption))))
    ((first|apply g_ret|apply g_end);case hres => (simp only [smR];simp (disch := first|omega|exact kD rfl|exact kX rfl) only [smY,simprocAttr,bl,i64,smE,shp,ec_nil,undefL,undef];exact rfl))
    simp (disch := first|omega|exact kD rfl|exact kX rfl) only [smY,simprocAttr,bl,i64,smE,shp,ec_nil,undefL,undef]
  ·by_cases h2 : L > 600
   ·simp only [i64,bl] at *
    refine ⟨0,[],2,by simp,?_,?_⟩
    ·
     refine good_of_lwp mix Tryz.func48 rfl (by decide) (nt := 31) rfl (rs := [.cell 4 24,.tmp 5]) rfl (nle rfl) ?_
     (repeat (first|apply zO (by decide +kernel)|apply zP (by decide +kernel)|(apply zS;(case h=>constructor<;>decide))|((first|apply l_go rfl|apply c_dec|apply zT rfl (by decide) rfl);(case hs=>(simp (disch := first|omega|exact kD rfl|exact kX rfl) only [smY,simprocAttr,bl,i64,smE,shp,ec_nil,undefL,undef];exact rfl));first|refine c_bt ?_|refine c_bf ?_|refine zq ?_|(case hg=>assumption))))
     ((first|apply g_ret|apply g_end);case hres => (simp only [smR];simp (disch := first|omega|exact kD rfl|exact kX rfl) only [smY,simprocAttr,bl,i64,smE,shp,ec_nil,undefL,undef];exact rfl))
     simp (disch := first|omega|exact kD rfl|exact kX rfl) only [smY,simprocAttr,bl,i64,smE,shp,ec_nil,undefL,undef]
    ·
     refine good_of_lwp mix Tryz.func55 rfl (by decide) (nt := 31) rfl (rs := [.cell 4 24,.tmp 5]) rfl (nle rfl) ?_
     (repeat (first|apply zO (by decide +kernel)|apply zP (by decide +kernel)|(apply zS;(case h=>constructor<;>decide))|((first|apply l_go rfl|apply c_dec|apply zT rfl (by decide) rfl);(case hs=>(simp (disch := first|omega|exact kD rfl|exact kX rfl) only [smY,simprocAttr,bl,i64,smE,shp,ec_nil,undefL,undef];exact rfl));first|refine c_bt ?_|refine c_bf ?_|refine zq ?_|(case hg=>assumption))))
     ((first|apply g_ret|apply g_end);case hres => (simp only [smR];simp (disch := first|omega|exact kD rfl|exact kX rfl) only [smY,simprocAttr,bl,i64,smE,shp,ec_nil,undefL,undef];exact rfl))
     simp (disch := first|omega|exact kD rfl|exact kX rfl) only [smY,simprocAttr,bl,i64,smE,shp,ec_nil,undefL,undef]
   ·obtain ⟨m,rfl⟩ : ∃ m : Nat,L = m := ⟨L.toNat,by omega⟩
    by_cases h3 : m % n = 0
    ·have gs := spread_etaP (t := 1) hx (show 1 ≤ m by omega) (by omega) (by rw [Nat.mul_one];exact h3)
     have gd := made_good (t := 1) hx (show 1 ≤ m by omega) (by omega) (by omega)
     have hz := mdL_len (divL m) (divL n) xs ((1 : Nat) : Int)
     rw [divL_length] at hz
     have h3' : ((m : Int)).tmod (n : Int) = 0 := by
      show ((m % n : Nat) : Int) = 0
      omega
     have l1 := divN_length_le m (by omega)
     generalize mdL (divL m) (divL n) xs ((1 : Nat) : Int) = Z at *
     rw [← hz] at gs gd
     refine ⟨m,Z,0,by omega,?_,?_⟩
     ·simp only [i64,bl] at *
      refine good_of_lwp mix Tryz.func48 rfl (by decide) (nt := 31) rfl (rs := [.cell 4 24,.tmp 5]) rfl (nle rfl) ?_
      (repeat (first|apply zO (by decide +kernel)|apply zP (by decide +kernel)|(apply zS;(case h=>constructor<;>decide))|((first|apply l_go rfl|apply c_dec|apply zT rfl (by decide) rfl);(case hs=>(simp (disch := first|omega|exact kD rfl|exact kX rfl) only [smY,simprocAttr,bl,i64,smE,shp,ec_nil,undefL,undef];exact rfl));first|refine c_bt ?_|refine c_bf ?_|refine zq ?_|(case hg=>assumption))))
      ((first|apply g_ret|apply g_end);case hres => (simp only [smR];simp (disch := first|omega|exact kD rfl|exact kX rfl) only [smY,simprocAttr,bl,i64,smE,shp,ec_nil,undefL,undef];exact rfl))
      simp (disch := first|omega|exact kD rfl|exact kX rfl) only [smY,simprocAttr,bl,i64,smE,shp,ec_nil,undefL,undef]
     ·simp only [i64,bl] at *
      refine good_of_lwp mix Tryz.func55 rfl (by decide) (nt := 31) rfl (rs := [.cell 4 24,.tmp 5]) rfl (nle rfl) ?_
      (repeat (first|apply zO (by decide +kernel)|apply zP (by decide +kernel)|(apply zS;(case h=>constructor<;>decide))|((first|apply l_go rfl|apply c_dec|apply zT rfl (by decide) rfl);(case hs=>(simp (disch := first|omega|exact kD rfl|exact kX rfl) only [smY,simprocAttr,bl,i64,smE,shp,ec_nil,undefL,undef];exact rfl));first|refine c_bt ?_|refine c_bf ?_|refine zq ?_|(case hg=>assumption))))
      ((first|apply g_ret|apply g_end);case hres => (simp only [smR];simp (disch := first|omega|exact kD rfl|exact kX rfl) only [smY,simprocAttr,bl,i64,smE,shp,ec_nil,undefL,undef];exact rfl))
      simp (disch := first|omega|exact kD rfl|exact kX rfl) only [smY,simprocAttr,bl,i64,smE,shp,ec_nil,undefL,undef]
    ·have h3' : ¬ ((m : Int)).tmod (n : Int) = 0 := by
      show ¬ ((m % n : Nat) : Int) = 0
      omega
     simp only [i64,bl] at *
     refine ⟨0,[],14,by simp,?_,?_⟩
     ·
      refine good_of_lwp mix Tryz.func48 rfl (by decide) (nt := 31) rfl (rs := [.cell 4 24,.tmp 5]) rfl (nle rfl) ?_
      (repeat (first|apply zO (by decide +kernel)|apply zP (by decide +kernel)|(apply zS;(case h=>constructor<;>decide))|((first|apply l_go rfl|apply c_dec|apply zT rfl (by decide) rfl);(case hs=>(simp (disch := first|omega|exact kD rfl|exact kX rfl) only [smY,simprocAttr,bl,i64,smE,shp,ec_nil,undefL,undef];exact rfl));first|refine c_bt ?_|refine c_bf ?_|refine zq ?_|(case hg=>assumption))))
      ((first|apply g_ret|apply g_end);case hres => (simp only [smR];simp (disch := first|omega|exact kD rfl|exact kX rfl) only [smY,simprocAttr,bl,i64,smE,shp,ec_nil,undefL,undef];exact rfl))
      simp (disch := first|omega|exact kD rfl|exact kX rfl) only [smY,simprocAttr,bl,i64,smE,shp,ec_nil,undefL,undef]
     ·
      refine good_of_lwp mix Tryz.func55 rfl (by decide) (nt := 31) rfl (rs := [.cell 4 24,.tmp 5]) rfl (nle rfl) ?_
      (repeat (first|apply zO (by decide +kernel)|apply zP (by decide +kernel)|(apply zS;(case h=>constructor<;>decide))|((first|apply l_go rfl|apply c_dec|apply zT rfl (by decide) rfl);(case hs=>(simp (disch := first|omega|exact kD rfl|exact kX rfl) only [smY,simprocAttr,bl,i64,smE,shp,ec_nil,undefL,undef];exact rfl));first|refine c_bt ?_|refine c_bf ?_|refine zq ?_|(case hg=>assumption))))
      ((first|apply g_ret|apply g_end);case hres => (simp only [smR];simp (disch := first|omega|exact kD rfl|exact kX rfl) only [smY,simprocAttr,bl,i64,smE,shp,ec_nil,undefL,undef];exact rfl))
      simp (disch := first|omega|exact kD rfl|exact kX rfl) only [smY,simprocAttr,bl,i64,smE,shp,ec_nil,undefL,undef]
 ·generalize etaErr lv xs = e at *
  simp only [i64,bl] at *
  refine ⟨0,[],e,by simp,?_,?_⟩
  ·
   refine good_of_lwp mix Tryz.func48 rfl (by decide) (nt := 31) rfl (rs := [.cell 4 24,.tmp 5]) rfl (nle rfl) ?_
   (repeat (first|apply zO (by decide +kernel)|apply zP (by decide +kernel)|(apply zS;(case h=>constructor<;>decide))|((first|apply l_go rfl|apply c_dec|apply zT rfl (by decide) rfl);(case hs=>(simp (disch := first|omega|exact kD rfl|exact kX rfl) only [smY,simprocAttr,bl,i64,smE,shp,ec_nil,undefL,undef];exact rfl));first|refine c_bt ?_|refine c_bf ?_|refine zq ?_|(case hg=>assumption))))
   ((first|apply g_ret|apply g_end);case hres => (simp only [smR];simp (disch := first|omega|exact kD rfl|exact kX rfl) only [smY,simprocAttr,bl,i64,smE,shp,ec_nil,undefL,undef];exact rfl))
   simp (disch := first|omega|exact kD rfl|exact kX rfl) only [smY,simprocAttr,bl,i64,smE,shp,ec_nil,undefL,undef]
  ·
   refine good_of_lwp mix Tryz.func55 rfl (by decide) (nt := 31) rfl (rs := [.cell 4 24,.tmp 5]) rfl (nle rfl) ?_
   (repeat (first|apply zO (by decide +kernel)|apply zP (by decide +kernel)|(apply zS;(case h=>constructor<;>decide))|((first|apply l_go rfl|apply c_dec|apply zT rfl (by decide) rfl);(case hs=>(simp (disch := first|omega|exact kD rfl|exact kX rfl) only [smY,simprocAttr,bl,i64,smE,shp,ec_nil,undefL,undef];exact rfl));first|refine c_bt ?_|refine c_bf ?_|refine zq ?_|(case hg=>assumption))))
   ((first|apply g_ret|apply g_end);case hres => (simp only [smR];simp (disch := first|omega|exact kD rfl|exact kX rfl) only [smY,simprocAttr,bl,i64,smE,shp,ec_nil,undefL,undef];exact rfl))
   simp (disch := first|omega|exact kD rfl|exact kX rfl) only [smY,simprocAttr,bl,i64,smE,shp,ec_nil,undefL,undef]
end Go.Proofs.YtbajpjjbaffnnaaGreat