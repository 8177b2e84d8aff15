/- Contracts of functions of the program, and what proves them (texts: SP). -/
import Derived.KernelRfl
import Derived.Test.YtbajpjjbaffnnaaGreatZAD
import Derived.Test.YtbajpjjbaffnnaaGreatZAP
import Derived.Test.YtbajpjjbaffnnaaGreatZBS
set_option linter.all false
namespace Go.Proofs.YtbajpjjbaffnnaaGreat
open Go Go.Lg Go.Num
set_option maxRecDepth 100000
set_option maxHeartbeats 4000000
theorem c_lookup {P : Program} [Laid P] {id : Nat} {ok : Nat → Bool} {s : LS} (t : TypeId) (x ix : Operand) (ok2 : Bool) : compute P id ok (.lookup t x ix ok2) s = match ok2, opnd s x, opnd s ix with
  | false,.lit (.map (some g)),.lit (.int .i64 i) => if mapIntL P t = true then ((Laid.maps P).find? (fun p => p.1 == g)).map fun p => .val (.lit (.int .i64 (mapAt p.2 i))) else none
  | _,_,_ => none := rfl
theorem y_lookup {t : TypeId} {x ix : Operand} {b : Bool} : isCall (.lookup t x ix b) = false := rfl
theorem mapInt_ok : mapIntL Tryz.prog 154 = true := by kernel_rfl
def mE (D : List Int) (k : Nat) : List (Int × Int) := (List.range k).map fun j => (D.getD j 0,(j : Int))
theorem mE_succ (D : List Int) (k : Nat) : mE D (k + 1) = mE D k ++ [(D.getD k 0,(k : Int))] := by simp [mE,List.range_succ]
theorem mE_new {D : List Int} {k : Nat} (h : ∀ j,j < k → D.getD j 0 ≠ D.getD k 0) : ((mE D k).all fun p => D.getD k 0 != p.1) = true := by
 simp only [mE,List.all_map,List.all_eq_true,List.mem_range,Function.comp_apply,bne_iff_ne]
 exact fun j hj e => h j hj e.symm
theorem mapAt_bd (D : List Int) (k : Nat) (v : Int) (hk : 0 < k) : ∃ j : Nat,mapAt (mE D k) v = (j : Int) ∧ j < k := by
 unfold mapAt
 cases h : (mE D k).find? (fun p => v == p.1) with
 | none => exact ⟨0,rfl,hk⟩
 | some p =>
   have hm := List.mem_of_find?_eq_some h
   simp only [mE,List.mem_map,List.mem_range] at hm
   obtain ⟨j,hj,rfl⟩ := hm
   exact ⟨j,rfl,hj⟩
def spF (D E xs : List Int) (t : Int) : Nat → List Int
 | 0 => List.replicate D.length 0
 | i + 1 => (spF D E xs t i).set (mapAt (mE D D.length) (E.getD i 0 * t)).toNat (xs.getD i 0)
theorem spF_len (D E xs : List Int) (t : Int) : ∀ i,(spF D E xs t i).length = D.length
 | 0 => by simp [spF]
 | i + 1 => by rw [spF,List.length_set,spF_len D E xs t i]
theorem lrun_end {P : Program} [Laid P] {mu : Bool} {base : Nat} {ok : Nat → Nat → Bool} {ops : Array Oper} {i : Nat} {s : LS} {K : LS → Prop} (h : K s) : lrun P mu base ok ops i [] s K := h
attribute [local irreducible] Go.Lg.lrun Go.Lg.lwp Go.Lg.exThen Go.Lg.exBlk Go.Lg.keep Go.Lg.goodPost ec
theorem spread_new {n m t : Int} {D E xs : List Int} (hD : PureGood Tryz.prog 64 [i64 m] (.sl D.length (ec D))) (hE : PureGood Tryz.prog 64 [i64 n] (.sl E.length (ec E))) (hnd : ∀ i j, i < j → j < D.length → D.getD i 0 ≠ D.getD j 0)
  (hxs : xs.length = E.length) (hDl : 0 < D.length ∧ D.length ≤ 1000) (hEl : E.length ≤ 1000) (hb : ∀ i,i < E.length → 0 ≤ E.getD i 0 * t ∧ E.getD i 0 * t ≤ 1000000) :
  NewGood Tryz.prog 103 [.agg [i64 n,.sl xs.length (ec xs)],i64 m,i64 t] D.length 1 3 (ec (spF D E xs t E.length)) := by
 simp only [i64] at *
 generalize hk : D.length = k at *
 refine new_of_mw Tryz.func103 rfl (by decide) (nt := 53) rfl (rs := [.tmp 6]) rfl (nle rfl) (ec_plain' _) ?_
 intro w0 St0 hL hSt
 refine MW.seq (MW.seg mix hL hSt ?_)
 (repeat (first|apply zO (by decide +kernel)|apply zP (by decide +kernel)|(apply zS;(case h=>constructor<;>decide))|((first|apply l_go rfl|apply c_dec|apply zT rfl (by decide) rfl);(case hs=>(simp (disch := first|omega|exact kD rfl|exact kX rfl) only [smY,simprocAttr,bl,i64,smE];exact rfl));first|refine c_bt ?_|refine c_bf ?_|refine zq ?_|(case hg=>assumption))))
 show MW _ _ _ _ _ _ _
 refine MW.seq (MW.seg mix hL hSt ?_)
 (repeat (first|apply zO (by decide +kernel)|apply zP (by decide +kernel)|(apply zS;(case h=>constructor<;>decide))|((first|apply l_go rfl|apply c_dec|apply zT rfl (by decide) rfl);(case hs=>(simp (disch := first|omega|exact kD rfl|exact kX rfl) only [smY,simprocAttr,bl,i64,smE];exact rfl));first|refine c_bt ?_|refine c_bf ?_|refine zq ?_|(case hg=>assumption))))
 show MW _ _ _ _ _ _ _
 refine MW.seq (MW.make hL hSt rfl rfl rfl (nle rfl) rfl (fun g => ?_))
 dsimp only [LS.put]
 (repeat (first|apply zO (by decide +kernel)|apply zP (by decide +kernel)|(apply zS;(case h=>constructor<;>decide))|((first|apply l_go rfl|apply c_dec|apply zT rfl (by decide) rfl);(case hs=>(simp (disch := first|omega|exact kD rfl|exact kX rfl) only [smY,simprocAttr,bl,i64,smE];exact rfl));first|refine c_bt ?_|refine c_bf ?_|refine zq ?_|(case hg=>assumption))))
 refine lrun_end ?_
 dsimp only
 refine MW.seq (MW.seq (MW.seg mix hL hSt ?_))
 (repeat (first|apply zO (by decide +kernel)|apply zP (by decide +kernel)|(apply zS;(case h=>constructor<;>decide))|((first|apply l_go rfl|apply c_dec|apply zT rfl (by decide) rfl);(case hs=>(simp (disch := first|omega|exact kD rfl|exact kX rfl) only [smY,simprocAttr,bl,i64,smE];exact rfl));first|refine c_bt ?_|refine c_bf ?_|refine zq ?_|(case hg=>assumption))))
 show MW _ _ _ _ _ _ _
 refine MW.block (MW.loop (α := {i : Nat // i ≤ k}) (fun i => st 53 (lk [(2,.lit (.int .i64 t)),(3,.ptr 0 0),(7,.own 1 0 k 1),(8,.lit (.map (some g))),(19,.sl k (ec D)),(20,.lit (.int .i64 k)),(21,.lit (.int .i64 i.1))]) (lkH [(0,⟨24,[.lit (.int .i64 n),.sl xs.length (ec xs)],false⟩),(1,⟨3,List.replicate k (.lit (.int .i64 0)),false⟩)]) 2) (fun i => some (g,mE D i.1)) (fun i => k - i.1) ⟨0,by omega⟩ ?_ rfl ?_)
 ·(refine Sub.heapL [0,5] rfl (by decide) ?_ (by simp only [smL];decide) ?_ ?_;all_goals (first|(simp only [plainC,smF,dg,renL,renLs,simprocAttr,bl,i64,smE];done) | (simp only [smF,dg,renL,renLs,simprocAttr,bl,i64,smE];(repeat' apply And.intro);all_goals rfl) | (simp only [smF,dg,renL,renLs,simprocAttr,bl,i64,smE]) | skip))
  exact ⟨⟨rfl,rfl⟩,fun c hc => by rw [List.eq_of_mem_replicate hc];rfl⟩
 ·rintro ⟨i,hi⟩
  simp only [st]
  by_cases hlt : i < k
  ·refine MW.seq (MW.seg mix hL hSt ?_)
   (repeat (first|apply zO (by decide +kernel)|apply zP (by decide +kernel)|(apply zS;(case h=>constructor<;>decide))|((first|apply l_go rfl|apply c_dec|apply zT rfl (by decide) rfl);(case hs=>(simp (disch := first|omega|exact kD rfl|exact kX rfl) only [smY,simprocAttr,bl,i64,smE];exact rfl));first|refine c_bt ?_|refine c_bf ?_|refine zq ?_|(case hg=>assumption))))
   show MW _ _ _ _ _ _ _
   refine MW.seq (MW.seg mix hL hSt ?_)
   (repeat (first|apply zO (by decide +kernel)|apply zP (by decide +kernel)|(apply zS;(case h=>constructor<;>decide))|((first|apply l_go rfl|apply c_dec|apply zT rfl (by decide) rfl);(case hs=>(simp (disch := first|omega|exact kD rfl|exact kX rfl) only [smY,simprocAttr,bl,i64,smE];exact rfl));first|refine c_bt ?_|refine c_bf ?_|refine zq ?_|(case hg=>assumption))))
   show MW _ _ _ _ _ _ _
   refine MW.seq (MW.block (MW.seq (MW.seg mix hL hSt ?_)))
   (repeat (first|apply zO (by decide +kernel)|apply zP (by decide +kernel)|(apply zS;(case h=>constructor<;>decide))|((first|apply l_go rfl|apply c_dec|apply zT rfl (by decide) rfl);(case hs=>(simp (disch := first|omega|exact kD rfl|exact kX rfl) only [smY,simprocAttr,bl,i64,smE];exact rfl));first|refine c_bt ?_|refine c_bf ?_|refine zq ?_|(case hg=>assumption))))
   show MW _ _ _ _ _ _ _
   refine MW.update (last := 3) (x := D.getD i 0) (y := i) hL hSt rfl rfl rfl rfl rfl mapInt_ok ?_
   (repeat (first|apply zO (by decide +kernel)|apply zP (by decide +kernel)|(apply zS;(case h=>constructor<;>decide))|((first|apply l_go rfl|apply c_dec|apply zT rfl (by decide) rfl);(case hs=>(simp (disch := first|omega|exact kD rfl|exact kX rfl) only [smY,simprocAttr,bl,i64,smE];exact rfl));first|refine c_bt ?_|refine c_bf ?_|refine zq ?_|(case hg=>assumption))))
   refine lrun_end ?_
   dsimp only
   refine ⟨by simp (disch := first|omega|exact kD rfl|exact kX rfl) only [smY,simprocAttr,bl,i64,smE],by simp (disch := first|omega|exact kD rfl|exact kX rfl) only [smY,simprocAttr,bl,i64,smE],by simp (disch := first|omega|exact kD rfl|exact kX rfl) only [smY,simprocAttr,bl,i64,smE],mE_new (fun j hj => hnd j i hj hlt),?_⟩
   rw [← mE_succ]
   refine MW.seg mix hL hSt ?_
   (repeat (first|apply zO (by decide +kernel)|apply zP (by decide +kernel)|(apply zS;(case h=>constructor<;>decide))|((first|apply l_go rfl|apply c_dec|apply zT rfl (by decide) rfl);(case hs=>(simp (disch := first|omega|exact kD rfl|exact kX rfl) only [smY,simprocAttr,bl,i64,smE];exact rfl));first|refine c_bt ?_|refine c_bf ?_|refine zq ?_|(case hg=>assumption))))
   refine ⟨⟨i + 1,by omega⟩,?_,rfl,by simp only;omega⟩
   (refine Sub.heapL [0,1] rfl (by decide) ?_ (by simp only [smL];decide) ?_ ?_;all_goals (first|(simp only [plainC,smF,dg,renL,renLs,simprocAttr,bl,i64,smE];done) | (simp only [smF,dg,renL,renLs,simprocAttr,bl,i64,smE];(repeat' apply And.intro);all_goals rfl) | (simp only [smF,dg,renL,renLs,simprocAttr,bl,i64,smE]) | skip))
   all_goals exact ⟨⟨rfl,rfl⟩,fun c hc => by rw [List.eq_of_mem_replicate hc];rfl⟩
  ·obtain rfl : i = k := by omega
   refine MW.seq (MW.seg mix hL hSt ?_)
   (repeat (first|apply zO (by decide +kernel)|apply zP (by decide +kernel)|(apply zS;(case h=>constructor<;>decide))|((first|apply l_go rfl|apply c_dec|apply zT rfl (by decide) rfl);(case hs=>(simp (disch := first|omega|exact kD rfl|exact kX rfl) only [smY,simprocAttr,bl,i64,smE];exact rfl));first|refine c_bt ?_|refine c_bf ?_|refine zq ?_|(case hg=>assumption))))
   show MW _ _ _ _ _ _ _
   refine MW.seq (MW.seg mix hL hSt ?_)
   (repeat (first|apply zO (by decide +kernel)|apply zP (by decide +kernel)|(apply zS;(case h=>constructor<;>decide))|((first|apply l_go rfl|apply c_dec|apply zT rfl (by decide) rfl);(case hs=>(simp (disch := first|omega|exact kD rfl|exact kX rfl) only [smY,simprocAttr,bl,i64,smE];exact rfl));first|refine c_bt ?_|refine c_bf ?_|refine zq ?_|(case hg=>assumption))))
   simp only [if_true]
   refine MW.fin mix hL hSt ?_
   have hE1 := good_laidW (mp := [(g,mE D i)]) hE rfl
   have hmp : @Laid.maps Tryz.prog (laidW Tryz.prog inferInstance [(g,mE D i)]) = [(g,mE D i)] := rfl
   generalize laidW Tryz.prog _ [(g,mE D i)] = L1 at *
   clear hE hD hL
   (repeat (first|apply zO (by decide +kernel)|apply zP (by decide +kernel)|(apply zS;(case h=>constructor<;>decide))|((first|apply l_go rfl|apply c_dec|apply zT rfl (by decide) rfl);(case hs=>(simp (disch := first|omega|exact kD rfl|exact kX rfl) only [smY,simprocAttr,bl,i64,smE];exact rfl));first|refine c_bt ?_|refine c_bf ?_|refine zq ?_|(case hg=>assumption))))
   have hrep : List.replicate i (LV.lit (.int .i64 0)) = ec (spF D E xs t 0) := by rw [spF,hk,ec,List.map_replicate]
   rw [hrep]
   refine w_loop (α := {j : Nat // j ≤ E.length}) (fun j => st 53 (lk [(2,.lit (.int .i64 t)),(3,.ptr 0 0),(7,.own 1 0 i 1),(8,.lit (.map (some g))),(32,.sl E.length (ec E)),(33,.lit (.int .i64 E.length)),(34,.lit (.int .i64 j.1))]) (lkH [(0,⟨24,[.lit (.int .i64 n),.sl xs.length (ec xs)],false⟩),(1,⟨3,ec (spF D E xs t j.1),false⟩)]) 2) (fun j => E.length - j.1) ⟨0,by omega⟩ ?_ ?_
   ·(refine Sub.heapL [0,1] rfl (by decide) ?_ (by simp only [smL];decide) ?_ ?_;all_goals (first|(simp only [plainC,smF,dg,renL,renLs,simprocAttr,bl,i64,smE];done) | (simp only [smF,dg,renL,renLs,simprocAttr,bl,i64,smE];(repeat' apply And.intro);all_goals rfl) | (simp only [smF,dg,renL,renLs,simprocAttr,bl,i64,smE]) | skip))
    all_goals trace_state
   ·rintro ⟨j,hj⟩
    simp only [st]
    by_cases hjl : j < E.length
    ·obtain ⟨p,hp1,hp2⟩ := mapAt_bd D i (E.getD j 0 * t) hDl.1
     have hsl := spF_len D E xs t j
     have hsn : spF D E xs t (j + 1) = (spF D E xs t j).set p (xs.getD j 0) := by rw [spF,hk,hp1];rfl
     have hbj := hb j hjl
     have hfd : List.find? (fun p : Nat × List (Int × Int) => p.1 == g) [(g,mE D i)] = some (g,mE D i) := by simp
     rw [hk] at hsl
     generalize hS : spF D E xs t j = S at *
     (repeat (first|apply zO (by decide +kernel)|apply zP (by decide +kernel)|(apply zS;(case h=>constructor<;>decide))|((first|apply l_go rfl|apply c_dec|apply zT rfl (by decide) rfl);(case hs=>(simp (disch := first|omega|exact kD rfl|exact kX rfl) only [smY,simprocAttr,bl,i64,smE,c_lookup,y_lookup,hmp,mapInt_ok,hp1,hsl,hxs,hfd,Option.map_some];exact rfl));first|refine c_bt ?_|refine c_bf ?_|refine zq ?_|(case hg=>assumption))))
     refine ⟨⟨j + 1,by omega⟩,?_,by simp only;omega⟩
     rw [hsn]
     (refine Sub.heapL [0,1] rfl (by decide) ?_ (by simp only [smL];decide) ?_ ?_;all_goals (first|(simp only [plainC,smF,dg,renL,renLs,simprocAttr,bl,i64,smE];done) | (simp only [smF,dg,renL,renLs,simprocAttr,bl,i64,smE];(repeat' apply And.intro);all_goals rfl) | (simp only [smF,dg,renL,renLs,simprocAttr,bl,i64,smE]) | skip))
     all_goals (first | done | rw [hxs])
    ·obtain rfl : j = E.length := by omega
     have hsl := spF_len D E xs t E.length
     rw [hk] at hsl
     generalize spF D E xs t E.length = S at *
     (repeat (first|apply zO (by decide +kernel)|apply zP (by decide +kernel)|(apply zS;(case h=>constructor<;>decide))|((first|apply l_go rfl|apply c_dec|apply zT rfl (by decide) rfl);(case hs=>(simp (disch := first|omega|exact kD rfl|exact kX rfl) only [smY,simprocAttr,bl,i64,smE];exact rfl));first|refine c_bt ?_|refine c_bf ?_|refine zq ?_|(case hg=>assumption))))
     (apply n_ret;(case hres => (simp only [smR];simp (disch := first|omega|exact kD rfl|exact kX rfl) only [smY,simprocAttr,bl,i64,smE];exact rfl));(case h0 => (simp only [smF,dg,renL,renLs,simprocAttr,bl,i64,smE];exact rfl));(case hf => rfl))
     rfl
end Go.Proofs.YtbajpjjbaffnnaaGreat