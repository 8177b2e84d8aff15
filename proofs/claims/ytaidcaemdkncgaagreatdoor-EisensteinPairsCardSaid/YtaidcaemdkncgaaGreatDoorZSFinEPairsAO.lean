/- Every call of 'EisensteinPairs' returns true and leaves its arguments as they were. The condition: the row's own (the listed table starts as the program's text lays it). -/
import Derived.Test.YtaidcaemdkncgaaGreatDoorCards
import Derived.Test.YtaidcaemdkncgaaGreatDoorTie
import Derived.SevenTiedAt
import Derived.Test.YtaidcaemdkncgaaGreatDoorZSBM
import Derived.Test.YtaidcaemdkncgaaGreatDoorZSFinEPairsAN
set_option linter.all false
set_option linter.unusedVariables false
set_option maxRecDepth 100000
set_option maxHeartbeats 8000000
namespace Go.Proofs.YtaidcaemdkncgaaGreatDoor.eisensteinPairs
open Go Go.Lg Go.ChangeShapes Go.WideShapes Go.ChangeAt Go.RowKit
theorem bW9 (sa0:Int) (sb0:Int) (sc0:Int) (wa0:(Lit.int .i64 sa0).wf=true) (wb0:(Lit.int .i64 sb0).wf=true) (wc0:(Lit.int .i64 sc0).wf=true) (v0:Value) (a1:Int) (w1:(Lit.int .i64 a1).wf=true) (w:World) (hr0:Rep (fun g=>g<w.heap.size) w.heap (fun _=>none) (.agg [.lit (.int .i64 sa0), .lit (.int .i64 sb0), .lit (.int .i64 sc0)]) v0) (hL:laidMetH Tryz.prog Rows.eisensteinPairsRow.laid w):
  Calls Tryz.prog 8 #[v0,.int .i64 a1] w fun e w'=>e= .returned (.bool true)∧w.keptBut w' (fun _=>False)∧∀ i,i<w.heap.size→w'.heap[i]? =w.heap[i]? :=by
 have hg:=aIg sa0 sb0 sc0 a1 (bounds_i64 wa0) (bounds_i64 wb0) (bounds_i64 wc0) (bounds_i64 w1);refine(hg.2 w (fun g=>g<w.heap.size) [v0,.int .i64 a1] (fun _ h=>h) (aVg hL) (Reps.cons hr0 (Reps.cons (.lit _) (Reps.nil)))).mono ?_;rintro e w' ⟨v,St',rfl,hr,_,_,h1,h2,h3,h4,h5⟩
 cases hr
 refine⟨rfl,⟨h1,h3,fun i hi=> ?_⟩,h5⟩;rw[h5 i hi];obtain⟨o,ho⟩:∃ o,w.heap[i]? =some o:=⟨w.heap[i],by simp[hi]⟩;rw[ho]
 cases o with
 |cells c t fr=>exact⟨rfl,rfl,rfl,fun _ _=>rfl⟩
 |map es clock=>exact .inr ⟨rfl,rfl⟩
 |_=>rfl
theorem aHk (os:Os) (args:Array Value):laidMetH Tryz.prog Rows.eisensteinPairsRow.laid ((World.doorLaid Tryz.prog 400 os).forCall (fun _ _=>0) ⟨#[],args,[]⟩).memory:=
 laidMetH_of_parts3 (fuel:=8) (laidMet_of_run' 8 (by kernel_rfl) (by kernel_rfl)) (by kernel_rfl) (by kernel_rfl)
theorem aUa (os:Os) (started:os.Started) (H:Type) (enc:TypeId×Value→H):
  ReturnsInHanded {} Tryz.checked os 8 .any (fun w args=>(Rows.eisensteinPairsSpec.pre enc Tryz.prog Tryz.f8 [] false w args∧laidMetH Tryz.prog Rows.eisensteinPairsRow.laid w)∧sizedMet enc Tryz.prog Tryz.f8 (OpenSpec.ofChange Rows.eisensteinPairsSpec) false w args)
   (Rows.eisensteinPairsSpec.post enc Tryz.prog Tryz.f8 false true false false):=by
 refine returnsInHanded_of_change_and (C:=Tryz.checked) (X:=fun w _=>laidMetH Tryz.prog Rows.eisensteinPairsRow.laid w) (fun _ _ _ hh h=>h.of_heap hh) own started (by kernel_rfl) Tryz.func8
  (ChangeSpec.witness_shaped (enc:=enc) (C:=Tryz.checked) (os:=os) (X:=fun w _=>laidMetH Tryz.prog Rows.eisensteinPairsRow.laid w) false (World.doorLaid Tryz.prog 400 os) #[.agg #[.int .i64 0,.int .i64 0,.int .i64 0],.int .i64 0] 8 rfl (World.shaped_of_RefB (by kernel_rfl) (by kernel_rfl)) (by kernel_rfl) (by kernel_rfl) (by kernel_rfl) (aHk os _)) ?_
 intro W base args ds gs before hval0 hW _ _ hL _;have hval:∀ (j:Nat) t v,Tryz.f8.params[j]? =some t→args[j]? =some v→Value.okWide Tryz.prog W .any base t v:=hval0;have hW':=hW;obtain⟨p,q,hA0,hV,rfl,hfz,hnd⟩:=hW;have hA:DataW.TrodAll enc Tryz.prog W 0 (fun _=>true) true Tryz.f8.params.toList args.toList ds p:=hA0;rw[Tryz.params8]at hA hval
 obtain⟨v0,vs0,d0,ds0,p0,q0,hargs0,rfl,rfl,h0,r0⟩:=trodAll_cons hA;obtain⟨v1,vs1,d1,ds1,p1,q1,hargs1,rfl,rfl,h1,r1⟩:=trodAll_cons r0;obtain⟨rfl,rfl,rfl⟩:=trodAll_nil r1;obtain rfl:args= #[v0,v1]:=by cases args;simp_all
 obtain⟨rfl,rfl⟩:=trodVars_none hV;obtain⟨sa0,sb0,sc0,wa0,wb0,wc0,bBg,re0⟩:=aJ7 (hval 0 67 v0 rfl rfl) h0;obtain⟨a1,rfl,rfl,rfl,w1⟩:=open_int Tryz.underlying3 (hval 1 3 v1 rfl rfl) h1;clear hA0 hval0;simp only[List.append_nil]at hW';refine(bW9 sa0 sb0 sc0 wa0 wb0 wc0 v0 a1 w1 W bBg hL).mono fun e W' ⟨he,hk,hsame⟩=> ?_
 subst he;obtain⟨pa0,ha0⟩:=re0 W' hsame;refine⟨_,rfl,_,_,_,[],(pa0++([]++[])),[],hW',?_,?_,?_,World.keptBut_mono (fun _ h=>h.elim) hk,fun h=>by cases h⟩
 ·exact trodAll_cons_mk (shut_bool Tryz.underlying4 _) trodAll_mk0
 ·exact(trodAll_cons_mk ha0 (trodAll_cons_mk (shut_int Tryz.underlying3 w1) trodAll_mk0))
 ·rfl
theorem jj {a b:Bool}(h:a=true) (g:b=true):(a && b)=true:=by rw[h,g];rfl
theorem aUb:joinedFacts Tryz.pinned.checked.prog 8 Tryz.f8 Rows.eisensteinPairsSpec Rows.eisensteinPairsRow=true:=by
 unfold joinedFacts;repeat' (with_reducible refine jj ?_ ?_)
 all_goals as_aux_lemma=>kernel_rfl
theorem named:Tryz.pinned.checked.prog.funcNamed Rows.eisensteinPairsRow.func=some 8:=by kernel_rfl
theorem bXa:Tryz.f8.isInstance Tryz.pinned.checked.prog Rows.eisensteinPairsRow.origin Rows.eisensteinPairsRow.targs:=of_decide_eq_true (by kernel_rfl)
theorem wrap:Tryz.f8.isWrapper Tryz.pinned.checked.prog Rows.eisensteinPairsRow.wrapper Rows.eisensteinPairsRow.mainSum:=by unfold Func.isWrapper;first |(rw[if_pos (by decide+kernel)];kernel_rfl) |(rw[if_neg (by decide+kernel)];exact⟨rfl,rfl⟩)
theorem over:Rows.EisensteinPairsSaid:=
 OpenClaim.holds_of_wide 8 Tryz.f8 rfl rfl rfl rfl rfl rfl rfl ⟨rfl,rfl,rfl,rfl,rfl⟩ rfl rfl rfl rfl rfl named Tryz.func8 aUb
  bXa wrap (fun os started H enc _=>aUa os started H enc)
theorem hw:Rows.eisensteinPairsRow.wfByText (OpenSpec.ofChange Rows.eisensteinPairsSpec)=true:=by kernel_rfl
theorem hm:Tryz.pinned.checked.prog.mainIs=some (true,"c8a0186bfe35e414c40a27484d40a863bdb042bf8102b263c69c9d60748783d6".toList):=by kernel_rfl
theorem lks:false=Tryz.pinned.checked.prog.looks []:=by kernel_rfl
theorem hg:false=Rows.eisensteinPairsRow.goesBy Tryz.pinned.checked.prog:=by kernel_rfl
end Go.Proofs.YtaidcaemdkncgaaGreatDoor.eisensteinPairs
namespace Go.Proofs.YtaidcaemdkncgaaGreatDoor
open Go
theorem eisensteinPairs_card:Rows.EisensteinPairsCardSaid:=
 Claim7.holds_tied_plain_at .later [] [.data] true (true,"c8a0186bfe35e414c40a27484d40a863bdb042bf8102b263c69c9d60748783d6") false
  eisensteinPairs.over (fun _ h=>by cases h) eisensteinPairs.hw (fun _ h=>by cases h) eisensteinPairs_row_tie rfl ⟨rfl,rfl⟩ eisensteinPairs.hm rfl
  (fun f fn hf hfn=>by
   obtain rfl:f=8:=Option.some.inj (eisensteinPairs.named.symm.trans hf) |>.symm
   obtain rfl:fn=Tryz.f8:=(Option.some.inj (Tryz.func8.symm.trans hfn)).symm
   exact⟨eisensteinPairs.lks,fun j t ht=>by
    rw[Tryz.params8]at ht
    have hm:t∈[67,3]:=by simpa using Array.mem_of_getElem? ht
    have hall:([67,3].all fun u=> !Tryz.prog.wantsStandIn u)=true:=by kernel_rfl
    exact(show Tryz.prog.wantsStandIn t=false by simpa using List.all_eq_true.1 hall t hm)⟩)
  eisensteinPairs.hg
end Go.Proofs.YtaidcaemdkncgaaGreatDoor
