/- Contracts of functions of the program, and what proves them (texts: Awk3 Cls). -/
import Derived.Test.YtaidcaemdkncgaaGreatDoorRows
import Derived.WalkKit
import Derived.ProofKit
import Derived.OpenShut
import Derived.LaidMore
import Derived.Stop.Joined
import Derived.Test.YtaidcaemdkncgaaGreatDoorZSAM
import Derived.Test.YtaidcaemdkncgaaGreatDoorZSAN
set_option linter.all false
set_option maxRecDepth 100000
set_option maxHeartbeats 8000000
namespace Go.Proofs.YtaidcaemdkncgaaGreatDoor
section
open Go Go.Lg Go.Num
attribute [local irreducible] lrun lwp exThen exBlk keep goodPost sg mg bq
end
section
open Go Go.Lg Go.ChangeShapes Go.WideShapes Go.ChangeAt Go.RowKit
theorem own:ownKnob Tryz.prog.godebug=none:=by kernel_rfl
theorem cD7:Tryz.prog.globalNamed "math/bits.deBruijn64tab" =some 0:=by kernel_rfl
theorem cKc:(Tryz.prog.globals[0]?).map (·.type)=some 245:=by kernel_rfl
theorem cKd:Tryz.prog.underlying 245=some (.array 64 5):=by kernel_rfl
theorem uU8:Tryz.prog.underlying 5=some (.int .u8):=by kernel_rfl
theorem cU8:Tryz.prog.cellsOf 5=1:=by kernel_rfl
theorem cKe:Tryz.prog.cellsOf 245=64:=by kernel_rfl
theorem bDp:(Rows.laid_math_bits_deBruijn64tab:DataW Unit)= .agg (aIq.map fun(n:Nat)=> .lit (.int .u8 (n:Int))):=rfl
theorem aVg {W:World}(h:laidMetH Tryz.prog Rows.bernoulliCharactersRow.laid W):fN Tryz.prog (fun g=>g<W.heap.size) W.heap:=by
 have h':laidMet Tryz.prog [("math/bits.deBruijn64tab",Rows.laid_math_bits_deBruijn64tab)] W:=h
 obtain⟨ps,⟨g0,t0,cs0,f0,p0,q0,hg0,ht0,hv0,hd0,_,_⟩,_,_⟩:=h';obtain rfl:=Option.some.inj (cD7.symm.trans hg0);obtain rfl:=Option.some.inj (cKc.symm.trans ht0);obtain⟨xs,m1,rfl,hx1,hlen,hn3,hel⟩:=DataW.trod_array cKd hd0;rw[cKe]at hlen
 have hxs:xs.map (·.1)=aIq.map fun(n:Nat)=>(DataW.lit (.int .u8 (n:Int)):DataW Unit):=by
  have:=congrArg Prod.fst hx1;rw[bDp]at this
  simpa using this.symm
 refine⟨?_,fun p hp=>nomatch hp⟩;intro p hp
 have hp':p=(0,aIq.map fun(n:Nat)=>Value.int .u8 (n:Int)):=by
  have:Laid.mem Tryz.prog=[(0,aIq.map fun(n:Nat)=>Value.int .u8 (n:Int))]:=rfl;rw[this]at hp
  exact List.mem_singleton.1 hp
 subst hp'
 have hcell:∀ j (hj:j<64),cellAt W.heap 0 j=cs0[j]? :=by
  intro j hj;have:=World.var?_cell cD7 hv0 j;rw[← this,← aM0]
 refine⟨?_,?_,?_⟩
 ·have h0:=hcell 0 (by omega);have hs:cs0.size=64:=by simpa using hlen
  have:cs0[0]? =some cs0[0]:=by simp[hs]
  rw[this]at h0
  show 0<W.heap.size;unfold cellAt at h0
  cases hh:W.heap[0]? with
  |none=>rw[hh]at h0;cases h0
  |some o=>exact(Array.getElem?_eq_some_iff.1 hh).1
 ·intro u hu;obtain⟨n,_,rfl⟩:=List.mem_map.1 hu;rfl
 ·intro j u hu
  have hj:j<64:=by
   have:=(List.getElem?_eq_some_iff.1 hu).1;simpa[aIq]using this
  have h1:=hel j hj;have hxj:xs[j]? =some xs[j]:=by simp[hn3,hj]
  rw[cU8,hxj,Nat.mul_one]at h1
  obtain⟨n,e1,e2,_⟩:=DataW.trod_int uU8 h1;rw[hcell j hj]
  have e3:cs0.toList[j]? =some (.int .u8 n):=by
   have:((cs0.toList.drop j).take 1)[0]? =some (Value.int .u8 n):=by rw[e1];rfl
   simpa[List.getElem?_take,List.getElem?_drop]using this
  have e4:(xs.map (·.1))[j]? =some (DataW.lit (.int .u8 n)):=by
   rw[List.getElem?_map,hxj,Option.map_some,e2]
  rw[hxs,List.getElem?_map]at e4
  rw[List.getElem?_map]at hu
  obtain⟨a,ha,ea⟩:=Option.map_eq_some_iff.1 e4;rw[ha]at hu
  simp only[Option.map_some,Option.some.injEq]at hu;subst hu
  cases ea
  rw[← e3];simp
end
end Go.Proofs.YtaidcaemdkncgaaGreatDoor
