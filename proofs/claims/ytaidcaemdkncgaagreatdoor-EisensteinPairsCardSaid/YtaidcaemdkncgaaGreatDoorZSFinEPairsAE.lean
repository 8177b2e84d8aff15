/- Contracts of functions of the program, and what proves them (texts: RQr4 RP3 RPb RPq). -/
import Derived.KernelRfl
import Derived.Test.YtaidcaemdkncgaaGreatDoorZSBH
import Derived.Test.YtaidcaemdkncgaaGreatDoorZSFinEPairsAA
import Derived.Test.YtaidcaemdkncgaaGreatDoorZSFinEPairsAB
import Derived.Test.YtaidcaemdkncgaaGreatDoorZSFinEPairsAC
import Derived.Test.YtaidcaemdkncgaaGreatDoorZSFinEPairsAD
set_option linter.all false
set_option maxRecDepth 100000
set_option maxHeartbeats 8000000
namespace Go.Proofs.YtaidcaemdkncgaaGreatDoor
section
open Go Go.Lg Go.Num
theorem cL7:∀ n∈[2,11,12,13,14,20,26,34,35,38,43,44,49,52,57],evk 103 [.lit (.int .i64 (.ofNat n))]=some (aG1 n):=by
 simp only[List.forall_mem_cons]
 (repeat' apply And.intro)
 all_goals first |exact List.forall_mem_nil _ |(as_aux_lemma=>kernel_rfl)
end
section
open Go Go.Lg Go.Num
theorem bW7 {n:Nat}(h:1≤n∧n≤60):evk 103 [.lit (.int .i64 (.ofNat n))]=some (aG1 n):=by
 have k:n∈[3,4,18,21,22,24,28,29,37,39,40,50,54,56,59]∨n∈[5,6,8,15,17,19,23,25,30,31,36,45,48,53,55]∨n∈[1,7,9,10,16,27,32,33,41,42,46,47,51,58,60]∨n∈[2,11,12,13,14,20,26,34,35,38,43,44,49,52,57]:=by
  have:((List.range' 1 60).all fun n=>decide (n∈[3,4,18,21,22,24,28,29,37,39,40,50,54,56,59]∨n∈[5,6,8,15,17,19,23,25,30,31,36,45,48,53,55]∨n∈[1,7,9,10,16,27,32,33,41,42,46,47,51,58,60]∨n∈[2,11,12,13,14,20,26,34,35,38,43,44,49,52,57]))=true:=by decide+kernel
  exact of_decide_eq_true (List.all_eq_true.1 this n (by rw[List.mem_range'_1];omega))
 rcases k with k |k |k |k
 ·exact cL4 n k
 ·exact cL5 n k
 ·exact cL6 n k
 ·exact cL7 n k
theorem bHi {args:List LV}{r:LV}(h:aJv args=some r):PGd 103 args r:=by
 unfold aJv at h;split at h
 ·rename_i n
  cases hb:(Nat.ble 1 n && Nat.ble n 60)with
  |false=>rw[hb]at h;cases h
  |true=>
   rw[hb,cond_true]at h
   cases h
   rw[Bool.and_eq_true,Nat.ble_eq,Nat.ble_eq]at hb
   exact bHh (bW7 hb)
 ·cases h
noncomputable def cH2 (f:FuncId) (args:List LV):Option LV:=bif Nat.beq f 197 then bHa args else bif Nat.beq f 103 then aJv args else bif Nat.beq f 199 then bHd args else rM f args
theorem bMr:eV Tryz.prog cH2:=aR (fun _ _=>bHc) (aR (fun _ _=>bHi) (aR (fun _ _=>bHe) gA))
end
section
open Go Go.Lg Go.Num
noncomputable def rpT (k:Int) (L:Nat) (d:Int):Option LV:=aWm Tryz.prog cH2 horc bK0 [33,18,290] 600 Tryz.f30.results.toList (aZ5 (aZ5 (aZ5 (bN6 Tryz.f30)))) Tryz.f30.ntmps [(1,.ptr 0 0)] [(0,⟨67,[.lit (.int .i64 (.ofNat L)),iL k,iL d],false⟩)] 1
def bHj:List Nat→List Nat→Bool
 |[],[]=>true
 |a::l,b::m=>Nat.beq a b && bHj l m
 |_,_=>false
theorem aMu:∀ {l m:List Nat},bHj l m=true→l=m
 |[],[],_=>rfl
 |a::l,b::m,h=>by
  unfold bHj at h;rw[Bool.and_eq_true,Nat.beq_eq]at h
  rw[h.1,aMu h.2]
def bMs:List Pr→List Pr→Bool
 |[],[]=>true
 |p::l,q::m=>Nat.beq p.n1 q.n1 && bHj p.v1 q.v1 && (Nat.beq p.n2 q.n2 && bHj p.v2 q.v2) && Nat.beq p.t q.t && bMs l m
 |_,_=>false
theorem aXh:∀ {l m:List Pr},bMs l m=true→l=m
 |[],[],_=>rfl
 |⟨a,b,c,d,e⟩::l,⟨a',b',c',d',e'⟩::m,h=>by
  unfold bMs at h;simp only[Bool.and_eq_true,Nat.beq_eq]at h;obtain⟨⟨⟨⟨rfl,h1⟩,rfl,h2⟩,rfl⟩,h3⟩:=h;rw[aMu h1,aMu h2,aXh h3]
noncomputable def aQp (two:Bool) (k:Int) (L:Nat) (d:Int):Bool:=match paT k L d,rpT k L d with
 |some (.tup [.sl N cs,.lit (.int .i64 (.ofNat e))]),some (.tup [.sl M ds,.lit (.int .i64 (.ofNat e'))])=>Nat.beq e 0 && Nat.beq e' 0 && (match aPr cs,aPr ds with
  |some l,some l'=>Nat.beq N l.length && Nat.beq M l'.length && bMs l l' && Nat.ble (dB l) 200 && Nat.ble l.length 200 && l.all (aH8 (ltI 0 d) two)
  |_,_=>false)
 |_,_=>false
end
section
open Go Go.Lg Go.Num
def rA (L:Nat) (d:Int):Prop:=∀ n:Nat,aQp false (.ofNat (n+3)) L d=true
def rB (L:Nat) (d:Int):Prop:=aQp true 2 L d=true
end
end Go.Proofs.YtaidcaemdkncgaaGreatDoor
