/- Contracts of functions of the program, and what proves them (texts: EAz Lg28 DMo DM2). -/
import Derived.Test.YtaidcaemdkncgaaGreatDoorZSAP
import Derived.Test.YtaidcaemdkncgaaGreatDoorZSAR
import Derived.Test.YtaidcaemdkncgaaGreatDoorZSAU
import Derived.Test.YtaidcaemdkncgaaGreatDoorZSAV
import Derived.Test.YtaidcaemdkncgaaGreatDoorZSAW
import Derived.Test.YtaidcaemdkncgaaGreatDoorZSAX
import Derived.Test.YtaidcaemdkncgaaGreatDoorZSAY
import Derived.Test.YtaidcaemdkncgaaGreatDoorZSAZ
import Derived.Test.YtaidcaemdkncgaaGreatDoorZSBA
import Derived.Test.YtaidcaemdkncgaaGreatDoorZSBB
import Derived.Test.YtaidcaemdkncgaaGreatDoorZSBC
set_option linter.all false
set_option maxRecDepth 100000
set_option maxHeartbeats 8000000
namespace Go.Proofs.YtaidcaemdkncgaaGreatDoor
open Go Go.Lg Go.Num
def seL:List (List (Nat×Nat)):=[[(2,0),(12,0),(17,0),(17,1),(25,0),(25,1),(40,0),(40,1),(54,0),(54,1),(59,0),(59,1),(59,2),(59,3),(59,4),(59,5)],[(1,0),(7,0),(16,0),(21,0),(21,1),(27,0),(27,1),(31,0),(31,1),(31,2),(45,0),(45,1),(45,2),(53,0),(53,1),(53,2),(53,3),(53,4),(53,5)],[(10,0),(24,0),(26,0),(26,1),(42,0),(42,1),(46,0),(46,1),(46,2),(55,0),(55,1),(55,2),(55,3),(60,0),(60,1)],[(11,0),(13,0),(13,1),(28,0),(28,1),(33,0),(33,1),(37,0),(37,1),(37,2),(37,3),(44,0),(44,1),(49,0),(49,1),(49,2),(49,3),(49,4)],[(4,0),(8,0),(15,0),(23,0),(23,1),(23,2),(32,0),(32,1),(39,0),(39,1),(39,2),(52,0),(52,1),(52,2),(57,0),(57,1),(57,2),(57,3)],[(14,0),(19,0),(19,1),(20,0),(35,0),(35,1),(35,2),(36,0),(36,1),(47,0),(47,1),(47,2),(47,3),(47,4),(58,0),(58,1),(58,2)],[(3,0),(9,0),(22,0),(29,0),(29,1),(29,2),(30,0),(41,0),(41,1),(41,2),(41,3),(43,0),(43,1),(43,2),(43,3),(43,4),(48,0),(48,1)],[(5,0),(6,0),(18,0),(34,0),(34,1),(38,0),(38,1),(50,0),(50,1),(51,0),(51,1),(51,2),(51,3),(56,0),(56,1),(56,2)]]
theorem bLw:∀ l∈seL,∀ p∈l,pS p=true:=by
 intro l hl;simp only[seL,List.mem_cons,List.not_mem_nil,or_false]at hl;rcases hl with rfl |rfl |rfl |rfl |rfl |rfl |rfl |rfl
 ·exact cK6
 ·exact cK7
 ·exact cK8
 ·exact cK9
 ·exact cLa
 ·exact cLb
 ·exact cLc
 ·exact cLd
theorem bLx:((List.range' 1 60).all fun n=>(List.range (((gE (od n)).length+9) / 10)).all fun j=>seL.any fun l=>l.contains (n,j))=true:=by decide+kernel
theorem aGz {n:Nat}(h1:1≤n) (h2:n≤60) {v:List Nat}(hv:v∈gE (od n)):aPl n v=true:=by
 have g:=List.all_eq_true.1 bLx n (by rw[List.mem_range'_1];omega)
 have h:=aJd (l:=gE (od n)) (f:=aPl n) 10 (((gE (od n)).length+9) / 10) (by omega) (fun j hj=>by
  obtain⟨l,hl,hp⟩:=List.any_eq_true.1 (List.all_eq_true.1 g j (List.mem_range.2 hj))
  exact bLw l hl (n,j) (List.contains_iff_mem.1 hp))
 exact List.all_eq_true.1 h v hv
end Go.Proofs.YtaidcaemdkncgaaGreatDoor
namespace Go.Lg
open Go
section
variable {P:Program}[Laid P] {orc:FuncId→List LV→Option LV}{horc:Callf}{mode:FuncId→Nat}{bad:List Nat}
attribute [local irreducible] evC aSq
def ofL:List (Nat×LV)→Tr
 |[]=> .nil
 |(j,v)::L=>uN (xW v) (xX j j) (ofL L)
theorem bFt:∀ L,lkF (ofL L)=lk L
 |[]=>funext fun i=>aUr i
 |(j,v)::L=>by rw[ofL,aKw,bFt L];rfl
theorem aWl:∀ H,yS H=cG H
 |[]=>rfl
 |(j,v)::H=>by rw[iD,aWl H];rfl
noncomputable def aWm (P:Program) [Laid P] (orc:FuncId→List LV→Option LV) (horc:Callf) (mode:FuncId→Nat) (bad:List Nat) (d:Nat) (rs:List ResultVar) (c:Code) (nt:Nat) (L:List (Nat×LV)) (H:List (Nat×Blk)) (nb:Nat):Option LV:=
 match bKg P 0 rs (evC P orc mode (aSq P orc horc mode bad d) c ⟨nt,ofL L,H,nb⟩)with
 |some (r,hp,_)=>pvF hp r
 |none=>none
theorem aG0 (hmix:P.follows .mixedOrders=true) (ho:eV P orc) (hh:qK P horc) (hB:zQ P bad) {d na nt nb:Nat}{rs:List ResultVar}{c:Code}{L:List (Nat×LV)}{H:List (Nat×Blk)}{r:LV}(hd:fP c=true) (h:aWm P orc horc mode bad d rs c nt L H nb=some r):lwp P na c (goodPost P rs r) ⟨nt,lk L,cG H,nb⟩:=by
 unfold aWm at h;split at h
 ·rename_i r0 hp nb' hcf;rw[aR3]at h
  obtain⟨⟨r',F⟩,hpv,rfl⟩:=Option.map_eq_some_iff.1 h
  have fin:∀ (e:Exit) (t:ES),evC P orc mode (aSq P orc horc mode bad d) c ⟨nt,ofL L,H,nb⟩=some (e,t)→(e= .ret∨e= .normal)→aYi P 0 rs t=some (r0,hp,nb')→lwp P na c (goodPost P rs r') ⟨nt,lk L,cG H,nb⟩:=by
   intro e t he hret hr;unfold aYi at hr;split at hr
   ·rename_i r1 hres;rw[show Nat.ble 0 t.nb=true from Nat.ble_eq_true_of_le (Nat.zero_le _),cond_true]at hr
    cases hr
    have key:=aI1 (na:=na) ho (yJ hmix ho hh hB d) c hd ⟨nt,ofL L,H,nb⟩ t e (goodPost P rs r') he (by rcases hret with rfl |rfl <;>exact⟨_,_,hres,hpv⟩);rw[show ES.ls ⟨nt,ofL L,H,nb⟩=⟨nt,lk L,cG H,nb⟩by simp only[ES.ls,bFt,aWl]]at key
    exact key
   ·cases hr
  unfold bKg at hcf;split at hcf
  ·rename_i t he;exact fin _ t he (.inl rfl) hcf
  ·rename_i t he;exact fin _ t he (.inr rfl) hcf
  ·cases hcf
 ·cases h
end
end Go.Lg
namespace Go.Proofs.YtaidcaemdkncgaaGreatDoor
section
open Go Go.Lg Go.Num
def bV7 (f:FuncId):Nat:=bif Nat.beq f 268 then 2 else bK0 f
noncomputable def evz (f:Nat) (args:List LV):Option LV:=aSr Tryz.prog rM horc bV7 [33,18,290] 600 f args
theorem bFu {f:Nat}{args:List LV}{r:LV}(h:evz f args=some r):PGd f args r:=oI aV gA wI lF h
end
section
open Go Go.Lg Go.Num
def okC (n k:Nat) (v:List Nat):Bool:=Nat.ble 1 n && Nat.ble n 60 && Nat.beq k v.length && (gE (od n)).contains v
theorem aPo:∀ (os v:List Nat),v∈gE os→v.length=os.length∧∀ i,i<v.length→v.getD i 0<os.getD i 0
 |[],v,h=>by
  simp[gE]at h
  subst h
  exact⟨rfl,fun i hi=>by simp at hi⟩
 |o::os,v,h=>by
  unfold gE at h;simp only[List.mem_flatMap,List.mem_range,List.mem_map]at h;obtain⟨a,ha,l,hl,rfl⟩:=h;obtain⟨h1,h2⟩:=aPo os l hl;refine⟨by simp[h1],fun i hi=> ?_⟩
  cases i with
  |zero=>simpa using ha
  |succ i=>
   have:=h2 i (by simpa using hi);simpa using this
theorem oU {n:Nat}{v:List Nat}(n1:1≤n) (n2:n≤60) (h:v∈gE (od n)):ChB (n:Int) (nI v)∧rE (n:Int) (nI v)=0∧v.length≤10:=by
 obtain⟨hl,hlt⟩:=aPo _ _ h;have t:=(tb (m:=n) n2).2.2.1;refine⟨⟨by omega,by rw[cW,hl];omega⟩,?_,by omega⟩;unfold rE;rw[if_pos ⟨by omega,by omega⟩,Int.toNat_natCast,if_pos (by rw[cW,hl]),if_pos (fun i hi=> ?_)];rw[cW]at hi
 have:=hlt i hi;rw[qN];omega
theorem yP {n k:Nat}{v:List Nat}(h:okC n k v=true):k=v.length∧SeD n (nI v) (ordN n v) (coN n v) (evN n v) (ixB (ordN n v) n v):=by
 unfold okC at h;simp only[Bool.and_eq_true,Nat.ble_eq,Nat.beq_eq]at h;obtain⟨⟨⟨h1,h2⟩,h3⟩,h4⟩:=h;have hv:=List.contains_iff_mem.1 h4;obtain⟨hb,he,hl⟩:=oU h1 h2 hv;exact⟨h3,rQ h1 h2 hb he hl (aGz h1 h2 hv)⟩
noncomputable def bV8 (L n1:Nat) (v1:List Nat) (n2:Nat) (v2:List Nat) (d:Int):Bool:=dC (ordN n1 v1) fun o1=>dC (ordN n2 v2) fun o2=>dC (Nat.lcm o1 o2) fun m=>dC (m / o1) fun q1=>dC (m / o2) fun q2=>aPn L m d (rtI (ixB o1 n1 v1) q1) (rtI (ixB o2 n2 v2) q2)
noncomputable def bFv (args:List LV):Option LV:=match args with
 |[.agg [.lit (.int .i64 (.ofNat L)),.lit (.int .i64 k),.lit (.int .i64 d)],.agg [.lit (.int .i64 (.ofNat n1)),.sl k1 c1],.agg [.lit (.int .i64 (.ofNat n2)),.sl k2 c2]]=>match vB c1,vB c2 with
  |some v1,some v2=>bif Nat.ble L 60 && fdL.any (fun x=>Go.Lg.eqI x d) && okC n1 k1 v1 && okC n2 k2 v2 then some (.lit (.bool (bif bV8 L n1 v1 n2 v2 d then true else false)))else none
  |_,_=>none
 |_=>none
theorem bFw {args:List LV}{r:LV}(h:bFv args=some r):PGd 193 args r:=by
 unfold bFv at h;split at h
 ·rename_i L k d n1 k1 c1 n2 k2 c2;split at h
  ·rename_i v1 v2 e1 e2
   cases hb:(Nat.ble L 60 && fdL.any (fun x=>Go.Lg.eqI x d) && okC n1 k1 v1 && okC n2 k2 v2)with
   |false=>rw[hb]at h;cases h
   |true=>
    rw[hb,cond_true]at h
    cases h
    simp only[Bool.and_eq_true,Nat.ble_eq]at hb;obtain⟨⟨⟨hL,hd⟩,h1⟩,h2⟩:=hb;obtain⟨y,hy,hq⟩:=List.any_eq_true.1 hd;rw[Go.Lg.eqI_eq]at hq
    obtain rfl:y=d:=by simpa using hq
    obtain⟨rfl,s1⟩:=yP h1;obtain⟨rfl,s2⟩:=yP h2;rw[(fZ e1).1,(fZ e2).1,← cW v1,← cW v2];have a1:=s1.o1;have a2:=s2.o1;have b1:=s1.o2;have b2:=s2.o2;have m1:1≤Nat.lcm (ordN n1 v1) (ordN n2 v2):=Nat.pos_of_ne_zero (Nat.lcm_ne_zero (by omega) (by omega))
    have m2:Nat.lcm (ordN n1 v1) (ordN n2 v2)≤3600:=by
      have:=Nat.le_of_dvd (Nat.mul_pos (show 0<ordN n1 v1 by omega) (show 0<ordN n2 v2 by omega)) (Nat.lcm_dvd_mul (ordN n1 v1) (ordN n2 v2));have:=Nat.mul_le_mul b1 b2;omega
    have g:=aL2 s1 s2 (L:=L) hL hy m1 m2 (Nat.mod_eq_zero_of_dvd (Nat.dvd_lcm_left _ _)) (Nat.mod_eq_zero_of_dvd (Nat.dvd_lcm_right _ _)) (qC s1 s2).1 k
    have e:(bif bV8 L n1 v1 n2 v2 y then true else false)=aPn L (Nat.lcm (ordN n1 v1) (ordN n2 v2)) y (rtI (ixB (ordN n1 v1) n1 v1) (Nat.lcm (ordN n1 v1) (ordN n2 v2) / ordN n1 v1)) (rtI (ixB (ordN n2 v2) n2 v2) (Nat.lcm (ordN n1 v1) (ordN n2 v2) / ordN n2 v2)):=by
      unfold bV8;simp only[cF];generalize aPn _ _ _ _ _=R
      cases R <;>rfl
    rw[e];exact g
  ·cases h
 ·cases h
def cLf (n:Nat) (v:List Nat):Bool:= !(Nat.beq (n % 4) 2) && (List.range v.length).all fun i=>dC (pQ n i) fun q=>dC (v.getD i 0) fun e=>bif Nat.beq (q % 2) 0 then(Nat.beq (pR n i+1) q && Nat.blt 4 q) || !(Nat.beq (e % 2) 0)else !(Nat.beq (e % (q / Nat.gcd q ((od n).getD i 0))) 0)
def cG6 (n:Nat):List (List Nat):=(gE (od n)).filter (cLf n)
def aG1 (n:Nat):LV:= .sl (cG6 n).length ((cG6 n).flatMap fun v=>[.lit (.int .i64 (.ofNat n)),.sl v.length (aF6 v)])
end
end Go.Proofs.YtaidcaemdkncgaaGreatDoor
