/- Contracts of functions of the program, and what proves them (texts: Lg1 Lg2 Lg3 Lg4 Lg5 Lg6 Lg7 Lg8). -/
import Derived.Maps.AppendAt
import Derived.Laws.MakeOwn
import Derived.Laws.Rows
import Derived.Laws.Slices
import Derived.Laws.Entries
import Derived.Laws.AppendOwnNone
set_option linter.all false
set_option maxRecDepth 100000
set_option maxHeartbeats 8000000
namespace Go.Lg
section
open Go
inductive LV where
 |lit (v:Value)
 |dead
 |sl (n:Nat) (cs:List LV)
 |ro (cs:List LV)
 |own (b off n sz:Nat)
 |ptr (b off:Nat)
 |agg (cs:List LV)
 |tup (vs:List LV)
 |fn (f:FuncId) (cs:List LV)
 deriving Inhabited
structure Blk where
 ty:TypeId
 cells:List LV
 fz:Bool
structure LS where
 n:Nat
 f:Nat→LV
 h:Nat→Option Blk
 nb:Nat
def cellAt (hp:Array Obj) (g j:Nat):Option Value:=
 match hp[g]? with
 |some (.cells c _ _)=>c[j]?
 |_=>none
theorem aM0 (w:World) (g j:Nat):w.cell? ⟨g,j,none⟩=cellAt w.heap g j:=by
 simp only[World.cell?,cellAt]
 cases w.heap[g]? with
 |none=>rfl
 |some o=>cases o <;>rfl
theorem vU (w:World) (a:Addr) (h:a.spot=none) (j:Nat):w.cell? (a.add j)=cellAt w.heap a.block (a.off+j):=by
 obtain⟨g,o,s⟩:=a
 cases h
 rw[← aM0];by_cases hj:j=0 <;>simp[Addr.add,hj]
inductive Rep (St:Nat→Prop) (hp:Array Obj):(Nat→Option (Nat×Nat))→LV→Value→Prop
 |lit {μ:Nat→Option (Nat×Nat)}(v:Value):Rep St hp μ (.lit v) v
 |dead {μ:Nat→Option (Nat×Nat)}(v:Value):Rep St hp μ .dead v
 |snil {μ:Nat→Option (Nat×Nat)}:Rep St hp μ (.sl 0 []) (.slice none 0 0)
 |sl {μ:Nat→Option (Nat×Nat)}{n cap:Nat}{a:Addr}{cs:List LV}{us:List Value}(hn:n≤cap) (hc:cap≤maxLen) (hs:a.spot=none) (hl:cs.length=us.length)
  (hm:∀ (j:Nat) (u:Value),us[j]? =some u→St a.block∧cellAt hp a.block (a.off+j)=some u) (h1:∀ u∈us,u.oneCell'=true)
  (hr:∀ (j:Nat) (c:LV) (u:Value),cs[j]? =some c→us[j]? =some u→Rep St hp (fun _=>none) c u):Rep St hp μ (.sl n cs) (.slice (some a) n cap)
 |ro {μ:Nat→Option (Nat×Nat)}{a:Addr}{cs:List LV}{us:List Value}(hs:a.spot=none) (hl:cs.length=us.length)
  (hm:∀ (j:Nat) (u:Value),us[j]? =some u→St a.block∧cellAt hp a.block (a.off+j)=some u) (h1:∀ u∈us,u.oneCell'=true)
  (hr:∀ (j:Nat) (c:LV) (u:Value),cs[j]? =some c→us[j]? =some u→Rep St hp (fun _=>none) c u):Rep St hp μ (.ro cs) (.pointer (some a))
 |own {μ:Nat→Option (Nat×Nat)}{b off n sz g R cap:Nat}(hb:μ b=some (g,R)) (hn:n≤cap) (hc:cap≤maxLen) (hR:off+cap*sz=R):Rep St hp μ (.own b off n sz) (.slice (some ⟨g,off,none⟩) n cap)
 |ptr {μ:Nat→Option (Nat×Nat)}{b off g R:Nat}(hb:μ b=some (g,R)):Rep St hp μ (.ptr b off) (.pointer (some ⟨g,off,none⟩))
 |agg {μ:Nat→Option (Nat×Nat)}{cs:List LV}{us:List Value}(hl:cs.length=us.length) (h1:∀ u∈us,u.oneCell'=true)
  (hr:∀ (j:Nat) (c:LV) (u:Value),cs[j]? =some c→us[j]? =some u→Rep St hp μ c u):Rep St hp μ (.agg cs) (.agg us.toArray)
 |tup {μ:Nat→Option (Nat×Nat)}{cs:List LV}{us:List Value}(hl:cs.length=us.length)
  (hr:∀ (j:Nat) (c:LV) (u:Value),cs[j]? =some c→us[j]? =some u→Rep St hp μ c u):Rep St hp μ (.tup cs) (.tuple us.toArray)
 |fn {μ:Nat→Option (Nat×Nat)}{f:FuncId}{cs:List LV}{us:List Value}(hl:cs.length=us.length)
  (hr:∀ (j:Nat) (c:LV) (u:Value),cs[j]? =some c→us[j]? =some u→Rep St hp μ c u):Rep St hp μ (.fn f cs) (.func (.func f) #[] us.toArray)
theorem pH {hp hp':Array Obj}{g:Nat}(h:hp'[g]? =hp[g]?) (j:Nat):cellAt hp' g j=cellAt hp g j:=by simp[cellAt,h]
theorem Rep.mono {St St':Nat→Prop}{hp hp':Array Obj}{μ:Nat→Option (Nat×Nat)}{x:LV}{v:Value}(h:Rep St hp μ x v)
  (hS:∀ g,St g→St' g) (hh:∀ g,St g→hp'[g]? =hp[g]?):∀ {μ':Nat→Option (Nat×Nat)},(∀ b r,μ b=some r→μ' b=some r)→Rep St' hp' μ' x v:=by
 induction h with
 |lit v=>exact fun _=> .lit v
 |dead v=>exact fun _=> .dead v
 |snil=>exact fun _=> .snil
 |sl hn hc hs hl hm h1 _ ih=>exact fun _=> .sl hn hc hs hl (fun j u hu=>⟨hS _ (hm j u hu).1,by rw[pH (hh _ (hm j u hu).1)];exact(hm j u hu).2⟩) h1 (fun j c u hc hu=>ih j c u hc hu (fun _ _ h=>by cases h))
 |ro hs hl hm h1 _ ih=>exact fun _=> .ro hs hl (fun j u hu=>⟨hS _ (hm j u hu).1,by rw[pH (hh _ (hm j u hu).1)];exact(hm j u hu).2⟩) h1 (fun j c u hc hu=>ih j c u hc hu (fun _ _ h=>by cases h))
 |own hb hn hc hR=>exact fun hμ=> .own (hμ _ _ hb) hn hc hR
 |ptr hb=>exact fun hμ=> .ptr (hμ _ _ hb)
 |agg hl h1 _ ih=>exact fun hμ=> .agg hl h1 (fun j c u hc hu=>ih j c u hc hu hμ)
 |tup hl _ ih=>exact fun hμ=> .tup hl (fun j c u hc hu=>ih j c u hc hu hμ)
 |fn hl _ ih=>exact fun hμ=> .fn hl (fun j c u hc hu=>ih j c u hc hu hμ)
def Reps (St:Nat→Prop) (hp:Array Obj) (μ:Nat→Option (Nat×Nat)) (cs:List LV) (us:List Value):Prop:=
 cs.length=us.length∧∀ (j:Nat) (c:LV) (u:Value),cs[j]? =some c→us[j]? =some u→Rep St hp μ c u
theorem Reps.nil {μ:Nat→Option (Nat×Nat)}{St:Nat→Prop}{hp:Array Obj}:Reps St hp μ [] []:=⟨rfl,by simp⟩
theorem Reps.cons {μ:Nat→Option (Nat×Nat)}{St:Nat→Prop}{hp:Array Obj}{c:LV}{u:Value}{cs:List LV}{us:List Value}
  (h:Rep St hp μ c u) (hs:Reps St hp μ cs us):Reps St hp μ (c::cs) (u::us):=
 ⟨by simp[hs.1],fun j c' u' hc hu=>by
  cases j with
  |zero=>simp at hc hu;subst hc;subst hu;exact h
  |succ j=>simp at hc hu;exact hs.2 j c' u' hc hu⟩
theorem Reps.head {μ:Nat→Option (Nat×Nat)}{St:Nat→Prop}{hp:Array Obj}{c:LV}{us:List Value}{cs:List LV}
  (h:Reps St hp μ (c::cs) us):∃ u us',us=u::us'∧Rep St hp μ c u∧Reps St hp μ cs us':=by
 cases us with
 |nil=>have:=h.1;simp at this
 |cons u us=>exact⟨u,us,rfl,h.2 0 c u rfl rfl,by have:=h.1;simpa using this,fun j c' u' hc hu=>h.2 (j+1) c' u' (by simpa using hc) (by simpa using hu)⟩
theorem Reps.mono {μ μ':Nat→Option (Nat×Nat)}{St St':Nat→Prop}{hp hp':Array Obj}{cs:List LV}{us:List Value}(h:Reps St hp μ cs us)
  (hS:∀ g,St g→St' g) (hh:∀ g,St g→hp'[g]? =hp[g]?) (hμ:∀ b r,μ b=some r→μ' b=some r):Reps St' hp' μ' cs us:=
 ⟨h.1,fun j c u hc hu=>(h.2 j c u hc hu).mono hS hh hμ⟩
theorem Reps.append {μ:Nat→Option (Nat×Nat)}{St:Nat→Prop}{hp:Array Obj}{cs cs':List LV}{us us':List Value}(h:Reps St hp μ cs us) (h':Reps St hp μ cs' us'):
  Reps St hp μ (cs++cs') (us++us'):=
 ⟨by simp[h.1,h'.1],fun j c u hc hu=>by
  rcases Nat.lt_or_ge j cs.length with hj |hj
  ·rw[List.getElem?_append_left hj]at hc
   rw[List.getElem?_append_left (h.1 ▸ hj)]at hu
   exact h.2 j c u hc hu
  ·rw[List.getElem?_append_right hj]at hc
   rw[List.getElem?_append_right (h.1 ▸ hj)]at hu
   exact h'.2 _ c u hc (by rw[h.1];exact hu)⟩
theorem Reps.drop {μ:Nat→Option (Nat×Nat)}{St:Nat→Prop}{hp:Array Obj}{cs:List LV}{us:List Value}(h:Reps St hp μ cs us) (k:Nat):
  Reps St hp μ (cs.drop k) (us.drop k):=
 ⟨by simp[h.1],fun j c u hc hu=>h.2 (k+j) c u (by rwa [List.getElem?_drop]at hc) (by rwa [List.getElem?_drop]at hu)⟩
theorem Reps.take {μ:Nat→Option (Nat×Nat)}{St:Nat→Prop}{hp:Array Obj}{cs:List LV}{us:List Value}(h:Reps St hp μ cs us) (k:Nat):
  Reps St hp μ (cs.take k) (us.take k):=
 ⟨by simp[h.1],fun j c u hc hu=>h.2 j c u (by rw[List.getElem?_take]at hc;split at hc <;>simp_all) (by rw[List.getElem?_take]at hu;split at hu <;>simp_all)⟩
theorem Reps.set {μ:Nat→Option (Nat×Nat)}{St:Nat→Prop}{hp:Array Obj}{cs:List LV}{us:List Value}{c:LV}{u:Value}(h:Reps St hp μ cs us) (k:Nat) (hc:Rep St hp μ c u):
  Reps St hp μ (cs.set k c) (us.set k u):=
 ⟨by simp[h.1],fun j c' u' hc' hu'=>by
  rw[List.getElem?_set]at hc' hu'
  by_cases hk:k=j
  ·subst hk;simp only[↓reduceIte]at hc' hu';split at hc' <;>split at hu' <;>simp_all
  ·simp only[hk,↓reduceIte]at hc' hu'
   exact h.2 j c' u' hc' hu'⟩
def tI:Value→LV
 | .agg cs=>if cs.toList.all (·.oneCell')=true then .agg (cs.toList.map .lit)else .lit (.agg cs)
 |v=> .lit v
def one:LV→Bool
 | .lit v=>v.oneCell'
 | .sl _ _ | .ro _ | .own .. | .ptr .. | .fn .. =>true
 | .dead | .agg _ | .tup _=>false
def cellsOf:LV→Option (List LV)
 | .agg cs=>if cs.all one then some cs else none
 |x=>if one x then some [x]else none
def opnd (s:LS):Operand→LV
 | .tmp t=>s.f t
 | .const v=>tI v
 | .global g=> .lit (.pointer (some ⟨g,0,none⟩))
 | .func f=> .fn f []
def dE {α:Type}(f:Nat→α) (i:Nat) (v:α):Nat→α:=fun j=>if j=i then v else f j
theorem cH {α:Type}(f:Nat→α) (i:Nat) (v:α):dE f i v i=v:=by simp[dE]
theorem bW {α:Type}(f:Nat→α) (i:Nat) (v:α) (j:Nat) (h:j≠i):dE f i v j=f j:=by simp[dE,h]
def LS.put (s:LS) (d:Option Nat) (v:LV):LS:=
 match d with
 |some d=>{s with f:=dE s.f d v}
 |none=>s
class Laid (P:Program) where
 mem:List (Nat×List Value)
 maps:List (Nat×List (Int×Int)):=[]
inductive Eff where
 |val (v:LV)
 |new (v:LV) (k:Blk)
 |wr (b:Nat) (k:Blk)
 |app (v:LV) (b:Option Nat) (k:Blk)
 |call (f:FuncId) (args:List LV) (fz:List Nat)
end
section
open Go
section
variable (P:Program)
def bT (t:TypeId):Option (List LV):=
 match P.info? t with
 |some i=>match i.zero with
  |some v=>if v.cells.size=i.size∧(v.cells.toList.all (·.oneCell'))=true then some (v.cells.toList.map .lit)else none
  |none=>none
 |none=>none
def bF (t:TypeId):Option Bool:=
 match P.underlying t with
 |some (.struct _) |some (.array ..)=>some true
 |some _=>some false
 |none=>none
def aZ (t:TypeId):Option TypeId:=
 match P.underlying t with
 |some (.slice e)=>some e
 |_=>none
def dA (t:TypeId):Option (Nat×TypeId):=
 match P.underlying t with
 |some (.array n e)=>some (n,e)
 |_=>none
def aX (t:TypeId) (f:Nat):Option (Nat×TypeId):=
 match P.underlying t with
 |some (.struct fs)=>(fs[f]?).map fun x=>(x.offset,x.type)
 |_=>none
def mM (t:TypeId):Option IntKind:=
 match P.underlying t with
 |some (.int k)=>some k
 |_=>none
def aM1 (t:TypeId):Bool:=
 match P.underlying t with
 |some .bool=>true
 |_=>false
def aL (t:TypeId):Option Nat:=(P.info? t).map (·.size)
def bI (t:TypeId):Option Nat:=(P.info? t).map (·.bytes)
def fetch (t:TypeId) (cs:List LV):Option LV:=
 match bF P t,aL P t with
 |some true,some n=>if n≤cs.length then some (.agg (cs.take n))else none
 |some false,some _=>cs.head?
 |_,_=>none
def jH (cells:List LV) (off:Nat) (xs:List LV):List LV:=
 match xs with
 |[x]=>cells.set off x
 |xs=>cells.take off++xs++cells.drop (off+xs.length)
def nilL:LV:= .lit (.slice none 0 0)
def aA7 (k:IntKind) (a b:Int):Int:=k.wrap (BitVec.ofInt k.bits a &&& BitVec.ofInt k.bits b).toNat
def orI (k:IntKind) (a b:Int):Int:=k.wrap (BitVec.ofInt k.bits a |||BitVec.ofInt k.bits b).toNat
def bAt (k:IntKind) (a b:Int):Int:=k.wrap (BitVec.ofInt k.bits a^^^BitVec.ofInt k.bits b).toNat
def jA (op:BinOp) (x y:Value):Option Value:=
 match op,x,y with
 | .shl,.int k a,.int _ b=>if 0≤b then some (.int k (k.wrap (a*2^(min b.toNat k.bits))))else none
 | .shr,.int k a,.int _ b=>if 0≤b then some (.int k (a.fdiv (2^(min b.toNat k.bits))))else none
 | .add,.int k a,.int k' b=>if k=k' then some (.int k (k.wrap (a+b)))else none
 | .sub,.int k a,.int k' b=>if k=k' then some (.int k (k.wrap (a-b)))else none
 | .mul,.int k a,.int k' b=>if k=k' then some (.int k (k.wrap (a*b)))else none
 | .quo,.int k a,.int k' b=>if k=k'∧b≠0 then some (.int k (k.wrap (a.tdiv b)))else none
 | .rem,.int k a,.int k' b=>if k=k'∧b≠0 then some (.int k (a.tmod b))else none
 | .and,.int k a,.int k' b=>if k=k' then some (.int k (aA7 k a b))else none
 | .or,.int k a,.int k' b=>if k=k' then some (.int k (orI k a b))else none
 | .xor,.int k a,.int k' b=>if k=k' then some (.int k (bAt k a b))else none
 | .andNot,.int k a,.int k' b=>if k=k' then some (.int k (k.wrap (BitVec.ofInt k.bits a &&& ~~~ BitVec.ofInt k.bits b).toNat))else none
 | .eql,.int k a,.int k' b=>if k=k' then some (.bool (a==b))else none
 | .neq,.int k a,.int k' b=>if k=k' then some (.bool (a !=b))else none
 | .lss,.int k a,.int k' b=>if k=k' then some (.bool (a<b))else none
 | .leq,.int k a,.int k' b=>if k=k' then some (.bool (a≤b))else none
 | .gtr,.int k a,.int k' b=>if k=k' then some (.bool (a>b))else none
 | .geq,.int k a,.int k' b=>if k=k' then some (.bool (a≥b))else none
 |_,_,_=>none
def xN (op:BinOp) (t:TypeId) (x y:Value):Option Value:=
 match op,x,y with
 | .eql,.bool a,.bool b=>if aM1 P t=true then some (.bool (a==b))else none
 | .neq,.bool a,.bool b=>if aM1 P t=true then some (.bool (a !=b))else none
 | .eql,.slice a _ _,.slice none 0 0=>if(aZ P t).isSome=true then some (.bool a.isNone)else none
 | .neq,.slice a _ _,.slice none 0 0=>if(aZ P t).isSome=true then some (.bool !a.isNone)else none
 |op,x,y=>jA op x y
def kO (op:BinOp) (t:TypeId) (n:Nat):Option Value:=
 if 0<n∧(aZ P t).isSome=true then match op with
  | .eql=>some (.bool false)
  | .neq=>some (.bool true)
  |_=>none
 else none
def unV (op:UnOp) (x:Value):Option Value:=
 match op,x with
 | .neg,.int k n=>some (.int k (k.wrap (0-n)))
 | .xor,.int k n=>some (.int k (bAt k (if k.signed then -1 else k.max) n))
 | .not,.bool b=>some (.bool !b)
 |_,_=>none
def aDh (s:LS) (ok:Nat→Bool) (sz:Nat):LV→Option (Nat×List LV)
 | .lit (.slice _ 0 _)=>some (0,[])
 | .sl n cs=>if cs.length=n*sz then some (n,cs)else none
 | .own b off n sz'=>match s.h b with
   |some k=>if ok b=true∧sz'=sz∧off+n*sz≤k.cells.length then some (n,(k.cells.drop off).take (n*sz))else none
   |none=>none
 |_=>none
def wZ (s:LS):LV→Option Nat
 | .lit (.slice _ n _)=>some n
 | .sl n _=>some n
 | .own _ _ n _=>some n
 |_=>none
def dO (x:Option LV) (dflt:Nat) (top:Nat):Option Nat:=
 match x with
 |none=>some dflt
 |some (.lit (.int _ i))=>if 0≤i∧i≤(top:Int)then some i.toNat else none
 |_=>none
def mF (t:TypeId) (x:LV) (lo hi:Option LV):Option LV:=
 match aZ P t,x with
 |some e,.sl n cs=>(aL P e).bind fun sz=>(dO hi n n).bind fun h=>(dO lo 0 h).bind fun l=>some (.sl (h-l) ((cs.drop (l*sz)).take ((h-l)*sz)))
 |some e, .own b off n sz'=>(aL P e).bind fun sz=>if sz'=sz then(dO hi n n).bind fun h=>match lo with
  |none=>some (.own b off h sz)
  |some _=>(dO lo 0 h).bind fun l=>if l<h then some (.own b (off+l*sz) (h-l) sz)else some (.sl 0 [])
  else none
 |some e,.lit (.slice none 0 0)=>(aL P e).bind fun _=>(dO hi 0 0).bind fun h=>(dO lo 0 h).bind fun _=>some nilL
 |_,_=>none
def jI (t:TypeId) (x ix:LV):Option LV:=
 match ix with
 | .lit (.int _ i)=>match x with
   | .sl n cs=>(aZ P t).bind fun e=>(aL P e).bind fun sz=>if 0≤i∧i<(n:Int)then some (.ro (cs.drop (i.toNat*sz)))else none
   | .own b off n _=>(aZ P t).bind fun e=>(aL P e).bind fun sz=>if 0≤i∧i<(n:Int)then some (.ptr b (off+i.toNat*sz))else none
   | .ptr b off=>(dA P t).bind fun e=>(aL P e.2).bind fun sz=>if 0≤i∧i<(e.1:Int)then some (.ptr b (off+i.toNat*sz))else none
   | .ro cs=>(dA P t).bind fun e=>(aL P e.2).bind fun sz=>if 0≤i∧i<(e.1:Int)then some (.ro (cs.drop (i.toNat*sz)))else none
   |_=>none
 |_=>none
def fieldAddrL (t:TypeId) (x:LV) (f:Nat):Option LV:=
 (aX P t f).bind fun p=>match aL P p.2 with
  |some (_+1)=>match x with
   | .ptr b off=>some (.ptr b (off+p.1))
   | .ro cs=>some (.ro (cs.drop p.1))
   |_=>none
  |_=>none
def partL (t:TypeId) (cs:List LV) (off:Nat):Option LV:=fetch P t (cs.drop off)
def fillL (place:Nat→Option (Nat×Nat)) (cells:List LV):List (Nat×LV)→Option (List LV)
 |[]=>some cells
 |(i,x)::rest=>match place i,cellsOf x with
  |some (off,size),some xs=>if xs.length=size∧off+size≤cells.length then fillL place (jH cells off xs) rest else none
  |_,_=>none
def aDr (t:TypeId):Bool:=
 match P.underlying t with
 |some (.map k e)=>(match P.underlying k with |some (.int .i64)=>true |_=>false) && (match P.info? e with |some i=>(match i.zero with |some (.int .i64 0)=>true |_=>false) |none=>false)
 |_=>false
def aEk (es:List (Int×Int)) (i:Int):Int:=match es.find? (fun p=>i==p.1)with
 |some p=>p.2
 |none=>0
def aT (t:TypeId):Option (List (Nat×Nat)):=
 match P.underlying t with
 |some (.struct fs)=>if(fs.all fun f=>(aL P f.type).isSome)=true then some (fs.toList.map fun f=>(f.offset,(aL P f.type).getD 0))else none
 |_=>none
def buildL (t:TypeId) (parts:List (Nat×LV)):Option LV:=
 (bT P t).bind fun z=>match aT P t with
  |some ps=>(fillL (fun i=>ps[i]?) z parts).map .agg
  |none=>match dA P t with
   |some e=>(aL P e.2).bind fun sz=>(fillL (fun i=>some (i*sz,sz)) z parts).map .agg
   |none=>none
def yV (z:List LV) (n:Nat):List LV:=(List.range n).map fun i=>z.getD (i % z.length) .dead
theorem bHx (z:LV) (n:Nat):yV [z] n=List.replicate n z:=by
 apply List.ext_getElem <;>simp[yV,Nat.mod_one]
def xC (P:Program) [Laid P] (s:LS) (x:Operand):LV:=
 match x with
 | .global g=>match(Laid.mem P).find? (fun p=>p.1==g)with
   |some p=> .ro (p.2.map .lit)
   |none=>opnd s x
 |x=>opnd s x
theorem aM2 {P:Program}[Laid P] {s t:LS}{x:Operand}(h:opnd s x=opnd t x):xC P s x=xC P t x:=by
 unfold xC;split
 ·rw[h]
 ·exact h
def pv (h:Nat→Option Blk) (ok:Nat→Bool):Nat→LV→Option (LV×List Nat)
 |0,_=>none
 |k+1,x=>
  let all (cs:List LV):Option (List LV×List Nat):=cs.foldr (fun c r=>r.bind fun r=>(pv h ok k c).map fun p=>(p.1::r.1,p.2++r.2)) (some ([],[]))
  match x with
  | .lit (.slice none 0 0)=>some (.sl 0 [],[])
  | .lit v=>some (.lit v,[])
  | .sl n cs=>some (.sl n cs,[])
  | .own b off n sz=>match h b with
    |some blk=>if ok b=true∧off+n*sz≤blk.cells.length then(all ((blk.cells.drop off).take (n*sz))).map fun r=>(.sl n r.1,b::r.2)else none
    |none=>none
  | .agg cs=>(all cs).map fun r=>(.agg r.1,r.2)
  | .tup cs=>(all cs).map fun r=>(.tup r.1,r.2)
  | .fn f cs=>(all cs).map fun r=>(.fn f r.1,r.2)
  | .ptr b off=>match h b with
    |some blk=>if ok b=true then(all (blk.cells.drop off)).map fun r=>(.ro r.1,b::r.2)else none
    |none=>none
  |_=>none
def fM (h:Nat→Option Blk) (ok:Nat→Bool) (k:Nat) (cs:List LV):Option (List LV×List Nat):=
 cs.foldr (fun c r=>r.bind fun r=>(pv h ok k c).map fun p=>(p.1::r.1,p.2++r.2)) (some ([],[]))
def aM3:List Value→Option Value
 |[.int k a,.int k' b]=>if k=k' then some (.int k (if b>a then b else a))else none
 |[.int k a,.int k' b,.int k'' c]=>if k=k'∧k=k'' then some (.int k (if c>(if b>a then b else a)then c else(if b>a then b else a)))else none
 |_=>none
def aM4:List Value→Option Value
 |[.int k a,.int k' b]=>if k=k' then some (.int k (if b<a then b else a))else none
 |[.int k a,.int k' b,.int k'' c]=>if k=k'∧k=k'' then some (.int k (if c<(if b<a then b else a)then c else(if b<a then b else a)))else none
 |_=>none
def lR:List LV→Option (List Value)
 |[]=>some []
 | .lit v::rest=>(lR rest).map (v:: ·)
 |_=>none
def appendL (id:Nat) (ok:Nat→Bool) (s:LS) (t:TypeId) (d x:LV):Option Eff:=
 (aZ P t).bind fun e=>match aL P e,bI P e,bT P e with
 |some (z+1),some by_,some _=>(aDh s ok (z+1) x).bind fun(m,news)=>match d with
  | .lit (.slice none 0 0)=>if m=0 then some (.val nilL)else if m*by_≤140737488355328∧m≤maxLen then some (.app (.own id 0 m (z+1)) none ⟨e,news,false⟩)else none
  | .own b 0 n sz'=>match s.h b with
    |some k=>if ok b=true∧sz'=z+1∧k.ty=e∧k.fz=false∧n*(z+1)≤k.cells.length∧(n+m)*by_≤140737488355328∧n+m≤maxLen then
        some (.app (.own id 0 (n+m) (z+1)) (some b) ⟨e,k.cells.take (n*(z+1))++news,false⟩)else none
    |none=>none
  |_=>none
 |_,_,_=>none
def tJ (id:Nat) (ok:Nat→Bool) (s:LS) (c:Call):Option Eff:=
 let args:=c.args.toList.map (opnd s)
 match c.callee with
 | .value f=>match opnd s f with
   | .fn g cs=>(fM s.h ok 5 (args++cs)).map fun r=> .call g r.1 r.2
   |_=>none
 | .builtin b=>match b,c.argTypes.toList,args with
   | .len,[t],[x]=>match aZ P t with
     |some _=>(wZ s x).map fun(n:Nat)=>Eff.val (.lit (.int .i64 (n:Int)))
     |none=>match dA P t with
      |some p=>some (.val (.lit (.int .i64 (p.1:Int))))
      |none=>none
   | .append,[t,t'],[d,x]=>if t'=t then appendL P id ok s t d x else none
   | .max,_,args=>(lR args).bind fun vs=>(aM3 vs).map fun v=> .val (.lit v)
   | .min,_,args=>(lR args).bind fun vs=>(aM4 vs).map fun v=> .val (.lit v)
   |_,_,_=>none
 |_=>none
def nO (ok:Nat→Bool) (s:LS) (t:TypeId) (a x:LV):Option Eff:=
 match a with
 | .ptr b off=>match s.h b with
   |some k=>match cellsOf x,aL P t with
    |some xs,some n=>if ok b=true∧k.fz=false∧xs.length=n∧off+n≤k.cells.length then some (.wr b {k with cells:=jH k.cells off xs})else none
    |_,_=>none
   |none=>none
 |_=>none
def mN (ok:Nat→Bool) (s:LS) (t:TypeId) (a:LV):Option LV:=
 match a with
 | .ptr b off=>match s.h b with
   |some k=>if ok b=true then fetch P t (k.cells.drop off)else none
   |none=>none
 | .ro cs=>fetch P t cs
 |_=>none
variable [Laid P]
def aF (id:Nat) (ok:Nat→Bool) (op:Op) (s:LS):Option Eff:=
 match op with
 | .move x=>some (.val (opnd s x))
 | .assign x=>some (.val (opnd s x))
 | .pick c a b=>match opnd s c with
   | .lit (.bool t)=>some (.val (if t=true then opnd s a else opnd s b))
   |_=>none
 | .alloc e=>(bT P e).map fun cs=> .new (.ptr id 0) ⟨e,cs,false⟩
 | .box e x=>(cellsOf (opnd s x)).map fun cs=> .new (.ptr id 0) ⟨e,cs,false⟩
 | .build t parts=>(buildL P t (parts.toList.map fun p=>(p.1,opnd s p.2))).map .val
 | .buildSlice t len parts=>(aZ P t).bind fun e=>match aL P e,bT P e with
   |some sz,some z=>if len*sz≤16777216∧len≤maxLen then(fillL (fun i=>some (i*sz,sz)) (yV z (len*sz)) (parts.toList.map fun p=>(p.1,opnd s p.2))).map fun cs=> .new (.own id 0 len sz) ⟨e,cs,false⟩else none
   |_,_=>none
 | .load t a=>(mN P ok s t (opnd s a)).map .val
 | .store t a x=>nO P ok s t (opnd s a) (opnd s x)
 | .binOp op xt x y _=>match opnd s x,opnd s y with
   | .lit a,.lit b=>(xN P op xt a b).map fun v=> .val (.lit v)
   | .sl n _,.lit (.slice none 0 0)=>(kO P op xt n).map fun v=> .val (.lit v)
   | .own _ _ _ _,.lit (.slice none 0 0)=>(kO P op xt 1).map fun v=> .val (.lit v)
   |_,_=>none
 | .unOp op _ x=>match opnd s x with
   | .lit a=>(unV op a).map fun v=> .val (.lit v)
   |_=>none
 | .convert src dst x=>match bF P src,mM P dst,opnd s x with
   |some _,some k,.lit (.int _ n)=>some (.val (.lit (.int k (k.wrap n))))
   |_,_,_=>none
 | .makeSlice t l c=>(aZ P t).bind fun e=>match aL P e,bI P e,bT P e,opnd s l,opnd s c with
   |some sz,some by_,some z,.lit (.int _ n),.lit (.int _ m)=>if 0≤n∧n≤m∧by_*m.toNat≤281474976710656∧m.toNat≤maxLen then some (.new (.own id 0 n.toNat sz) ⟨e,yV z (m.toNat*sz),false⟩)else none
   |_,_,_,_,_=>none
 | .slice t x lo hi none=>(mF P t (opnd s x) (lo.map (opnd s)) (hi.map (opnd s))).map .val
 | .fieldAddr t x f=>(fieldAddrL P t (opnd s x) f).map .val
 | .nilCheck x=>match opnd s x with
   | .ptr b off=>some (.val (.ptr b off))
   |_=>none
 | .field t x f=>match opnd s x with
   | .agg cs=>(aX P t f).bind fun p=>(partL P p.2 cs p.1).map .val
   |_=>none
 | .indexAddr t x ix=>(jI P t (xC P s x) (opnd s ix)).map .val
 | .index t x ix=>match opnd s x,opnd s ix with
   | .agg cs,.lit (.int _ i)=>(dA P t).bind fun e=>(aL P e.2).bind fun sz=>if 0≤i∧i<(e.1:Int)then(partL P e.2 cs (i.toNat*sz)).map .val else none
   |_,_=>none
 | .extract t ix=>match opnd s t with
   | .tup vs=>(vs[ix]?).map .val
   |_=>none
 | .makeFunc (.func f) first captured=>if first.size=0 then some (.val (.fn f (captured.toList.map (opnd s))))else none
 | .call c=>tJ P id ok s c
 | .lookup t x ix ok2=>match ok2,opnd s x,opnd s ix with
   |false,.lit (.map (some g)),.lit (.int .i64 i)=>if aDr P t=true then((Laid.maps P).find? (fun p=>p.1==g)).map fun p=> .val (.lit (.int .i64 (aEk p.2 i)))else none
   |_,_,_=>none
 |_=>none
end
def bY (h:Nat→Option Blk) (fz:List Nat):Nat→Option Blk:=fun b=>(h b).map fun k=>if b∈fz then{k with fz:=true}else k
def jS (h:Nat→Option Blk) (ob:Option Nat):Nat→Option Blk:=
 match ob with
 |some b=>dE h b none
 |none=>h
def LS.eff (s:LS) (id:Nat) (d:Option Nat) (e:Eff) (r:LV):LS:=
 match e with
 | .val v=>s.put d v
 | .new v k=>{s with h:=dE s.h id (some k)}.put d v
 | .wr b k=>{s with h:=dE s.h b (some k)}.put d .dead
 | .app v ob k=>{s with h:=dE (jS s.h ob) id (some k)}.put d v
 | .call _ _ fz=>{s with h:=if fz=[]then s.h else bY s.h fz}.put d r
structure Inv (w0:World) (M St0:Nat→Prop) (s:LS) (μ:Nat→Option (Nat×Nat)) (St:Nat→Prop) (tm:Array Value) (w:World):Prop where
 frame:∀ i,Rep St w.heap μ (s.f i) (tm.getD i undef)
 sz:tm.size=s.n
 blk:∀ b k,s.h b=some k→∃ g R cs,μ b=some (g,R)∧w.heap[g]? =some (.cells cs k.ty (0,0))∧cs.size=R∧k.cells.length≤cs.size∧
  Reps St w.heap μ k.cells (cs.toList.take k.cells.length)∧(∀ u∈cs.toList.take k.cells.length,u.oneCell'=true)∧(k.fz=true→St g)∧(k.fz=false→¬St g)
 inj:∀ b b' k k' g R R',s.h b=some k→s.h b'=some k'→μ b=some (g,R)→μ b'=some (g,R')→b=b'
 lt:∀ b g R,μ b=some (g,R)→g<w.heap.size∧(M g∨w0.heap.size≤g∨St g)
 st_lt:∀ g,St g→g<w.heap.size∧(St0 g∨M g∨w0.heap.size≤g)
 st0:∀ g,St0 g→St g
 os:w.os=w0.os
 tape:w.tape=w0.tape
 output:w.output=w0.output
 size:w0.heap.size≤w.heap.size
 kept:∀ g,g<w0.heap.size→¬M g→w.heap[g]? =w0.heap[g]?
def aM5 (hp:Array Obj) (g:Nat) (es:List (Int×Int)):Prop:=∃ a clock,hp[g]? =some (.map a clock)∧a.toList.map (fun e=>(e.key,e.val))=es.map fun p=>(.int .i64 p.1,.int .i64 p.2)
def fN (P:Program) [Laid P] (St:Nat→Prop) (hp:Array Obj):Prop:=
 (∀ p∈Laid.mem P,St p.1∧(∀ u∈p.2,u.oneCell'=true)∧∀ j u,p.2[j]? =some u→cellAt hp p.1 j=some u)∧∀ p∈Laid.maps P,St p.1∧aM5 hp p.1 p.2
def fO (P:Program) [Laid P] (w0:World) (M St0:Nat→Prop):Prop:=fN P St0 w0.heap∧(∀ p∈Laid.mem P,¬M p.1∧p.1<w0.heap.size)∧∀ p∈Laid.maps P,¬M p.1∧p.1<w0.heap.size
theorem aM5.same {hp hp':Array Obj}{g:Nat}{es:List (Int×Int)}(h:aM5 hp g es) (e:hp'[g]? =hp[g]?):aM5 hp' g es:=by
 obtain⟨a,c,h1,h2⟩:=h;exact⟨a,c,e.trans h1,h2⟩
theorem fN.same {P:Program}[Laid P] {St St':Nat→Prop}{hp hp':Array Obj}(h:fN P St hp) (hS:∀ g,St g→St' g) (e:∀ g,St g→hp'[g]? =hp[g]?):fN P St' hp':=
 ⟨fun p hp=>by
  obtain⟨h1,h2,h3⟩:=h.1 p hp
  exact⟨hS _ h1,h2,fun j u hu=>by rw[pH (e _ h1)];exact h3 j u hu⟩,fun p hp=>by
  obtain⟨h1,h2⟩:=h.2 p hp
  exact⟨hS _ h1,h2.same (e _ h1)⟩⟩
theorem fO.of {P:Program}[Laid P] {St M:Nat→Prop}{w:World}(h:fN P St w.heap) (hM:∀ g,St g→¬M g∧g<w.heap.size):fO P w M St:=⟨h,fun p hp=>hM _ (h.1 p hp).1,fun p hp=>hM _ (h.2 p hp).1⟩
theorem Inv.laid {P:Program}[Laid P] {w0:World}{M St0:Nat→Prop}{s:LS}{μ:Nat→Option (Nat×Nat)}{St:Nat→Prop}{tm:Array Value}{w:World}(h:Inv w0 M St0 s μ St tm w) (hL:fO P w0 M St0):fN P St w.heap:=by
 constructor
 ·intro p hp;obtain⟨h1,h2,h3⟩:=hL.1.1 p hp;obtain⟨h4,h5⟩:=hL.2.1 p hp;exact⟨h.st0 _ h1,h2,fun j u hu=>by rw[pH (h.kept _ h5 h4)];exact h3 j u hu⟩
 ·intro p hp;obtain⟨h1,h2⟩:=hL.1.2 p hp;obtain⟨h4,h5⟩:=hL.2.2 p hp;exact⟨h.st0 _ h1,h2.same (h.kept _ h5 h4)⟩
end
section
open Go
section
variable {P:Program}{St:Nat→Prop}{hp:Array Obj}{μ:Nat→Option (Nat×Nat)}
theorem yW (vs:List Value):Reps St hp μ (vs.map .lit) vs:=
 ⟨by simp,fun j c u hc hu=>by simp[List.getElem?_map,hu]at hc;subst hc;exact .lit u⟩
theorem aXl (v:Value):Rep St hp μ (tI v) v:=by
 unfold tI;split
 ·rename_i cs;split
  ·rename_i h;have:=yW (St:=St) (hp:=hp) (μ:=μ) cs.toList;have h2:Rep St hp μ (.agg (cs.toList.map .lit)) (.agg cs.toList.toArray):= .agg this.1 (fun u hu=>List.all_eq_true.1 h u hu) this.2;simpa using h2
  ·exact .lit _
 ·exact .lit _
theorem aKa {x:LV}{v:Value}(h:Rep St hp μ x v) (h1:one x=true):v.oneCell'=true:=by
 cases h <;>simp_all [one,Value.oneCell']
theorem aKb {v:Value}(h:v.oneCell'=true):v.cells= #[v]:=by
 cases v <;>simp_all [Value.cells,Value.oneCell']
theorem aA8 {x:LV}{v:Value}{cs:List LV}(h:Rep St hp μ x v) (hc:cellsOf x=some cs):
  Reps St hp μ cs v.cells.toList∧∀ u∈v.cells.toList,u.oneCell'=true:=by
 have single:one x=true→Reps St hp μ [x] v.cells.toList∧∀ u∈v.cells.toList,u.oneCell'=true:=fun h1=>by
  have ho:=aKa h h1;rw[aKb ho];exact⟨Reps.nil.cons h,by simpa using ho⟩
 unfold cellsOf at hc;split at hc
 ·split at hc
  ·cases hc
   cases h with
   |agg hl h1 hr=>exact⟨⟨hl,hr⟩,h1⟩
  ·cases hc
 ·split at hc
  ·cases hc;exact single ‹_›
  ·cases hc
theorem aKc {t n:Nat}(h:aL P t=some n):∃ i,P.info? t=some i∧i.size=n:=by
 unfold aL at h
 cases hi:P.info? t with
 |none=>simp[hi]at h
 |some i=>simp[hi]at h;exact⟨i,rfl,h⟩
theorem cO {t n:Nat}(h:aL P t=some n) (w:World):(sizeOf t).run P w= .ok n w:=by
 obtain⟨i,hi,rfl⟩:=aKc h;simp[sizeOf,typeInfo,hi]
theorem vV {t:Nat}{b:Bool}(h:bF P t=some b) (w:World):(isAgg t).run P w= .ok b w:=by
 unfold bF at h;unfold isAgg;split at h
 ·rename_i hu;cases h;simp[run_underlying hu]
 ·rename_i hu;cases h;simp[run_underlying hu]
 ·rename_i d h1 h2 hu
  cases h
  cases d <;>first |(simp[run_underlying hu];done) |(exact absurd rfl (h1 _)) |(exact absurd rfl (h2 _ _))
 ·cases h
theorem aIh {α:Type}{l:List α}{x:α}(h:l.head? =some x):∃ r,l=x::r:=by
 cases l with
 |nil=>simp at h
 |cons y r=>simp at h;exact⟨r,by rw[h]⟩
theorem aIi {t:Nat}{cs:List LV}{us:List Value}{y:LV}{w:World}{a:Addr}(hs:a.spot=none) (hf:fetch P t cs=some y)
  (hr:Reps St hp μ cs us) (h1:∀ u∈us,u.oneCell'=true) (hm:∀ (j:Nat) (u:Value),us[j]? =some u→cellAt w.heap a.block (a.off+j)=some u):
  ∃ v,(loadVar t a).run P w= .ok v w∧Rep St hp μ y v:=by
 unfold fetch at hf;split at hf
 ·rename_i n ha hn;split at hf
  ·rename_i hle
   cases hf
   have hrt:=hr.take n;have hlen:(us.take n).length=n:=by rw[List.length_take,← hr.1];omega
   refine⟨.agg (us.take n).toArray,?_,.agg hrt.1 (fun u hu=>h1 u (List.mem_of_mem_take hu)) hrt.2⟩
   have:=run_loadCells_list (P:=P) w a (us.take n) (fun j v hv=>by
    rw[vU w a hs];refine hm j v ?_;rw[List.getElem?_take]at hv
    split at hv <;>simp_all)
   rw[hlen]at this
   simp[loadVar,vV ha,cO hn,this]
  ·cases hf
 ·rename_i n ha hn;obtain⟨r,rfl⟩:=aIh hf;obtain⟨u,us',rfl,hu,_⟩:=hr.head;refine⟨u,?_,hu⟩;have:=hm 0 u rfl
  have hc:w.cell? a=some u:=by
   have h2:=vU w a hs 0;simp only[Addr.add,if_true]at h2;rw[h2];exact this
  simp[loadVar,vV ha,hc]
 ·cases hf
theorem aEl {t:Nat}{cs:List LV}{us:List Value}{y:LV}{w:World}{off:Nat}(hf:partL P t cs off=some y)
  (hr:Reps St hp μ cs us) (h1:∀ u∈us,u.oneCell'=true):∃ v,(part t us.toArray off).run P w= .ok v w∧Rep St hp μ y v:=by
 unfold partL fetch at hf;split at hf
 ·rename_i n ha hn;split at hf
  ·rename_i hle
   cases hf
   have hrt:=(hr.drop off).take n;refine⟨.agg ((us.drop off).take n).toArray,?_,.agg hrt.1 (fun u hu=>h1 u (List.mem_of_mem_drop (List.mem_of_mem_take hu))) hrt.2⟩;simp[part,vV ha,cO hn,List.extract_toArray,List.extract_eq_take_drop]
  ·cases hf
 ·rename_i n ha hn;obtain⟨r,hd⟩:=aIh hf;have h2:=hr.drop off;rw[hd]at h2
  obtain⟨u,us',hus,hu,_⟩:=h2.head;refine⟨u,?_,hu⟩
  have:us[off]? =some u:=by
   have:=congrArg (·[0]?) hus;simpa[List.getElem?_drop]using this
  simp[part,vV ha,this]
 ·cases hf
end
section
variable {P:Program}{w0:World}{M St0:Nat→Prop}{s:LS}{μ:Nat→Option (Nat×Nat)}{St:Nat→Prop}{a:Act}{w:World}
theorem Inv.opnd (h:Inv w0 M St0 s μ St a.tmps w) (x:Operand):Rep St w.heap μ (opnd s x) (a.eval x):=by
 cases x with
 |tmp t=>exact h.frame t
 |const v=>exact aXl v
 |global g=>exact .lit _
 |func f=>exact .fn (us:=[]) rfl (by simp)
theorem Inv.load (h:Inv w0 M St0 s μ St a.tmps w) {ok:Nat→Bool}{t:Nat}{x y:LV}{v:Value}(hx:Rep St w.heap μ x v) (hl:mN P ok s t x=some y):
  ∃ u,(Instr.loadAt t v).run P w= .ok u w∧Rep St w.heap μ y u:=by
 unfold mN at hl;split at hl
 ·rename_i b off;split at hl
  ·rename_i k hk;split at hl
   ·obtain⟨g,R,cs,hμ,hg,hsz,hle,hr,h1,_⟩:=h.blk b k hk
    cases hx with
    | @ptr _ _ _ g' R' hb=>
    rw[hμ]at hb
    cases hb
    have h2:=hr.drop off
    obtain⟨u,hu,hy⟩:=aIi (P:=P) (w:=w) (a:=⟨g,off,none⟩) rfl hl h2 (fun u hu=>h1 u (List.mem_of_mem_drop hu)) (fun j u hu=>by
     rw[List.getElem?_drop,List.getElem?_take]at hu
     split at hu
     ·simp[cellAt,hg];simpa using hu
     ·cases hu)
    exact⟨u,by simp[Instr.loadAt,Instr.sureAddr,hu],hy⟩
   ·cases hl
  ·cases hl
 ·cases hx with
  |ro hs hl' hm h1 hr=>
   rename_i a us;obtain⟨u,hu,hy⟩:=aIi (P:=P) (w:=w) (a:=a) (μ:=fun _=>none) (St:=St) (hp:=w.heap) hs hl ⟨hl',hr⟩ h1 (fun j u hu=>(hm j u hu).2);exact⟨u,by simp[Instr.loadAt,Instr.sureAddr,hu],hy.mono (fun _ h=>h) (fun _ _=>rfl) (fun _ _ h=>by cases h)⟩
 ·cases hl
end
end
section
open Go
section
variable {P:Program}{w0:World}{M St0:Nat→Prop}{s:LS}{μ:Nat→Option (Nat×Nat)}{St:Nat→Prop}{tm:Array Value}{w:World}
theorem Inv.put (h:Inv w0 M St0 s μ St tm w) {d:Nat}{x:LV}{v:Value}(hx:Rep St w.heap μ x v) (hd:d<s.n):
  Inv w0 M St0 (s.put (some d) x) μ St (tm.setIfInBounds d v) w:=
 {h with
  frame:=fun i=>by
    simp only[LS.put];by_cases hi:i=d
    · subst hi;rw[cH];simpa[Array.getD,h.sz,hd]using hx
    · rw[bW _ _ _ _ hi];have:=h.frame i;simp only[Array.getD_eq_getD_getElem?,Array.getElem?_setIfInBounds]at this⊢
      rwa [if_neg (fun e=>hi e.symm)]
  sz:=by simp[LS.put,h.sz]
  blk:=h.blk
  inj:=h.inj}
theorem Inv.putD (h:Inv w0 M St0 s μ St tm w) {d:Option Nat}{x:LV}{v:Value}(hx:Rep St w.heap μ x v) (hd:∀ t,d=some t→t<s.n) (ds:List Deferred):
  Inv w0 M St0 (s.put d x) μ St (Act.put ⟨tm,ds⟩ d v).tmps w:=by
 cases d with
 |none=>exact h
 |some t=>exact h.put hx (hd t rfl)
theorem Inv.alloc (h:Inv w0 M St0 s μ St tm w) {id:Nat}(hid:μ id=none) {ty:TypeId}{cs:List LV}{us:List Value}{R:Nat}
  (hr:Reps St w.heap μ cs us) (h1:∀ u∈us,u.oneCell'=true) (hR:us.length=R):
  Inv w0 M St0 {s with h:=dE s.h id (some ⟨ty,cs,false⟩)} (dE μ id (some (w.heap.size,R))) St tm (w.alloc (.cells us.toArray ty)):=by
 have hold:∀ g,g<w.heap.size→(w.alloc (.cells us.toArray ty)).heap[g]? =w.heap[g]? :=fun g hg=>by
  show(w.heap.push _)[g]? =_;rw[Array.getElem?_push,if_neg (by omega)]
 have hnew:(w.alloc (.cells us.toArray ty)).heap[w.heap.size]? =some (.cells us.toArray ty (0,0)):=by
  show(w.heap.push _)[_]? =_;rw[Array.getElem?_push,if_pos rfl]
 have hμ:∀ b r,μ b=some r→dE μ id (some (w.heap.size,R)) b=some r:=fun b r hb=>by
  rw[bW _ _ _ _ (fun e=>by subst e;rw[hid]at hb;cases hb)];exact hb
 have hS:∀ g,St g→(w.alloc (.cells us.toArray ty)).heap[g]? =w.heap[g]? :=fun g hg=>hold g (h.st_lt g hg).1
 have hrep:∀ x v,Rep St w.heap μ x v→Rep St (w.alloc (.cells us.toArray ty)).heap (dE μ id (some (w.heap.size,R))) x v:=fun x v hx=>
  hx.mono (fun _ h=>h) hS hμ
 refine⟨fun i=>hrep _ _ (h.frame i),h.sz,?_,?_,?_,fun g hg=> ?_,h.st0,h.os,h.tape,h.output,by simp;exact Nat.le_succ_of_le h.size,fun g hg hM=> ?_⟩
 ·intro b k hb;by_cases hbi:b=id
  ·subst hbi;simp only[cH]at hb⊢
   cases hb
   refine⟨_,_,_,rfl,hnew,by simp[hR],by simp[hr.1],?_,?_,by simp,fun _ hs=> ?_⟩
   ·have:(us.toArray.toList.take cs.length)=us:=by simp[hr.1]
    rw[this];exact hr.mono (fun _ h=>h) hS hμ
   ·intro u hu;exact h1 u (List.mem_of_mem_take (by simpa using hu))
   ·exact absurd (h.st_lt _ hs).1 (Nat.lt_irrefl _)
  ·simp only[bW _ _ _ _ hbi]at hb⊢;obtain⟨g,R',cs',hm,hg,hsz,hle,hrr,hh1,hf,hnf⟩:=h.blk b k hb;exact⟨g,R',cs',hm,by rw[hold g (h.lt _ _ _ hm).1];exact hg,hsz,hle,hrr.mono (fun _ h=>h) hS hμ,hh1,hf,hnf⟩
 ·intro b b' k k' g R1 R2 hb hb' hm hm';by_cases hbi:b=id <;>by_cases hbi':b'=id
  ·rw[hbi,hbi']
  ·subst hbi;simp only[cH,bW _ _ _ _ hbi']at*
   cases hm
   exact absurd (h.lt _ _ _ hm').1 (Nat.lt_irrefl _)
  ·subst hbi';simp only[cH,bW _ _ _ _ hbi]at*
   cases hm'
   exact absurd (h.lt _ _ _ hm).1 (Nat.lt_irrefl _)
  ·simp only[bW _ _ _ _ hbi,bW _ _ _ _ hbi']at*;exact h.inj b b' k k' g R1 R2 hb hb' hm hm'
 ·intro b g R1 hm;by_cases hbi:b=id
  ·subst hbi;rw[cH]at hm
   cases hm
   exact⟨by simp,.inr (.inl h.size)⟩
  ·rw[bW _ _ _ _ hbi]at hm
   exact⟨by simp;exact Nat.lt_succ_of_lt (h.lt _ _ _ hm).1,(h.lt _ _ _ hm).2⟩
 ·exact⟨by simp;exact Nat.lt_succ_of_lt (h.st_lt g hg).1,(h.st_lt g hg).2⟩
 ·rw[hold g (Nat.lt_of_lt_of_le hg h.size)];exact h.kept g hg hM
theorem Inv.write (h:Inv w0 M St0 s μ St tm w) {b:Nat}{k:Blk}{g R:Nat}{cs:Array Value}(hb:s.h b=some k) (hm:μ b=some (g,R)) (hg:w.heap[g]? =some (.cells cs k.ty (0,0)))
  (hz:k.fz=false) {cells:List LV}{cs':Array Value}(hsz:cs'.size=cs.size) (hle:cells.length≤cs'.size)
  (hr:Reps St w.heap μ cells (cs'.toList.take cells.length)) (h1:∀ u∈cs'.toList.take cells.length,u.oneCell'=true):
  Inv w0 M St0 {s with h:=dE s.h b (some {k with cells:=cells})} μ St tm (w.setRow g cs'):=by
 obtain⟨g',R',cs0,hm',hg',hsz',hle',_,_,_,hnf⟩:=h.blk b k hb;rw[hm]at hm';cases hm'
 rw[hg]at hg';cases hg'
 have hns:=hnf hz;have hold:∀ i,i≠g→(w.setRow g cs').heap[i]? =w.heap[i]? :=fun i hi=>setRow_other w g i cs' (fun e=>hi e)
 have hself:(w.setRow g cs').heap[g]? =some (.cells cs' k.ty (0,0)):=setRow_heap w g cs cs' _ _ hg;have hsize:(w.setRow g cs').heap.size=w.heap.size:=by simp[World.setRow]
 have hS:∀ i,St i→(w.setRow g cs').heap[i]? =w.heap[i]? :=fun i hi=>hold i (fun e=>hns (e ▸ hi))
 have hrep:∀ x v,Rep St w.heap μ x v→Rep St (w.setRow g cs').heap μ x v:=fun x v hx=>hx.mono (fun _ h=>h) hS (fun _ _ h=>h)
 refine⟨fun i=>hrep _ _ (h.frame i),h.sz,?_,?_,fun b' g' R' hm'=>by rw[hsize];exact h.lt _ _ _ hm',fun i hi=>by rw[hsize];exact h.st_lt i hi,h.st0,h.os,h.tape,h.output,by rw[hsize];exact h.size,fun i hi hM=> ?_⟩
 ·intro b' k' hb';by_cases hbi:b'=b
  ·subst hbi;simp only[cH]at hb'
   cases hb'
   exact⟨g,R,cs',hm,hself,by omega,hle,hr.mono (fun _ h=>h) hS (fun _ _ h=>h),h1,fun(hf:k.fz=true)=>absurd (hz.symm.trans hf) (by simp),fun _=>hns⟩
  ·simp only[bW _ _ _ _ hbi]at hb';obtain⟨g',R',cs'',hm',hg',hsz',hle',hr',h1',hf',hnf'⟩:=h.blk b' k' hb';have hne:g'≠g:=fun e=>hbi (h.inj b' b k' k g R' R hb' hb (e ▸ hm') hm)
   exact⟨g',R',cs'',hm',by rw[hold g' hne];exact hg',hsz',hle',hr'.mono (fun _ h=>h) hS (fun _ _ h=>h),h1',hf',hnf'⟩
 ·intro b1 b2 k1 k2 g1 R1 R2 hb1 hb2 hm1 hm2
  have back:∀ c kc,dE s.h b (some {k with cells:=cells}) c=some kc→∃ kc',s.h c=some kc':=fun c kc hc=>by
   by_cases hci:c=b
   ·subst hci;exact⟨k,hb⟩
   ·simp only[bW _ _ _ _ hci]at hc;exact⟨kc,hc⟩
  obtain⟨k1',hb1'⟩:=back _ _ hb1;obtain⟨k2',hb2'⟩:=back _ _ hb2;exact h.inj b1 b2 k1' k2' g1 R1 R2 hb1' hb2' hm1 hm2
 ·by_cases hi':i=g
  ·subst hi';rcases(h.lt _ _ _ hm).2 with hh |hh |hh
   ·exact absurd hh hM
   ·omega
   ·exact absurd hh hns
  ·rw[hold i hi'];exact h.kept i hi hM
theorem Inv.app (h:Inv w0 M St0 s μ St tm w) {id:Nat}(hid:μ id=none) {ob:Option Nat}{w':World}{g' R:Nat}{cur:Array Value}{ty:TypeId}{row:Option Nat}
  (hob:(∃ b k g R,ob=some b∧s.h b=some k∧μ b=some (g,R)∧k.fz=false∧row=some g)∨ob=none∧row=none)
  (hgrow:w.grownBy w' row) (hat:row=some g'∨g'=w.heap.size) (hlt:g'<w'.heap.size) (hg:w'.heap[g']? =some (.cells cur ty (0,0))) (hcur:cur.size=R)
  {cells:List LV}(hle:cells.length≤cur.size) (hr:Reps St w.heap μ cells (cur.toList.take cells.length)) (h1:∀ u∈cur.toList.take cells.length,u.oneCell'=true):
  Inv w0 M St0 {s with h:=dE (jS s.h ob) id (some ⟨ty,cells,false⟩)} (dE μ id (some (g',R))) St tm w':=by
 have hrow:∀ g,row=some g→¬St g∧(M g∨w0.heap.size≤g):=fun g hrg=>by
  rcases hob with⟨b,k,g1,R1,rfl,hk,hm,hz,hrw⟩ |⟨rfl,hrw⟩
  ·rw[hrw]at hrg;cases hrg
   obtain⟨g2,R2,cs,hm2,_,_,_,_,_,_,hnf⟩:=h.blk b k hk;rw[hm]at hm2;cases hm2
   refine⟨hnf hz,?_⟩;rcases(h.lt _ _ _ hm).2 with hh |hh |hh
   ·exact .inl hh
   ·exact .inr hh
   ·exact absurd hh (hnf hz)
  ·rw[hrw]at hrg;cases hrg
 have hns:¬St g':=by
  rcases hat with hh |hh
  ·exact(hrow _ hh).1
  ·intro hs;have:=(h.st_lt _ hs).1;omega
 have hold:∀ i,i<w.heap.size→row≠some i→w'.heap[i]? =w.heap[i]? :=fun i hi hne=>hgrow.block i hi (fun e=>hne e.symm)
 have hS:∀ i,St i→w'.heap[i]? =w.heap[i]? :=fun i hi=>hold i (h.st_lt i hi).1 (fun e=>(hrow i e).1 hi)
 have hμ:∀ b r,μ b=some r→dE μ id (some (g',R)) b=some r:=fun b r hb=>by
  rw[bW _ _ _ _ (fun e=>by subst e;rw[hid]at hb;cases hb)];exact hb
 have hrep:∀ x v,Rep St w.heap μ x v→Rep St w'.heap (dE μ id (some (g',R))) x v:=fun x v hx=>hx.mono (fun _ h=>h) hS hμ
 have still:∀ b k,(jS s.h ob) b=some k→s.h b=some k∧∀ g R,μ b=some (g,R)→row≠some g:=fun b k hb=>by
  rcases hob with⟨b0,k0,g0,R0,rfl,hk0,hm0,hz0,hrw0⟩ |⟨rfl,hrw⟩
  case inr=>exact⟨hb,fun g R _ e=>by rw[hrw]at e;cases e⟩
  ·simp only[jS]at hb;by_cases hbb:b=b0
   ·subst hbb;rw[cH]at hb;cases hb
   ·rw[bW _ _ _ _ hbb]at hb
    refine⟨hb,fun g R hm e=> ?_⟩;rw[hrw0]at e;cases e
    exact hbb (h.inj b b0 k k0 g0 R R0 hb hk0 hm hm0)
 refine⟨fun i=>hrep _ _ (h.frame i),h.sz,?_,?_,?_,fun g hg=>⟨Nat.lt_of_lt_of_le (h.st_lt g hg).1 hgrow.size,(h.st_lt g hg).2⟩,h.st0,hgrow.os.trans h.os,hgrow.tape.trans h.tape,hgrow.output.trans h.output,Nat.le_trans h.size hgrow.size,fun g hg hM=> ?_⟩
 ·intro b k hb;by_cases hbi:b=id
  ·subst hbi;simp only[cH]at hb⊢
   cases hb
   exact⟨_,_,_,rfl,hg,hcur,hle,hr.mono (fun _ h=>h) hS hμ,h1,by simp,fun _=>hns⟩
  ·simp only[bW _ _ _ _ hbi]at hb⊢;obtain⟨hb',hrw⟩:=still b k hb;obtain⟨g1,R1,cs1,hm1,hg1,hsz1,hle1,hr1,hh1,hf1,hnf1⟩:=h.blk b k hb';exact⟨g1,R1,cs1,hm1,by rw[hold g1 (h.lt _ _ _ hm1).1 (hrw _ _ hm1)];exact hg1,hsz1,hle1,hr1.mono (fun _ h=>h) hS hμ,hh1,hf1,hnf1⟩
 ·have key:∀ b k g R',b≠id→(jS s.h ob) b=some k→μ b=some (g,R')→g≠g':=fun b k g R' _ hb hm e=>by
   obtain⟨hb',hrw⟩:=still b k hb;rcases hat with hh |hh
   ·exact hrw _ _ hm (by rw[e];exact hh)
   ·have:=(h.lt _ _ _ hm).1;omega
  intro b b' k k' g R1 R2 hb hb' hm hm';by_cases hbi:b=id <;>by_cases hbi':b'=id
  ·rw[hbi,hbi']
  ·subst hbi;simp only[cH,bW _ _ _ _ hbi']at*
   cases hm
   exact absurd rfl (key b' k' _ _ hbi' hb' hm')
  ·subst hbi';simp only[cH,bW _ _ _ _ hbi]at*
   cases hm'
   exact absurd rfl (key b k _ _ hbi hb hm)
  ·simp only[bW _ _ _ _ hbi,bW _ _ _ _ hbi']at*;exact h.inj b b' k k' g R1 R2 (still _ _ hb).1 (still _ _ hb').1 hm hm'
 ·intro b g R1 hm;by_cases hbi:b=id
  ·subst hbi;rw[cH]at hm
   cases hm
   refine⟨hlt,?_⟩;rcases hat with hh |hh
   ·exact(hrow _ hh).2.imp id .inl
   ·right;left;rw[hh];exact h.size
  ·rw[bW _ _ _ _ hbi]at hm
   exact⟨Nat.lt_of_lt_of_le (h.lt _ _ _ hm).1 hgrow.size,(h.lt _ _ _ hm).2⟩
 ·rw[hold g (Nat.lt_of_lt_of_le hg h.size) (fun e=> ?_)]
  ·exact h.kept g hg hM
  ·rcases(hrow g e).2 with hh |hh
   ·exact hM hh
   ·omega
theorem Inv.freeze (h:Inv w0 M St0 s μ St tm w) (fz:List Nat) (hfz:∀ b∈fz,∃ k,s.h b=some k):
  Inv w0 M St0 {s with h:=bY s.h fz} μ (fun g=>St g∨∃ b∈fz,∃ R,μ b=some (g,R)) tm w:=by
 have back:∀ b k,bY s.h fz b=some k→∃ k0,s.h b=some k0∧k=if b∈fz then{k0 with fz:=true}else k0:=fun b k hb=>by
  unfold bY at hb
  cases hk:s.h b with
  |none=>simp[hk]at hb
  |some k0=>simp[hk]at hb;exact⟨k0,rfl,hb.symm⟩
 have hrep:∀ x v,Rep St w.heap μ x v→Rep (fun g=>St g∨∃ b∈fz,∃ R,μ b=some (g,R)) w.heap μ x v:=fun x v hx=>hx.mono (fun _ h=> .inl h) (fun _ _=>rfl) (fun _ _ h=>h)
 refine⟨fun i=>hrep _ _ (h.frame i),h.sz,?_,?_,fun b g R hm=>⟨(h.lt b g R hm).1,(h.lt b g R hm).2.imp id (Or.imp id .inl)⟩,?_,fun g hg=> .inl (h.st0 g hg),h.os,h.tape,h.output,h.size,h.kept⟩
 ·intro b k hb;obtain⟨k0,hk0,rfl⟩:=back b k hb;obtain⟨g,R,cs,hm,hg,hsz,hle,hr,h1,hf,hnf⟩:=h.blk b k0 hk0;have hr':=hr.mono (St':=fun g=>St g∨∃ b∈fz,∃ R,μ b=some (g,R)) (fun _ h=> .inl h) (fun _ _=>rfl) (fun _ _ h=>h);by_cases hbf:b∈fz
  ·simp only[hbf,if_true];exact⟨g,R,cs,hm,hg,hsz,hle,hr',h1,fun _=> .inr ⟨b,hbf,R,hm⟩,by simp⟩
  ·simp only[hbf,if_false];refine⟨g,R,cs,hm,hg,hsz,hle,hr',h1,fun hh=> .inl (hf hh),fun hh=> ?_⟩;rintro(hs |⟨b',hb',R',hm'⟩)
   ·exact hnf hh hs
   ·obtain⟨k',hk'⟩:=hfz b' hb';have:=h.inj b b' k0 k' g R R' hk0 hk' hm hm';subst this;exact hbf hb'
 ·intro b b' k k' g R R' hb hb' hm hm';obtain⟨k0,hk0,_⟩:=back b k hb;obtain⟨k0',hk0',_⟩:=back b' k' hb';exact h.inj b b' k0 k0' g R R' hk0 hk0' hm hm'
 ·rintro g (hg |⟨b,hb,R,hm⟩)
  ·exact h.st_lt g hg
  ·refine⟨(h.lt _ _ _ hm).1,?_⟩;rcases(h.lt _ _ _ hm).2 with hh |hh |hh
   ·exact .inr (.inl hh)
   ·exact .inr (.inr hh)
   ·exact(h.st_lt g hh).2
end
end
section
open Go
section
variable {P:Program}{w0:World}{M St0:Nat→Prop}{s:LS}{μ:Nat→Option (Nat×Nat)}{St:Nat→Prop}{a:Act}{w:World}
theorem cP {t e:Nat}(h:aZ P t=some e):P.underlying t=some (.slice e):=by
 unfold aZ at h;split at h <;>simp_all
theorem qQ {t:Nat}{e:Nat×Nat}(h:dA P t=some e):P.underlying t=some (.array e.1 e.2):=by
 unfold dA at h;split at h <;>simp_all
 subst h;simp
theorem aQx {t:Nat}{k:IntKind}(h:mM P t=some k):P.underlying t=some (.int k):=by
 unfold mM at h;split at h <;>simp_all
theorem aEm {t:Nat}(h:aM1 P t=true):P.underlying t=some .bool:=by
 unfold aM1 at h;split at h <;>simp_all
theorem aXm {t:Nat}{b:Bool}(h:bF P t=some b):∃ d,P.underlying t=some d:=by
 unfold bF at h;split at h
 ·exact⟨_,‹_›⟩
 ·exact⟨_,‹_›⟩
 ·exact⟨_,‹_›⟩
 ·cases h
theorem aKd {t:Nat}{ps:List (Nat×Nat)}(h:aT P t=some ps):∃ fs,P.underlying t=some (.struct fs)∧(fs.all fun f=>(aL P f.type).isSome)=true∧ps=fs.toList.map fun f=>(f.offset,(aL P f.type).getD 0):=by
 unfold aT at h;split at h
 ·rename_i fs hu;split at h
  ·rename_i hall;cases h;exact⟨fs,hu,hall,rfl⟩
  ·cases h
 ·cases h
theorem aCn {t f:Nat}{p:Nat×Nat}(h:aX P t f=some p):∃ fs x,P.underlying t=some (.struct fs)∧fs[f]? =some x∧p=(x.offset,x.type):=by
 unfold aX at h;split at h
 ·rename_i fs hu
  cases hx:fs[f]? with
  |none=>simp[hx]at h
  |some x=>simp[hx]at h;exact⟨fs,x,hu,hx,h.symm⟩
 ·cases h
theorem bHy {k k':IntKind}{x y:Int}{t:Nat}(hy:0≤y) (w:World):(Go.binOp .shl t (.int k x) (.int k' y)).run P w= .ok (.int k (k.wrap (x*2^(min y.toNat k.bits)))) w:=by
 have h:(Op.shift .shl k x k' y).run P w= .ok (.int k (k.wrap (x*2^(min y.toNat k.bits)))) w:=by
  unfold Op.shift;rw[if_neg (by omega)];rfl
 exact h
theorem bHz {k k':IntKind}{x y:Int}{t:Nat}(hy:0≤y) (w:World):(Go.binOp .shr t (.int k x) (.int k' y)).run P w= .ok (.int k (x.fdiv (2^(min y.toNat k.bits)))) w:=by
 have h:(Op.shift .shr k x k' y).run P w= .ok (.int k (x.fdiv (2^(min y.toNat k.bits)))) w:=by
  unfold Op.shift;rw[if_neg (by omega)];rfl
 exact h
theorem aQy {op:BinOp}{t:Nat}{x y v:Value}(h:jA op x y=some v) (w:World):(Go.binOp op t x y).run P w= .ok v w:=by
 unfold jA at h;split at h
 ·split at h
  ·cases h;exact bHy ‹_› w
  ·cases h
 ·split at h
  ·cases h;exact bHz ‹_› w
  ·cases h
 all_goals first
  |(split at h <;>first
   |(cases h;done)
   |(cases h
     simp_all [Go.binOp,Op.intArith,Op.intDiv,Op.intBits,Op.intCmp,aA7,orI,bAt]
     done))
  |(cases h;done)
theorem yX {t:Nat}(hu:P.underlying t=some .bool) (p q:Bool) (d:Nat) (w:World):(Op.equalIn (d+1) t (.bool p) (.bool q)).run P w= .ok (p==q) w:=by
 simp[Op.equalIn,run_underlying hu]
theorem bAu {t:Nat}(hu:P.underlying t=some .bool) (p q:Bool) (w:World):(Go.binOp .eql t (.bool p) (.bool q)).run P w= .ok (.bool (p==q)) w:=by
 have h:(Op.equal t (.bool p) (.bool q)).run P w= .ok (p==q) w:=yX hu p q 9999 w;show(do pure (Value.bool (← Op.equal t (.bool p) (.bool q))):Sem Value).run P w=_;simp[h]
theorem bAv {t:Nat}(hu:P.underlying t=some .bool) (p q:Bool) (w:World):(Go.binOp .neq t (.bool p) (.bool q)).run P w= .ok (.bool (p !=q)) w:=by
 have h:(Op.equal t (.bool p) (.bool q)).run P w= .ok (p==q) w:=yX hu p q 9999 w;show(do pure (Value.bool !(← Op.equal t (.bool p) (.bool q))):Sem Value).run P w=_;simp[h];cases p <;>cases q <;>rfl
theorem aCo {op:BinOp}{t:Nat}{x y:Operand}{u v:Value}(hu:∀ cs,u≠ .agg cs) (hn:u≠ .nilIface) (w:World):(eqGuard op t x y u v).run P w= .ok () w:=by
 cases op <;>cases u <;>first |rfl |exact absurd rfl hn |exact absurd rfl (hu _)
theorem xD {t e:Nat}(hu:P.underlying t=some (.slice e)) (a:Option Addr) (n c d:Nat) (w:World):(Op.equalIn (d+1) t (.slice a n c) (.slice none 0 0)).run P w= .ok a.isNone w:=by
 cases a <;>simp[Op.equalIn,run_underlying hu]
theorem aIj {t e:Nat}(hu:P.underlying t=some (.slice e)) (a:Option Addr) (n c:Nat) (w:World):(Go.binOp .eql t (.slice a n c) (.slice none 0 0)).run P w= .ok (.bool a.isNone) w:=by
 have h:(Op.equal t (.slice a n c) (.slice none 0 0)).run P w= .ok a.isNone w:=xD hu a n c 9999 w;show(do pure (Value.bool (← Op.equal t (.slice a n c) (.slice none 0 0))):Sem Value).run P w=_;simp[h]
theorem aIk {t e:Nat}(hu:P.underlying t=some (.slice e)) (a:Option Addr) (n c:Nat) (w:World):(Go.binOp .neq t (.slice a n c) (.slice none 0 0)).run P w= .ok (.bool !a.isNone) w:=by
 have h:(Op.equal t (.slice a n c) (.slice none 0 0)).run P w= .ok a.isNone w:=xD hu a n c 9999 w;show(do pure (Value.bool !(← Op.equal t (.slice a n c) (.slice none 0 0))):Sem Value).run P w=_;simp[h]
theorem uC {t:Nat}(h:(aZ P t).isSome=true):∃ e,P.underlying t=some (.slice e):=by
 cases he:aZ P t with
 |none=>simp[he]at h
 |some e=>exact⟨e,cP he⟩
theorem yY {op:BinOp}{t n:Nat}{v:Value}{ox oy:Operand}{ad:Addr}{m c:Nat}(h:kO P op t n=some v) (w:World):
  (eqGuard op t ox oy (.slice (some ad) m c) (.slice none 0 0)).run P w= .ok () w∧(Go.binOp op t (.slice (some ad) m c) (.slice none 0 0)).run P w= .ok v w:=by
 refine⟨aCo (by simp) (by simp) w,?_⟩;unfold kO at h;split at h
 ·rename_i hh;obtain⟨e,hu⟩:=uC hh.2;split at h
  ·cases h;exact aIj hu (some ad) m c w
  ·cases h;exact aIk hu (some ad) m c w
  ·cases h
 ·cases h
theorem aQz {op:BinOp}{t:Nat}{x y v:Value}{ox oy:Operand}(h:xN P op t x y=some v) (w:World):
  (eqGuard op t ox oy x y).run P w= .ok () w∧(Go.binOp op t x y).run P w= .ok v w:=by
 have key:(Go.binOp op t x y).run P w= .ok v w∧(∀ cs,x≠ .agg cs)∧x≠ .nilIface:=by
  unfold xN at h;split at h
  ·rename_i p q;split at h
   ·rename_i hu
    cases h
    have hu':=aEm hu;exact⟨bAu hu' _ _ w,by simp,by simp⟩
   ·cases h
  ·rename_i p q;split at h
   ·rename_i hu
    cases h
    have hu':=aEm hu;exact⟨bAv hu' _ _ w,by simp,by simp⟩
   ·cases h
  ·split at h
   ·rename_i hs
    cases h
    obtain⟨e,hu⟩:=uC hs;exact⟨aIj hu _ _ _ w,by simp,by simp⟩
   ·cases h
  ·split at h
   ·rename_i hs
    cases h
    obtain⟨e,hu⟩:=uC hs;exact⟨aIk hu _ _ _ w,by simp,by simp⟩
   ·cases h
  ·refine⟨aQy h w,?_,?_⟩ <;>(unfold jA at h;split at h <;>simp_all)
 exact⟨aCo key.2.1 key.2.2 w,key.1⟩
theorem aXn {op:UnOp}{x v:Value}(h:unV op x=some v) (w:World):(Op.unary op x).run P w= .ok v w:=by
 unfold unV at h;split at h <;>cases h <;>simp[Op.unary,Op.intArith,Op.intBits,bAt]
theorem Inv.index (h:Inv w0 M St0 s μ St a.tmps w) {t:Nat}{x ix y:LV}{v iv:Value}(hx:Rep St w.heap μ x v) (hi:Rep St w.heap μ ix iv) (hc:jI P t x ix=some y):
  ∃ u,(Instr.indexAt t v iv).run P w= .ok u w∧Rep St w.heap μ y u:=by
 unfold jI at hc;split at hc
 case h_2=>cases hc
 rename_i kd i
 cases hi
 split at hc
 ·rename_i n cs
  cases he:aZ P t with
  |none=>simp[he]at hc
  |some e=>
   cases hz:aL P e with
   |none=>simp[he,hz]at hc
   |some sz=>
    simp only[he,hz,Option.bind_some]at hc;split at hc
    · rename_i hin
      cases hc
      cases hx with
      |snil=>simp at hin;omega
      | @sl _ _ cap ad _ us hn hcap hs hl hm h1 hr=>
        refine⟨.pointer (some (ad.add (i.toNat*sz))),by simp[Instr.indexAt,asIntOf,run_underlying (cP he),hin,cO hz],?_⟩;have hsp:(ad.add (i.toNat*sz)).spot=none:=by unfold Addr.add;split <;>simp[hs]
        have hbl:(ad.add (i.toNat*sz)).block=ad.block:=by unfold Addr.add;split <;>rfl
        have hof:(ad.add (i.toNat*sz)).off=ad.off+i.toNat*sz:=by
          unfold Addr.add;split <;>simp_all
        refine .ro hsp (us:=us.drop (i.toNat*sz)) (by simp[hl]) (fun j u hu=> ?_) (fun u hu=>h1 u (List.mem_of_mem_drop hu)) (fun j c u hc hu=>hr _ c u (by rwa [List.getElem?_drop]at hc) (by rwa [List.getElem?_drop]at hu));rw[hbl,hof];have:=hm _ u (by rwa [List.getElem?_drop]at hu);exact⟨this.1,by rw[Nat.add_assoc];exact this.2⟩
    · cases hc
 ·rename_i b off n sz'
  cases he:aZ P t with
  |none=>simp[he]at hc
  |some e=>
   cases hz:aL P e with
   |none=>simp[he,hz]at hc
   |some sz=>
    simp only[he,hz,Option.bind_some]at hc;split at hc
    · rename_i hin
      cases hc
      cases hx with
      | @own _ _ _ _ _ g R cap hb hn hcap hR=>
        refine⟨.pointer (some ⟨g,off+i.toNat*sz,none⟩),?_,.ptr hb⟩;simp only[Instr.indexAt,asIntOf,Sem.run_bind,Sem.run_pure,Result.andThen_ok,run_underlying (cP he)];simp[hin,cO hz,Addr.add]
    · cases hc
 ·rename_i b off
  cases he:dA P t with
  |none=>simp[he]at hc
  |some e=>
   cases hz:aL P e.2 with
   |none=>simp[he,hz]at hc
   |some sz=>
    simp only[he,hz,Option.bind_some]at hc;split at hc
    · rename_i hin
      cases hc
      cases hx with
      | @ptr _ _ _ g R hb=>
        refine⟨.pointer (some ⟨g,off+i.toNat*sz,none⟩),?_,.ptr hb⟩;simp only[Instr.indexAt,asIntOf,Sem.run_bind,Sem.run_pure,Result.andThen_ok,run_underlying (qQ he)];simp[hin,cO hz,Addr.add,Instr.sureAddr]
    · cases hc
 ·rename_i cs
  cases he:dA P t with
  |none=>simp[he]at hc
  |some e=>
   cases hz:aL P e.2 with
   |none=>simp[he,hz]at hc
   |some sz=>
    simp only[he,hz,Option.bind_some]at hc;split at hc
    · rename_i hin
      cases hc
      cases hx with
      | @ro _ ad _ us hs hl hm h1 hr=>
        refine⟨.pointer (some (ad.add (i.toNat*sz))),?_,?_⟩
        · simp only[Instr.indexAt,asIntOf,Sem.run_bind,Sem.run_pure,Result.andThen_ok,run_underlying (qQ he)];simp[hin,cO hz,Instr.sureAddr]
        · have hsp:(ad.add (i.toNat*sz)).spot=none:=by unfold Addr.add;split <;>simp[hs]
          have hbl:(ad.add (i.toNat*sz)).block=ad.block:=by unfold Addr.add;split <;>rfl
          have hof:(ad.add (i.toNat*sz)).off=ad.off+i.toNat*sz:=by
            unfold Addr.add;split <;>simp_all
          refine .ro hsp (us:=us.drop (i.toNat*sz)) (by simp[hl]) (fun j u hu=> ?_) (fun u hu=>h1 u (List.mem_of_mem_drop hu)) (fun j c u hc hu=>hr _ c u (by rwa [List.getElem?_drop]at hc) (by rwa [List.getElem?_drop]at hu));rw[hbl,hof];have:=hm _ u (by rwa [List.getElem?_drop]at hu);exact⟨this.1,by rw[Nat.add_assoc];exact this.2⟩
    · cases hc
 ·cases hc
theorem Inv.fieldAddr (_h:Inv w0 M St0 s μ St a.tmps w) {t f:Nat}{x y:LV}{v:Value}(hx:Rep St w.heap μ x v) (hc:fieldAddrL P t x f=some y):
  ∃ u,(Instr.fieldAt t v f).run P w= .ok u w∧Rep St w.heap μ y u:=by
 unfold fieldAddrL at hc
 cases hp:aX P t f with
 |none=>simp[hp]at hc
 |some p=>
  obtain⟨fs,fd,hu,hf,rfl⟩:=aCn hp;simp only[hp,Option.bind_some]at hc;split at hc
  · rename_i n hz;split at hc
    · rename_i b off
      cases hc
      cases hx with
      | @ptr _ _ _ g R hb=>
        refine⟨.pointer (some ⟨g,off+fd.offset,none⟩),?_,.ptr hb⟩;simp[Instr.fieldAt,run_underlying hu,hf,Instr.sureAddr,fieldPlace,cO hz,Addr.add]
    · rename_i cs
      cases hc
      cases hx with
      | @ro _ ad _ us hs hl hm h1 hr=>
        refine⟨.pointer (some (ad.add fd.offset)),by simp[Instr.fieldAt,run_underlying hu,hf,Instr.sureAddr,fieldPlace,cO hz],?_⟩;have hsp:(ad.add fd.offset).spot=none:=by unfold Addr.add;split <;>simp[hs]
        have hbl:(ad.add fd.offset).block=ad.block:=by unfold Addr.add;split <;>rfl
        have hof:(ad.add fd.offset).off=ad.off+fd.offset:=by
          unfold Addr.add;split <;>simp_all
        refine .ro hsp (us:=us.drop fd.offset) (by simp[hl]) (fun j u hu=> ?_) (fun u hu=>h1 u (List.mem_of_mem_drop hu)) (fun j c u hc hu=>hr _ c u (by rwa [List.getElem?_drop]at hc) (by rwa [List.getElem?_drop]at hu));rw[hbl,hof];have:=hm _ u (by rwa [List.getElem?_drop]at hu);exact⟨this.1,by rw[Nat.add_assoc];exact this.2⟩
    · cases hc
  · cases hc
end
end
section
open Go
section
variable {P:Program}{w0:World}{M St0:Nat→Prop}{s:LS}{μ:Nat→Option (Nat×Nat)}{St:Nat→Prop}{a:Act}{w:World}
theorem aQ0 {x:LV}{v:Value}{d top r:Nat}{code:BoundsCode}(hx:Rep St w.heap μ x v) (h:dO (some x) d top=some r):
  (Instr.sliceBound v top code).run P w= .ok r w∧r≤top:=by
 unfold dO at h;split at h
 ·simp_all
 ·rename_i k i heq
  cases heq
  split at h
  ·rename_i hi
   cases h
   cases hx
   exact⟨by simp[Instr.sliceBound,asIntOf,hi],by omega⟩
  ·cases h
 ·cases h
def aM6 (St:Nat→Prop) (hp:Array Obj) (μ:Nat→Option (Nat×Nat)):Option LV→Option Value→Prop
 |none,none=>True
 |some x,some v=>Rep St hp μ x v
 |_,_=>False
theorem Inv.bounds (h:Inv w0 M St0 s μ St a.tmps w) (o:Option Operand):aM6 St w.heap μ (o.map (Lg.opnd s)) (o.map a.eval):=by
 cases o with
 |none=>trivial
 |some o=>exact h.opnd o
theorem nP {lo hi:Option LV}{vl vh:Option Value}{n cap l r:Nat}(hlo:aM6 St w.heap μ lo vl) (hhi:aM6 St w.heap μ hi vh) (hn:n≤cap)
  (hh:dO hi n n=some r) (hl:dO lo 0 r=some l):(Instr.sliceBounds true n cap vl vh none).run P w= .ok (l,r,cap) w∧l≤r∧r≤n:=by
 have hr:r≤n∧((match vh with |some v=>Instr.sliceBound v cap .sliceAcap |none=>pure n:Sem Nat).run P w= .ok r w):=by
  cases hi with
  |none=>
   cases vh with
   |none=>simp[dO]at hh;subst hh;simp
   |some v=>exact hhi.elim
  |some x=>
   cases vh with
   |none=>exact hhi.elim
   |some v=>
    unfold dO at hh;split at hh
    · simp_all
    · rename_i k i heq
      cases heq
      split at hh
      · rename_i hi'
        cases hh
        cases hhi
        refine⟨by omega,?_⟩;have:0≤i∧i≤(cap:Int):=by omega
        simp[Instr.sliceBound,asIntOf,this]
      · cases hh
    · cases hh
 have hl':l≤r∧((match vl with |some v=>Instr.sliceBound v r .sliceB |none=>pure 0:Sem Nat).run P w= .ok l w):=by
  cases lo with
  |none=>
   cases vl with
   |none=>simp[dO]at hl;subst hl;simp
   |some v=>exact hlo.elim
  |some x=>
   cases vl with
   |none=>exact hlo.elim
   |some v=>
    have:=aQ0 (P:=P) (code:= .sliceB) hlo hl;exact⟨this.2,this.1⟩
 refine⟨?_,hl'.1,hr.1⟩
 cases vh <;>cases vl <;>simp_all [Instr.sliceBounds]
theorem Inv.slice (h:Inv w0 M St0 s μ St a.tmps w) {t:Nat}{x y:LV}{v:Value}{lo hi:Option LV}{vl vh:Option Value}(hx:Rep St w.heap μ x v)
  (hlo:aM6 St w.heap μ lo vl) (hhi:aM6 St w.heap μ hi vh) (hc:mF P t x lo hi=some y):
  ∃ u,(Instr.sliceAt t v vl vh none).run P w= .ok u w∧Rep St w.heap μ y u:=by
 unfold mF at hc
 cases he:aZ P t with
 |none=>simp[he]at hc
 |some e=>
 rw[he]at hc
 split at hc
 case h_4=>cases hc
 ·rename_i _ n cs hee
  cases hee
  cases hz:aL P e with
  |none=>simp[hz]at hc
  |some sz=>
  simp only[hz,Option.bind_some]at hc
  cases hr:dO hi n n with
  |none=>simp[hr]at hc
  |some r=>
  cases hl:dO lo 0 r with
  |none=>simp[hr,hl]at hc
  |some l=>
  simp only[hr,hl,Option.bind_some,Option.some.injEq]at hc;subst hc
  cases hx with
  |snil=>
   obtain⟨hb,h1,h2⟩:=nP (P:=P) (n:=0) (cap:=0) hlo hhi (Nat.le_refl _) hr hl;have hr0:r=0:=by omega
   have hl0:l=0:=by omega
   subst hr0;subst hl0;refine⟨.slice none 0 0,?_,by simpa using Rep.snil⟩
   simp[Instr.sliceAt,Instr.slice,run_underlying (cP he),hb,cO hz]
  | @sl _ _ cap ad _ us hn hcap hs hlen hm h1 hrr=>
    obtain⟨hb,h3,h4⟩:=nP (P:=P) hlo hhi hn hr hl;refine⟨.slice (some (if cap=l then ad else ad.add (l*sz))) (r-l) (cap-l),?_,?_⟩
    · simp only[Instr.sliceAt,Instr.slice,Sem.run_bind,run_underlying (cP he),hb,cO hz,Result.andThen_ok,Sem.run_pure];congr 2;split <;>rfl
    · by_cases hcl:cap=l
      · have:r-l=0:=by omega
        simp only[this,Nat.zero_mul,List.take_zero];exact .sl (us:=[]) (by omega) (by omega) (by simp[hcl,hs]) rfl (by simp) (by simp) (by simp)
      · simp only[hcl,if_false];have hsp:(ad.add (l*sz)).spot=none:=by unfold Addr.add;split <;>simp[hs]
        have hbl:(ad.add (l*sz)).block=ad.block:=by unfold Addr.add;split <;>rfl
        have hof:(ad.add (l*sz)).off=ad.off+l*sz:=by unfold Addr.add;split <;>simp_all
        have hR:Reps St w.heap (fun _=>none) ((cs.drop (l*sz)).take ((r-l)*sz)) ((us.drop (l*sz)).take ((r-l)*sz)):=(Reps.drop ⟨hlen,hrr⟩ _).take _;refine .sl (us:=(us.drop (l*sz)).take ((r-l)*sz)) (by omega) (by omega) hsp hR.1 (fun j u hu=> ?_) (fun u hu=>h1 u (List.mem_of_mem_drop (List.mem_of_mem_take hu))) hR.2;rw[List.getElem?_take]at hu
        split at hu
        · rw[List.getElem?_drop]at hu
          have:=hm _ u hu;rw[hbl,hof,Nat.add_assoc];exact this
        · cases hu
 ·rename_i _ b off n sz' hee
  cases hee
  cases hz:aL P e with
  |none=>simp[hz]at hc
  |some sz=>
  simp only[hz,Option.bind_some]at hc;split at hc
  case isFalse=>cases hc
  rename_i hsz;subst hsz
  cases hr:dO hi n n with
  |none=>simp[hr]at hc
  |some r=>
  simp only[hr,Option.bind_some]at hc
  cases hx with
  | @own _ _ _ _ _ g R cap hb hn hcap hR=>
  cases lo with
  |none=>
   simp only[Option.some.injEq]at hc;subst hc
   cases vl with
   |some v=>exact hlo.elim
   |none=>
   obtain⟨hbd,h1,h2⟩:=nP (P:=P) (lo:=none) (vl:=none) (l:=0) trivial hhi hn hr (by simp[dO]);refine⟨.slice (some ⟨g,off,none⟩) r cap,?_,.own hb (by omega) hcap hR⟩;simp only[Instr.sliceAt,Instr.slice,Sem.run_bind,run_underlying (cP he),hbd,cO hz,Result.andThen_ok,Sem.run_pure]
   simp[Addr.add]
  |some lx=>
   simp only at hc
   cases hl:dO (some lx) 0 r with
   |none=>simp[hl]at hc
   |some l=>
   simp only[hl,Option.bind_some]at hc;obtain⟨hbd,h1,h2⟩:=nP (P:=P) hlo hhi hn hr hl;split at hc
   · rename_i hlt
     cases hc
     refine⟨.slice (some ⟨g,off+l*sz',none⟩) (r-l) (cap-l),?_,.own hb (by omega) (by omega) ?_⟩
     · simp only[Instr.sliceAt,Instr.slice,Sem.run_bind,run_underlying (cP he),hbd,cO hz,Result.andThen_ok,Sem.run_pure];rw[if_neg (by omega)];simp[Addr.add]
     · rw[Nat.sub_mul,← hR];have:l*sz'≤cap*sz':=Nat.mul_le_mul_right _ (by omega);omega
   · rename_i hlt
     cases hc
     have hrl:r-l=0:=by omega
     refine⟨.slice (some (if cap=l then⟨g,off,none⟩else(⟨g,off,none⟩:Addr).add (l*sz'))) 0 (cap-l),?_,.sl (us:=[]) (by omega) (by omega) (by split <;>(try unfold Addr.add) <;>(try split) <;>rfl) rfl (by simp) (by simp) (by simp)⟩;simp only[Instr.sliceAt,Instr.slice,Sem.run_bind,run_underlying (cP he),hbd,cO hz,Result.andThen_ok,Sem.run_pure,hrl];congr 2;split <;>rfl
 ·rename_i _ hee
  cases hee
  cases hz:aL P e with
  |none=>simp[hz]at hc
  |some sz=>
  simp only[hz,Option.bind_some]at hc
  cases hr:dO hi 0 0 with
  |none=>simp[hr]at hc
  |some r=>
  cases hl:dO lo 0 r with
  |none=>simp[hr,hl]at hc
  |some l=>
  simp only[hr,hl,Option.bind_some,Option.some.injEq]at hc;subst hc
  cases hx with
  |lit _=>
  obtain⟨hb,h1,h2⟩:=nP (P:=P) (n:=0) (cap:=0) hlo hhi (Nat.le_refl _) hr hl;have hr0:r=0:=by omega
  have hl0:l=0:=by omega
  subst hr0;subst hl0;refine⟨.slice none 0 0,?_,.lit _⟩;simp[Instr.sliceAt,Instr.slice,run_underlying (cP he),hb,cO hz]
theorem nG {t:Nat}{z:List LV}(h:bT P t=some z):∃ i v,P.info? t=some i∧i.zero=some v∧z=v.cells.toList.map .lit∧v.cells.size=i.size∧∀ u∈v.cells.toList,u.oneCell'=true:=by
 unfold bT at h
 cases hi:P.info? t with
 |none=>simp[hi]at h
 |some i=>
  cases hv:i.zero with
  |none=>simp[hi,hv]at h
  |some v=>
   simp only[hi,hv]at h;split at h
   · rename_i hh
     cases h
     exact⟨i,v,rfl,hv,rfl,hh.1,fun u hu=>List.all_eq_true.1 hh.2 u hu⟩
   · cases h
theorem jB {t:Nat}{i:TypeInfo}{v:Value}(hi:P.info? t=some i) (hv:i.zero=some v) (w:World):(zeroValue t).run P w= .ok v w:=by
 simp[zeroValue,typeInfo,hi,hv]
theorem aEn {cells xs:List LV}{us vs:List Value}{off:Nat}(h:Reps St w.heap μ cells us) (hx:Reps St w.heap μ xs vs) (hle:off+xs.length≤cells.length):
  Reps St w.heap μ (jH cells off xs) (us.take off++vs++us.drop (off+vs.length)):=by
 have key:jH cells off xs=cells.take off++xs++cells.drop (off+xs.length):=by
  unfold jH;split
  ·rename_i x;have:off<cells.length:=by simp at hle;omega
   rw[List.set_eq_take_append_cons_drop];simp[this]
  ·rfl
 rw[key,← hx.1];exact((h.take off).append hx).append (h.drop _)
theorem uD {cells xs:List LV}{off:Nat}(hle:off+xs.length≤cells.length):(jH cells off xs).length=cells.length:=by
 unfold jH;split
 ·simp
 ·simp;omega
theorem bAw {α:Type}(A B:List α) (v:α) (m:Nat) (h:A.length=m):(A++v::B).take (m+1)=A++[v]:=by
 subst h
 induction A with
 |nil=>simp
 |cons x A ih=>simpa using ih
theorem bAx {α:Type}(A B:List α) (v:α) (m n:Nat) (h:A.length=m):(A++v::B).drop (m+1+n)=B.drop n:=by
 subst h
 induction A with
 |nil=>rw[List.length_nil,Nat.zero_add,Nat.add_comm];simp
 |cons x A ih=>
  rw[List.length_cons,show A.length+1+1+n=(A.length+1+n)+1 by omega];simpa using ih
theorem aIl (off:Nat):∀ (vs:List Value) (k:Nat) (cs:Array Value),off+k+vs.length≤cs.size→
  ((vs.zipIdx k).foldl (fun(cs:Array Value) (p:Value×Nat)=>cs.setIfInBounds (off+p.2) p.1) cs).toList=cs.toList.take (off+k)++vs++cs.toList.drop (off+k+vs.length)
 |[],k,cs,h=>by simp
 |v::vs,k,cs,h=>by
  rw[List.zipIdx_cons,List.foldl_cons,aIl off vs (k+1) _ (by simp at h⊢;omega)];simp only[Array.toList_setIfInBounds,List.length_cons]at h⊢;have hk:off+k<cs.toList.length:=by simp;omega
  rw[List.set_eq_take_append_cons_drop];simp only[hk,↓reduceIte];have hlt:(cs.toList.take (off+k)).length=off+k:=by rw[List.length_take];omega
  rw[show off+(k+1)=off+k+1 by omega,bAw _ _ _ _ hlt,bAx _ _ _ _ _ hlt,List.drop_drop];simp[Nat.add_assoc,Nat.add_comm 1]
theorem nQ {place:Nat→Option (Nat×Nat)}:∀ {lp:List (Nat×LV)}{vp:List (Nat×Value)}{cells out:List LV}{us:Array Value},
  lp.length=vp.length→(∀ (j:Nat) (p:Nat×LV) (q:Nat×Value),lp[j]? =some p→vp[j]? =some q→p.1=q.1∧Rep St w.heap μ p.2 q.2)→
  Reps St w.heap μ cells us.toList→(∀ u∈us.toList,u.oneCell'=true)→fillL place cells lp=some out→
  ∃ us',Instr.fill place us vp=some us'∧Reps St w.heap μ out us'.toList∧(∀ u∈us'.toList,u.oneCell'=true)
 |[],[],cells,out,us,_,_,hr,h1,h=>by
  simp[fillL]at h;subst h
  exact⟨us,by simp[Instr.fill],hr,h1⟩
 |(i,x)::lp,(i',v)::vp,cells,out,us,hlen,hp,hr,h1,h=>by
  obtain⟨hi,hx⟩:=hp 0 _ _ rfl rfl;simp only at hi;subst hi;unfold fillL at h;split at h
  · rename_i off size xs hpl hcx;split at h
    · rename_i hh;obtain⟨hrx,h1x⟩:=aA8 hx hcx;have hvl:v.cells.size=size:=by have:=hrx.1;simp at this;omega
      have hcl:cells.length=us.size:=by simpa using hr.1
      have hset:=aIl off v.cells.toList 0 us (by simp;omega);have key:=aEn hr hrx (by rw[hh.1];exact hh.2)
      have h1n:∀ u∈(v.cells.zipIdx.foldl (fun(cs:Array Value) (p:Value×Nat)=>cs.setIfInBounds (off+p.2) p.1) us).toList,u.oneCell'=true:=by
        rw[← Array.foldl_toList,Array.toList_zipIdx,hset];intro u hu;simp only[List.mem_append]at hu;rcases hu with(hu |hu) |hu
        · exact h1 u (List.mem_of_mem_take hu)
        · exact h1x u hu
        · exact h1 u (List.mem_of_mem_drop hu)
      obtain⟨us',hf,ho⟩:=nQ (place:=place) (lp:=lp) (vp:=vp) (by simpa using hlen) (fun j p q hj hq=>hp (j+1) p q (by simpa using hj) (by simpa using hq)) (us:=v.cells.zipIdx.foldl (fun(cs:Array Value) (p:Value×Nat)=>cs.setIfInBounds (off+p.2) p.1) us)
        (by rw[← Array.foldl_toList,Array.toList_zipIdx,hset];simpa using key) h1n h
      refine⟨us',?_,ho⟩;unfold Instr.fill;simp only[hpl];rw[if_neg (by simp;omega)];exact hf
    · cases h
  · cases h
 |[],_::_,_,_,_,hlen,_,_,_,_=>by simp at hlen
 |_::_,[],_,_,_,hlen,_,_,_,_=>by simp at hlen
end
end
section
open Go
section
variable {P:Program}{w0:World}{M St0:Nat→Prop}{s:LS}{μ:Nat→Option (Nat×Nat)}{St:Nat→Prop}{a:Act}{w:World}
theorem Inv.opnds (h:Inv w0 M St0 s μ St a.tmps w) (l:List Operand):Reps St w.heap μ (l.map (Lg.opnd s)) (l.map a.eval):=by
 induction l with
 |nil=>exact Reps.nil
 |cons x l ih=>exact ih.cons (h.opnd x)
theorem Inv.parts (h:Inv w0 M St0 s μ St a.tmps w) (l:List (Nat×Operand)):
  ∀ (j:Nat) (p:Nat×LV) (q:Nat×Value),(l.map fun p=>(p.1,Lg.opnd s p.2))[j]? =some p→(l.map fun p=>(p.1,a.eval p.2))[j]? =some q→p.1=q.1∧Rep St w.heap μ p.2 q.2:=by
 intro j p q hp hq;rw[List.getElem?_map]at hp hq
 cases hl:l[j]? with
 |none=>simp[hl]at hp
 |some r=>
  simp[hl]at hp hq
  subst hp;subst hq;exact⟨rfl,h.opnd _⟩
theorem aQ1 {fs:Array Field}(hall:∀ f∈fs,(aL P f.type).isSome=true) (w:World):
  (fs.mapM (fun f=>Functor.map (Prod.mk f.offset) (sizeOf f.type):Field→Sem (Nat×Nat))).run P w= .ok (fs.map fun f=>(f.offset,(aL P f.type).getD 0)) w:=by
 have key:∀ (l:List Field),(∀ f∈l,(aL P f.type).isSome=true)→(l.mapM (fun f=>Functor.map (Prod.mk f.offset) (sizeOf f.type):Field→Sem (Nat×Nat))).run P w= .ok (l.map fun f=>(f.offset,(aL P f.type).getD 0)) w:=by
  intro l
  induction l with
  |nil=>intro _;rfl
  |cons f l ih=>
   intro hl;have hf:=hl f (by simp)
   cases hz:aL P f.type with
   |none=>simp[hz]at hf
   |some n=>
    simp[List.mapM_cons,cO hz,ih (fun g hg=>hl g (by simp[hg])),hz]
 have h0:=key fs.toList (fun f hf=>hall f (by simpa using hf));rw[Array.mapM_eq_mapM_toList];simp only[Sem.run_map,h0,Result.andThen_ok];congr 1;apply Array.ext';simp
theorem Inv.build (h:Inv w0 M St0 s μ St a.tmps w) {t:Nat}{parts:List (Nat×Operand)}{y:LV}(hc:buildL P t (parts.map fun p=>(p.1,Lg.opnd s p.2))=some y):
  ∃ v,(Instr.build t (parts.map fun p=>(p.1,a.eval p.2)).toArray).run P w= .ok v w∧Rep St w.heap μ y v:=by
 unfold buildL at hc
 cases hz:bT P t with
 |none=>simp[hz]at hc
 |some z=>
 obtain⟨i,zv,hi,hv,rfl,hsz,h1⟩:=nG hz;simp only[hz,Option.bind_some]at hc;split at hc
 ·rename_i ps hps;obtain⟨fs,hu,hall0,rfl⟩:=aKd hps
  have hall':∀ f∈fs,(aL P f.type).isSome=true:=fun f hf=>by
   obtain⟨j,hj,rfl⟩:=Array.mem_iff_getElem.1 hf;exact Array.all_eq_true.1 hall0 j hj
  cases hf:fillL (fun(i:Nat)=>(fs.toList.map fun f=>(f.offset,(aL P f.type).getD 0))[i]?) (zv.cells.toList.map .lit) (parts.map fun p=>(p.1,Lg.opnd s p.2))with
  |none=>simp only[hf,Option.map_none]at hc;cases hc
  |some out=>
  simp only[hf,Option.map_some,Option.some.injEq]at hc;subst hc;obtain⟨us',hfill,hr,ho⟩:=nQ (lp:=parts.map fun p=>(p.1,Lg.opnd s p.2)) (vp:=parts.map fun p=>(p.1,a.eval p.2)) (us:=zv.cells) (by simp) (h.parts parts) (yW _) h1 hf;refine⟨.agg us',?_,by simpa using Rep.agg hr.1 ho hr.2⟩
  have hpl:(fun(x:Nat)=>(fs[x]?).map fun(f:Field)=>(f.offset,(aL P f.type).getD 0))=fun(i:Nat)=>(fs.toList.map fun f=>(f.offset,(aL P f.type).getD 0))[i]? :=by
   funext j;simp
  simp[Instr.build,jB hi hv,run_underlying hu,aQ1 hall'];rw[hpl,hfill];rfl
 ·split at hc
  ·rename_i e he;have hu:=qQ he
   cases hse:aL P e.2 with
   |none=>simp[hse]at hc
   |some sz=>
   simp only[hse,Option.bind_some]at hc
   cases hf:fillL (fun i=>some (i*sz,sz)) (zv.cells.toList.map .lit) (parts.map fun p=>(p.1,Lg.opnd s p.2))with
   |none=>simp[hf]at hc
   |some out=>
   simp only[hf,Option.map_some,Option.some.injEq]at hc;subst hc;obtain⟨us',hfill,hr,ho⟩:=nQ (lp:=parts.map fun p=>(p.1,Lg.opnd s p.2)) (vp:=parts.map fun p=>(p.1,a.eval p.2)) (us:=zv.cells) (by simp) (h.parts parts) (yW _) h1 hf;refine⟨.agg us',?_,by simpa using Rep.agg hr.1 ho hr.2⟩;simp[Instr.build,jB hi hv,run_underlying hu,cO hse,hfill]
  ·cases hc
theorem aUd {zs:Array Value}{n:Nat}(hz:n=0∨0<zs.size):Reps St w.heap μ (yV (zs.toList.map .lit) n) ((Array.range n).map (zs[· % zs.size]!)).toList∧
  ((∀ u∈zs.toList,u.oneCell'=true)→∀ u∈((Array.range n).map (zs[· % zs.size]!)).toList,u.oneCell'=true):=by
 refine⟨⟨by simp[yV],fun j c u hc hu=> ?_⟩,fun h1 u hu=> ?_⟩
 ·simp only[yV,List.getElem?_map,List.length_map,Array.length_toList]at hc;simp only[Array.toList_map,Array.toList_range,List.getElem?_map]at hu;by_cases hj:j<n
  ·have hlt:j % zs.size<zs.size:=Nat.mod_lt _ (by omega);simp[List.getElem?_range hj,List.getD]at hc hu
   rw[Array.getElem?_eq_getElem hlt]at hc
   simp[hlt]at hc hu
   subst hc;subst hu;exact .lit _
  ·simp[List.getElem?_eq_none,hj]at hc
 ·simp only[Array.toList_map,Array.toList_range,List.mem_map,List.mem_range]at hu;obtain⟨j,hj,rfl⟩:=hu;have hlt:j % zs.size<zs.size:=Nat.mod_lt _ (by omega);simp[hlt];exact h1 _ (by simp)
theorem aEo {l:List LV}{us vs:List Value}(h:lR l=some vs) (hr:Reps St w.heap μ l us):us=vs:=by
 induction l generalizing us vs with
 |nil=>
  simp[lR]at h;subst h
  exact List.eq_nil_of_length_eq_zero hr.1.symm
 |cons x l ih=>
  obtain⟨u,us',rfl,hx,hr'⟩:=hr.head
  cases x with
  |lit v=>
   cases hx
   cases hl:lR l with
   |none=>simp[lR,hl]at h
   |some vs'=>
    simp[lR,hl]at h
    subst h
    rw[ih hl hr']
  |_=>simp[lR]at h
theorem aXo {vs:List Value}{v:Value}(h:aM3 vs=some v) (ts:Array TypeId) (t:TypeId) (w:World):(Builtin.max_ ts t vs.toArray).run P w= .ok v w:=by
 unfold aM3 at h;split at h
 ·split at h
  ·cases h;simp[Builtin.max_,Builtin.max2]
  ·cases h
 ·split at h
  ·rename_i hk;obtain⟨rfl,rfl⟩:=hk
   cases h;simp[Builtin.max_,Builtin.max2]
  ·cases h
 ·cases h
theorem aXp {vs:List Value}{v:Value}(h:aM4 vs=some v) (ts:Array TypeId) (t:TypeId) (w:World):(Builtin.min_ ts t vs.toArray).run P w= .ok v w:=by
 unfold aM4 at h;split at h
 ·split at h
  ·cases h;simp[Builtin.min_,Builtin.min2]
  ·cases h
 ·split at h
  ·rename_i hk;obtain⟨rfl,rfl⟩:=hk
   cases h;simp[Builtin.min_,Builtin.min2]
  ·cases h
 ·cases h
theorem aXq {x:LV}{n:Nat}{v:Value}(h:wZ s x=some n) (hx:Rep St w.heap μ x v):∃ A cap,v= .slice A n cap:=by
 unfold wZ at h;split at h <;>cases h
 ·cases hx;exact⟨_,_,rfl⟩
 ·cases hx <;>exact⟨_,_,rfl⟩
 ·cases hx;exact⟨_,_,rfl⟩
end
end
section
open Go
section
variable {P:Program}{w0:World}{M St0:Nat→Prop}{s:LS}{μ:Nat→Option (Nat×Nat)}{St:Nat→Prop}{a:Act}{w:World}
def bAy (P:Program) (w0:World) (M St0:Nat→Prop) (s:LS) (μ:Nat→Option (Nat×Nat)) (St:Nat→Prop) (a:Act) (w:World) (id:Nat) (o:Oper) (e:Eff) (r:LV):Prop:=
 ∃ v w' μ' nx,(execOp a.eval o).run P w= .ok nx w'∧(nx= .value v∨nx= .skip∧v=undef)∧Inv w0 M St0 (s.eff id o.dst e r) μ' St (a.put o.dst v).tmps w'∧(∀ b,b≠id→μ' b=μ b)∧∀ x,e= .val x→w'=w∧μ'=μ∧nx= .value v
theorem cT (h:Inv w0 M St0 s μ St a.tmps w) {id:Nat}{o:Oper}{x r:LV}(hd:∀ t,o.dst=some t→t<s.n) {v:Value}
  (hrun:(execOp a.eval o).run P w= .ok (.value v) w) (hx:Rep St w.heap μ x v):bAy P w0 M St0 s μ St a w id o (.val x) r:=
 ⟨v,w,μ,_,hrun,.inl rfl,h.putD hx hd a.defers,fun _ _=>rfl,fun _ _=>⟨rfl,rfl,rfl⟩⟩
theorem uE (h:Inv w0 M St0 s μ St a.tmps w) {id:Nat}(hid:μ id=none) {o:Oper}{x r:LV}{ty:TypeId}{cs:List LV}(hd:∀ t,o.dst=some t→t<s.n) {v:Value}{us:List Value}
  (hr:Reps St w.heap μ cs us) (h1:∀ u∈us,u.oneCell'=true)
  (hrun:(execOp a.eval o).run P w= .ok (.value v) (w.alloc (.cells us.toArray ty)))
  (hx:∀ μ':Nat→Option (Nat×Nat),μ' id=some (w.heap.size,us.length)→∀ hp,Rep St hp μ' x v):bAy P w0 M St0 s μ St a w id o (.new x ⟨ty,cs,false⟩) r:=
 ⟨v,_,_,_,hrun,.inl rfl,(h.alloc hid hr h1 rfl).putD (hx _ (cH _ _ _) _) hd a.defers,fun b hb=>bW _ _ _ _ hb,fun x hx=>by cases hx⟩
theorem uF {place:Nat→Option (Nat×Nat)}:∀ {lp:List (Nat×LV)}{cells out:List LV},fillL place cells lp=some out→out.length=cells.length
 |[],cells,out,h=>by simp[fillL]at h;rw[h]
 |(i,x)::lp,cells,out,h=>by
  unfold fillL at h;split at h
  · split at h
    · rename_i hh;rw[uF h,uD (by rw[hh.1];exact hh.2)]
    · cases h
  · cases h
theorem aIm (h:Inv w0 M St0 s μ St a.tmps w) {ok:Nat→Bool}{sz m:Nat}{x:LV}{news:List LV}{v:Value}(hs:aDh s ok sz x=some (m,news)) (hx:Rep St w.heap μ x v):
  ∃ A cap us,v= .slice A m cap∧news.length=m*sz∧Reps St w.heap μ news us∧(∀ u∈us,u.oneCell'=true)∧
    (A=none→m=0)∧(∀ ad,A=some ad→∀ (j:Nat) (u:Value),us[j]? =some u→w.cell? (ad.add j)=some u):=by
 unfold aDh at hs;split at hs
 ·rename_i A c
  cases hs
  cases hx
  exact⟨A,c,[],rfl,by simp,Reps.nil,by simp,fun _=>rfl,by simp⟩
 ·split at hs
  ·rename_i hlen
   cases hs
   cases hx with
   |snil=>exact⟨none,0,[],rfl,by simp,Reps.nil,by simp,fun _=>rfl,by simp⟩
   | @sl _ _ cap ad _ us hn hc hsp hl hm h1 hr=>
     exact⟨some ad,cap,us,rfl,hlen,⟨hl,fun j c u hc hu=>(hr j c u hc hu).mono (fun _ h=>h) (fun _ _=>rfl) (fun _ _ h=>by cases h)⟩,h1,by simp,fun ad' e j u hu=>by
       cases e
       rw[vU w ad hsp]
       exact(hm j u hu).2⟩
  ·cases hs
 ·rename_i b off n sz';split at hs
  ·rename_i k hk;split at hs
   ·rename_i hh
    cases hs
    obtain⟨g,R,cs,hμ,hg,hsz,hle,hr,h1,_⟩:=h.blk b k hk
    cases hx with
    | @own _ _ _ _ _ g' R' cap hb hn hcap hR=>
    rw[hμ]at hb;cases hb
    have h2:=(hr.drop off).take (m*sz);refine⟨some ⟨g,off,none⟩,cap,_,rfl,?_,h2,fun u hu=>h1 u (List.mem_of_mem_drop (List.mem_of_mem_take hu)),by simp,fun ad e j u hu=> ?_⟩
    ·rw[List.length_take,List.length_drop];omega
    ·cases e
     rw[vU w _ rfl];rw[List.getElem?_take]at hu
     split at hu
     ·rw[List.getElem?_drop,List.getElem?_take]at hu
      split at hu
      ·simp[cellAt,hg];simpa using hu
      ·cases hu
     ·cases hu
   ·cases hs
  ·cases hs
 ·cases hs
theorem aM7 {α:Type}(L V:List α) (off K:Nat) (h:off+V.length≤K) (hK:K≤L.length):
  (L.take off++V++L.drop (off+V.length)).take K=(L.take K).take off++V++(L.take K).drop (off+V.length):=by
 have l1:(L.take off).length=off:=by rw[List.length_take];omega
 have l2:(L.take off++V).length=off+V.length:=by simp[l1]
 rw[List.take_append,l2,List.take_of_length_le (by omega:(L.take off++V).length≤K),List.take_take,Nat.min_eq_left (by omega:off≤K),List.drop_take]
theorem aM8 (h:Inv w0 M St0 s μ St a.tmps w) {id:Nat}{ok:Nat→Bool}{t:Nat}{ax x:Operand}{e:Eff}{o:Oper}{r:LV}(ho:o.op= .store t ax x) (hd:∀ t,o.dst=some t→t<s.n)
  (hc:nO P ok s t (Lg.opnd s ax) (Lg.opnd s x)=some e):bAy P w0 M St0 s μ St a w id o e r:=by
 have hax:=h.opnd ax;have hx:=h.opnd x;unfold nO at hc;split at hc
 case h_2=>cases hc
 rename_i b off hab;split at hc
 case h_2=>cases hc
 rename_i k hk;split at hc
 case h_2=>cases hc
 rename_i xs n hcx hsz;split at hc
 case isFalse=>cases hc
 rename_i hh
 cases hc
 obtain⟨_,hz,hlen,hoff⟩:=hh;obtain⟨g,R,cs,hμ,hg,hcs,hle,hr,h1,_⟩:=h.blk b k hk;rw[hab]at hax
 cases hav:a.eval ax with
 |pointer p=>
  rw[hav]at hax
  cases hax with
  | @ptr _ _ _ g' R' hb=>
  rw[hμ]at hb;cases hb
  obtain⟨hrx,h1x⟩:=aA8 hx hcx;have hvl:(a.eval x).cells.toList.length=n:=by rw[← hrx.1,hlen]
  have hst:=run_storeCells_at (P:=P) g off k.ty (a.eval x).cells.toList 0 cs w hg (by rw[hvl];omega) h1x;have hcl:k.cells.length≤cs.toList.length:=by simpa using hle
  have htake:(cs.toList.take off++(a.eval x).cells.toList++cs.toList.drop (off+(a.eval x).cells.toList.length)).take k.cells.length=
      (cs.toList.take k.cells.length).take off++(a.eval x).cells.toList++(cs.toList.take k.cells.length).drop (off+(a.eval x).cells.toList.length):=by
    exact aM7 _ _ _ _ (by omega) hcl
  have hlen2:(jH k.cells off xs).length=k.cells.length:=uD (by rw[hlen];exact hoff)
  have hW:=h.write (cells:=jH k.cells off xs) (cs':=(cs.toList.take off++(a.eval x).cells.toList++cs.toList.drop (off+(a.eval x).cells.toList.length)).toArray) hk hμ hg hz
    (by
      simp only[List.size_toArray,List.length_append,List.length_take,List.length_drop,hvl,Array.length_toList];omega)
    (by
      rw[hlen2]
      simp only[List.size_toArray,List.length_append,List.length_take,List.length_drop,hvl,Array.length_toList];omega)
    (by
      rw[hlen2];show Reps _ _ _ _ (List.take k.cells.length (cs.toList.take off++(a.eval x).cells.toList++cs.toList.drop (off+(a.eval x).cells.toList.length)));rw[htake]
      exact aEn hr hrx (by rw[hlen];exact hoff))
    (by
      rw[hlen2];show∀ u∈List.take k.cells.length (cs.toList.take off++(a.eval x).cells.toList++cs.toList.drop (off+(a.eval x).cells.toList.length)),_;rw[htake];intro u hu;simp only[List.mem_append]at hu;rcases hu with(hu |hu) |hu
      · exact h1 u (List.mem_of_mem_take hu)
      · exact h1x u hu
      · exact h1 u (List.mem_of_mem_drop hu))
  refine⟨undef,_,μ,.skip,?_,.inr ⟨rfl,rfl⟩,hW.putD (.dead _) hd a.defers,fun _ _=>rfl,fun x hx=>by cases hx⟩;simp only[Nat.add_zero]at hst;have hsz':(a.eval x).cells.size=n:=by simpa using hvl
  simp only[execOp,ho,hav,Instr.storeAt,Instr.sureAddr,storeVar,Sem.run_bind,Sem.run_pure,Result.andThen_ok,cO hsz];rw[if_neg (by omega)]
  simp[hst]
 |_=>rw[hav]at hax;cases hax
theorem aKe (h:Inv w0 M St0 s μ St a.tmps w) {id:Nat}(hid:μ id=none) {ok:Nat→Bool}{t ty:Nat}{d x:Operand}{e:Eff}{o:Oper}{r:LV}
  (ho:o.op= .call {callee:= .builtin .append,args:= #[d,x],argTypes:= #[t,t]}) (hd:∀ t,o.dst=some t→t<s.n)
  (hc:appendL P id ok s t (Lg.opnd s d) (Lg.opnd s x)=some e):bAy P w0 M St0 s μ St a w id o e r:=by
 have hdv:=h.opnd d;have hxv:=h.opnd x;unfold appendL at hc
 cases he:aZ P t with
 |none=>simp[he]at hc
 |some el=>
 simp only[he,Option.bind_some]at hc;split at hc
 case h_2=>cases hc
 rename_i z by_ zl hz hby hzl;obtain⟨i,zv,hi,hzv,_,hzs,_⟩:=nG hzl;have hsi:i.size=z+1:=by simp[aL,hi]at hz;exact hz
 have hbi:i.bytes=by_:=by simp[bI,hi]at hby;exact hby
 cases hsrc:aDh s ok (z+1) (Lg.opnd s x)with
 |none=>simp[hsrc]at hc
 |some p=>
 obtain⟨m,news⟩:=p;simp only[hsrc,Option.bind_some]at hc;obtain⟨A,capx,us,hxe,hnl,hnr,hn1,hA0,hAc⟩:=aIm h hsrc hxv;have hul:us.length=m*(z+1):=by rw[← hnr.1,hnl]
 have law:∀ (v:Value) (n:Nat) (xs:List Value),w.ownsRow 0 el (z+1) v n xs→n+m≤maxLen→(n+m)*by_≤140737488355328→
   ∃ v' w',(Builtin.append_ #[t,t] o.type #[v, .slice A m capx]).run P w= .ok v' w'∧w'.ownsRow 0 el (z+1) v' (n+m) (xs++us)∧w.grownBy w' v.ownBlock∧
     (v'= .slice none 0 0↔v= .slice none 0 0∧m=0)∧(v'.ownBlock=v.ownBlock∨v'.ownBlock=some w.heap.size):=by
  intro v n xs hown h63 hb
  cases A with
  |some ad=>
   exact run_append_own_at (P:=P) w 0 t o.type el i zv (z+1) by_ (cP he) hi hzv hsi hbi (by rw[hzs,hsi]) (by omega) v n xs hown ad m capx us hul (hAc ad rfl) hn1 h63 hb (Nat.zero_le _)
  |none=>
   have hm0:=hA0 rfl;subst hm0;have hus:us=[]:=List.eq_nil_of_length_eq_zero (by simpa using hul);subst hus;refine⟨v,w,?_,by simpa using hown,⟨rfl,rfl,rfl,Nat.le_refl _,fun _ _ _=>rfl⟩,by simp,.inl rfl⟩;rcases hown.2 with⟨rfl,rfl⟩ |⟨g,cap,cur,rfl,_,_,hnc,_⟩
   · simp[Builtin.append_,run_underlying (cP he),sizeOf,typeInfo,hi,Builtin.lenOf,Builtin.firstCells]
   · simp[Builtin.append_,run_underlying (cP he),sizeOf,typeInfo,hi,Builtin.lenOf,Builtin.firstCells,hnc,storeCells]
 have exec:∀ (v v':Value) (w':World),a.eval d=v→(Builtin.append_ #[t,t] o.type #[v,.slice A m capx]).run P w= .ok v' w'→(execOp a.eval o).run P w= .ok (.value v') w':=by
  intro v v' w' hv hrun;simp only[execOp,ho,resolve,invoke,builtin,Sem.run_bind,Sem.run_pure,Result.andThen_ok,List.map_toArray,List.map_cons,List.map_nil,hv,hxe,hrun]
 split at hc
 ·
  rename_i hdn;rw[hdn]at hdv
  have hdev:a.eval d= .slice none 0 0:=by
   generalize a.eval d=q at hdv
   cases hdv;rfl
  split at hc
  ·rename_i hm0
   cases hc
   obtain⟨v',w',hrun,hown,hg,hnil,_⟩:=law (.slice none 0 0) 0 [] (World.ownsRow_nil w 0 el (z+1)) (by simp[hm0,maxLen]) (by simp[hm0]);have hv':v'= .slice none 0 0:=hnil.2 ⟨rfl,hm0⟩;subst hv'
   have hw:w'=w:=by
    subst hm0;have hus:us=[]:=List.eq_nil_of_length_eq_zero (by simpa using hul);subst hus
    have:(Builtin.append_ #[t,t] o.type #[.slice none 0 0,.slice A 0 capx]).run P w= .ok (.slice none 0 0) w:=by
     cases A with
     |none=>simp[Builtin.append_,run_underlying (cP he),sizeOf,typeInfo,hi,Builtin.lenOf,Builtin.firstCells]
     |some ad=>simp[Builtin.append_,run_underlying (cP he),sizeOf,typeInfo,hi,Builtin.lenOf,Builtin.firstCells,loadCells,loadCellsFrom]
    rw[this]at hrun
    cases hrun;rfl
   subst hw;exact cT h hd (exec _ _ _ hdev hrun) (.lit _)
  ·rename_i hm0;split at hc
   ·rename_i hbd
    cases hc
    obtain⟨v',w',hrun,hown,hg,hnil,hat⟩:=law (.slice none 0 0) 0 [] (World.ownsRow_nil w 0 el (z+1)) (by omega) (by simpa using hbd.1);rcases hown.2 with⟨rfl,_⟩ |⟨g,cap,cur,rfl,_,hgg,hnc,hcm,hcs,htk⟩
    ·exact absurd (hnil.1 rfl).2 hm0
    ·have hgeq:g=w.heap.size:=by
      rcases hat with hh |hh
      ·simp[Value.ownBlock]at hh
      ·simpa[Value.ownBlock]using hh
     have hlt:g<w'.heap.size:=(Array.getElem?_eq_some_iff.1 hgg).1;simp only[Value.ownBlock]at hg
     have htk':cur.toList.take news.length=us:=by
      have:=htk;rw[hnl];simpa using this
     have hI:=h.app (ob:=none) (cells:=news) (ty:=el) hid (.inr ⟨rfl,rfl⟩) hg (.inr hgeq) hlt hgg hcs (by rw[hnl];simp at hnc;rw[hcs];exact Nat.mul_le_mul_right _ hnc) (by rw[htk'];exact hnr) (by rw[htk'];exact hn1);simp only[Nat.zero_add]at hrun hnc;exact⟨_,_,_,_,exec _ _ _ hdev hrun,.inl rfl,hI.putD (x:= .own id 0 m (z+1)) (.own (cH _ _ _) hnc hcm (Nat.zero_add _)) hd a.defers,fun b hb=>bW _ _ _ _ hb,fun x hx=>by cases hx⟩
   ·cases hc
 ·
  rename_i b n sz' hdn;rw[hdn]at hdv
  split at hc
  case h_2=>cases hc
  rename_i k hk;split at hc
  case isFalse=>cases hc
  rename_i hh
  cases hc
  obtain⟨_,rfl,hty,hfz,hnk,hbb,hml⟩:=hh;obtain⟨g,R,cs,hμ,hg,hcs,hle,hr,h1,_⟩:=h.blk b k hk
  obtain⟨cap,hdev,hncap,hcapm,hR⟩:∃ cap,a.eval d= .slice (some ⟨g,0,none⟩) n cap∧n≤cap∧cap≤maxLen∧cap*(z+1)=R:=by
   generalize a.eval d=q at hdv
   cases hdv with
   | @own _ _ _ _ _ g' R' cap hb hn hcap hR=>
   rw[hμ]at hb;cases hb
   exact⟨cap,rfl,hn,hcap,by omega⟩
  have hown:w.ownsRow 0 el (z+1) (.slice (some ⟨g,0,none⟩) n cap) n (cs.toList.take (n*(z+1))):=by
   refine⟨?_,.inr ⟨g,cap,cs,rfl,Nat.zero_le _,by rw[← hty];exact hg,hncap,hcapm,by rw[hcs,hR],rfl⟩⟩;rw[List.length_take,Array.length_toList,hcs,← hR];exact Nat.min_eq_left (Nat.mul_le_mul_right _ hncap)
  obtain⟨v',w',hrun,hown',hgr,hnil,hat⟩:=law _ _ _ hown hml hbb;have hk0:(cs.toList.take k.cells.length).take (n*(z+1))=cs.toList.take (n*(z+1)):=by rw[List.take_take,Nat.min_eq_left hnk]
  have hrt:=hr.take (n*(z+1));rw[hk0]at hrt
  rcases hown'.2 with⟨rfl,_⟩ |⟨g',cap',cur,rfl,_,hgg,hnc,hcm,hcs',htk⟩
  ·have:=hnil.1 rfl;simp at this
  ·have hlt:g'<w'.heap.size:=(Array.getElem?_eq_some_iff.1 hgg).1
   simp only[Value.ownBlock]at hgr hat
   have hat':some g=some g'∨g'=w.heap.size:=by
    rcases hat with hh |hh
    ·exact .inl hh.symm
    ·exact .inr (by simpa using hh)
   have hcl:(k.cells.take (n*(z+1))++news).length=(n+m)*(z+1):=by
    rw[List.length_append,List.length_take,Nat.min_eq_left hnk,hnl,Nat.add_mul]
   have htk':cur.toList.take (k.cells.take (n*(z+1))++news).length=cs.toList.take (n*(z+1))++us:=by rw[hcl];exact htk
   have hI:=h.app (ob:=some b) (cells:=k.cells.take (n*(z+1))++news) (ty:=el) hid (.inl ⟨b,k,g,R,rfl,hk,hμ,hfz,rfl⟩) hgr hat' hlt hgg hcs' (by rw[hcl,hcs'];exact Nat.mul_le_mul_right _ hnc)
    (by rw[htk'];exact hrt.append hnr) (by
     rw[htk'];intro u hu;rcases List.mem_append.1 hu with hu |hu
     ·rw[← hk0]at hu;exact h1 u (List.mem_of_mem_take hu)
     ·exact hn1 u hu)
   exact⟨_,_,_,_,exec _ _ _ hdev hrun,.inl rfl,hI.putD (x:= .own id 0 (n+m) (z+1)) (.own (cH _ _ _) hnc hcm (Nat.zero_add _)) hd a.defers,fun b hb=>bW _ _ _ _ hb,fun x hx=>by cases hx⟩
 ·cases hc
end
end
end Go.Lg
