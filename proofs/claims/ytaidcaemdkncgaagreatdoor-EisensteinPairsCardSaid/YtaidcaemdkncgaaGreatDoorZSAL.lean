/- Contracts of functions of the program, and what proves them (texts: Lg20 Lg21 Lg22 Lg23 B16 Enc C9). -/
import Derived.RangeFuncSeq
import Derived.RangeFuncLeaves
import Derived.RangeFuncRecord
import Derived.TacticsIn
import Derived.LoopIn
import Derived.Test.YtaidcaemdkncgaaGreatDoorZSAE
import Derived.Test.YtaidcaemdkncgaaGreatDoorZSAI
import Derived.Test.YtaidcaemdkncgaaGreatDoorZSAK
set_option linter.all false
set_option maxRecDepth 100000
set_option maxHeartbeats 8000000
namespace Go.Lg
section
open Go
abbrev FR (r:Option Nat):Fence:={Fence.wide with round:=r}
def bKm:Op→Bool
 | .defer _=>false
 |_=>true
def aU5 (ops:Array Oper):Bool:=ops.toList.all fun o=>bKm o.op
theorem aOl {r:Option Nat}{o:Oper}{ρ:Operand→Value}(h:bKm o.op=true):o.semAt r ρ=execOp ρ o:=by
 cases r with
 |none=>rfl
 |some l=>exact Oper.semAt_some l _ _ (fun c hc=>by rw[hc]at h;cases h)
theorem bKn {P:Program}{r:Option Nat}{n:Nat}{o:Oper}{a:Act}{next next':Act→World→Prop}{Q:Exit→Act→World→Prop}(hn:∀ a w,next a w→next' a w):
  ∀ (x:Result Next),o.upon P a next Q x→o.uponIn (FR r) n P a next' Q x:=by
 intro x h
 match x,h with
 | .ok (.value v) w',h=>exact hn _ _ h
 | .ok .skip w',h=>exact hn _ _ h
 | .ok (.defer d) w',h=>exact hn _ _ h
 | .ok (.enter f args) w',h=>
   refine⟨fun h=>(by cases h),?_⟩;have h2:CallsIn Fence.wide (n-1) P f args w' _:=callsIn_wide.2 h;have h3:CallsIn (FR r) (n-1) P f args w' _:=h2;refine h3.mono fun e w'' he=> ?_
   cases e with
   |returned v=>exact hn _ _ he
   |panicked c=>exact he
   |outgrown=>exact he
 | .ok (.row row args) w',h=>
   refine⟨fun h=>(by cases h),fun c cs _=> ?_⟩;obtain⟨v,w'',hr,hs⟩:=h c cs
   exact⟨v,w'',hn _ _ hr,stepsIn_wide.2 hs⟩
 | .halt (.panic v) w',h=>exact h
theorem uW {P:Program}{r:Option Nat}{n:Nat}{ops:Array Oper}{Q:Exit→Act→World→Prop}(hnd:aU5 ops=true) (hQ:¬LetsOut Q):
  ∀ (l:List Nat) (a:Act) (w:World),wpOps P ops Q l a w→wpOpsIn (FR r) n P ops Q l a w
 |[],a,w,h=>h
 |i::l,a,w,h=>by
  unfold wpOps at h;unfold wpOpsIn;split at h
  · rename_i ho;simp only[ho];exact uW hnd hQ l a w h
  · rename_i o ho;simp only[ho]
    have hn:bKm o.op=true:=by
      have:=List.all_eq_true.1 hnd o (by
        have:=(Array.getElem?_eq_some_iff.1 ho).2
        rw[← this];simp)
      exact this
    split at h
    · rename_i hw;rw[if_pos hw];refine⟨fun _ _=>trivial,?_⟩;rcases h with h |⟨_,h⟩
      · show o.uponIn _ n P a _ Q ((o.semAt r a.eval).run P w);rw[aOl hn];exact bKn (fun a w h=>uW hnd hQ l a w h) _ h
      · exact absurd h hQ
    · rename_i hw;rw[if_neg hw];exact⟨fun _ _=>trivial,uW hnd hQ l _ _ h⟩
def eK:Code→Bool
 | .region _ ops _=>aU5 ops
 | .seq a b=>eK a && eK b
 | .cond _ x y=>eK x && eK y
 | .block _ c=>eK c
 | .loop c=>eK c
 |_=>true
def eZ (D:List Deferred) (na:Nat) (A:Nat→Option (Nat×Nat)) (w0:World) (M St0:Nat→Prop) (s:LS) (a:Act) (w:World):Prop:=
 a.defers=D∧eT na A w0 M St0 s {a with defers:=[]} w
theorem eZ.sub {D:List Deferred}{na:Nat}{A:Nat→Option (Nat×Nat)}{w0:World}{M St0:Nat→Prop}{s t:LS}{a:Act}{w:World}(h:eZ D na A w0 M St0 s a w) (hs:Sub na s t):eZ D na A w0 M St0 t a w:=
 ⟨h.1,h.2.sub hs⟩
theorem aFw {P:Program}{r:Option Nat}{n id:Nat}{ops:Array Oper}{Q:Exit→Act→World→Prop}{a:Act}{w:World}(hnd:aU5 ops=true)
  (h:wpOps P ops (fun e a w=>e= .normal∧Q .normal a w) (List.range ops.size) a w):(Code.region id ops false).wpIn (FR r) n P Q a w:=by
 refine wpIn_mono (wpIn_region (uW hnd ?_ _ _ _ h)) ?_
 ·rintro⟨a,w,h,_⟩;cases h
 ·rintro e a w ⟨rfl,h⟩;exact h
theorem zX {P:Program}{r:Option Nat}{n id:Nat}{ops:Array Oper}{Q:Exit→Act→World→Prop}{a:Act}{w:World}(hnd:aU5 ops=true)
  (h:∀ t,wpOps P ops (fun e a w=>e= .normal∧Q .normal a w) (Region.schedule (P.follows .mixedOrders) ops t) a {w with drawn:=w.drawn+1}):(Code.region id ops true).wpIn (FR r) n P Q a w:=by
 refine wpIn_mono (wpIn_region_draw fun t=>uW hnd ?_ _ _ _ (h t)) ?_
 ·rintro⟨a,w,h,_⟩;cases h
 ·rintro e a w ⟨rfl,h⟩;exact h
theorem dH {P:Program}[Laid P] (hmix:P.follows .mixedOrders=true) {w0:World}{M St0:Nat→Prop}(hL:fO P w0 M St0) {na:Nat}{A:Nat→Option (Nat×Nat)}{r:Option Nat}{n:Nat}{D:List Deferred}:∀ (c:Code) {Φ:Exit→LS→Prop}{s:LS}{a:Act}{w:World}{Q:Exit→Act→World→Prop},
  eK c=true→lwp P na c Φ s→na≤s.nb→eZ D na A w0 M St0 s a w→(∀ e s' a' w',Φ e s'→na≤s'.nb→eZ D na A w0 M St0 s' a' w'→Q e a' w')→c.wpIn (FR r) n P Q a w
 | .skip,Φ,s,a,w,Q,_,h,hn,hs,hQ=>wpIn_skip (hQ _ _ _ _ h hn hs)
 | .region id ops draw,Φ,s,a,w,Q,hnd,h,hn,hs,hQ=>by
   obtain⟨hD,_,μ,St,hI,hnb,hμA⟩:=hs;simp only[eK]at hnd;unfold lwp at h
   cases draw with
   |false=>
    have h:lrun P true s.nb (okOf ops false s.nb) ops 0 ops.toList s fun s'=>Φ .normal {s' with nb:=max s'.nb (s.nb+ops.size)}:=by
      rcases h with⟨_,h⟩ |⟨h,_⟩ |⟨h,_⟩
      · exact h
      · cases h
      · cases h
    refine aFw hnd ?_;have:=lS hL (Q:=fun e a w=>e= .normal∧Q .normal a w) (a:=a) ops.toList 0 (by simp) (by simp) h hI (Nat.le_refl _) (fun j _ _=>hnb _ (by omega)) (fun b hb=>hnb _ (by omega)) (fun s' μ' St' a' w' hΦ hI' hdf hle hm hm2=> ?_)
    · rw[Array.length_toList,← List.range_eq_range']at this
      exact this
    · exact⟨rfl,hQ _ _ _ _ hΦ (by simp only;omega) ⟨hdf.trans hD,rfl,μ',St',hI'.nb_irrel _,hm2,fun b hb=>by rw[hm b (by omega)];exact hμA b hb⟩⟩
   |true=>
    rcases or_assoc.2 h with h |⟨_,hok,hla,h⟩
    rotate_left
    · have hsz:1≤ops.size∧∀ j,j<ops.size-1→(maskAt ops (ops.size-1)).testBit j=true:=by
        unfold zD at hla;rw[Bool.and_eq_true,Nat.ble_eq,List.all_eq_true]at hla
        exact⟨hla.1,fun j hj=>hla.2 j (List.mem_range.2 hj)⟩
      obtain⟨last,hz⟩:∃ last,ops.size=last+1:=⟨ops.size-1,by omega⟩;have hzl:ops.size-1=last:=by omega
      rw[hzl]at h hsz
      have htl:(ops.toList.take last).length=last:=by rw[List.length_take,Array.length_toList];omega
      obtain⟨s1,hr,h⟩:=uH (ops.toList.take last) 0 (fun j hj=>by
        rw[htl]at hj
        rw[List.getElem?_take_of_lt hj,Nat.zero_add]
        simp) h
      rw[htl,← List.range_eq_range']at hr
      refine zX hnd fun t=> ?_
      rw[hmix];obtain⟨L,hL',hnd,hlt,hrun⟩:=aIo (P:=P) (base:=s.nb) (aBb hok) (fun _ _ h=>h) hz hsz.2 hr t;rw[hL'];have hnb1:=zE _ hr;refine xQ hL (a:=a) L hnd hrun hI.drew (fun i _=>hnb _ (by omega)) ?_;intro μ' St' a' w' hI' hdf hm
      have:=lS hL (Q:=fun e a w=>e= .normal∧Q .normal a w) (ops.toList.drop last) last (fun j=>by simp) (by simp;omega) h hI' (by omega)
        (fun j _ _=>by rw[hm _ (fun i hi=>by have:=hlt i hi;omega)];exact hnb _ (by omega))
        (fun b hb=>by rw[hm _ (fun i hi=>by have:=hlt i hi;omega)];exact hnb _ (by omega))
        (fun s' μ'' St'' a'' w'' hΦ hI'' hdf'' hle hm1 hm2=>⟨rfl,hQ _ _ _ _ hΦ (by simp only;omega) ⟨hdf''.trans (hdf.trans hD),rfl,μ'',St'',hI''.nb_irrel _,hm2,fun b hb=>by rw[hm1 b (by omega),hm b (fun i hi=>by omega)];exact hμA b hb⟩⟩)
      rw[show(ops.toList.drop last).length=1 by simp;omega]at this
      exact this
    obtain⟨okf,hfa,hle,h⟩:=aCu h;obtain⟨s',hr,hΦ⟩:=xP ops.toList 0 (by simp) h;rw[Array.length_toList,← List.range_eq_range']at hr
    refine zX hnd fun t=> ?_
    rw[hmix];obtain⟨hnd,hlt,hrun⟩:=aIn (P:=P) (base:=s.nb) hfa hle hr t;have hnb':=zE _ hr;refine aA9 hL (a:=a) _ hnd hrun hI.drew (fun i _=>hnb _ (by omega)) ?_;intro μ' St' a' w' hI' hdf hm
    exact⟨rfl,hQ _ _ _ _ hΦ (by simp only;omega) ⟨hdf.trans hD,rfl,μ',St',hI'.nb_irrel _,fun b hb=>by
        simp only at hb
        rw[hm b (fun i hi=>by have:=hlt i hi;omega)];exact hnb b (by omega),
      fun b hb=>by rw[hm b (fun i hi=>by omega)];exact hμA b hb⟩⟩
 | .seq x y,Φ,s,a,w,Q,hnd,h,hn,hs,hQ=>by
   simp only[eK,Bool.and_eq_true]at hnd;unfold lwp at h;refine wpIn_seq (dH hmix hL x hnd.1 h hn hs fun e s' a' w' he hn' hs'=> ?_)
   cases e with
   |normal=>
    obtain⟨t,ht,he⟩:=he;rcases ht with rfl |ht
    · exact dH hmix hL y hnd.2 he hn' hs' hQ
    · exact dH hmix hL y hnd.2 he ht.na_le (hs'.sub ht) hQ
   |_=>exact hQ _ _ _ _ he hn' hs'
 | .cond c x y,Φ,s,a,w,Q,hnd,h,hn,hs,hQ=>by
   simp only[eK,Bool.and_eq_true]at hnd;unfold lwp at h;obtain⟨b,hb,h⟩:=h;obtain⟨_,_,μ,St,hI,_⟩:=id hs;have hc:Rep St w.heap μ (opnd s c) (a.eval c):=hI.opnd (a:=a) c;rw[hb]at hc
   have hce:a.eval c= .bool b:=by generalize a.eval c=q at hc;cases hc;rfl
   cases b with
   |true=>exact wpIn_cond_true hce (dH hmix hL x hnd.1 (h.1 rfl) hn hs hQ)
   |false=>exact wpIn_cond_false hce (dH hmix hL y hnd.2 (h.2 rfl) hn hs hQ)
 | .block id c,Φ,s,a,w,Q,hnd,h,hn,hs,hQ=>by
   unfold lwp at h;refine wpIn_block (dH hmix hL c (by simpa[eK]using hnd) h hn hs fun e s' a' w' he hn' hs'=> ?_)
   cases e with
   |exit i=>
    simp only[exBlk]at he;simp only[Exit.inBlock];split
    · rename_i hi;rw[if_pos hi]at he;exact hQ _ _ _ _ he hn' hs'
    · rename_i hi;rw[if_neg hi]at he;exact hQ _ _ _ _ he hn' hs'
   |_=>exact hQ _ _ _ _ he hn' hs'
 | .loop c,Φ,s,a,w,Q,hnd,h,hn,hs,hQ=>by
   unfold lwp at h;obtain⟨α,I,m,x,hsub,hround⟩:=h
   have key:∀ (k:Nat) (x:α) (a:Act) (w:World),m x≤k→na≤(I x).nb→eZ D na A w0 M St0 (I x) a w→(Code.loop c).wpIn (FR r) n P Q a w:=by
     intro k x a w hk hnx hx;refine wpIn_loop (fun a w=>∃ x,na≤(I x).nb∧eZ D na A w0 M St0 (I x) a w) (fun a w=>Classical.epsilon fun k=>(∃ x,(na≤(I x).nb∧eZ D na A w0 M St0 (I x) a w)∧m x=k)∧∀ k',(∃ x,(na≤(I x).nb∧eZ D na A w0 M St0 (I x) a w)∧m x=k')→k≤k') ⟨x,hnx,hx⟩ ?_;rintro a w ⟨x0,hx0⟩
     have least:∀ (a:Act) (w:World),(∃ x,na≤(I x).nb∧eZ D na A w0 M St0 (I x) a w)→∃ k,(∃ x,(na≤(I x).nb∧eZ D na A w0 M St0 (I x) a w)∧m x=k)∧∀ k',(∃ x,(na≤(I x).nb∧eZ D na A w0 M St0 (I x) a w)∧m x=k')→k≤k':=by
       rintro a w ⟨x,hx⟩
       have:∀ (n:Nat) (x:α),m x=n→(na≤(I x).nb∧eZ D na A w0 M St0 (I x) a w)→∃ k,(∃ x,(na≤(I x).nb∧eZ D na A w0 M St0 (I x) a w)∧m x=k)∧∀ k',(∃ x,(na≤(I x).nb∧eZ D na A w0 M St0 (I x) a w)∧m x=k')→k≤k':=by
         intro n
         induction n using Nat.strongRecOn with
         |_ n ih=>
          intro x hm hx;by_cases hlt:∃ x',(na≤(I x').nb∧eZ D na A w0 M St0 (I x') a w)∧m x'<n
          · obtain⟨x',hx',hl⟩:=hlt;exact ih _ hl x' rfl hx'
          · refine⟨n,⟨x,hx,hm⟩,?_⟩;rintro k' ⟨x',hx',rfl⟩;exact Nat.le_of_not_lt fun hl=>hlt ⟨x',hx',hl⟩
       exact this _ x rfl hx
     obtain⟨⟨x,hx,hmx⟩,hleast⟩:=Classical.epsilon_spec (least a w ⟨x0,hx0⟩);refine dH hmix hL c (by simpa[eK]using hnd) (hround x) hx.1 hx.2 fun e s' a' w' he hn' hs'=> ?_
     cases e with
     |normal=>
      obtain⟨x',hsub',hlt⟩:=he
      have hx':na≤(I x').nb∧eZ D na A w0 M St0 (I x') a' w':=by
        rcases hsub' with rfl |hsub'
        · exact⟨hn',hs'⟩
        · exact⟨hsub'.na_le,hs'.sub hsub'⟩
      refine⟨⟨x',hx'⟩,?_⟩;have h2:=(Classical.epsilon_spec (least a' w' ⟨x',hx'⟩)).2 _ ⟨x',hx',rfl⟩;rw[← hmx]
      exact Nat.lt_of_le_of_lt h2 hlt
     |_=>exact hQ _ _ _ _ he hn' hs'
   rcases hsub with rfl |hsub
   · exact key _ x a w (Nat.le_refl _) hn hs
   · exact key _ x a w (Nat.le_refl _) hsub.na_le (hs.sub hsub)
 | .exit id,Φ,s,a,w,Q,_,h,hn,hs,hQ=>wpIn_exit (hQ _ _ _ _ h hn hs)
 | .ret,Φ,s,a,w,Q,_,h,hn,hs,hQ=>wpIn_ret (hQ _ _ _ _ h hn hs)
 | .rangeFunc _ _ _ _,Φ,s,a,w,Q,_,h,_,_,_=>h.elim
 | .scope _,Φ,s,a,w,Q,_,h,_,_,_=>h.elim
 | .label _,Φ,s,a,w,Q,_,h,_,_,_=>h.elim
 | .goto _,Φ,s,a,w,Q,_,h,_,_,_=>h.elim
 | .refuse _,Φ,s,a,w,Q,_,h,_,_,_=>h.elim
section
variable {w0 w wa w':World}{M St0 St St':Nat→Prop}{s s':LS}{μ μ':Nat→Option (Nat×Nat)}{tm tm':Array Value}
def Mv (μ:Nat→Option (Nat×Nat)) (St:Nat→Prop):Nat→Prop:=fun g=>(∃ b R,μ b=some (g,R))∧¬St g
theorem Inv.at (h:Inv w0 M St0 s μ St tm w) (hs:w.heap.size≤w'.heap.size) (hk:∀ g,g<w.heap.size→(St g∨∃ b R,μ b=some (g,R))→w'.heap[g]? =w.heap[g]?):Inv w' (Mv μ St) St s μ St tm w':=by
 have hS:∀ g,St g→w'.heap[g]? =w.heap[g]? :=fun g hg=>hk g (h.st_lt g hg).1 (.inl hg)
 refine⟨fun i=>(h.frame i).mono (fun _ h=>h) hS (fun _ _ h=>h),h.sz,fun b k hb=> ?_,h.inj,fun b g R hm=>⟨Nat.lt_of_lt_of_le (h.lt b g R hm).1 hs,?_⟩,fun g hg=>⟨Nat.lt_of_lt_of_le (h.st_lt g hg).1 hs,.inl hg⟩,fun _ h=>h,rfl,rfl,rfl,Nat.le_refl _,fun _ _ _=>rfl⟩
 ·obtain⟨g,R,cs,h1,h2,h3,h4,h5,h6,h7,h8⟩:=h.blk b k hb;exact⟨g,R,cs,h1,by rw[hk g (h.lt b g R h1).1 (.inr ⟨b,R,h1⟩)];exact h2,h3,h4,⟨h5.1,fun j c u hc hu=>(h5.2 j c u hc hu).mono (fun _ h=>h) hS (fun _ _ h=>h)⟩,h6,h7,h8⟩
 ·by_cases hg:St g
  ·exact .inr (.inr hg)
  ·exact .inl ⟨⟨b,R,hm⟩,hg⟩
theorem Inv.back (h:Inv w0 M St0 s μ St tm w) (hs:w.heap.size≤wa.heap.size) (hk:∀ g,g<w0.heap.size→¬M g→wa.heap[g]? =w.heap[g]?) (ho:wa.os=w.os) (ht:wa.tape=w.tape) (hou:wa.output=w.output)
  (h':Inv wa (Mv μ St) St s' μ' St' tm' w'):Inv w0 M St0 s' μ' St' tm' w':=by
 refine⟨h'.frame,h'.sz,h'.blk,h'.inj,fun b g R hm=>⟨(h'.lt b g R hm).1,?_⟩,fun g hg=>⟨(h'.st_lt g hg).1,?_⟩,fun g hg=>h'.st0 g (h.st0 g hg),h'.os.trans (ho.trans h.os),h'.tape.trans (ht.trans h.tape),h'.output.trans (hou.trans h.output),Nat.le_trans h.size (Nat.le_trans hs h'.size),fun g hlt hM=> ?_⟩
 ·rcases(h'.lt b g R hm).2 with⟨⟨b1,R1,hh⟩,hns⟩ |hh |hh
  ·rcases(h.lt _ _ _ hh).2 with h1 |h1 |h1
   ·exact .inl h1
   ·exact .inr (.inl h1)
   ·exact .inr (.inr (h'.st0 g h1))
  ·exact .inr (.inl (Nat.le_trans h.size (Nat.le_trans hs hh)))
  ·exact .inr (.inr hh)
 ·rcases(h'.st_lt g hg).2 with hh |⟨⟨b1,R1,hh⟩,hns⟩ |hh
  ·exact(h.st_lt g hh).2
  ·rcases(h.lt _ _ _ hh).2 with h1 |h1 |h1
   ·exact .inr (.inl h1)
   ·exact .inr (.inr h1)
   ·exact absurd h1 hns
  ·exact .inr (.inr (Nat.le_trans h.size (Nat.le_trans hs hh)))
 ·rw[h'.kept g (Nat.lt_of_lt_of_le hlt (Nat.le_trans h.size hs)) (fun hm=> ?_),hk g hlt hM]
  ·exact h.kept g hlt hM
  ·obtain⟨⟨b1,R1,hh⟩,hns⟩:=hm;rcases(h.lt _ _ _ hh).2 with h1 |h1 |h1
   ·exact hM h1
   ·omega
   ·exact hns h1
end
end
section
open Go Go.RowKit
mutual
def pU:LV→Bool
 | .own .. =>false
 | .ptr .. =>false
 | .agg cs=>closedLs cs
 | .tup cs=>closedLs cs
 | .fn _ cs=>closedLs cs
 |_=>true
def closedLs:List LV→Bool
 |[]=>true
 |c::cs=>pU c && closedLs cs
end
theorem kA:∀ {cs:List LV}{j:Nat}{c:LV},closedLs cs=true→cs[j]? =some c→pU c=true
 |c::cs,0,_,h,hc=>by cases hc;simp only[closedLs,Bool.and_eq_true]at h;exact h.1
 |c::cs,j+1,_,h,hc=>by simp only[closedLs,Bool.and_eq_true]at h;exact kA h.2 (by simpa using hc)
theorem aSh {St:Nat→Prop}{hp:Array Obj}{μ:Nat→Option (Nat×Nat)}{x:LV}{v:Value}(hr:Rep St hp μ x v):pU x=true→∀ {μ':Nat→Option (Nat×Nat)},Rep St hp μ' x v:=by
 induction hr with
 |lit v=>exact fun _ _=> .lit v
 |dead v=>exact fun _ _=> .dead v
 |snil=>exact fun _ _=> .snil
 |sl hn hc hs hl hm h1 hr _=>exact fun _ _=> .sl hn hc hs hl hm h1 hr
 |ro hs hl hm h1 hr _=>exact fun _ _=> .ro hs hl hm h1 hr
 |own hb hn hc hR=>intro h;simp[pU]at h
 |ptr hb=>intro h;simp[pU]at h
 |agg hl h1 _ ih=>exact fun h _=> .agg hl h1 (fun j c u hc hu=>ih j c u hc hu (kA (by simpa[pU]using h) hc))
 |tup hl _ ih=>exact fun h _=> .tup hl (fun j c u hc hu=>ih j c u hc hu (kA (by simpa[pU]using h) hc))
 |fn hl _ ih=>exact fun h _=> .fn hl (fun j c u hc hu=>ih j c u hc hu (kA (by simpa[pU]using h) hc))
theorem aOm {St:Nat→Prop}{hp:Array Obj}{μ μ':Nat→Option (Nat×Nat)}{xs:List LV}{vs:List Value}(h:closedLs xs=true) (hr:Reps St hp μ xs vs):Reps St hp μ' xs vs:=
 ⟨hr.1,fun j c u hc hu=>aSh (hr.2 j c u hc hu) (kA h hc)⟩
def uX (P:Program) [Laid P] (f:FuncId) (caps:List LV) (xs:List (List LV)):Prop:=
 aCp P f∧∀ (n:Nat) (W:World) (St:Nat→Prop) (lb:List Value) (l:Nat) (J:Nat→World→Prop),(∀ g,St g→g<W.heap.size)→fN P St W.heap→Reps St W.heap (fun _=>none) caps lb→J 0 W→
  (∀ (k:Nat) (args:List LV) (vs:List Value) (W1:World),xs[k]? =some args→J k W1→(∀ g,St g→W1.heap[g]? =W.heap[g]?)→Reps St W1.heap (fun _=>none) args vs→
   ∀ m,YieldAt Fence.wide m P l vs.toArray W1 fun e W2=>e= .returned (.bool true)∧J (k+1) W2∧∀ g,St g→W2.heap[g]? =W1.heap[g]?)→
  CallsIn Fence.wide n P f (#[.func (.yield l) #[] #[]]++lb.toArray) W fun e W'=>(∃ v,e= .returned v)∧J xs.length W'
def aC3 (ps:List Nat) (xs:List LV) (f:Nat→LV):Nat→LV:=(ps.zip xs).foldl (fun f p=>dE f p.1 p.2) f
def aI4 (ps:List Nat) (vs:List Value) (tm:Array Value):Array Value:=(ps.zip vs).foldl (fun t p=>t.setIfInBounds p.1 p.2) tm
theorem aOn {St:Nat→Prop}{hp:Array Obj}{μ:Nat→Option (Nat×Nat)}:∀ (ps:List Nat) (xs:List LV) (vs:List Value) (f:Nat→LV) (tm:Array Value),Reps St hp μ xs vs→(∀ p∈ps,p<tm.size)→(∀ i,Rep St hp μ (f i) (tm.getD i undef))→
  (∀ i,Rep St hp μ (aC3 ps xs f i) ((aI4 ps vs tm).getD i undef))∧(aI4 ps vs tm).size=tm.size
 |[],_,_,f,tm,_,_,h=>⟨by simpa[aC3,aI4]using h,rfl⟩
 |p::ps,[],[],f,tm,_,_,h=>⟨by simpa[aC3,aI4]using h,rfl⟩
 |p::ps,x::xs,[],f,tm,hr,_,_=>by have:=hr.1;simp at this
 |p::ps,[],v::vs,f,tm,hr,_,_=>by have:=hr.1;simp at this
 |p::ps,x::xs,v::vs,f,tm,hr,hp,h=>by
  have hp0:=hp p (by simp)
  have:=aOn ps xs vs (dE f p x) (tm.setIfInBounds p v) ⟨by simpa using hr.1,fun j c u hc hu=>hr.2 (j+1) c u (by simpa using hc) (by simpa using hu)⟩ (fun q hq=>by simpa using hp q (by simp[hq])) (fun i=>by
    by_cases hi:i=p
    · subst hi;rw[cH,Array.getD_eq_getD_getElem?,Array.getElem?_setIfInBounds_self_of_lt hp0];exact hr.2 0 x v rfl rfl
    · rw[bW _ _ _ _ hi,Array.getD_eq_getD_getElem?,Array.getElem?_setIfInBounds_ne (Ne.symm hi),← Array.getD_eq_getD_getElem?]
      exact h i)
  refine⟨this.1,?_⟩;have h2:=this.2;simp only[Array.size_setIfInBounds]at h2;exact h2
theorem bKo (ps:Array Nat) (vs:List Value) (tm:Array Value):(ps.zip vs.toArray).foldl (fun tmps (t,a)=>tmps.setIfInBounds t a) tm=aI4 ps.toList vs tm:=by
 rw[← Array.foldl_toList,Array.toList_zip];rfl
theorem Inv.frameR {w0 w:World}{M St0 St:Nat→Prop}{s:LS}{μ:Nat→Option (Nat×Nat)}{tm:Array Value}(h:Inv w0 M St0 s μ St tm w) {n nb:Nat}{f:Nat→LV}{tm':Array Value}(hf:∀ i,Rep St w.heap μ (f i) (tm'.getD i undef)) (hn:tm'.size=n):Inv w0 M St0 ⟨n,f,s.h,nb⟩ μ St tm' w:=
 ⟨hf,hn,h.blk,h.inj,h.lt,h.st_lt,h.st0,h.os,h.tape,h.output,h.size,h.kept⟩
def Off (μ:Nat→Option (Nat×Nat)) (St:Nat→Prop) (l:Nat):Prop:=¬St l∧∀ b R,μ b≠some (l,R)
theorem Off.mv {μ:Nat→Option (Nat×Nat)}{St:Nat→Prop}{l:Nat}(h:Off μ St l):¬Mv μ St l:=fun⟨⟨b,R,e⟩,_⟩=>h.2 b R e
theorem Off.later {wa w':World}{St St':Nat→Prop}{s':LS}{μ μ':Nat→Option (Nat×Nat)}{tm':Array Value}{l:Nat}(h:Off μ St l) (hl:l<wa.heap.size) (h':Inv wa (Mv μ St) St s' μ' St' tm' w'):Off μ' St' l:=by
 have hs:¬St' l:=fun hs=>by
  rcases(h'.st_lt l hs).2 with h1 |h1 |h1
  ·exact h.1 h1
  ·exact h.mv h1
  ·omega
 refine⟨hs,fun b R e=> ?_⟩;rcases(h'.lt b l R e).2 with h1 |h1 |h1
 ·exact h.mv h1
 ·omega
 ·exact hs h1
abbrev aOo (d:Nat):Deferred:={target:= .collected d,args:= #[]}
theorem aOp {P:Program}[Laid P] (hmix:P.follows .mixedOrders=true) {w0:World}{M St0:Nat→Prop}(hL:fO P w0 M St0) {na:Nat}{A:Nat→Option (Nat×Nat)}{n:Nat}{g:Operand}{ps:Array Tmp}{asc bd:Code}{s:LS}{a:Act}{w:World}{Q:Exit→Act→World→Prop}
  (hs:eT na A w0 M St0 s a w) (hna:na≤s.nb) {f:FuncId}{caps:List LV}{xs:List (List LV)}(hg:opnd s g= .fn f caps) (hcl:closedLs caps=true) (hit:uX P f caps xs) (hps:∀ x∈xs,x.length=ps.size) (hpn:∀ p∈ps.toList,p<s.n)
  (hea:eK asc=true) (heb:eK bd=true) (H:Nat→Nat→Option Blk) (hH:H 0=s.h)
  (hround:∀ k args,xs[k]? =some args→lwp P s.nb asc (exThen (fun s'=>lwp P s.nb bd (exThen (fun s''=>Sub s.nb s'' ⟨s.n,fun _=> .dead,H (k+1),s.nb⟩) (fun _ _=>False)) s') (fun _ _=>False)) ⟨s.n,aC3 ps.toList args s.f,H k,s.nb⟩)
  (hQ:∀ d w',(∃ μ St,Inv w0 M St0 ⟨s.n,s.f,H xs.length,s.nb⟩ μ St a.tmps w'∧(∀ b,s.nb≤b→μ b=none)∧(∀ b,b<na→μ b=A b)∧Off μ St d)→w0.heap.size≤d→w'.heap[d]? =some (.deferred (some []))→Q .normal {a with defers:=[aOo d]} w'):
  (Code.rangeFunc g ps asc bd).wpIn (FR none) n P Q a w:=by
 obtain⟨hdef,μ1,St1,hI1,hnb1,hA1⟩:=hs;refine wpIn_rangeFunc ?_;intro fn _;show∃ l,_;obtain⟨rec,hrec⟩:∃ rec:LoopState→Option Code→Loop,rec=fun st pe=>{state:=st,pending:=pe,fn,tmps:=a.tmps,params:=ps,assign:=asc,body:=bd,defers:=w.heap.size}:=⟨_,rfl⟩
 obtain⟨W1,hW1⟩:∃ W1,(w.alloc (.deferred (some []))).alloc (.loop (rec .ready none))=W1:=⟨_,rfl⟩
 have hL1:W1.heap[w.heap.size+1]? =some (.loop (rec .ready none)):=by
  rw[← hW1];have:=World.alloc_heap_new (w.alloc (.deferred (some []))) (.loop (rec .ready none));rwa [World.size_alloc]at this
 have hK1:W1.heap[w.heap.size]? =some (.deferred (some [])):=by
  rw[← hW1];exact(Below.heap_alloc _ _ _ (by simp)).trans (World.alloc_heap_new w _)
 have hsz1:w.heap.size+2=W1.heap.size:=by rw[← hW1];simp
 have hk1:∀ g,g<w.heap.size→W1.heap[g]? =w.heap[g]? :=fun g hg=>by
  rw[← hW1];exact(Below.heap_alloc _ _ _ (by simp;omega)).trans (Below.heap_alloc _ _ _ hg)
 have hso:W1.os=w.os∧W1.tape=w.tape∧W1.output=w.output:=by rw[← hW1];exact⟨rfl,rfl,rfl⟩
 have hgv:=hI1.opnd (a:=a) g;rw[hg]at hgv
 obtain⟨us,hge,hus⟩:∃ us:List Value,a.eval g= .func (.func f) #[] us.toArray∧Reps St1 w.heap μ1 caps us:=by
  generalize a.eval g=q at hgv
  cases hgv with
  |fn hl hr=>exact⟨_,rfl,hl,hr⟩
 have hus0:Reps St1 W1.heap (fun _=>none) caps us:=by
  have h2:Reps St1 w.heap (fun _=>none) caps us:=aOm hcl hus;exact⟨h2.1,fun j c u hc hu=>(h2.2 j c u hc hu).mono (fun _ h=>h) (fun g hg=>hk1 g (hI1.st_lt g hg).1) (fun _ _ h=>h)⟩
 have hlay:fN P St1 W1.heap:=(hI1.laid hL).same (fun _ h=>h) (fun g hg=>hk1 g (hI1.st_lt _ hg).1)
 refine⟨w.heap.size+1,[aOo w.heap.size],W1,{target:= .fn (.func f) us.toArray,args:= #[.func (.yield (w.heap.size+1)) #[] #[]]},W1,f,
  #[.func (.yield (w.heap.size+1)) #[] #[]]++us.toArray,W1,?_,?_,fun _ _=>trivial,?_,fun h=>(by cases h),?_⟩
 ·rw[← hW1,hrec];exact run_enterLoop_outer _ _ _ _ _
 ·simp only[resolve,hge];simp[go_sem]
 ·simp[invoke,go_sem,rV hit.1]
 ·
  have hcall:=hit.2 (n-1) W1 St1 us (w.heap.size+1)
   (fun k W=>∃ μ St,Inv w0 M St0 ⟨s.n,s.f,H k,s.nb⟩ μ St a.tmps W∧(∀ b,s.nb≤b→μ b=none)∧(∀ b,b<na→μ b=A b)∧(∀ g,St1 g→St g)∧Off μ St (w.heap.size+1)∧Off μ St w.heap.size∧
    W.heap[w.heap.size+1]? =some (.loop (rec .ready none))∧W.heap[w.heap.size]? =some (.deferred (some [])))
   (fun g hg=>by have:=(hI1.st_lt g hg).1;omega) hlay hus0
  have hoff:∀ l,w.heap.size≤l→Off μ1 St1 l:=fun l hl=>⟨fun h=>by have:=(hI1.st_lt l h).1;omega,fun b R e=>by have:=(hI1.lt b l R e).1;omega⟩
  have hcall:=hcall ⟨μ1,St1,by
    have h1:=hI1.back (wa:=W1) (by omega) (fun g hg _=>hk1 g (by have:=hI1.size;omega)) hso.1 hso.2.1 hso.2.2 (hI1.at (w':=W1) (by omega) (fun g hg _=>hk1 g hg))
    rw[hH];exact h1,hnb1,hA1,fun _ h=>h,hoff _ (by omega),hoff _ (Nat.le_refl _),hL1,hK1⟩
  have hcall2:CallsIn (FR none) (n-1) P f (#[.func (.yield (w.heap.size+1)) #[] #[]]++us.toArray) W1 _:=hcall ?_
  ·refine hcall2.mono ?_;rintro e W' ⟨⟨v,rfl⟩,μ,St,hI,hnb,hA,_,hofr,hofd,hl,hk⟩;refine⟨none,W'.putObj (w.heap.size+1) (.loop {rec .ready none with state:= .exhausted}),by have:=run_endLoop (P:=P) hl (by rw[hrec];simp);rw[hrec]at this⊢;exact this,?_⟩
   have h3:=hQ w.heap.size (W'.putObj (w.heap.size+1) (.loop {rec .ready none with state:= .exhausted})) ⟨μ,St,hI.back (wa:=W'.putObj (w.heap.size+1) (.loop {rec .ready none with state:= .exhausted})) (by simp) (fun g hg _=>World.putObj_heap_other (by have:=hI1.size;omega)) rfl rfl rfl (hI.at (by simp) (fun g _ hg=>World.putObj_heap_other (fun e=>by
     subst e;rcases hg with hg |⟨b,R,hg⟩
     ·exact hofr.1 hg
     ·exact hofr.2 _ _ hg))),hnb,hA,hofd⟩ hI1.size ((World.putObj_heap_other (by omega)).trans hk)
   show Q .normal {a with defers:=[aOo w.heap.size]++a.defers} _;rw[hdef];exact h3
  ·
   rintro k args vs W hxk ⟨μ,St,hI,hnb,hA,hSt,hofr,hofd,hl,hk⟩ hkeep hvs m;have hlt:w.heap.size+1<W.heap.size:=(Array.getElem?_eq_some_iff.1 hl).1;have hlen:args.length=ps.size:=hps _ (List.mem_of_getElem? hxk);have hy:=run_yield (P:=P) (args:=vs.toArray) hl (by rw[hrec];simp only[List.size_toArray];rw[← hvs.1,hlen]);rw[hrec]at hy
   simp only at hy;rw[bKo]at hy
   have hpr:=aOn (St:=St) (hp:=W.heap) (μ:=μ) ps.toList args vs s.f a.tmps ⟨hvs.1,fun j c u hc hu=>(hvs.2 j c u hc hu).mono hSt (fun _ _=>rfl) (fun _ _ h=>by cases h)⟩ (fun p hp=>by rw[hI.sz];exact hpn p hp) hI.frame;have hLW:∀ {wb:World}{Mb Stb:Nat→Prop}{sb:LS}{μb:Nat→Option (Nat×Nat)}{Stb':Nat→Prop}{tb:Array Value}{wb':World},Inv wb Mb Stb sb μb Stb' tb wb'→fN P Stb' wb'.heap→fO P wb' (Mv μb Stb') Stb':=fun hIb hLb=>fO.of hLb fun g hg=>⟨fun h=>h.2 hg,(hIb.st_lt _ hg).1⟩
   refine⟨fn,_,asc,bd,hy,roundIn_of_wpIn trivial ?_⟩;show asc.wpIn (FR (some (w.heap.size+1))) m P _ _ _;have hIW:Inv W (Mv μ St) St ⟨s.n,aC3 ps.toList args s.f,H k,s.nb⟩ μ St (aI4 ps.toList vs a.tmps) W:=(hI.at (Nat.le_refl _) (fun _ _ _=>rfl)).frameR hpr.1 (hpr.2.trans hI.sz);refine dH hmix (w0:=W) (M:=Mv μ St) (St0:=St) (na:=s.nb) (A:=μ) (D:=[]) (hLW hI (hI.laid hL)) asc hea (hround k args hxk) (Nat.le_refl _) ⟨rfl,rfl,μ,St,hIW,hnb,fun _ _=>rfl⟩ ?_;intro e s' a' w' he _ hs'
   cases e with
   |normal=> ?_
   |_=>exact he.elim
   obtain⟨hdf',_,μa,Sta,hIa,hnba,hμa⟩:=hs';have hIa:Inv W (Mv μ St) St s' μa Sta a'.tmps w':=hIa;have hl':w'.heap[w.heap.size+1]? =some (.loop (rec .ready none)):=(hIa.kept _ hlt hofr.mv).trans hl;have hk':w'.heap[w.heap.size]? =some (.deferred (some [])):=(hIa.kept _ (by omega) hofd.mv).trans hk;have hlt':w.heap.size+1<w'.heap.size:=(Array.getElem?_eq_some_iff.1 hl').1;have hofra:=hofr.later hlt hIa;have hofda:=hofd.later (by omega) hIa;obtain⟨W2,hW2⟩:∃ W2,w'.putObj (w.heap.size+1) (.loop {rec .ready none with state:= .busy})=W2:=⟨_,rfl⟩;refine⟨W2,by rw[← hW2];exact run_beginRound hl' (by rw[hrec]),?_⟩;have hl2:W2.heap[w.heap.size+1]? =some (.loop {rec .ready none with state:= .busy}):=by rw[← hW2];exact World.putObj_heap_same hlt'
   have hk2:W2.heap[w.heap.size]? =some (.deferred (some [])):=by rw[← hW2];exact(World.putObj_heap_other (by omega)).trans hk'
   have hsz2:w'.heap.size=W2.heap.size:=by rw[← hW2];simp
   have hoth:∀ g,g≠w.heap.size+1→W2.heap[g]? =w'.heap[g]? :=fun g hg=>by rw[← hW2];exact World.putObj_heap_other hg
   have hso2:W2.os=w'.os∧W2.tape=w'.tape∧W2.output=w'.output:=by rw[← hW2];exact⟨rfl,rfl,rfl⟩
   have hI2:Inv W2 (Mv μa Sta) Sta s' μa Sta a'.tmps W2:=hIa.at (by omega) (fun g _ hg=>hoth g (fun e=>by
     subst e;rcases hg with hg |⟨b,R,hg⟩
     ·exact hofra.1 hg
     ·exact hofra.2 _ _ hg))
   have hLa:fN P Sta w'.heap:=hIa.laid (hLW hI (hI.laid hL));have hLa2:fN P Sta W2.heap:=hLa.same (fun _ h=>h) (fun g hg=>hoth g (fun e=>hofra.1 (e ▸ hg)));refine dH hmix (w0:=W2) (M:=Mv μa Sta) (St0:=Sta) (na:=s.nb) (A:=μ) (D:=[]) (hLW hI2 hLa2) bd heb he (by assumption) ⟨hdf',rfl,μa,Sta,hI2,hnba,hμa⟩ ?_;intro e s'' a'' w'' he2 _ hs''
   cases e with
   |normal=> ?_
   |_=>exact he2.elim
   have hs3:=hs''.sub he2;obtain⟨_,_,μb,Stb,hIb,hnbb,hμb⟩:=hs3;have hIb:Inv W2 (Mv μa Sta) Sta ⟨s.n,fun _=> .dead,H (k+1),s.nb⟩ μb Stb a''.tmps w'':=hIb;have hlt2:w.heap.size+1<W2.heap.size:=by omega
   have hl3:w''.heap[w.heap.size+1]? =some (.loop {rec .ready none with state:= .busy}):=(hIb.kept _ hlt2 hofra.mv).trans hl2;have hk3:w''.heap[w.heap.size]? =some (.deferred (some [])):=(hIb.kept _ (by omega) hofda.mv).trans hk2;have hlt3:w.heap.size+1<w''.heap.size:=(Array.getElem?_eq_some_iff.1 hl3).1;have hofrb:=hofra.later hlt2 hIb;have hofdb:=hofda.later (by omega) hIb;refine⟨.bool true,w''.putObj (w.heap.size+1) (.loop (rec .ready none)),?_,rfl,?_,?_⟩
   ·have:=run_endRound (P:=P) none hl3;rw[hrec]at this⊢
    exact this
   ·obtain⟨W3,hW3⟩:∃ W3,w''.putObj (w.heap.size+1) (.loop (rec .ready none))=W3:=⟨_,rfl⟩;rw[hW3];have hoth3:∀ g,g≠w.heap.size+1→W3.heap[g]? =w''.heap[g]? :=fun g hg=>by rw[← hW3];exact World.putObj_heap_other hg
    have hsz3:w''.heap.size=W3.heap.size:=by rw[← hW3];simp
    have hso3:W3.os=w''.os∧W3.tape=w''.tape∧W3.output=w''.output:=by rw[← hW3];exact⟨rfl,rfl,rfl⟩
    have hz:=hI1.size;have e1:Inv w0 M St0 s' μa Sta a'.tmps w':=hI.back (Nat.le_refl _) (fun _ _ _=>rfl) rfl rfl rfl hIa;have e2:=e1.back (wa:=W2) (by omega) (fun g hg _=>hoth g (by omega)) hso2.1 hso2.2.1 hso2.2.2 hIb
    have e3:=e2.back (wa:=W3) (by omega) (fun g hg _=>hoth3 g (by omega)) hso3.1 hso3.2.1 hso3.2.2 (e2.at (by omega) (fun g _ hg=>hoth3 g (fun e=>by
     subst e;rcases hg with hg |⟨b,R,hg⟩
     ·exact hofrb.1 hg
     ·exact hofrb.2 _ _ hg)))
    have hSab:∀ g,St g→Stb g:=fun g hg=>hIb.st0 g (hIa.st0 g hg)
    refine⟨μb,Stb,e3.frameR (fun i=>(hI.frame i).mono hSab (fun g hg=> ?_) (fun b q hb=> ?_)) hI.sz,hnbb,fun b hb=>by rw[hμb b (by omega)];exact hA b hb,fun g hg=>hSab g (hSt g hg),hofrb,hofdb,by rw[← hW3];exact World.putObj_heap_same hlt3,(hoth3 _ (by omega)).trans hk3⟩
    ·have hgr:g≠w.heap.size+1:=fun e=>hofr.1 (e ▸ hg)
     have h1:=(hI.st_lt g hg).1;have h2:=(hIa.st_lt g (hIa.st0 g hg)).1;rw[hoth3 g hgr,hIb.kept g (by omega) (fun h=>h.2 (hIa.st0 g hg)),hoth g hgr,hIa.kept g h1 (fun h=>h.2 hg)]
    ·by_cases hbn:b<s.nb
     ·rw[hμb b hbn];exact hb
     ·rw[hnb b (by omega)]at hb;cases hb
   ·intro g hg1;have hg:=hSt g hg1;have hgr:g≠w.heap.size+1:=fun e=>hofr.1 (e ▸ hg)
    have h1:=(hI.st_lt g hg).1;have h2:=(hIa.st_lt g (hIa.st0 g hg)).1;rw[World.putObj_heap_other hgr,hIb.kept g (by omega) (fun h=>h.2 (hIa.st0 g hg)),hoth g hgr,hIa.kept g h1 (fun h=>h.2 hg)]
end
section
open Go Go.RowKit
def yE (P:Program) [Laid P] (g:Operand) (ps:Array Tmp) (asc bd:Code) (s:LS) (K:LS→Prop):Prop:=
 ∃ f caps xs,opnd s g= .fn f caps∧closedLs caps=true∧uX P f caps xs∧(∀ x∈xs,x.length=ps.size)∧(∀ p∈ps.toList,p<s.n)∧(eK asc && eK bd)=true∧
   ∃ H:Nat→Nat→Option Blk,H 0=s.h∧
     (∀ k args,xs[k]? =some args→lwp P s.nb asc (exThen (fun s'=>lwp P s.nb bd (exThen (fun s''=>Sub s.nb s'' ⟨s.n,fun _=> .dead,H (k+1),s.nb⟩) (fun _ _=>False)) s') (fun _ _=>False)) ⟨s.n,aC3 ps.toList args s.f,H k,s.nb⟩)∧
     K ⟨s.n,s.f,H xs.length,s.nb⟩
def aOq (K:LS→Prop):Exit→LS→Prop
 | .normal,s=>K s
 | .ret,s=>K s
 |_,_=>False
def rlwp (P:Program) [Laid P]:Code→(LS→Prop)→LS→Prop
 | .seq x y,K,s=>(∃ id g ps asc bd,x= .block id (.rangeFunc g ps asc bd)∧yE P g ps asc bd s (fun s'=>lwp P 0 y (aOq K) s'))∨
   lwp P 0 x (exThen (fun s'=>∃ t,(t=s'∨Sub 0 s' t)∧rlwp P y K t) fun e s'=>e= .ret∧K s') s∨
   (∃ x1 id g ps asc bd,x= .seq x1 (.block id (.rangeFunc g ps asc bd))∧lwp P 0 x1 (exThen (fun s'=>∃ t,(t=s'∨Sub 0 s' t)∧yE P g ps asc bd t (fun s''=>lwp P 0 y (aOq K) s'')) fun e s'=>e= .ret∧K s') s)
 |_,_,_=>False
def bUn (w0:World) (M St0:Nat→Prop) (s:LS) (a:Act) (w:World):Prop:=
 ∃ μ St,Inv w0 M St0 s μ St a.tmps w∧(a.defers=[]∨∃ d,a.defers=[aOo d]∧Off μ St d∧w0.heap.size≤d∧w.heap[d]? =some (.deferred (some [])))
theorem yF {P:Program}[Laid P] (hmix:P.follows .mixedOrders=true) {w0:World}{M St0:Nat→Prop}(hL:fO P w0 M St0) {A:Nat→Option (Nat×Nat)}{n:Nat}{K:LS→Prop}{Q:Exit→Act→World→Prop}
  (hQ:∀ s' a' w',K s'→bUn w0 M St0 s' a' w'→Q .normal a' w'∧Q .ret a' w') {id:Nat}{g:Operand}{ps:Array Tmp}{asc bd y:Code}{s:LS}{a:Act}{w:World}
  (hnd2:eK y=true) (h:yE P g ps asc bd s (fun s'=>lwp P 0 y (aOq K) s')) (hs:eT 0 A w0 M St0 s a w):(Code.block id (.rangeFunc g ps asc bd)).wpIn (FR none) n P (Exit.then (y.wpIn (FR none) n P Q) Q) a w:=by
 obtain⟨f,caps,xs,hg,hcl,hit,hps,hpn,hok,H,hH,hround,hK⟩:=h;simp only[Bool.and_eq_true]at hok;refine(wpIn_block (aOp hmix hL hs (Nat.zero_le _) hg hcl hit hps hpn hok.1 hok.2 H hH hround ?_));rintro d w1 ⟨μ,St,hI,hnb,hA,hof⟩ hwd hdd;show y.wpIn (FR none) n P Q _ w1;have hdl:d<w1.heap.size:=(Array.getElem?_eq_some_iff.1 hdd).1;have hLa:=hI.laid hL
 refine dH hmix (w0:=w1) (M:=Mv μ St) (St0:=St) (na:=0) (A:=A) (D:=[aOo d]) (fO.of hLa fun g hg=>⟨fun h=>h.2 hg,(hI.st_lt _ hg).1⟩) y hnd2 hK (Nat.zero_le _)
  ⟨rfl,rfl,μ,St,hI.at (Nat.le_refl _) (fun _ _ _=>rfl),hnb,fun b hb=>by omega⟩ ?_
 intro e s' a' w' he _ hs';obtain⟨hdf,_,μ',St',hI',_,_⟩:=hs';have hI':Inv w1 (Mv μ St) St s' μ' St' a'.tmps w':=hI';have hE:bUn w0 M St0 s' a' w':=⟨μ',St',hI.back (Nat.le_refl _) (fun _ _ _=>rfl) rfl rfl rfl hI',.inr ⟨d,hdf,hof.later hdl hI',hwd,(hI'.kept _ hdl hof.mv).trans hdd⟩⟩
 cases e with
 |normal=>exact(hQ s' a' w' he hE).1
 |ret=>exact(hQ s' a' w' he hE).2
 |_=>exact he.elim
theorem yG {P:Program}[Laid P] (hmix:P.follows .mixedOrders=true) {w0:World}{M St0:Nat→Prop}(hL:fO P w0 M St0) {A:Nat→Option (Nat×Nat)}{n:Nat}{K:LS→Prop}{Q:Exit→Act→World→Prop}
  (hQ:∀ s' a' w',K s'→bUn w0 M St0 s' a' w'→Q .normal a' w'∧Q .ret a' w'):∀ (c:Code) {s:LS}{a:Act}{w:World},
  eK c=true→rlwp P c K s→eT 0 A w0 M St0 s a w→c.wpIn (FR none) n P Q a w
 | .seq x y,s,a,w,hnd,h,hs=>by
   simp only[eK,Bool.and_eq_true]at hnd;unfold rlwp at h;rcases h with⟨id,g,ps,asc,bd,rfl,h⟩ |h |⟨x1,id,g,ps,asc,bd,rfl,h⟩
   · exact wpIn_seq (yF hmix hL hQ hnd.2 h hs)
   · refine wpIn_seq (dH hmix hL (D:=[]) x hnd.1 h (Nat.zero_le _) ⟨hs.1,rfl,hs.2⟩ fun e s' a' w' he hn' hs'=> ?_)
     cases e with
     |normal=>
      obtain⟨t,ht,he⟩:=he;have h2:eT 0 A w0 M St0 s' a' w':=⟨hs'.1,hs'.2.2⟩;rcases ht with rfl |ht
      · exact yG hmix hL hQ y hnd.2 he h2
      · exact yG hmix hL hQ y hnd.2 he (h2.sub ht)
     |ret=>
      obtain⟨h1,_,μ,St,hI,_⟩:=hs'
      exact(hQ s' a' w' he.2 ⟨μ,St,hI,.inl h1⟩).2
     |_=>cases he.1
   · have hnd1:eK x1=true:=by have:=hnd.1;simp only[eK,Bool.and_eq_true]at this;exact this.1
     refine wpIn_seq (wpIn_seq (dH hmix hL (D:=[]) x1 hnd1 h (Nat.zero_le _) ⟨hs.1,rfl,hs.2⟩ fun e s' a' w' he hn' hs'=> ?_))
     cases e with
     |normal=>
      obtain⟨t,ht,he⟩:=he;have h2:eT 0 A w0 M St0 s' a' w':=⟨hs'.1,hs'.2.2⟩;rcases ht with rfl |ht
      · exact yF hmix hL hQ hnd.2 he h2
      · exact yF hmix hL hQ hnd.2 he (h2.sub ht)
     |ret=>
      obtain⟨h1,_,μ,St,hI,_⟩:=hs'
      exact(hQ s' a' w' he.2 ⟨μ,St,hI,.inl h1⟩).2
     |_=>cases he.1
 | .skip,_,_,_,_,h,_=>h.elim
 | .region ..,_,_,_,_,h,_=>h.elim
 | .cond ..,_,_,_,_,h,_=>h.elim
 | .block ..,_,_,_,_,h,_=>h.elim
 | .loop ..,_,_,_,_,h,_=>h.elim
 | .exit ..,_,_,_,_,h,_=>h.elim
 | .ret,_,_,_,_,h,_=>h.elim
 | .rangeFunc ..,_,_,_,_,h,_=>h.elim
 | .scope ..,_,_,_,_,h,_=>h.elim
 | .label ..,_,_,_,_,h,_=>h.elim
 | .goto ..,_,_,_,_,h,_=>h.elim
 | .refuse ..,_,_,_,_,h,_=>h.elim
theorem aHw {P:Program}[Laid P] (hmix:P.follows .mixedOrders=true) {f:FuncId}{fn:Func}{c:Code}{args:List LV}{r:LV}(hf:P.funcs[f]? =some fn) (hb:fn.body=some c) (hname:fn.name≠ "runtime.NumGoroutine")
  (hd:eK c=true) {nt:Nat}(hnt:fn.ntmps=nt) {rs:List ResultVar}(hrs:fn.results.toList=rs) (hn:args.length≤nt)
  (h:rlwp P c (goodPost P rs r .ret) ⟨nt,fun i=>args.getD i .dead,fun _=>none,0⟩):cU P f args r:=by
 subst hnt hrs;refine⟨⟨fn,hf,hname,by rw[hb];rfl⟩,fun w St vs hSt hLd hr=> ?_⟩;refine(callsIn_wide (n:=0)).1 (callsIn_of_wp_marks hf hb trivial ?_);refine yG hmix (A:=fun _=>none) (w0:=w) (M:=fun _=>False) (St0:=St) (n:=0) (fO.of hLd fun g hg=>⟨fun h=>h,hSt _ hg⟩) ?_ c hd h ?_
 ·intro s' a' w' hK hE;obtain⟨x,F,hx,hp⟩:=hK;obtain⟨μ,St',hI,hdf⟩:=hE
  have fin:∀ (w2:World),Inv w (fun _=>False) St s' μ St' a'.tmps w2→LeavesIn Fence.wide 0 P fn a'.tmps (fun e w'=>∃ v St',e= .returned v∧Rep St' w'.heap (fun _=>none) r v∧(∀ g,St g→St' g)∧(∀ g,St' g→g<w'.heap.size∧(St g∨w.heap.size≤g))∧
    w'.os=w.os∧w'.tape=w.tape∧w'.output=w.output∧w.heap.size≤w'.heap.size∧∀ g,g<w.heap.size→w'.heap[g]? =w.heap[g]?) [] .returning w2:=by
   intro w2 hI;obtain⟨v,hv,hV⟩:=qU (P:=P) (fn:=fn) (a:=a') hI hx;obtain⟨hR,hF⟩:=qR hI 6 x r F v hp hV;have hfr:=hI.freeze F hF;refine⟨v,hv,v,yZ μ St' F,rfl,hR,fun g hg=>hfr.st0 g hg,fun g hg=> ?_,hI.os,hI.tape,hI.output,hI.size,fun g hg=>hI.kept g hg (fun h=>h)⟩;obtain⟨h1,h2⟩:=hfr.st_lt g hg;exact⟨h1,h2.imp id (fun h=>h.resolve_left (fun h=>h))⟩
  have key:LeavesInM Fence.wide 0 P fn a'.tmps (fun e w'=>∃ v St',e= .returned v∧Rep St' w'.heap (fun _=>none) r v∧(∀ g,St g→St' g)∧(∀ g,St' g→g<w'.heap.size∧(St g∨w.heap.size≤g))∧
    w'.os=w.os∧w'.tape=w.tape∧w'.output=w.output∧w.heap.size≤w'.heap.size∧∀ g,g<w.heap.size→w'.heap[g]? =w.heap[g]?) a'.defers .returning w':=by
   rcases hdf with h0 |⟨d,h0,hof,hwd,hdd⟩
   ·rw[h0];exact fin w' hI
   ·rw[h0];refine⟨by simp,.inl ⟨d,_,rfl,run_takeDeferred hdd,fin _ ?_⟩⟩
    exact hI.back (wa:=w'.putObj d (.deferred none)) (by simp) (fun g hg _=>World.putObj_heap_other (by omega)) rfl rfl rfl (hI.at (by simp) (fun g _ hg=>World.putObj_heap_other (fun e=>by
     subst e;rcases hg with hg |⟨b,R,hg⟩
     ·exact hof.1 hg
     ·exact hof.2 _ _ hg)))
  exact⟨key,key⟩
 ·refine⟨rfl,fun _=>none,St,⟨fun i=> ?_,?_,by simp,by simp,by simp,fun g hg=>⟨hSt g hg,.inl hg⟩,fun _ h=>h,rfl,rfl,rfl,Nat.le_refl _,fun _ _ _=>rfl⟩,fun _ _=>rfl,by simp⟩
  ·simp only[List.getD_eq_getElem?_getD,Array.getD_eq_getD_getElem?]
   cases hc:args[i]? with
   |none=>exact .dead _
   |some x=>
    have hlt:i<args.length:=(List.getElem?_eq_some_iff.1 hc).1;have hlt2:i<vs.length:=by have:=hr.1;omega
    have hu:vs[i]? =some vs[i]:=List.getElem?_eq_getElem hlt2
    have:(vs.toArray++Array.replicate (fn.ntmps-vs.toArray.size) undef)[i]? =some vs[i]:=by
      rw[Array.getElem?_append_left (by simpa using hlt2)];simpa using hu
    rw[this];exact hr.2 i x vs[i] hc hu
  ·have:=hr.1;simp;omega
theorem bNf {P:Program}[Laid P] {x y:Code}{K:LS→Prop}{s:LS}(h:lwp P 0 x (exThen (rlwp P y K) fun e s'=>e= .ret∧K s') s):rlwp P (.seq x y) K s:=by
 unfold rlwp;exact .inr (.inl (iB x (iA (fun s h=>⟨s,.inl rfl,h⟩) (fun _ _ h=>h)) h))
theorem bUo {P:Program}[Laid P] {x1:Code}{id:Nat}{g:Operand}{ps:Array Tmp}{asc bd y:Code}{K:LS→Prop}{s:LS}(h:lwp P 0 x1 (exThen (fun s'=>∃ t,(t=s'∨Sub 0 s' t)∧yE P g ps asc bd t (lwp P 0 y (aOq K))) fun e s'=>e= .ret∧K s') s):rlwp P (.seq (.seq x1 (.block id (.rangeFunc g ps asc bd))) y) K s:=by
 unfold rlwp;exact .inr (.inr ⟨x1,id,g,ps,asc,bd,rfl,h⟩)
theorem cD1 {P:Program}[Laid P] {g:Operand}{ps:Array Tmp}{asc bd:Code}{K:LS→Prop}{s:LS}(t:LS) (hs:Sub 0 s t) (h:yE P g ps asc bd t K):∃ t,(t=s∨Sub 0 s t)∧yE P g ps asc bd t K:=⟨t,.inr hs,h⟩
theorem Sub.heapA {n:Nat}{f:Nat→LV}{h:Nat→Option Blk}{nb nb':Nat}{hl:List (Nat×Blk)}(hb:∀ p∈hl,p.1<nb'∧h p.1=some p.2) (hp:∀ p∈hl,∀ c∈p.2.cells,aB c=true):Sub nb' ⟨n,f,h,nb⟩ ⟨n,lk [],cG hl,nb'⟩:=
 Sub.heap id (by simp) (fun p hm=>⟨(hb p hm).1,p.2.cells,(hb p hm).2,cM (hp p hm)⟩) (fun _ _ _ _ e=>e) ⟨Nat.le_refl _,fun _ _=>rfl⟩
theorem bKp {P:Program}[Laid P] {g:Operand}{ps:Array Tmp}{asc bd:Code}{K:LS→Prop}{n nb:Nat}{F:Nat→LV}{h:Nat→Option Blk}{f:FuncId}{caps:List LV}{xs:List (List LV)}(hg:opnd ⟨n,F,h,nb⟩ g= .fn f caps) (hcl:closedLs caps=true) (hit:uX P f caps xs)
  (hps:∀ x∈xs,x.length=ps.size) (hpn:(ps.toList.all fun p=>decide (p<n))=true) (hok:(eK asc && eK bd)=true) (H:Nat→Nat→Option Blk) (hH:H 0=h)
  (hround:∀ k args,xs[k]? =some args→lwp P nb asc (exThen (lwp P nb bd (exThen (fun s''=>Sub nb s'' ⟨n,lk [],H (k+1),nb⟩) (fun _ _=>False))) (fun _ _=>False)) ⟨n,aC3 ps.toList args F,H k,nb⟩)
  (hK:K ⟨n,F,H xs.length,nb⟩):yE P g ps asc bd ⟨n,F,h,nb⟩ K:=
 ⟨f,caps,xs,hg,hcl,hit,hps,fun p hp=>of_decide_eq_true (List.all_eq_true.1 hpn p hp),hok,H,hH,hround,hK⟩
theorem cD2 {P:Program}{rs:List ResultVar}{r:LV}{s:LS}(h:goodPost P rs r .ret s):aOq (goodPost P rs r .ret) .ret s:=h
end
section
open Go Go.RowKit
def bUp (P:Program) [Laid P]:List Oper→LS→(LS→Prop)→Prop
 |[],s,K=>K s
 |o::l,s,K=>o.guard=none∧bKm o.op=true∧∃ d x,o.dst=some d∧d<s.n∧aF P 0 (fun _=>true) o.op s=some (.val x)∧bUp P l (s.put (some d) x) K
def oE (St:Nat→Prop) (s:LS) (a:Act) (w:World):Prop:=
 a.defers=[]∧(s.h=fun _=>none)∧a.tmps.size=s.n∧∀ i,Rep St w.heap (fun _=>none) (s.f i) (a.tmps.getD i undef)
theorem oE.sub {St:Nat→Prop}{n nb:Nat}{F:Nat→LV}{h:Nat→Option Blk}{a:Act}{w:World}{l:List (Nat×LV)}(hk:oE St ⟨n,F,h,nb⟩ a w) (hl:∀ p∈l,F p.1=p.2):oE St ⟨n,lk l,fun _=>none,0⟩ a w:=
 ⟨hk.1,rfl,hk.2.2.1,fun i=>aBc (Q:=fun i v=>Rep St w.heap (fun _=>none) v (a.tmps.getD i undef)) (fun _=> .dead _) l (fun p hp=>by rw[← hl p hp];exact hk.2.2.2 p.1) i⟩
theorem oE.inv {St:Nat→Prop}{s:LS}{a:Act}{w:World}(h:oE St s a w) (hSt:∀ g,St g→g<w.heap.size):Inv w (fun _=>False) St s (fun _=>none) St a.tmps w:=
 ⟨h.2.2.2,h.2.2.1,(fun b k hk=>by rw[h.2.1]at hk;cases hk),(fun b b' k k' g R R' hk=>by rw[h.2.1]at hk;cases hk),(by simp),fun g hg=>⟨hSt g hg,.inl hg⟩,fun _ h=>h,rfl,rfl,rfl,Nat.le_refl _,fun _ _ _=>rfl⟩
theorem oE.world {St:Nat→Prop}{s:LS}{a:Act}{w w':World}(h:oE St s a w) (hk:∀ g,St g→w'.heap[g]? =w.heap[g]?):oE St s a w':=
 ⟨h.1,h.2.1,h.2.2.1,fun i=>(h.2.2.2 i).mono (fun _ h=>h) hk (fun _ _ h=>h)⟩
theorem sO {P:Program}[Laid P] {St:Nat→Prop}{w:World}(hSt:∀ g,St g→g<w.heap.size) (hL:fN P St w.heap) {r:Option Nat}{n:Nat}{ops:Array Oper}{Q:Exit→Act→World→Prop}{K:LS→Prop}{tail:List Nat}:
  ∀ (l:List Oper) (i:Nat) {s:LS}{a:Act},(∀ j o,l[j]? =some o→ops[i+j]? =some o)→bUp P l s K→oE St s a w→(∀ s' a',K s'→oE St s' a' w→wpOpsIn (FR r) n P ops Q tail a' w)→
  wpOpsIn (FR r) n P ops Q (List.range' i l.length++tail) a w
 |[],i,s,a,_,h,hs,hK=>hK s a h hs
 |o::l,i,s,a,hl,h,hs,hK=>by
  obtain⟨hg,hnd,d,x,hd,hdn,hc,h⟩:=h;have ho:ops[i]? =some o:=by simpa using hl 0 o rfl
  rw[List.length_cons,List.range'_succ,List.cons_append];have hI:=hs.inv hSt;obtain⟨v,w',μ',nx,hrun,_,hI',_,hval⟩:=aEq (r:= .dead) hL hc hI rfl rfl (fun t ht=>by rw[hd]at ht;cases ht;exact hdn) (by simp);obtain⟨rfl,rfl,rfl⟩:=hval x rfl;have hw:Region.wanted o (yielded ops a.tmps)=true:=by unfold Region.wanted;rw[hg]
  unfold wpOpsIn;simp only[ho,hw,if_true];refine⟨fun _ _=>trivial,?_⟩;show o.uponIn _ n P a _ Q ((o.semAt r a.eval).run P _);rw[aOl hnd,hrun];refine sO hSt hL l (i+1) (fun j o' hj=>by have:=hl (j+1) o' (by simpa using hj);rw[← this];congr 1;omega) h ⟨?_,?_,?_,?_⟩ hK
  · rw[hd];exact hs.1
  · exact hs.2.1
  · have:=hI'.sz;rw[hd]at this⊢;exact this
  · have:=hI'.frame;rw[hd]at this⊢;exact this
theorem aOr {P:Program}[Laid P] {St:Nat→Prop}{w:World}{n:Nat}{ops:Array Oper}{Q:Exit→Act→World→Prop}{rest:List Nat}{i:Nat}{o:Oper}{c:Call}{x:Operand}{s:LS}{a:Act}{l:Nat}{R:Ending→World→Prop}
  (ho:ops[i]? =some o) (hg:o.guard=none) (hop:o.op= .call c) (hcal:c.callee= .value x) (hs:oE St s a w) (hx:opnd s x= .lit (.func (.yield l) #[] #[])) (hSt:∀ g,St g→g<w.heap.size)
  (hy:YieldAt Fence.wide (n-1) P l (c.args.map a.eval) w R) (hK:∀ e w',R e w'→e= .returned (.bool true)∧wpOpsIn (FR none) n P ops Q rest (a.put o.dst (.bool true)) w'):
  wpOpsIn (FR none) n P ops Q (i::rest) a w:=by
 have hxv:=(hs.inv hSt).opnd (a:=a) x;rw[hx]at hxv
 have hxe:a.eval x= .func (.yield l) #[] #[]:=by generalize a.eval x=q at hxv;cases hxv;rfl
 have hw:Region.wanted o (yielded ops a.tmps)=true:=by unfold Region.wanted;rw[hg]
 obtain⟨fn,tmps,assign,body,hrun,hR⟩:=hy;unfold wpOpsIn;simp only[ho,hw,if_true];refine⟨fun _ _=>trivial,?_⟩;show o.uponIn _ n P a _ Q ((execOp a.eval o).run P w)
 have:(execOp a.eval o).run P w= .ok (.round l fn tmps assign body) w:=by
  simp[execOp,hop,resolve,hcal,hxe,Deferred.ofValue,invoke,hrun]
 rw[this];refine⟨fun h=>(by cases h),?_⟩;have hR2:RoundIn (FR none) (n-1) P l fn tmps assign body w R:=hR;refine hR2.mono ?_;intro e w' he;obtain⟨rfl,h⟩:=hK e w' he;exact h
def aFx (ts te ty ti tb:TypeId):Code:=
 (Code.region 0
      #[{dst:=some 4,op:=Op.load ts (Operand.tmp 1),type:=ts,pos:= "iter.go:28",after:= #[],
         guard:=none},
       {dst:=some 5,
        op:=Op.call {callee:=Callee.builtin Builtin.len,args:= #[Operand.tmp 4],argTypes:= #[ts]},
        type:=ti,pos:= "iter.go:28",after:= #[{on:=0,ground:=Ground.data}],guard:=none},
       {dst:=some 6,op:=Op.binOp BinOp.sub ti (Operand.tmp 5) (Operand.const (Value.int IntKind.i64 1)) ti,
        type:=ti,pos:= "iter.go:28",after:= #[{on:=1,ground:=Ground.data}],guard:=none},
       {dst:=some 3,op:=Op.assign (Operand.tmp 6),type:=ti,pos:= "iter.go:28",
        after:=
          #[{on:=2,ground:=Ground.data},{on:=0,ground:=Ground.phase},
            {on:=1,ground:=Ground.phase},{on:=2,ground:=Ground.phase}],
        guard:=none}]
      false).seq
    (Code.block 0
     (((Code.region 1
           #[{dst:=some 7,op:=Op.move (Operand.tmp 3),type:=ti,pos:= "iter.go:28",after:= #[],
              guard:=none},
            {dst:=some 8,
             op:=Op.binOp BinOp.geq ti (Operand.tmp 7) (Operand.const (Value.int IntKind.i64 0)) ti,
             type:=tb,pos:= "iter.go:28",after:= #[{on:=0,ground:=Ground.data}],
             guard:=none}]
           false).seq
         (Code.cond (Operand.tmp 8) Code.skip (Code.exit 0))).seq
       ((Code.block 1
          ((Code.region 3
             #[{dst:=some 11,op:=Op.move (Operand.tmp 0),type:=ty,pos:= "iter.go:29",
                after:= #[],guard:=none},
              {dst:=some 12,op:=Op.move (Operand.tmp 3),type:=ti,pos:= "iter.go:29",
               after:= #[],guard:=none},
              {dst:=some 13,op:=Op.load ts (Operand.tmp 1),type:=ts,pos:= "iter.go:29",
               after:= #[],guard:=none},
              {dst:=some 14,op:=Op.move (Operand.tmp 3),type:=ti,pos:= "iter.go:29",
               after:= #[],guard:=none},
              {dst:=some 15,op:=Op.indexAddr ts (Operand.tmp 13) (Operand.tmp 14),type:=0,
               pos:= "iter.go:29",
               after:= #[{on:=2,ground:=Ground.data},{on:=3,ground:=Ground.data}],
               guard:=none},
              {dst:=some 16,op:=Op.load te (Operand.tmp 15),type:=te,pos:= "iter.go:29",
               after:= #[{on:=4,ground:=Ground.data}],guard:=none},
              {dst:=some 17,
               op:=
                 Op.call
                   {callee:=Callee.value (Operand.tmp 11),args:= #[Operand.tmp 12,Operand.tmp 16],
                    argTypes:= #[ti,te]},
               type:=tb,pos:= "iter.go:29",
               after:=
                 #[{on:=0,ground:=Ground.data},{on:=1,ground:=Ground.data},
                   {on:=5,ground:=Ground.data}],
               guard:=none},
              {dst:=some 18,op:=Op.unOp UnOp.not tb (Operand.tmp 17),type:=tb,pos:= "iter.go:29",
               after:= #[{on:=6,ground:=Ground.data}],guard:=none}]
             false).seq
           (Code.cond (Operand.tmp 18) Code.ret Code.skip))).seq
        (Code.region 2
         #[{dst:=some 9,op:=Op.move (Operand.tmp 3),type:=ti,pos:= "iter.go:28",after:= #[],
            guard:=none},
          {dst:=some 10,
           op:=Op.binOp BinOp.sub ti (Operand.tmp 9) (Operand.const (Value.int IntKind.i64 1)) ti,type:=ti,
           pos:= "iter.go:28",after:= #[{on:=0,ground:=Ground.data}],guard:=none},
          {dst:=some 3,op:=Op.assign (Operand.tmp 10),type:=ti,pos:= "iter.go:28",
           after:=
             #[{on:=1,ground:=Ground.data},{on:=0,ground:=Ground.phase},
               {on:=1,ground:=Ground.phase}],
           guard:=none}]
         false))).loop)
def oF (n:Nat) (el:Nat→LV):List (List LV):=(List.range n).map fun k=>[.lit (.int .i64 ((n-1-k:Nat):Int)),el (n-1-k)]
theorem mH {n:Nat}{el:Nat→LV}:(oF n el).length=n:=by simp[oF]
theorem zY {n:Nat}{el:Nat→LV}{k:Nat}(h:k<n):(oF n el)[k]? =some [.lit (.int .i64 ((n-1-k:Nat):Int)),el (n-1-k)]:=by
 simp[oF,h]
abbrev bst (l n:Nat) (cs:List LV) (i:Int):LS:=⟨19,lk [(0,.lit (.func (.yield l) #[] #[])),(1,.ro [.sl n cs]),(3,.lit (.int .i64 i))],fun _=>none,0⟩
def bNg:Value→Int
 | .int _ i=>i
 |_=>0
theorem oE.put {St:Nat→Prop}{s:LS}{a:Act}{w:World}(h:oE St s a w) (hSt:∀ g,St g→g<w.heap.size) {d:Nat}(hd:d<s.n) {x:LV}{v:Value}(hx:Rep St w.heap (fun _=>none) x v):oE St (s.put (some d) x) (a.put (some d) v) w:=by
 have:=(h.inv hSt).putD (d:=some d) hx (fun t ht=>by cases ht;exact hd) a.defers;exact⟨h.1,h.2.1,this.sz,this.frame⟩
theorem aK7 {P:Program}[Laid P] {St:Nat→Prop}{w:World}(hSt:∀ g,St g→g<w.heap.size) (hL:fN P St w.heap) {r:Option Nat}{n id:Nat}{ops:Array Oper}{Q:Exit→Act→World→Prop}{K:LS→Prop}{s:LS}{a:Act}
  (hs:oE St s a w) (h:bUp P ops.toList s K) (hQ:∀ s' a',K s'→oE St s' a' w→Q .normal a' w):(Code.region id ops false).wpIn (FR r) n P Q a w:=by
 refine wpIn_region ?_;have:=sO (r:=r) (n:=n) (ops:=ops) (Q:=Q) (tail:=[]) hSt hL ops.toList 0 (fun j o hj=>by simpa using hj) h hs (fun s' a' hk hs'=>hQ s' a' hk hs');rw[List.append_nil,Array.length_toList,← List.range_eq_range']at this
 exact this
theorem oE.cond {St:Nat→Prop}{s:LS}{a:Act}{w:World}(h:oE St s a w) {t:Nat}{v:Value}(ht:s.f t= .lit v):a.eval (.tmp t)=v:=by
 have:=h.2.2.2 t;rw[ht]at this
 show a.tmps.getD t undef=v;generalize a.tmps.getD t undef=q at this
 cases this;rfl
theorem aYs {P:Program}[Laid P] {f:FuncId}{fn:Func}{ts te ty ti tb:TypeId}{sz n:Nat}{cs:List LV}{el:Nat→LV}(hf:P.funcs[f]? =some fn) (hb:fn.body=some (aFx ts te ty ti tb)) (hname:fn.name≠ "runtime.NumGoroutine") (hnt:fn.ntmps=19) (hrs:fn.results= #[])
  (hts:bF P ts=some false) (hts2:aL P ts=some 1) (hel:aZ P ts=some te) (hsz:aL P te=some sz) (hn:n≤4611686018427387904) (hfe:∀ j,j<n→fetch P te (cs.drop (j*sz))=some (el j)):uX P f [.ro [.sl n cs]] (oF n el):=by
 refine⟨⟨fn,hf,hname,by rw[hb];rfl⟩,fun N W St lb l J hSt hL hcap h0 hY=> ?_⟩;have hlay:∀ W1:World,(∀ g,St g→W1.heap[g]? =W.heap[g]?)→fN P St W1.heap:=fun W1 hk=>hL.same (fun _ h=>h) hk
 have hStl:∀ W1:World,(∀ g,St g→W1.heap[g]? =W.heap[g]?)→∀ g,St g→g<W1.heap.size:=fun W1 hk g hg=>by
  have h1:=hSt g hg;have h2:=hk g hg;rw[Array.getElem?_eq_getElem h1]at h2
  exact(Array.getElem?_eq_some_iff.1 h2).1
 obtain⟨hl1,hcapr⟩:=hcap
 obtain⟨u,rfl⟩:∃ u,lb=[u]:=by
  match lb,hl1 with
  |[u],_=>exact⟨u,rfl⟩
 have hu:Rep St W.heap (fun _=>none) (.ro [.sl n cs]) u:=hcapr 0 _ _ rfl rfl;have hlen:aZ P ts=some te:=hel;refine callsIn_of_wp hf hb trivial ?_ rfl;show(aFx ts te ty ti tb).wpIn (FR none) N P _ _ _
 have hfr0:oE St ⟨19,lk [(0,.lit (.func (.yield l) #[] #[])),(1,.ro [.sl n cs])],fun _=>none,0⟩ {tmps:=(#[Value.func (.yield l) #[] #[]]++[u].toArray)++Array.replicate (fn.ntmps-(#[Value.func (.yield l) #[] #[]]++[u].toArray).size) undef,defers:=[]} W:=by
  refine⟨rfl,rfl,by simp[hnt],fun i=> ?_⟩;rw[hnt];refine aBc (Q:=fun i v=>Rep St W.heap (fun _=>none) v (((#[Value.func (.yield l) #[] #[]]++[u].toArray)++Array.replicate (19-(#[Value.func (.yield l) #[] #[]]++[u].toArray).size) undef).getD i undef)) (fun _=> .dead _) _ ?_ i;simp only[List.forall_mem_cons,List.not_mem_nil,false_imp_iff,implies_true,and_true];rw[Array.getD_eq_getD_getElem?,Array.getD_eq_getD_getElem?,Array.getElem?_append_left (by simp),Array.getElem?_append_left (by simp)];simp only[List.append_toArray,List.cons_append,List.nil_append,List.getElem?_toArray,List.getElem?_cons_zero,List.getElem?_cons_succ,Option.getD_some];refine⟨.lit _,?_⟩;rw[Array.getElem?_append_left (by simp)];exact hu
 generalize ({tmps:=(#[Value.func (.yield l) #[] #[]]++[u].toArray)++Array.replicate (fn.ntmps-(#[Value.func (.yield l) #[] #[]]++[u].toArray).size) undef,defers:=[]}:Act)=act at hfr0;unfold aFx;refine wpIn_seq (aK7 hSt hL hfr0 (K:=fun s'=>s'.n=19∧(s'.h=fun _=>none)∧s'.f 0= .lit (.func (.yield l) #[] #[])∧s'.f 1= .ro [.sl n cs]∧s'.f 3= .lit (.int .i64 ((n:Int)-1))) ?_ ?_)
 ·refine⟨rfl,rfl,4,.sl n cs,rfl,(show 4<19 by decide),?_,?_⟩
  ·simp[aF,mN,opnd,lk,fetch,hts,hts2]
  refine⟨rfl,rfl,5,.lit (.int .i64 n),rfl,(show 5<19 by decide),?_,?_⟩
  ·simp[bM7,hel,opnd,LS.put,dE,wZ]
  refine⟨rfl,rfl,6,.lit (.int .i64 ((n:Int)-1)),rfl,(show 6<19 by decide),?_,?_⟩
  ·simp(disch:=omega) only[smA,smB,smC,mN,jI,wZ,xN,jA,unV,fetch,zF,aEx,LS.put,tI,Nat.reduceEqDiff,Nat.reduceLT,decide_true,decide_false,↓reduceIte,beq_self_eq_true,reduceCtorEq,Option.map_some,Option.bind_some]
  refine⟨rfl,rfl,3,.lit (.int .i64 ((n:Int)-1)),rfl,(show 3<19 by decide),?_,?_⟩
  ·simp[aF,opnd,LS.put,dE]
  exact⟨rfl,rfl,rfl,rfl,rfl⟩
 intro s' a' hK hs'
 have hst:oE St (bst l n cs ((n:Int)-1)) a' W:=by
  obtain⟨n',F,h,nb⟩:=s';obtain⟨rfl,rfl,h3,h4,h5⟩:=hK;exact hs'.sub (by simp only[List.forall_mem_cons,List.not_mem_nil,false_imp_iff,implies_true,and_true];exact⟨h3,h4,h5⟩)
 show Code.wpIn _ _ _ _ _ _ _;refine wpIn_block (wpIn_loop (fun a w=>∃ k,k≤n∧oE St (bst l n cs ((n:Int)-1-k)) a w∧J k w∧∀ g,St g→w.heap[g]? =W.heap[g]?) (fun a _=>(bNg (a.tmps.getD 3 undef)+1).toNat) ⟨0,Nat.zero_le _,by simpa using hst,h0,fun _ _=>rfl⟩ ?_);rintro a w ⟨k,hk,hs,hJ,hkeep⟩;have hSt2:=hStl w hkeep;have hL2:=hlay w hkeep;refine wpIn_seq (wpIn_seq (aK7 hSt2 hL2 hs (K:=fun s'=>s'.n=19∧(s'.h=fun _=>none)∧s'.f 0= .lit (.func (.yield l) #[] #[])∧s'.f 1= .ro [.sl n cs]∧s'.f 3= .lit (.int .i64 ((n:Int)-1-k))∧s'.f 8= .lit (.bool (decide (k<n)))) ?_ ?_))
 ·refine⟨rfl,rfl,7,.lit (.int .i64 ((n:Int)-1-k)),rfl,(show 7<19 by decide),?_,?_⟩
  ·simp[aF,opnd,lk]
  refine⟨rfl,rfl,8,.lit (.bool (decide (k<n))),rfl,(show 8<19 by decide),?_,?_⟩
  ·simp(disch:=omega) only[smA,smB,smC,mN,jI,wZ,xN,jA,unV,fetch,zF,aEx,LS.put,tI,Nat.reduceEqDiff,Nat.reduceLT,decide_true,decide_false,↓reduceIte,beq_self_eq_true,reduceCtorEq,Option.map_some,Option.bind_some];simp only[ge_iff_le,Option.some.injEq,Eff.val.injEq,LV.lit.injEq,Value.bool.injEq,decide_eq_decide];omega
  exact⟨rfl,rfl,rfl,rfl,rfl,rfl⟩
 intro s1 a1 hK1 hs1;have he1:=hs1.cond hK1.2.2.2.2.2
 have hst1:oE St (bst l n cs ((n:Int)-1-k)) a1 w:=by
  obtain⟨n',F,h,nb⟩:=s1;obtain⟨rfl,rfl,h3,h4,h5,_⟩:=hK1;exact hs1.sub (by simp only[List.forall_mem_cons,List.not_mem_nil,false_imp_iff,implies_true,and_true];exact⟨h3,h4,h5⟩)
 show Code.wpIn _ _ _ _ _ _ _;by_cases hkn:k<n
 case neg=>
  rw[decide_eq_false hkn]at he1
  refine wpIn_cond_false he1 (wpIn_exit ?_);simp only[Exit.then,Exit.inBlock,↓reduceIte];obtain rfl:k=n:=by omega
  refine⟨hs1.1,.tuple #[],?_,⟨_,rfl⟩,?_⟩
  ·simp[results,hrs,go_sem]
  ·rw[mH];exact hJ
 rw[decide_eq_true hkn]at he1
 refine wpIn_cond_true he1 (wpIn_skip ?_);show Code.wpIn _ _ _ _ _ _ _;have hidx:((n:Int)-1-k)=((n-1-k:Nat):Int):=by omega
 refine wpIn_seq (wpIn_block (wpIn_seq (wpIn_region ?_)))
 refine sO (r:=none) (tail:=[6,7]) (K:=fun s'=>s'.n=19∧(s'.h=fun _=>none)∧s'.f 0= .lit (.func (.yield l) #[] #[])∧s'.f 1= .ro [.sl n cs]∧s'.f 3= .lit (.int .i64 ((n:Int)-1-k))∧s'.f 11= .lit (.func (.yield l) #[] #[])∧s'.f 12= .lit (.int .i64 ((n:Int)-1-k))∧s'.f 16=el (n-1-k)) hSt2 hL2
  [{dst:=some 11,op:=Op.move (Operand.tmp 0),type:=ty,pos:= "iter.go:29",after:= #[],guard:=none},
   {dst:=some 12,op:=Op.move (Operand.tmp 3),type:=ti,pos:= "iter.go:29",after:= #[],guard:=none},
   {dst:=some 13,op:=Op.load ts (Operand.tmp 1),type:=ts,pos:= "iter.go:29",after:= #[],guard:=none},
   {dst:=some 14,op:=Op.move (Operand.tmp 3),type:=ti,pos:= "iter.go:29",after:= #[],guard:=none},
   {dst:=some 15,op:=Op.indexAddr ts (Operand.tmp 13) (Operand.tmp 14),type:=0,pos:= "iter.go:29",after:= #[{on:=2,ground:=Ground.data},{on:=3,ground:=Ground.data}],guard:=none},
   {dst:=some 16,op:=Op.load te (Operand.tmp 15),type:=te,pos:= "iter.go:29",after:= #[{on:=4,ground:=Ground.data}],guard:=none}] 0 ?_ ?_ hst1 ?_
 ·intro j o hj
  match j with
  |0=>exact hj
  |1=>exact hj
  |2=>exact hj
  |3=>exact hj
  |4=>exact hj
  |5=>exact hj
  |j+6=>simp at hj
 ·refine⟨rfl,rfl,11,.lit (.func (.yield l) #[] #[]),rfl,(show 11<19 by decide),?_,?_⟩
  ·simp[aF,opnd,lk]
  refine⟨rfl,rfl,12,.lit (.int .i64 ((n:Int)-1-k)),rfl,(show 12<19 by decide),?_,?_⟩
  ·simp[aF,opnd,LS.put,dE,lk]
  refine⟨rfl,rfl,13,.sl n cs,rfl,(show 13<19 by decide),?_,?_⟩
  ·simp[aF,mN,opnd,LS.put,dE,lk,fetch,hts,hts2]
  refine⟨rfl,rfl,14,.lit (.int .i64 ((n:Int)-1-k)),rfl,(show 14<19 by decide),?_,?_⟩
  ·simp[aF,opnd,LS.put,dE,lk]
  refine⟨rfl,rfl,15,.ro (cs.drop ((n-1-k)*sz)),rfl,(show 15<19 by decide),?_,?_⟩
  ·simp[aF,xC,opnd,LS.put,dE,jI,hel,hsz];omega
  refine⟨rfl,rfl,16,el (n-1-k),rfl,(show 16<19 by decide),?_,?_⟩
  ·simp[aF,mN,opnd,LS.put,dE,hfe (n-1-k) (by omega)]
  exact⟨rfl,rfl,rfl,rfl,rfl,rfl,rfl,rfl⟩
 intro s2 a2 hK2 hs2;obtain⟨hn2,hh2,h20,h21,h23,h211,h212,h216⟩:=hK2
 have hargs:Reps St w.heap (fun _=>none) [.lit (.int .i64 ((n-1-k:Nat):Int)),el (n-1-k)] [a2.tmps.getD 12 undef,a2.tmps.getD 16 undef]:=by
  refine Reps.cons ?_ (Reps.cons ?_ Reps.nil)
  ·rw[← hidx,← h212];exact hs2.2.2.2 12
  ·rw[← h216];exact hs2.2.2.2 16
 refine aOr (l:=l) (x:= .tmp 11) (R:=fun e W2=>e= .returned (.bool true)∧J (k+1) W2∧∀ g,St g→W2.heap[g]? =w.heap[g]?) rfl rfl rfl rfl hs2 h211 hSt2 ?_ ?_
 ·have h3:=hY k _ [a2.tmps.getD 12 undef,a2.tmps.getD 16 undef] w (zY hkn) hJ hkeep hargs (N-1);simp only[List.map_toArray,List.map_cons,List.map_nil];exact h3
 rintro e w' ⟨rfl,hJ',hk'⟩;refine⟨rfl,?_⟩;have hkeep':∀ g,St g→w'.heap[g]? =W.heap[g]? :=fun g hg=>(hk' g hg).trans (hkeep g hg)
 have hSt3:=hStl w' hkeep';have hL3:=hlay w' hkeep';have hs3:=(hs2.world hk').put hSt3 (d:=17) (by rw[hn2];decide) (.lit (.bool true))
 have hmeas:∀ (a:Act) (i:Int),a.eval (.tmp 3)= .int .i64 i→bNg (a.tmps.getD 3 undef)=i:=fun a i h=>by
  have h2:a.tmps.getD 3 undef= .int .i64 i:=h;rw[h2];rfl
 have hm0:=hmeas a _ (hs.cond (t:=3) rfl);obtain⟨n',F,h,nb⟩:=s2;obtain rfl:n'=19:=hn2;obtain rfl:h=fun _=>none:=hh2
 refine sO (r:=none) (tail:=[]) (K:=fun s'=>s'.n=19∧(s'.h=fun _=>none)∧s'.f 0= .lit (.func (.yield l) #[] #[])∧s'.f 1= .ro [.sl n cs]∧s'.f 3= .lit (.int .i64 ((n:Int)-1-k))∧s'.f 18= .lit (.bool false)) hSt3 hL3
  [{dst:=some 18,op:=Op.unOp UnOp.not tb (Operand.tmp 17),type:=tb,pos:= "iter.go:29",after:= #[{on:=6,ground:=Ground.data}],guard:=none}] 7 ?_ ?_ hs3 ?_
 ·intro j o hj
  match j with
  |0=>exact hj
  |j+1=>simp at hj
 ·refine⟨rfl,rfl,18,.lit (.bool false),rfl,(show 18<19 by decide),?_,?_⟩
  ·simp[aF,opnd,LS.put,dE,unV]
  exact⟨rfl,rfl,h20,h21,h23,rfl⟩
 intro s4 a4 hK4 hs4;show Code.wpIn _ _ _ _ _ _ _;refine wpIn_cond_false (hs4.cond hK4.2.2.2.2.2) (wpIn_skip ?_);show Code.wpIn _ _ _ _ _ _ _
 have hst4:oE St (bst l n cs ((n:Int)-1-k)) a4 w':=by
  obtain⟨n',F,h,nb⟩:=s4;obtain⟨rfl,rfl,h3,h4,h5,_⟩:=hK4;exact hs4.sub (by simp only[List.forall_mem_cons,List.not_mem_nil,false_imp_iff,implies_true,and_true];exact⟨h3,h4,h5⟩)
 refine aK7 hSt3 hL3 hst4 (K:=fun s'=>s'.n=19∧(s'.h=fun _=>none)∧s'.f 0= .lit (.func (.yield l) #[] #[])∧s'.f 1= .ro [.sl n cs]∧s'.f 3= .lit (.int .i64 ((n:Int)-1-k-1))) ?_ ?_
 ·refine⟨rfl,rfl,9,.lit (.int .i64 ((n:Int)-1-k)),rfl,(show 9<19 by decide),?_,?_⟩
  ·simp[aF,opnd,lk]
  refine⟨rfl,rfl,10,.lit (.int .i64 ((n:Int)-1-k-1)),rfl,(show 10<19 by decide),?_,?_⟩
  ·simp(disch:=omega) only[smA,smB,smC,mN,jI,wZ,xN,jA,unV,fetch,zF,aEx,LS.put,tI,Nat.reduceEqDiff,Nat.reduceLT,decide_true,decide_false,↓reduceIte,beq_self_eq_true,reduceCtorEq,Option.map_some,Option.bind_some]
  refine⟨rfl,rfl,3,.lit (.int .i64 ((n:Int)-1-k-1)),rfl,(show 3<19 by decide),?_,?_⟩
  ·simp[aF,opnd,LS.put,dE]
  exact⟨rfl,rfl,rfl,rfl,rfl⟩
 intro s5 a5 hK5 hs5;have hm5:=hmeas a5 _ (hs5.cond (t:=3) hK5.2.2.2.2);refine⟨⟨k+1,by omega,?_,hJ',hkeep'⟩,?_⟩
 ·obtain⟨n',F,h,nb⟩:=s5;obtain⟨rfl,rfl,h3,h4,h5⟩:=hK5;have e:(n:Int)-1-((k+1:Nat):Int)=(n:Int)-1-k-1:=by omega
  rw[e];exact hs5.sub (by simp only[List.forall_mem_cons,List.not_mem_nil,false_imp_iff,implies_true,and_true];exact⟨h3,h4,h5⟩)
 ·rw[hm0,hm5];omega
end
end Go.Lg
namespace Go.Proofs.YtaidcaemdkncgaaGreatDoor
section
open Go Go.Lg Go.Num
attribute [local irreducible] lrun lwp exThen exBlk keep goodPost mutPost rlwp
def dD (q:Rat):List LV:=[bl (decide (q.num<0)),dg (aC q.num.natAbs),bl false,dg (aC q.den)]
def encF (f:List Rat):LV:= .sl f.length (f.flatMap dD)
theorem zZ (q:Rat):∀ c∈dD q,aB c=true:=by
 simp[dD,aB,bl,dg]
theorem aBs:∀ (f:List Rat) (j:Nat),(f.flatMap dD).drop (j*4)=(f.drop j).flatMap dD
 |[],j=>by simp
 |q::f,0=>by simp
 |q::f,j+1=>by
  rw[show(j+1)*4=4+j*4 by omega,← List.drop_drop,List.drop_succ_cons,← aBs f j];rfl
theorem aSi {f:List Rat}{j:Nat}(h:j<f.length):fetch Tryz.prog 47 ((f.flatMap dD).drop (j*4))=some (bG (f.getD j 0)):=by
 rw[aBs,List.drop_eq_getElem_cons h];have:f.getD j 0=f[j]:=by simp[h]
 rw[this];simp only[fetch,tyA,List.flatMap_cons];simp[dD,bG]
theorem aHx (n:Nat) (cs:List LV):PGd 221 [.sl n cs] (.fn 278 [.ro [.sl n cs]]):=by
 refine aA aV Tryz.func221 rfl (by decide) (nt:=4) rfl (rs:=[.tmp 2]) rfl (aW rfl) ?_;refine aM ?_;apply dI
 case hres=>(simp only[gW];simp(disch:=first|omega|exact kD rfl|exact kX rfl) only[smY,simprocAttr,bl,u32,u64,i64];exact rfl)
 rfl
theorem aYt (f:List Rat) (h:f.length≤4611686018427387904):uX Tryz.prog 278 [.ro [.sl f.length (f.flatMap dD)]] (oF f.length fun j=>bG (f.getD j 0)):=
 aYs (sz:=4) Tryz.func278 rfl (by decide) rfl rfl (by simp only[tyA]) (by simp only[tyA]) (by simp only[tyA]) (by simp only[tyA]) h (fun j hj=>aSi hj)
def hor (f:List Rat) (x:Rat):Rat:=f.foldr (fun c acc=>acc*x+c) 0
theorem aI5 (f:List Rat) (x:Rat) (hlen:f.length≤4611686018427387904) (hx:lq x≤34359738368) (hf:∀ c∈f,lq c≤34359738368) (hh:∀ k,lq (hor (f.drop k) x)≤34359738368) (hm:∀ k,lq (hor (f.drop k) x*x)≤34359738368):
  PGd 131 [encF f,bG x] (bG (hor f x)):=by
 have h0:=iG 0 (by omega);rw[show((0:Int):Rat)=0 from rfl]at h0
 have hbk:=aHx f.length (f.flatMap dD);simp only[encF,bG,bl,i64]at h0⊢;refine aHw aV Tryz.func131 rfl (by decide) (by kernel_rfl) (nt:=19) rfl (rs:=[.cell 4 47]) rfl (aW rfl) ?_;refine bNf ?_;refine aM ?_;refine bNf ?_;refine vZ ?_;refine bUo ?_;refine vZ ?_;refine cD1 (st 19 (lk [(3,.ptr 0 0),(4,.ptr 1 0),(5,.ptr 2 0),(10,.fn 278 [.ro [.sl f.length (f.flatMap dD)]])]) (cG [(0,⟨47,dD x,false⟩),(1,⟨47,[bl false,.lit (.slice none 0 0),bl false,.lit (.slice none 0 0)],false⟩),(2,⟨47,dD 0,false⟩)]) 3) ?_ ?_
 ·(refine fY [0,1,3] ?_ ?_ ?_;all_goals(first|(simp only[aB,aI,simprocAttr,bl,u32,u64,i64];done) |(simp only[aI,simprocAttr,bl,u32,u64,i64];try((repeat' apply And.intro);all_goals rfl)) |skip))
  ·exact⟨rfl,trivial,rfl⟩
  ·exact⟨zZ x,by simp[aB],zZ 0⟩
 refine bKp rfl rfl (aYt f hlen) (fun x hx=> ?_) rfl (by kernel_rfl) (fun k=>cG [(0,⟨47,dD x,false⟩),(1,⟨47,[bl false,.lit (.slice none 0 0),bl false,.lit (.slice none 0 0)],false⟩),(2,⟨47,dD (hor (f.drop (f.length-k)) x),false⟩)]) ?_ ?_ ?_
 ·simp only[oF,List.mem_map]at hx;obtain⟨_,_,rfl⟩:=hx;rfl
 ·simp[hor]
 ·intro k args hk
  have hkl:k<f.length:=by
   have:=(List.getElem?_eq_some_iff.1 hk).1
   rwa [mH]at this
  rw[zY hkl]at hk
  cases hk
  have hst:hor (f.drop (f.length-(k+1))) x=hor (f.drop (f.length-k)) x*x+f.getD (f.length-1-k) 0:=by
   have e1:f.length-(k+1)=f.length-1-k:=by omega
   have e2:f.length-k=f.length-1-k+1:=by omega
   have e3:f.length-1-k<f.length:=by omega
   have e4:f.getD (f.length-1-k) 0=f[f.length-1-k]:=by simp[e3]
   rw[e1,e2,List.drop_eq_getElem_cons e3,e4];rfl
  have hcl:lq (f.getD (f.length-1-k) 0)≤34359738368:=by
   have e3:f.length-1-k<f.length:=by omega
   have:f.getD (f.length-1-k) 0=f[f.length-1-k]:=by simp[e3]
   rw[this];exact hf _ (List.getElem_mem _)
  have c1:=gS (hor (f.drop (f.length-k)) x) x (hh _) hx;have c2:=kZ (hor (f.drop (f.length-k)) x*x) (f.getD (f.length-1-k) 0) (hm _) hcl;rw[← hst]at c2
  generalize f.getD (f.length-1-k) 0=c at c2⊢;generalize hor (f.drop (f.length-(k+1))) x=z at c2⊢;generalize hor (f.drop (f.length-k)) x*x=yx at c1 c2⊢;generalize hor (f.drop (f.length-k)) x=y at c1⊢;simp only[dD,bG,bl,aC3,List.zip_cons_cons,List.zip_nil_right,List.foldl_cons,List.foldl_nil]at c1 c2⊢;refine vZ ?_;refine Sub.heapA ?_ ?_
  ·simp only[List.forall_mem_cons,List.not_mem_nil,false_imp_iff,implies_true,and_true];exact⟨⟨by decide,rfl⟩,⟨by decide,rfl⟩,⟨by decide,rfl⟩⟩
  ·simp[aB,dg]
 rw[mH,Nat.sub_self,List.drop_zero];generalize hor f x=z;simp only[dD,bl];refine aM ?_;refine cD2 ?_;exact lV
end
section
open Go Go.Lg Go.Num
def sg (z:Int):LV:=bl (decide (z<0))
def mg (z:Int):LV:=dg (aC z.natAbs)
theorem aY (z:Int):aO z= .agg [sg z,mg z]:=rfl
theorem aH (q:Rat):bG q= .agg [sg q.num,mg q.num,sg (q.den:Int),mg (q.den:Int)]:=by
 have h:¬(q.den:Int)<0:=by omega
 simp[bG,sg,mg,h]
theorem dR (q:Rat):dD q=[sg q.num,mg q.num,sg (q.den:Int),mg (q.den:Int)]:=by
 have h:¬(q.den:Int)<0:=by omega
 simp[dD,sg,mg,h]
theorem s1 {h:Nat→Option Blk}{ok:Nat→Bool}{k:Nat}(z:Int):pv h ok (k+1) (sg z)=some (sg z,[]):=rfl
theorem s2 {h:Nat→Option Blk}{ok:Nat→Bool}{k:Nat}(z:Int):pv h ok (k+1) (mg z)=some (mg z,[]):=rfl
theorem s3 (z:Int):one (sg z)=true:=rfl
theorem s4 (z:Int):one (mg z)=true:=rfl
theorem s5 (z:Int):cellsOf (sg z)=some [sg z]:=rfl
theorem s6 (z:Int):cellsOf (mg z)=some [mg z]:=rfl
theorem s7 (nb:Nat) (ρ:Nat→Nat) (z:Int):renL nb ρ (sg z)=some (sg z):=by simp[sg,bl,renL]
theorem s8 (nb:Nat) (ρ:Nat→Nat) (z:Int):renL nb ρ (mg z)=some (mg z):=by simp[mg,dg,renL]
theorem s9 (z:Int):aB (sg z)=true:=rfl
theorem s10 (z:Int):aB (mg z)=true:=rfl
theorem sg0:sg 0= .lit (.bool false):=rfl
def smS:=nd @s1 (nd @s2 (nd s3 (nd s4 (nd s5 (nd s6 (nd s7 (nd s8 (nd s9 s10))))))))
end
section
open Go Go.Lg Go.Num
attribute [local irreducible] lrun lwp exThen exBlk keep goodPost sg mg
theorem wG:PGd 237 [i64 1] (aO 1):=qW 1 (by omega)
theorem aI6 (n:Int) (h: -9223372036854775808≤n∧n≤9223372036854775807):PGd 238 [i64 n] (bG n):=by
 have h1:=qW n h;have h2:=wG;rw[aH,Rat.num_intCast,Rat.den_intCast,Int.natCast_one];rw[aY,i64]at*
 refine aA aV Tryz.func238 rfl (by decide) (nt:=7) rfl (rs:=[.cell 2 47]) rfl (aW rfl) ?_;refine zA5 ?_;exact zQ3
theorem aC4 (n:Int) (h:len n≤1099511627776):PGd 151 [aO n] (bG n):=by
 have h1:=fG n h;have h2:=wG;rw[aH,Rat.num_intCast,Rat.den_intCast,Int.natCast_one];rw[aY]at*
 rw[i64]at*
 refine aA aV Tryz.func151 rfl (by decide) (nt:=7) rfl (rs:=[.cell 2 47]) rfl (aW rfl) ?_;refine zA5 ?_;exact zQ3
theorem oG (n d:Int) (hn:len n≤137438953472) (hd:len d≤137438953472):PGd 157 [aO n,aO d] (bG (Rat.divInt n d)):=by
 have hs:=sM d (by omega);by_cases h0:d=0
 ·subst h0;rw[Rat.divInt_zero];have hz:=aI6 0 (by omega);rw[show((0:Int):Rat)=0 from rfl]at hz
  rw[Int.sign_zero]at hs
  simp only[aY,aH,i64]at*;refine aA aV Tryz.func157 rfl (by decide) (nt:=33) rfl (rs:=[.cell 4 47]) rfl (aW rfl) ?_;refine zA5 ?_;exact zQ3
 have hp:=mX (n:=n) h0;have hg0:Int.gcd n d≠0:=fun e=>h0 (Int.gcd_eq_zero_iff.1 e).2
 have hgn:((Int.gcd n d:Nat):Int)∣n:=Int.gcd_dvd_left ..;have hgl:len ((Int.gcd n d:Nat):Int)≤137438953472:=Nat.le_trans (xU (x:=n) (y:=d) (by omega)) (by omega);have hg:=aYr n d (by omega) (by omega);have hng:=aBq ((Int.gcd n d:Nat):Int) (by omega);have h1:=wG;have hnn:=fG n (by omega);have hnd:=fG d (by omega);generalize hG:(Int.gcd n d:Nat)=g at*;by_cases hneg:d<0
 ·rw[Int.sign_eq_neg_one_of_neg hneg]at hs
  rw[if_pos hneg]at hp
  have hlg:len (-(g:Int))≤137438953472:=by rw[mW];exact hgl
  have hdn:=wF n (-(g:Int)) (by omega) (by omega) hlg;have hdd:=wF d (-(g:Int)) (by omega) (by omega) hlg;have hsm:=aFt (-(g:Int)) 1 (by omega) (by decide+kernel);rw[show decide (-(g:Int)=1)=false by simp;omega]at hsm
  have e1:n / (-(g:Int))=(Rat.divInt n d).num:=by rw[hp.1,Int.ediv_neg,Int.neg_ediv_of_dvd hgn]
  have e2:d / (-(g:Int))=((Rat.divInt n d).den:Int):=by
   rw[hp.2,Int.ediv_neg];have hgd:(g:Int)∣d:=by rw[← hG];exact Int.gcd_dvd_right ..
   rw[← Int.neg_ediv_of_dvd hgd];congr 1;omega
  rw[e1]at hdn
  rw[e2]at hdd
  simp only[aY,aH,i64]at*;clear hp e1 e2;refine aA aV Tryz.func157 rfl (by decide) (nt:=33) rfl (rs:=[.cell 4 47]) rfl (aW rfl) ?_;refine zA5 ?_;exact zQ3
 ·have hpos:0<d:=by omega
  rw[Int.sign_eq_one_of_pos hpos]at hs
  rw[if_neg hneg,Int.natAbs_of_nonneg (by omega)]at hp
  have hsm:=aFt (g:Int) 1 (by omega) (by decide+kernel);by_cases hg1:(g:Int)=1
  ·rw[hg1,Int.ediv_one,Int.ediv_one]at hp
   rw[hg1]at hg hsm
   rw[aH,hp.1,hp.2];simp only[aY,i64]at*;refine aA aV Tryz.func157 rfl (by decide) (nt:=33) rfl (rs:=[.cell 4 47]) rfl (aW rfl) ?_;refine zA5 ?_;exact zQ3
  ·have hdn:=wF n (g:Int) (by omega) (by omega) hgl;have hdd:=wF d (g:Int) (by omega) (by omega) hgl;rw[← hp.1]at hdn
   rw[← hp.2]at hdd
   rw[show decide ((g:Int)=1)=false by simp;omega]at hsm
   simp only[aY,aH,i64]at*;clear hp;refine aA aV Tryz.func157 rfl (by decide) (nt:=33) rfl (rs:=[.cell 4 47]) rfl (aW rfl) ?_;refine zA5 ?_;exact zQ3
theorem eN (q:Rat) (h:lq q≤137438953472):PGd 156 [bG q] (bG q):=by
 have h1:=oG q.num q.den (by unfold lq at h;omega) (by unfold lq at h;omega);rw[aC1]at h1
 simp only[aY,aH]at*;refine aA aV Tryz.func156 rfl (by decide) (nt:=8) rfl (rs:=[.cell 2 47]) rfl (aW rfl) ?_;refine zA5 ?_;exact zQ3
theorem aSj (q:Rat) (h:lq q≤137438953472):PGd 249 [bG q] (bG (-q)):=by
 have h0:=aBq q.num (by unfold lq at h;omega);have h1:=oG (-q.num) q.den (by rw[mW];unfold lq at h;omega) (by unfold lq at h;omega);rw[← aC0]at h1
 simp only[aY,aH]at*;refine aA aV Tryz.func249 rfl (by decide) (nt:=9) rfl (rs:=[.cell 2 47]) rfl (aW rfl) ?_;refine zA5 ?_;exact zQ3
theorem lC (p q:Rat) (hp:lq p≤34359738368) (hq:lq q≤34359738368):PGd 69 [bG p,bG q] (bG (p+q)):=by
 have n1:=eN p (by omega);have n2:=eN q (by omega);unfold lq at hp hq;have h1:=fU p.num q.den (by omega) (by omega);have h2:=fU q.num p.den (by omega) (by omega);have l1:=cJ p.num (q.den:Int);have l2:=cJ q.num (p.den:Int);have l3:=sH (p.num*q.den) (q.num*p.den);have l4:=cJ (p.den:Int) (q.den:Int);have h3:=qY (p.num*q.den) (q.num*p.den) (by omega) (by omega);have h4:=fU p.den q.den (by omega) (by omega);have h5:=oG (p.num*q.den+q.num*p.den) (p.den*q.den) (by omega) (by omega);rw[← yA]at h5
 simp only[aY,aH]at*;refine aA aV Tryz.func69 rfl (by decide) (nt:=28) rfl (rs:=[.cell 4 47]) rfl (aW rfl) ?_;refine zA5 ?_;exact zQ3
theorem aFz (p q:Rat) (hp:lq p≤34359738368) (hq:lq q≤34359738368):PGd 161 [bG p,bG q] (bG (p-q)):=by
 have h1:=aSj q (by omega);have h2:=lC p (-q) hp (by rw[aR7];exact hq);rw[← Rat.sub_eq_add_neg]at h2
 simp only[aH]at*;refine aA aV Tryz.func161 rfl (by decide) (nt:=9) rfl (rs:=[.cell 4 47]) rfl (aW rfl) ?_;refine zA5 ?_;exact zQ3
theorem eB (p q:Rat) (hp:lq p≤34359738368) (hq:lq q≤34359738368):PGd 150 [bG p,bG q] (bG (p*q)):=by
 unfold lq at hp hq;have h1:=fU p.num q.num (by omega) (by omega);have h2:=fU p.den q.den (by omega) (by omega);have l1:=cJ p.num q.num;have l4:=cJ (p.den:Int) (q.den:Int);have h5:=oG (p.num*q.num) (p.den*q.den) (by omega) (by omega);rw[← yB]at h5
 simp only[aY,aH]at*;refine aA aV Tryz.func150 rfl (by decide) (nt:=16) rfl (rs:=[.cell 4 47]) rfl (aW rfl) ?_;refine zA5 ?_;exact zQ3
theorem aOs (p q:Rat) (hp:lq p≤34359738368) (hq:lq q≤34359738368):PGd 160 [bG p,bG q] (bG (p / q)):=by
 have n1:=eN p (by omega);have n2:=eN q (by omega);unfold lq at hp hq;have h1:=fU p.num q.den (by omega) (by omega);have h2:=fU p.den q.num (by omega) (by omega);have l1:=cJ p.num (q.den:Int);have l4:=cJ (p.den:Int) q.num;have h5:=oG (p.num*q.den) (p.den*q.num) (by omega) (by omega);rw[← aFq]at h5
 simp only[aY,aH]at*;refine aA aV Tryz.func160 rfl (by decide) (nt:=22) rfl (rs:=[.cell 4 47]) rfl (aW rfl) ?_;refine zA5 ?_;exact zQ3
end
end Go.Proofs.YtaidcaemdkncgaaGreatDoor
