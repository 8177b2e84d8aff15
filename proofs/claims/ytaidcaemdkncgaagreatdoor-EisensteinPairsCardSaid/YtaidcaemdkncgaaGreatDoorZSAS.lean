/- Contracts of functions of the program, and what proves them (texts: BC2 BC6 D2 D5 D7p D8p NumBC BC5 BC7 BC8 BC9 EAo E7e EA KS0). -/
import Derived.Test.YtaidcaemdkncgaaGreatDoorZSAP
import Derived.Test.YtaidcaemdkncgaaGreatDoorZSAQ
import Derived.Test.YtaidcaemdkncgaaGreatDoorZSAR
set_option linter.all false
set_option maxRecDepth 100000
set_option maxHeartbeats 8000000
namespace Go.Proofs.YtaidcaemdkncgaaGreatDoor
section
open Go Go.Lg Go.Num
theorem lO {h:Nat→Option Blk}{ok:Nat→Bool}{k:Nat}:∀ l:List (Option Rat),fM h ok (k+1) (oc l)=some (op l,[])
 |[]=>rfl
 |none::l=>by
  have e1:oc (none::l)= .lit (.bool false):: .lit (.slice none 0 0):: .lit (.bool false):: .lit (.slice none 0 0)::oc l:=rfl;rw[e1];simp only[jU,lO l,zG,aKi,Option.bind_some,Option.map_some]
  rfl
 |some q::l=>by
  have e1:oc (some q::l)=sg q.num::mg q.num::sg (q.den:Int)::mg (q.den:Int)::oc l:=by
    show dD q++oc l=_;rw[dR];rfl
  have e2:op (some q::l)=sg q.num::mg q.num::sg (q.den:Int)::mg (q.den:Int)::op l:=by
    show dD q++op l=_;rw[dR];rfl
  rw[e1,e2];simp only[jU,lO l,rZ (sQ _),rZ (sR _),Option.bind_some,Option.map_some];rfl
theorem iM {l:List (Option Rat)}{m:Nat}(h:m=l.length*4):(oc l).take m=oc l:=List.take_of_length_le (by rw[aB5];omega)
def nD (g t:List Rat):List Rat:=bQ (eX g (t.length+1-g.length) t)
theorem aGt {g t:List Rat}(h:t.length<g.length):nD g t=bQ t:=by
 unfold nD;rw[show t.length+1-g.length=0 by omega,eX]
theorem aGu (f:List Rat):tP (bQ f):=by
 obtain⟨n,hn⟩:∃ n,f.length=n:=⟨_,rfl⟩
 induction n generalizing f with
 |zero=>
  have:f=[]:=List.length_eq_zero_iff.1 hn;subst this;intro h
  simp[aJi]at h
 |succ n ih=>
  have e:f=f.take n++[f.getD n 0]:=by
    have h1:=List.take_succ_eq_append_getElem (l:=f) (i:=n) (by omega);have h2:f.getD n 0=f[n]:=by simp[List.getD,show n<f.length by omega]
    rw[h2,← h1,List.take_of_length_le (by omega)]
  have hl:(f.take n).length=n:=by rw[List.length_take];omega
  by_cases hz:f.getD n 0=0
  · rw[e,hz,kC];exact ih _ hl
  · rw[e,gT _ hz];intro _;simp only[List.length_append,List.length_cons,List.length_nil,Nat.add_sub_cancel];simpa[List.getD,hl]using hz
theorem iN (f:List Rat) (j:Nat):(bQ f).getD j 0=f.getD j 0:=by
 obtain⟨n,hn⟩:∃ n,f.length=n:=⟨_,rfl⟩
 induction n generalizing f with
 |zero=>
  have:f=[]:=List.length_eq_zero_iff.1 hn;subst this
  rfl
 |succ n ih=>
  have e:f=f.take n++[f.getD n 0]:=by
    have h1:=List.take_succ_eq_append_getElem (l:=f) (i:=n) (by omega);have h2:f.getD n 0=f[n]:=by simp[List.getD,show n<f.length by omega]
    rw[h2,← h1,List.take_of_length_le (by omega)]
  have hl:(f.take n).length=n:=by rw[List.length_take];omega
  by_cases hz:f.getD n 0=0
  · have e1:bQ f=bQ (f.take n):=by
      conv=>lhs;rw[e,hz]
      exact kC _
    rw[e1,ih _ hl];rcases Nat.lt_trichotomy j n with h |h |h
    · simp[List.getD,h]
    · subst h;rw[hz];simp[List.getD,hl]
    · have h3:(f.take n).length≤j:=by omega
      simp only[List.getD,List.getElem?_eq_none h3,List.getElem?_eq_none (show f.length≤j by omega)]
  · have e1:bQ f=f:=by
      conv=>lhs;rw[e]
      rw[gT _ hz,← e]
    rw[e1]
theorem rP (f:List Rat):(bQ f).length≤f.length:=by
 unfold bQ;rw[List.length_reverse];have h:=(List.dropWhile_sublist (l:=f.reverse) (· ==0)).length_le
 rwa [List.length_reverse]at h
theorem bLq {D:Int}{L:Nat}{f:List Rat}(hD:D≠0) (hK:len D≤60) (hL:L≤4000) (h:∀ j,mE D L (f.getD j 0)):aH5 f:=by
 intro q hq;obtain⟨j,hj,rfl⟩:=List.getElem_of_mem hq;have:=h j;rw[show f.getD j 0=f[j]by simp[List.getD,hj]]at this
 exact aGr (by have:=this.lq hD hK;omega)
attribute [local irreducible] lrun lwp exThen exBlk keep goodPost sg mg oc op
theorem bFi (F:List (Option Rat)) (g:List Rat) {D:Int}{L:Nat}(hD:D≠0) (hK:len D≤60) (hL:L≤3000) (hF:F.length≤500) (hf:∀ j,mE D L ((ov F).getD j 0)) (hq:∀ q,some q∈F→lq q≤100000) (hg:∀ b∈g,aGp b) (hg1:1≤g.length) (hg2:g.length≤500) (hm:g.getD (g.length-1) 0=1):
  ∃ Q:List Rat,PGd 230 [.sl F.length (op F),encF g] (.tup [encF Q,encF (nD g (bQ (ov F))),i64 0]):=by
 have lg:tP g:=fun _=>by rw[hm];decide
 have hsg:∀ c∈g,lq c≤100000:=fun c hc=>by
  rcases hg c hc with rfl |rfl |rfl
  all_goals decide+kernel
 have sgl:aH5 g:=fun c hc=>aGr (by
  rcases hg c hc with rfl |rfl |rfl
  all_goals decide+kernel)
 have gn1:=jQ g (by omega) hsg;rw[lI lg]at gn1
 have gn2:=aJn F (by omega) hq;have lt:=aGu (ov F);have ht:∀ j,mE D L ((bQ (ov F)).getD j 0):=fun j=>by rw[iN];exact hf j
 have htl:=rP (ov F);rw[aCa]at htl
 have st:=bLq hD hK (by omega) ht;generalize bQ (ov F)=t at*;by_cases hs:t.length<g.length
 ·have gd:=aPh t g lt st hs (by omega);refine⟨[],?_⟩;rw[aGt hs,lI lt];have e0:encF []= .sl 0 []:=by rw[bE];rfl
  rw[e0];simp only[bE,i64]at*;refine aA aV Tryz.func230 rfl (by decide) (nt:=21) rfl (rs:=[.tmp 4,.tmp 5,.tmp 6]) rfl (aW rfl) ?_;refine dP ?_;exact lU
 ·obtain⟨q',h1,h2,h3⟩:=aLx hD hK hg (t.length+1-g.length) L (List.replicate (t.length+1-g.length) none) t (by omega) ht (fun j h1 h2=>by rw[List.length_replicate]at h2;omega);obtain⟨Q,rfl,hQl⟩:=aJt (q:=q') (fun j hj=>h3 j (by omega));rw[List.length_map,List.length_replicate]at h2
  have hR:=kE g (t.length+1-g.length) t;have gd:=aTg t g Q (eX g (t.length+1-g.length) t) (t.length+1-g.length) lt st sgl hg1 (by omega) (by omega) (by omega) (by omega) (by rw[hm];decide) (by rw[hm];exact h1) (by omega) (by omega);refine⟨bQ Q,?_⟩;unfold nD;generalize bQ Q=tQ at*;generalize bQ (eX g (t.length+1-g.length) t)=tR at*;simp only[bE,i64]at*;refine aA aV Tryz.func230 rfl (by decide) (nt:=21) rfl (rs:=[.tmp 4,.tmp 5,.tmp 6]) rfl (aW rfl) ?_;refine dP ?_;exact lU
theorem aZt (q:Rat) (h:lq q≤100000):PGd 216 [bG q,bG q] (i64 0):=by
 have g1:=nL q q (by omega) (by omega);rw[Rat.sub_self]at g1
 have g2:=kY 0 (by decide+kernel);rw[show(0:Rat).num.sign=0 from rfl]at g2
 simp only[aH,i64]at*;refine aA aV Tryz.func216 rfl (by decide) (nt:=9) rfl (rs:=[.tmp 4]) rfl (aW rfl) ?_;refine dP ?_;exact lU
theorem bVi {n:Nat}(hn:n∈pF) (h1:1≤(dJ n).length-1) (h2:(dJ n).length≤13) (hm:(rz (dJ n)).getD ((dJ n).length-1) 0=1) (H:Nat→Option Blk):
  mP Tryz.prog 126 [.agg [.sl (dJ n).length (mJ (dJ n))]] H 10 (.tup [.ptr 40 0,i64 0]) (dE (dE H 10 (some ⟨101,[.sl (dJ n).length (mJ (dJ n))],false⟩)) 40 (some ⟨253,[.sl (dJ n).length (qc (rz (dJ n))),i64 ((dJ n).length-1:Nat)],false⟩)) 100:=by
 obtain⟨z1,z2⟩:=aLt hn;have r1:=iG 1 (by omega);have r2:=aZt 1 (by decide+kernel);have hl:=bX (dJ n);rw[bE,hl]at z2
 have e1:(((dJ n).length:Int)-1).toNat=(dJ n).length-1:=by omega
 have e2:((dJ n).length:Int)-1=(((dJ n).length-1:Nat):Int):=by omega
 refine lT aV Tryz.func126 rfl (by decide) (nt:=32) rfl (rs:=[.tmp 2,.tmp 3]) rfl (aW rfl) ?_;simp only[aH,i64]at*
 (repeat(first|apply zO (by decide+kernel)|apply zP (by decide+kernel)|(apply zS;(case h=>constructor<;>decide))|((first|apply cB rfl|apply aS|apply zT rfl (by decide) rfl);(case hs=>(simp(disch:=first|omega|exact kD rfl|exact kX rfl) only[smY,simprocAttr,bl,i64,smT,e1,e2,hm];exact rfl));first|refine bZ ?_|refine cA ?_|refine zq ?_|(case hg=>assumption))))
 exact⟨by simp only[gW];try rfl,rfl,by simp only[List.length_cons,List.length_nil];omega⟩
theorem aZu (F:List (Option Rat)) (g:List Rat) (Q R:List Rat) (hd:PGd 230 [.sl F.length (op F),encF g] (.tup [encF Q,encF R,i64 0])) (x:LV) (nb:Nat) (H:Nat→Option Blk) (b:Nat) (hb:H b=some ⟨253,[.sl g.length (qc g),x],false⟩):
  mP Tryz.prog 143 [.ptr b 0,.sl F.length (op F)] H nb (encF R) H (nb+100):=by
 refine lT aV Tryz.func143 rfl (by decide) (nt:=19) rfl (rs:=[.tmp 4]) rfl (aW rfl) ?_;simp only[bE,i64]at*;refine cZ hb ?_;exact⟨by simp only[gW];try rfl,rfl,by simp only[List.length_cons,List.length_nil];omega⟩
def cyB (n:Nat):Bool:=((dJ n).all fun z=>z==0 ||z==1 ||z== -1) && Nat.ble 2 (dJ n).length && Nat.ble (dJ n).length 13 && ((dJ n).getD ((dJ n).length-1) 0==1)
theorem bVj:pF.all cyB=true:=by decide+kernel
theorem tT {n:Nat}(h:n∈pF):(∀ b∈rz (dJ n),aGp b)∧2≤(dJ n).length∧(dJ n).length≤13∧(rz (dJ n)).getD ((dJ n).length-1) 0=1:=by
 have h1:=List.all_eq_true.1 bVj n h;unfold cyB at h1;simp only[Bool.and_eq_true,Nat.ble_eq,beq_iff_eq,List.all_eq_true,Bool.or_eq_true]at h1;obtain⟨⟨⟨h2,h3⟩,h4⟩,h5⟩:=h1;refine⟨fun b hb=> ?_,h3,h4,by rw[mK,h5];rfl⟩;obtain⟨z,hz,rfl⟩:=List.mem_map.1 hb;rcases h2 z hz with(rfl |rfl) |rfl
 ·exact .inr (.inl rfl)
 ·exact .inl rfl
 ·exact .inr (.inr rfl)
theorem xK {n:Nat}(hn:n∈pF) (F:List (Option Rat)) {D:Int}{L:Nat}(hD:D≠0) (hK:len D≤60) (hL:L≤3000) (hF:F.length≤500) (hf:∀ j,mE D L ((ov F).getD j 0)) (hq:∀ q,some q∈F→lq q≤100000):
  PGd 60 [.agg [.sl (dJ n).length (mJ (dJ n))],.sl F.length (op F)] (.tup [encF (nD (rz (dJ n)) (bQ (ov F))),i64 0]):=by
 obtain⟨c1,c2,c3,c4⟩:=tT hn;have hl:=bX (dJ n);obtain⟨Q,gd⟩:=bFi F (rz (dJ n)) hD hK hL hF hf hq c1 (by omega) (by omega) (by rw[hl];exact c4);have gh:=aZu F (rz (dJ n)) Q _ gd;rw[hl]at gh
 generalize nD (rz (dJ n)) (bQ (ov F))=R at*;have go:=bVi hn (by omega) c3 c4;have hop:=op_len F;simp only[bE,i64]at*;refine aA aV Tryz.func60 rfl (by decide) (nt:=19) rfl (rs:=[.tmp 4,.tmp 5]) rfl (aW rfl) ?_;refine bPb ?_;refine aGd rfl rfl rfl rfl (by decide) rfl (by simp(disch:=first|omega|exact kD rfl|exact kX rfl) only[smY,simprocAttr,bl,i64,smT,@op_take,op_len];try exact rfl) (go _) (by decide) ?_;refine bPb ?_;refine aGd (by simp only[List.size_toArray,List.length_cons,List.length_nil,Nat.reduceAdd,Nat.max_def,Nat.reduceLeDiff,↓reduceIte];exact rfl) rfl rfl rfl (by decide) rfl (by simp(disch:=first|omega|exact kD rfl|exact kX rfl) only[smY,simprocAttr,bl,i64,smT,@op_take,op_len];try exact rfl) (gh _ _ _ 40 (by simp(disch:=first|omega|exact kD rfl|exact kX rfl) only[smY,simprocAttr,bl,i64,smT,@op_take,op_len];try exact rfl)) (by decide) ?_;refine bPb ?_
 ((first|apply dI|apply dK);case hres=>(simp only[gW];simp(disch:=first|omega|exact kD rfl|exact kX rfl) only[smY,simprocAttr,bl,i64,smT,@op_take,op_len];exact rfl))
 simp(disch:=first|omega|exact kD rfl|exact kX rfl) only[smY,simprocAttr,bl,i64,smT,@op_take,op_len]
end
section
open Go Go.Lg Go.Num
theorem aZv (Q:List Rat):oc (Q.map some)=qc Q:=wO Q
theorem aZw (c b:Rat) (g r:List Rat) (i:Nat):gH c (b::g) r i=gH c g (r.set i (r.getD i 0-c*b)) (i+1):=rfl
theorem bFj (c:Rat) (r:List Rat) (i:Nat):gH c [] r i=r:=rfl
theorem aZx (g:List Rat) (k:Nat) (r:List Rat):eX g (k+1) r=eX g k (gH (r.getD (k+g.length-1) 0) g r k):=rfl
theorem aZy (g r:List Rat):eX g 0 r=r:=rfl
theorem div_one (q:Rat):q / 1=q:=by
 rw[Rat.div_def,show(1:Rat)⁻¹=1 by decide+kernel,Rat.mul_one]
theorem sZ {D:Int}{L M:Nat}{q:Rat}(h:mE D L q) (hD:D≠0) (hK:len D≤60) (hL:L+60≤M):lq q≤M:=by
 have:=h.lq hD hK;omega
def aLy (g:List Rat):Nat→List (Option Rat)→List Rat→List (Option Rat)
 |0,q,_=>q
 |k+1,q,r=>aLy g k (q.set k (some (r.getD (k+g.length-1) 0))) (gH (r.getD (k+g.length-1) 0) g r k)
theorem aZz (g:List Rat) (q:List (Option Rat)) (r:List Rat):aLy g 0 q r=q:=rfl
theorem aZ0 (g:List Rat) (k:Nat) (q:List (Option Rat)) (r:List Rat):aLy g (k+1) q r=aLy g k (q.set k (some (r.getD (k+g.length-1) 0))) (gH (r.getD (k+g.length-1) 0) g r k):=rfl
theorem aWf {D:Int}{g:List Rat}(hD:D≠0) (hK:len D≤60) (hg:∀ b∈g,aGp b):∀ (k L:Nat) (q:List (Option Rat)) (r:List Rat),L+k≤4000→(∀ j,mE D L (r.getD j 0))→(∀ j,k≤j→j<q.length→∃ x,q.getD j none=some x∧lq x≤5000)→
  (aLy g k q r).length=q.length∧∀ j,j<q.length→∃ x,(aLy g k q r).getD j none=some x∧lq x≤5000
 |0,L,q,r,_,_,hq=>⟨rfl,fun j hj=>hq j (Nat.zero_le _) hj⟩
 |k+1,L,q,r,hL,hr,hq=>by
  have hc:=hr (k+g.length-1);have hs:=aAk hc g r k hg (fun j _=>(hr j).mono (by omega)) (fun j _=>hr j)
  obtain⟨h1,h2⟩:=aWf hD hK hg k (L+1) (q.set k (some (r.getD (k+g.length-1) 0))) (gH (r.getD (k+g.length-1) 0) g r k) (by omega) hs (fun j j1 j2=>by
    rw[List.length_set]at j2
    by_cases e:k=j
    · subst e;exact⟨_,by simp[List.getD,j2],sZ hc hD hK (by omega)⟩
    · have:(q.set k (some (r.getD (k+g.length-1) 0))).getD j none=q.getD j none:=by simp[List.getD,List.getElem?_set,e]
      rw[this]
      exact hq j (by omega) j2)
  rw[List.length_set]at h1 h2
  exact⟨h1,h2⟩
attribute [local irreducible] lrun lwp exThen exBlk keep goodPost sg mg oc gH eX aLy mE
theorem aPi (X:LV) (hX:∃ n cs,X= .sl n cs) (t:List Rat) (gnN:jX Tryz.prog 72 [X] t.length 4 47 (qc t)) (lt:tP t) (g:List Rat) {Dn:Int}{L:Nat}(hD:Dn≠0) (hK:len Dn≤60) (hL:L≤3000) (htl:t.length≤500) (ht:∀ j,mE Dn L (t.getD j 0)) (hg:∀ b∈g,aGp b) (hg1:1≤g.length) (hg2:g.length≤500) (hm:g.getD (g.length-1) 0=1):
  ∃ Q:List Rat,PGd 70 [X,encF g] (.tup [encF Q,encF (nD g t)]):=by
 obtain⟨nX,cX,rfl⟩:=hX;have lg:tP g:=fun _=>by rw[hm];decide
 have hsg:∀ j,j<g.length→lq (g.getD j 0)≤5000:=fun j hj=>by
  have h1:g.getD j 0∈g:=by rw[show g.getD j 0=g[j]by simp[List.getD,hj]];exact List.getElem_mem hj
  rcases hg _ h1 with h |h |h
  all_goals rw[h];decide+kernel
 have gng:=vH g (by omega) (fun j hj=>by have:=hsg j hj;omega);rw[lI lg]at gng
 by_cases hs:t.length<g.length
 ·refine⟨[],?_⟩;rw[aGt hs,lI lt];have e0:encF []= .sl 0 []:=by rw[bE];rfl
  rw[e0];simp only[bE,i64]at*;refine aA aV Tryz.func70 rfl (by decide) (nt:=85) rfl (rs:=[.tmp 4,.tmp 5]) rfl (aW rfl) ?_;refine zA4 ?_;refine wB (by simp only[List.size_toArray,List.length_cons,List.length_nil,Nat.reduceAdd,Nat.max_def,Nat.reduceLeDiff,↓reduceIte];exact rfl) rfl rfl rfl (by decide) rfl (by simp(disch:=first|omega|exact kD rfl|exact kX rfl) only[smY,simprocAttr,bl,i64,smT,smO];try exact rfl) gnN (by simp[aB]) (by simp[dE]) ?_;refine zA4 ?_;exact zQ5
 ·obtain⟨D,hDl⟩:∃ D,D=t.length+1-g.length:=⟨_,rfl⟩;have gR:=vH (eX g D t) (by rw[kE];omega) (fun j _=>sZ (aGq hg D L t ht j) hD hK (by omega));have hRl:=kE g D t;have e1:nD g t=bQ (eX g D t):=by rw[hDl];rfl
  rw[e1];have hDz:((t.length:Int)-(g.length:Int)+1).toNat=D:=by omega
  obtain⟨qa,qb⟩:=aWf hD hK hg D L (List.replicate D none) t (by omega) ht (fun j h1 h2=>by rw[List.length_replicate]at h2;omega);rw[List.length_replicate]at qa qb
  obtain⟨Q,hQe,hQl⟩:=aJt (q:=aLy g D (List.replicate D none) t) (fun j hj=>by
   obtain⟨x,h1,_⟩:=qb j (by omega);rw[h1]
   exact fun e=>nomatch e)
  rw[qa]at hQl
  have hQs:∀ j,j<Q.length→lq (Q.getD j 0)≤100000:=fun j hj=>by
   obtain⟨x,h1,h2⟩:=qb j (by omega);rw[hQe]at h1
   have:Q.getD j 0=x:=by simpa[List.getD,hj]using h1
   rw[this];omega
  have gQ:=vH Q (by omega) hQs;refine⟨bQ Q,?_⟩;generalize bQ Q=tQ at*;generalize hR:eX g D t=R at*;generalize bQ R=tR at*;have hRl':R.length=t.length:=hRl;simp only[bE,i64]at*;rw[hQl]at gQ
  rw[hRl']at gR
  refine aA aV Tryz.func70 rfl (by decide) (nt:=85) rfl (rs:=[.tmp 4,.tmp 5]) rfl (aW rfl) ?_;refine zA4 ?_;refine wB (by simp only[List.size_toArray,List.length_cons,List.length_nil,Nat.reduceAdd,Nat.max_def,Nat.reduceLeDiff,↓reduceIte];exact rfl) rfl rfl rfl (by decide) rfl (by simp(disch:=first|omega|exact kD rfl|exact kX rfl) only[smY,simprocAttr,bl,i64,smT,smO];try exact rfl) gnN (by simp[aB]) (by simp[dE]) ?_;refine tW hDz ?_;refine aG (α:={x:Nat×List (Option Rat)×List Rat // x.1≤D∧x.2.1.length=D∧x.2.2.length=t.length∧(∀ j,mE Dn (L+(D-x.1)) (x.2.2.getD j 0))∧eX g x.1 x.2.2=R∧aLy g x.1 x.2.1 x.2.2=Q.map some}) (fun x=>st 85 (lk [(6,.own 0 0 t.length 4),(7,.sl g.length (qc g)),(8,.own 1 0 D 4),(9,i64 ((x.1.1:Int)-1))]) (cG [(0,⟨47,qc x.1.2.2,false⟩),(1,⟨47,oc x.1.2.1,false⟩)]) 2) (fun x=>x.1.1) ⟨(D,List.replicate D none,t),Nat.le_refl _,by simp,rfl,by simpa using ht,hR,hQe⟩ ?_ ?_
  ·(refine fY [8,20] ?_ ?_ ?_;all_goals(first|(simp only[aB,aI,simprocAttr,bl,i64,smT,smO,hDz];done) |(simp only[aI,simprocAttr,bl,i64,smT,smO,hDz];try((repeat' apply And.intro);all_goals rfl)) |skip))
   all_goals(first |done |((repeat' apply And.intro);all_goals(first |trivial |rfl |(simp only[LV.lit.injEq,Value.int.injEq,true_and];omega))) |trace_state)
  ·rintro⟨⟨k,q,r⟩,hk,hq,hr,hfr,hdr,hdq⟩;simp only at hk hq hr hfr hdr hdq;simp only[st];by_cases hk0:k=0
   ·subst hk0;rw[aZy]at hdr
    rw[aZz]at hdq
    subst hdr hdq;rw[aZv];refine zA4 ?_;exact zQ5
   ·obtain⟨k,rfl⟩:∃ j,k=j+1:=⟨k-1,by omega⟩;rw[aZx]at hdr
    rw[aZ0]at hdq
    have la:=sZ (hfr (k+g.length-1)) hD hK (M:=5000) (by omega);have gq:=aOs (r.getD (k+g.length-1) 0) (g.getD (g.length-1) 0) (by omega) (by rw[hm];decide+kernel);rw[hm,div_one]at gq
    have hca:=hfr (k+g.length-1);obtain⟨M,hM⟩:∃ M,M=L+(D-(k+1)):=⟨_,rfl⟩;have hM1:L+(D-k)=M+1:=by omega
    rw[← hM]at hfr hca
    have hset:=lH (l:=q) (j:=k) (by omega) (r.getD (k+g.length-1) 0);have hql:(q.set k (some (r.getD (k+g.length-1) 0))).length=D:=by simp[hq]
    have hk1:((k+1:Nat):Int)-1=k:=by omega
    generalize hc:r.getD (k+g.length-1) 0=c at*;generalize hr':gH c g r k=r' at*;simp only[aH,i64]at gq
    (repeat(first|apply zO (by decide+kernel)|apply zP (by decide+kernel)|(apply zS;(case h=>constructor<;>decide))|((first|apply cB rfl|apply aS|apply zT rfl (by decide) rfl);(case hs=>(simp(disch:=first|omega|exact kD rfl|exact kX rfl) only[smY,simprocAttr,bl,i64,smT,smO,hc,hk1,hset,hm];exact rfl));first|refine bZ ?_|refine cA ?_|refine zq ?_|(case hg=>assumption))))
    refine aG (α:={x:Nat×List Rat // x.1≤g.length∧x.2.length=t.length∧(∀ j,j<k+x.1→mE Dn (M+1) (x.2.getD j 0))∧(∀ j,k+x.1≤j→mE Dn M (x.2.getD j 0))∧gH c (g.drop x.1) x.2 (k+x.1)=r'}) (fun x=>st 85 (lk [(6,.own 0 0 t.length 4),(7,.sl g.length (qc g)),(8,.own 1 0 D 4),(9,i64 k),(10,.ptr 2 0),(11,i64 x.1.1)]) (cG [(0,⟨47,qc x.1.2,false⟩),(1,⟨47,oc (q.set k (some c)),false⟩),(2,⟨47,[sg (c).num,mg (c).num,sg ((c).den:Int),mg ((c).den:Int)],false⟩)]) 3) (fun x=>g.length-x.1.1) ⟨(0,r),by simp,hr,fun j _=>(hfr j).mono (by omega),fun j _=>hfr j,by simpa using hr'⟩ ?_ ?_
    ·exact zL1 [0,1,19]
    ·rintro⟨⟨j,y⟩,hj,hy,fy1,fy2,hsub⟩;simp only at hj hy fy1 fy2 hsub;simp only[st];by_cases hlt:j<g.length
     ·rw[List.drop_eq_getElem_cons hlt,aZw]at hsub
      have hgj:g.getD j 0=g[j]:=by simp[hlt]
      have hbm:=hg _ (List.getElem_mem hlt);rw[← hgj]at hsub hbm
      have lb:=hsg j hlt;have fyk:=fy2 (k+j) (Nat.le_refl _);have ly:=sZ fyk hD hK (M:=5000) (by omega);have lc:=sZ hca hD hK (M:=5000) (by omega);have lm:=sZ (hca.mul1 hbm) hD hK (M:=5000) (by omega);have fv:=fyk.sub1 hca hbm;have gm:=eB c (g.getD j 0) (by omega) (by omega);have gs:=aFz (y.getD (k+j) 0) (c*g.getD j 0) (by omega) (by omega);have hys:=aGf (l:=y) (j:=k+j) (by omega) (y.getD (k+j) 0-c*g.getD j 0);have hyl:(y.set (k+j) (y.getD (k+j) 0-c*g.getD j 0)).length=t.length:=by simp[hy]
      have hkj:((k:Int)+(j:Int))=((k+j:Nat):Int):=by simp
      have hkb:k+j<y.length:=by omega
      have hgd:(qc (y.set (k+j) (y.getD (k+j) 0-c*g.getD j 0))).length=t.length*4:=by rw[gV,hyl]
      generalize hv:y.getD (k+j) 0-c*g.getD j 0=v at*;generalize hmm:c*g.getD j 0=mm at*;generalize hb:g.getD j 0=b at*;generalize hx:y.getD (k+j) 0=x at*;simp only[aH]at gm gs;refine tW (nd hb (nd hx (nd hkj hys))) ?_;refine⟨⟨(j+1,y.set (k+j) v),by simp only;omega,by simp only;exact hyl,?_,?_,by simp only;exact hsub⟩,?_,by simp only;omega⟩
      ·intro i hi;refine xJ _ fv ?_;rcases Nat.lt_or_ge i (k+j)with h |h
       ·exact fy1 i h
       ·exact(fy2 i h).mono (by omega)
      ·intro i hi;rw[vG (by simp only at hi;omega)];exact fy2 i (by simp only at hi;omega)
      ·exact zL1 [0,1,2]
     ·obtain rfl:j=g.length:=by omega
      rw[List.drop_length,bFj]at hsub
      subst hsub;refine zA4 ?_;refine⟨⟨(k,q.set k (some c),y),by simp only;omega,by simp only;exact hql,hy,?_,hdr,hdq⟩,?_,by simp only;omega⟩
      ·intro i;simp only;rw[hM1];rcases Nat.lt_or_ge i (k+g.length)with h |h
       ·exact fy1 i h
       ·exact(fy2 i h).mono (by omega)
      ·exact zL1 [0,1]
end
section
open Go Go.Lg Go.Num
attribute [local irreducible] lrun lwp exThen exBlk keep goodPost sg mg bq
end
section
open Go Go.Lg Go.Num
attribute [local irreducible] lrun lwp exThen exBlk keep goodPost sg mg bq
theorem aZ1 {z:Int}(h:z.natAbs≤1) (n:Nat):z^(if n=0 then 0 else 2+n % 2)=z^n:=by
 have h3:z=0∨z=1∨z= -1:=by omega
 by_cases h0:n=0
 ·subst h0;rfl
 ·rw[if_neg h0];rcases h3 with rfl |rfl |rfl
  ·rw[Int.zero_pow (by omega),Int.zero_pow h0]
  ·rw[Int.one_pow,Int.one_pow]
  ·have key:∀ k:Nat,(-1:Int)^(2*k)=1:=fun k=>by rw[Int.pow_mul];show(1:Int)^k=1;exact Int.one_pow
   rcases Nat.mod_two_eq_zero_or_one n with h |h
   ·rw[h]
    conv=>rhs;rw[show n=2*(n / 2)by omega,key]
    rfl
   ·rw[h]
    conv=>rhs;rw[show n=2*(n / 2)+1 by omega,Int.pow_succ,key]
    rfl
theorem aZ2 (q:Rat) (n:Nat) (hn:n≤100) (hq:lq q≤50):PGd 136 [bG q,i64 n] (.tup [bG (q^n),i64 0]):=by
 have h1:=iF q (by omega);have h2:=aSa q (by omega);have hb:oB q=max (aK q.num.natAbs) (aK q.den):=rfl;have l1:len q.num≤50:=by unfold lq at hq;omega
 have l2:len (q.den:Int)≤50:=by unfold lq at hq;omega
 have b1:=jM q.num.natAbs;have b2:=jM q.den;have e2:(aC q.den).length≤50:=by unfold len at l2;rwa [Int.natAbs_natCast]at l2
 have e1:(aC q.num.natAbs).length≤50:=l1;have hbb:oB q≤1600:=by omega
 have hdiv:∀ s:Nat,s≤1600→1<s→n≤1048576 / s:=fun s h1 h2=>(Nat.le_div_iff_mul_le (by omega)).2 (by have:n*s≤100*1600:=Nat.mul_le_mul hn h1;omega)
 by_cases hs:oB q≤1
 ·have n1:=jF q.num.natAbs;have n2:=jF q.den;have t1:2^aK q.num.natAbs≤2^1:=Nat.pow_le_pow_right (by omega) (by omega);have t2:2^aK q.den≤2^1:=Nat.pow_le_pow_right (by omega) (by omega);have u1:q.num.natAbs≤1:=by omega
  have u2:q.den=1:=by have:=q.den_nz;omega
  have hqn:q=(q.num:Rat):=by apply Rat.ext <;>simp[u2]
  have hpw:=aZ1 u1 n;have hpq:((q.num^n:Int):Rat)=q^n:=by rw[Rat.intCast_pow,← hqn]
  have hln:len (q.num^n)≤1:=by
   have:(q.num^n).natAbs≤1:=by rw[Int.natAbs_pow];exact Nat.le_trans (Nat.pow_le_pow_left u1 n) (by rw[Nat.one_pow];omega)
   exact bH (e:=1) (by omega)
  have w1:=oD (q.num^n) (by omega);rw[hpq]at w1
  have hnb:aK q.num.natAbs≤1:=by omega
  by_cases h0:n=0
  ·subst h0;have p1:=uR q.num 0 (by omega) (.inl hnb) (by omega);rw[Int.natCast_zero]at*
   generalize q^0=r at*;generalize oB q=S at*;clear hqn hpq hpw;simp only[aH,aY,i64]at*;refine aA aV Tryz.func136 rfl (by decide) (nt:=83) rfl (rs:=[.cell 4 47,.tmp 5]) rfl (aW rfl) ?_;refine dP ?_;exact lU
  ·have p1:=uR q.num (2+n % 2) (by omega) (.inl hnb) (by omega);rw[if_neg h0]at hpw
   rw[hpw,show((2+n % 2:Nat):Int)=2+(n:Int) % 2 by omega]at p1
   generalize q.num^n=z at*;generalize q^n=r at*;generalize oB q=S at*;clear hqn hpq hpw;simp only[aH,aY,i64]at*;refine aA aV Tryz.func136 rfl (by decide) (nt:=83) rfl (rs:=[.cell 4 47,.tmp 5]) rfl (aW rfl) ?_;refine dP ?_;exact lU
 ·have hd1:=hdiv (oB q) hbb (by omega);have hcast:(1048576:Int) / (oB q:Int)=((1048576 / oB q:Nat):Int):=rfl;have p1:=uR q.num n (by omega) (by by_cases h:aK q.num.natAbs≤1;exact .inl h;exact .inr (hdiv _ (by omega) (by omega))) (by omega);have p2:=uR (q.den:Int) n (by omega) (by rw[Int.natAbs_natCast];by_cases h:aK q.den≤1;exact .inl h;exact .inr (hdiv _ (by omega) (by omega))) (by omega);have m1:=jY q.num n;have m2:=jY (q.den:Int) n;have m3:n*len q.num≤100*50:=Nat.mul_le_mul hn l1;have m4:n*len (q.den:Int)≤100*50:=Nat.mul_le_mul hn l2;have o1:=wE (q.num^n) ((q.den:Int)^n) (by omega) (by omega);rw[← aR8]at o1
  have hmx:(if 0-(n:Int)>(n:Int)then 0-(n:Int)else(n:Int))=(n:Int):=by split <;>omega
  have hdn:((1048576 / oB q:Nat):Int)≤1048576:=by have:=Nat.div_le_self 1048576 (oB q);omega
  generalize 1048576 / oB q=M at*;generalize oB q=S at*;simp only[aH,aY,i64]at*;clear hdiv hb b1 b2 e1 e2 m1 m2 m3 m4;refine aA aV Tryz.func136 rfl (by decide) (nt:=83) rfl (rs:=[.cell 4 47,.tmp 5]) rfl (aW rfl) ?_;refine cZ (nd hmx hcast) ?_;exact aKn (nd hmx hcast)
theorem bFk (n:Nat):bp n (n+1)=yT n:=rfl
theorem aGv (f:List Rat) (x:Rat):hor f x=nC f x:=rfl
theorem aTh {n:Nat}(hn:n≤41) (x:Rat) (hx:lq x≤1000):PGd 131 [encF (bp n (n+1)),bG x] (bG (nC (yT n) x))∧lq (nC (yT n) x)≤100000:=by
 have hh:∀ k,lq (nC ((yT n).drop k) x)≤100000:=fun k=>aLw hx (by omega) hn
 have h0:=hh 0;rw[List.drop_zero]at h0
 refine⟨?_,h0⟩;rw[bFk,← aGv];refine aI5 (yT n) x (by rw[← bFk,nN];omega) (by omega) (fun c hc=>by have:=aO7 (n:=n) (by omega) (n+1) c hc;omega) (fun k=>by rw[aGv];have:=hh k;omega) (fun k=> ?_);rw[aGv];have h1:=hh k;have h2:=jZ (nC ((yT n).drop k) x) x;omega
end
section
open Go Go.Lg Go.Num
attribute [local irreducible] lrun lwp exThen exBlk keep goodPost sg mg bq yT nC
end
section
open Go Go.Lg Go.Num
attribute [local irreducible] lrun lwp exThen exBlk keep goodPost sg mg bq yT nC tS aPg
theorem bFl (k f j:Nat):tS k f j=((f:Int):Rat)^(k-1)*nC (yT k) (Rat.divInt ((j+1:Nat):Int) (f:Int)):=by unfold tS;rfl
theorem aH6 (k f:Nat) (hk1:1≤k) (hk:k≤40) (hf:1≤f) (hf2:f≤60):PGd 58 [i64 k,i64 f] (encF (smd k f f)):=by
 have p1:=aDl k (by omega);have of:=iG (f:Int) (by omega);have lf:lq ((f:Int):Rat)≤2:=bEg (by omega) (by omega);have pw:=aZ2 ((f:Int):Rat) (k-1) (by omega) (by omega);have lw:=bLo ((f:Int):Rat) (k-1);have lw2:(k-1)*lq ((f:Int):Rat)≤40*2:=Nat.mul_le_mul (by omega) lf;have bf:=jW (f:Int) (by omega)
 have step:∀ j:Nat,j<f→PGd 123 [i64 ((j+1:Nat):Int)] (aO ((j+1:Nat):Int))∧PGd 137 [aO ((j+1:Nat):Int),aO (f:Int)] (.tup [bG (Rat.divInt ((j+1:Nat):Int) (f:Int)),i64 0])∧
   PGd 131 [encF (bp k (k+1)),bG (Rat.divInt ((j+1:Nat):Int) (f:Int))] (bG (nC (yT k) (Rat.divInt ((j+1:Nat):Int) (f:Int))))∧
   PGd 74 [bG (((f:Int):Rat)^(k-1)),bG (nC (yT k) (Rat.divInt ((j+1:Nat):Int) (f:Int)))] (bG (tS k f j)):=by
  intro j hj;have la:len ((j+1:Nat):Int)≤1:=bH (e:=1) (by omega);have lf:len (f:Int)≤1:=bH (e:=1) (by omega);have ld:=eQ (n:=((j+1:Nat):Int)) (d:=(f:Int)) (by omega);have ev:=aTh (n:=k) (by omega) (Rat.divInt ((j+1:Nat):Int) (f:Int)) (by unfold lq;omega);have mk:=aYk ((j+1:Nat):Int) f (by omega) (by omega) (by omega);rw[← dF]at mk
  refine⟨jW _ (by omega),mk,ev.1,?_⟩;rw[bFl];exact gS _ _ (by omega) (by have:=ev.2;omega)
 clear lw lw2 lf;have hk2:((k-1:Nat):Int)=(k:Int)-1:=by omega
 have hl:=nN k (k+1);rw[bE,hl]at p1
 rw[bE,sY];simp only[bE,hl]at step;generalize bp k (k+1)=L at*;rw[hk2]at pw
 generalize ((f:Int):Rat)^(k-1)=P at*;generalize ((f:Int):Rat)=FQ at*;simp only[aY,aH,i64]at p1 pw of bf step⊢;have b1:smd k f 1=[tS k f 0]:=rfl;obtain⟨w1,w2,w3,w4⟩:=step 0 (by omega);rw[show((0+1:Nat):Int)=1 from rfl]at w1 w2 w3 w4
 generalize nC (yT k) (Rat.divInt (1:Int) (f:Int))=E0 at*;generalize Rat.divInt (1:Int) (f:Int)=D0 at*;generalize ht0:tS k f 0=T0 at*;refine aA aV Tryz.func58 rfl (by decide) (nt:=44) rfl (rs:=[.tmp 4]) rfl (aW rfl) ?_;refine dP ?_;refine kV (s':= ?_) (fun Φ hΦ=> ?_) ?_
 rotate_left
 ·refine dP ?_;exact hΦ
 refine aG (α:={n:Nat // 1≤n∧n≤f}) (fun n=>st 44 (lk [(0,i64 k),(1,i64 f),(5,.sl (k+1) (qc L)),(6,.ptr 1 0),(8,.own 0 0 n.1 4),(9,i64 ((n.1+1:Nat):Int))]) (cG [(0,⟨47,qc (smd k f n.1),false⟩),(1,⟨47,[sg (P).num,mg (P).num,sg ((P).den:Int),mg ((P).den:Int)],false⟩)]) 2) (fun n=>f-n.1) ⟨1,by omega,hf⟩ ?_ ?_
 ·(refine fY [38,12] ?_ ?_ ?_;all_goals(first|(simp only[aB,aI,simprocAttr,bl,i64,smT];done) |(simp only[aI,simprocAttr,bl,i64,smT];try((repeat' apply And.intro);all_goals rfl)) |skip))
  rw[b1,← jK]
 ·rintro⟨n,hn1,hn⟩;simp only[st];have hls:=sY k f n;by_cases hlt:n<f
  ·obtain⟨w1,w2,w3,w4⟩:=step n hlt;have happ:=bFc k f n;generalize hN:n+1=N at*;generalize nC (yT k) (Rat.divInt (N:Int) (f:Int))=E at*;generalize Rat.divInt (N:Int) (f:Int)=D at*;generalize tS k f n=T at*;refine dP ?_;refine⟨⟨N,by omega,by omega⟩,?_,by simp only;omega⟩
   (refine fY [23,1] ?_ ?_ ?_;all_goals(first|(simp only[aB,aI,simprocAttr,bl,i64,smT];done) |(simp only[aI,simprocAttr,bl,i64,smT];try((repeat' apply And.intro);all_goals rfl)) |skip))
   ·simp only[true_and,hN]
   ·rw[happ,← iI]
  ·obtain rfl:n=f:=by omega
   refine dP ?_;exact lU
end
end Go.Proofs.YtaidcaemdkncgaaGreatDoor
namespace Go.Num
def ixc (ix:Nat→Option Nat) (i a:Nat):Int:=if ix a=some i then 1 else 0
def pwC (ix:Nat→Option Nat) (k f j i:Nat):Rat:=aPg (ixc ix i) k f j
def tcC (ix:Nat→Option Nat) (j i:Nat):Bool:=(List.range j).any fun a=>decide (ix a=some i)
def plP (ix:Nat→Option Nat) (k f o j:Nat):List (Option Rat):=(List.range o).map fun i=>if tcC ix j i=true then some (pwC ix k f j i)else none
def uA (ix:Nat→Option Nat) (k f o j:Nat):List Rat:=(List.range o).map (pwC ix k f j)
theorem bLs (ix:Nat→Option Nat) (i a:Nat):ixc ix i a=1∨ixc ix i a=0∨ixc ix i a= -1:=by
 unfold ixc;split
 ·exact .inl rfl
 ·exact .inr (.inl rfl)
theorem aLz (ix:Nat→Option Nat) (k f o j:Nat):(plP ix k f o j).length=o:=by simp[plP]
theorem gY (ix:Nat→Option Nat) (k f o j:Nat):(uA ix k f o j).length=o:=by simp[uA]
theorem aAm (ix:Nat→Option Nat) (j i:Nat):tcC ix (j+1) i=(tcC ix j i ||decide (ix j=some i)):=by
 unfold tcC;rw[List.range_succ,List.any_append];simp
theorem aWg {ix:Nat→Option Nat}{k f j i:Nat}(h:ix j=some i):pwC ix k f (j+1) i=pwC ix k f j i+tS k f j:=by
 unfold pwC;rw[aCd,ixc,if_pos h,Rat.intCast_one,Rat.one_mul]
theorem vI {ix:Nat→Option Nat}{k f j i:Nat}(h:ix j≠some i):pwC ix k f (j+1) i=pwC ix k f j i:=by
 unfold pwC;rw[aCd,ixc,if_neg h,Rat.intCast_zero,Rat.zero_mul,Rat.add_zero]
theorem aGw {ix:Nat→Option Nat}{k f:Nat}:∀ {j i:Nat},tcC ix j i=false→pwC ix k f j i=0
 |0,_,_=>rfl
 |j+1,i,h=>by
  rw[aAm,Bool.or_eq_false_iff,decide_eq_false_iff_not]at h
  rw[vI h.2,aGw h.1]
theorem bLt {ix:Nat→Option Nat}{k f o j i:Nat}(hi:i<o):(plP ix k f o j).getD i none=if tcC ix j i=true then some (pwC ix k f j i)else none:=by simp[plP,hi]
theorem aL0 {ix:Nat→Option Nat}{k f o j i:Nat}(hi:i<o):(uA ix k f o j).getD i 0=pwC ix k f j i:=by simp[uA,hi]
theorem bFm (ix:Nat→Option Nat) (k f o:Nat):plP ix k f o 0=List.replicate o none:=by
 unfold plP tcC;simp[List.map_const']
theorem aPj (ix:Nat→Option Nat) (k f o:Nat):uA ix k f o 0=List.replicate o 0:=by
 unfold uA;have:pwC ix k f 0=fun _=>0:=rfl
 rw[this,List.map_const',List.length_range]
theorem bLu {ix:Nat→Option Nat}{k f o j i:Nat}(h:ix j=some i) (hi:i<o):(plP ix k f o j).set i (some (pwC ix k f j i+tS k f j))=plP ix k f o (j+1):=by
 unfold plP;refine aZc ?_ (fun m hm hne=> ?_)
 ·rw[aAm,decide_eq_true h,Bool.or_true,if_pos rfl,aWg h]
 ·have hm':ix j≠some m:=fun e=>hne (by rw[h]at e;injection e with e;exact e.symm)
  rw[aAm,decide_eq_false hm',Bool.or_false,vI hm']
theorem bFn {ix:Nat→Option Nat}{k f o j:Nat}(h:ix j=none):plP ix k f o (j+1)=plP ix k f o j:=by
 unfold plP;refine List.map_congr_left (fun i _=> ?_);have hm':ix j≠some i:=fun e=>by rw[h]at e;cases e
 rw[aAm,decide_eq_false hm',Bool.or_false,vI hm']
theorem aPk {ix:Nat→Option Nat}{k f o j:Nat}(h:ix j=none):uA ix k f o (j+1)=uA ix k f o j:=by
 unfold uA;refine List.map_congr_left (fun i _=> ?_);have hm':ix j≠some i:=fun e=>by rw[h]at e;cases e
 rw[vI hm']
theorem aWh {ix:Nat→Option Nat}{k f j i:Nat}(hk:k≤40) (hf:1≤f) (hf2:f≤60) (hj:j≤f):mE (aCc k f) 260 (pwC ix k f j i):=by
 obtain⟨N,e,hN⟩:=aJs (c:=ixc ix i) (fun a _=>bLs ix i a) hk hf hf2 j hj;exact⟨N,e,by omega⟩
theorem bFo {ix:Nat→Option Nat}{k f j i:Nat}(hk:k≤40) (hf:1≤f) (hf2:f≤60) (hj:j≤f):lq (pwC ix k f j i)≤320:=by
 have:=(aWh (ix:=ix) (i:=i) hk hf hf2 hj).lq (sX hf) (oT hk hf2);omega
theorem aL1 {ix:Nat→Option Nat}{k f o j:Nat}(hk:k≤40) (hf:1≤f) (hf2:f≤60) (hj:j≤f) (i:Nat):mE (aCc k f) 260 ((uA ix k f o j).getD i 0):=by
 by_cases hi:i<o
 ·rw[aL0 hi];exact aWh hk hf hf2 hj
 ·have:(uA ix k f o j).getD i 0=0:=by simp[List.getD,gY,Nat.le_of_not_lt hi]
  rw[this];exact aAj _ _
theorem aZ3 {ix:Nat→Option Nat}{k f o j:Nat}(hk:k≤40) (hf:1≤f) (hf2:f≤60) (hj:j≤f):∀ q,some q∈plP ix k f o j→lq q≤100000:=by
 intro q hq;unfold plP at hq;rw[List.mem_map]at hq
 obtain⟨i,_,h⟩:=hq;split at h
 ·injection h with h;rw[← h];exact Nat.le_trans (bFo hk hf hf2 hj) (by omega)
 ·cases h
theorem bFp (ix:Nat→Option Nat) (k f o j:Nat):(plP ix k f o j).map (fun o=>o.getD 0)=uA ix k f o j:=by
 unfold plP uA;rw[List.map_map];refine List.map_congr_left (fun i _=> ?_);simp only[Function.comp]
 cases ht:tcC ix j i with
 |true=>simp
 |false=>simp[aGw ht]
end Go.Num
namespace Go.Proofs.YtaidcaemdkncgaaGreatDoor
section
open Go Go.Lg Go.Num
attribute [local irreducible] lrun lwp exThen exBlk keep goodPost sg mg oc op ec plP uA pwC smd tS
structure ChD (n:Nat) (v:List Int) (o f:Nat) (w:List Int) (ix:Nat→Option Nat):Prop where
 o1:1≤o
 o2:o≤60
 f1:1≤f
 f2:f≤60
 ord:PGd 56 [.agg [i64 n,.sl v.length (ec v)]] (.tup [i64 o,i64 0])
 prim:PGd 57 [.agg [i64 n,.sl v.length (ec v)]] (.tup [.agg [i64 f,.sl w.length (ec w)],i64 0])
 no:∀ j,j<f→ix j=none→∃ a d:Int,PGd 44 [.agg [i64 f,.sl w.length (ec w)],i64 ((j:Int)+1)] (.tup [.agg [bl true,i64 a,i64 d],i64 0])
 yes:∀ j i,j<f→ix j=some i→i<o∧∃ a d:Nat,1≤d∧d≤60∧a≤60∧a*(o / d)=i∧PGd 44 [.agg [i64 f,.sl w.length (ec w)],i64 ((j:Int)+1)] (.tup [.agg [bl false,i64 a,i64 d],i64 0])
theorem aTi {n:Nat}{v:List Int}{o f:Nat}{w:List Int}{ix:Nat→Option Nat}(h:ChD n v o f w ix) (hlw:w.length≤10) (F:LV) (hF:PGd 48 [i64 o] (.tup [.agg [F],i64 0])) (hFp:∃ m cs,F= .sl m cs) {k:Nat}(k1:1≤k) (k2:k≤40)
  {R:List Rat}(hN:PGd 60 [.agg [F],.sl o (op (plP ix k f o f))] (.tup [encF R,i64 0])):PGd 17 [i64 k,.agg [i64 n,.sl v.length (ec v)]] (.tup [encF R,i64 o,i64 0]):=by
 obtain⟨o1,o2,f1,f2,go,gp,hno,hyes⟩:=h;obtain⟨m,cs,rfl⟩:=hFp;have gs:=aH6 k f k1 k2 f1 f2;rw[bE,sY]at gs
 have hls:=sY k f f;have hpl:=fun j=>aLz ix k f o j
 have hz:=bFm ix k f o;rw[bE]at hN⊢
 simp only[i64]at go gp gs hF hN⊢;refine aA aV Tryz.func17 rfl (by decide) (nt:=91) rfl (rs:=[.tmp 4,.tmp 5,.tmp 6]) rfl (aW rfl) ?_;refine zA8 ?_;refine aG (α:={j:Nat // j≤f}) (fun j=>st 91 (lk [(3,.ptr 0 0),(7,i64 o),(9,.ptr 1 0),(10,.own 2 0 o 4),(49,.sl f (qc (smd k f f))),(50,i64 f),(51,i64 j.1)]) (cG [(0,⟨25,[i64 f,.sl w.length (ec w)],false⟩),(1,⟨101,[.sl m cs],false⟩),(2,⟨47,oc (plP ix k f o j.1),false⟩)]) 3) (fun j=>f-j.1) ⟨0,by omega⟩ ?_ ?_
 ·simp only[hz]
  (refine fY [0,24,36] ?_ ?_ ?_;all_goals(first|(simp only[aB,aI,simprocAttr,bl,i64,smT,smO,smE];done) |(simp only[aI,simprocAttr,bl,i64,smT,smO,smE];try((repeat' apply And.intro);all_goals rfl)) |skip))
  all_goals(first |done |((repeat' apply And.intro);all_goals(first |trivial |rfl |(rw[← rH]))) |trace_state)
 ·rintro⟨j,hj⟩;simp only[st];have hpj:=hpl j;by_cases hlt:j<f
  ·have e1:(smd k f f).getD j 0=tS k f j:=bFd hlt;have lt:=bFb (k:=k) (f:=f) (j:=j) k2 f1 f2 hlt
   cases hix:ix j with
   |none=>
    obtain⟨a,d,gv⟩:=hno j hlt hix;have es:=bFn (k:=k) (f:=f) (o:=o) hix;generalize tS k f j=T at*;simp only[i64,bl]at gv;refine kK e1 ?_;refine⟨⟨j+1,by omega⟩,?_,by simp only;omega⟩;simp only;rw[es]
    exact zL2 [0,1,2]
   |some i=>
    obtain⟨hio,a,d,d1,d2,a2,hi,gv⟩:=hyes j i hlt hix;have es:=bLu (k:=k) (f:=f) hix hio;have eg:=bLt (ix:=ix) (k:=k) (f:=f) (j:=j) hio;have lp:=bFo (ix:=ix) (i:=i) (j:=j) k2 f1 f2 (by omega);have q1:((o:Int)).tdiv (d:Int)=((o / d:Nat):Int):=by rw[Int.tdiv_eq_ediv_of_nonneg (by omega)];rfl
    have q2:(a:Int)*((o / d:Nat):Int)=(i:Int):=by rw[← hi];simp
    have b1:o / d≤o:=Nat.div_le_self _ _;have hset:=lH (l:=plP ix k f o j) (j:=i) (by omega) (pwC ix k f j i+tS k f j);rw[es]at hset
    have hd0:¬(d:Int)=0:=by omega
    cases ht:tcC ix j i with
    |true=>
     rw[ht,if_pos rfl]at eg
     have ga:=kZ (pwC ix k f j i) (tS k f j) (by omega) (by omega);generalize pwC ix k f j i+tS k f j=S at*;generalize pwC ix k f j i=P at*;generalize tS k f j=T at*;generalize hyd:o / d=y at*;simp only[aH,i64,bl]at ga gv;refine kK (nd e1 (nd q1 (nd q2 (nd eg (nd hset hyd))))) ?_;refine⟨⟨j+1,by omega⟩,?_,by simp only;omega⟩
     exact zL2 [0,1,2]
    |false=>
     rw[ht,if_neg (by simp)]at eg
     have ga:=aJe (tS k f j) (by omega);rw[z4p]at ga
     rw[aGw ht,Rat.zero_add]at hset
     generalize tS k f j=T at*;generalize hyd:o / d=y at*;simp only[aH,i64,bl]at ga gv;refine kK (nd e1 (nd q1 (nd q2 (nd eg (nd hset hyd))))) ?_;refine⟨⟨j+1,by omega⟩,?_,by simp only;omega⟩;exact zL2 [0,1,2]
  ·obtain rfl:j=f:=by omega
   (repeat(first|apply zO (by decide+kernel)|apply zP (by decide+kernel)|(apply zS;(case h=>constructor<;>decide))|((first|apply cB rfl|apply aS|apply zT rfl (by decide) rfl);(case hs=>(simp(disch:=first|omega|exact kD rfl|exact kX rfl) only[smY,simprocAttr,bl,i64,smT,smO,smE,lO,@iM];exact rfl));first|refine bZ ?_|refine cA ?_|refine zq ?_|(case hg=>assumption))))
   ((first|apply dI|apply dK);case hres=>(simp only[gW];simp(disch:=first|omega|exact kD rfl|exact kX rfl) only[smY,simprocAttr,bl,i64,smT,smO,smE,lO,@iM];exact rfl))
   simp(disch:=first|omega|exact kD rfl|exact kX rfl) only[smY,simprocAttr,bl,i64,smT,smO,smE,lO,@iM]
end
section
open Go Go.Lg Go.Num
attribute [local irreducible] lrun lwp exThen exBlk keep goodPost sg mg oc op plP uA pwC smd tS ec
theorem bFq (q:Rat) (m:Nat):List.replicate m q++[q]=List.replicate (m+1) q:=by rw[List.replicate_succ']
theorem aKa (q:Rat):[q]=List.replicate 1 q:=rfl
theorem aJu (n:Nat) (h1:1≤n) (hn:n≤100000):jX Tryz.prog 66 [i64 n] n 4 47 (qc (List.replicate n 0)):=by
 have h0:=fI 0 (by omega);rw[show((0:Int):Rat)=0 from rfl]at h0
 simp only[aH,i64]at*;refine sF aV Tryz.func66 rfl (by decide) (nt:=15) rfl (rs:=[.tmp 2]) rfl (aW rfl) (lE s9 s10 _) ?_;refine zA4 ?_;refine aG (α:={m:Nat // m≤n}) (fun m=>st 15 (lk [(0,i64 n),(3,nV 0 m.1),(4,i64 m.1)]) (cG (nB 0 m.1 (qc (List.replicate m.1 0)))) 1) (fun m=>n-m.1) ⟨0,by omega⟩ ?_ ?_
 ·simp only[mZ,nA,i64]
  (refine Sub.plain ?_;simp only[aI,simprocAttr,bl,i64,smT,smO])
  all_goals(first |done |simp)
 ·rintro⟨m,hm⟩;simp only[st];by_cases hlt:m<n
  ·have htl:(List.replicate m (0:Rat)).length=m:=by simp
   have hsn:=bFq 0 m;by_cases h0:m=0
   ·simp only[oN h0,oO h0];refine zA4 ?_;refine⟨⟨m+1,by omega⟩,?_,by simp only;omega⟩;subst h0;simp only[dW,dX,i64]
    (refine fY [7] ?_ ?_ ?_;all_goals(first|(simp only[aB,aI,simprocAttr,bl,i64,smT,smO];done) |(simp only[aI,simprocAttr,bl,i64,smT,smO];try((repeat' apply And.intro);all_goals rfl)) |skip))
    all_goals(first |done |rfl |(rw[← jK]) |(rw[← aKa,← jK]))
   ·generalize hL:List.replicate m (0:Rat)=L at*;simp only[lY h0,lZ h0];refine zA4 ?_;refine⟨⟨m+1,by omega⟩,?_,by simp only;omega⟩;simp only[dW,dX,i64]
    (refine fY [7] ?_ ?_ ?_;all_goals(first|(simp only[aB,aI,simprocAttr,bl,i64,smT,smO];done) |(simp only[aI,simprocAttr,bl,i64,smT,smO];try((repeat' apply And.intro);all_goals rfl)) |skip))
    all_goals(first |done |(rw[iI,hsn]) |(rw[← hsn,← iI]))
  ·obtain rfl:m=n:=by omega
   have h0:¬m=0:=by omega
   simp only[lY h0,lZ h0];refine zA4 ?_
   (apply aUl;(case hres=>(simp only[gW];simp(disch:=first|omega|exact kD rfl|exact kX rfl) only[smY,simprocAttr,bl,i64,smT,smO];exact rfl));(case h0=>(simp only[aI,simprocAttr,bl,i64,smT,smO];exact rfl));(case hf=>rfl))
   all_goals rfl
end
section
open Go Go.Lg Go.Num
attribute [local irreducible] lrun lwp exThen exBlk keep goodPost sg mg oc op plP uA pwC smd tS ec dJ rz
structure RChD (n:Nat) (v:List Int) (o f:Nat) (w:List Int) (ix:Nat→Option Nat):Prop where
 chk:PGd 61 [.agg [i64 n,.sl v.length (ec v)]] (i64 0)
 ord:PGd 62 [.agg [i64 n,.sl v.length (ec v)]] (i64 o)
 cond:PGd 64 [.agg [i64 n,.sl v.length (ec v)]] (i64 f)
 wth:PGd 65 [i64 f,.agg [i64 n,.sl v.length (ec v)]] (.agg [i64 f,.sl w.length (ec w)])
 no:∀ j,j<f→ix j=none→∃ a d:Int,PGd 68 [.agg [i64 f,.sl w.length (ec w)],i64 ((j:Int)+1)] (.agg [bl true,i64 a,i64 d])
 yes:∀ j i,j<f→ix j=some i→i<o∧∃ a d:Nat,1≤d∧d≤60∧a≤60∧a*(o / d)=i∧PGd 68 [.agg [i64 f,.sl w.length (ec w)],i64 ((j:Int)+1)] (.agg [bl false,i64 a,i64 d])
theorem bFr (g t:List Rat):(nD g t).length≤t.length:=by
 unfold nD;exact Nat.le_trans (rP _) (by rw[kE];exact Nat.le_refl _)
theorem aGx {D:Int}{g t:List Rat}{L:Nat}(hg:∀ b∈g,aGp b) (ht:∀ j,mE D L (t.getD j 0)) (j:Nat):mE D (L+(t.length+1-g.length)) ((nD g t).getD j 0):=by
 unfold nD;rw[iN];exact aGq hg _ L t ht j
end
section
open Go Go.Lg Go.Num
def ixB (o f:Nat) (w:List Nat) (j:Nat):Option Nat:=match aGl [chV f w,.lit (.int .i64 (.ofNat (Nat.succ j)))]with
 |some (.tup [.agg [.lit (.bool z),.lit (.int .i64 (.ofNat a)),.lit (.int .i64 (.ofNat d))],.lit (.int .i64 (.ofNat _))])=>bif z then none else some (a*(o / d))
 |_=>none
def vlB (o f:Nat) (w:List Nat) (j:Nat):Bool:=match aGl [chV f w,.lit (.int .i64 (.ofNat (Nat.succ j)))]with
 |some (.tup [.agg [.lit (.bool z),.lit (.int .i64 (.ofNat a)),.lit (.int .i64 (.ofNat d))],.lit (.int .i64 (.ofNat e))])=>Nat.beq e 0 && (match aJp [chV f w,.lit (.int .i64 (.ofNat (Nat.succ j)))]with
  |some (.agg [.lit (.bool z'),.lit (.int .i64 (.ofNat a')),.lit (.int .i64 (.ofNat d'))])=>(bif z then z' else(!z' && Nat.beq a a' && Nat.beq d d' && Nat.ble 1 d && Nat.ble d 60 && Nat.ble a 60 && Nat.blt (a*(o / d)) o))
  |_=>false)
 |_=>false
def isI (x:Option LV) (f:Nat):Bool:=match x with
 |some (.lit (.int .i64 (.ofNat k)))=>Nat.beq k f
 |_=>false
def bVk (x:Option LV) (f:Nat) (w:List Nat):Bool:=match x with
 |some (.agg [.lit (.int .i64 (.ofNat k)),.sl m cs])=>Nat.beq k f && isN w.length w (.sl m cs)
 |_=>false
theorem bVl {x:Option LV}{f:Nat}(h:isI x f=true):x=some (.lit (.int .i64 (f:Int))):=by
 unfold isI at h;split at h
 ·rename_i k;have e1:=Nat.eq_of_beq_eq_true h;subst e1;rfl
 ·cases h
theorem bLv {x:Option LV}{f:Nat}{w:List Nat}(h:bVk x f w=true):x=some (.agg [.lit (.int .i64 (f:Int)),.sl (nI w).length (ec (nI w))]):=by
 unfold bVk at h;split at h
 ·rename_i k m cs;rw[Bool.and_eq_true]at h
  have e1:=Nat.eq_of_beq_eq_true h.1;subst e1;have:=aLj h.2;rw[this,oK,cW];rfl
 ·cases h
theorem bN2 {o f j:Nat}{w:List Nat}(h:vlB o f w j=true):
  (ixB o f w j=none→(∃ a d:Int,PGd 44 [.agg [i64 f,.sl (nI w).length (ec (nI w))],i64 ((j:Int)+1)] (.tup [.agg [bl true,i64 a,i64 d],i64 0]))∧∃ a d:Int,PGd 68 [.agg [i64 f,.sl (nI w).length (ec (nI w))],i64 ((j:Int)+1)] (.agg [bl true,i64 a,i64 d]))∧
  (∀ i,ixB o f w j=some i→i<o∧∃ a d:Nat,1≤d∧d≤60∧a≤60∧a*(o / d)=i∧PGd 44 [.agg [i64 f,.sl (nI w).length (ec (nI w))],i64 ((j:Int)+1)] (.tup [.agg [bl false,i64 a,i64 d],i64 0])∧PGd 68 [.agg [i64 f,.sl (nI w).length (ec (nI w))],i64 ((j:Int)+1)] (.agg [bl false,i64 a,i64 d])):=by
 have e1:((j:Int)+1)=Int.ofNat (Nat.succ j):=rfl;rw[e1,← aB2];unfold vlB at h;split at h
 ·rename_i z a d e he;rw[Bool.and_eq_true]at h
  have e2:=Nat.eq_of_beq_eq_true h.1;subst e2;have g1:=aGm he;have h:=h.2;have hix:ixB o f w j=bif z then none else some (a*(o / d)):=by unfold ixB;rw[he]
  split at h
  ·rename_i z' a' d' he';have g2:=aAi he'
   cases z with
   |true=>
    rw[cond_true]at h hix
    subst h;rw[hix]
    exact⟨fun _=>⟨⟨_,_,g1⟩,⟨_,_,g2⟩⟩,fun i hi=>nomatch hi⟩
   |false=>
    rw[cond_false]at h hix
    simp only[Bool.and_eq_true,Nat.ble_eq,Nat.beq_eq,Bool.not_eq_true']at h;obtain⟨⟨⟨⟨⟨⟨rfl,rfl⟩,rfl⟩,h4⟩,h5⟩,h6⟩,h7⟩:=h;rw[hix];refine⟨fun e=>(nomatch e),fun i hi=> ?_⟩;injection hi with hi;subst hi;exact⟨Nat.le_of_ble_eq_true h7,a,d,h4,h5,h6,rfl,g1,g2⟩
  ·cases h
 ·cases h
end
section
open Go Go.Lg Go.Num
def oL:List Nat:=[1,2,3,4,5,6,7,8,9,10,11,12,13,14,15,16,18,20,21,22,23,26,28,29,30,36,40,42,46,52,58]
end
section
open Go Go.Lg Go.Num
attribute [local irreducible] lrun lwp exThen exBlk keep goodPost sg mg ec
theorem aGy (a b:Nat) (ha:a≤1000000000000) (hb:b≤1000000000000):PGd 198 [i64 a,i64 b] (i64 (Nat.gcd a b)):=by
 generalize hgg:Nat.gcd a b=g;refine aA aV Tryz.func198 rfl (by decide) (nt:=31) rfl (rs:=[.tmp 4]) rfl (aW rfl) ?_;refine bPc ?_;refine aG (α:={p:Nat×Nat // Nat.gcd p.1 p.2=g∧p.1≤1000000000000∧p.2≤1000000000000}) (fun p=>st 31 (lk [(5,u64 p.1.1),(6,u64 p.1.2)]) (cG []) 0) (fun p=>p.1.2) ⟨(a,b),hgg,ha,hb⟩ ?_ ?_
 ·(refine Sub.plain ?_;simp only[aI,simprocAttr,bl,i64,u64,smS])
 ·rintro⟨⟨x,y⟩,hg,hx,hy⟩;simp only at hg hx hy;simp only[st];by_cases hy0:y=0
  ·subst hy0;rw[Nat.gcd_zero_right]at hg
   subst hg;refine bPc ?_
   ((first|apply dI|apply dK);case hres=>(simp only[gW];simp(disch:=first|omega|exact kD rfl|exact kX rfl) only[smY,simprocAttr,bl,i64,u64,smS];exact rfl))
   simp(disch:=first|omega|exact kD rfl|exact kX rfl) only[smY,simprocAttr,bl,i64,u64,smS]
  ·have hmod:x % y<y:=Nat.mod_lt _ (by omega);have hy1:¬(y:Int)=0:=by omega
   refine bPc ?_;refine⟨⟨(y,x % y),?_,hy,by simp only;omega⟩,?_,hmod⟩
   ·simp only;rw[← hg,Nat.gcd_comm x y,Nat.gcd_rec y x,Nat.gcd_comm]
   ·(refine Sub.plain ?_;simp only[aI,simprocAttr,bl,i64,u64,smS])
end
section
open Go Go.Lg Go.Num
def vlD (o f:Nat) (w:List Nat) (j:Nat):Bool:=match aGl [chV f w,.lit (.int .i64 (.ofNat (Nat.succ j)))]with
 |some (.tup [.agg [.lit (.bool z),.lit (.int .i64 (.ofNat _)),.lit (.int .i64 (.ofNat d))],.lit (.int .i64 (.ofNat _))])=>z ||Nat.beq (o % d) 0
 |_=>false
noncomputable def bN3 (n:Nat) (v:List Nat):Bool:=match evo rM 23 [chV n v],aJp [chV n v,.lit (.int .i64 (.negSucc 0))]with
 |some (.tup [.lit (.bool b),.lit (.int .i64 (.ofNat e))]),some (.agg [.lit (.bool z),.lit (.int .i64 (.ofNat a)),.lit (.int .i64 (.ofNat d))])=>Nat.beq e 0 && (bif z then false else true) && (bif b then Nat.beq a 0 && Nat.beq d 1 else Nat.beq a 1 && Nat.beq d 2)
 |_,_=>false
def isP (x:Option LV) (f:Nat) (w:List Nat):Bool:=match x with
 |some (.tup [y,.lit (.int .i64 (.ofNat e))])=>Nat.beq e 0 && bVk (some y) f w
 |_=>false
theorem bVm {x:Option LV}{f:Nat}{w:List Nat}(h:isP x f w=true):x=some (.tup [.agg [.lit (.int .i64 (f:Int)),.sl (nI w).length (ec (nI w))],.lit (.int .i64 0)]):=by
 unfold isP at h;split at h
 ·rename_i y e;rw[Bool.and_eq_true]at h
  have e2:=Nat.eq_of_beq_eq_true h.1;subst e2;have:=bLv h.2;injection this with this;rw[this];rfl
 ·cases h
noncomputable def bN4 (n:Nat) (v:List Nat):Bool:=match evo rM 24 [chV n v]with
 |some (.tup [.lit (.int .i64 (.ofNat c)),.lit (.int .i64 (.ofNat e))])=>Nat.beq e 0 && Nat.ble c 60 && isI (evo rM 64 [chV n v]) c && (!(Nat.beq c n) ||isP (evo rM 57 [chV n v]) n v)
 |_=>false
noncomputable def aPl (n:Nat) (v:List Nat):Bool:=bE4 n v && bN4 n v && bN3 n v && (dC (ordN n v) fun o=>oL.contains o && (List.range 60).all fun j=>vlB o n v j && vlD o n v j)
structure SeD (n:Nat) (v:List Int) (o c:Nat) (b:Bool) (ix:Nat→Option Nat):Prop where
 n1:1≤n
 n2:n≤60
 lw:v.length≤10
 o1:1≤o
 o2:o≤60
 c2:c≤60
 oM:o∈oL
 pr:c=n→PGd 57 [.agg [i64 n,.sl v.length (ec v)]] (.tup [.agg [i64 n,.sl v.length (ec v)],i64 0])
 chP:PGd 76 [.agg [i64 n,.sl v.length (ec v)]] (i64 0)
 chR:PGd 61 [.agg [i64 n,.sl v.length (ec v)]] (i64 0)
 orP:PGd 56 [.agg [i64 n,.sl v.length (ec v)]] (.tup [i64 o,i64 0])
 orR:PGd 62 [.agg [i64 n,.sl v.length (ec v)]] (i64 o)
 coP:PGd 24 [.agg [i64 n,.sl v.length (ec v)]] (.tup [i64 c,i64 0])
 coR:PGd 64 [.agg [i64 n,.sl v.length (ec v)]] (i64 c)
 evP:PGd 23 [.agg [i64 n,.sl v.length (ec v)]] (.tup [bl b,i64 0])
 m1R:PGd 68 [.agg [i64 n,.sl v.length (ec v)],i64 (-1)] (.agg [bl false,i64 (if b then 0 else 1),i64 (if b then 1 else 2)])
 no:∀ j,j<60→ix j=none→(∃ a d:Int,PGd 44 [.agg [i64 n,.sl v.length (ec v)],i64 ((j:Int)+1)] (.tup [.agg [bl true,i64 a,i64 d],i64 0]))∧∃ a d:Int,PGd 68 [.agg [i64 n,.sl v.length (ec v)],i64 ((j:Int)+1)] (.agg [bl true,i64 a,i64 d])
 yes:∀ j i,j<60→ix j=some i→i<o∧∃ a d:Nat,1≤d∧d≤60∧a≤60∧o % d=0∧a*(o / d)=i∧PGd 44 [.agg [i64 n,.sl v.length (ec v)],i64 ((j:Int)+1)] (.tup [.agg [bl false,i64 a,i64 d],i64 0])∧PGd 68 [.agg [i64 n,.sl v.length (ec v)],i64 ((j:Int)+1)] (.agg [bl false,i64 a,i64 d])
theorem bVn {o f j:Nat}{w:List Nat}(h:vlB o f w j=true) (h2:vlD o f w j=true) (i:Nat) (hi:ixB o f w j=some i):∃ a d:Nat,1≤d∧d≤60∧a≤60∧o % d=0∧a*(o / d)=i∧PGd 44 [.agg [i64 f,.sl (nI w).length (ec (nI w))],i64 ((j:Int)+1)] (.tup [.agg [bl false,i64 a,i64 d],i64 0])∧PGd 68 [.agg [i64 f,.sl (nI w).length (ec (nI w))],i64 ((j:Int)+1)] (.agg [bl false,i64 a,i64 d]):=by
 have e1:((j:Int)+1)=Int.ofNat (Nat.succ j):=rfl;rw[e1,← aB2];unfold vlB at h;split at h
 ·rename_i z a d e he;rw[Bool.and_eq_true]at h
  have e2:=Nat.eq_of_beq_eq_true h.1;subst e2;have g1:=aGm he;have h:=h.2;have hix:ixB o f w j=bif z then none else some (a*(o / d)):=by unfold ixB;rw[he]
  unfold vlD at h2;rw[he]at h2
  simp only[Bool.or_eq_true,Nat.beq_eq]at h2;split at h
  ·rename_i z' a' d' he';have g2:=aAi he'
   cases z with
   |true=>
    rw[cond_true]at hix
    rw[hix]at hi
    cases hi
   |false=>
    rw[cond_false]at h hix
    simp only[Bool.and_eq_true,Nat.ble_eq,Nat.beq_eq,Bool.not_eq_true']at h;obtain⟨⟨⟨⟨⟨⟨rfl,rfl⟩,rfl⟩,h4⟩,h5⟩,h6⟩,h7⟩:=h;rw[hix]at hi
    injection hi with hi;exact⟨a,d,h4,h5,h6,h2.resolve_left (by simp),hi,g1,g2⟩
  ·cases h
 ·cases h
attribute [local irreducible] lrun lwp exThen exBlk keep goodPost ec pt gn od rE sg mg
theorem iW {n o c:Nat}{v:List Int}{b:Bool}{ix:Nat→Option Nat}(h:SeD n v o c b ix) {j m:Nat}(hj:j<60) (hn:ix j=none):PGd 86 [.agg [i64 n,.sl v.length (ec v)],i64 ((j:Int)+1),i64 m] (.tup [i64 0,bl false])∧PGd 93 [.agg [i64 n,.sl v.length (ec v)],i64 ((j:Int)+1),i64 m] (i64 (-1)):=by
 obtain⟨⟨a,d,g1⟩,⟨a',d',g2⟩⟩:=h.no j hj hn;generalize ec v=cx at*;simp only[i64,bl]at*;constructor
 ·
  refine aA aV Tryz.func86 rfl (by decide) (nt:=29) rfl (rs:=[.tmp 6,.tmp 7]) rfl (aW rfl) ?_;refine zA7 ?_;exact zQ6
 ·
  refine aA aV Tryz.func93 rfl (by decide) (nt:=20) rfl (rs:=[.tmp 6]) rfl (aW rfl) ?_;refine zA7 ?_;exact zQ6
theorem fV {n o c:Nat}{v:List Int}{b:Bool}{ix:Nat→Option Nat}(h:SeD n v o c b ix) {j i m:Nat}(hj:j<60) (hi:ix j=some i) (hm:m % o=0) (hm1:1≤m) (hm2:m≤100000):PGd 86 [.agg [i64 n,.sl v.length (ec v)],i64 ((j:Int)+1),i64 m] (.tup [i64 ((i*(m / o):Nat):Int),bl true])∧PGd 93 [.agg [i64 n,.sl v.length (ec v)],i64 ((j:Int)+1),i64 m] (i64 ((i*(m / o):Nat):Int))∧i*(m / o)<m:=by
 obtain⟨hio,a,d,d1,d2,a2,hod,hai,g1,g2⟩:=h.yes j i hj hi;have o1:=h.o1;have o2:=h.o2
 have e1:m / d=(m / o)*(o / d):=by
  obtain⟨x,rfl⟩:=Nat.dvd_of_mod_eq_zero hm;obtain⟨y,rfl⟩:=Nat.dvd_of_mod_eq_zero hod
  have hy:0<y:=by
   rcases Nat.eq_zero_or_pos y with hy |hy
   ·subst hy;omega
   ·exact hy
  rw[Nat.mul_assoc,Nat.mul_div_cancel_left _ (by omega),Nat.mul_div_cancel_left _ (by omega),← Nat.mul_assoc,Nat.mul_div_cancel_left _ (by omega),Nat.mul_comm]
 have e2:a*(m / d)=i*(m / o):=by
  rw[e1,← hai,Nat.mul_comm (m / o),Nat.mul_assoc]
 have q1:((m:Int)).tdiv (d:Int)=((m / d:Nat):Int):=by rw[Int.tdiv_eq_ediv_of_nonneg (by omega)];rfl
 have q2:(a:Int)*((m / d:Nat):Int)=((i*(m / o):Nat):Int):=by rw[← e2];simp
 have b1:m / d≤m:=Nat.div_le_self _ _
 have hlt:i*(m / o)<m:=by
  obtain⟨x,rfl⟩:=Nat.dvd_of_mod_eq_zero hm;rw[Nat.mul_div_cancel_left _ (by omega)]
  have hx:0<x:=by
   rcases Nat.eq_zero_or_pos x with hx |hx
   ·subst hx;omega
   ·exact hx
  exact Nat.mul_lt_mul_of_pos_right hio hx
 have hd0:¬(d:Int)=0:=by omega
 obtain⟨y,hy⟩:∃ y,m / d=y:=⟨_,rfl⟩;obtain⟨r,hr⟩:∃ r,r=i*(m / o):=⟨_,rfl⟩;rw[hy]at q1 q2 b1
 rw[← hr]at q2 hlt
 rw[← hr];clear hr e1 e2 hai;refine⟨?_,?_,hlt⟩
 all_goals
  generalize ec v=cx at*;simp only[i64,bl]at*
 ·
  refine aA aV Tryz.func86 rfl (by decide) (nt:=29) rfl (rs:=[.tmp 6,.tmp 7]) rfl (aW rfl) ?_;refine aBg (nd hy q2) ?_;exact aHr (nd hy q2)
 ·
  refine aA aV Tryz.func93 rfl (by decide) (nt:=20) rfl (rs:=[.tmp 6]) rfl (aW rfl) ?_;refine aBg (nd hy q2) ?_;exact aHr (nd hy q2)
theorem aC9 {n o c:Nat}{v:List Int}{b:Bool}{ix:Nat→Option Nat}(h:SeD n v o c b ix) {m:Nat}(hm1:1≤m) (hm2:m≤100000):PGd 93 [.agg [i64 n,.sl v.length (ec v)],i64 (-1),i64 (2*(m:Int))] (i64 (if b then 0 else(m:Int))):=by
 have g:=h.m1R;have q2:(2*(m:Int)).tdiv 2=m:=by rw[Int.tdiv_eq_ediv_of_nonneg (by omega)];omega
 have q1:(2*(m:Int)).tdiv 1=2*m:=Int.tdiv_one _;have q3:(2*(m:Int)) / 2=m:=by omega
 generalize ec v=cx at*
 cases b with
 |true=>
  simp only[i64,bl,if_true]at*;refine aA aV Tryz.func93 rfl (by decide) (nt:=20) rfl (rs:=[.tmp 6]) rfl (aW rfl) ?_
  (repeat(first|apply zO (by decide+kernel)|apply zP (by decide+kernel)|(apply zS;(case h=>constructor<;>decide))|((first|apply cB rfl|apply aS|apply zT rfl (by decide) rfl);(case hs=>(simp(disch:=first|omega|exact kD rfl|exact kX rfl) only[smY,simprocAttr,bl,i64,smE,bP,undef,q1,q2,q3,Int.zero_mul,Int.one_mul,Int.ediv_one];exact rfl));first|refine bZ ?_|refine cA ?_|refine zq ?_|(case hg=>assumption))))
  ((first|apply dI|apply dK);case hres=>(simp only[gW];simp(disch:=first|omega|exact kD rfl|exact kX rfl) only[smY,simprocAttr,bl,i64,smE,bP,undef,q1,q2,q3,Int.zero_mul,Int.one_mul,Int.ediv_one];exact rfl))
  simp(disch:=first|omega|exact kD rfl|exact kX rfl) only[smY,simprocAttr,bl,i64,smE,bP,undef,q1,q2,q3,Int.zero_mul,Int.one_mul,Int.ediv_one]
 |false=>
  simp only[i64,bl,Bool.false_eq_true,if_false]at*;refine aA aV Tryz.func93 rfl (by decide) (nt:=20) rfl (rs:=[.tmp 6]) rfl (aW rfl) ?_
  (repeat(first|apply zO (by decide+kernel)|apply zP (by decide+kernel)|(apply zS;(case h=>constructor<;>decide))|((first|apply cB rfl|apply aS|apply zT rfl (by decide) rfl);(case hs=>(simp(disch:=first|omega|exact kD rfl|exact kX rfl) only[smY,simprocAttr,bl,i64,smE,bP,undef,q1,q2,q3,Int.zero_mul,Int.one_mul,Int.ediv_one];exact rfl));first|refine bZ ?_|refine cA ?_|refine zq ?_|(case hg=>assumption))))
  ((first|apply dI|apply dK);case hres=>(simp only[gW];simp(disch:=first|omega|exact kD rfl|exact kX rfl) only[smY,simprocAttr,bl,i64,smE,bP,undef,q1,q2,q3,Int.zero_mul,Int.one_mul,Int.ediv_one];exact rfl))
  simp(disch:=first|omega|exact kD rfl|exact kX rfl) only[smY,simprocAttr,bl,i64,smE,bP,undef,q1,q2,q3,Int.zero_mul,Int.one_mul,Int.ediv_one]
theorem qC {n o c n' o' c':Nat}{v v':List Int}{b b':Bool}{ix ix':Nat→Option Nat}(h:SeD n v o c b ix) (h':SeD n' v' o' c' b' ix'):PGd 82 [.agg [i64 n,.sl v.length (ec v)],.agg [i64 n',.sl v'.length (ec v')]] (i64 (Nat.lcm o o'))∧PGd 92 [.agg [i64 n,.sl v.length (ec v)],.agg [i64 n',.sl v'.length (ec v')]] (i64 (Nat.lcm o o')):=by
 have o1:=h.o1;have o2:=h.o2;have o1':=h'.o1;have o2':=h'.o2;have g1:=h.orP;have g2:=h'.orP;have g3:=h.orR;have g4:=h'.orR;have g5:=nM o o' (by omega) (by omega);have g6:=aGy o o' (by omega) (by omega);have eg:Int.gcd o o'=Nat.gcd o o':=rfl;rw[eg]at g5
 have hg0:0<Nat.gcd o o':=Nat.gcd_pos_of_pos_left _ (by omega);have q1:(o:Int).tdiv (Nat.gcd o o':Nat)=((o / Nat.gcd o o':Nat):Int):=by rw[Int.tdiv_eq_ediv_of_nonneg (by omega)];rfl
 have q2:((o / Nat.gcd o o':Nat):Int)*(o':Int)=(Nat.lcm o o':Nat):=by
  have:o / Nat.gcd o o'*o'=Nat.lcm o o':=by
   unfold Nat.lcm;rw[Nat.div_mul_right_comm (Nat.gcd_dvd_left o o')]
  rw[← this];simp
 have b1:o / Nat.gcd o o'≤o:=Nat.div_le_self _ _
 have b2:Nat.lcm o o'≤3600:=by
  have:Nat.lcm o o'≤o*o':=Nat.le_of_dvd (Nat.mul_pos (by omega) (by omega)) (Nat.lcm_dvd_mul o o');have:o*o'≤60*60:=Nat.mul_le_mul o2 o2';omega
 have hg1:¬((Nat.gcd o o':Nat):Int)=0:=by omega
 generalize Nat.lcm o o'=L at*;generalize Nat.gcd o o'=g at*;obtain⟨y,hy⟩:∃ y,o / g=y:=⟨_,rfl⟩;rw[hy]at q1 q2 b1
 generalize ec v=cx at*;generalize ec v'=cy at*;simp only[i64,bl]at*;constructor
 ·
  refine aA aV Tryz.func82 rfl (by decide) (nt:=26) rfl (rs:=[.tmp 4]) rfl (aW rfl) ?_;refine aBg (nd hy q2) ?_;exact aHr (nd hy q2)
 ·have g7:PGd 179 [.lit (.int .i64 o), .lit (.int .i64 o')] (.lit (.int .i64 L)):=by
   refine aA aV Tryz.func179 rfl (by decide) (nt:=12) rfl (rs:=[.tmp 4]) rfl (aW rfl) ?_;refine aBg (nd hy q2) ?_;exact aHr (nd hy q2)
  refine aA aV Tryz.func92 rfl (by decide) (nt:=10) rfl (rs:=[.tmp 4]) rfl (aW rfl) ?_;refine zA7 ?_;exact zQ6
end
section
open Go Go.Lg Go.Num
def fdL:List Int:=[-59,-56,-55,-52,-51,-47,-43,-40,-39,-35,-31,-24,-23,-20,-19,-15,-11,-8,-7,-4,-3,1,5,8,12,13,17,21,24,28,29,33,37,40,41,44,53,56,57,60]
def sgT:List Nat:=[0,210067141980993186,0,0,23719838702699520,159001957390092324,0,0,91221072465100820,437518443409834690,0,0,0,794953389907400208,0,0,0,19899321112463574,0,0,72062272667713540,184683002503438400,0,0,0,517919535285010594,0,0,0,826601924876917796,0,0,0,0,0,0,75935026319360,690210397717620304,0,0,365917818690278400,909341831067761286,0,0,0,470640523869172800,0,0,0,85046969807344354,0,0,22606304011898960,317734272923146804,0,0,307445734561825860,329406144173384850,0,0,0,0,0,0,0,223146097665841350,0,0,293881952154686484,0,0,0,22523497037496400,1090567185654236402,0,0,0,261413082950545012,0,0,0,25342105836852866,0,0,306245961145979968,0,0,0,1149268828181520,631328378717695622,0,0,0,331125211142042192,0,0,0,1003764251769139378,0,0,361484243409634368,790601801188867172,0,0,360359439860060164,0,0,0,0,0,0,0,0,200006971460298902,0,0,292735423523143684,2366794382251536,0,0,71538321920000]
def sgN (d:Int) (j:Nat):Bool:=Nat.beq (Nat.mod (Nat.div (sgT.getD (Int.toNat (Int.add d 60)) 0) (Nat.pow 2 j)) 2) 1
noncomputable def dL (d:Int):Bool:=(List.range 60).all fun j=>match evo rM 42 [.lit (.int .i64 d),.lit (.int .i64 (.ofNat (Nat.succ j)))],evo rM 269 [.lit (.int .i64 d),.lit (.int .i64 (.ofNat (Nat.succ j)))]with
 |some (.lit (.int .i64 a)),some (.lit (.int .i64 b))=>(Go.Lg.ltI a 0==sgN d j) && (Go.Lg.ltI b 0==sgN d j)
 |_,_=>false
end
end Go.Proofs.YtaidcaemdkncgaaGreatDoor
