/- Contracts of functions of the program, and what proves them (texts: B8 B9 Num3 B10). -/
import Derived.Test.YtaidcaemdkncgaaGreatDoorZSAE
set_option linter.all false
set_option maxRecDepth 100000
set_option maxHeartbeats 8000000
namespace Go.Proofs.YtaidcaemdkncgaaGreatDoor
section
open Go Go.Lg Go.Num
attribute [local irreducible] lrun lwp exThen exBlk keep goodPost mutPost
theorem tn_sub2 (k:Nat):((k:Int)-2).toNat=k-2:=by omega
set_option maxHeartbeats 2000000 in
theorem aYd {L v:List Nat}{j:Nat}(hL:OkD L) (hv:OkD v) (hn:2≤v.length) (hj:j+v.length+1≤L.length) (hu:sec L j (v.length+1)<4294967296*val v) (h1:2147483648≤v.getD (v.length-1) 0) (lL:L.length≤1099511627776):
  zC Tryz.prog 327 [.own 0 j (v.length+1) 1,dg v] 185 (dB L) (u32 (sec L j (v.length+1) / val v)) (dB (L.take j++jD (v.length+1) (sec L j (v.length+1) % val v)++L.drop (j+(v.length+1)))):=by
 unfold u32;refine aRa aV Tryz.func327 rfl (by decide) (nt:=160) rfl (rs:=[.tmp 4]) rfl (aW rfl) (aE _) (aE _) ?_;have b0:=hL.getD (j+v.length);have b1:=hL.getD (j+(v.length-1));have b2:=hL.getD (j+(v.length-2));have c1:=hv.getD (v.length-1);have c2:=hv.getD (v.length-2);have hg0:=aN3 hL hv hn hu h1;have hr0:(L.getD (j+v.length) 0*4294967296+L.getD (j+(v.length-1)) 0) % v.getD (v.length-1) 0<v.getD (v.length-1) 0:=Nat.mod_lt _ (by omega);have hq0:(L.getD (j+v.length) 0*4294967296+L.getD (j+(v.length-1)) 0) / v.getD (v.length-1) 0≤18446744073709551615:=Nat.le_trans (Nat.div_le_self _ _) (by omega);have hq1:=Int.natCast_nonneg ((L.getD (j+v.length) 0*4294967296+L.getD (j+(v.length-1)) 0) / v.getD (v.length-1) 0)
 (repeat(first|apply zO (by decide+kernel)|apply zP (by decide+kernel)|((fail_if_success refine aEv ?_);apply zS;(case h=>constructor<;>decide))|((first|apply cB rfl|apply aS);(case hs=>(simp(disch:=first|omega|exact kD rfl|exact kX rfl) only[smY,simprocAttr,bl,u32,u64,i64,tn_sub2];exact rfl));first|refine bZ ?_|refine cA ?_|refine zq ?_)))
 refine aEu (α:={g:Nat // g<4294967296∧g*val v<sec L j (v.length+1)+val v∧sec L j (v.length+1)<(g+1)*val v})
  (fun p=>st 160 (lk [(0,.own 0 j (v.length+1) 1),(1,dg v),(5,i64 v.length),(7,u64 p.1)]) (cG [(0,⟨185,dB L,false⟩)]) 1) ?_ ?_
 ·refine vY ?_
  refine aG (α:={p:Nat×Nat // Guess L v j p.1 p.2∧p.2<4294967296})
   (fun p=>st 160 (lk [(0,.own 0 j (v.length+1) 1),(1,dg v),(5,i64 v.length),(7,u64 p.1.1),(8,u64 p.1.2)]) (cG [(0,⟨185,dB L,false⟩)]) 1) (fun p=>p.1.1) ⟨(_,_),hg0,by simp only;omega⟩ ?_ ?_
  ·exact zO3 0
  ·rintro⟨⟨g,rest⟩,hg,hr⟩;simp only at hg hr;simp only[st];obtain⟨hlead,hg8,hglt⟩:=aFb hL hv hn hu h1 hg;by_cases hc:4294967296≤g
   ·obtain⟨h0,hg'⟩:=aFc hL hv hn hu h1 hg (.inl hc);obtain⟨_,_,hglt'⟩:=aFb hL hv hn hu h1 hg';by_cases hb:4294967296≤rest+v.getD (v.length-1) 0
    ·refine zG1 ?_;refine⟨⟨g-1,hglt' hb,aBj hL hv hn hu h1 hg' (hglt' hb) (.inl hb)⟩,?_⟩
     (refine Sub.heap1 0 ?_ (by simp only[aI,simprocAttr,bl,u32,u64,i64,tn_sub2];exact rfl) ?_ ?_;all_goals(first |exact aE _ |with_reducible rfl |(simp only[aI,simprocAttr,bl,u32,u64,i64,tn_sub2])|skip))
     (simp only[true_and];(simp only[LV.lit.injEq,Value.int.injEq,true_and,and_true,dg,LV.sl.injEq];omega))
    ·refine zG1 ?_;refine⟨⟨(g-1,rest+v.getD (v.length-1) 0),hg',by simp only;omega⟩,?_,by simp only;omega⟩
     (refine Sub.heap1 0 ?_ (by simp only[aI,simprocAttr,bl,u32,u64,i64,tn_sub2];exact rfl) ?_ ?_;all_goals(first |exact aE _ |with_reducible rfl |(simp only[aI,simprocAttr,bl,u32,u64,i64,tn_sub2])|skip))
     (simp only[true_and];(simp only[LV.lit.injEq,Value.int.injEq,true_and,and_true,dg,LV.sl.injEq];omega))
   ·have hm:=nH (show g<4294967296 by omega) c2;by_cases hd:g*v.getD (v.length-2) 0>rest*4294967296+L.getD (j+(v.length-2)) 0
    ·obtain⟨h0,hg'⟩:=aFc hL hv hn hu h1 hg (.inr hd);obtain⟨_,_,hglt'⟩:=aFb hL hv hn hu h1 hg';by_cases hb:4294967296≤rest+v.getD (v.length-1) 0
     ·refine zG1 ?_;refine⟨⟨g-1,hglt' hb,aBj hL hv hn hu h1 hg' (hglt' hb) (.inl hb)⟩,?_⟩
      (refine Sub.heap1 0 ?_ (by simp only[aI,simprocAttr,bl,u32,u64,i64,tn_sub2];exact rfl) ?_ ?_;all_goals(first |exact aE _ |with_reducible rfl |(simp only[aI,simprocAttr,bl,u32,u64,i64,tn_sub2])|skip))
      (simp only[true_and];(simp only[LV.lit.injEq,Value.int.injEq,true_and,and_true,dg,LV.sl.injEq];omega))
     ·refine zG1 ?_;refine⟨⟨(g-1,rest+v.getD (v.length-1) 0),hg',by simp only;omega⟩,?_,by simp only;omega⟩
      (refine Sub.heap1 0 ?_ (by simp only[aI,simprocAttr,bl,u32,u64,i64,tn_sub2];exact rfl) ?_ ?_;all_goals(first |exact aE _ |with_reducible rfl |(simp only[aI,simprocAttr,bl,u32,u64,i64,tn_sub2])|skip))
      (simp only[true_and];(simp only[LV.lit.injEq,Value.int.injEq,true_and,and_true,dg,LV.sl.injEq];omega))
    ·refine zG1 ?_;refine⟨⟨g,by omega,aBj hL hv hn hu h1 hg (by omega) (.inr (by omega))⟩,?_⟩;exact zO3 0
 ·rintro⟨g,hglt,hg1,hg2⟩;simp only[st]
  have hV:0<val v:=by
   rcases Nat.eq_zero_or_pos (val v)with h |h
   ·rw[h]at hu;omega
   ·exact h
  refine zG1 ?_
  refine aG (α:={p:Nat×List Nat×Nat×Nat // p.1≤v.length∧p.2.1.length=L.length∧OkD p.2.1∧p.2.2.1<4294967296∧p.2.2.2≤1∧p.2.1.take j=L.take j∧p.2.1.drop (j+p.1)=L.drop (j+p.1)∧sec p.2.1 j p.1+g*val (v.take p.1)=sec L j p.1+4294967296^p.1*(p.2.2.1+p.2.2.2)})
   (fun p=>st 160 (lk [(0,.own 0 j (v.length+1) 1),(1,dg v),(5,i64 v.length),(7,u64 g),(9,u64 p.1.2.2.1),(10,u32 p.1.2.2.2),(82,dg v),(83,i64 v.length),(84,i64 p.1.1)]) (cG [(0,⟨185,dB p.1.2.1,false⟩)]) 1) (fun p=>v.length-p.1.1) ⟨(0,L,0,0),by simp,rfl,hL,by simp,by simp,rfl,rfl,by simp[sec,val]⟩ ?_ ?_
  ·exact zO3 0
  ·rintro⟨⟨i,M,c,b⟩,hi,hM,hMo,hc,hb,ht,hd,he⟩;simp only at hi hM hMo hc hb ht hd he;simp only[st];have hx:=hv.getD i;have hy:=hMo.getD (j+i);have hgx:=nH hglt hx;by_cases hlt:i<v.length
   ·have hw:IntKind.u32.wrap ((g:Int)*(v.getD i 0:Nat)+c)=(((g*v.getD i 0+c) % 4294967296:Nat):Int):=by rw[aN];simp
    have hu0:L.getD (j+i) 0=M.getD (j+i) 0:=mV hd.symm (Nat.le_refl _);have hy2:(g*v.getD i 0+c) % 4294967296<4294967296:=Nat.mod_lt _ (by omega);refine zG1 ?_;simp only[hw];refine zH1 (g:=(sE hy hy2 hb)) (k:= ?_);simp only[u32];refine zG1 ?_;generalize hlo:(g*v.getD i 0+c) % 4294967296=lo at*;generalize hc':(g*v.getD i 0+c) / 4294967296=c' at*;have hlc:lo+4294967296*c'=g*v.getD i 0+c:=by omega
    refine⟨⟨(i+1,M.set (j+i) ((M.getD (j+i) 0+8589934592-lo-b) % 4294967296),c',if M.getD (j+i) 0<lo+b then 1 else 0),by simp only;omega,by simp[hM],hMo.set (Nat.mod_lt _ (by omega)),by simp only;omega,by simp only;split <;>omega,?_,?_,?_⟩,?_,by simp only;omega⟩
    ·simp only[pL];exact ht
    ·simp only;rw[← Nat.add_assoc,iT,← List.drop_drop,hd,List.drop_drop]
    ·simp only;rw[mU (by omega),oA,aD,Nat.pow_succ,hu0];refine aN1 he hlc ?_;split <;>omega
    ·(refine Sub.heap1 0 ?_ (by simp only[aI,simprocAttr,bl,u32,u64,i64,tn_sub2];exact rfl) ?_ ?_;all_goals(first |exact aE _ |with_reducible rfl |(simp only[aI,simprocAttr,bl,u32,u64,i64,tn_sub2])|skip))
     simp only[true_and];rw[← hc'];simp
   ·have hi2:i=v.length:=by omega
    subst hi2;rw[List.take_of_length_le (Nat.le_refl _)]at he
    refine zG1 ?_;refine zH1 (g:=(sE hy hc hb)) (k:= ?_);simp only[u32];have hd0:L.getD (j+v.length) 0=M.getD (j+v.length) 0:=mV hd.symm (Nat.le_refl _);have hdl:(M.getD (j+v.length) 0+8589934592-c-b) % 4294967296<4294967296:=Nat.mod_lt _ (by omega)
    have hdb:(M.getD (j+v.length) 0+8589934592-c-b) % 4294967296+c+b=L.getD (j+v.length) 0+4294967296*(if M.getD (j+v.length) 0<c+b then 1 else 0):=by
     rw[hd0];split <;>omega
    generalize hdd:(M.getD (j+v.length) 0+8589934592-c-b) % 4294967296=d at*;have hM1:(M.set (j+v.length) d).length=L.length:=by simp[hM]
    have hM1o:OkD (M.set (j+v.length) d):=hMo.set hdl;have hM1t:(M.set (j+v.length) d).take j=L.take j:=by rw[pL];exact ht
    have hM1d:(M.set (j+v.length) d).drop (j+(v.length+1))=L.drop (j+(v.length+1)):=by
     rw[← Nat.add_assoc,iT,← List.drop_drop,hd,List.drop_drop]
    have hsec:sec (M.set (j+v.length) d) j (v.length+1)=sec M j v.length+4294967296^v.length*d:=mU (by omega);have hU:=oA L j v.length;have hp:4294967296^(v.length+1)=4294967296^v.length*4294967296:=Nat.pow_succ ..;have hVlt:=jJ hv;have e1:4294967296^v.length*(d+c+b)=4294967296^v.length*(L.getD (j+v.length) 0+4294967296*(if M.getD (j+v.length) 0<c+b then 1 else 0)):=by rw[hdb]
    by_cases hbr:M.getD (j+v.length) 0<c+b
    ·simp only[if_pos hbr]at e1⊢
     have htot:sec (M.set (j+v.length) d) j (v.length+1)+g*val v=sec L j (v.length+1)+4294967296^(v.length+1):=by
      rw[hsec,hU,hp];simp only[Nat.mul_add]at he e1⊢;omega
     obtain⟨a1,a2,a3⟩:=bCq htot (aKu hM1o _ _) hg1 hg2
     have hgV:g*val v=(g-1)*val v+val v:=by
      conv=>lhs;rw[show g=g-1+1 by omega,Nat.add_mul,Nat.one_mul]
     have hrlt:=aKu hM1o j (v.length+1);obtain⟨q1,q2⟩:=aRt a1 (by rw[show g-1+1=g by omega];omega);rw[q1,q2];have hUlt:sec L j (v.length+1)-(g-1)*val v<4294967296^v.length:=by omega
     generalize hMM:M.set (j+v.length) d=M1 at*;refine zG1 ?_
     refine aG (α:={p:Nat×List Nat×Nat // p.1≤v.length∧p.2.1.length=L.length∧OkD p.2.1∧p.2.2≤1∧p.2.1.take j=L.take j∧p.2.1.drop (j+p.1)=M1.drop (j+p.1)∧sec p.2.1 j p.1+4294967296^p.1*p.2.2=sec M1 j p.1+val (v.take p.1)})
      (fun p=>st 160 (lk [(0,.own 0 j (v.length+1) 1),(1,dg v),(5,i64 v.length),(7,u64 (g-1)),(14,u32 p.1.2.2),(130,dg v),(131,i64 v.length),(132,i64 p.1.1)]) (cG [(0,⟨185,dB p.1.2.1,false⟩)]) 1) (fun p=>v.length-p.1.1) ⟨(0,M1,0),by simp,hM1,hM1o,by simp,hM1t,rfl,by simp[sec,val]⟩ ?_ ?_
     ·(refine Sub.heap1 0 ?_ (by simp only[aI,simprocAttr,bl,u32,u64,i64,tn_sub2];exact rfl) ?_ ?_;all_goals(first |exact aE _ |with_reducible rfl |(simp only[aI,simprocAttr,bl,u32,u64,i64,tn_sub2])|skip))
      ·simp only[true_and]
       (simp only[LV.lit.injEq,Value.int.injEq,true_and,and_true,dg,LV.sl.injEq];omega)
      ·rw[hMM]
     ·rintro⟨⟨i,N,k⟩,hi,hN,hNo,hk,hNt,hNd,hNe⟩;simp only at hi hN hNo hk hNt hNd hNe;simp only[st];have hx:=hv.getD i;have hy:=hNo.getD (j+i);by_cases hlt:i<v.length
      ·refine zG1 ?_;refine zH1 (g:=(nU hy hx (by omega))) (k:= ?_);simp only[u32];refine zG1 ?_;have hn0:M1.getD (j+i) 0=N.getD (j+i) 0:=mV hNd.symm (Nat.le_refl _);refine⟨⟨(i+1,N.set (j+i) ((N.getD (j+i) 0+v.getD i 0+k) % 4294967296),(N.getD (j+i) 0+v.getD i 0+k) / 4294967296),by simp only;omega,by simp[hN],hNo.set (Nat.mod_lt _ (by omega)),by simp only;omega,?_,?_,?_⟩,?_,by simp only;omega⟩
       ·simp only[pL];exact hNt
       ·simp only;rw[← Nat.add_assoc,iT,← List.drop_drop,hNd,List.drop_drop]
       ·simp only;rw[mU (by omega),oA,aD,Nat.pow_succ,hn0];exact iC hNe rfl
       ·exact zO3 0
      ·have hi2:i=v.length:=by omega
       subst hi2;rw[List.take_of_length_le (Nat.le_refl _)]at hNe
       have hn0:M1.getD (j+v.length) 0=N.getD (j+v.length) 0:=mV hNd.symm (Nat.le_refl _);refine zG1 ?_
       (apply bM6;(case hres=>(simp only[gW];simp(disch:=first|omega|exact kD rfl|exact kX rfl) only[smY,simprocAttr,bl,u32,u64,i64,tn_sub2];exact rfl));(case h0=>(simp only[aI,simprocAttr,bl,u32,u64,i64,tn_sub2];exact rfl));(case hpv=>(simp(disch:=first|omega|exact kD rfl|exact kX rfl) only[smY,simprocAttr,bl,u32,u64,i64,tn_sub2];try rfl)))
       have e:(((N.getD (j+v.length) 0:Nat):Int)+k) % 4294967296=((N.getD (j+v.length) 0+k) % 4294967296:Nat):=by simp
       rw[e,Int.toNat_natCast];have hs:=oA M1 j v.length
       obtain⟨z1,z2⟩:=aN2 (S:=sec N j v.length) (p:=4294967296^v.length) (k:=k) (d:=N.getD (j+v.length) 0) (R:=sec L j (v.length+1)-(g-1)*val v) (by
        rw[hn0]at hs
        rw[hs,hp]at a2
        rw[Nat.mul_add]
        omega) (aKu hNo _ _) hUlt (by omega)
       congr 1;refine aN0 (hNo.set (by omega)) (by simp[hN]) (by omega) (by rw[pL];exact hNt) ?_ ?_
       ·rw[← Nat.add_assoc,iT,← List.drop_drop,hNd,List.drop_drop,Nat.add_assoc,hM1d]
       ·rw[mU (by omega),z1,Nat.mul_zero,Nat.add_zero,z2]
    ·simp only[if_neg hbr]at e1⊢
     have htot:sec (M.set (j+v.length) d) j (v.length+1)+g*val v=sec L j (v.length+1):=by
      rw[hsec,hU];simp only[Nat.mul_add]at he e1⊢;omega
     obtain⟨q1,q2⟩:=aRt (by omega) hg2;rw[q1];refine zG1 ?_
     (apply bM6;(case hres=>(simp only[gW];simp(disch:=first|omega|exact kD rfl|exact kX rfl) only[smY,simprocAttr,bl,u32,u64,i64,tn_sub2];exact rfl));(case h0=>(simp only[aI,simprocAttr,bl,u32,u64,i64,tn_sub2];exact rfl));(case hpv=>(simp(disch:=first|omega|exact kD rfl|exact kX rfl) only[smY,simprocAttr,bl,u32,u64,i64,tn_sub2];try rfl)))
     congr 1;rw[q2];exact aN0 hM1o hM1 (by omega) hM1t hM1d (by omega)
end
section
open Go Go.Lg Go.Num
attribute [local irreducible] lrun lwp exThen exBlk keep goodPost mutPost
theorem aHt {ds:List Nat}{n:Nat}(hn:ds.length=n) (hok:OkD ds) (hlen:ds.length≤1099511627776):PGd 164 [.sl n (dB ds)] (dg (aC (val ds))):=by
 subst hn;exact iS hok hlen
theorem aDj {a:List Nat}{n s:Nat}(hn:a.length=n) (ha:OkD a) (hs:s<32) (la:a.length≤1099511627776):PGd 328 [.sl n (dB a),u64 s] (dg (jD a.length (val a / 2^s))):=by
 subst hn;exact aE8 ha hs la
theorem zH {x y:Nat}(lx:(aC x).length≤1099511627776) (ly:(aC y).length≤1099511627776):PGd 282 [dg (aC x),dg (aC y)] (i64 (xS x y)):=by
 have:=aKs (aU x) (aU y) (by rw[aJ]) (by rw[aJ]) lx ly
 rwa [aJ,aJ]at this
theorem aUn {x:Nat}(h:(aC x).length=1):(aC x).getD 0 0=x∧x≠0∧x<4294967296:=by
 have hx:x<4294967296^1:=by have:=bN x;rwa [h]at this
 have h0:x≠0:=fun e=>by subst e;rw[bD]at h;simp at h
 rw[eU h0 (by omega)];exact⟨rfl,h0,by omega⟩
theorem len_two {x:Nat}(h:(aC x).length≤2):x<18446744073709551616:=by
 have:=bN x;have h2:4294967296^(aC x).length≤4294967296^2:=Nat.pow_le_pow_right (by omega) h;omega
theorem wC {x:Nat}(h:(aC x).length≤2):PGd 307 [dg (aC x)] (u64 x):=by
 have:=aX6 (aU x) h
 rwa [aJ]at this
theorem aRv {x d:Nat}(hd0:0<d) (hd:d<4294967296) (la:(aC x).length≤1099511627776):PGd 324 [dg (aC x),u32 d] (.tup [dg (jD (aC x).length (x / d)),u32 (x % d)]):=by
 have:=aRq (aU x) hd0 hd la
 rwa [aJ]at this
theorem uK {x y:Nat}(hy:y≠0) (lx:(aC x).length≤549755813888) (ly:(aC y).length≤549755813888):
  PGd 308 [dg (aC x),dg (aC y)] (.tup [dg (aC (x / y)),dg (aC (x % y))]):=by
 refine aA aV Tryz.func308 rfl (by decide) (nt:=101) rfl (rs:=[.tmp 4,.tmp 5]) rfl (aW rfl) ?_;have hly:(aC y).length≠0:=fun e=>hy (bR.1 (List.eq_nil_of_length_eq_zero e))
 refine aM ?_;refine cQ (g:=(zH (by omega) (by omega))) (k:= ?_);simp only[i64];by_cases h1:x<y
 ·have hc:xS x y= -1:=by simp[xS,h1]
  rw[hc];refine aM ?_;refine cQ (g:=(nZ _ (by omega))) (k:= ?_);refine aM ?_;refine gZ ?_;refine iQ ?_;rw[Nat.div_eq_of_lt h1,Nat.mod_eq_of_lt h1,bD];rfl
 have hc:¬xS x y<0:=by unfold xS;rw[if_neg h1];split <;>simp
 have hlxy:(aC y).length≤(aC x).length:=bM (by omega);by_cases h2:(aC x).length≤2
 ·have bx:=len_two h2;have by_:=len_two (x:=y) (by omega);have hdiv:=Nat.div_le_self x y;have hmod:=Nat.mod_lt x (Nat.pos_of_ne_zero hy);refine aM ?_;refine cQ (g:=(wC h2)) (k:= ?_);simp only[u64];refine aM ?_;refine cQ (g:=(wC (by omega))) (k:= ?_);simp only[u64];have p1:=Int.natCast_nonneg (x / y);have p2:=Int.natCast_nonneg (x % y);refine aM ?_;refine cQ (g:=(kR (x / y) (by omega))) (k:= ?_);refine aM ?_;refine cQ (g:=(kR (x % y) (by omega))) (k:= ?_);refine aM ?_;exact lV
 by_cases h3:(aC y).length=1
 ·obtain⟨e1,e2,e3⟩:=aUn h3;have hmod:=Nat.mod_lt x (Nat.pos_of_ne_zero hy);refine aM ?_;simp only[e1];refine cQ (g:=(aRv (d:=y) (by omega) e3 (by omega))) (k:= ?_);simp only[u32];refine aM ?_;have hv:x / y<4294967296^(aC x).length:=Nat.lt_of_le_of_lt (Nat.div_le_self x y) (bN x);refine cQ (g:=(iS (fL _ _) (by rw[bO];omega))) (k:= ?_);rw[eG hv];refine aM ?_;refine cQ (g:=(kR (x % y) (by omega))) (k:= ?_);refine aM ?_;exact lV
 have ht0:=aBh hy;have htl:=(aU y).getD ((aC y).length-1);generalize ht:(aC y).getD ((aC y).length-1) 0=t at*;obtain⟨b1,b2,b3,b4⟩:=aYb ht0 htl;obtain⟨f1,f2,f3⟩:=aRu (s:=32-Lib.bitLen t) hy ht.symm b3 b4 (by omega);refine aM ?_;simp only[ht];refine cQ (g:=(aYa htl)) (k:= ?_);simp only[i64];have hsr:∃ s:Nat,s=32-Lib.bitLen t∧(32:Int)-(Lib.bitLen t:Int)=(s:Int)∧s<32:=⟨_,rfl,by omega,by omega⟩;obtain⟨s,hs0,hs1,hs2⟩:=hsr;rw[← hs0]at b3 b4 f1 f2 f3
 rw[hs1];have h2s:=Nat.two_pow_pos s;have hxlt:=bN x;have hylt:=bN y
 have hx2:x*2^s<4294967296^((aC x).length+1):=by
  rw[Nat.pow_succ];exact Nat.mul_lt_mul'' hxlt (Nat.lt_of_lt_of_le (Nat.pow_lt_pow_right (by omega) hs2) (by omega))
 have hy2:y*2^s<4294967296^((aC y).length+1):=by
  rw[Nat.pow_succ];exact Nat.mul_lt_mul'' hylt (Nat.lt_of_lt_of_le (Nat.pow_lt_pow_right (by omega) hs2) (by omega))
 have hVlt:y*2^s<4294967296^(aC y).length:=by
  have:=bN (y*2^s)
  rwa [f1]at this
 have hV0:0<y*2^s:=Nat.mul_pos (Nat.pos_of_ne_zero hy) h2s
 have hA:x*2^s<y*2^s*4294967296^((aC x).length+1-(aC y).length):=by
  have a1:=Nat.mul_le_mul_right (4294967296^((aC x).length+1-(aC y).length)) f3
  have a2:4294967296^((aC y).length-1)*2^s*4294967296^((aC x).length+1-(aC y).length)=4294967296^(aC x).length*2^s:=by
   rw[Nat.mul_right_comm,← Nat.pow_add,show(aC y).length-1+((aC x).length+1-(aC y).length)=(aC x).length by omega]
  have a3:=Nat.mul_lt_mul_of_pos_right hxlt h2s;omega
 refine aM ?_;refine wB (by simp only[List.size_toArray,List.length_cons,List.length_nil,Nat.reduceAdd,Nat.max_def,Nat.reduceLeDiff,↓reduceIte];exact rfl) rfl rfl rfl (by decide) rfl (by simp(disch:=first|omega|exact kD rfl|exact kX rfl) only[smY,simprocAttr,bl,u32,u64,i64];try exact rfl) (aCx (s:=s) (aU x) hs2 (by omega)) (by simp[aB,dg,u64]) (by simp[dE]) ?_;rw[aJ];refine aM ?_;refine cQ (g:=(aKt (s:=s) (aU y) hs2 (by omega))) (k:= ?_);rw[aJ];refine aM ?_;refine cQ (g:=(iS (fL _ _) (by rw[bO];omega))) (k:= ?_);rw[eG hy2];rw[← f1]at hVlt hA f2
 have hvo:=aU (y*2^s);have hvv:=aJ (y*2^s);have hlv:2≤(aC (y*2^s)).length:=by omega
 generalize hv:aC (y*2^s)=v at*;refine aM ?_;have hm0:(aC x).length+1-v.length≤(aC x).length+1:=by omega
 have hmm:∀ k l:Nat,k+l+1-k=l+1:=fun k l=>by omega
 have hmt:∀ k l:Nat,(((k+1:Nat):Int)-1+(l:Int)+1).toNat=k+l+1:=fun k l=>by omega
 refine aG (α:={p:Nat×List Nat×List Nat // p.1≤(aC x).length+1-v.length∧Div (x*2^s) (y*2^s) v.length ((aC x).length+1) ((aC x).length+1-v.length) p.1 p.2.1 p.2.2})
  (fun p=>st 101 (lk [(4,.own 1 0 ((aC x).length+1-v.length) 1),(10,u64 s),(11,.own 0 0 ((aC x).length+1) 1),(12,dg v),(13,i64 v.length),(14,i64 ((p.1.1:Int)-1))]) (cG [(0,⟨185,dB p.1.2.1,false⟩),(1,⟨185,dB p.1.2.2,false⟩)]) 2) (fun p=>p.1.1) ⟨(_,_,_),Nat.le_refl _,aYc hx2 hA hm0⟩ ?_ ?_
 ·(refine Sub.heap2 30 38 (by decide) ?_ (by simp only[aI,simprocAttr,bl,u32,u64,i64];exact rfl) (by simp only[aI,simprocAttr,bl,u32,u64,i64];exact rfl) ?_ ?_ ?_ ?_;all_goals(first |exact aE _ |with_reducible rfl |(simp only[aI,simprocAttr,bl,u32,u64,i64])|skip))
  ·rfl
  ·exact iR _
 ·rintro⟨⟨k,L,q⟩,hk,hD⟩;simp only at hk hD;simp only[st];have hlL:=hD.lL;have hlq:=hD.lq;rcases k with _ |k
  ·have hn1:(L.take v.length).length=v.length:=by rw[List.length_take,hlL];omega
   have hn2:(q.take ((aC x).length+1-v.length))=q:=List.take_of_length_le (by omega);obtain⟨r1,r2⟩:=bJw hD hy hVlt (by omega);refine aM ?_;refine cQ (g:=(aHt (ds:=q.take ((aC x).length+1-v.length)) (by rw[hn2];exact hlq) (hD.oq.take _) (by rw[hn2];omega))) (k:= ?_);rw[hn2,r1];refine aM ?_;refine cQ (g:=(aDj hn1 (hD.oL.take _) hs2 (by omega))) (k:= ?_);rw[r2,hn1];refine aM ?_
   have hmy:x % y<4294967296^v.length:=by
    rw[f1];exact Nat.lt_trans (Nat.mod_lt x (Nat.pos_of_ne_zero hy)) hylt
   refine cQ (g:=(iS (fL _ _) (by rw[bO];omega))) (k:= ?_);rw[eG hmy];refine aM ?_;exact lV
  ·obtain⟨g1,g2,g3⟩:=aUm hD hVlt (by omega);have hq1:sec L k (v.length+1) / val v<4294967296:=Nat.div_lt_of_lt_mul (by rw[hvv,Nat.mul_comm];exact g2);refine tX (nd hmm hmt) ?_;refine bCm 0 (by simp only[List.size_toArray,List.length_cons,List.length_nil,Nat.reduceAdd,Nat.max_def,Nat.reduceLeDiff,↓reduceIte];exact rfl) rfl rfl rfl (by decide) rfl (by simp(disch:=first|omega|exact kD rfl|exact kX rfl) only[smY,simprocAttr,bl,u32,u64,i64];try exact rfl) (by simp only[aI,simprocAttr,bl,u32,u64,i64];try exact rfl) (aYd (v:=v) (j:=k) hD.oL hvo hlv (by omega) (by rw[hvv];exact g2) f2 (by omega)) (by simp[renLs,renL,dg]) (aE _) (aE _) ?_;rw[hvv]at hq1⊢
   simp only[u32];refine aM ?_;refine⟨⟨(k,_,_),by simp only;omega,bCr hD hVlt hV0 (by omega) (by omega) rfl hq1⟩,?_,by simp only;omega⟩
   (refine Sub.heap2 0 1 (by decide) ?_ (by simp only[aI,simprocAttr,bl,u32,u64,i64];exact rfl) (by simp only[aI,simprocAttr,bl,u32,u64,i64];exact rfl) ?_ ?_ ?_ ?_;all_goals(first |exact aE _ |with_reducible rfl |(simp only[aI,simprocAttr,bl,u32,u64,i64])|skip))
   simp only[true_and]
   (simp only[LV.lit.injEq,Value.int.injEq,true_and,and_true,dg,LV.sl.injEq];omega)
end
end Go.Proofs.YtaidcaemdkncgaaGreatDoor
namespace Go.Num
section
def len (z:Int):Nat:=(aC z.natAbs).length
theorem sG (x y:Nat):(aC (x*y)).length≤(aC x).length+(aC y).length:=by
 refine bV ?_;rw[Nat.pow_add];exact Nat.mul_lt_mul'' (bN x) (bN y)
theorem aRw (x y:Nat):(aC (x+y)).length≤max (aC x).length (aC y).length+1:=by
 refine bV ?_;rw[Nat.pow_succ];have h1:4294967296^(aC x).length≤4294967296^max (aC x).length (aC y).length:=Nat.pow_le_pow_right (by omega) (by omega);have h2:4294967296^(aC y).length≤4294967296^max (aC x).length (aC y).length:=Nat.pow_le_pow_right (by omega) (by omega);have h3:=bN x;have h4:=bN y;omega
theorem cJ (x y:Int):len (x*y)≤len x+len y:=by
 unfold len;rw[Int.natAbs_mul];exact sG _ _
theorem sH (x y:Int):len (x+y)≤max (len x) (len y)+1:=by
 unfold len;exact Nat.le_trans (bM (Int.natAbs_add_le x y)) (aRw _ _)
theorem mW (x:Int):len (-x)=len x:=by simp[len]
theorem wD {x y:Int}(h:x.natAbs≤y.natAbs):len x≤len y:=bM h
theorem aRx {z:Int}(h:z.natAbs<4294967296):len z≤1:=bV (k:=1) (by omega)
theorem xU {x y:Int}(h:y≠0):len ((Int.gcd x y:Nat):Int)≤len y:=by
 refine wD ?_;have:=Nat.le_of_dvd (Int.natAbs_pos.2 h) (Nat.gcd_dvd_right x.natAbs y.natAbs);simpa[Int.gcd]using this
def aK (n:Nat):Nat:=if n=0 then 0 else Nat.log2 n+1
theorem uL {n k:Nat}(h1:2^k≤n) (h2:n<2^(k+1)):aK n=k+1:=by
 have h0:n≠0:=by have:=Nat.two_pow_pos k;omega
 rw[aK,if_neg h0];have a1:=(Nat.le_log2 h0).2 h1;have a2:=(Nat.log2_lt h0).2 h2;omega
theorem jF (n:Nat):n<2^aK n:=by
 unfold aK;split
 ·simp[*]
 ·exact Nat.lt_log2_self
theorem uM {n:Nat}(h:n≠0):2^(aK n-1)≤n:=by
 rw[aK,if_neg h,Nat.add_sub_cancel];exact Nat.log2_self_le h
theorem sI {n m:Nat}(h:n≤m):aK n≤aK m:=by
 by_cases h0:n=0
 ·subst h0;simp[aK]
 ·have h1:=uM h0;have h2:=jF m;have h3:2^(aK n-1)<2^aK m:=by omega
  have:=(Nat.pow_lt_pow_iff_right (show 1<2 by omega)).1 h3;omega
theorem aCz (k:Nat):4294967296^k=2^(32*k):=by rw[Nat.pow_mul]
theorem jM (n:Nat):aK n≤32*(aC n).length:=by
 by_cases h0:n=0
 ·subst h0;simp[aK]
 ·have h1:=uM h0;have h2:=bN n;rw[aCz]at h2
  have h3:2^(aK n-1)<2^(32*(aC n).length):=by omega
  have:=(Nat.pow_lt_pow_iff_right (show 1<2 by omega)).1 h3;omega
theorem aBl (n:Nat):32*(aC n).length≤aK n+31:=by
 by_cases h0:n=0
 ·subst h0;simp[bD]
 ·have h1:=pI h0;have h2:=jF n;rw[aCz]at h1
  have h3:2^(32*((aC n).length-1))<2^aK n:=by omega
  have:=(Nat.pow_lt_pow_iff_right (show 1<2 by omega)).1 h3;omega
theorem aIt {n t k:Nat}(h0:n≠0) (ht:t=(aC n).getD ((aC n).length-1) 0) (h1:2^k≤t) (h2:t<2^(k+1)):aK n=32*((aC n).length-1)+(k+1):=by
 rw[aBk h0,aCz]at ht
 generalize 32*((aC n).length-1)=m at*;have hp:=Nat.two_pow_pos m;have hdm:=Nat.div_add_mod n (2^m);have hmod:=Nat.mod_lt n hp;rw[← ht]at hdm
 rw[show m+(k+1)=m+k+1 by omega];refine uL ?_ ?_
 ·rw[Nat.pow_add];exact Nat.le_trans (Nat.mul_le_mul_left _ h1) (by omega)
 ·have:=Nat.mul_le_mul_left (2^m) (show t+1≤2^(k+1)from h2);rw[← Nat.pow_add,Nat.mul_add,Nat.mul_one]at this
  rw[show m+k+1=m+(k+1)by omega];omega
end
section
theorem aBm {x y q r:Int}(hy:y≠0) (h:r+y*q=x) (h0:0≤r) (h1:r<(y.natAbs:Int)):x / y=q∧x % y=r:=by
 rcases Int.lt_or_gt_of_ne hy with hn |hp
 ·have h2:0< -y:=by omega
  have h3:=(Int.ediv_emod_unique (a:=x) (b:= -y) (r:=r) (q:= -q) h2).2 ⟨by rw[Int.neg_mul_neg];exact h,h0,by omega⟩;rw[Int.ediv_neg,Int.emod_neg]at h3
  exact⟨by omega,h3.2⟩
 ·exact(Int.ediv_emod_unique hp).2 ⟨h,h0,by omega⟩
theorem aN4 {x y:Int}(hy:y≠0):(0≤x→x / y=(if(decide (x<0) !=decide (y<0))=true then -((x.natAbs / y.natAbs:Nat):Int)else((x.natAbs / y.natAbs:Nat):Int))∧x % y=((x.natAbs % y.natAbs:Nat):Int))∧
  (x<0→x.natAbs % y.natAbs=0→x / y=(if(decide (x<0) !=decide (y<0))=true then -((x.natAbs / y.natAbs:Nat):Int)else((x.natAbs / y.natAbs:Nat):Int))∧x % y=((x.natAbs % y.natAbs:Nat):Int))∧
  (x<0→x.natAbs % y.natAbs≠0→x / y=(if(decide (x<0) !=decide (y<0))=true then -((x.natAbs / y.natAbs+1:Nat):Int)else((x.natAbs / y.natAbs+1:Nat):Int))∧x % y=((y.natAbs-x.natAbs % y.natAbs:Nat):Int)):=by
 have hd:=Nat.div_add_mod x.natAbs y.natAbs;have hm:=Nat.mod_lt x.natAbs (Int.natAbs_pos.2 hy);generalize hq:x.natAbs / y.natAbs=q at*;generalize hr:x.natAbs % y.natAbs=r at*;have hdi:(y.natAbs:Int)*(q:Int)+(r:Int)=(x.natAbs:Int):=by rw[← hd];simp
 refine⟨fun hx=> ?_,fun hx h0=> ?_,fun hx h0=> ?_⟩
 ·refine aBm hy ?_ (by omega) (by omega);have e1:decide (x<0)=false:=by simp;omega
  by_cases h:y<0
  ·have e2:decide (y<0)=true:=by simpa using h
   rw[e1,e2,if_pos (by simp)];have e3:(y.natAbs:Int)= -y:=by omega
   rw[e3,Int.neg_mul]at hdi
   rw[Int.mul_neg];omega
  ·have e2:decide (y<0)=false:=by simpa using h
   rw[e1,e2,if_neg (by simp)];have e3:(y.natAbs:Int)=y:=by omega
   rw[e3]at hdi
   omega
 ·refine aBm hy ?_ (by omega) (by omega);have e1:decide (x<0)=true:=by simpa using hx
  by_cases h:y<0
  ·have e2:decide (y<0)=true:=by simpa using h
   rw[e1,e2,if_neg (by simp)];have e3:(y.natAbs:Int)= -y:=by omega
   rw[e3,Int.neg_mul]at hdi
   omega
  ·have e2:decide (y<0)=false:=by simpa using h
   rw[e1,e2,if_pos (by simp)];have e3:(y.natAbs:Int)=y:=by omega
   rw[e3]at hdi
   rw[Int.mul_neg];omega
 ·refine aBm hy ?_ (by omega) (by omega);have e1:decide (x<0)=true:=by simpa using hx
  by_cases h:y<0
  ·have e2:decide (y<0)=true:=by simpa using h
   rw[e1,e2,if_neg (by simp)];have e3:(y.natAbs:Int)= -y:=by omega
   rw[e3,Int.neg_mul]at hdi
   have:y*((q+1:Nat):Int)=y*q+y:=by
    rw[Int.natCast_add,Int.natCast_one,Int.mul_add,Int.mul_one]
   rw[this];omega
  ·have e2:decide (y<0)=false:=by simpa using h
   rw[e1,e2,if_pos (by simp)];have e3:(y.natAbs:Int)=y:=by omega
   rw[e3]at hdi
   have:y*((q+1:Nat):Int)=y*q+y:=by
    rw[Int.natCast_add,Int.natCast_one,Int.mul_add,Int.mul_one]
   rw[Int.mul_neg,this];omega
end
section
theorem jY (a:Int) (e:Nat):len (a^e)≤e*len a+1:=by
 induction e with
 |zero=>
  have:len 1≤1:=aRx (by simp)
  simpa using this
 |succ e ih=>
  rw[Int.pow_succ];have:=cJ (a^e) a;rw[Nat.add_mul,Nat.one_mul];omega
theorem aUo (a:Int) (n k:Nat):a^(n / 2^k)=a^(n / 2^(k+1))*a^(n / 2^(k+1))*(if n / 2^k % 2=1 then a else 1):=by
 have h:n / 2^k=n / 2^(k+1)+n / 2^(k+1)+n / 2^k % 2:=by
  rw[Nat.pow_succ,← Nat.div_div_eq_div_mul];omega
 conv=>lhs;rw[h]
 rw[Int.pow_add,Int.pow_add];split
 ·rename_i h1;rw[h1,Int.pow_one]
 ·rename_i h1;have:n / 2^k % 2=0:=by omega
  rw[this,Int.pow_zero]
theorem bCs {a:Int}(h:aK a.natAbs≤1) (n:Nat):a^(min n (2+n % 2))=a^n:=by
 have h1:=jF a.natAbs;have h2:a.natAbs<2:=Nat.lt_of_lt_of_le h1 (Nat.pow_le_pow_right (by omega) h);have ha:a=0∨a=1∨a= -1:=by omega
 by_cases hn:n≤2+n % 2
 ·rw[Nat.min_eq_left hn]
 ·rw[Nat.min_eq_right (by omega)]
  have key:∀ m e:Nat,2≤m→m % 2=e→a^m=a^(2+e):=by
   intro m e hm he;obtain⟨k,rfl⟩:∃ k,m=2*k+e+2:=⟨(m-2-e) / 2,by omega⟩;rcases ha with rfl |rfl |rfl
   ·rw[Int.pow_add (m:=2*k+e),Int.pow_add (m:=2)];simp
   ·rw[Int.one_pow,Int.one_pow]
   ·have:((-1:Int))^(2*k)=1:=by
     rw[Int.pow_mul];simp[Int.one_pow]
    rw[Nat.add_assoc,Int.pow_add,this,Int.one_mul,Nat.add_comm]
  exact(key n _ (by omega) rfl).symm
end
end Go.Num
namespace Go.Proofs.YtaidcaemdkncgaaGreatDoor
open Go Go.Lg Go.Num
attribute [local irreducible] lrun lwp exThen exBlk keep goodPost mutPost
theorem dG (n:Nat) (h:(aC n).length≤1099511627776):PGd 164 [dg (aC n)] (dg (aC n)):=by
 have:=iS (aU n) h
 rwa [aJ]at this
theorem kS {neg:Bool}{n:Nat}{z:Int}(hz:(if neg then -(n:Int)else n)=z) (h:(aC n).length≤1099511627776):PGd 209 [bl neg,dg (aC n)] (aO z):=by
 have:=pJ (neg:=neg) (aU n) h
 rwa [aJ,hz]at this
theorem kT {neg:Bool}{ds:List Nat}{z:Int}(hok:OkD ds) (hz:(if neg then -(val ds:Int)else val ds)=z) (h:ds.length≤1099511627776):PGd 209 [bl neg,dg ds] (aO z):=by
 have:=pJ (neg:=neg) hok h
 rwa [hz]at this
theorem lX (z:Int) (h:len z≤1099511627776):PGd 176 [aO z] (aO z):=by
 unfold len at h;simp only[aO,bl];refine aA aV Tryz.func176 rfl (by decide) (nt:=10) rfl (rs:=[.cell 2 45]) rfl (aW rfl) ?_;refine aM ?_;refine cQ (g:=(dG _ h)) (k:= ?_);refine aM ?_;refine cQ (g:=(nZ _ h)) (k:= ?_);refine aM ?_;refine cQ (g:=(kS (neg:=decide (z<0)) (z:=z) (by by_cases h:z<0 <;>simp[h] <;>omega) h)) (k:= ?_);simp only[aO];refine aM ?_;exact lV
theorem aFd (z:Int) (h:len z≤1099511627776):PGd 227 [aO z] (aO (-z)):=by
 unfold len at h;simp only[aO,bl];refine aA aV Tryz.func227 rfl (by decide) (nt:=11) rfl (rs:=[.cell 2 45]) rfl (aW rfl) ?_;refine aM ?_;refine cQ (g:=(dG _ h)) (k:= ?_);refine aM ?_;refine cQ (g:=(nZ _ h)) (k:= ?_);refine aM ?_;refine cQ (g:=(kS (neg:= !decide (z<0)) (z:= -z) (by by_cases h:z<0 <;>simp[h] <;>omega) h)) (k:= ?_);simp only[aO];refine aM ?_;exact lV
theorem xV (z:Int) (h:len z≤1099511627776):PGd 75 [aO z] (i64 z.sign):=by
 unfold len at h;simp only[aO,bl,i64];refine aA aV Tryz.func75 rfl (by decide) (nt:=12) rfl (rs:=[.tmp 2]) rfl (aW rfl) ?_;refine aM ?_;refine cQ (g:=(dG _ h)) (k:= ?_);by_cases h0:z=0
 ·subst h0;have e0:(aC 0).length=0:=by simp[bD]
  refine aM ?_;refine gZ ?_;refine iQ ?_;rfl
 ·have h1:(aC z.natAbs).length≠0:=fun e=>h0 (by have:=bR.1 (List.eq_nil_of_length_eq_zero e);omega)
  by_cases h2:z<0
  ·refine aM ?_;refine gZ ?_;refine iQ ?_;rw[Int.sign_eq_neg_one_of_neg h2]
  ·refine aM ?_;refine gZ ?_;refine iQ ?_;rw[Int.sign_eq_one_of_pos (by omega)]
theorem gD (x y:Int) (hx:len x≤274877906944) (hy:len y≤274877906944):PGd 141 [aO x,aO y] (aO (x*y)):=by
 unfold len at hx hy;simp only[aO,bl];refine aA aV Tryz.func141 rfl (by decide) (nt:=18) rfl (rs:=[.cell 4 45]) rfl (aW rfl) ?_;refine aM ?_;refine cQ (g:=(dG _ (by omega))) (k:= ?_);refine aM ?_;refine cQ (g:=(dG _ (by omega))) (k:= ?_);refine aM ?_;refine cQ (g:=(aRo (aU _) (aU _) (by omega) (by omega))) (k:= ?_)
 have hv:OkD (xT (aC x.natAbs) (aC y.natAbs))∧val (xT (aC x.natAbs) (aC y.natAbs))=x.natAbs*y.natAbs∧(xT (aC x.natAbs) (aC y.natAbs)).length≤(aC x.natAbs).length+(aC y.natAbs).length:=by
  unfold xT;rw[aJ,aJ];split
  ·rename_i h;refine⟨OkD.nil,?_,by simp⟩;rcases h with h |h
   ·rw[bR.1 (List.eq_nil_of_length_eq_zero h)];simp[val]
   ·rw[bR.1 (List.eq_nil_of_length_eq_zero h)];simp[val]
  ·split
   ·exact⟨aU _,aJ _,sG _ _⟩
   ·refine⟨fL _ _,eG ?_,by rw[bO];omega⟩;rw[Nat.pow_add];exact Nat.mul_lt_mul'' (bN _) (bN _)
 obtain⟨h1,h2,h3⟩:=hv;generalize xT (aC x.natAbs) (aC y.natAbs)=ds at*;refine aM ?_
 refine rY rfl (by decide) rfl (by simp(disch:=first|omega|exact kD rfl|exact kX rfl) only[smY,simprocAttr,bl,u32,u64,i64];exact rfl) (kT (neg:=(decide (x<0) !=decide (y<0))) (z:=x*y) h1 (by
  rw[h2];by_cases hx:x<0 <;>by_cases hy:y<0 <;>simp only[hx,hy,decide_true,decide_false,bne_self_eq_false,Bool.true_bne,Bool.false_bne,Bool.not_false,Bool.not_true,if_true,Bool.false_eq_true,if_false]
  ·rw[← Int.natAbs_mul,Int.natAbs_of_nonneg (Int.mul_nonneg_of_nonpos_of_nonpos (by omega) (by omega))]
  ·rw[← Int.natAbs_mul];have:=Int.mul_nonpos_of_nonpos_of_nonneg (a:=x) (b:=y) (by omega) (by omega);omega
  ·rw[← Int.natAbs_mul];have:=Int.mul_nonpos_of_nonneg_of_nonpos (a:=x) (b:=y) (by omega) (by omega);omega
  ·rw[← Int.natAbs_mul,Int.natAbs_of_nonneg (Int.mul_nonneg (by omega) (by omega))]) (by omega)) ?_
 simp only[aO];refine aM ?_;exact lV
end Go.Proofs.YtaidcaemdkncgaaGreatDoor
