/- Contracts of functions of the program, and what proves them (texts: Lg24 AL EncE NumE AD AE G0 Gg G1). -/
import Derived.KernelRfl
import Derived.Test.YtpkjokknpbclhaaGreatZAC
import Derived.Test.YtpkjokknpbclhaaGreatZAD
import Derived.Test.YtpkjokknpbclhaaGreatZAH
import Derived.Test.YtpkjokknpbclhaaGreatZAL
import Derived.Test.YtpkjokknpbclhaaGreatZAN
set_option linter.all false
namespace Go.Lg
open Go
section
variable {P : Program} [Laid P] {base i : Nat} {mu : Bool} {ok : Nat → Nat → Bool} {ops : Array Oper} {K : LS → Prop}
theorem runE_app : ∀ (l l' : List Oper) (i : Nat) {s : LS} {j : Nat} {s' : LS},runE P base ok ops i l (some s) = (j,[],some s') → lrun P mu base ok ops j l' s' K → lrun P mu base ok ops i (l ++ l') s K
 | [],l',i,s,j,s',h,hk => by simp only [runE,Prod.mk.injEq,Option.some.injEq] at h;obtain ⟨rfl,_,rfl⟩ := h;exact hk
 | o :: rest,l',i,s,j,s',h,hk => by
   unfold runE at h
   split at h
   · simp at h
   · cases hs : stepE P (base + i) (ok i) ops o s with
     | none =>
       rw [hs] at h
       exfalso
       cases rest <;> simp [runE] at h
     | some s1 =>
       rw [hs] at h
       exact .inl (stepE_sound hs (runE_app rest l' (i + 1) h hk))
theorem l_split (k : Nat) {l : List Oper} {s : LS} {j : Nat} {s' : LS} (hrun : runE P base ok ops i (l.take k) (some s) = (j,[],some s')) (hnext : lrun P mu base ok ops j (l.drop k) s' K) : lrun P mu base ok ops i l s K := by
 have := runE_app (mu := mu) (K := K) (l.take k) (l.drop k) i hrun hnext
 rwa [List.take_append_drop] at this
theorem l_append {t dd b nn e z by_ m : Nat} {zl cells news : List LV} {n nb : Nat} {F : Nat → LV} {H : Nat → Option Blk} {d x : Operand} {ty : TypeId} {p : String} {a : Array Edge} {rest : List Oper}
  (hdn : dd < n) (he : elemL P t = some e) (hz : sizeL P e = some (z + 1)) (hby : bytesL P e = some by_) (hzl : zeroL P e = some zl) (hd : opnd ⟨n,F,H,nb⟩ d = .own b 0 nn (z + 1)) (hb : H b = some ⟨e,cells,false⟩) (hnk : nn * (z + 1) ≤ cells.length)
  (hsrc : srcL ⟨n,F,H,nb⟩ (fun _ => true) (z + 1) (opnd ⟨n,F,H,nb⟩ x) = some (m,news)) (hm0 : m ≠ 0) (hbb : (nn + m) * by_ ≤ 140737488355328) (hml : nn + m ≤ maxLen)
  (hB : lrun P true base ok ops (i + 1) rest ⟨n,upd F dd (.own b 0 (nn + m) (z + 1)),upd H b (some ⟨e,cells.take (nn * (z + 1)) ++ news,false⟩),nb⟩ K)
  (hA : lrun P true base ok ops (i + 1) rest ⟨n,upd F dd (.own (base + i) 0 (nn + m) (z + 1)),upd H (base + i) (some ⟨e,cells.take (nn * (z + 1)) ++ news,false⟩),nb⟩ K) :
  lrun P true base ok ops i (⟨some dd,.call { callee := .builtin .append,args := #[d,x],argTypes := #[t,t] },ty,p,a,none⟩ :: rest) ⟨n,F,H,nb⟩ K :=
 .inr (.inr ⟨rfl,t,d,x,dd,b,nn,e,z,by_,zl,⟨e,cells,false⟩,m,news,rfl,rfl,hdn,rfl,he,hz,hby,hzl,hd,hb,rfl,rfl,hnk,hsrc,hm0,hbb,hml,hB,hA⟩)
end
theorem reps_snoc {St : Nat → Prop} {hp : Array Obj} {μ : Nat → Option (Nat × Nat)} {x : LV} : ∀ {cs : List LV} {vs : List Value},Reps St hp μ (cs ++ [x]) vs → ∃ us u,vs = us ++ [u] ∧ Reps St hp μ cs us ∧ Rep St hp μ x u
 | [],vs,h => by
   obtain ⟨u,us,rfl,hu,hs⟩ := Reps.head h
   obtain rfl : us = [] := List.eq_nil_of_length_eq_zero hs.1.symm
   exact ⟨[],u,rfl,Reps.nil,hu⟩
 | c :: cs,vs,h => by
   obtain ⟨u,us,rfl,hu,hs⟩ := Reps.head (cs := cs ++ [x]) h
   obtain ⟨us',u',rfl,h1,h2⟩ := reps_snoc hs
   exact ⟨u :: us',u',rfl,Reps.cons hu h1,h2⟩
theorem rep_unit {St : Nat → Prop} {hp : Array Obj} {μ μ' : Nat → Option (Nat × Nat)} {r : LV} {v : Value} (h : r = .tup []) (hr : Rep St hp μ r v) : Rep St hp μ' r v := by
 subst h
 cases hr with
 | tup hl _ => exact .tup hl (fun j c u hc _ => by simp at hc)
theorem h_frame2 {P : Program} [Laid P] {f : FuncId} {pre : List LV} {ts te n n' k0 : Nat} {cells cells' : List LV} {r : LV}
  (hg : HGood P f (pre ++ [.ptr 0 0]) (lkH [(0,⟨ts,[.own 1 0 n 1],false⟩),(1,⟨te,cells,false⟩)]) 2 r (lkH [(0,⟨ts,[.own 2 0 n' 1],false⟩),(2,⟨te,cells',false⟩)]) k0)
  (hpre : ∀ c ∈ pre,plainC c = true) (hr : r = .tup []) (hpl : ∀ c ∈ cells,plainC c = true) (hpl' : ∀ c ∈ cells',plainC c = true)
  {h : Nat → Option Blk} {c b nb : Nat} (hc : h c = some ⟨ts,[.own b 0 n 1],false⟩) (hb : h b = some ⟨te,cells,false⟩) (hne : c ≠ b) :
  HGood P f (pre ++ [.ptr c 0]) h nb r (upd (upd (upd h b none) c (some ⟨ts,[.own nb 0 n' 1],false⟩)) nb (some ⟨te,cells',false⟩)) (nb + 1) := by
 obtain ⟨hen,hgood⟩ := hg
 refine ⟨hen,fun w0 M St0 μ St w vs hL h0 hnb hvs => ?_⟩
 obtain ⟨g1,R1,cs1,hμ1,hg1,hsz1,hle1,hr1,ho1,_,hns1⟩ := h0.blk c _ hc
 obtain ⟨g2,R2,cs2,hμ2,hg2,hsz2,hle2,hr2,ho2,_,hns2⟩ := h0.blk b _ hb
 have hns1 := hns1 rfl
 have hns2 := hns2 rfl
 have hlt1 := (h0.lt c g1 R1 hμ1).1
 have hlt2 := (h0.lt b g2 R2 hμ2).1
 have h12 : g1 ≠ g2 := fun e => hne (h0.inj c b _ _ g1 R1 R2 hc hb hμ1 (by rw [e];exact hμ2))
 have hcn : c < nb := Nat.lt_of_not_le fun hh => by rw [hnb c hh] at hμ1;cases hμ1
 have hbn : b < nb := Nat.lt_of_not_le fun hh => by rw [hnb b hh] at hμ2;cases hμ2
 -- the two blocks by themselves
 obtain ⟨us,u,rfl,hus,hu⟩ := reps_snoc hvs
 have hu' : Rep St w.heap (fun x => if x = 0 then some (g1,R1) else if x = 1 then some (g2,R2) else none) (.ptr 0 0) u := by
  cases hu with
  | ptr hh => rw [hμ1] at hh;cases hh;exact .ptr rfl
 have hsm : Inv w (fun g => g = g1 ∨ g = g2) St ⟨0,fun _ => .dead,lkH [(0,⟨ts,[.own 1 0 n 1],false⟩),(1,⟨te,cells,false⟩)],0⟩ (fun x => if x = 0 then some (g1,R1) else if x = 1 then some (g2,R2) else none) St #[] w := by
  refine ⟨fun _ => .dead _,rfl,?_,?_,?_,fun g hg => ⟨(h0.st_lt g hg).1,.inl hg⟩,fun _ h => h,rfl,rfl,rfl,Nat.le_refl _,fun _ _ _ => rfl⟩
  ·intro x k hx
   match x with
   | 0 =>
     simp [lkH] at hx
     subst hx
     refine ⟨g1,R1,cs1,rfl,hg1,hsz1,hle1,?_,ho1,by simp,fun _ => hns1⟩
     obtain ⟨u1,us1,he,hu1,hs1⟩ := Reps.head hr1
     rw [List.length_singleton] at he ⊢
     rw [he]
     obtain rfl : us1 = [] := List.eq_nil_of_length_eq_zero hs1.1.symm
     refine Reps.cons ?_ Reps.nil
     cases hu1 with
     | own hh hn hcp hR => rw [hμ2] at hh;cases hh;exact .own rfl hn hcp hR
   | 1 =>
     simp [lkH] at hx
     subst hx
     exact ⟨g2,R2,cs2,rfl,hg2,hsz2,hle2,reps_plain hpl hr2,ho2,by simp,fun _ => hns2⟩
   | x + 2 => simp [lkH] at hx
  ·intro x y k k' g R R' hx hy hm hm'
   match x,y with
   | 0,0 => rfl
   | 1,1 => rfl
   | 0,1 => simp at hm hm';exact absurd (hm.1.trans hm'.1.symm) h12
   | 1,0 => simp at hm hm';exact absurd (hm'.1.trans hm.1.symm) h12
   | x + 2,_ => simp [lkH] at hx
   | _,y + 2 => simp [lkH] at hy
  ·intro x g R hm
   match x with
   | 0 => simp at hm;obtain ⟨rfl,rfl⟩ := hm;exact ⟨hlt1,.inl (.inl rfl)⟩
   | 1 => simp at hm;obtain ⟨rfl,rfl⟩ := hm;exact ⟨hlt2,.inl (.inr rfl)⟩
   | x + 2 => simp at hm
 have hLs : Laid0 P w (fun g => g = g1 ∨ g = g2) St := by
  have hl := h0.laid hL
  refine ⟨hl,fun p hp => ⟨?_,(h0.st_lt _ (hl p hp).1).1⟩⟩
  rintro (e | e)
  ·exact hns1 (e ▸ (hl p hp).1)
  ·exact hns2 (e ▸ (hl p hp).1)
 refine (hgood w _ St _ St w (us ++ [u]) hLs hsm (fun x hx => by
  match x,hx with
  | x + 2,_ => simp) ((reps_plain hpre hus).append (Reps.cons hu' Reps.nil))).mono ?_
 rintro e w' ⟨v,μ',St',rfl,hI,hv,hm1,hm2,hS1,hS2⟩
 obtain ⟨ga,Ra,csa,hma,hga,hsa,hla,hra,hoa,_,hna⟩ := hI.blk 0 ⟨ts,[.own 2 0 n' 1],false⟩ (by simp [lkH])
 obtain ⟨g3,R3,cs3,hm3,hg3,hs3,hl3,hr3,ho3,_,hn3⟩ := hI.blk 2 ⟨te,cells',false⟩ (by simp [lkH])
 have hn3 := hn3 rfl
 have hna := hna rfl
 have e0 := hm1 0 (by omega)
 simp only [if_true] at e0
 rw [hma] at e0
 obtain ⟨rfl,rfl⟩ : ga = g1 ∧ Ra = R1 := by cases e0;exact ⟨rfl,rfl⟩
 have h13 : ga ≠ g3 := fun e => by
  have := hI.inj 0 2 ⟨ts,[.own 2 0 n' 1],false⟩ ⟨te,cells',false⟩ ga Ra R3 (by simp [lkH]) (by simp [lkH]) hma (by rw [hm3,e])
  omega
 have g3w := (hI.lt 2 g3 R3 hm3)
 have hex : ∀ x r,μ x = some r → upd μ nb (μ' 2) x = some r := fun x r hx => by
  rw [upd_ne _ _ _ _ (fun e => by subst e;rw [hnb _ (Nat.le_refl _)] at hx;cases hx)];exact hx
 have hold : ∀ x k g R,x ≠ c → x ≠ b → h x = some k → μ x = some (g,R) → g ≠ ga ∧ g ≠ g2 := fun x k g R h1 h2 hx hm => ⟨fun e => h1 (h0.inj x c _ _ g R Ra hx hc hm (by rw [e];exact hμ1)),fun e => h2 (h0.inj x b _ _ g R R2 hx hb hm (by rw [e];exact hμ2))⟩
 have look : ∀ x k,upd (upd (upd h b none) c (some ⟨ts,[.own nb 0 n' 1],false⟩)) nb (some ⟨te,cells',false⟩) x = some k → x = nb ∧ k = ⟨te,cells',false⟩ ∨ x ≠ nb ∧ x = c ∧ k = ⟨ts,[.own nb 0 n' 1],false⟩ ∨ x ≠ nb ∧ x ≠ c ∧ x ≠ b ∧ h x = some k := by
  intro x k hx
  by_cases h1 : x = nb
  ·subst h1
   rw [upd_same] at hx
   cases hx
   exact .inl ⟨rfl,rfl⟩
  ·rw [upd_ne _ _ _ _ h1] at hx
   by_cases h2 : x = c
   ·subst h2
    rw [upd_same] at hx
    cases hx
    exact .inr (.inl ⟨h1,rfl,rfl⟩)
   ·rw [upd_ne _ _ _ _ h2] at hx
    by_cases h3 : x = b
    ·subst h3
     rw [upd_same] at hx
     cases hx
    ·rw [upd_ne _ _ _ _ h3] at hx
     exact .inr (.inr ⟨h1,h2,h3,hx⟩)
 have g3old : ∀ g,g < w.heap.size → g ≠ ga → g ≠ g2 → g ≠ g3 := fun g hl h1 h2 e => by
  subst e
  rcases g3w.2 with (hh | hh) | hh | hh
  ·exact h1 hh
  ·exact h2 hh
  ·omega
  ·exact hn3 hh
 have Mback : ∀ g,g = ga ∨ g = g2 → M g ∨ w0.heap.size ≤ g := fun g hg => by
  rcases hg with rfl | rfl
  ·rcases (h0.lt c _ _ hμ1).2 with hh | hh | hh
   ·exact .inl hh
   ·exact .inr hh
   ·exact absurd hh hns1
  ·rcases (h0.lt b _ _ hμ2).2 with hh | hh | hh
   ·exact .inl hh
   ·exact .inr hh
   ·exact absurd hh hns2
 refine ⟨v,upd μ nb (μ' 2),St',rfl,?_,rep_unit hr hv,fun x hx => upd_ne _ _ _ _ (by omega),fun x hx => by rw [upd_ne _ _ _ _ (by omega)];exact hnb x (by omega),hS1,hS2⟩
 refine ⟨fun _ => .dead _,rfl,?_,?_,?_,?_,fun g hg => hS1 g (h0.st0 g hg),hI.os.trans h0.os,hI.tape.trans h0.tape,hI.output.trans h0.output,Nat.le_trans h0.size hI.size,?_⟩
 ·intro x k hx
  rcases look x k hx with ⟨rfl,rfl⟩ | ⟨h1,rfl,rfl⟩ | ⟨h1,h2,h3,hx'⟩
  ·exact ⟨g3,R3,cs3,by rw [upd_same,hm3],hg3,hs3,hl3,reps_plain hpl' hr3,ho3,by simp,fun _ => hn3⟩
  ·refine ⟨ga,Ra,csa,by rw [upd_ne _ _ _ _ h1];exact hμ1,hga,hsa,hla,?_,hoa,by simp,fun _ => hna⟩
   obtain ⟨u1,us1,he,hu1,hs1⟩ := Reps.head hra
   rw [List.length_singleton] at he ⊢
   rw [he]
   obtain rfl : us1 = [] := List.eq_nil_of_length_eq_zero hs1.1.symm
   refine Reps.cons ?_ Reps.nil
   cases hu1 with
   | own hh hn hcp hR => exact .own (by rw [upd_same];exact hh) hn hcp hR
  ·obtain ⟨g,R,cs,hm,hg,hs,hl,hrr,ho,hf1,hf2⟩ := h0.blk x k hx'
   obtain ⟨hx1,hx2⟩ := hold x k g R h2 h3 hx' hm
   have hlt := (h0.lt x g R hm).1
   refine ⟨g,R,cs,hex _ _ hm,by rw [hI.kept g hlt (by rintro (e | e);exact hx1 e;exact hx2 e)];exact hg,hs,hl,hrr.mono hS1 hS2 hex,ho,fun hh => hS1 g (hf1 hh),fun hh hst => ?_⟩
   rcases (hI.st_lt g hst).2 with h4 | (h4 | h4) | h4
   ·exact hf2 hh h4
   ·exact hx1 h4
   ·exact hx2 h4
   ·omega
 ·have key : ∀ x k g R, x ≠ nb → upd (upd (upd h b none) c (some ⟨ts, [.own nb 0 n' 1], false⟩)) nb (some ⟨te, cells', false⟩) x = some k → μ x = some (g, R) → g ≠ g3 ∧ (x = c ∨ x ≠ c ∧ x ≠ b ∧ h x = some k) := by
   intro x k g R hxn hx hm
   rcases look x k hx with ⟨h1,_⟩ | ⟨_,h2,_⟩ | ⟨_,h2,h3,hx'⟩
   ·exact absurd h1 hxn
   ·subst h2
    rw [hμ1] at hm
    cases hm
    exact ⟨h13,.inl rfl⟩
   ·obtain ⟨a1,a2⟩ := hold x k g R h2 h3 hx' hm
    exact ⟨g3old g (h0.lt x g R hm).1 a1 a2,.inr ⟨h2,h3,hx'⟩⟩
  intro x y k k' g R R' hx hy hm hm'
  by_cases hxn : x = nb <;> by_cases hyn : y = nb
  ·rw [hxn,hyn]
  ·subst hxn
   rw [upd_same,hm3] at hm
   rw [upd_ne _ _ _ _ hyn] at hm'
   cases hm
   exact absurd rfl (key y k' _ _ hyn hy hm').1
  ·subst hyn
   rw [upd_same,hm3] at hm'
   rw [upd_ne _ _ _ _ hxn] at hm
   cases hm'
   exact absurd rfl (key x k _ _ hxn hx hm).1
  ·rw [upd_ne _ _ _ _ hxn] at hm
   rw [upd_ne _ _ _ _ hyn] at hm'
   obtain ⟨kx,hkx⟩ : ∃ kx,h x = some kx := by
    rcases (key x k g R hxn hx hm).2 with rfl | ⟨_,_,hh⟩
    ·exact ⟨_,hc⟩
    ·exact ⟨_,hh⟩
   obtain ⟨ky,hky⟩ : ∃ ky,h y = some ky := by
    rcases (key y k' g R' hyn hy hm').2 with rfl | ⟨_,_,hh⟩
    ·exact ⟨_,hc⟩
    ·exact ⟨_,hh⟩
   exact h0.inj x y kx ky g R R' hkx hky hm hm'
 ·intro x g R hm
  by_cases hxn : x = nb
  ·subst hxn
   rw [upd_same,hm3] at hm
   cases hm
   refine ⟨g3w.1,?_⟩
   rcases g3w.2 with hh | hh | hh
   ·exact (Mback _ hh).imp id .inl
   ·exact .inr (.inl (Nat.le_trans h0.size hh))
   ·exact .inr (.inr hh)
  ·rw [upd_ne _ _ _ _ hxn] at hm
   exact ⟨Nat.lt_of_lt_of_le (h0.lt x g R hm).1 hI.size,(h0.lt x g R hm).2.imp id (Or.imp id (hS1 g))⟩
 ·intro g hg
  refine ⟨(hI.st_lt g hg).1,?_⟩
  rcases (hI.st_lt g hg).2 with hh | hh | hh
  ·exact (h0.st_lt g hh).2
  ·exact .inr (Mback g hh)
  ·exact .inr (.inr (Nat.le_trans h0.size hh))
 ·intro g hlt hM
  rw [hI.kept g (Nat.lt_of_lt_of_le hlt h0.size) (fun hh => ?_)]
  ·exact h0.kept g hlt hM
  ·rcases Mback g hh with h1 | h1
   ·exact hM h1
   ·omega
end Go.Lg
namespace Go.Lg
open Go
noncomputable def evFH (P : Program) [Laid P] (orc : FuncId → List LV → Option LV) (horc : Callf) (mode : FuncId → Nat) (bad : List Nat) (d : Nat) : Callf :=
 Nat.rec (motive := fun _ => Callf) (fun _ _ _ _ => none) (fun _ ih f args hp nb => match horc f args hp nb with
  | some x => some x
  | none => match fnB P bad f with
    | some b => bodyF P orc mode ih args hp nb b
    | none => none) d
section
variable {P : Program} [Laid P] {orc : FuncId → List LV → Option LV} {horc : Callf} {mode : FuncId → Nat} {bad : List Nat}
attribute [local irreducible] evC
theorem evFH_sound (hmix : P.follows .mixedOrders = true) (ho : OrcOk P orc) (hh : CallOk P horc) (hB : BodiesOk P bad) : ∀ d,CallOk P (evFH P orc horc mode bad d)
 | 0 => fun f args hp nb r hp' nb' h => by
   have h : (none : Option (LV × List (Nat × Blk) × Nat)) = some (r,hp',nb') := h
   cases h
 | d + 1 => fun f args hp nb r hp' nb' h => by
   have ih := evFH_sound hmix ho hh hB d
   have h : (match horc f args hp nb with
     | some x => some x
     | none => match fnB P bad f with
       | some b => bodyF P orc mode (evFH P orc horc mode bad d) args hp nb b
       | none => none) = some (r,hp',nb') := h
   split at h
   · rename_i x hx
     cases h
     exact hh _ _ _ _ _ _ _ hx
   split at h
   · rename_i b hb0
     unfold fnB at hb0
     split at hb0
     · rename_i fn hf
       split at hb0
       · rename_i c hb
         cases hbad : bad.elem f with
         | true => rw [hbad,cond_true] at hb0;cases hb0
         | false =>
           rw [hbad,cond_false] at hb0
           cases hb0
           obtain ⟨hname,hd⟩ := hB f fn c hf hbad hb
           unfold bodyF at h
           simp only at h
           cases hlen0 : Nat.ble args.length fn.ntmps with
           | false => rw [hlen0,cond_false] at h;cases h
           | true =>
             rw [hlen0,cond_true] at h
             have hlen : args.length ≤ fn.ntmps := Nat.le_of_ble_eq_true hlen0
             have fin : ∀ (e : Exit) (t : ES),evC P orc mode (evFH P orc horc mode bad d) c ⟨fn.ntmps,numF 0 args .nil,hp,nb⟩ = some (e,t) → (e = .ret ∨ e = .normal) → resF P nb fn.results.toList t = some (r,hp',nb') → nb ≤ nb' ∧ HGood P f args (lkG hp) nb r (lkG hp') nb' := by
               intro e t he hret hr
               unfold resF at hr
               split at hr
               · rename_i r' hres
                 cases hle : Nat.ble nb t.nb with
                 | false => rw [hle,cond_false] at hr;cases hr
                 | true =>
                   rw [hle,cond_true] at hr
                   cases hr
                   refine ⟨Nat.le_of_ble_eq_true hle,heap_of_lwp hmix hf hb hname rfl rfl hlen ?_⟩
                   have key := evC_sound (na := nb) ho ih c hd ⟨fn.ntmps,numF 0 args .nil,hp,nb⟩ t e (heapPost P fn.results.toList r (lkG t.hp) t.nb) he (by rcases hret with rfl | rfl <;> exact ⟨hres,rfl,Nat.le_refl _⟩)
                   have e1 : ES.ls ⟨fn.ntmps,numF 0 args .nil,hp,nb⟩ = ⟨fn.ntmps,fun i => args.getD i .dead,lkG hp,nb⟩ := by
                     simp only [ES.ls]
                     congr 1
                     funext i
                     rw [lkF_num]
                     simp
                   rw [e1] at key
                   exact key
               · cases hr
             unfold endF at h
             split at h
             · rename_i t he
               exact fin _ t he (.inl rfl) h
             · rename_i t he
               exact fin _ t he (.inr rfl) h
             · cases h
       · cases hb0
     · cases hb0
   · cases h
noncomputable def evPH (P : Program) [Laid P] (orc : FuncId → List LV → Option LV) (horc : Callf) (mode : FuncId → Nat) (bad : List Nat) (d : Nat) (f : FuncId) (args : List LV) : Option LV :=
 match evFH P orc horc mode bad d f args [] 0 with
 | some (r,hp,_) => pvF hp r
 | none => none
theorem evPH_sound (hmix : P.follows .mixedOrders = true) (ho : OrcOk P orc) (hh : CallOk P horc) (hB : BodiesOk P bad) {d : Nat} {f : FuncId} {args : List LV} {r : LV} (h : evPH P orc horc mode bad d f args = some r) : PureGood P f args r := by
 unfold evPH at h
 split at h
 ·rename_i r0 hp nb hcf
  rw [pvF_eq] at h
  obtain ⟨p,hpv,rfl⟩ := Option.map_eq_some_iff.1 h
  exact good_of_h (evFH_sound hmix ho hh hB d _ _ _ _ _ _ _ hcf).2 hpv
 ·cases h
end
end Go.Lg
namespace Go.Proofs.YtpkjokknpbclhaaGreat
open Go Go.Lg Go.Num
set_option maxRecDepth 100000
def tinyI (z : Int) : Bool := Nat.ble (z.natAbs + 1) (4294967296 ^ 100)
theorem tinyI_len {z : Int} (h : tinyI z = true) : len z ≤ 100 := length_digs_le (k := 100) (Nat.le_of_ble_eq_true h)
theorem wrI_enc {z : Int} (h : tinyI z = true) : LV.agg (wrI z) = encI z := by
 rw [encI_sm,wrI_eq (Nat.le_of_ble_eq_true h)]
def orcMulI (args : List LV) : Option LV :=
 match args with
 | [.agg [a,b],.agg [c,d]] => match rdI a b,rdI c d with
   | some x,some y => fInt (x * y) fun r => bif tinyI x && tinyI y && tinyI r then some (.agg (wrI r)) else none
   | _,_ => none
 | _ => none
theorem orcMulI_ok {args : List LV} {r : LV} (h : orcMulI args = some r) : PureGood Tryz.prog 140 args r := by
 unfold orcMulI at h
 split at h
 ·split at h
  ·rename_i a b c d x y h1 h2
   rw [fInt_eq] at h
   cases hb : (tinyI x && tinyI y && tinyI (x * y)) with
   | true =>
     rw [hb] at h
     simp only [Bool.and_eq_true] at hb
     cases h
     have hx := tinyI_len hb.1.1
     have hy := tinyI_len hb.1.2
     obtain ⟨rfl,rfl⟩ := rdI_ok h1
     obtain ⟨rfl,rfl⟩ := rdI_ok h2
     rw [wrI_enc hb.2]
     have := mul_good x y (by omega) (by omega)
     rwa [encI_sm x,encI_sm y] at this
   | false => rw [hb] at h;cases h
  ·cases h
 ·cases h
def orcExI (args : List LV) : Option LV :=
 match args with
 | [.agg [a,b],.agg [c,d]] => match rdI a b,rdI c d with
   | some x,some y => fInt (x / y) fun r => bif tinyI x && tinyI y && tinyI r && !(y == 0) && (x % y == 0) then some (.tup [.agg (wrI r),.lit (.int .i64 0)]) else none
   | _,_ => none
 | _ => none
theorem orcExI_ok {args : List LV} {r : LV} (h : orcExI args = some r) : PureGood Tryz.prog 153 args r := by
 unfold orcExI at h
 split at h
 ·split at h
  ·rename_i a b c d x y h1 h2
   rw [fInt_eq] at h
   cases hb : (tinyI x && tinyI y && tinyI (x / y) && !(y == 0) && (x % y == 0)) with
   | true =>
     rw [hb] at h
     simp only [Bool.and_eq_true,Bool.not_eq_true',beq_eq_false_iff_ne,ne_eq,beq_iff_eq] at hb
     cases h
     have hx := tinyI_len hb.1.1.1.1
     have hy := tinyI_len hb.1.1.1.2
     obtain ⟨rfl,rfl⟩ := rdI_ok h1
     obtain ⟨rfl,rfl⟩ := rdI_ok h2
     rw [wrI_enc hb.1.1.2]
     have := exact_good x y hb.1.2 hb.2 (by omega) (by omega)
     rwa [encI_sm x,encI_sm y] at this
   | false => rw [hb] at h;cases h
  ·cases h
 ·cases h
def orcQuo (args : List LV) : Option LV :=
 match args with
 | [.agg l,.agg m] => match rdQ l,rdQ m with
   | some x,some y => fQ (x / y) fun r => bif tiny x && tiny y && tiny r && !(y.num == 0) then some (.tup [wrQ r,.lit (.int .i64 0)]) else none
   | _,_ => none
 | _ => none
theorem orcQuo_ok {args : List LV} {r : LV} (h : orcQuo args = some r) : PureGood Tryz.prog 142 args r := by
 unfold orcQuo at h
 split at h
 ·split at h
  ·rename_i l m x y h1 h2
   rw [fQ_eq] at h
   cases hb : (tiny x && tiny y && tiny (x / y) && !(y.num == 0)) with
   | true =>
     rw [hb] at h
     simp only [Bool.and_eq_true,Bool.not_eq_true',beq_eq_false_iff_ne,ne_eq] at hb
     cases h
     have hx := tiny_lq hb.1.1.1
     have hy := tiny_lq hb.1.1.2
     rw [wrQ_eq hb.1.2,rdQ_ok h1,rdQ_ok h2]
     exact quo_good x y (fun e => hb.2 (by rw [e];rfl)) (by omega) (by omega)
   | false => rw [hb] at h;cases h
  ·cases h
 ·cases h
def orc3 (f : FuncId) (args : List LV) : Option LV := bif Nat.beq f 142 then orcQuo args else bif Nat.beq f 140 then orcMulI args else bif Nat.beq f 153 then orcExI args else orc f args
theorem orc3_ok : OrcOk Tryz.prog orc3 := by
 intro f args r h
 exact orc_cons (f0 := 142) (g := orcQuo) (fun _ _ h => orcQuo_ok h) (orc_cons (f0 := 140) (g := orcMulI) (fun _ _ h => orcMulI_ok h) (orc_cons (f0 := 153) (g := orcExI) (fun _ _ h => orcExI_ok h) orc_ok)) f args r h
end Go.Proofs.YtpkjokknpbclhaaGreat
namespace Go.Lg
open Go
def ec (l : List Int) : List LV := l.map fun (z : Int) => LV.lit (.int .i64 z)
theorem ec_len (l : List Int) : (ec l).length = l.length := by simp [ec]
theorem ec_at {l : List Int} {i : Nat} (h : i < l.length) : (ec l)[i]? = some (.lit (.int .i64 (l.getD i 0))) := by simp [ec,h]
theorem ec_hd {l : List Int} {i : Nat} (h : i < l.length) : (ec (l.drop i)).head? = some (.lit (.int .i64 (l.getD i 0))) := by simp [ec,h]
theorem ec_hd0 {l : List Int} (h : 0 < l.length) : (ec l).head? = some (.lit (.int .i64 (l.getD 0 0))) := by
 cases l with
 | nil => simp at h
 | cons d l => rfl
theorem ec_take (l : List Int) (k : Nat) : (ec l).take k = ec (l.take k) := by simp [ec]
theorem ec_drop (l : List Int) (k : Nat) : (ec l).drop k = ec (l.drop k) := by simp [ec]
theorem ec_set (l : List Int) (k : Nat) (z : Int) : (ec l).set k (.lit (.int .i64 z)) = ec (l.set k z) := by simp [ec]
theorem ec_plain' (l : List Int) : ∀ c ∈ ec l,plainC c = true := by simp [ec,plainC]
theorem ec_plain (l : List Int) : (∀ c ∈ ec l,plainC c = true) = True := eq_true (ec_plain' l)
theorem ec_pure (l : List Int) : ∀ c ∈ ec l,pureC c = true := by simp [ec,pureC]
theorem ec_snoc (a : List Int) (z : Int) : ec a ++ [.lit (.int .i64 z)] = ec (a ++ [z]) := by simp [ec]
theorem ec_zeros (n : Nat) : List.replicate n (LV.lit (.int .i64 0)) = ec (List.replicate n 0) := by simp [ec]
theorem pvs_ec {h : Nat → Option Blk} {ok : Nat → Bool} {k : Nat} (l : List Int) : pvs h ok (k + 1) (ec l) = some (ec l,[]) := pvs_pure (ec_pure l)
theorem ren_ec {nb : Nat} {ρ : Nat → Nat} (l : List Int) : renLs nb ρ (ec l) = some (ec l) := rens_plain (ec_plain' l)
def smE := And.intro ec_len (And.intro @ec_at (And.intro @ec_hd (And.intro @ec_hd0 (And.intro ec_take (And.intro ec_drop (And.intro ec_set (And.intro ec_plain (And.intro @pvs_ec (And.intro @ren_ec ec_snoc)))))))))
end Go.Lg
namespace Go.Num
def divN (n : Nat) : List Nat := (List.range' 1 n).filter fun d => Nat.beq (n % d) 0
def divL (n : Nat) : List Int := (divN n).map fun (d : Nat) => (d : Int)
theorem divL_get {n k : Nat} (h : k < (divN n).length) : ∃ d : Nat,(divL n).getD k 0 = (d : Int) ∧ 1 ≤ d ∧ d ≤ n ∧ n % d = 0 ∧ (divN n).getD k 0 = d := by
 refine ⟨(divN n)[k],by simp [divL,h],?_⟩
 have hm : (divN n)[k] ∈ divN n := List.getElem_mem h
 generalize hd : (divN n)[k] = d at *
 simp only [divN,List.mem_filter,List.mem_range'_1] at hm
 refine ⟨by omega,by omega,Nat.eq_of_beq_eq_true hm.2,by simp [h,hd]⟩
def psum (f : Nat → Int) : Nat → Int
 | 0 => 0
 | k + 1 => psum f k + f k
theorem psum_bound {f : Nat → Int} {B : Int} {n : Nat} (h : ∀ k,k < n → -B ≤ f k ∧ f k ≤ B) : ∀ k,k ≤ n → -(B * k) ≤ psum f k ∧ psum f k ≤ B * k
 | 0,_ => by simp [psum]
 | k + 1,hk => by
   have h1 := psum_bound h k (by omega)
   have h2 := h k (by omega)
   have e : B * ((k + 1 : Nat) : Int) = B * k + B := by rw [Int.natCast_add,Int.mul_add];simp
   rw [psum,e]
   omega
def exL (n : Nat) (xs : List Int) (k : Nat) : Int := (divL n).getD k 0 * xs.getD k 0
def exH (n : Nat) (xs : List Int) (k : Nat) : Int := (n : Int) / (divL n).getD k 0 * xs.getD k 0
structure EtaOk (n : Nat) (xs : List Int) : Prop where
 n1 : 1 ≤ n
 n2 : n ≤ 600
 len : xs.length = (divN n).length
 small : ∀ x ∈ xs,-200 ≤ x ∧ x ≤ 200
theorem EtaOk.get {n : Nat} {xs : List Int} (h : EtaOk n xs) (k : Nat) : -200 ≤ xs.getD k 0 ∧ xs.getD k 0 ≤ 200 := by
 by_cases hk : k < xs.length
 ·have : xs.getD k 0 = xs[k] := by simp [hk]
  rw [this]
  exact h.small _ (List.getElem_mem hk)
 ·simp [List.getD,Nat.le_of_not_lt hk]
theorem mul_bd {a b A B : Int} (h1 : 0 ≤ a ∧ a ≤ A) (h2 : -B ≤ b ∧ b ≤ B) : -(A * B) ≤ a * b ∧ a * b ≤ A * B := by
 have e : (a * b).natAbs ≤ (A * B).natAbs := by
  rw [Int.natAbs_mul,Int.natAbs_mul]
  exact Nat.mul_le_mul (by omega) (by omega)
 have : 0 ≤ A * B := Int.mul_nonneg (by omega) (by omega)
 omega
theorem EtaOk.low {n : Nat} {xs : List Int} (h : EtaOk n xs) {k : Nat} (hk : k < xs.length) : -120000 ≤ exL n xs k ∧ exL n xs k ≤ 120000 := by
 obtain ⟨d,e1,e2,e3,_⟩ := divL_get (n := n) (k := k) (h.len ▸ hk)
 have := h.n2
 exact mul_bd (A := 600) (B := 200) (by rw [e1];omega) (h.get k)
theorem EtaOk.high {n : Nat} {xs : List Int} (h : EtaOk n xs) {k : Nat} (hk : k < xs.length) : -120000 ≤ exH n xs k ∧ exH n xs k ≤ 120000 := by
 obtain ⟨d,e1,e2,e3,_⟩ := divL_get (n := n) (k := k) (h.len ▸ hk)
 have := h.n2
 have h3 : (n : Int) / (d : Int) = ((n / d : Nat) : Int) := rfl
 have h4 : n / d ≤ n := Nat.div_le_self _ _
 generalize n / d = q at *
 exact mul_bd (A := 600) (B := 200) (by rw [e1,h3];omega) (h.get k)
theorem divN_length_le : ∀ n,n ≤ 600 → (divN n).length ≤ 24 := by
 have h : ((List.range 601).all fun n => Nat.ble (divN n).length 24) = true := by decide +kernel
 intro n hn
 exact Nat.le_of_ble_eq_true (List.all_eq_true.1 h n (List.mem_range.2 (by omega)))
theorem EtaOk.len_le {n : Nat} {xs : List Int} (h : EtaOk n xs) : xs.length ≤ 24 := by rw [h.len];exact divN_length_le n h.n2
theorem EtaOk.s1 {n : Nat} {xs : List Int} (h : EtaOk n xs) {k : Nat} (hk : k ≤ xs.length) : -2880000 ≤ psum (exL n xs) k ∧ psum (exL n xs) k ≤ 2880000 := by
 have h1 := psum_bound (f := exL n xs) (B := 120000) (n := xs.length) (fun k hk => h.low hk) k hk
 have h2 := h.len_le
 omega
theorem EtaOk.s2 {n : Nat} {xs : List Int} (h : EtaOk n xs) {k : Nat} (hk : k ≤ xs.length) : -2880000 ≤ psum (exH n xs) k ∧ psum (exH n xs) k ≤ 2880000 := by
 have h1 := psum_bound (f := exH n xs) (B := 120000) (n := xs.length) (fun k hk => h.high hk) k hk
 have h2 := h.len_le
 omega
end Go.Num
namespace Go.Proofs.YtpkjokknpbclhaaGreat
open Go Go.Lg Go.Num
set_option maxRecDepth 100000
set_option maxHeartbeats 4000000
attribute [local irreducible] Go.Lg.lrun Go.Lg.lwp Go.Lg.exThen Go.Lg.exBlk Go.Lg.keep ec
def powL (l : List Int) (p : Int) : Nat → List Int
 | 0 => l
 | j + 1 => powL l p j ++ l.map (· * p ^ (j + 1))
theorem powL_length (l : List Int) (p : Int) : ∀ j,(powL l p j).length = l.length * (j + 1)
 | 0 => by simp [powL]
 | j + 1 => by rw [powL,List.length_append,powL_length l p j,List.length_map,Nat.mul_add l.length (j + 1)];omega
theorem powL_get (l : List Int) (p : Int) {i : Nat} (h : i < l.length) : ∀ j,(powL l p j).getD i 0 = l.getD i 0
 | 0 => rfl
 | j + 1 => by
   have := powL_length l p j
   have h2 : l.length * 1 ≤ l.length * (j + 1) := Nat.mul_le_mul_left _ (by omega)
   rw [← powL_get l p h j,powL]
   simp only [List.getD,List.getElem?_append_left (show i < (powL l p j).length by omega)]
theorem is_r7 {P : Program} [Laid P] {na : Nat} {ops : Array Oper} {draw : Bool} {Φ : Exit → LS → Prop} {s : LS} (h : lwp P na (.region 7 ops draw) Φ s) : lwp P na (.region 7 ops draw) Φ s := h
theorem powL_pos {p e j : Nat} (hp : 1 ≤ p) (h : j ≤ e) (he : p ^ e ≤ 1000) : 1 ≤ p ^ j ∧ p ^ j ≤ 1000 := ⟨Nat.pow_pos hp,Nat.le_trans (Nat.pow_le_pow_right hp h) he⟩
def powM (l : List Int) (p : Int) (j i : Nat) : List Int := powL l p j ++ (l.map (· * p ^ (j + 1))).take i
theorem powM_length (l : List Int) (p : Int) (j i : Nat) (h : i ≤ l.length) : (powM l p j i).length = (powL l p j).length + i := by
 rw [powM,List.length_append,List.length_take,List.length_map,Nat.min_eq_left h]
theorem powM_zero (l : List Int) (p : Int) (j : Nat) : powM l p j 0 = powL l p j := by simp [powM]
theorem powM_last (l : List Int) (p : Int) (j : Nat) : powM l p j l.length = powL l p (j + 1) := by
 rw [powM,powL,List.take_of_length_le (by simp)]
theorem powM_succ (l : List Int) (p : Int) (j i : Nat) (h : i < l.length) : powM l p j (i + 1) = powM l p j i ++ [l.getD i 0 * p ^ (j + 1)] := by
 rw [powM,powM,List.append_assoc,List.take_add_one,List.getElem?_map,List.getElem?_eq_getElem h]
 simp [h]
theorem powM_get (l : List Int) (p : Int) (j i : Nat) {m : Nat} (h : m < l.length) : (powM l p j i).getD m 0 = l.getD m 0 := by
 rw [← powL_get l p h j,powM]
 have := powL_length l p j
 have h2 : l.length * 1 ≤ l.length * (j + 1) := Nat.mul_le_mul_left _ (by omega)
 simp only [List.getD,List.getElem?_append_left (show m < (powL l p j).length by omega)]
theorem divcl_good (l : List Int) (p e : Nat) (hp : 1 ≤ p ∧ p ≤ 1000) (he2 : e ≤ 1000) (he : p ^ e ≤ 1000) (hl : l.length ≤ 1000) (hle : l.length * (e + 1) ≤ 100000) (hb : ∀ i, i < l.length → 0 ≤ l.getD i 0 ∧ l.getD i 0 ≤ 1000) :
  HGood Tryz.prog 88 ([i64 p,i64 e] ++ [.ptr 0 0]) (lkH [(0,⟨22,[.own 1 0 l.length 1],false⟩),(1,⟨3,ec l,false⟩)]) 2 (.tup []) (lkH [(0,⟨22,[.own 2 0 (powL l p e).length 1],false⟩),(2,⟨3,ec (powL l p e),false⟩)]) 100 := by
 refine heap_of_lwp mix Tryz.func88 rfl (by decide) (nt := 34) rfl (rs := []) rfl (nle rfl) ?_
 have hpos : ∀ j,j ≤ e → 1 ≤ p ^ j ∧ p ^ j ≤ 1000 := fun j hj => powL_pos hp.1 hj he
 (repeat (first|apply zO (by decide +kernel)|apply zP (by decide +kernel)|(apply zS;(case h=>constructor<;>decide))|((first|apply l_go rfl|apply c_dec|apply zT rfl (by decide) rfl);(case hs=>(simp (disch := first|omega|exact kD rfl|exact kX rfl) only [smY,simprocAttr,bl,i64,smE];exact rfl));first|refine c_bt ?_|refine c_bf ?_|refine zq ?_|(case hg=>assumption))))
 refine w_loop (α := {j : Nat // j ≤ e}) (fun j => st 34 (lk [(0,i64 p),(1,i64 ((e : Int) - (j.1 : Int))),(2,.ptr 0 0),(5,i64 l.length),(6,i64 ((p : Int) ^ (j.1 + 1)))]) (lkH [(0,⟨22,[.own 2 0 (powL l p j.1).length 1],false⟩),(2,⟨3,ec (powL l p j.1),false⟩)]) 3) (fun j => e - j.1) ⟨0,by omega⟩ ?_ ?_
 ·show Lg.Sub 2 _ _
  refine Sub.heap (na := 2) (fun b => ([0,1,1] : List Nat).getD b 0) ?_ ?_ ?_ (by decide)
  ·simp only [smF,dg,renL,renLs,simprocAttr,bl,i64,smE]
   try (simp only [LV.lit.injEq,Value.int.injEq,true_and,and_true,Int.pow_succ,Int.pow_zero,Int.one_mul];omega)
   try (simp;done)
   try (rw [wrap_i64 (by omega)];simp only [LV.lit.injEq,Value.int.injEq,true_and,and_true];omega)
  ·simp only [List.forall_mem_cons,List.not_mem_nil,false_imp_iff,implies_true,and_true]
   refine ⟨⟨by decide,_,by simp (disch := first|omega|exact kD rfl|exact kX rfl) only [smY,simprocAttr,bl,i64,smE];exact rfl,?_⟩,⟨by decide,_,by simp (disch := first|omega|exact kD rfl|exact kX rfl) only [smY,simprocAttr,bl,i64,smE];exact rfl,?_⟩⟩
   ·simp only [smF,dg,renL,renLs,simprocAttr,bl,i64,smE];try (first | rfl | (simp only [List.length_append,List.length_singleton,List.length_cons,List.length_nil];try rfl))
   ·simp only [smF,dg,renL,renLs,simprocAttr,bl,i64,smE];try rfl
  ·intro p hp q hq
   simp only [List.mem_cons,List.not_mem_nil,or_false] at hp hq
   rcases hp with rfl | rfl <;> rcases hq with rfl | rfl <;> simp
 ·rintro ⟨j,hj⟩
  simp only [st]
  by_cases h1 : j < e
  ·obtain ⟨hN1, hN2⟩ : l.length ≤ (powL l p j).length ∧ (powL l p j).length + l.length ≤ 100000 := by
    have hL := powL_length l p j
    have hL2 : l.length * (j + 2) ≤ l.length * (e + 1) := Nat.mul_le_mul_left _ (by omega)
    have hL3 : l.length * (j + 2) = l.length * (j + 1) + l.length := by rw [Nat.mul_add l.length j 2,Nat.mul_add l.length j 1];omega
    have hL4 : l.length * 1 ≤ l.length * (j + 1) := Nat.mul_le_mul_left _ (by omega)
    omega
   obtain ⟨hQ1,hQ2,hQ3⟩ : (1 ≤ (p : Int) ^ (j + 1) ∧ (p : Int) ^ (j + 1) ≤ 1000) ∧ (-1000000 ≤ (p : Int) ^ (j + 1) * (p : Int) ∧ (p : Int) ^ (j + 1) * (p : Int) ≤ 1000000) ∧ (p : Int) ^ (j + 1) * (p : Int) = (p : Int) ^ (j + 1 + 1) := by
    have hP := hpos (j + 1) (by omega)
    have ePc : (p : Int) ^ (j + 1) = ((p ^ (j + 1) : Nat) : Int) := (Int.natCast_pow p (j + 1)).symm
    have h1 : 1 ≤ (p : Int) ^ (j + 1) ∧ (p : Int) ^ (j + 1) ≤ 1000 := by rw [ePc];generalize p ^ (j + 1) = q at *;omega
    generalize hq : (p : Int) ^ (j + 1) = Q at *
    refine ⟨h1,mul_bd (A := 1000) (B := 1000) (by omega) (by omega),?_⟩
    rw [← hq];exact (Int.pow_succ ..).symm
   have hs0 := fun i (h : i < l.length) => powM_succ l p j i h
   have hz0 := powM_zero l p j
   have hl0 := powM_last l p j
   generalize hQQ : (p : Int) ^ (j + 1) = Q at *
   clear hpos hQQ
   (repeat (first|apply zO (by decide +kernel)|apply zP (by decide +kernel)|(apply zS;(case h=>constructor<;>decide))|((first|apply l_go rfl|apply c_dec|apply zT rfl (by decide) rfl);(case hs=>(simp (disch := first|omega|exact kD rfl|exact kX rfl) only [smY,simprocAttr,bl,i64,smE];exact rfl));first|refine c_bt ?_|refine c_bf ?_|refine zq ?_|(case hg=>assumption))))
   refine w_loop (α := {x : Nat × Option (List Int) // x.1 ≤ l.length ∧ ∀ X,x.2 = some X → l.length ≤ X.length ∧ ∀ m,m < l.length → X.getD m 0 = l.getD m 0})
    (fun x => match x.1.2 with
     | none => st 34 (lk [(0,i64 p),(1,i64 ((e : Int) - (j : Int))),(2,.ptr 0 0),(5,i64 l.length),(6,i64 Q),(21,.own 2 0 l.length 1),(22,i64 l.length),(23,i64 x.1.1)]) (lkH [(0,⟨22,[.own 2 0 (powM l p j x.1.1).length 1],false⟩),(2,⟨3,ec (powM l p j x.1.1),false⟩)]) 3
     | some X => st 34 (lk [(0,i64 p),(1,i64 ((e : Int) - (j : Int))),(2,.ptr 0 0),(5,i64 l.length),(6,i64 Q),(21,.own 2 0 l.length 1),(22,i64 l.length),(23,i64 x.1.1)]) (lkH [(0,⟨22,[.own 3 0 (powM l p j x.1.1).length 1],false⟩),(2,⟨3,ec X,false⟩),(3,⟨3,ec (powM l p j x.1.1),false⟩)]) 4) (fun x => l.length - x.1.1) ⟨(0,none),by simp,by simp⟩ ?_ ?_
   ·simp only [hz0,st]
    refine Sub.heap (na := 2) (fun b => ([0,1,2] : List Nat).getD b 0) ?_ ?_ ?_ (by decide)
    ·simp only [smF,dg,renL,renLs,simprocAttr,bl,i64,smE]
     try (simp only [LV.lit.injEq,Value.int.injEq,true_and,and_true,Int.pow_succ,Int.pow_zero,Int.one_mul];omega)
     try (simp;done)
     try (rw [wrap_i64 (by omega)];simp only [LV.lit.injEq,Value.int.injEq,true_and,and_true];omega)
    ·simp only [List.forall_mem_cons,List.not_mem_nil,false_imp_iff,implies_true,and_true]
     refine ⟨⟨by decide,_,by simp (disch := first|omega|exact kD rfl|exact kX rfl) only [smY,simprocAttr,bl,i64,smE];exact rfl,?_⟩,⟨by decide,_,by simp (disch := first|omega|exact kD rfl|exact kX rfl) only [smY,simprocAttr,bl,i64,smE];exact rfl,?_⟩⟩
     ·simp only [smF,dg,renL,renLs,simprocAttr,bl,i64,smE];try (first | rfl | (simp only [List.length_append,List.length_singleton,List.length_cons,List.length_nil];try rfl))
     ·simp only [smF,dg,renL,renLs,simprocAttr,bl,i64,smE];try rfl
    ·intro p hp q hq
     simp only [List.mem_cons,List.not_mem_nil,or_false] at hp hq
     rcases hp with rfl | rfl <;> rcases hq with rfl | rfl <;> simp
   ·rintro ⟨⟨i,fl⟩,hi,hX⟩
    simp only at hi hX
    have hM := powM_length l p j i hi
    by_cases h2 : i < l.length
    ·have hx := hb i h2
     have hxP := mul_bd (a := l.getD i 0) (b := Q) (A := 1000) (B := 1000) hx (by omega)
     have hs := hs0 i h2
     have hgM : ∀ m,m < l.length → (powM l p j i).getD m 0 = l.getD m 0 := fun m hm => powM_get l p j i hm
     have hg := hgM i h2
     have hM2 := powM_length l p j (i + 1) (by omega)
     generalize powM l p j i = M at *
     clear hs0 hz0 hl0 he hle
     rcases fl with _ | X
     ·simp only [st]
      (repeat ((fail_if_success (refine is_r7 ?_));first|apply zO (by decide +kernel)|apply zP (by decide +kernel)|(apply zS;(case h=>constructor<;>decide))|((first|apply l_go rfl|apply c_dec);(case hs => (simp (disch := first|omega|exact kD rfl|exact kX rfl) only [smY,simprocAttr,bl,i64,smE,hg];exact rfl));first|refine c_bt ?_|refine c_bf ?_|show lrun _ _ _ _ _ _ _ _ _)))
      apply zO (by decide +kernel)
      refine l_split 5 (by simp (disch := first|omega|exact kD rfl|exact kX rfl) only [smY,simprocAttr,bl,i64,smE,hg];exact rfl) ?_
      simp only [List.drop_succ_cons,List.drop_zero]
      refine l_append (b := 2) (nn := M.length) (cells := ec M) (news := [i64 (l.getD i 0 * Q)]) (m := 1) (by decide) tel22 (z := 0) tsz3 tby3 tze3 (by simp (disch := first|omega|exact kD rfl|exact kX rfl) only [smY,simprocAttr,bl,i64,smE,hg];try exact rfl) (by simp (disch := first|omega|exact kD rfl|exact kX rfl) only [smY,simprocAttr,bl,i64,smE,hg];try exact rfl) (by rw [ec_len];omega) (by simp (disch := first|omega|exact kD rfl|exact kX rfl) only [smY,simprocAttr,bl,i64,smE,hg];try exact rfl) (by decide) (by rw [hM];omega) (by rw [maxLen_eq,hM];omega) ?_ ?_
      ·(repeat (first|apply zO (by decide +kernel)|apply zP (by decide +kernel)|(apply zS;(case h=>constructor<;>decide))|((first|apply l_go rfl|apply c_dec|apply zT rfl (by decide) rfl);(case hs=>(simp (disch := first|omega|exact kD rfl|exact kX rfl) only [smY,simprocAttr,bl,i64,smE,hg];exact rfl));first|refine c_bt ?_|refine c_bf ?_|refine zq ?_|(case hg=>assumption))))
       refine ⟨⟨(i + 1,none),by simp only;omega,by simp⟩,?_,by simp only;omega⟩
       simp only [hs,st]
       refine Sub.heap (na := 2) (fun b => ([0,1,2] : List Nat).getD b 0) ?_ ?_ ?_ (by decide)
       ·simp only [smF,dg,renL,renLs,simprocAttr,bl,i64,smE,hg]
        try (simp only [LV.lit.injEq,Value.int.injEq,true_and,and_true,Int.pow_succ,Int.pow_zero,Int.one_mul];omega)
        try (simp;done)
        try (rw [wrap_i64 (by omega)];simp only [LV.lit.injEq,Value.int.injEq,true_and,and_true];omega)
       ·simp only [List.forall_mem_cons,List.not_mem_nil,false_imp_iff,implies_true,and_true]
        refine ⟨⟨by decide,_,by simp (disch := first|omega|exact kD rfl|exact kX rfl) only [smY,simprocAttr,bl,i64,smE,hg];exact rfl,?_⟩,⟨by decide,_,by simp (disch := first|omega|exact kD rfl|exact kX rfl) only [smY,simprocAttr,bl,i64,smE,hg];exact rfl,?_⟩⟩
        ·simp only [smF,dg,renL,renLs,simprocAttr,bl,i64,smE,hg];try (first | rfl | (simp only [List.length_append,List.length_singleton,List.length_cons,List.length_nil];try rfl))
        ·simp only [smF,dg,renL,renLs,simprocAttr,bl,i64,smE,hg];try rfl
       ·intro p hp q hq
        simp only [List.mem_cons,List.not_mem_nil,or_false] at hp hq
        rcases hp with rfl | rfl <;> rcases hq with rfl | rfl <;> simp
      ·(repeat (first|apply zO (by decide +kernel)|apply zP (by decide +kernel)|(apply zS;(case h=>constructor<;>decide))|((first|apply l_go rfl|apply c_dec|apply zT rfl (by decide) rfl);(case hs=>(simp (disch := first|omega|exact kD rfl|exact kX rfl) only [smY,simprocAttr,bl,i64,smE,hg];exact rfl));first|refine c_bt ?_|refine c_bf ?_|refine zq ?_|(case hg=>assumption))))
       refine ⟨⟨(i + 1,some M),by simp only;omega,fun Y hY => by cases hY;exact ⟨by omega,hgM⟩⟩,?_,by simp only;omega⟩
       simp only [hs,st]
       refine Sub.heap (na := 2) (fun b => ([0,1,2,12] : List Nat).getD b 0) ?_ ?_ ?_ (by decide)
       ·simp only [smF,dg,renL,renLs,simprocAttr,bl,i64,smE,hg]
        try (simp only [LV.lit.injEq,Value.int.injEq,true_and,and_true,Int.pow_succ,Int.pow_zero,Int.one_mul];omega)
        try (simp;done)
        try (rw [wrap_i64 (by omega)];simp only [LV.lit.injEq,Value.int.injEq,true_and,and_true];omega)
       ·simp only [List.forall_mem_cons,List.not_mem_nil,false_imp_iff,implies_true,and_true]
        refine ⟨⟨by decide,_,by simp (disch := first|omega|exact kD rfl|exact kX rfl) only [smY,simprocAttr,bl,i64,smE,hg];exact rfl,?_⟩,⟨by decide,_,by simp (disch := first|omega|exact kD rfl|exact kX rfl) only [smY,simprocAttr,bl,i64,smE,hg];exact rfl,?_⟩,⟨by decide,_,by simp (disch := first|omega|exact kD rfl|exact kX rfl) only [smY,simprocAttr,bl,i64,smE,hg];exact rfl,?_⟩⟩
        ·simp only [smF,dg,renL,renLs,simprocAttr,bl,i64,smE,hg];try (first | rfl | (simp only [List.length_append,List.length_singleton,List.length_cons,List.length_nil];try rfl))
        ·simp only [smF,dg,renL,renLs,simprocAttr,bl,i64,smE,hg];try rfl
        ·simp only [smF,dg,renL,renLs,simprocAttr,bl,i64,smE,hg];try rfl
       ·intro p hp q hq
        simp only [List.mem_cons,List.not_mem_nil,or_false] at hp hq
        rcases hp with rfl | rfl | rfl <;> rcases hq with rfl | rfl | rfl <;> simp
     ·obtain ⟨hX1,hX2⟩ := hX X rfl
      have hg := hX2 i h2
      simp only [st]
      (repeat ((fail_if_success (refine is_r7 ?_));first|apply zO (by decide +kernel)|apply zP (by decide +kernel)|(apply zS;(case h=>constructor<;>decide))|((first|apply l_go rfl|apply c_dec);(case hs => (simp (disch := first|omega|exact kD rfl|exact kX rfl) only [smY,simprocAttr,bl,i64,smE,hg];exact rfl));first|refine c_bt ?_|refine c_bf ?_|show lrun _ _ _ _ _ _ _ _ _)))
      apply zO (by decide +kernel)
      refine l_split 5 (by simp (disch := first|omega|exact kD rfl|exact kX rfl) only [smY,simprocAttr,bl,i64,smE,hg];exact rfl) ?_
      simp only [List.drop_succ_cons,List.drop_zero]
      refine l_append (b := 3) (nn := M.length) (cells := ec M) (news := [i64 (l.getD i 0 * Q)]) (m := 1) (by decide) tel22 (z := 0) tsz3 tby3 tze3 (by simp (disch := first|omega|exact kD rfl|exact kX rfl) only [smY,simprocAttr,bl,i64,smE,hg];try exact rfl) (by simp (disch := first|omega|exact kD rfl|exact kX rfl) only [smY,simprocAttr,bl,i64,smE,hg];try exact rfl) (by rw [ec_len];omega) (by simp (disch := first|omega|exact kD rfl|exact kX rfl) only [smY,simprocAttr,bl,i64,smE,hg];try exact rfl) (by decide) (by rw [hM];omega) (by rw [maxLen_eq,hM];omega) ?_ ?_
      ·(repeat (first|apply zO (by decide +kernel)|apply zP (by decide +kernel)|(apply zS;(case h=>constructor<;>decide))|((first|apply l_go rfl|apply c_dec|apply zT rfl (by decide) rfl);(case hs=>(simp (disch := first|omega|exact kD rfl|exact kX rfl) only [smY,simprocAttr,bl,i64,smE,hg];exact rfl));first|refine c_bt ?_|refine c_bf ?_|refine zq ?_|(case hg=>assumption))))
       refine ⟨⟨(i + 1,some X),by simp only;omega,hX⟩,?_,by simp only;omega⟩
       simp only [hs,st]
       refine Sub.heap (na := 2) (fun b => ([0,1,2,3] : List Nat).getD b 0) ?_ ?_ ?_ (by decide)
       ·simp only [smF,dg,renL,renLs,simprocAttr,bl,i64,smE,hg]
        try (simp only [LV.lit.injEq,Value.int.injEq,true_and,and_true,Int.pow_succ,Int.pow_zero,Int.one_mul];omega)
        try (simp;done)
        try (rw [wrap_i64 (by omega)];simp only [LV.lit.injEq,Value.int.injEq,true_and,and_true];omega)
       ·simp only [List.forall_mem_cons,List.not_mem_nil,false_imp_iff,implies_true,and_true]
        refine ⟨⟨by decide,_,by simp (disch := first|omega|exact kD rfl|exact kX rfl) only [smY,simprocAttr,bl,i64,smE,hg];exact rfl,?_⟩,⟨by decide,_,by simp (disch := first|omega|exact kD rfl|exact kX rfl) only [smY,simprocAttr,bl,i64,smE,hg];exact rfl,?_⟩,⟨by decide,_,by simp (disch := first|omega|exact kD rfl|exact kX rfl) only [smY,simprocAttr,bl,i64,smE,hg];exact rfl,?_⟩⟩
        ·simp only [smF,dg,renL,renLs,simprocAttr,bl,i64,smE,hg];try (first | rfl | (simp only [List.length_append,List.length_singleton,List.length_cons,List.length_nil];try rfl))
        ·simp only [smF,dg,renL,renLs,simprocAttr,bl,i64,smE,hg];try rfl
        ·simp only [smF,dg,renL,renLs,simprocAttr,bl,i64,smE,hg];try rfl
       ·intro p hp q hq
        simp only [List.mem_cons,List.not_mem_nil,or_false] at hp hq
        rcases hp with rfl | rfl | rfl <;> rcases hq with rfl | rfl | rfl <;> simp
      ·(repeat (first|apply zO (by decide +kernel)|apply zP (by decide +kernel)|(apply zS;(case h=>constructor<;>decide))|((first|apply l_go rfl|apply c_dec|apply zT rfl (by decide) rfl);(case hs=>(simp (disch := first|omega|exact kD rfl|exact kX rfl) only [smY,simprocAttr,bl,i64,smE,hg];exact rfl));first|refine c_bt ?_|refine c_bf ?_|refine zq ?_|(case hg=>assumption))))
       refine ⟨⟨(i + 1,some X),by simp only;omega,hX⟩,?_,by simp only;omega⟩
       simp only [hs,st]
       refine Sub.heap (na := 2) (fun b => ([0,1,2,13] : List Nat).getD b 0) ?_ ?_ ?_ (by decide)
       ·simp only [smF,dg,renL,renLs,simprocAttr,bl,i64,smE,hg]
        try (simp only [LV.lit.injEq,Value.int.injEq,true_and,and_true,Int.pow_succ,Int.pow_zero,Int.one_mul];omega)
        try (simp;done)
        try (rw [wrap_i64 (by omega)];simp only [LV.lit.injEq,Value.int.injEq,true_and,and_true];omega)
       ·simp only [List.forall_mem_cons,List.not_mem_nil,false_imp_iff,implies_true,and_true]
        refine ⟨⟨by decide,_,by simp (disch := first|omega|exact kD rfl|exact kX rfl) only [smY,simprocAttr,bl,i64,smE,hg];exact rfl,?_⟩,⟨by decide,_,by simp (disch := first|omega|exact kD rfl|exact kX rfl) only [smY,simprocAttr,bl,i64,smE,hg];exact rfl,?_⟩,⟨by decide,_,by simp (disch := first|omega|exact kD rfl|exact kX rfl) only [smY,simprocAttr,bl,i64,smE,hg];exact rfl,?_⟩⟩
        ·simp only [smF,dg,renL,renLs,simprocAttr,bl,i64,smE,hg];try (first | rfl | (simp only [List.length_append,List.length_singleton,List.length_cons,List.length_nil];try rfl))
        ·simp only [smF,dg,renL,renLs,simprocAttr,bl,i64,smE,hg];try rfl
        ·simp only [smF,dg,renL,renLs,simprocAttr,bl,i64,smE,hg];try rfl
       ·intro p hp q hq
        simp only [List.mem_cons,List.not_mem_nil,or_false] at hp hq
        rcases hp with rfl | rfl | rfl <;> rcases hq with rfl | rfl | rfl <;> simp
    ·obtain rfl : i = l.length := by omega
     rcases fl with _ | X
     ·simp only [st]
      rw [hl0]
      (repeat (first|apply zO (by decide +kernel)|apply zP (by decide +kernel)|(apply zS;(case h=>constructor<;>decide))|((first|apply l_go rfl|apply c_dec|apply zT rfl (by decide) rfl);(case hs=>(simp (disch := first|omega|exact kD rfl|exact kX rfl) only [smY,simprocAttr,bl,i64,smE];exact rfl));first|refine c_bt ?_|refine c_bf ?_|refine zq ?_|(case hg=>assumption))))
      refine ⟨⟨j + 1,by omega⟩,?_,by simp only;omega⟩
      simp only [hQ3,st]
      refine Sub.heap (na := 2) (fun b => ([0,1,2] : List Nat).getD b 0) ?_ ?_ ?_ (by decide)
      ·simp only [smF,dg,renL,renLs,simprocAttr,bl,i64,smE]
       try (simp only [LV.lit.injEq,Value.int.injEq,true_and,and_true,Int.pow_succ,Int.pow_zero,Int.one_mul];omega)
       try (simp;done)
       try (rw [wrap_i64 (by omega)];simp only [LV.lit.injEq,Value.int.injEq,true_and,and_true];omega)
      ·simp only [List.forall_mem_cons,List.not_mem_nil,false_imp_iff,implies_true,and_true]
       refine ⟨⟨by decide,_,by simp (disch := first|omega|exact kD rfl|exact kX rfl) only [smY,simprocAttr,bl,i64,smE];exact rfl,?_⟩,⟨by decide,_,by simp (disch := first|omega|exact kD rfl|exact kX rfl) only [smY,simprocAttr,bl,i64,smE];exact rfl,?_⟩⟩
       ·simp only [smF,dg,renL,renLs,simprocAttr,bl,i64,smE];try (first | rfl | (simp only [List.length_append,List.length_singleton,List.length_cons,List.length_nil];try rfl))
       ·simp only [smF,dg,renL,renLs,simprocAttr,bl,i64,smE];try rfl
      ·intro p hp q hq
       simp only [List.mem_cons,List.not_mem_nil,or_false] at hp hq
       rcases hp with rfl | rfl <;> rcases hq with rfl | rfl <;> simp
     ·simp only [st]
      rw [hl0]
      (repeat (first|apply zO (by decide +kernel)|apply zP (by decide +kernel)|(apply zS;(case h=>constructor<;>decide))|((first|apply l_go rfl|apply c_dec|apply zT rfl (by decide) rfl);(case hs=>(simp (disch := first|omega|exact kD rfl|exact kX rfl) only [smY,simprocAttr,bl,i64,smE];exact rfl));first|refine c_bt ?_|refine c_bf ?_|refine zq ?_|(case hg=>assumption))))
      refine ⟨⟨j + 1,by omega⟩,?_,by simp only;omega⟩
      simp only [hQ3,st]
      refine Sub.heap (na := 2) (fun b => ([0,1,3] : List Nat).getD b 0) ?_ ?_ ?_ (by decide)
      ·simp only [smF,dg,renL,renLs,simprocAttr,bl,i64,smE]
       try (simp only [LV.lit.injEq,Value.int.injEq,true_and,and_true,Int.pow_succ,Int.pow_zero,Int.one_mul];omega)
       try (simp;done)
       try (rw [wrap_i64 (by omega)];simp only [LV.lit.injEq,Value.int.injEq,true_and,and_true];omega)
      ·simp only [List.forall_mem_cons,List.not_mem_nil,false_imp_iff,implies_true,and_true]
       refine ⟨⟨by decide,_,by simp (disch := first|omega|exact kD rfl|exact kX rfl) only [smY,simprocAttr,bl,i64,smE];exact rfl,?_⟩,⟨by decide,_,by simp (disch := first|omega|exact kD rfl|exact kX rfl) only [smY,simprocAttr,bl,i64,smE];exact rfl,?_⟩⟩
       ·simp only [smF,dg,renL,renLs,simprocAttr,bl,i64,smE];try (first | rfl | (simp only [List.length_append,List.length_singleton,List.length_cons,List.length_nil];try rfl))
       ·simp only [smF,dg,renL,renLs,simprocAttr,bl,i64,smE];try rfl
      ·intro p hp q hq
       simp only [List.mem_cons,List.not_mem_nil,or_false] at hp hq
       rcases hp with rfl | rfl <;> rcases hq with rfl | rfl <;> simp
  ·obtain rfl : j = e := by omega
   (repeat (first|apply zO (by decide +kernel)|apply zP (by decide +kernel)|(apply zS;(case h=>constructor<;>decide))|((first|apply l_go rfl|apply c_dec|apply zT rfl (by decide) rfl);(case hs=>(simp (disch := first|omega|exact kD rfl|exact kX rfl) only [smY,simprocAttr,bl,i64,smE];exact rfl));first|refine c_bt ?_|refine c_bf ?_|refine zq ?_|(case hg=>assumption))))
   exact ⟨by simp only [smR];try rfl,rfl,Nat.le_of_ble_eq_true rfl⟩
end Go.Proofs.YtpkjokknpbclhaaGreat
namespace Go.Proofs.YtpkjokknpbclhaaGreat
open Go Go.Lg Go.Num
set_option maxRecDepth 100000
def rdNs : List LV → Option (List Nat)
 | [] => some []
 | .lit (.int .i64 (.ofNat d)) :: cs => match rdNs cs with
   | some ds => bif Nat.ble d 1000 then some (d :: ds) else none
   | none => none
 | _ => none
def nI (l : List Nat) : List Int := l.map fun (d : Nat) => (d : Int)
theorem rdNs_ok : ∀ {cs : List LV} {l : List Nat},rdNs cs = some l → cs = ec (nI l) ∧ ∀ i,i < l.length → 0 ≤ (nI l).getD i 0 ∧ (nI l).getD i 0 ≤ 1000
 | [],l,h => by cases h;exact ⟨rfl,by simp⟩
 | c :: cs,l,h => by
   unfold rdNs at h
   split at h
   · simp_all
   · rename_i d cs' he
     simp only [List.cons.injEq] at he
     obtain ⟨rfl,rfl⟩ := he
     split at h
     · rename_i ds hds
       cases hb : Nat.ble d 1000 with
       | true =>
         rw [hb,cond_true] at h
         cases h
         obtain ⟨e1,e2⟩ := rdNs_ok hds
         rw [e1]
         refine ⟨rfl,fun i hi => ?_⟩
         have := Nat.le_of_ble_eq_true hb
         cases i with
         | zero => simp [nI];omega
         | succ i => simpa [nI] using e2 i (by simpa using hi)
       | false => rw [hb,cond_false] at h;cases h
     · cases h
   · cases h
def powN (l : List Nat) (p : Nat) : Nat → List Nat
 | 0 => l
 | j + 1 => powN l p j ++ l.map (· * p ^ (j + 1))
theorem powN_eq (l : List Nat) (p : Nat) : ∀ j,powL (nI l) (p : Int) j = nI (powN l p j)
 | 0 => rfl
 | j + 1 => by
   rw [powL,powN,powN_eq l p j]
   simp [nI,Function.comp_def]
def encNs : List Nat → List LV
 | [] => []
 | d :: l => .lit (.int .i64 (.ofNat d)) :: encNs l
theorem encNs_eq : ∀ l : List Nat,encNs l = ec (nI l)
 | [] => rfl
 | d :: l => by rw [encNs,encNs_eq l];rfl
noncomputable def orcDiv (args : List LV) (hp : List (Nat × Blk)) (nb : Nat) : Option (LV × List (Nat × Blk) × Nat) :=
 match args with
 | [.lit (.int .i64 (.ofNat p)),.lit (.int .i64 (.ofNat e)),.ptr c o] => match lkG hp c with
   | some ⟨ts,[.own b o' n sz],false⟩ => match lkG hp b with
     | some ⟨te,cells,false⟩ => match rdNs cells with
       | some l => bif Nat.beq o 0 && Nat.beq o' 0 && Nat.beq sz 1 && Nat.beq ts 22 && Nat.beq te 3 && Nat.beq n l.length && !(Nat.beq c b) && Nat.ble 1 p && Nat.ble p 1000 && Nat.ble e 1000 && Nat.ble (p ^ e) 1000 && Nat.ble l.length 1000 && Nat.ble (l.length * (e + 1)) 100000 then
           fLs (encNs (powN l p e)) fun cs => fNat (powN l p e).length fun n' => fNat nb fun nb => some (.tup [],(nb,⟨3,cs,false⟩) :: (c,⟨22,[.own nb 0 n' 1],false⟩) :: delG hp b,nb + 1) else none
       | none => none
     | _ => none
   | _ => none
 | _ => none
theorem orcDiv_ok {args : List LV} {hp hp' : List (Nat × Blk)} {nb nb' : Nat} {r : LV} (h : orcDiv args hp nb = some (r,hp',nb')) : nb ≤ nb' ∧ HGood Tryz.prog 88 args (lkG hp) nb r (lkG hp') nb' := by
 unfold orcDiv at h
 split at h
 ·rename_i p e c o
  split at h
  ·rename_i ts b o' n sz hc
   split at h
   ·rename_i te cells hb
    split at h
    ·rename_i l hl
     generalize hcond : (Nat.beq o 0 && Nat.beq o' 0 && Nat.beq sz 1 && Nat.beq ts 22 && Nat.beq te 3 && Nat.beq n l.length && !(Nat.beq c b) && Nat.ble 1 p && Nat.ble p 1000 && Nat.ble e 1000 && Nat.ble (p ^ e) 1000 && Nat.ble l.length 1000 && Nat.ble (l.length * (e + 1)) 100000) = q at h
     cases q with
     | false => rw [cond_false] at h;cases h
     | true =>
       rw [cond_true,fLs_eq,fNat_eq,fNat_eq] at h
       cases h
       simp only [Bool.and_eq_true,Bool.not_eq_true',Nat.beq_eq,Nat.ble_eq] at hcond
       obtain ⟨⟨⟨⟨⟨⟨⟨⟨⟨⟨⟨⟨rfl,rfl⟩,rfl⟩,rfl⟩,rfl⟩,rfl⟩,hne⟩,c1⟩,c2⟩,c3⟩,c4⟩,c5⟩,c6⟩ := hcond
       obtain ⟨rfl,e2⟩ := rdNs_ok hl
       have hcb : c ≠ b := fun e => by subst e;simp at hne
       have ll : (nI l).length = l.length := by simp [nI]
       have hg := divcl_good (nI l) p e ⟨c1,c2⟩ c3 c4 (by rw [ll];exact c5) (by rw [ll];exact c6) (fun i hi => e2 i (by rw [← ll];exact hi))
       rw [powN_eq,ll] at hg
       have hf := h_frame2 (h := lkG hp) (c := c) (b := b) (nb := nb) hg (by simp [plainC,i64]) rfl (ec_plain' _) (ec_plain' _) hc hb hcb
       refine ⟨Nat.le_succ _,?_⟩
       rw [lkG_cons,lkG_cons,lkG_del,encNs_eq]
       have e3 : (nI (powN l p e)).length = (powN l p e).length := by simp [nI]
       rw [e3] at hf
       exact hf
    ·cases h
   ·cases h
  ·cases h
 ·cases h
noncomputable def horc : Callf := fun f args hp nb => bif Nat.beq f 88 then orcDiv args hp nb else none
theorem horc_ok : CallOk Tryz.prog horc := by
 intro f args hp nb r hp' nb' h
 unfold horc at h
 cases hb : Nat.beq f 88 with
 | true =>
   rw [hb,cond_true] at h
   rw [Nat.eq_of_beq_eq_true hb]
   exact orcDiv_ok h
 | false => rw [hb,cond_false] at h;cases h
end Go.Proofs.YtpkjokknpbclhaaGreat
namespace Go.Proofs.YtpkjokknpbclhaaGreat
open Go Go.Lg Go.Num
set_option maxRecDepth 100000
def orcQ1 (g : Rat → Rat) (args : List LV) : Option LV :=
 match args with
 | [.agg l] => match rdQ l with
   | some x => fQ (g x) fun r => bif tiny x && tiny r then some (wrQ r) else none
   | _ => none
 | _ => none
theorem orcQ1_ok {fid : FuncId} {g : Rat → Rat} (hg : ∀ p,lq p ≤ 34359738368 → PureGood Tryz.prog fid [encQ p] (encQ (g p))) {args : List LV} {r : LV} (h : orcQ1 g args = some r) : PureGood Tryz.prog fid args r := by
 unfold orcQ1 at h
 split at h
 ·split at h
  ·rename_i l x h1
   rw [fQ_eq] at h
   cases hb : (tiny x && tiny (g x)) with
   | true =>
     rw [hb] at h
     simp only [Bool.and_eq_true] at hb
     cases h
     have hx := tiny_lq hb.1
     rw [wrQ_eq hb.2,rdQ_ok h1]
     exact hg x (by omega)
   | false => rw [hb] at h;cases h
  ·cases h
 ·cases h
def orcSgn (args : List LV) : Option LV :=
 match args with
 | [.agg l] => match rdQ l with
   | some x => fInt x.num.sign fun r => bif tiny x then some (.lit (.int .i64 r)) else none
   | _ => none
 | _ => none
theorem orcSgn_ok {fid : FuncId} (hg : ∀ p : Rat,lq p ≤ 34359738368 → PureGood Tryz.prog fid [encQ p] (i64 p.num.sign)) {args : List LV} {r : LV} (h : orcSgn args = some r) : PureGood Tryz.prog fid args r := by
 unfold orcSgn at h
 split at h
 ·split at h
  ·rename_i l x h1
   rw [fInt_eq] at h
   cases hb : tiny x with
   | true =>
     rw [hb] at h
     cases h
     have hx := tiny_lq hb
     rw [rdQ_ok h1]
     exact hg x (by omega)
   | false => rw [hb] at h;cases h
  ·cases h
 ·cases h
def orcWh (args : List LV) : Option LV :=
 match args with
 | [.agg [a,b]] => match rdI a b with
   | some z => bif tinyI z then some (.agg (wrI z ++ wrI 1)) else none
   | _ => none
 | _ => none
theorem wh_enc {z : Int} (h : tinyI z = true) : LV.agg (wrI z ++ wrI 1) = encQ z := by
 have e := wrI_enc h
 have e1 := wrI_enc (z := 1) (by decide +kernel)
 rw [encI_sm] at e e1
 injection e with e
 injection e1 with e1
 rw [e,e1,encQ_sm]
 rfl
theorem orcWh_ok {args : List LV} {r : LV} (h : orcWh args = some r) : PureGood Tryz.prog 46 args r := by
 unfold orcWh at h
 split at h
 ·split at h
  ·rename_i a b z h1
   cases hb : tinyI z with
   | true =>
     rw [hb] at h
     cases h
     obtain ⟨rfl,rfl⟩ := rdI_ok h1
     have hx := tinyI_len hb
     rw [wh_enc hb]
     have := whole_good z (by omega)
     rwa [encI_sm] at this
   | false => rw [hb] at h;cases h
  ·cases h
 ·cases h
def orcOfQ (args : List LV) : Option LV :=
 match args with
 | [.lit (.int .i64 z)] => bif Nat.ble z.natAbs 1000000 then some (.agg (wrI z ++ wrI 1)) else none
 | _ => none
theorem tinyI_small {z : Int} (h : z.natAbs ≤ 1000000) : tinyI z = true := by
 unfold tinyI
 rw [Nat.ble_eq]
 have : (1000001 : Nat) ≤ 4294967296 ^ 100 := by decide +kernel
 omega
theorem orcOfQ_ok {fid : FuncId} (hg : ∀ n : Int,-9223372036854775808 ≤ n ∧ n ≤ 9223372036854775807 → PureGood Tryz.prog fid [i64 n] (encQ n)) {args : List LV} {r : LV} (h : orcOfQ args = some r) : PureGood Tryz.prog fid args r := by
 unfold orcOfQ at h
 split at h
 ·rename_i z
  cases hb : Nat.ble z.natAbs 1000000 with
  | true =>
    rw [hb] at h
    cases h
    have hz := Nat.le_of_ble_eq_true hb
    rw [wh_enc (tinyI_small hz)]
    exact hg z (by omega)
  | false => rw [hb] at h;cases h
 ·cases h
def orcOfI (args : List LV) : Option LV :=
 match args with
 | [.lit (.int .i64 z)] => bif Nat.ble z.natAbs 1000000 then some (.agg (wrI z)) else none
 | _ => none
theorem orcOfI_ok {fid : FuncId} (hg : ∀ n : Int,-9223372036854775808 ≤ n ∧ n ≤ 9223372036854775807 → PureGood Tryz.prog fid [i64 n] (encI n)) {args : List LV} {r : LV} (h : orcOfI args = some r) : PureGood Tryz.prog fid args r := by
 unfold orcOfI at h
 split at h
 ·rename_i z
  cases hb : Nat.ble z.natAbs 1000000 with
  | true =>
    rw [hb] at h
    cases h
    have hz := Nat.le_of_ble_eq_true hb
    rw [wrI_enc (tinyI_small hz)]
    exact hg z (by omega)
  | false => rw [hb] at h;cases h
 ·cases h
def orc29 (f : FuncId) (args : List LV) : Option LV := bif Nat.beq f 137 then orcQ1 (fun q => q) args else bif Nat.beq f 113 then orcSgn args else bif Nat.beq f 46 then orcWh args else bif Nat.beq f 97 then orcOfQ args else bif Nat.beq f 47 then orcOfI args else bif Nat.beq f 44 then orcOfQ args else orc3 f args
theorem orc29_ok : OrcOk Tryz.prog orc29 := by
 intro f args r h
 exact orc_cons (f0 := 137) (g := orcQ1 (fun q => q)) (fun _ _ h => orcQ1_ok (g := fun q => q) (fun q hq => qnorm_good q (by omega)) h)
  (orc_cons (f0 := 113) (g := orcSgn) (fun _ _ h => orcSgn_ok (fun q hq => qsign_good q (by omega)) h)
  (orc_cons (f0 := 46) (g := orcWh) (fun _ _ h => orcWh_ok h)
  (orc_cons (f0 := 97) (g := orcOfQ) (fun _ _ h => orcOfQ_ok (fun n hn => qof_good n hn) h)
  (orc_cons (f0 := 47) (g := orcOfI) (fun _ _ h => orcOfI_ok (fun n hn => of_good n hn) h)
  (orc_cons (f0 := 44) (g := orcOfQ) (fun _ _ h => orcOfQ_ok (fun n hn => baseQ_good n hn) h) orc3_ok))))) f args r h
def modG (f : FuncId) : Nat := bif Nat.beq f 118 || Nat.beq f 70 then 2 else 0
noncomputable def evo (o : FuncId → List LV → Option LV) (f : Nat) (args : List LV) : Option LV := evPH Tryz.prog o horc modG [9] 600 f args
theorem evo_good {o : FuncId → List LV → Option LV} (ho : OrcOk Tryz.prog o) {f : Nat} {args : List LV} {r : LV} (h : evo o f args = some r) : PureGood Tryz.prog f args r := evPH_sound mix ho horc_ok bodies_ok h
end Go.Proofs.YtpkjokknpbclhaaGreat
namespace Go.Proofs.YtpkjokknpbclhaaGreat
open Go Go.Lg Go.Num
set_option maxRecDepth 100000
set_option maxHeartbeats 4000000
attribute [local irreducible] Go.Lg.lrun Go.Lg.lwp Go.Lg.exThen Go.Lg.exBlk Go.Lg.keep Go.Lg.goodPost
theorem gcdI_good (a b : Int) (ha : -9223372036854775807 ≤ a ∧ a ≤ 9223372036854775807) (hb : -9223372036854775807 ≤ b ∧ b ≤ 9223372036854775807) : PureGood Tryz.prog 57 [i64 a,i64 b] (i64 (Int.gcd a b)) := by
 generalize hgg : Int.gcd a b = g
 have hgb : (g : Int) ≤ 9223372036854775807 := by
  rw [← hgg]
  by_cases h0 : a = 0
  ·subst h0
   rw [Int.gcd_zero_left]
   omega
  ·have : Int.gcd a b ≤ a.natAbs := Nat.le_of_dvd (by omega) (Nat.gcd_dvd_left _ _)
   omega
 simp only [i64]
 refine good_of_lwp mix Tryz.func57 rfl (by decide) (nt := 15) rfl (rs := [.tmp 4]) rfl (nle rfl) ?_
 (repeat (first|apply zO (by decide +kernel)|apply zP (by decide +kernel)|(apply zS;(case h=>constructor<;>decide))|((first|apply l_go rfl|apply c_dec|apply zT rfl (by decide) rfl);(case hs=>(simp (disch := first|omega|exact kD rfl|exact kX rfl) only [smY,simprocAttr,bl,i64];exact rfl));first|refine c_bt ?_|refine c_bf ?_|refine zq ?_|(case hg=>assumption))))
 refine w_loop (α := {p : Int × Int // Int.gcd p.1 p.2 = g ∧ (-9223372036854775807 ≤ p.1 ∧ p.1 ≤ 9223372036854775807) ∧ (-9223372036854775807 ≤ p.2 ∧ p.2 ≤ 9223372036854775807)}) (fun p => st 15 (lk [(0,i64 p.1.1),(1,i64 p.1.2)]) (lkH []) 0) (fun p => p.1.2.natAbs) ⟨(a,b),hgg,ha,hb⟩ ?_ ?_
 ·(refine Sub.plain ?_;simp only [smF,dg,renL,renLs,simprocAttr,bl,i64])
 ·rintro ⟨⟨x,y⟩,hg,hx,hy⟩
  simp only at hg hx hy
  simp only [st]
  by_cases hy0 : y = 0
  ·subst hy0
   rw [Int.gcd_zero_right] at hg
   have hmx : (if (0 : Int) > (if 0 - x > x then 0 - x else x) then 0 else (if 0 - x > x then 0 - x else x)) = (g : Int) := by split <;> split <;> omega
   (repeat (first|apply zO (by decide +kernel)|apply zP (by decide +kernel)|(apply zS;(case h=>constructor<;>decide))|((first|apply l_go rfl|apply c_dec|apply zT rfl (by decide) rfl);(case hs=>(simp (disch := first|omega|exact kD rfl|exact kX rfl) only [smY,simprocAttr,bl,i64,hmx];exact rfl));first|refine c_bt ?_|refine c_bf ?_|refine zq ?_|(case hg=>assumption))))
   ((first|apply g_ret|apply g_end);case hres => (simp only [smR];simp (disch := first|omega|exact kD rfl|exact kX rfl) only [smY,simprocAttr,bl,i64,hmx];exact rfl))
   simp (disch := first|omega|exact kD rfl|exact kX rfl) only [smY,simprocAttr,bl,i64,hmx]
  ·have hmod : (x.tmod y).natAbs = x.natAbs % y.natAbs := Int.natAbs_tmod x y
   have hlt : x.natAbs % y.natAbs < y.natAbs := Nat.mod_lt _ (by omega)
   have hgn : Int.gcd y (x.tmod y) = g := by
    rw [← hg]
    unfold Int.gcd
    rw [hmod,Nat.gcd_comm x.natAbs,Nat.gcd_rec y.natAbs x.natAbs,Nat.gcd_comm]
   (repeat (first|apply zO (by decide +kernel)|apply zP (by decide +kernel)|(apply zS;(case h=>constructor<;>decide))|((first|apply l_go rfl|apply c_dec|apply zT rfl (by decide) rfl);(case hs=>(simp (disch := first|omega|exact kD rfl|exact kX rfl) only [smY,simprocAttr,bl,i64];exact rfl));first|refine c_bt ?_|refine c_bf ?_|refine zq ?_|(case hg=>assumption))))
   refine ⟨⟨(y,x.tmod y),hgn,hy,by simp only;omega⟩,?_,by simp only;omega⟩
   (refine Sub.plain ?_;simp only [smF,dg,renL,renLs,simprocAttr,bl,i64])
theorem gcd18_good (a b : Int) (ha : -9223372036854775807 ≤ a ∧ a ≤ 9223372036854775807) (hb : -9223372036854775807 ≤ b ∧ b ≤ 9223372036854775807) : PureGood Tryz.prog 49 [i64 a,i64 b] (i64 (Int.gcd a b)) := by
 generalize hgg : Int.gcd a b = g
 have hgb : (g : Int) ≤ 9223372036854775807 := by
  rw [← hgg]
  by_cases h0 : a = 0
  ·subst h0
   rw [Int.gcd_zero_left]
   omega
  ·have : Int.gcd a b ≤ a.natAbs := Nat.le_of_dvd (by omega) (Nat.gcd_dvd_left _ _)
   omega
 simp only [i64]
 refine good_of_lwp mix Tryz.func49 rfl (by decide) (nt := 15) rfl (rs := [.tmp 4]) rfl (nle rfl) ?_
 (repeat (first|apply zO (by decide +kernel)|apply zP (by decide +kernel)|(apply zS;(case h=>constructor<;>decide))|((first|apply l_go rfl|apply c_dec|apply zT rfl (by decide) rfl);(case hs=>(simp (disch := first|omega|exact kD rfl|exact kX rfl) only [smY,simprocAttr,bl,i64];exact rfl));first|refine c_bt ?_|refine c_bf ?_|refine zq ?_|(case hg=>assumption))))
 refine w_loop (α := {p : Int × Int // Int.gcd p.1 p.2 = g ∧ (-9223372036854775807 ≤ p.1 ∧ p.1 ≤ 9223372036854775807) ∧ (-9223372036854775807 ≤ p.2 ∧ p.2 ≤ 9223372036854775807)}) (fun p => st 15 (lk [(0,i64 p.1.1),(1,i64 p.1.2)]) (lkH []) 0) (fun p => p.1.2.natAbs) ⟨(a,b),hgg,ha,hb⟩ ?_ ?_
 ·(refine Sub.plain ?_;simp only [smF,dg,renL,renLs,simprocAttr,bl,i64])
 ·rintro ⟨⟨x,y⟩,hg,hx,hy⟩
  simp only at hg hx hy
  simp only [st]
  by_cases hy0 : y = 0
  ·subst hy0
   rw [Int.gcd_zero_right] at hg
   have hmx : (if 0 - x > x then 0 - x else x) = (g : Int) := by split <;> omega
   (repeat (first|apply zO (by decide +kernel)|apply zP (by decide +kernel)|(apply zS;(case h=>constructor<;>decide))|((first|apply l_go rfl|apply c_dec|apply zT rfl (by decide) rfl);(case hs=>(simp (disch := first|omega|exact kD rfl|exact kX rfl) only [smY,simprocAttr,bl,i64,hmx];exact rfl));first|refine c_bt ?_|refine c_bf ?_|refine zq ?_|(case hg=>assumption))))
   ((first|apply g_ret|apply g_end);case hres => (simp only [smR];simp (disch := first|omega|exact kD rfl|exact kX rfl) only [smY,simprocAttr,bl,i64,hmx];exact rfl))
   simp (disch := first|omega|exact kD rfl|exact kX rfl) only [smY,simprocAttr,bl,i64,hmx]
  ·have hmod : (x.tmod y).natAbs = x.natAbs % y.natAbs := Int.natAbs_tmod x y
   have hlt : x.natAbs % y.natAbs < y.natAbs := Nat.mod_lt _ (by omega)
   have hgn : Int.gcd y (x.tmod y) = g := by
    rw [← hg]
    unfold Int.gcd
    rw [hmod,Nat.gcd_comm x.natAbs,Nat.gcd_rec y.natAbs x.natAbs,Nat.gcd_comm]
   (repeat (first|apply zO (by decide +kernel)|apply zP (by decide +kernel)|(apply zS;(case h=>constructor<;>decide))|((first|apply l_go rfl|apply c_dec|apply zT rfl (by decide) rfl);(case hs=>(simp (disch := first|omega|exact kD rfl|exact kX rfl) only [smY,simprocAttr,bl,i64];exact rfl));first|refine c_bt ?_|refine c_bf ?_|refine zq ?_|(case hg=>assumption))))
   refine ⟨⟨(y,x.tmod y),hgn,hy,by simp only;omega⟩,?_,by simp only;omega⟩
   (refine Sub.plain ?_;simp only [smF,dg,renL,renLs,simprocAttr,bl,i64])
def phN (n : Nat) : Nat → Nat
 | 0 => 0
 | u + 1 => phN n u + (if Nat.gcd (u + 1) n = 1 then 1 else 0)
theorem phN_le (n : Nat) : ∀ u,phN n u ≤ u
 | 0 => Nat.le_refl _
 | u + 1 => by
   have := phN_le n u
   rw [phN]
   split <;> omega
theorem phi28_good (n : Nat) (hn : n ≤ 1000000) : PureGood Tryz.prog 35 [i64 n] (i64 (phN n n)) := by
 simp only [i64]
 refine good_of_lwp mix Tryz.func35 rfl (by decide) (nt := 17) rfl (rs := [.tmp 2]) rfl (nle rfl) ?_
 (repeat (first|apply zO (by decide +kernel)|apply zP (by decide +kernel)|(apply zS;(case h=>constructor<;>decide))|((first|apply l_go rfl|apply c_dec|apply zT rfl (by decide) rfl);(case hs=>(simp (disch := first|omega|exact kD rfl|exact kX rfl) only [smY,simprocAttr,bl,i64];exact rfl));first|refine c_bt ?_|refine c_bf ?_|refine zq ?_|(case hg=>assumption))))
 refine w_loop (α := {u : Nat // u ≤ n}) (fun u => st 17 (lk [(0,i64 n),(3,i64 (phN n u.1)),(4,i64 ((u.1 + 1 : Nat) : Int))]) (lkH []) 0) (fun u => n - u.1) ⟨0,by omega⟩ ?_ ?_
 ·(refine Sub.plain ?_;simp only [smF,dg,renL,renLs,simprocAttr,bl,i64])
  exact ⟨trivial,rfl⟩
 ·rintro ⟨u,hu⟩
  simp only [st]
  have hle := phN_le n u
  by_cases hlt : u < n
  ·have g := gcd18_good ((u + 1 : Nat) : Int) n (by omega) (by omega)
   have hgn : Int.gcd ((u + 1 : Nat) : Int) (n : Int) = Nat.gcd (u + 1) n := rfl
   rw [hgn] at g
   have e : phN n (u + 1) = _ := phN.eq_2 n u
   simp only [i64] at g
   by_cases h1 : Nat.gcd (u + 1) n = 1
   ·rw [if_pos h1] at e
    rw [h1] at g
    (repeat (first|apply zO (by decide +kernel)|apply zP (by decide +kernel)|(apply zS;(case h=>constructor<;>decide))|((first|apply l_go rfl|apply c_dec|apply zT rfl (by decide) rfl);(case hs=>(simp (disch := first|omega|exact kD rfl|exact kX rfl) only [smY,simprocAttr,bl,i64];exact rfl));first|refine c_bt ?_|refine c_bf ?_|refine zq ?_|(case hg=>assumption))))
    refine ⟨⟨u + 1,by omega⟩,?_,by simp only;omega⟩
    (refine Sub.plain ?_;simp only [smF,dg,renL,renLs,simprocAttr,bl,i64])
    rw [e]
    exact ⟨trivial,by simp⟩
   ·rw [if_neg h1] at e
    have h1' : ¬ ((Nat.gcd (u + 1) n : Nat) : Int) = 1 := by omega
    generalize Nat.gcd (u + 1) n = gg at *
    (repeat (first|apply zO (by decide +kernel)|apply zP (by decide +kernel)|(apply zS;(case h=>constructor<;>decide))|((first|apply l_go rfl|apply c_dec|apply zT rfl (by decide) rfl);(case hs=>(simp (disch := first|omega|exact kD rfl|exact kX rfl) only [smY,simprocAttr,bl,i64];exact rfl));first|refine c_bt ?_|refine c_bf ?_|refine zq ?_|(case hg=>assumption))))
    refine ⟨⟨u + 1,by omega⟩,?_,by simp only;omega⟩
    (refine Sub.plain ?_;simp only [smF,dg,renL,renLs,simprocAttr,bl,i64])
    rw [e]
    exact ⟨trivial,by simp⟩
  ·obtain rfl : u = n := by omega
   (repeat (first|apply zO (by decide +kernel)|apply zP (by decide +kernel)|(apply zS;(case h=>constructor<;>decide))|((first|apply l_go rfl|apply c_dec|apply zT rfl (by decide) rfl);(case hs=>(simp (disch := first|omega|exact kD rfl|exact kX rfl) only [smY,simprocAttr,bl,i64];exact rfl));first|refine c_bt ?_|refine c_bf ?_|refine zq ?_|(case hg=>assumption))))
   ((first|apply g_ret|apply g_end);case hres => (simp only [smR];simp (disch := first|omega|exact kD rfl|exact kX rfl) only [smY,simprocAttr,bl,i64];exact rfl))
   simp (disch := first|omega|exact kD rfl|exact kX rfl) only [smY,simprocAttr,bl,i64]
def orcGcd (args : List LV) : Option LV := match args with
 | [.lit (.int .i64 a),.lit (.int .i64 b)] => bif Nat.ble a.natAbs 9223372036854775807 && Nat.ble b.natAbs 9223372036854775807 then fNat (Nat.gcd a.natAbs b.natAbs) fun g => some (.lit (.int .i64 (.ofNat g))) else none
 | _ => none
theorem orcGcd_ok {fid : FuncId} (hg : ∀ a b : Int,(-9223372036854775807 ≤ a ∧ a ≤ 9223372036854775807) → (-9223372036854775807 ≤ b ∧ b ≤ 9223372036854775807) → PureGood Tryz.prog fid [i64 a,i64 b] (i64 (Int.gcd a b))) {args : List LV} {r : LV} (h : orcGcd args = some r) : PureGood Tryz.prog fid args r := by
 unfold orcGcd at h
 split at h
 ·rename_i a b
  cases hb : (Nat.ble a.natAbs 9223372036854775807 && Nat.ble b.natAbs 9223372036854775807) with
  | true =>
    rw [hb,cond_true,fNat_eq] at h
    cases h
    rw [Bool.and_eq_true,Nat.ble_eq,Nat.ble_eq] at hb
    exact hg a b (by omega) (by omega)
  | false => rw [hb] at h;cases h
 ·cases h
def phK (n : Nat) : Nat := Nat.rec (motive := fun _ => Nat → Nat) (fun a => a) (fun u ih a => ih (fNat (bif Nat.beq (Nat.gcd (Nat.succ u) n) 1 then Nat.succ a else a) id)) n 0
theorem phK_eq (n : Nat) : phK n = phN n n := by
 have key : ∀ (u a : Nat),Nat.rec (motive := fun _ => Nat → Nat) (fun a => a) (fun u ih a => ih (fNat (bif Nat.beq (Nat.gcd (Nat.succ u) n) 1 then Nat.succ a else a) id)) u a = phN n u + a := by
  intro u
  induction u with
  | zero => intro a;show a = _;simp [phN]
  | succ u ih =>
    intro a
    show Nat.rec (motive := fun _ => Nat → Nat) (fun a => a) (fun u ih a => ih (fNat (bif Nat.beq (Nat.gcd (Nat.succ u) n) 1 then Nat.succ a else a) id)) u (fNat (bif Nat.beq (Nat.gcd (Nat.succ u) n) 1 then Nat.succ a else a) id) = _
    rw [ih,fNat_eq,phN]
    by_cases h : Nat.gcd (u + 1) n = 1
    · rw [if_pos h,show Nat.beq (Nat.gcd (Nat.succ u) n) 1 = true from by rw [Nat.beq_eq];exact h]
      simp only [cond_true,id]
      omega
    · rw [if_neg h,show Nat.beq (Nat.gcd (Nat.succ u) n) 1 = false from Bool.eq_false_iff.2 (fun e => h (Nat.eq_of_beq_eq_true e))]
      simp only [cond_false,id]
      omega
 exact key n 0
def orcPhi (args : List LV) : Option LV := match args with
 | [.lit (.int .i64 (.ofNat n))] => bif Nat.ble n 1000000 then fNat (phK n) fun k => some (.lit (.int .i64 (.ofNat k))) else none
 | _ => none
theorem orcPhi_ok {args : List LV} {r : LV} (h : orcPhi args = some r) : PureGood Tryz.prog 35 args r := by
 unfold orcPhi at h
 split at h
 ·rename_i n
  cases hb : Nat.ble n 1000000 with
  | true =>
    rw [hb,cond_true,fNat_eq] at h
    cases h
    rw [Nat.ble_eq] at hb
    rw [phK_eq]
    exact phi28_good n hb
  | false => rw [hb] at h;cases h
 ·cases h
def orcN (f : FuncId) (args : List LV) : Option LV := bif Nat.beq f 57 then orcGcd args else bif Nat.beq f 49 then orcGcd args else bif Nat.beq f 35 then orcPhi args else orc29 f args
theorem orcN_ok : OrcOk Tryz.prog orcN := by
 intro f args r h
 exact orc_cons (f0 := 57) (g := orcGcd) (fun _ _ h => orcGcd_ok gcdI_good h) (orc_cons (f0 := 49) (g := orcGcd) (fun _ _ h => orcGcd_ok gcd18_good h) (orc_cons (f0 := 35) (g := orcPhi) (fun _ _ h => orcPhi_ok h) orc29_ok)) f args r h
end Go.Proofs.YtpkjokknpbclhaaGreat
namespace Go.Proofs.YtpkjokknpbclhaaGreat
open Go Go.Lg Go.Num
set_option maxRecDepth 100000
def eqI : List LV → List Nat → Bool
 | [],[] => true
 | .lit (.int .i64 (.ofNat d)) :: cs,e :: es => Nat.beq d e && eqI cs es
 | _,_ => false
theorem eqI_ok : ∀ {cs : List LV} {l : List Nat},eqI cs l = true → cs = ec (l.map fun (d : Nat) => (d : Int))
 | [],[],_ => rfl
 | [],_ :: _,h => by cases h
 | c :: cs,[],h => by unfold eqI at h;split at h <;> simp_all
 | c :: cs,e :: es,h => by
   unfold eqI at h
   split at h
   · simp_all
   · rename_i h1 h2
     rw [Bool.and_eq_true] at h
     simp only [List.cons.injEq] at h1 h2
     obtain ⟨rfl,rfl⟩ := h1
     obtain ⟨rfl,rfl⟩ := h2
     obtain rfl := Nat.eq_of_beq_eq_true h.1
     rw [eqI_ok h.2]
     rfl
   · cases h
def ptT : List (List Nat) := [[],[],[],[2,2,3],[3,2,4],[2,4,5],[2,2,3],[3,6,7],[7,2,8,5,2,8],[2,6,9],[2,4,5],[2,10,11],[3,2,4,2,2,3],[2,12,13],[3,6,7],[2,2,3,2,4,5],[15,2,16,5,4,16],[3,16,17],[2,6,9],[2,18,19],[3,2,4,2,4,5],[2,2,3,3,6,7],[2,10,11],[5,22,23],[7,2,8,5,2,8,2,2,3],[2,20,25],[2,12,13],[2,18,27],[3,2,4,3,6,7],[2,28,29],[2,2,3,2,4,5],[3,30,31],[31,2,32,5,8,32],[2,2,3,2,10,11],[3,16,17],[2,4,5,3,6,7],[3,2,4,2,6,9],[2,36,37],[2,18,19],[2,2,3,2,12,13],[7,2,8,5,2,8,2,4,5],[6,40,41],[2,2,3,3,6,7],[3,42,43],[3,2,4,2,10,11],[2,6,9,2,4,5],[5,22,23],[5,46,47],[15,2,16,5,4,16,2,2,3],[3,42,49],[2,20,25],[2,2,3,3,16,17],[3,2,4,2,12,13],[2,52,53],[2,18,27],[2,4,5,2,10,11],[7,2,8,5,2,8,3,6,7],[2,2,3,2,18,19],[2,28,29],[2,58,59],[3,2,4,2,2,3,2,4,5]]
def gnT : List (List Nat) := [[],[],[],[2],[3],[2],[5],[3],[7,5],[2],[7],[2],[7,5],[2],[3],[11,7],[15,5],[3],[11],[2],[11,17],[8,10],[13],[5],[7,13,17],[2],[15],[2],[15,17],[2],[11,7],[3],[31,5],[23,13],[3],[22,31],[19,29],[2],[21],[14,28],[31,21,17],[6],[29,31],[3],[23,13],[11,37],[5],[5],[31,37,17],[3],[27],[35,37],[27,41],[2],[29],[12,46],[15,29,17],[20,40],[31],[2],[31,41,37]]
def orT : List (List Nat) := [[],[],[],[2],[2],[4],[2],[6],[2,2],[6],[4],[10],[2,2],[12],[6],[2,4],[2,4],[16],[6],[18],[2,4],[2,6],[10],[22],[2,2,2],[20],[12],[18],[2,6],[28],[2,4],[30],[2,8],[2,10],[16],[4,6],[2,6],[36],[18],[2,12],[2,2,4],[40],[2,6],[42],[2,10],[6,4],[22],[46],[2,4,2],[42],[20],[2,16],[2,12],[52],[18],[4,10],[2,2,6],[2,18],[28],[58],[2,2,4]]
def pt (m : Nat) : List Nat := ptT.getD m []
def gn (m : Nat) : List Nat := gnT.getD m []
def od (m : Nat) : List Nat := orT.getD m []
def nlv (k : Nat) (l : List Nat) : LV := .sl k (encNs l)
theorem nlv_eq (k : Nat) (l : List Nat) : nlv k l = .sl k (ec (nI l)) := by rw [nlv,encNs_eq]
def isN (k : Nat) (l : List Nat) (v : LV) : Bool := match v with
 | .sl k' cs => Nat.beq k k' && eqI cs l
 | _ => false
theorem isN_ok {k : Nat} {l : List Nat} {v : LV} (h : isN k l v = true) : v = nlv k l := by
 unfold isN at h
 split at h
 ·rw [Bool.and_eq_true] at h
  have e1 := Nat.eq_of_beq_eq_true h.1
  have e2 := eqI_ok h.2
  rw [e2,e1,nlv_eq]
  rfl
 ·cases h
noncomputable def chkPt (m : Nat) : Bool := match evo orcN 37 [.lit (.int .i64 (.ofNat m))] with
 | some v => isN (od m).length (pt m) v
 | none => false
noncomputable def chkGn (m : Nat) : Bool := match evo orcN 50 [.lit (.int .i64 (.ofNat m))] with
 | some (.tup [v,w]) => isN (od m).length (gn m) v && isN (od m).length (od m) w
 | _ => false
noncomputable def chkPG (m : Nat) : Bool := chkPt m && chkGn m
end Go.Proofs.YtpkjokknpbclhaaGreat