/- Contracts of functions of the program, and what proves them (texts: EncE ClsE Lg24). -/
import Derived.Test.YtbajpjjbaffnnaaGreatRows
import Derived.WalkKit
import Derived.ProofKit
import Derived.OpenShut
import Derived.Stop.Joined
import Derived.Test.YtbajpjjbaffnnaaGreatZAC
import Derived.Test.YtbajpjjbaffnnaaGreatZAD
import Derived.Test.YtbajpjjbaffnnaaGreatZAH
import Derived.Test.YtbajpjjbaffnnaaGreatZAL
set_option linter.all false
namespace Go.Lg
open Go
def ec (l : List Int) : List LV := l.map fun (z : Int) => LV.lit (.int .i64 z)
theorem ec_len (l : List Int) : (ec l).length = l.length := by simp [ec]
theorem ec_at {l : List Int} {i : Nat} (h : i < l.length) : (ec l)[i]? = some (.lit (.int .i64 (l.getD i 0))) := by simp [ec,h]
theorem ec_hd {l : List Int} {i : Nat} (h : i < l.length) : (ec (l.drop i)).head? = some (.lit (.int .i64 (l.getD i 0))) := by simp [ec,h]
theorem ec_hd0 {l : List Int} (h : 0 < l.length) : (ec l).head? = some (.lit (.int .i64 (l.getD 0 0))) := by
 cases l with
 | nil => simp at h
 | cons d l => rfl
theorem ec_take (l : List Int) (k : Nat) : (ec l).take k = ec (l.take k) := by simp [ec]
theorem ec_drop (l : List Int) (k : Nat) : (ec l).drop k = ec (l.drop k) := by simp [ec]
theorem ec_set (l : List Int) (k : Nat) (z : Int) : (ec l).set k (.lit (.int .i64 z)) = ec (l.set k z) := by simp [ec]
theorem ec_plain' (l : List Int) : ∀ c ∈ ec l,plainC c = true := by simp [ec,plainC]
theorem ec_plain (l : List Int) : (∀ c ∈ ec l,plainC c = true) = True := eq_true (ec_plain' l)
theorem ec_pure (l : List Int) : ∀ c ∈ ec l,pureC c = true := by simp [ec,pureC]
theorem ec_snoc (a : List Int) (z : Int) : ec a ++ [.lit (.int .i64 z)] = ec (a ++ [z]) := by simp [ec]
theorem ec_zeros (n : Nat) : List.replicate n (LV.lit (.int .i64 0)) = ec (List.replicate n 0) := by simp [ec]
theorem ec_one (z : Int) : [LV.lit (.int .i64 z)] = ec [z] := rfl
theorem pvs_ec {h : Nat → Option Blk} {ok : Nat → Bool} {k : Nat} (l : List Int) : pvs h ok (k + 1) (ec l) = some (ec l,[]) := pvs_pure (ec_pure l)
theorem ren_ec {nb : Nat} {ρ : Nat → Nat} (l : List Int) : renLs nb ρ (ec l) = some (ec l) := rens_plain (ec_plain' l)
def smE := And.intro ec_len (And.intro @ec_at (And.intro @ec_hd (And.intro @ec_hd0 (And.intro ec_take (And.intro ec_drop (And.intro ec_set (And.intro ec_plain (And.intro @pvs_ec (And.intro @ren_ec ec_snoc)))))))))
end Go.Lg
namespace Go.Proofs.YtbajpjjbaffnnaaGreat
open Go Go.Lg Go.ChangeShapes Go.WideShapes Go.ChangeAt Go.RowKit
set_option maxRecDepth 100000
theorem own : ownKnob Tryz.prog.godebug = none := by kernel_rfl
theorem cEta : Tryz.prog.cellsOf 24 = 2 := by kernel_rfl
theorem cInt : Tryz.prog.cellsOf 3 = 1 := by kernel_rfl
theorem cInts : Tryz.prog.cellsOf 22 = 1 := by kernel_rfl
theorem tsEta : Tryz.prog.cellTypes Tryz.prog.depth 24 = some [3,22] := by kernel_rfl
theorem rep_ints {W : World} {a : Addr} {len cap : Nat} {zs : List Int} (hs : a.spot = none) (hl : len ≤ zs.length) (hc : len ≤ cap) (hm : cap ≤ maxLen) (hcell : ∀ i, i < zs.length → W.cell? (a.add i) = some (.int .i64 (zs.getD i 0))) :
  Rep (fun g => g < W.heap.size) W.heap (fun _ => none) (.sl (zs.take len).length (ec (zs.take len))) (.slice (some a) len cap) := by
 have e : (zs.take len).length = len := by rw [List.length_take,Nat.min_eq_left hl]
 rw [e]
 refine Rep.sl (us := (zs.take len).map fun z => Value.int .i64 z) hc hm hs (by simp [ec]) ?_ ?_ ?_
 ·intro j u hu
  rw [List.getElem?_map] at hu
  obtain ⟨z,hz,rfl⟩ := Option.map_eq_some_iff.1 hu
  have hj : j < (zs.take len).length := (List.getElem?_eq_some_iff.1 hz).1
  have hj2 : j < zs.length := by rw [e] at hj;omega
  have hzj : zs.getD j 0 = z := by
   rw [List.getElem?_take,if_pos (by rw [e] at hj;exact hj)] at hz
   simp [List.getD,hz]
  have h := hcell j hj2
  rw [cell?_eq' W a hs j,hzj] at h
  refine ⟨?_,h⟩
  unfold cellAt at h
  cases hh : W.heap[a.block]? with
  | none => rw [hh] at h;cases h
  | some o => exact (Array.getElem?_eq_some_iff.1 hh).1
 ·intro u hu
  obtain ⟨z,_,rfl⟩ := List.mem_map.1 hu
  rfl
 ·intro j c u hc hu
  rw [ec,List.getElem?_map] at hc
  rw [List.getElem?_map] at hu
  obtain ⟨z,hz,rfl⟩ := Option.map_eq_some_iff.1 hc
  rw [hz] at hu
  cases hu
  exact .lit _
theorem open_eta {H : Type} {enc : TypeId × Value → H} {W : World} {b0 : Nat} {v : Value} {d : DataW H} {ps : List MemPlace} (hval : Value.okWide Tryz.prog W .any b0 24 v) (hd : DataW.Trod enc Tryz.prog W 0 (fun _ => true) true 24 v d ps) :
  ∃ (lv : Int) (xs : List Int), (Lit.int .i64 lv).wf = true ∧ Rep (fun g => g < W.heap.size) W.heap (fun _ => none) (.agg [.lit (.int .i64 lv), .sl xs.length (ec xs)]) v ∧
    ∀ W' : World,(∀ i,i < W.heap.size → W'.heap[i]? = W.heap[i]?) → ∃ ps',DataW.Trod enc Tryz.prog W' 0 (fun b => decide (b < W.heap.size)) true 24 v d ps' := by
 simp only [Value.okWide,Tryz.underlying24] at hval
 obtain ⟨cs,rfl,h2,ts,hts,_,hrow⟩ := hval
 rw [tsEta] at hts
 cases hts
 rw [cEta] at h2
 obtain ⟨fuel,hf⟩ := hd
 obtain ⟨y0,y1,n,hx,hlen,e0,e1⟩ := trod_struct2 Tryz.underlying24 hf
 have hc0 : (Value.agg cs).cells = cs := rfl
 rw [hc0] at e0 e1 hlen
 obtain ⟨c0,c1,hcs⟩ : ∃ c0 c1,cs = #[c0,c1] := by
  obtain ⟨l⟩ := cs
  match l,h2 with
  | [c0,c1],_ => exact ⟨c0,c1,rfl⟩
 subst hcs
 simp only [cInt,cInts,List.drop_zero,List.drop_succ_cons,List.take_succ_cons,List.take_zero] at e0 e1
 obtain ⟨lv,a1,rfl,hw⟩ := DataW.trod_int Tryz.underlying3 e0
 simp only [List.cons.injEq,and_true] at a1
 subst a1
 have r1 := hrow 1 c1 rfl
 obtain ⟨u,hu,hcell⟩ := r1
 simp only [List.length_cons,List.length_nil,Nat.reduceAdd,Nat.reduceMod,List.getElem?_cons_succ,List.getElem?_cons_zero,Option.some.injEq] at hu
 subst hu
 obtain ⟨hx1,hx2⟩ := Prod.mk.inj hx
 rcases open_ints Tryz.underlying22 Tryz.underlying3 cInt e1 with ⟨b1,rfl⟩ | ⟨a,len,cap,zs,b1,hb,hl,hm,hz,rfl,hcl,hwf⟩
 ·simp only [List.cons.injEq,and_true] at b1
  subst b1
  refine ⟨lv,[],hw,?_,fun W' _ => ⟨ps,2,?_⟩⟩
  ·refine Rep.agg (us := [.int .i64 lv,.slice none 0 0]) rfl (by simp [Value.oneCell']) ?_
   intro j c u hc hu
   match j with
   | 0 => simp at hc hu;subst hc;subst hu;exact .lit _
   | 1 => simp at hc hu;subst hc;subst hu;exact .snil
   | j + 2 => simp at hc
  ·rw [hx1,hx2]
   refine trod_struct2_mk (y0 := (.lit (.int .i64 lv),[])) (y1 := (.nil,[])) Tryz.underlying24 hlen ?_ ?_
   ·rw [hc0]
    simp only [cInt,List.drop_zero,List.take_succ_cons,List.take_zero]
    exact trod_int_mk 0 Tryz.underlying3 hw
   ·rw [hc0]
    simp only [cInts,List.drop_zero,List.drop_succ_cons,List.take_succ_cons,List.take_zero]
    simp [DataW.trod,Tryz.underlying22]
 ·simp only [List.cons.injEq,and_true] at b1
  subst b1
  simp only [if_true] at hz
  have hspot : a.spot = none := by
   simp only [Cell.okWide,Cell.ok,Tryz.underlying22] at hcell
   exact hcell.2.2.2.1
  refine ⟨lv,zs.take len,hw,?_,fun W' hk => ⟨ps,3,?_⟩⟩
  ·refine Rep.agg (us := [.int .i64 lv,.slice (some a) len cap]) rfl (by simp [Value.oneCell']) ?_
   intro j c u hc hu
   match j with
   | 0 => simp at hc hu;subst hc;subst hu;exact .lit _
   | 1 => simp at hc hu;subst hc;subst hu;exact (by simpa using rep_ints hspot (by omega) hl hm hcl)
   | j + 2 => simp at hc
  ·rw [hx1,hx2]
   have hblk : ∀ i,i < zs.length → a.block < W.heap.size := fun i hi => by
    have h := hcl i hi
    rw [cell?_eq' W a hspot i] at h
    unfold cellAt at h
    cases hh : W.heap[a.block]? with
    | none => rw [hh] at h;cases h
    | some o => exact (Array.getElem?_eq_some_iff.1 hh).1
   refine trod_struct2_mk (y0 := (.lit (.int .i64 lv),[])) (y1 := (.slice (lits .i64 (zs.take len)) (lits .i64 (zs.drop len)),MemPlace.row a zs.length)) Tryz.underlying24 hlen ?_ ?_
   ·rw [hc0]
    simp only [cInt,List.drop_zero,List.take_succ_cons,List.take_zero]
    exact trod_int_mk 1 Tryz.underlying3 hw
   ·rw [hc0]
    simp only [cInts,List.drop_zero,List.drop_succ_cons,List.take_succ_cons,List.take_zero]
    refine shut_ints 0 Tryz.underlying22 Tryz.underlying3 cInt hb hl hm ?_ (fun i hi => ?_) hwf
    ·by_cases hbs : a.block < W.heap.size
     ·simp [hbs,hz]
     ·have : zs.length = 0 := by
       rcases Nat.eq_zero_or_pos zs.length with h | h
       ·exact h
       ·exact absurd (hblk 0 h) hbs
      simp [hbs];omega
    ·rw [cell?_eq' W' a hspot i,cellAt_same (hk _ (hblk i hi)),← cell?_eq' W a hspot i]
     exact hcl i hi
end Go.Proofs.YtbajpjjbaffnnaaGreat
namespace Go.Lg
open Go
section
variable {P : Program} [Laid P] {base i : Nat} {mu : Bool} {ok : Nat → Nat → Bool} {ops : Array Oper} {K : LS → Prop}
theorem runE_app : ∀ (l l' : List Oper) (i : Nat) {s : LS} {j : Nat} {s' : LS},runE P base ok ops i l (some s) = (j,[],some s') → lrun P mu base ok ops j l' s' K → lrun P mu base ok ops i (l ++ l') s K
 | [],l',i,s,j,s',h,hk => by simp only [runE,Prod.mk.injEq,Option.some.injEq] at h;obtain ⟨rfl,_,rfl⟩ := h;exact hk
 | o :: rest,l',i,s,j,s',h,hk => by
   unfold runE at h
   split at h
   · simp at h
   · cases hs : stepE P (base + i) (ok i) ops o s with
     | none =>
       rw [hs] at h
       exfalso
       cases rest <;> simp [runE] at h
     | some s1 =>
       rw [hs] at h
       exact .inl (stepE_sound hs (runE_app rest l' (i + 1) h hk))
theorem l_split (k : Nat) {l : List Oper} {s : LS} {j : Nat} {s' : LS} (hrun : runE P base ok ops i (l.take k) (some s) = (j,[],some s')) (hnext : lrun P mu base ok ops j (l.drop k) s' K) : lrun P mu base ok ops i l s K := by
 have := runE_app (mu := mu) (K := K) (l.take k) (l.drop k) i hrun hnext
 rwa [List.take_append_drop] at this
theorem l_append {t dd b nn e z by_ m : Nat} {zl cells news : List LV} {n nb : Nat} {F : Nat → LV} {H : Nat → Option Blk} {d x : Operand} {ty : TypeId} {p : String} {a : Array Edge} {rest : List Oper}
  (hdn : dd < n) (he : elemL P t = some e) (hz : sizeL P e = some (z + 1)) (hby : bytesL P e = some by_) (hzl : zeroL P e = some zl) (hd : opnd ⟨n,F,H,nb⟩ d = .own b 0 nn (z + 1)) (hb : H b = some ⟨e,cells,false⟩) (hnk : nn * (z + 1) ≤ cells.length)
  (hsrc : srcL ⟨n,F,H,nb⟩ (fun _ => true) (z + 1) (opnd ⟨n,F,H,nb⟩ x) = some (m,news)) (hm0 : m ≠ 0) (hbb : (nn + m) * by_ ≤ 140737488355328) (hml : nn + m ≤ maxLen)
  (hB : lrun P true base ok ops (i + 1) rest ⟨n,upd F dd (.own b 0 (nn + m) (z + 1)),upd H b (some ⟨e,cells.take (nn * (z + 1)) ++ news,false⟩),nb⟩ K)
  (hA : lrun P true base ok ops (i + 1) rest ⟨n,upd F dd (.own (base + i) 0 (nn + m) (z + 1)),upd H (base + i) (some ⟨e,cells.take (nn * (z + 1)) ++ news,false⟩),nb⟩ K) :
  lrun P true base ok ops i (⟨some dd,.call { callee := .builtin .append,args := #[d,x],argTypes := #[t,t] },ty,p,a,none⟩ :: rest) ⟨n,F,H,nb⟩ K :=
 .inr (.inr ⟨rfl,t,d,x,dd,b,nn,e,z,by_,zl,⟨e,cells,false⟩,m,news,rfl,rfl,hdn,rfl,he,hz,hby,hzl,hd,hb,rfl,rfl,hnk,hsrc,hm0,hbb,hml,hB,hA⟩)
end
theorem reps_snoc {St : Nat → Prop} {hp : Array Obj} {μ : Nat → Option (Nat × Nat)} {x : LV} : ∀ {cs : List LV} {vs : List Value},Reps St hp μ (cs ++ [x]) vs → ∃ us u,vs = us ++ [u] ∧ Reps St hp μ cs us ∧ Rep St hp μ x u
 | [],vs,h => by
   obtain ⟨u,us,rfl,hu,hs⟩ := Reps.head h
   obtain rfl : us = [] := List.eq_nil_of_length_eq_zero hs.1.symm
   exact ⟨[],u,rfl,Reps.nil,hu⟩
 | c :: cs,vs,h => by
   obtain ⟨u,us,rfl,hu,hs⟩ := Reps.head (cs := cs ++ [x]) h
   obtain ⟨us',u',rfl,h1,h2⟩ := reps_snoc hs
   exact ⟨u :: us',u',rfl,Reps.cons hu h1,h2⟩
theorem rep_unit {St : Nat → Prop} {hp : Array Obj} {μ μ' : Nat → Option (Nat × Nat)} {r : LV} {v : Value} (h : r = .tup []) (hr : Rep St hp μ r v) : Rep St hp μ' r v := by
 subst h
 cases hr with
 | tup hl _ => exact .tup hl (fun j c u hc _ => by simp at hc)
theorem h_frame2 {P : Program} [Laid P] {f : FuncId} {pre : List LV} {ts te n n' k0 : Nat} {cells cells' : List LV} {r : LV}
  (hg : HGood P f (pre ++ [.ptr 0 0]) (lkH [(0,⟨ts,[.own 1 0 n 1],false⟩),(1,⟨te,cells,false⟩)]) 2 r (lkH [(0,⟨ts,[.own 2 0 n' 1],false⟩),(2,⟨te,cells',false⟩)]) k0)
  (hpre : ∀ c ∈ pre,plainC c = true) (hr : r = .tup []) (hpl : ∀ c ∈ cells,plainC c = true) (hpl' : ∀ c ∈ cells',plainC c = true)
  {h : Nat → Option Blk} {c b nb : Nat} (hc : h c = some ⟨ts,[.own b 0 n 1],false⟩) (hb : h b = some ⟨te,cells,false⟩) (hne : c ≠ b) :
  HGood P f (pre ++ [.ptr c 0]) h nb r (upd (upd (upd h b none) c (some ⟨ts,[.own nb 0 n' 1],false⟩)) nb (some ⟨te,cells',false⟩)) (nb + 1) := by
 obtain ⟨hen,hgood⟩ := hg
 refine ⟨hen,fun w0 M St0 μ St w vs hL h0 hnb hvs => ?_⟩
 obtain ⟨g1,R1,cs1,hμ1,hg1,hsz1,hle1,hr1,ho1,_,hns1⟩ := h0.blk c _ hc
 obtain ⟨g2,R2,cs2,hμ2,hg2,hsz2,hle2,hr2,ho2,_,hns2⟩ := h0.blk b _ hb
 have hns1 := hns1 rfl
 have hns2 := hns2 rfl
 have hlt1 := (h0.lt c g1 R1 hμ1).1
 have hlt2 := (h0.lt b g2 R2 hμ2).1
 have h12 : g1 ≠ g2 := fun e => hne (h0.inj c b _ _ g1 R1 R2 hc hb hμ1 (by rw [e];exact hμ2))
 have hcn : c < nb := Nat.lt_of_not_le fun hh => by rw [hnb c hh] at hμ1;cases hμ1
 have hbn : b < nb := Nat.lt_of_not_le fun hh => by rw [hnb b hh] at hμ2;cases hμ2
 -- the two blocks by themselves
 obtain ⟨us,u,rfl,hus,hu⟩ := reps_snoc hvs
 have hu' : Rep St w.heap (fun x => if x = 0 then some (g1,R1) else if x = 1 then some (g2,R2) else none) (.ptr 0 0) u := by
  cases hu with
  | ptr hh => rw [hμ1] at hh;cases hh;exact .ptr rfl
 have hsm : Inv w (fun g => g = g1 ∨ g = g2) St ⟨0,fun _ => .dead,lkH [(0,⟨ts,[.own 1 0 n 1],false⟩),(1,⟨te,cells,false⟩)],0⟩ (fun x => if x = 0 then some (g1,R1) else if x = 1 then some (g2,R2) else none) St #[] w := by
  refine ⟨fun _ => .dead _,rfl,?_,?_,?_,fun g hg => ⟨(h0.st_lt g hg).1,.inl hg⟩,fun _ h => h,rfl,rfl,rfl,Nat.le_refl _,fun _ _ _ => rfl⟩
  ·intro x k hx
   match x with
   | 0 =>
     simp [lkH] at hx
     subst hx
     refine ⟨g1,R1,cs1,rfl,hg1,hsz1,hle1,?_,ho1,by simp,fun _ => hns1⟩
     obtain ⟨u1,us1,he,hu1,hs1⟩ := Reps.head hr1
     rw [List.length_singleton] at he ⊢
     rw [he]
     obtain rfl : us1 = [] := List.eq_nil_of_length_eq_zero hs1.1.symm
     refine Reps.cons ?_ Reps.nil
     cases hu1 with
     | own hh hn hcp hR => rw [hμ2] at hh;cases hh;exact .own rfl hn hcp hR
   | 1 =>
     simp [lkH] at hx
     subst hx
     exact ⟨g2,R2,cs2,rfl,hg2,hsz2,hle2,reps_plain hpl hr2,ho2,by simp,fun _ => hns2⟩
   | x + 2 => simp [lkH] at hx
  ·intro x y k k' g R R' hx hy hm hm'
   match x,y with
   | 0,0 => rfl
   | 1,1 => rfl
   | 0,1 => simp at hm hm';exact absurd (hm.1.trans hm'.1.symm) h12
   | 1,0 => simp at hm hm';exact absurd (hm'.1.trans hm.1.symm) h12
   | x + 2,_ => simp [lkH] at hx
   | _,y + 2 => simp [lkH] at hy
  ·intro x g R hm
   match x with
   | 0 => simp at hm;obtain ⟨rfl,rfl⟩ := hm;exact ⟨hlt1,.inl (.inl rfl)⟩
   | 1 => simp at hm;obtain ⟨rfl,rfl⟩ := hm;exact ⟨hlt2,.inl (.inr rfl)⟩
   | x + 2 => simp at hm
 have hLs : Laid0 P w (fun g => g = g1 ∨ g = g2) St := by
  have hl := h0.laid hL
  refine Laid0.of hl fun g hg => ⟨?_,(h0.st_lt _ hg).1⟩
  rintro (e | e)
  ·exact hns1 (e ▸ hg)
  ·exact hns2 (e ▸ hg)
 refine (hgood w _ St _ St w (us ++ [u]) hLs hsm (fun x hx => by
  match x,hx with
  | x + 2,_ => simp) ((reps_plain hpre hus).append (Reps.cons hu' Reps.nil))).mono ?_
 rintro e w' ⟨v,μ',St',rfl,hI,hv,hm1,hm2,hS1,hS2⟩
 obtain ⟨ga,Ra,csa,hma,hga,hsa,hla,hra,hoa,_,hna⟩ := hI.blk 0 ⟨ts,[.own 2 0 n' 1],false⟩ (by simp [lkH])
 obtain ⟨g3,R3,cs3,hm3,hg3,hs3,hl3,hr3,ho3,_,hn3⟩ := hI.blk 2 ⟨te,cells',false⟩ (by simp [lkH])
 have hn3 := hn3 rfl
 have hna := hna rfl
 have e0 := hm1 0 (by omega)
 simp only [if_true] at e0
 rw [hma] at e0
 obtain ⟨rfl,rfl⟩ : ga = g1 ∧ Ra = R1 := by cases e0;exact ⟨rfl,rfl⟩
 have h13 : ga ≠ g3 := fun e => by
  have := hI.inj 0 2 ⟨ts,[.own 2 0 n' 1],false⟩ ⟨te,cells',false⟩ ga Ra R3 (by simp [lkH]) (by simp [lkH]) hma (by rw [hm3,e])
  omega
 have g3w := (hI.lt 2 g3 R3 hm3)
 have hex : ∀ x r,μ x = some r → upd μ nb (μ' 2) x = some r := fun x r hx => by
  rw [upd_ne _ _ _ _ (fun e => by subst e;rw [hnb _ (Nat.le_refl _)] at hx;cases hx)];exact hx
 have hold : ∀ x k g R,x ≠ c → x ≠ b → h x = some k → μ x = some (g,R) → g ≠ ga ∧ g ≠ g2 := fun x k g R h1 h2 hx hm => ⟨fun e => h1 (h0.inj x c _ _ g R Ra hx hc hm (by rw [e];exact hμ1)),fun e => h2 (h0.inj x b _ _ g R R2 hx hb hm (by rw [e];exact hμ2))⟩
 have look : ∀ x k,upd (upd (upd h b none) c (some ⟨ts,[.own nb 0 n' 1],false⟩)) nb (some ⟨te,cells',false⟩) x = some k → x = nb ∧ k = ⟨te,cells',false⟩ ∨ x ≠ nb ∧ x = c ∧ k = ⟨ts,[.own nb 0 n' 1],false⟩ ∨ x ≠ nb ∧ x ≠ c ∧ x ≠ b ∧ h x = some k := by
  intro x k hx
  by_cases h1 : x = nb
  ·subst h1
   rw [upd_same] at hx
   cases hx
   exact .inl ⟨rfl,rfl⟩
  ·rw [upd_ne _ _ _ _ h1] at hx
   by_cases h2 : x = c
   ·subst h2
    rw [upd_same] at hx
    cases hx
    exact .inr (.inl ⟨h1,rfl,rfl⟩)
   ·rw [upd_ne _ _ _ _ h2] at hx
    by_cases h3 : x = b
    ·subst h3
     rw [upd_same] at hx
     cases hx
    ·rw [upd_ne _ _ _ _ h3] at hx
     exact .inr (.inr ⟨h1,h2,h3,hx⟩)
 have g3old : ∀ g,g < w.heap.size → g ≠ ga → g ≠ g2 → g ≠ g3 := fun g hl h1 h2 e => by
  subst e
  rcases g3w.2 with (hh | hh) | hh | hh
  ·exact h1 hh
  ·exact h2 hh
  ·omega
  ·exact hn3 hh
 have Mback : ∀ g,g = ga ∨ g = g2 → M g ∨ w0.heap.size ≤ g := fun g hg => by
  rcases hg with rfl | rfl
  ·rcases (h0.lt c _ _ hμ1).2 with hh | hh | hh
   ·exact .inl hh
   ·exact .inr hh
   ·exact absurd hh hns1
  ·rcases (h0.lt b _ _ hμ2).2 with hh | hh | hh
   ·exact .inl hh
   ·exact .inr hh
   ·exact absurd hh hns2
 refine ⟨v,upd μ nb (μ' 2),St',rfl,?_,rep_unit hr hv,fun x hx => upd_ne _ _ _ _ (by omega),fun x hx => by rw [upd_ne _ _ _ _ (by omega)];exact hnb x (by omega),hS1,hS2⟩
 refine ⟨fun _ => .dead _,rfl,?_,?_,?_,?_,fun g hg => hS1 g (h0.st0 g hg),hI.os.trans h0.os,hI.tape.trans h0.tape,hI.output.trans h0.output,Nat.le_trans h0.size hI.size,?_⟩
 ·intro x k hx
  rcases look x k hx with ⟨rfl,rfl⟩ | ⟨h1,rfl,rfl⟩ | ⟨h1,h2,h3,hx'⟩
  ·exact ⟨g3,R3,cs3,by rw [upd_same,hm3],hg3,hs3,hl3,reps_plain hpl' hr3,ho3,by simp,fun _ => hn3⟩
  ·refine ⟨ga,Ra,csa,by rw [upd_ne _ _ _ _ h1];exact hμ1,hga,hsa,hla,?_,hoa,by simp,fun _ => hna⟩
   obtain ⟨u1,us1,he,hu1,hs1⟩ := Reps.head hra
   rw [List.length_singleton] at he ⊢
   rw [he]
   obtain rfl : us1 = [] := List.eq_nil_of_length_eq_zero hs1.1.symm
   refine Reps.cons ?_ Reps.nil
   cases hu1 with
   | own hh hn hcp hR => exact .own (by rw [upd_same];exact hh) hn hcp hR
  ·obtain ⟨g,R,cs,hm,hg,hs,hl,hrr,ho,hf1,hf2⟩ := h0.blk x k hx'
   obtain ⟨hx1,hx2⟩ := hold x k g R h2 h3 hx' hm
   have hlt := (h0.lt x g R hm).1
   refine ⟨g,R,cs,hex _ _ hm,by rw [hI.kept g hlt (by rintro (e | e);exact hx1 e;exact hx2 e)];exact hg,hs,hl,hrr.mono hS1 hS2 hex,ho,fun hh => hS1 g (hf1 hh),fun hh hst => ?_⟩
   rcases (hI.st_lt g hst).2 with h4 | (h4 | h4) | h4
   ·exact hf2 hh h4
   ·exact hx1 h4
   ·exact hx2 h4
   ·omega
 ·have key : ∀ x k g R, x ≠ nb → upd (upd (upd h b none) c (some ⟨ts, [.own nb 0 n' 1], false⟩)) nb (some ⟨te, cells', false⟩) x = some k → μ x = some (g, R) → g ≠ g3 ∧ (x = c ∨ x ≠ c ∧ x ≠ b ∧ h x = some k) := by
   intro x k g R hxn hx hm
   rcases look x k hx with ⟨h1,_⟩ | ⟨_,h2,_⟩ | ⟨_,h2,h3,hx'⟩
   ·exact absurd h1 hxn
   ·subst h2
    rw [hμ1] at hm
    cases hm
    exact ⟨h13,.inl rfl⟩
   ·obtain ⟨a1,a2⟩ := hold x k g R h2 h3 hx' hm
    exact ⟨g3old g (h0.lt x g R hm).1 a1 a2,.inr ⟨h2,h3,hx'⟩⟩
  intro x y k k' g R R' hx hy hm hm'
  by_cases hxn : x = nb <;> by_cases hyn : y = nb
  ·rw [hxn,hyn]
  ·subst hxn
   rw [upd_same,hm3] at hm
   rw [upd_ne _ _ _ _ hyn] at hm'
   cases hm
   exact absurd rfl (key y k' _ _ hyn hy hm').1
  ·subst hyn
   rw [upd_same,hm3] at hm'
   rw [upd_ne _ _ _ _ hxn] at hm
   cases hm'
   exact absurd rfl (key x k _ _ hxn hx hm).1
  ·rw [upd_ne _ _ _ _ hxn] at hm
   rw [upd_ne _ _ _ _ hyn] at hm'
   obtain ⟨kx,hkx⟩ : ∃ kx,h x = some kx := by
    rcases (key x k g R hxn hx hm).2 with rfl | ⟨_,_,hh⟩
    ·exact ⟨_,hc⟩
    ·exact ⟨_,hh⟩
   obtain ⟨ky,hky⟩ : ∃ ky,h y = some ky := by
    rcases (key y k' g R' hyn hy hm').2 with rfl | ⟨_,_,hh⟩
    ·exact ⟨_,hc⟩
    ·exact ⟨_,hh⟩
   exact h0.inj x y kx ky g R R' hkx hky hm hm'
 ·intro x g R hm
  by_cases hxn : x = nb
  ·subst hxn
   rw [upd_same,hm3] at hm
   cases hm
   refine ⟨g3w.1,?_⟩
   rcases g3w.2 with hh | hh | hh
   ·exact (Mback _ hh).imp id .inl
   ·exact .inr (.inl (Nat.le_trans h0.size hh))
   ·exact .inr (.inr hh)
  ·rw [upd_ne _ _ _ _ hxn] at hm
   exact ⟨Nat.lt_of_lt_of_le (h0.lt x g R hm).1 hI.size,(h0.lt x g R hm).2.imp id (Or.imp id (hS1 g))⟩
 ·intro g hg
  refine ⟨(hI.st_lt g hg).1,?_⟩
  rcases (hI.st_lt g hg).2 with hh | hh | hh
  ·exact (h0.st_lt g hh).2
  ·exact .inr (Mback g hh)
  ·exact .inr (.inr (Nat.le_trans h0.size hh))
 ·intro g hlt hM
  rw [hI.kept g (Nat.lt_of_lt_of_le hlt h0.size) (fun hh => ?_)]
  ·exact h0.kept g hlt hM
  ·rcases Mback g hh with h1 | h1
   ·exact hM h1
   ·omega
end Go.Lg
namespace Go.Lg
open Go
noncomputable def evFH (P : Program) [Laid P] (orc : FuncId → List LV → Option LV) (horc : Callf) (mode : FuncId → Nat) (bad : List Nat) (d : Nat) : Callf :=
 Nat.rec (motive := fun _ => Callf) (fun _ _ _ _ => none) (fun _ ih f args hp nb => match horc f args hp nb with
  | some x => some x
  | none => match fnB P bad f with
    | some b => bodyF P orc mode ih args hp nb b
    | none => none) d
section
variable {P : Program} [Laid P] {orc : FuncId → List LV → Option LV} {horc : Callf} {mode : FuncId → Nat} {bad : List Nat}
attribute [local irreducible] evC
theorem evFH_sound (hmix : P.follows .mixedOrders = true) (ho : OrcOk P orc) (hh : CallOk P horc) (hB : BodiesOk P bad) : ∀ d,CallOk P (evFH P orc horc mode bad d)
 | 0 => fun f args hp nb r hp' nb' h => by
   have h : (none : Option (LV × List (Nat × Blk) × Nat)) = some (r,hp',nb') := h
   cases h
 | d + 1 => fun f args hp nb r hp' nb' h => by
   have ih := evFH_sound hmix ho hh hB d
   have h : (match horc f args hp nb with
     | some x => some x
     | none => match fnB P bad f with
       | some b => bodyF P orc mode (evFH P orc horc mode bad d) args hp nb b
       | none => none) = some (r,hp',nb') := h
   split at h
   · rename_i x hx
     cases h
     exact hh _ _ _ _ _ _ _ hx
   split at h
   · rename_i b hb0
     unfold fnB at hb0
     split at hb0
     · rename_i fn hf
       split at hb0
       · rename_i c hb
         cases hbad : bad.elem f with
         | true => rw [hbad,cond_true] at hb0;cases hb0
         | false =>
           rw [hbad,cond_false] at hb0
           cases hb0
           obtain ⟨hname,hd⟩ := hB f fn c hf hbad hb
           unfold bodyF at h
           simp only at h
           cases hlen0 : Nat.ble args.length fn.ntmps with
           | false => rw [hlen0,cond_false] at h;cases h
           | true =>
             rw [hlen0,cond_true] at h
             have hlen : args.length ≤ fn.ntmps := Nat.le_of_ble_eq_true hlen0
             have fin : ∀ (e : Exit) (t : ES),evC P orc mode (evFH P orc horc mode bad d) c ⟨fn.ntmps,numF 0 args .nil,hp,nb⟩ = some (e,t) → (e = .ret ∨ e = .normal) → resF P nb fn.results.toList t = some (r,hp',nb') → nb ≤ nb' ∧ HGood P f args (lkG hp) nb r (lkG hp') nb' := by
               intro e t he hret hr
               unfold resF at hr
               split at hr
               · rename_i r' hres
                 cases hle : Nat.ble nb t.nb with
                 | false => rw [hle,cond_false] at hr;cases hr
                 | true =>
                   rw [hle,cond_true] at hr
                   cases hr
                   refine ⟨Nat.le_of_ble_eq_true hle,heap_of_lwp hmix hf hb hname rfl rfl hlen ?_⟩
                   have key := evC_sound (na := nb) ho ih c hd ⟨fn.ntmps,numF 0 args .nil,hp,nb⟩ t e (heapPost P fn.results.toList r (lkG t.hp) t.nb) he (by rcases hret with rfl | rfl <;> exact ⟨hres,rfl,Nat.le_refl _⟩)
                   have e1 : ES.ls ⟨fn.ntmps,numF 0 args .nil,hp,nb⟩ = ⟨fn.ntmps,fun i => args.getD i .dead,lkG hp,nb⟩ := by
                     simp only [ES.ls]
                     congr 1
                     funext i
                     rw [lkF_num]
                     simp
                   rw [e1] at key
                   exact key
               · cases hr
             unfold endF at h
             split at h
             · rename_i t he
               exact fin _ t he (.inl rfl) h
             · rename_i t he
               exact fin _ t he (.inr rfl) h
             · cases h
       · cases hb0
     · cases hb0
   · cases h
noncomputable def evPH (P : Program) [Laid P] (orc : FuncId → List LV → Option LV) (horc : Callf) (mode : FuncId → Nat) (bad : List Nat) (d : Nat) (f : FuncId) (args : List LV) : Option LV :=
 match evFH P orc horc mode bad d f args [] 0 with
 | some (r,hp,_) => pvF hp r
 | none => none
theorem evPH_sound (hmix : P.follows .mixedOrders = true) (ho : OrcOk P orc) (hh : CallOk P horc) (hB : BodiesOk P bad) {d : Nat} {f : FuncId} {args : List LV} {r : LV} (h : evPH P orc horc mode bad d f args = some r) : PureGood P f args r := by
 unfold evPH at h
 split at h
 ·rename_i r0 hp nb hcf
  rw [pvF_eq] at h
  obtain ⟨p,hpv,rfl⟩ := Option.map_eq_some_iff.1 h
  exact good_of_h (evFH_sound hmix ho hh hB d _ _ _ _ _ _ _ hcf).2 hpv
 ·cases h
end
end Go.Lg