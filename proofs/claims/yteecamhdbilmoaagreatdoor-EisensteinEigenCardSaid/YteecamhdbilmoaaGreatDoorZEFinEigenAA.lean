/- Contracts of functions of the program, and what proves them (texts: Lg24 AL NumK NumE NumF K1 K2 EncE K3 NumG NumX Num7 Num8 Num9 Num10 NumT K4 K5 F2 X0 D1n D4 D2 D5 D7 D8 NumB). -/
import Derived.KernelRfl
import Derived.Test.YteecamhdbilmoaaGreatDoorZEAC
import Derived.Test.YteecamhdbilmoaaGreatDoorZEAD
import Derived.Test.YteecamhdbilmoaaGreatDoorZEAH
import Derived.Test.YteecamhdbilmoaaGreatDoorZEAL
import Derived.Test.YteecamhdbilmoaaGreatDoorZEAM
import Derived.Test.YteecamhdbilmoaaGreatDoorZEAN
import Derived.Test.YteecamhdbilmoaaGreatDoorZEAO
set_option linter.all false
namespace Go.Lg
open Go
section
variable {P : Program} [Laid P] {base i : Nat} {mu : Bool} {ok : Nat → Nat → Bool} {ops : Array Oper} {K : LS → Prop}
end
end Go.Lg
namespace Go.Lg
open Go
noncomputable def evFH (P : Program) [Laid P] (orc : FuncId → List LV → Option LV) (horc : Callf) (mode : FuncId → Nat) (bad : List Nat) (d : Nat) : Callf :=
 Nat.rec (motive := fun _ => Callf) (fun _ _ _ _ => none) (fun _ ih f args hp nb => match horc f args hp nb with
  | some x => some x
  | none => match fnB P bad f with
    | some b => bodyF P orc mode ih args hp nb b
    | none => none) d
section
variable {P : Program} [Laid P] {orc : FuncId → List LV → Option LV} {horc : Callf} {mode : FuncId → Nat} {bad : List Nat}
attribute [local irreducible] evC
theorem evFH_sound (hmix : P.follows .mixedOrders = true) (ho : OrcOk P orc) (hh : CallOk P horc) (hB : BodiesOk P bad) : ∀ d,CallOk P (evFH P orc horc mode bad d)
 | 0 => fun f args hp nb r hp' nb' h => by
   have h : (none : Option (LV × List (Nat × Blk) × Nat)) = some (r,hp',nb') := h
   cases h
 | d + 1 => fun f args hp nb r hp' nb' h => by
   have ih := evFH_sound hmix ho hh hB d
   have h : (match horc f args hp nb with
     | some x => some x
     | none => match fnB P bad f with
       | some b => bodyF P orc mode (evFH P orc horc mode bad d) args hp nb b
       | none => none) = some (r,hp',nb') := h
   split at h
   · rename_i x hx
     cases h
     exact hh _ _ _ _ _ _ _ hx
   split at h
   · rename_i b hb0
     unfold fnB at hb0
     split at hb0
     · rename_i fn hf
       split at hb0
       · rename_i c hb
         cases hbad : bad.elem f with
         | true => rw [hbad,cond_true] at hb0;cases hb0
         | false =>
           rw [hbad,cond_false] at hb0
           cases hb0
           obtain ⟨hname,hd⟩ := hB f fn c hf hbad hb
           unfold bodyF at h
           simp only at h
           cases hlen0 : Nat.ble args.length fn.ntmps with
           | false => rw [hlen0,cond_false] at h;cases h
           | true =>
             rw [hlen0,cond_true] at h
             have hlen : args.length ≤ fn.ntmps := Nat.le_of_ble_eq_true hlen0
             have fin : ∀ (e : Exit) (t : ES),evC P orc mode (evFH P orc horc mode bad d) c ⟨fn.ntmps,numF 0 args .nil,hp,nb⟩ = some (e,t) → (e = .ret ∨ e = .normal) → resF P nb fn.results.toList t = some (r,hp',nb') → nb ≤ nb' ∧ HGood P f args (lkG hp) nb r (lkG hp') nb' := by
               intro e t he hret hr
               unfold resF at hr
               split at hr
               · rename_i r' hres
                 cases hle : Nat.ble nb t.nb with
                 | false => rw [hle,cond_false] at hr;cases hr
                 | true =>
                   rw [hle,cond_true] at hr
                   cases hr
                   refine ⟨Nat.le_of_ble_eq_true hle,heap_of_lwp hmix hf hb hname rfl rfl hlen ?_⟩
                   have key := evC_sound (na := nb) ho ih c hd ⟨fn.ntmps,numF 0 args .nil,hp,nb⟩ t e (heapPost P fn.results.toList r (lkG t.hp) t.nb) he (by rcases hret with rfl | rfl <;> exact ⟨hres,rfl,Nat.le_refl _⟩)
                   have e1 : ES.ls ⟨fn.ntmps,numF 0 args .nil,hp,nb⟩ = ⟨fn.ntmps,fun i => args.getD i .dead,lkG hp,nb⟩ := by
                     simp only [ES.ls]
                     congr 1
                     funext i
                     rw [lkF_num]
                     simp
                   rw [e1] at key
                   exact key
               · cases hr
             unfold endF at h
             split at h
             · rename_i t he
               exact fin _ t he (.inl rfl) h
             · rename_i t he
               exact fin _ t he (.inr rfl) h
             · cases h
       · cases hb0
     · cases hb0
   · cases h
noncomputable def evPH (P : Program) [Laid P] (orc : FuncId → List LV → Option LV) (horc : Callf) (mode : FuncId → Nat) (bad : List Nat) (d : Nat) (f : FuncId) (args : List LV) : Option LV :=
 match evFH P orc horc mode bad d f args [] 0 with
 | some (r,hp,_) => pvF hp r
 | none => none
theorem evPH_sound (hmix : P.follows .mixedOrders = true) (ho : OrcOk P orc) (hh : CallOk P horc) (hB : BodiesOk P bad) {d : Nat} {f : FuncId} {args : List LV} {r : LV} (h : evPH P orc horc mode bad d f args = some r) : PureGood P f args r := by
 unfold evPH at h
 split at h
 ·rename_i r0 hp nb hcf
  rw [pvF_eq] at h
  obtain ⟨p,hpv,rfl⟩ := Option.map_eq_some_iff.1 h
  exact good_of_h (evFH_sound hmix ho hh hB d _ _ _ _ _ _ _ hcf).2 hpv
 ·cases h
end
end Go.Lg
namespace Go.Proofs.YteecamhdbilmoaaGreatDoor
open Go Go.Lg Go.Num
set_option maxRecDepth 100000
def tinyI (z : Int) : Bool := Nat.ble (z.natAbs + 1) (4294967296 ^ 100)
theorem tinyI_len {z : Int} (h : tinyI z = true) : len z ≤ 100 := length_digs_le (k := 100) (Nat.le_of_ble_eq_true h)
theorem wrI_enc {z : Int} (h : tinyI z = true) : LV.agg (wrI z) = encI z := by
 rw [encI_sm,wrI_eq (Nat.le_of_ble_eq_true h)]
def orcMulI (args : List LV) : Option LV :=
 match args with
 | [.agg [a,b],.agg [c,d]] => match rdI a b,rdI c d with
   | some x,some y => fInt (x * y) fun r => bif tinyI x && tinyI y && tinyI r then some (.agg (wrI r)) else none
   | _,_ => none
 | _ => none
theorem orcMulI_ok {args : List LV} {r : LV} (h : orcMulI args = some r) : PureGood Tryz.prog 77 args r := by
 unfold orcMulI at h
 split at h
 ·split at h
  ·rename_i a b c d x y h1 h2
   rw [fInt_eq] at h
   cases hb : (tinyI x && tinyI y && tinyI (x * y)) with
   | true =>
     rw [hb] at h
     simp only [Bool.and_eq_true] at hb
     cases h
     have hx := tinyI_len hb.1.1
     have hy := tinyI_len hb.1.2
     obtain ⟨rfl,rfl⟩ := rdI_ok h1
     obtain ⟨rfl,rfl⟩ := rdI_ok h2
     rw [wrI_enc hb.2]
     have := mul_good x y (by omega) (by omega)
     rwa [encI_sm x,encI_sm y] at this
   | false => rw [hb] at h;cases h
  ·cases h
 ·cases h
def orcExI (args : List LV) : Option LV :=
 match args with
 | [.agg [a,b],.agg [c,d]] => match rdI a b,rdI c d with
   | some x,some y => fInt (x / y) fun r => bif tinyI x && tinyI y && tinyI r && !(y == 0) && (x % y == 0) then some (.tup [.agg (wrI r),.lit (.int .i64 0)]) else none
   | _,_ => none
 | _ => none
theorem orcExI_ok {args : List LV} {r : LV} (h : orcExI args = some r) : PureGood Tryz.prog 112 args r := by
 unfold orcExI at h
 split at h
 ·split at h
  ·rename_i a b c d x y h1 h2
   rw [fInt_eq] at h
   cases hb : (tinyI x && tinyI y && tinyI (x / y) && !(y == 0) && (x % y == 0)) with
   | true =>
     rw [hb] at h
     simp only [Bool.and_eq_true,Bool.not_eq_true',beq_eq_false_iff_ne,ne_eq,beq_iff_eq] at hb
     cases h
     have hx := tinyI_len hb.1.1.1.1
     have hy := tinyI_len hb.1.1.1.2
     obtain ⟨rfl,rfl⟩ := rdI_ok h1
     obtain ⟨rfl,rfl⟩ := rdI_ok h2
     rw [wrI_enc hb.1.1.2]
     have := exact_good x y hb.1.2 hb.2 (by omega) (by omega)
     rwa [encI_sm x,encI_sm y] at this
   | false => rw [hb] at h;cases h
  ·cases h
 ·cases h
def orcQuo (args : List LV) : Option LV :=
 match args with
 | [.agg l,.agg m] => match rdQ l,rdQ m with
   | some x,some y => fQ (x / y) fun r => bif tiny x && tiny y && tiny r && !(y.num == 0) then some (.tup [wrQ r,.lit (.int .i64 0)]) else none
   | _,_ => none
 | _ => none
theorem orcQuo_ok {args : List LV} {r : LV} (h : orcQuo args = some r) : PureGood Tryz.prog 43 args r := by
 unfold orcQuo at h
 split at h
 ·split at h
  ·rename_i l m x y h1 h2
   rw [fQ_eq] at h
   cases hb : (tiny x && tiny y && tiny (x / y) && !(y.num == 0)) with
   | true =>
     rw [hb] at h
     simp only [Bool.and_eq_true,Bool.not_eq_true',beq_eq_false_iff_ne,ne_eq] at hb
     cases h
     have hx := tiny_lq hb.1.1.1
     have hy := tiny_lq hb.1.1.2
     rw [wrQ_eq hb.1.2,rdQ_ok h1,rdQ_ok h2]
     exact quo_good x y (fun e => hb.2 (by rw [e];rfl)) (by omega) (by omega)
   | false => rw [hb] at h;cases h
  ·cases h
 ·cases h
def orc3 (f : FuncId) (args : List LV) : Option LV := bif Nat.beq f 43 then orcQuo args else bif Nat.beq f 77 then orcMulI args else bif Nat.beq f 112 then orcExI args else orc f args
theorem orc3_ok : OrcOk Tryz.prog orc3 := by
 intro f args r h
 exact orc_cons (f0 := 43) (g := orcQuo) (fun _ _ h => orcQuo_ok h) (orc_cons (f0 := 77) (g := orcMulI) (fun _ _ h => orcMulI_ok h) (orc_cons (f0 := 112) (g := orcExI) (fun _ _ h => orcExI_ok h) orc_ok)) f args r h
def horc0 : Callf := fun _ _ _ _ => none
theorem horc0_ok : CallOk Tryz.prog horc0 := fun _ _ _ _ _ _ _ h => nomatch h
noncomputable def evl (f : Nat) (args : List LV) : Option LV := evPH Tryz.prog orc3 horc0 (fun _ => 0) [132] 600 f args
theorem evl_good {f : Nat} {args : List LV} {r : LV} (h : evl f args = some r) : PureGood Tryz.prog f args r := evPH_sound mix orc3_ok horc0_ok bodies_ok h
end Go.Proofs.YteecamhdbilmoaaGreatDoor
namespace Go.Num
def fdL : List Int := [-59,-56,-55,-52,-51,-47,-43,-40,-39,-35,-31,-24,-23,-20,-19,-15,-11,-8,-7,-4,-3,1,5,8,12,13,17,21,24,28,29,33,37,40,41,44,53,56,57,60]
def tzF : Nat → Nat → Nat
 | 0,_ => 0
 | f + 1,n => bif Nat.beq (Nat.mod n 2) 0 then Nat.succ (tzF f (Nat.div n 2)) else 0
def tz (n : Nat) : Nat := tzF 10 n
def od (n : Nat) : Nat := Nat.div n (Nat.pow 2 (tz n))
def jsg1 (a m : Nat) (o : Int) : Int := bif Nat.beq (Nat.mod (tz a) 2) 1 && (Nat.beq (Nat.mod m 8) 3 || Nat.beq (Nat.mod m 8) 5) then -o else o
def jsg (a m : Nat) (o : Int) : Int := bif Nat.beq (Nat.mod (od a) 4) 3 && Nat.beq (Nat.mod m 4) 3 then -(jsg1 a m o) else jsg1 a m o
def jac : Nat → Nat → Nat → Int → Int
 | 0,_,_,_ => 0
 | f + 1,a,m,o => bif Nat.beq a 0 then (bif Nat.beq m 1 then o else 0) else jac f (Nat.mod m (od a)) (od a) (jsg a m o)
def dm (d : Int) (m : Nat) : Nat := Int.toNat (Int.emod d (Int.ofNat m))
def krP (d : Int) (n : Nat) : Int :=
 bif Nat.beq (tz n) 0 then jac 1001 (dm d n) n 1
 else bif Nat.beq (dm d 2) 0 then 0 else (bif Nat.beq (Nat.mod (tz n) 2) 1 && (Nat.beq (dm d 8) 3 || Nat.beq (dm d 8) 5) then -1 else 1) * jac 1001 (dm d (od n)) (od n) 1
def two (d : Int) : Int := bif Nat.beq (dm d 8) 1 || Nat.beq (dm d 8) 7 then 1 else bif Nat.beq (dm d 8) 3 || Nat.beq (dm d 8) 5 then -1 else 0
def krT : List Nat := [0,0x8088a280802800aa82a8a82088a89,0,0,0x1115191191511199959199195999,0x218058102669224112a685a8629,0,0,0x19911151119919119995999119,0x9069841141849869669841a49,0,0,0,0x200a22028a082a220aa2a9,0,0,0,0xa2280800a880aa8a82209,0,0,0x19511115919159999519,0x1061059261245a61a69,0,0,0,0x81984050a5a984689,0,0,0,0x20802a2202a8a29,0,0,0,0,0,0,0x151151959959,0x220a0a22a9,0,0,0x1151199599,0xa0088aa09,0,0,0,0x1161669,0,0,0,0x80a89,0,0,0x1199,0x229,0,0,0x19,0x9,0,0,0,0x2,0,0,0,0x209,0,0,0x9119,0,0,0,0x951159,0x2280289,0,0,0,0x2880a0229,0,0,0,0x21a51045a49,0,0,0x959151151959,0,0,0,0x99159111195199,0x20aa2020808aa09,0,0,0,0x29849141a41461269,0,0,0,0x22822a8080202a88289,0,0,0x99519195111159191599,0x28a0a80088a22002a0a29,0,0,0x9199951119119111599919,0,0,0,0,0,0,0,0,0x208a2a22a000a0a000a88a8a209,0,0,0x9195999111519119151119995919,0x29869049851061a49045261069269,0,0,0x955959159151551155151951959559]
def krt (d : Int) : Nat := krT.getD (Int.toNat (Int.add d 60)) 0
def kr (d : Int) (n : Nat) : Int := Int.subNatNat (Nat.mod (Nat.div (krt d) (Nat.pow 4 (Nat.mod n (Int.natAbs d)))) 4) 1
def okS (z : Int) : Bool := match z with
 | .ofNat 0 => true
 | .ofNat 1 => true
 | .negSucc 0 => true
 | _ => false
def eqS (y z : Int) : Bool := match y,z with
 | .ofNat m,.ofNat n => Nat.beq m n
 | .negSucc m,.negSucc n => Nat.beq m n
 | _,_ => false
theorem eqS_ok : ∀ {y z : Int},eqS y z = true → y = z
 | .ofNat m,.ofNat n,h => congrArg _ (Nat.eq_of_beq_eq_true h)
 | .negSucc m,.negSucc n,h => congrArg _ (Nat.eq_of_beq_eq_true h)
theorem okS_ok {z : Int} (h : okS z = true) : z = 1 ∨ z = 0 ∨ z = -1 := by
 unfold okS at h
 split at h
 ·exact .inr (.inl rfl)
 ·exact .inl rfl
 ·exact .inr (.inr rfl)
 ·cases h
def chkK (d : Int) (n : Nat) : Bool := eqS (krP d n) (kr d n) && okS (kr d n)
def all1 (c : Nat → Bool) : Nat → Bool
 | 0 => true
 | n + 1 => c (Nat.succ n) && all1 c n
theorem all1_ok {c : Nat → Bool} : ∀ {n : Nat},all1 c n = true → ∀ {i : Nat},1 ≤ i → i ≤ n → c i = true
 | 0,_,i,h1,h2 => by omega
 | n + 1,h,i,h1,h2 => by
   rw [all1,Bool.and_eq_true] at h
   by_cases e : i = n + 1
   · rw [e];exact h.1
   · exact all1_ok h.2 h1 (by omega)
theorem kkm59 : all1 (chkK (-59)) 1000 = true := by decide +kernel
theorem kkm56 : all1 (chkK (-56)) 1000 = true := by decide +kernel
theorem kkm55 : all1 (chkK (-55)) 1000 = true := by decide +kernel
theorem kkm52 : all1 (chkK (-52)) 1000 = true := by decide +kernel
theorem kkm51 : all1 (chkK (-51)) 1000 = true := by decide +kernel
theorem kkm47 : all1 (chkK (-47)) 1000 = true := by decide +kernel
theorem kkm43 : all1 (chkK (-43)) 1000 = true := by decide +kernel
theorem kkm40 : all1 (chkK (-40)) 1000 = true := by decide +kernel
theorem kkm39 : all1 (chkK (-39)) 1000 = true := by decide +kernel
theorem kkm35 : all1 (chkK (-35)) 1000 = true := by decide +kernel
theorem kkm31 : all1 (chkK (-31)) 1000 = true := by decide +kernel
theorem kkm24 : all1 (chkK (-24)) 1000 = true := by decide +kernel
theorem kkm23 : all1 (chkK (-23)) 1000 = true := by decide +kernel
theorem kkm20 : all1 (chkK (-20)) 1000 = true := by decide +kernel
theorem kkm19 : all1 (chkK (-19)) 1000 = true := by decide +kernel
theorem kkm15 : all1 (chkK (-15)) 1000 = true := by decide +kernel
theorem kkm11 : all1 (chkK (-11)) 1000 = true := by decide +kernel
theorem kkm8 : all1 (chkK (-8)) 1000 = true := by decide +kernel
theorem kkm7 : all1 (chkK (-7)) 1000 = true := by decide +kernel
theorem kkm4 : all1 (chkK (-4)) 1000 = true := by decide +kernel
theorem kkm3 : all1 (chkK (-3)) 1000 = true := by decide +kernel
theorem kkp1 : all1 (chkK (1)) 1000 = true := by decide +kernel
theorem kkp5 : all1 (chkK (5)) 1000 = true := by decide +kernel
theorem kkp8 : all1 (chkK (8)) 1000 = true := by decide +kernel
theorem kkp12 : all1 (chkK (12)) 1000 = true := by decide +kernel
theorem kkp13 : all1 (chkK (13)) 1000 = true := by decide +kernel
theorem kkp17 : all1 (chkK (17)) 1000 = true := by decide +kernel
theorem kkp21 : all1 (chkK (21)) 1000 = true := by decide +kernel
theorem kkp24 : all1 (chkK (24)) 1000 = true := by decide +kernel
theorem kkp28 : all1 (chkK (28)) 1000 = true := by decide +kernel
theorem kkp29 : all1 (chkK (29)) 1000 = true := by decide +kernel
theorem kkp33 : all1 (chkK (33)) 1000 = true := by decide +kernel
theorem kkp37 : all1 (chkK (37)) 1000 = true := by decide +kernel
theorem kkp40 : all1 (chkK (40)) 1000 = true := by decide +kernel
theorem kkp41 : all1 (chkK (41)) 1000 = true := by decide +kernel
theorem kkp44 : all1 (chkK (44)) 1000 = true := by decide +kernel
theorem kkp53 : all1 (chkK (53)) 1000 = true := by decide +kernel
theorem kkp56 : all1 (chkK (56)) 1000 = true := by decide +kernel
theorem kkp57 : all1 (chkK (57)) 1000 = true := by decide +kernel
theorem kkp60 : all1 (chkK (60)) 1000 = true := by decide +kernel
theorem kk_all : ∀ d ∈ fdL,all1 (chkK d) 1000 = true := by
 simp only [fdL,List.forall_mem_cons]
 exact ⟨kkm59,kkm56,kkm55,kkm52,kkm51,kkm47,kkm43,kkm40,kkm39,kkm35,kkm31,kkm24,kkm23,kkm20,kkm19,kkm15,kkm11,kkm8,kkm7,kkm4,kkm3,kkp1,kkp5,kkp8,kkp12,kkp13,kkp17,kkp21,kkp24,kkp28,kkp29,kkp33,kkp37,kkp40,kkp41,kkp44,kkp53,kkp56,kkp57,kkp60,by simp⟩
end Go.Num
namespace Go.Num
def divN (n : Nat) : List Nat := (List.range' 1 n).filter fun d => Nat.beq (n % d) 0
def divL (n : Nat) : List Int := (divN n).map fun (d : Nat) => (d : Int)
theorem divL_get {n k : Nat} (h : k < (divN n).length) : ∃ d : Nat,(divL n).getD k 0 = (d : Int) ∧ 1 ≤ d ∧ d ≤ n ∧ n % d = 0 ∧ (divN n).getD k 0 = d := by
 refine ⟨(divN n)[k],by simp [divL,h],?_⟩
 have hm : (divN n)[k] ∈ divN n := List.getElem_mem h
 generalize hd : (divN n)[k] = d at *
 simp only [divN,List.mem_filter,List.mem_range'_1] at hm
 refine ⟨by omega,by omega,Nat.eq_of_beq_eq_true hm.2,by simp [h,hd]⟩
def psum (f : Nat → Int) : Nat → Int
 | 0 => 0
 | k + 1 => psum f k + f k
theorem psum_bound {f : Nat → Int} {B : Int} {n : Nat} (h : ∀ k,k < n → -B ≤ f k ∧ f k ≤ B) : ∀ k,k ≤ n → -(B * k) ≤ psum f k ∧ psum f k ≤ B * k
 | 0,_ => by simp [psum]
 | k + 1,hk => by
   have h1 := psum_bound h k (by omega)
   have h2 := h k (by omega)
   have e : B * ((k + 1 : Nat) : Int) = B * k + B := by rw [Int.natCast_add,Int.mul_add];simp
   rw [psum,e]
   omega
def exL (n : Nat) (xs : List Int) (k : Nat) : Int := (divL n).getD k 0 * xs.getD k 0
def exH (n : Nat) (xs : List Int) (k : Nat) : Int := (n : Int) / (divL n).getD k 0 * xs.getD k 0
structure EtaOk (n : Nat) (xs : List Int) : Prop where
 n1 : 1 ≤ n
 n2 : n ≤ 600
 len : xs.length = (divN n).length
 small : ∀ x ∈ xs,-200 ≤ x ∧ x ≤ 200
theorem EtaOk.get {n : Nat} {xs : List Int} (h : EtaOk n xs) (k : Nat) : -200 ≤ xs.getD k 0 ∧ xs.getD k 0 ≤ 200 := by
 by_cases hk : k < xs.length
 ·have : xs.getD k 0 = xs[k] := by simp [hk]
  rw [this]
  exact h.small _ (List.getElem_mem hk)
 ·simp [List.getD,Nat.le_of_not_lt hk]
theorem mul_bd {a b A B : Int} (h1 : 0 ≤ a ∧ a ≤ A) (h2 : -B ≤ b ∧ b ≤ B) : -(A * B) ≤ a * b ∧ a * b ≤ A * B := by
 have e : (a * b).natAbs ≤ (A * B).natAbs := by
  rw [Int.natAbs_mul,Int.natAbs_mul]
  exact Nat.mul_le_mul (by omega) (by omega)
 have : 0 ≤ A * B := Int.mul_nonneg (by omega) (by omega)
 omega
theorem EtaOk.low {n : Nat} {xs : List Int} (h : EtaOk n xs) {k : Nat} (hk : k < xs.length) : -120000 ≤ exL n xs k ∧ exL n xs k ≤ 120000 := by
 obtain ⟨d,e1,e2,e3,_⟩ := divL_get (n := n) (k := k) (h.len ▸ hk)
 have := h.n2
 exact mul_bd (A := 600) (B := 200) (by rw [e1];omega) (h.get k)
theorem EtaOk.high {n : Nat} {xs : List Int} (h : EtaOk n xs) {k : Nat} (hk : k < xs.length) : -120000 ≤ exH n xs k ∧ exH n xs k ≤ 120000 := by
 obtain ⟨d,e1,e2,e3,_⟩ := divL_get (n := n) (k := k) (h.len ▸ hk)
 have := h.n2
 have h3 : (n : Int) / (d : Int) = ((n / d : Nat) : Int) := rfl
 have h4 : n / d ≤ n := Nat.div_le_self _ _
 generalize n / d = q at *
 exact mul_bd (A := 600) (B := 200) (by rw [e1,h3];omega) (h.get k)
theorem divN_length_le : ∀ n,n ≤ 600 → (divN n).length ≤ 24 := by
 have h : ((List.range 601).all fun n => Nat.ble (divN n).length 24) = true := by decide +kernel
 intro n hn
 exact Nat.le_of_ble_eq_true (List.all_eq_true.1 h n (List.mem_range.2 (by omega)))
theorem EtaOk.len_le {n : Nat} {xs : List Int} (h : EtaOk n xs) : xs.length ≤ 24 := by rw [h.len];exact divN_length_le n h.n2
theorem EtaOk.s1 {n : Nat} {xs : List Int} (h : EtaOk n xs) {k : Nat} (hk : k ≤ xs.length) : -2880000 ≤ psum (exL n xs) k ∧ psum (exL n xs) k ≤ 2880000 := by
 have h1 := psum_bound (f := exL n xs) (B := 120000) (n := xs.length) (fun k hk => h.low hk) k hk
 have h2 := h.len_le
 omega
theorem EtaOk.s2 {n : Nat} {xs : List Int} (h : EtaOk n xs) {k : Nat} (hk : k ≤ xs.length) : -2880000 ≤ psum (exH n xs) k ∧ psum (exH n xs) k ≤ 2880000 := by
 have h1 := psum_bound (f := exH n xs) (B := 120000) (n := xs.length) (fun k hk => h.high hk) k hk
 have h2 := h.len_le
 omega
end Go.Num
namespace Go.Num
def vpF (p : Nat) : Nat → Nat → Nat
 | 0,_ => 0
 | f + 1,d => if d % p = 0 then vpF p f (d / p) + 1 else 0
def vp (p d : Nat) : Nat := vpF p d d
def primesT : List Nat := [2,3,5,7,11,13,17,19,23,29,31,37,41,43,47,53,59,61,67,71,73,79,83,89,97,101,103,107,109,113,127,131,137,139,149,151,157,163,167,173,179,181,191,193,197,199,211,223,227,229,233,239,241,251,257,263,269,271,277,281,283,293,307,311,313,317,331,337,347,349,353,359,367,373,379,383,389,397,401,409,419,421,431,433,439,443,449,457,461,463,467,479,487,491,499,503,509,521,523,541,547,557,563,569,571,577,587,593,599]
def below (q : Nat) : List Nat := primesT.filter fun p => Nat.blt p q
theorem tmod_iff (a b : Int) : a.tmod b = 0 ↔ a % b = 0 := by
 rw [← Int.dvd_iff_tmod_eq_zero,Int.dvd_iff_emod_eq_zero]
theorem tmod_bd (a : Int) {b : Int} (h : 0 < b) : -b < a.tmod b ∧ a.tmod b < b := by
 have h1 := Int.tmod_lt_of_pos a h
 have h2 := Int.lt_tmod_of_pos a h
 omega
end Go.Num
namespace Go.Num
theorem emod_of_tmod (a : Int) {m : Int} (hm : 0 < m) : a % m = if a.tmod m < 0 then a.tmod m + m else a.tmod m := by
 have h1 := Int.mul_tdiv_add_tmod a m
 have h2 := tmod_bd a hm
 have h3 : a % m = (a.tmod m) % m := by
  conv => lhs;rw [← h1]
  exact Int.mul_add_emod_self_left ..
 rw [h3]
 split
 ·rename_i h
  have : a.tmod m % m = (a.tmod m + m) % m := (Int.add_emod_right ..).symm
  rw [this]
  exact Int.emod_eq_of_lt (by omega) (by omega)
 ·exact Int.emod_eq_of_lt (by omega) (by omega)
end Go.Num
namespace Go.Proofs.YteecamhdbilmoaaGreatDoor
open Go Go.Lg Go.Num
set_option maxRecDepth 100000
set_option maxHeartbeats 4000000
attribute [local irreducible] Go.Lg.lrun Go.Lg.lwp Go.Lg.exThen Go.Lg.exBlk Go.Lg.keep Go.Lg.goodPost
noncomputable def chkTz (m : Nat) : Bool := match evl 52 [.lit (.int .u64 (m : Int))] with
 | some (.lit (.int .i64 (.ofNat k))) => Nat.beq k (tz m)
 | _ => false
theorem tz_a : all1 chkTz 250 = true := by kernel_rfl
theorem tz_b : all1 (fun i => chkTz (Nat.add 250 i)) 250 = true := by kernel_rfl
theorem tz_c : all1 (fun i => chkTz (Nat.add 500 i)) 250 = true := by kernel_rfl
theorem tz_d : all1 (fun i => chkTz (Nat.add 750 i)) 250 = true := by kernel_rfl
theorem chkTz_all {m : Nat} (h1 : 1 ≤ m) (h2 : m ≤ 1000) : chkTz m = true := by
 by_cases a1 : m ≤ 250
 ·exact all1_ok tz_a h1 a1
 ·by_cases a2 : m ≤ 500
  ·have := all1_ok tz_b (i := m - 250) (by omega) (by omega)
   rwa [show Nat.add 250 (m - 250) = m from Nat.add_sub_cancel' (by omega)] at this
  ·by_cases a3 : m ≤ 750
   ·have := all1_ok tz_c (i := m - 500) (by omega) (by omega)
    rwa [show Nat.add 500 (m - 500) = m from Nat.add_sub_cancel' (by omega)] at this
   ·have := all1_ok tz_d (i := m - 750) (by omega) (by omega)
    rwa [show Nat.add 750 (m - 750) = m from Nat.add_sub_cancel' (by omega)] at this
theorem tz_good {m : Nat} (h1 : 1 ≤ m) (h2 : m ≤ 1000) : PureGood Tryz.prog 52 [.lit (.int .u64 (m : Int))] (i64 (tz m : Nat)) := by
 have h := chkTz_all h1 h2
 unfold chkTz at h
 split at h
 ·rename_i k he
  have := Nat.eq_of_beq_eq_true h
  subst this
  exact evl_good he
 ·cases h
theorem tz_bd : (all1 fun m => Nat.ble (tz m) 9 && Nat.ble 1 (od m) && Nat.ble (od m) m && Nat.beq (Nat.mod (od m) 2) 1) 1000 = true := by decide +kernel
theorem tz_le {m : Nat} (h1 : 1 ≤ m) (h2 : m ≤ 1000) : tz m ≤ 9 ∧ 1 ≤ od m ∧ od m ≤ m := by
 have h := all1_ok tz_bd h1 h2
 simp only [Bool.and_eq_true] at h
 exact ⟨Nat.le_of_ble_eq_true h.1.1.1,Nat.le_of_ble_eq_true h.1.1.2,Nat.le_of_ble_eq_true h.1.2⟩
theorem od_fdiv (m : Nat) : (m : Int) / 2 ^ tz m = ((od m : Nat) : Int) := by
 show (m : Int) / 2 ^ tz m = ((m / 2 ^ tz m : Nat) : Int)
 rw [Int.natCast_ediv,Int.natCast_pow]
 rfl
theorem dm_eq (d : Int) {m : Nat} (hm : 1 ≤ m) : ((dm d m : Nat) : Int) = d % (m : Int) := by
 show ((Int.toNat (d % (m : Int)) : Nat) : Int) = _
 rw [Int.toNat_of_nonneg (Int.emod_nonneg _ (by omega))]
theorem dm_lt (d : Int) {m : Nat} (hm : 1 ≤ m) : dm d m < m := by
 have h1 := dm_eq d hm
 have h2 := Int.emod_lt_of_pos d (b := (m : Int)) (by omega)
 omega
theorem residue_good (a : Int) (m : Nat) (ha : -1000000 ≤ a ∧ a ≤ 1000000) (hm : 1 ≤ m ∧ m ≤ 1000000) : PureGood Tryz.prog 53 [i64 a,i64 m] (i64 (dm a m)) := by
 have h1 := emod_of_tmod a (m := m) (by omega)
 have h2 := tmod_bd a (b := m) (by omega)
 rw [dm_eq a hm.1]
 by_cases h : a.tmod m < 0
 ·rw [if_pos h] at h1
  rw [h1]
  clear h1
  refine good_of_lwp mix Tryz.func53 rfl (by decide) (nt := 14) rfl (rs := [.tmp 4]) rfl (nle rfl) ?_
  (repeat (first|apply zO (by decide +kernel)|apply zP (by decide +kernel)|(apply zS;(case h=>constructor<;>decide))|((first|apply l_go rfl|apply c_dec|apply zT rfl (by decide) rfl);(case hs=>(simp (disch := first|omega|exact kD rfl|exact kX rfl) only [smY,simprocAttr,bl,i64];exact rfl));first|refine c_bt ?_|refine c_bf ?_|refine zq ?_|(case hg=>assumption))))
  ((first|apply g_ret|apply g_end);case hres => (simp only [smR];simp (disch := first|omega|exact kD rfl|exact kX rfl) only [smY,simprocAttr,bl,i64];exact rfl))
  simp (disch := first|omega|exact kD rfl|exact kX rfl) only [smY,simprocAttr,bl,i64]
 ·rw [if_neg h] at h1
  rw [h1]
  clear h1
  refine good_of_lwp mix Tryz.func53 rfl (by decide) (nt := 14) rfl (rs := [.tmp 4]) rfl (nle rfl) ?_
  (repeat (first|apply zO (by decide +kernel)|apply zP (by decide +kernel)|(apply zS;(case h=>constructor<;>decide))|((first|apply l_go rfl|apply c_dec|apply zT rfl (by decide) rfl);(case hs=>(simp (disch := first|omega|exact kD rfl|exact kX rfl) only [smY,simprocAttr,bl,i64];exact rfl));first|refine c_bt ?_|refine c_bf ?_|refine zq ?_|(case hg=>assumption))))
  ((first|apply g_ret|apply g_end);case hres => (simp only [smR];simp (disch := first|omega|exact kD rfl|exact kX rfl) only [smY,simprocAttr,bl,i64];exact rfl))
  simp (disch := first|omega|exact kD rfl|exact kX rfl) only [smY,simprocAttr,bl,i64]
theorem neg_emod (a : Int) (h : a < 0) (h' : -1000000 ≤ a) : ∃ b : Nat,(b : Int) = -a ∧ IntKind.u64.wrap (-(IntKind.u64.wrap a)) = (b : Int) := by
 refine ⟨(-a).toNat,by omega,?_⟩
 rw [wrap_u64_mod,wrap_u64_mod]
 omega
theorem dm_neg {a : Int} {b m : Nat} (hm : 1 ≤ m) (hb : (b : Int) = -a) : dm a m = if 0 < b % m then m - b % m else 0 := by
 have h1 := dm_eq a hm
 have h2 : a = -(b : Int) := by omega
 have h3 := Nat.div_add_mod b m
 have h4 := Nat.mod_lt b (show 0 < m by omega)
 have h5 := Int.emod_emod_of_dvd a (m := (m : Int)) (k := m) (Int.dvd_refl _)
 have key : a % (m : Int) = ((if 0 < b % m then m - b % m else 0 : Nat) : Int) := by
  split
  ·rename_i h
   have e : a = (((m - b % m : Nat) : Int)) + (m : Int) * (-(((b / m : Nat) : Int)) - 1) := by
    rw [Int.mul_sub,Int.mul_neg,Int.mul_one]
    have : ((m * (b / m) : Nat) : Int) = (m : Int) * ((b / m : Nat) : Int) := by simp
    omega
   rw [e,Int.add_mul_emod_self_left,Int.emod_eq_of_lt (by omega) (by omega)]
  ·rename_i h
   have e : a = (m : Int) * (-(((b / m : Nat) : Int))) := by
    rw [Int.mul_neg]
    have : ((m * (b / m) : Nat) : Int) = (m : Int) * ((b / m : Nat) : Int) := by simp
    omega
   rw [e,Int.mul_emod_right]
   rfl
 omega
theorem reduced_good (a : Int) (m : Nat) (ha : -1000000 ≤ a ∧ a ≤ 1000000) (hm : 1 ≤ m ∧ m ≤ 1000000) : PureGood Tryz.prog 55 [i64 a,.lit (.int .u64 (m : Int))] (.lit (.int .u64 (dm a m : Nat))) := by
 by_cases h : a < 0
 ·obtain ⟨b,hb,hw⟩ := neg_emod a h ha.1
  rw [dm_neg hm.1 hb]
  have hlt := Nat.mod_lt b (show 0 < m by omega)
  have hz : (0 : Int) - IntKind.u64.wrap a = -(IntKind.u64.wrap a) := by omega
  by_cases h0 : 0 < b % m
  ·rw [if_pos h0,show ((m - b % m : Nat) : Int) = (m : Int) - ((b % m : Nat) : Int) by omega]
   refine good_of_lwp mix Tryz.func55 rfl (by decide) (nt := 23) rfl (rs := [.tmp 4]) rfl (nle rfl) ?_
   (repeat (first|apply zO (by decide +kernel)|apply zP (by decide +kernel)|(apply zS;(case h=>constructor<;>decide))|((first|apply l_go rfl|apply c_dec|apply zT rfl (by decide) rfl);(case hs=>(simp (disch := first|omega|exact kD rfl|exact kX rfl) only [smY,simprocAttr,bl,i64,hw,hz];exact rfl));first|refine c_bt ?_|refine c_bf ?_|refine zq ?_|(case hg=>assumption))))
   ((first|apply g_ret|apply g_end);case hres => (simp only [smR];simp (disch := first|omega|exact kD rfl|exact kX rfl) only [smY,simprocAttr,bl,i64,hw,hz];exact rfl))
   simp (disch := first|omega|exact kD rfl|exact kX rfl) only [smY,simprocAttr,bl,i64,hw,hz]
  ·rw [if_neg h0,show ((0 : Nat) : Int) = ((b % m : Nat) : Int) by omega]
   refine good_of_lwp mix Tryz.func55 rfl (by decide) (nt := 23) rfl (rs := [.tmp 4]) rfl (nle rfl) ?_
   (repeat (first|apply zO (by decide +kernel)|apply zP (by decide +kernel)|(apply zS;(case h=>constructor<;>decide))|((first|apply l_go rfl|apply c_dec|apply zT rfl (by decide) rfl);(case hs=>(simp (disch := first|omega|exact kD rfl|exact kX rfl) only [smY,simprocAttr,bl,i64,hw,hz];exact rfl));first|refine c_bt ?_|refine c_bf ?_|refine zq ?_|(case hg=>assumption))))
   ((first|apply g_ret|apply g_end);case hres => (simp only [smR];simp (disch := first|omega|exact kD rfl|exact kX rfl) only [smY,simprocAttr,bl,i64,hw,hz];exact rfl))
   simp (disch := first|omega|exact kD rfl|exact kX rfl) only [smY,simprocAttr,bl,i64,hw,hz]
 ·obtain ⟨b,rfl⟩ : ∃ b : Nat,a = b := ⟨a.toNat,by omega⟩
  have e : dm (b : Int) m = b % m := by
   have := dm_eq (b : Int) hm.1
   omega
  rw [e]
  refine good_of_lwp mix Tryz.func55 rfl (by decide) (nt := 23) rfl (rs := [.tmp 4]) rfl (nle rfl) ?_
  (repeat (first|apply zO (by decide +kernel)|apply zP (by decide +kernel)|(apply zS;(case h=>constructor<;>decide))|((first|apply l_go rfl|apply c_dec|apply zT rfl (by decide) rfl);(case hs=>(simp (disch := first|omega|exact kD rfl|exact kX rfl) only [smY,simprocAttr,bl,i64];exact rfl));first|refine c_bt ?_|refine c_bf ?_|refine zq ?_|(case hg=>assumption))))
  ((first|apply g_ret|apply g_end);case hres => (simp only [smR];simp (disch := first|omega|exact kD rfl|exact kX rfl) only [smY,simprocAttr,bl,i64];exact rfl))
  simp (disch := first|omega|exact kD rfl|exact kX rfl) only [smY,simprocAttr,bl,i64]
end Go.Proofs.YteecamhdbilmoaaGreatDoor
namespace Go.Num
theorem beq_no {a b : Nat} (h : ¬ a = b) : Nat.beq a b = false := by
 cases e : Nat.beq a b with
 | false => rfl
 | true => exact absurd (Nat.eq_of_beq_eq_true e) h
theorem beq_yes {a b : Nat} (h : a = b) : Nat.beq a b = true := by rw [h];exact Nat.beq_refl b
theorem jsg1_t {a m : Nat} {o : Int} (h1 : tz a % 2 = 1) (h2 : m % 8 = 3 ∨ m % 8 = 5) : jsg1 a m o = 0 - o := by
 rw [Int.zero_sub]
 have e1 : Nat.beq (Nat.mod (tz a) 2) 1 = true := beq_yes h1
 have e2 : (Nat.beq (Nat.mod m 8) 3 || Nat.beq (Nat.mod m 8) 5) = true := by
  rcases h2 with h | h
  ·rw [show Nat.beq (Nat.mod m 8) 3 = true from beq_yes h];rfl
  ·rw [show Nat.beq (Nat.mod m 8) 5 = true from beq_yes h,Bool.or_true]
 rw [jsg1,e1,e2];rfl
theorem jsg1_f1 {a m : Nat} {o : Int} (h1 : ¬ tz a % 2 = 1) : jsg1 a m o = o := by
 rw [jsg1,show Nat.beq (Nat.mod (tz a) 2) 1 = false from beq_no h1];rfl
theorem jsg1_f2 {a m : Nat} {o : Int} (h1 : ¬ m % 8 = 3) (h2 : ¬ m % 8 = 5) : jsg1 a m o = o := by
 rw [jsg1,show Nat.beq (Nat.mod m 8) 3 = false from beq_no h1,show Nat.beq (Nat.mod m 8) 5 = false from beq_no h2,Bool.or_false,Bool.and_false];rfl
theorem jsg_t {a m : Nat} {o : Int} (h1 : od a % 4 = 3) (h2 : m % 4 = 3) : jsg a m o = 0 - jsg1 a m o := by
 rw [Int.zero_sub]
 rw [jsg,show Nat.beq (Nat.mod (od a) 4) 3 = true from beq_yes h1,show Nat.beq (Nat.mod m 4) 3 = true from beq_yes h2];rfl
theorem jsg_f1 {a m : Nat} {o : Int} (h1 : ¬ od a % 4 = 3) : jsg a m o = jsg1 a m o := by
 rw [jsg,show Nat.beq (Nat.mod (od a) 4) 3 = false from beq_no h1];rfl
theorem jsg_f2 {a m : Nat} {o : Int} (h1 : ¬ m % 4 = 3) : jsg a m o = jsg1 a m o := by
 rw [jsg,show Nat.beq (Nat.mod m 4) 3 = false from beq_no h1,Bool.and_false];rfl
theorem jsg_bd {a m : Nat} {o : Int} (h : -1 ≤ o ∧ o ≤ 1) : -1 ≤ jsg a m o ∧ jsg a m o ≤ 1 := by
 unfold jsg jsg1
 cases (Nat.beq (Nat.mod (od a) 4) 3 && Nat.beq (Nat.mod m 4) 3) <;> cases (Nat.beq (Nat.mod (tz a) 2) 1 && (Nat.beq (Nat.mod m 8) 3 || Nat.beq (Nat.mod m 8) 5)) <;> simp only [cond_true,cond_false] <;> omega
theorem jac_zero (f m : Nat) (o : Int) : jac (f + 1) 0 m o = if m = 1 then o else 0 := by
 unfold jac
 by_cases h : m = 1
 ·subst h;rfl
 ·rw [if_neg h,beq_no h];rfl
theorem jac_step {f a m : Nat} {o : Int} (h : a ≠ 0) : jac (f + 1) a m o = jac f (m % od a) (od a) (jsg a m o) := by
 rw [jac,beq_no h];rfl
theorem jac_bd : ∀ {f a m : Nat} {o : Int},-1 ≤ o ∧ o ≤ 1 → -1 ≤ jac f a m o ∧ jac f a m o ≤ 1
 | 0,_,_,_,_ => by unfold jac;omega
 | f + 1,a,m,o,h => by
   by_cases h0 : a = 0
   · subst h0
     rw [jac_zero]
     split <;> omega
   · rw [jac_step h0]
     exact jac_bd (jsg_bd h)
end Go.Num
namespace Go.Proofs.YteecamhdbilmoaaGreatDoor
open Go Go.Lg Go.Num
set_option maxRecDepth 100000
set_option maxHeartbeats 4000000
attribute [local irreducible] Go.Lg.lrun Go.Lg.lwp Go.Lg.exThen Go.Lg.exBlk Go.Lg.keep Go.Lg.goodPost tz od jac dm
theorem jacobi_good (a0 m0 : Nat) (ha : a0 ≤ 1000) (hm : 1 ≤ m0 ∧ m0 ≤ 1000) : PureGood Tryz.prog 54 [.lit (.int .u64 (a0 : Int)),.lit (.int .u64 (m0 : Int))] (i64 (jac 1001 a0 m0 1)) := by
 generalize hJ0 : jac 1001 a0 m0 1 = J
 refine good_of_lwp mix Tryz.func54 rfl (by decide) (nt := 46) rfl (rs := [.tmp 4]) rfl (nle rfl) ?_
 (repeat (first|apply zO (by decide +kernel)|apply zP (by decide +kernel)|(apply zS;(case h=>constructor<;>decide))|((first|apply l_go rfl|apply c_dec|apply zT rfl (by decide) rfl);(case hs=>(simp (disch := first|omega|exact kD rfl|exact kX rfl) only [smY,simprocAttr,bl,i64];exact rfl));first|refine c_bt ?_|refine c_bf ?_|refine zq ?_|(case hg=>assumption))))
 refine w_loop (α := {p : Nat × Nat × Int × Nat // jac (p.2.2.2 + 1) p.1 p.2.1 p.2.2.1 = J ∧ p.1 ≤ p.2.2.2 ∧ p.2.2.2 ≤ 1000 ∧ (1 ≤ p.2.1 ∧ p.2.1 ≤ 1000) ∧ (-1 ≤ p.2.2.1 ∧ p.2.2.1 ≤ 1)}) (fun p => st 46 (lk [(0,.lit (.int .u64 (p.1.1 : Int))),(1,.lit (.int .u64 (p.1.2.1 : Int))),(5,i64 p.1.2.2.1)]) (lkH []) 0) (fun p => p.1.1) ⟨(a0,m0,1,1000),hJ0,ha,by simp only;omega,hm,by simp only;omega⟩ ?_ ?_
 ·(refine Sub.plain ?_;simp only [smF,dg,renL,renLs,simprocAttr,bl,i64])
 ·rintro ⟨⟨a,m,o,f⟩,hJ,haf,hf,hm,ho⟩
  simp only at hJ haf hf hm ho
  simp only [st]
  by_cases h0 : a = 0
  ·subst h0
   rw [jac_zero] at hJ
   by_cases h1 : m = 1
   ·rw [if_pos h1] at hJ
    subst hJ
    (repeat (first|apply zO (by decide +kernel)|apply zP (by decide +kernel)|(apply zS;(case h=>constructor<;>decide))|((first|apply l_go rfl|apply c_dec|apply zT rfl (by decide) rfl);(case hs=>(simp (disch := first|omega|exact kD rfl|exact kX rfl) only [smY,simprocAttr,bl,i64];exact rfl));first|refine c_bt ?_|refine c_bf ?_|refine zq ?_|(case hg=>assumption))))
    ((first|apply g_ret|apply g_end);case hres => (simp only [smR];simp (disch := first|omega|exact kD rfl|exact kX rfl) only [smY,simprocAttr,bl,i64];exact rfl))
    simp (disch := first|omega|exact kD rfl|exact kX rfl) only [smY,simprocAttr,bl,i64]
   ·rw [if_neg h1] at hJ
    subst hJ
    (repeat (first|apply zO (by decide +kernel)|apply zP (by decide +kernel)|(apply zS;(case h=>constructor<;>decide))|((first|apply l_go rfl|apply c_dec|apply zT rfl (by decide) rfl);(case hs=>(simp (disch := first|omega|exact kD rfl|exact kX rfl) only [smY,simprocAttr,bl,i64];exact rfl));first|refine c_bt ?_|refine c_bf ?_|refine zq ?_|(case hg=>assumption))))
    ((first|apply g_ret|apply g_end);case hres => (simp only [smR];simp (disch := first|omega|exact kD rfl|exact kX rfl) only [smY,simprocAttr,bl,i64];exact rfl))
    simp (disch := first|omega|exact kD rfl|exact kX rfl) only [smY,simprocAttr,bl,i64]
  ·obtain ⟨t1,t2,t3⟩ := tz_le (m := a) (by omega) (by omega)
   have hod := od_fdiv a
   have hof := (Int.fdiv_eq_ediv_of_nonneg (a : Int) (b := 2 ^ tz a) (Int.pow_nonneg (by omega))).trans hod
   have rz := tz_good (m := a) (by omega) (by omega)
   obtain ⟨f,rfl⟩ : ∃ g,f = g + 1 := ⟨f - 1,by omega⟩
   rw [jac_step h0] at hJ
   have hob := jsg_bd (a := a) (m := m) ho
   have hlt : m % od a < a := Nat.lt_of_lt_of_le (Nat.mod_lt _ (by omega)) t3
   simp only [i64] at rz
   by_cases c1 : tz a % 2 = 1
   ·by_cases c2 : m % 8 = 3
    ·by_cases c3 : od a % 4 = 3
     ·by_cases c4 : m % 4 = 3
      ·
       have hE := (jsg_t (a := a) (o := o) c3 c4).trans (congrArg (fun z : Int => 0 - z) (jsg1_t c1 (.inl c2)))
       rw [hE] at hJ hob
       (repeat (first|apply zO (by decide +kernel)|apply zP (by decide +kernel)|(apply zS;(case h=>constructor<;>decide))|((first|apply l_go rfl|apply c_dec|apply zT rfl (by decide) rfl);(case hs=>(simp (disch := first|omega|exact kD rfl|exact kX rfl) only [smY,simprocAttr,bl,i64,hod,hof];exact rfl));first|refine c_bt ?_|refine c_bf ?_|refine zq ?_|(case hg=>assumption))))
       refine ⟨⟨(m % od a,od a,_,f),⟨hJ,by simp only;omega,by simp only;omega,by simp only;omega,by simp only;omega⟩⟩,?_,hlt⟩
       (refine Sub.plain ?_;simp only [smF,dg,renL,renLs,simprocAttr,bl,i64,hod,hof])
      ·
       exfalso;omega
     ·
      have hE := (jsg_f1 (a := a) (o := o) (m := m) c3).trans (jsg1_t c1 (.inl c2))
      rw [hE] at hJ hob
      (repeat (first|apply zO (by decide +kernel)|apply zP (by decide +kernel)|(apply zS;(case h=>constructor<;>decide))|((first|apply l_go rfl|apply c_dec|apply zT rfl (by decide) rfl);(case hs=>(simp (disch := first|omega|exact kD rfl|exact kX rfl) only [smY,simprocAttr,bl,i64,hod,hof];exact rfl));first|refine c_bt ?_|refine c_bf ?_|refine zq ?_|(case hg=>assumption))))
      refine ⟨⟨(m % od a,od a,_,f),⟨hJ,by simp only;omega,by simp only;omega,by simp only;omega,by simp only;omega⟩⟩,?_,hlt⟩
      (refine Sub.plain ?_;simp only [smF,dg,renL,renLs,simprocAttr,bl,i64,hod,hof])
    ·by_cases c2' : m % 8 = 5
     ·by_cases c3 : od a % 4 = 3
      ·by_cases c4 : m % 4 = 3
       ·
        exfalso;omega
       ·
        have hE := (jsg_f2 (a := a) (o := o) c4).trans (jsg1_t c1 (.inr c2'))
        rw [hE] at hJ hob
        (repeat (first|apply zO (by decide +kernel)|apply zP (by decide +kernel)|(apply zS;(case h=>constructor<;>decide))|((first|apply l_go rfl|apply c_dec|apply zT rfl (by decide) rfl);(case hs=>(simp (disch := first|omega|exact kD rfl|exact kX rfl) only [smY,simprocAttr,bl,i64,hod,hof];exact rfl));first|refine c_bt ?_|refine c_bf ?_|refine zq ?_|(case hg=>assumption))))
        refine ⟨⟨(m % od a,od a,_,f),⟨hJ,by simp only;omega,by simp only;omega,by simp only;omega,by simp only;omega⟩⟩,?_,hlt⟩
        (refine Sub.plain ?_;simp only [smF,dg,renL,renLs,simprocAttr,bl,i64,hod,hof])
      ·
       have hE := (jsg_f1 (a := a) (o := o) (m := m) c3).trans (jsg1_t c1 (.inr c2'))
       rw [hE] at hJ hob
       (repeat (first|apply zO (by decide +kernel)|apply zP (by decide +kernel)|(apply zS;(case h=>constructor<;>decide))|((first|apply l_go rfl|apply c_dec|apply zT rfl (by decide) rfl);(case hs=>(simp (disch := first|omega|exact kD rfl|exact kX rfl) only [smY,simprocAttr,bl,i64,hod,hof];exact rfl));first|refine c_bt ?_|refine c_bf ?_|refine zq ?_|(case hg=>assumption))))
       refine ⟨⟨(m % od a,od a,_,f),⟨hJ,by simp only;omega,by simp only;omega,by simp only;omega,by simp only;omega⟩⟩,?_,hlt⟩
       (refine Sub.plain ?_;simp only [smF,dg,renL,renLs,simprocAttr,bl,i64,hod,hof])
     ·by_cases c3 : od a % 4 = 3
      ·by_cases c4 : m % 4 = 3
       ·
        have hE := (jsg_t (a := a) (o := o) c3 c4).trans (congrArg (fun z : Int => 0 - z) (jsg1_f2 c2 c2'))
        rw [hE] at hJ hob
        (repeat (first|apply zO (by decide +kernel)|apply zP (by decide +kernel)|(apply zS;(case h=>constructor<;>decide))|((first|apply l_go rfl|apply c_dec|apply zT rfl (by decide) rfl);(case hs=>(simp (disch := first|omega|exact kD rfl|exact kX rfl) only [smY,simprocAttr,bl,i64,hod,hof];exact rfl));first|refine c_bt ?_|refine c_bf ?_|refine zq ?_|(case hg=>assumption))))
        refine ⟨⟨(m % od a,od a,_,f),⟨hJ,by simp only;omega,by simp only;omega,by simp only;omega,by simp only;omega⟩⟩,?_,hlt⟩
        (refine Sub.plain ?_;simp only [smF,dg,renL,renLs,simprocAttr,bl,i64,hod,hof])
       ·
        have hE := (jsg_f2 (a := a) (o := o) c4).trans (jsg1_f2 c2 c2')
        rw [hE] at hJ hob
        (repeat (first|apply zO (by decide +kernel)|apply zP (by decide +kernel)|(apply zS;(case h=>constructor<;>decide))|((first|apply l_go rfl|apply c_dec|apply zT rfl (by decide) rfl);(case hs=>(simp (disch := first|omega|exact kD rfl|exact kX rfl) only [smY,simprocAttr,bl,i64,hod,hof];exact rfl));first|refine c_bt ?_|refine c_bf ?_|refine zq ?_|(case hg=>assumption))))
        refine ⟨⟨(m % od a,od a,_,f),⟨hJ,by simp only;omega,by simp only;omega,by simp only;omega,by simp only;omega⟩⟩,?_,hlt⟩
        (refine Sub.plain ?_;simp only [smF,dg,renL,renLs,simprocAttr,bl,i64,hod,hof])
      ·
       have hE := (jsg_f1 (a := a) (o := o) (m := m) c3).trans (jsg1_f2 c2 c2')
       rw [hE] at hJ hob
       (repeat (first|apply zO (by decide +kernel)|apply zP (by decide +kernel)|(apply zS;(case h=>constructor<;>decide))|((first|apply l_go rfl|apply c_dec|apply zT rfl (by decide) rfl);(case hs=>(simp (disch := first|omega|exact kD rfl|exact kX rfl) only [smY,simprocAttr,bl,i64,hod,hof];exact rfl));first|refine c_bt ?_|refine c_bf ?_|refine zq ?_|(case hg=>assumption))))
       refine ⟨⟨(m % od a,od a,_,f),⟨hJ,by simp only;omega,by simp only;omega,by simp only;omega,by simp only;omega⟩⟩,?_,hlt⟩
       (refine Sub.plain ?_;simp only [smF,dg,renL,renLs,simprocAttr,bl,i64,hod,hof])
   ·by_cases c3 : od a % 4 = 3
    ·by_cases c4 : m % 4 = 3
     ·
      have hE := (jsg_t (a := a) (o := o) c3 c4).trans (congrArg (fun z : Int => 0 - z) (jsg1_f1 c1))
      rw [hE] at hJ hob
      (repeat (first|apply zO (by decide +kernel)|apply zP (by decide +kernel)|(apply zS;(case h=>constructor<;>decide))|((first|apply l_go rfl|apply c_dec|apply zT rfl (by decide) rfl);(case hs=>(simp (disch := first|omega|exact kD rfl|exact kX rfl) only [smY,simprocAttr,bl,i64,hod,hof];exact rfl));first|refine c_bt ?_|refine c_bf ?_|refine zq ?_|(case hg=>assumption))))
      refine ⟨⟨(m % od a,od a,_,f),⟨hJ,by simp only;omega,by simp only;omega,by simp only;omega,by simp only;omega⟩⟩,?_,hlt⟩
      (refine Sub.plain ?_;simp only [smF,dg,renL,renLs,simprocAttr,bl,i64,hod,hof])
     ·
      have hE := (jsg_f2 (a := a) (o := o) c4).trans (jsg1_f1 c1)
      rw [hE] at hJ hob
      (repeat (first|apply zO (by decide +kernel)|apply zP (by decide +kernel)|(apply zS;(case h=>constructor<;>decide))|((first|apply l_go rfl|apply c_dec|apply zT rfl (by decide) rfl);(case hs=>(simp (disch := first|omega|exact kD rfl|exact kX rfl) only [smY,simprocAttr,bl,i64,hod,hof];exact rfl));first|refine c_bt ?_|refine c_bf ?_|refine zq ?_|(case hg=>assumption))))
      refine ⟨⟨(m % od a,od a,_,f),⟨hJ,by simp only;omega,by simp only;omega,by simp only;omega,by simp only;omega⟩⟩,?_,hlt⟩
      (refine Sub.plain ?_;simp only [smF,dg,renL,renLs,simprocAttr,bl,i64,hod,hof])
    ·
     have hE := (jsg_f1 (a := a) (o := o) (m := m) c3).trans (jsg1_f1 c1)
     rw [hE] at hJ hob
     (repeat (first|apply zO (by decide +kernel)|apply zP (by decide +kernel)|(apply zS;(case h=>constructor<;>decide))|((first|apply l_go rfl|apply c_dec|apply zT rfl (by decide) rfl);(case hs=>(simp (disch := first|omega|exact kD rfl|exact kX rfl) only [smY,simprocAttr,bl,i64,hod,hof];exact rfl));first|refine c_bt ?_|refine c_bf ?_|refine zq ?_|(case hg=>assumption))))
     refine ⟨⟨(m % od a,od a,_,f),⟨hJ,by simp only;omega,by simp only;omega,by simp only;omega,by simp only;omega⟩⟩,?_,hlt⟩
     (refine Sub.plain ?_;simp only [smF,dg,renL,renLs,simprocAttr,bl,i64,hod,hof])
theorem krP_0 {d : Int} {n : Nat} (h : tz n = 0) : krP d n = jac 1001 (dm d n) n 1 := by
 rw [krP,beq_yes h];rfl
theorem krP_even {d : Int} {n : Nat} (h : ¬ tz n = 0) (h2 : dm d 2 = 0) : krP d n = 0 := by
 rw [krP,beq_no h,beq_yes h2];rfl
theorem krP_neg {d : Int} {n : Nat} (h : ¬ tz n = 0) (h2 : ¬ dm d 2 = 0) (h3 : tz n % 2 = 1) (h4 : dm d 8 = 3 ∨ dm d 8 = 5) : krP d n = -1 * jac 1001 (dm d (od n)) (od n) 1 := by
 have e2 : (Nat.beq (dm d 8) 3 || Nat.beq (dm d 8) 5) = true := by
  rcases h4 with h | h
  ·rw [beq_yes h];rfl
  ·rw [beq_yes h,Bool.or_true]
 rw [krP,beq_no h,beq_no h2,show Nat.beq (Nat.mod (tz n) 2) 1 = true from beq_yes h3,e2];rfl
theorem krP_pos1 {d : Int} {n : Nat} (h : ¬ tz n = 0) (h2 : ¬ dm d 2 = 0) (h3 : ¬ tz n % 2 = 1) : krP d n = 1 * jac 1001 (dm d (od n)) (od n) 1 := by
 rw [krP,beq_no h,beq_no h2,show Nat.beq (Nat.mod (tz n) 2) 1 = false from beq_no h3];rfl
theorem krP_pos2 {d : Int} {n : Nat} (h : ¬ tz n = 0) (h2 : ¬ dm d 2 = 0) (h3 : ¬ dm d 8 = 3) (h4 : ¬ dm d 8 = 5) : krP d n = 1 * jac 1001 (dm d (od n)) (od n) 1 := by
 rw [krP,beq_no h,beq_no h2,beq_no h3,beq_no h4,Bool.or_false,Bool.and_false];rfl
theorem kronP_good (d : Int) (n : Nat) (hd : -1000 ≤ d ∧ d ≤ 1000) (h1 : 1 ≤ n) (h2 : n ≤ 1000) : PureGood Tryz.prog 19 [i64 d,i64 n] (i64 (krP d n)) := by
 obtain ⟨t1,t2,t3⟩ := tz_le h1 h2
 have hod := od_fdiv n
 have hof := (Int.fdiv_eq_ediv_of_nonneg (n : Int) (b := 2 ^ tz n) (Int.pow_nonneg (by omega))).trans hod
 have rz := tz_good h1 h2
 by_cases c0 : tz n = 0
 ·rw [krP_0 c0]
  have hl := dm_lt d h1
  have r1 := reduced_good d n (by omega) (by omega)
  have r2 := jacobi_good (dm d n) n (by omega) (by omega)
  have jb := jac_bd (f := 1001) (a := dm d n) (m := n) (o := 1) (by omega)
  have e1 : ∀ z : Int,1 * z = z := Int.one_mul
  generalize jac 1001 (dm d n) n 1 = J at *
  generalize dm d n = x at *
  simp only [i64] at *
  refine good_of_lwp mix Tryz.func19 rfl (by decide) (nt := 57) rfl (rs := [.tmp 4]) rfl (nle rfl) ?_
  (repeat (first|apply zO (by decide +kernel)|apply zP (by decide +kernel)|(apply zS;(case h=>constructor<;>decide))|((first|apply l_go rfl|apply c_dec|apply zT rfl (by decide) rfl);(case hs=>(simp (disch := first|omega|exact kD rfl|exact kX rfl) only [smY,simprocAttr,bl,i64,e1];exact rfl));first|refine c_bt ?_|refine c_bf ?_|refine zq ?_|(case hg=>assumption))))
  ((first|apply g_ret|apply g_end);case hres => (simp only [smR];simp (disch := first|omega|exact kD rfl|exact kX rfl) only [smY,simprocAttr,bl,i64,e1];exact rfl))
  simp (disch := first|omega|exact kD rfl|exact kX rfl) only [smY,simprocAttr,bl,i64,e1]
 ·have hm2 := tmod_iff d 2
  have he := dm_eq d (m := 2) (by omega)
  by_cases c1 : dm d 2 = 0
  ·rw [krP_even c0 c1]
   have h3 := hm2.2 (by omega)
   simp only [i64] at *
   refine good_of_lwp mix Tryz.func19 rfl (by decide) (nt := 57) rfl (rs := [.tmp 4]) rfl (nle rfl) ?_
   (repeat (first|apply zO (by decide +kernel)|apply zP (by decide +kernel)|(apply zS;(case h=>constructor<;>decide))|((first|apply l_go rfl|apply c_dec|apply zT rfl (by decide) rfl);(case hs=>(simp (disch := first|omega|exact kD rfl|exact kX rfl) only [smY,simprocAttr,bl,i64,h3];exact rfl));first|refine c_bt ?_|refine c_bf ?_|refine zq ?_|(case hg=>assumption))))
   ((first|apply g_ret|apply g_end);case hres => (simp only [smR];simp (disch := first|omega|exact kD rfl|exact kX rfl) only [smY,simprocAttr,bl,i64,h3];exact rfl))
   simp (disch := first|omega|exact kD rfl|exact kX rfl) only [smY,simprocAttr,bl,i64,h3]
  ·have h3 : ¬ d.tmod 2 = 0 := fun e => c1 (by have := hm2.1 e;omega)
   have hb := tmod_bd d (b := 2) (by omega)
   have hl := dm_lt d t2
   have r0 := residue_good d 8 (by omega) (by omega)
   have r1 := reduced_good d (od n) (by omega) (by omega)
   have r2 := jacobi_good (dm d (od n)) (od n) (by omega) (by omega)
   have jb := jac_bd (f := 1001) (a := dm d (od n)) (m := od n) (o := 1) (by omega)
   by_cases c2 : tz n % 2 = 1
   ·by_cases c3 : dm d 8 = 3
    ·rw [krP_neg c0 c1 c2 (.inl c3)]
     generalize jac 1001 (dm d (od n)) (od n) 1 = J at *
     generalize dm d (od n) = x at *
     generalize dm d 8 = y at *
     simp only [i64] at *
     refine good_of_lwp mix Tryz.func19 rfl (by decide) (nt := 57) rfl (rs := [.tmp 4]) rfl (nle rfl) ?_
     (repeat (first|apply zO (by decide +kernel)|apply zP (by decide +kernel)|(apply zS;(case h=>constructor<;>decide))|((first|apply l_go rfl|apply c_dec|apply zT rfl (by decide) rfl);(case hs=>(simp (disch := first|omega|exact kD rfl|exact kX rfl) only [smY,simprocAttr,bl,i64,hod,hof];exact rfl));first|refine c_bt ?_|refine c_bf ?_|refine zq ?_|(case hg=>assumption))))
     ((first|apply g_ret|apply g_end);case hres => (simp only [smR];simp (disch := first|omega|exact kD rfl|exact kX rfl) only [smY,simprocAttr,bl,i64,hod,hof];exact rfl))
     simp (disch := first|omega|exact kD rfl|exact kX rfl) only [smY,simprocAttr,bl,i64,hod,hof]
    ·by_cases c4 : dm d 8 = 5
     ·rw [krP_neg c0 c1 c2 (.inr c4)]
      generalize jac 1001 (dm d (od n)) (od n) 1 = J at *
      generalize dm d (od n) = x at *
      generalize dm d 8 = y at *
      simp only [i64] at *
      refine good_of_lwp mix Tryz.func19 rfl (by decide) (nt := 57) rfl (rs := [.tmp 4]) rfl (nle rfl) ?_
      (repeat (first|apply zO (by decide +kernel)|apply zP (by decide +kernel)|(apply zS;(case h=>constructor<;>decide))|((first|apply l_go rfl|apply c_dec|apply zT rfl (by decide) rfl);(case hs=>(simp (disch := first|omega|exact kD rfl|exact kX rfl) only [smY,simprocAttr,bl,i64,hod,hof];exact rfl));first|refine c_bt ?_|refine c_bf ?_|refine zq ?_|(case hg=>assumption))))
      ((first|apply g_ret|apply g_end);case hres => (simp only [smR];simp (disch := first|omega|exact kD rfl|exact kX rfl) only [smY,simprocAttr,bl,i64,hod,hof];exact rfl))
      simp (disch := first|omega|exact kD rfl|exact kX rfl) only [smY,simprocAttr,bl,i64,hod,hof]
     ·rw [krP_pos2 c0 c1 c3 c4]
      generalize jac 1001 (dm d (od n)) (od n) 1 = J at *
      generalize dm d (od n) = x at *
      generalize dm d 8 = y at *
      simp only [i64] at *
      refine good_of_lwp mix Tryz.func19 rfl (by decide) (nt := 57) rfl (rs := [.tmp 4]) rfl (nle rfl) ?_
      (repeat (first|apply zO (by decide +kernel)|apply zP (by decide +kernel)|(apply zS;(case h=>constructor<;>decide))|((first|apply l_go rfl|apply c_dec|apply zT rfl (by decide) rfl);(case hs=>(simp (disch := first|omega|exact kD rfl|exact kX rfl) only [smY,simprocAttr,bl,i64,hod,hof];exact rfl));first|refine c_bt ?_|refine c_bf ?_|refine zq ?_|(case hg=>assumption))))
      ((first|apply g_ret|apply g_end);case hres => (simp only [smR];simp (disch := first|omega|exact kD rfl|exact kX rfl) only [smY,simprocAttr,bl,i64,hod,hof];exact rfl))
      simp (disch := first|omega|exact kD rfl|exact kX rfl) only [smY,simprocAttr,bl,i64,hod,hof]
   ·rw [krP_pos1 c0 c1 c2]
    generalize jac 1001 (dm d (od n)) (od n) 1 = J at *
    generalize dm d (od n) = x at *
    generalize dm d 8 = y at *
    simp only [i64] at *
    refine good_of_lwp mix Tryz.func19 rfl (by decide) (nt := 57) rfl (rs := [.tmp 4]) rfl (nle rfl) ?_
    (repeat (first|apply zO (by decide +kernel)|apply zP (by decide +kernel)|(apply zS;(case h=>constructor<;>decide))|((first|apply l_go rfl|apply c_dec|apply zT rfl (by decide) rfl);(case hs=>(simp (disch := first|omega|exact kD rfl|exact kX rfl) only [smY,simprocAttr,bl,i64,hod,hof];exact rfl));first|refine c_bt ?_|refine c_bf ?_|refine zq ?_|(case hg=>assumption))))
    ((first|apply g_ret|apply g_end);case hres => (simp only [smR];simp (disch := first|omega|exact kD rfl|exact kX rfl) only [smY,simprocAttr,bl,i64,hod,hof];exact rfl))
    simp (disch := first|omega|exact kD rfl|exact kX rfl) only [smY,simprocAttr,bl,i64,hod,hof]
end Go.Proofs.YteecamhdbilmoaaGreatDoor
namespace Go.Lg
open Go
end Go.Lg
namespace Go.Num
end Go.Num
namespace Go.Lg
open Go Go.Num
end Go.Lg
namespace Go.Proofs.YteecamhdbilmoaaGreatDoor
open Go Go.Lg Go.Num
set_option maxRecDepth 100000
set_option maxHeartbeats 4000000
attribute [local irreducible] Go.Lg.lrun Go.Lg.lwp Go.Lg.exThen Go.Lg.exBlk Go.Lg.keep Go.Lg.goodPost tz od jac dm
end Go.Proofs.YteecamhdbilmoaaGreatDoor
namespace Go.Num
def svS (d : Nat → Nat) (x : Nat → Int) (n : Nat) (j : Nat) : Int := if n % d j = 0 then x j else 0
def sv (d : Nat → Nat) (x : Nat → Int) (k n : Nat) : Int := psum (svS d x n) k
def dc (c : List Int) (j : Nat) : Int := ((j + 1 : Nat) : Int) * c.getD j 0
def sS (c : List Int) (n : Nat) : Int := sv (fun j => j + 1) (dc c) c.length n
def qs (s : Nat → Int) (a : Nat → Rat) (n : Nat) : Nat → Rat
 | 0 => 0
 | i + 1 => qs s a n i + (s (i + 1) : Rat) * a (n - 1 - i)
structure ProdOk (c : List Int) (a : Nat → Rat) : Prop where
 len : c.length ≤ 999
 cs : ∀ x ∈ c,-4800 ≤ x ∧ x ≤ 4800
 a0 : a 0 = 1
 step : ∀ n,1 ≤ n → n ≤ c.length → a n = -(qs (sS c) a n n) / ((n : Int) : Rat)
 ba : ∀ n,n ≤ c.length → lq (a n) ≤ 1000
 bq : ∀ n i,1 ≤ n → n ≤ c.length → i ≤ n → lq (qs (sS c) a n i) ≤ 1000
theorem len_at {z : Int} {e : Nat} (h : z.natAbs < 4294967296 ^ e) : len z ≤ e := length_digs_le h
end Go.Num
namespace Go.Num
theorem range_getD {α : Type} {f : Nat → α} {N i : Nat} {z : α} (h : i < N) : ((List.range N).map f).getD i z = f i := by simp [List.getD,h]
def aP (a : Nat → Rat) (m : Nat) : List Rat := (List.range m).map a
theorem aP_len (a : Nat → Rat) (m : Nat) : (aP a m).length = m := by simp [aP]
theorem aP_succ (a : Nat → Rat) (m : Nat) : aP a (m + 1) = aP a m ++ [a m] := by simp [aP,List.range_succ]
theorem aP_get {a : Nat → Rat} {m i : Nat} (h : i < m) : (aP a m).getD i 0 = a i := range_getD h
end Go.Num
namespace Go.Num
def horQ (f : List Rat) (x : Rat) : Rat := f.foldr (fun c acc => acc * x + c) 0
def horI (f : List Int) (x : Rat) : Rat := f.foldr (fun (c : Int) (acc : Rat) => acc * x + (c : Rat)) 0
theorem horI_cons (c : Int) (f : List Int) (x : Rat) : horI (c :: f) x = horI f x * x + (c : Rat) := rfl
theorem horQ_scale (L : Int) (x : Rat) : ∀ l : List Int,horQ (l.map fun u => Rat.divInt u L) x = horI l x * (L : Rat)⁻¹
 | [] => by
   show (0 : Rat) = 0 * _
   rw [Rat.zero_mul]
 | u :: l => by
   show horQ (l.map fun u => Rat.divInt u L) x * x + Rat.divInt u L = _
   rw [horQ_scale L x l,horI_cons,Rat.divInt_eq_div,Rat.div_def]
   generalize (L : Rat)⁻¹ = s
   grind
def ipB (n : Nat) : List Int := List.zipWith (fun (c : Nat) (u : Int) => (c : Int) * u) (prow n) (bU.take (n + 1)).reverse
theorem prow_length (n : Nat) : (prow n).length = n + 1 := by
 have h1 := prow_get n n
 have h2 := prow_get n (n + 1)
 rw [if_pos (Nat.le_refl _)] at h1
 rw [if_neg (by omega)] at h2
 obtain ⟨h3,_⟩ := List.getElem?_eq_some_iff.1 h1
 have := List.getElem?_eq_none_iff.1 h2
 omega
def bpL (n : Nat) : List Rat := (List.range (n + 1)).map fun j => ((ch n j : Int) : Rat) * bq (n - j)
theorem bpL_eq {n : Nat} (hn : n ≤ 60) : bpL n = (ipB n).map fun u => Rat.divInt u bL := by
 have hU : bU.length = 61 := rfl
 apply List.ext_getElem?
 intro j
 rw [bpL,List.getElem?_map,List.getElem?_map,ipB,List.getElem?_zipWith,prow_get]
 by_cases hj : j ≤ n
 ·rw [if_pos hj,List.getElem?_range (by omega),List.getElem?_reverse (by rw [List.length_take,hU];omega),List.length_take,hU,Nat.min_eq_left (by omega),List.getElem?_take,if_pos (by omega)]
  have e : bU[n + 1 - 1 - j]? = some (bU.getD (n - j) 0) := by
   rw [show n + 1 - 1 - j = n - j by omega]
   simp [show n - j < bU.length by omega]
  rw [e]
  simp only [Option.map_some]
  congr 1
  rw [bq,Rat.divInt_eq_div,Rat.divInt_eq_div,Rat.intCast_mul,Rat.div_def,Rat.div_def,Rat.mul_assoc]
 ·rw [if_neg hj,List.getElem?_eq_none (by simp;omega)]
  rfl
end Go.Num
namespace Go.Num
theorem ipB_small : ((List.range 42).all fun n => (ipB n).all fun u => Nat.ble (u.natAbs + 1) (2 ^ 255)) = true := by decide +kernel
theorem ipB_len {n : Nat} (hn : n ≤ 41) : ∀ u ∈ ipB n,len u ≤ 8 := by
 intro u hu
 have h := List.all_eq_true.1 (List.all_eq_true.1 ipB_small n (List.mem_range.2 (by omega))) u hu
 exact len_pow_lt (e := 8) (Nat.lt_of_lt_of_le (Nat.le_of_ble_eq_true h) (Nat.pow_le_pow_right (by omega) (by omega)))
theorem form_step {H D a d c : Rat} (hD : D ≠ 0) (hd : d ≠ 0) : H / D * (a / d) + c = (H * a + c * (D * d)) / (D * d) := by
 rw [Rat.div_def,Rat.div_def,Rat.div_def]
 have h1 : D * D⁻¹ = 1 := Rat.mul_inv_cancel _ hD
 have h2 : d * d⁻¹ = 1 := Rat.mul_inv_cancel _ hd
 have h3 : (D * d) * (D * d)⁻¹ = 1 := Rat.mul_inv_cancel _ (fun e => by
  rcases Rat.mul_eq_zero.1 e with h | h
  ·exact hD h
  ·exact hd h)
 have h4 : (D * d)⁻¹ = D⁻¹ * d⁻¹ := by
  generalize (D * d)⁻¹ = t at *
  generalize D⁻¹ = u at *
  generalize d⁻¹ = v at *
  grind
 rw [h4]
 generalize D⁻¹ = u at *
 generalize d⁻¹ = v at *
 grind
theorem horI_form {A C : Nat} {x : Rat} (h1 : len x.num ≤ A) (h2 : len (x.den : Int) ≤ A) : ∀ l : List Int,(∀ u ∈ l,len u ≤ C) → ∃ H : Int,horI l x = Rat.divInt H ((x.den : Int) ^ l.length) ∧ len H ≤ C + l.length * (A + 1) + 1
 | [],_ => ⟨0,by rw [Rat.zero_divInt];rfl,by rw [show len 0 = 0 by simp [len,digs_zero]];omega⟩
 | c :: f,hC => by
   obtain ⟨H,e,hH⟩ := horI_form h1 h2 f (fun u hu => hC u (by simp [hu]))
   have hc := hC c (by simp)
   refine ⟨H * x.num + c * ((x.den : Int) ^ f.length * (x.den : Int)),?_,?_⟩
   · rw [horI_cons,e]
     have hd : ((x.den : Int) : Rat) ≠ 0 := by
       intro h
       have : (x.den : Int) = 0 := by exact_mod_cast h
       have := x.den_nz
       omega
     have hD : (((x.den : Int) ^ f.length : Int) : Rat) ≠ 0 := by
       intro h
       have h5 : (x.den : Int) ^ f.length = 0 := by exact_mod_cast h
       have h6 : (x.den : Int) ≠ 0 := by have := x.den_nz;omega
       exact Int.pow_ne_zero h6 h5
     conv => lhs;arg 1;arg 2;rw [← Rat.num_divInt_den x]
     rw [List.length_cons,Int.pow_succ,Rat.divInt_eq_div,Rat.divInt_eq_div,Rat.divInt_eq_div,Rat.intCast_add,Rat.intCast_mul,Rat.intCast_mul,Rat.intCast_mul]
     exact form_step hD hd
   · have l1 := len_add (H * x.num) (c * ((x.den : Int) ^ f.length * (x.den : Int)))
     have l2 := len_mul H x.num
     have l3 := len_mul c ((x.den : Int) ^ f.length * (x.den : Int))
     have l4 := len_mul ((x.den : Int) ^ f.length) (x.den : Int)
     have l5 := len_pow (x.den : Int) f.length
     have l6 : f.length * len (x.den : Int) ≤ f.length * A := Nat.mul_le_mul_left _ h2
     rw [List.length_cons,Nat.succ_mul]
     rw [Nat.mul_add,Nat.mul_one] at hH ⊢
     omega
theorem lq_horI {A C : Nat} {x : Rat} (hx : lq x ≤ A) (l : List Int) (hC : ∀ u ∈ l,len u ≤ C) : lq (horI l x) ≤ C + l.length * (A + 1) + 1 + (l.length * A + 1) := by
 unfold lq at hx
 obtain ⟨H,e,hH⟩ := horI_form (A := A) (C := C) (x := x) (by omega) (by omega) l hC
 have hd : (x.den : Int) ^ l.length ≠ 0 := Int.pow_ne_zero (by have := x.den_nz;omega)
 obtain ⟨a1,a2⟩ := lq_divInt (n := H) hd
 have l5 := len_pow (x.den : Int) l.length
 have l6 : l.length * len (x.den : Int) ≤ l.length * A := Nat.mul_le_mul_left _ (by omega)
 rw [e]
 unfold lq
 omega
theorem lq_bLinv : lq ((bL : Rat)⁻¹) ≤ 10 := by decide +kernel
theorem lq_horB {A n k : Nat} {x : Rat} (hx : lq x ≤ A) (hA : A ≤ 1000) (hn : n ≤ 41) : lq (horQ ((bpL n).drop k) x) ≤ 100000 := by
 rw [bpL_eq (by omega),← List.map_drop,horQ_scale]
 have h1 := lq_horI hx ((ipB n).drop k) (C := 8) (fun u hu => ipB_len hn u (List.mem_of_mem_drop hu))
 have h2 := lq_mul (horI ((ipB n).drop k) x) ((bL : Rat)⁻¹)
 have h3 := lq_bLinv
 have hl : ((ipB n).drop k).length ≤ 42 := by
  have : (ipB n).length ≤ 42 := by
   rw [ipB,List.length_zipWith,prow_length]
   omega
  rw [List.length_drop]
  omega
 have h4 : ((ipB n).drop k).length * (A + 1) ≤ 42 * 1001 := Nat.mul_le_mul hl (by omega)
 have h5 : ((ipB n).drop k).length * A ≤ 42 * 1000 := Nat.mul_le_mul hl hA
 omega
end Go.Num
namespace Go.Num
theorem len_two {z : Int} {a e : Nat} (hz : z.natAbs ≤ 2 ^ a) (h : a < 32 * e) : len z ≤ e :=
 len_pow_lt (Nat.lt_of_le_of_lt hz (Nat.pow_lt_pow_right (by omega) h))
end Go.Num
namespace Go.Num
theorem lq_powQ (q : Rat) (n : Nat) : lq (q ^ n) ≤ n * lq q + 2 := by
 unfold lq
 rw [Rat.num_pow,Rat.den_pow,Int.natCast_pow,Nat.mul_add]
 have h1 := len_pow q.num n
 have h2 := len_pow (q.den : Int) n
 omega
theorem horI_form' {A C : Nat} {a d : Int} (hd0 : d ≠ 0) (h1 : len a ≤ A) (h2 : len d ≤ A) : ∀ l : List Int,(∀ u ∈ l,len u ≤ C) → ∃ H : Int,horI l (Rat.divInt a d) = Rat.divInt H (d ^ l.length) ∧ len H ≤ C + l.length * (A + 1) + 1
 | [],_ => ⟨0,by rw [Rat.zero_divInt];rfl,by rw [show len 0 = 0 by simp [len,digs_zero]];omega⟩
 | c :: f,hC => by
   obtain ⟨H,e,hH⟩ := horI_form' hd0 h1 h2 f (fun u hu => hC u (by simp [hu]))
   have hc := hC c (by simp)
   refine ⟨H * a + c * (d ^ f.length * d),?_,?_⟩
   · rw [horI_cons,e]
     have hd : (d : Rat) ≠ 0 := by
       intro h
       exact hd0 (by exact_mod_cast h)
     have hD : ((d ^ f.length : Int) : Rat) ≠ 0 := by
       intro h
       have h5 : d ^ f.length = 0 := by exact_mod_cast h
       exact Int.pow_ne_zero hd0 h5
     rw [List.length_cons,Int.pow_succ,Rat.divInt_eq_div,Rat.divInt_eq_div,Rat.divInt_eq_div,Rat.intCast_add,Rat.intCast_mul,Rat.intCast_mul,Rat.intCast_mul]
     exact form_step hD hd
   · have l1 := len_add (H * a) (c * (d ^ f.length * d))
     have l2 := len_mul H a
     have l3 := len_mul c (d ^ f.length * d)
     have l4 := len_mul (d ^ f.length) d
     have l5 := len_pow d f.length
     have l6 : f.length * len d ≤ f.length * A := Nat.mul_le_mul_left _ h2
     rw [List.length_cons,Nat.succ_mul]
     rw [Nat.mul_add,Nat.mul_one] at hH ⊢
     omega
def trm (k f j : Nat) : Rat := ((f : Int) : Rat) ^ (k - 1) * horQ (bpL k) (Rat.divInt ((j + 1 : Nat) : Int) (f : Int))
def trmD (k f : Nat) : Int := (f : Int) ^ (k + 1) * bL
theorem ipB_length {k : Nat} (hk : k ≤ 60) : (ipB k).length = k + 1 := by
 have hU : bU.length = 61 := rfl
 rw [ipB,List.length_zipWith,prow_length,List.length_reverse,List.length_take,hU]
 omega
theorem trm_form {k f j : Nat} (hk : k ≤ 40) (hf : 1 ≤ f) (hf2 : f ≤ 60) (hj : j < f) : ∃ H : Int,trm k f j = Rat.divInt H (trmD k f) ∧ len H ≤ 200 := by
 have la : len ((j + 1 : Nat) : Int) ≤ 1 := len_pow_lt (e := 1) (by omega)
 have lf : len (f : Int) ≤ 1 := len_pow_lt (e := 1) (by omega)
 obtain ⟨H,e,hH⟩ := horI_form' (A := 1) (C := 8) (a := ((j + 1 : Nat) : Int)) (d := (f : Int)) (by omega) la lf (ipB k) (fun u hu => ipB_len (by omega) u hu)
 rw [ipB_length (by omega)] at e hH
 refine ⟨(f : Int) ^ (k - 1) * H,?_,?_⟩
 ·rw [trm,trmD,bpL_eq (by omega),horQ_scale,e,Rat.divInt_eq_div,Rat.divInt_eq_div,Rat.div_def,Rat.div_def,Rat.intCast_mul,Rat.intCast_mul,Rat.intCast_pow,Rat.inv_mul_rev,Rat.mul_assoc,Rat.mul_assoc]
  congr 2
  all_goals (first | exact (Rat.intCast_pow _ _).symm | exact Rat.mul_comm _ _ | trace_state)
 ·have l1 := len_mul ((f : Int) ^ (k - 1)) H
  have l2 := len_pow (f : Int) (k - 1)
  have l3 : (k - 1) * len (f : Int) ≤ (k - 1) * 1 := Nat.mul_le_mul_left _ lf
  omega
theorem trmD_ne {k f : Nat} (hf : 1 ≤ f) : trmD k f ≠ 0 := Int.mul_ne_zero (Int.pow_ne_zero (by omega)) bL_ne
theorem len_trmD {k f : Nat} (hk : k ≤ 40) (hf2 : f ≤ 60) : len (trmD k f) ≤ 60 := by
 have lf : len (f : Int) ≤ 1 := len_pow_lt (e := 1) (by omega)
 have l1 := len_mul ((f : Int) ^ (k + 1)) bL
 have l2 := len_pow (f : Int) (k + 1)
 have l3 : (k + 1) * len (f : Int) ≤ (k + 1) * 1 := Nat.mul_le_mul_left _ lf
 have := bL_len
 rw [trmD]
 omega
theorem lq_trm {k f j : Nat} (hk : k ≤ 40) (hf : 1 ≤ f) (hf2 : f ≤ 60) (hj : j < f) : lq (trm k f j) ≤ 300 := by
 obtain ⟨H,e,hH⟩ := trm_form hk hf hf2 hj
 have h1 := lq_divInt (n := H) (trmD_ne (k := k) hf)
 have h2 := len_trmD hk hf2
 rw [e]
 unfold lq
 omega
def qsum (c : Nat → Int) (k f : Nat) : Nat → Rat
 | 0 => 0
 | n + 1 => qsum c k f n + (c n : Rat) * trm k f n
theorem qsum_zero (c : Nat → Int) (k f : Nat) : qsum c k f 0 = 0 := rfl
theorem qsum_succ (c : Nat → Int) (k f n : Nat) : qsum c k f (n + 1) = qsum c k f n + (c n : Rat) * trm k f n := rfl
theorem len_sgn {c : Int} (hc : c = 1 ∨ c = 0 ∨ c = -1) (H : Int) : len (c * H) ≤ len H := by
 rcases hc with rfl | rfl | rfl
 ·rw [Int.one_mul];exact Nat.le_refl _
 ·rw [Int.zero_mul,show len 0 = 0 by simp [len,digs_zero]];omega
 ·rw [Int.neg_mul,Int.one_mul,len_neg];exact Nat.le_refl _
theorem qsum_form {c : Nat → Int} {k f : Nat} (hc : ∀ j,j < f → c j = 1 ∨ c j = 0 ∨ c j = -1) (hk : k ≤ 40) (hf : 1 ≤ f) (hf2 : f ≤ 60) : ∀ n,n ≤ f → ∃ N : Int,qsum c k f n = Rat.divInt N (trmD k f) ∧ len N ≤ 200 + n
 | 0,_ => ⟨0,by rw [Rat.zero_divInt];rfl,by rw [show len 0 = 0 by simp [len,digs_zero]];omega⟩
 | n + 1,h => by
   obtain ⟨N,e,hN⟩ := qsum_form hc hk hf hf2 n (by omega)
   obtain ⟨H,e2,hH⟩ := trm_form hk hf hf2 (j := n) (by omega)
   have l1 := len_add N (c n * H)
   have l2 := len_sgn (hc n (by omega)) H
   exact ⟨N + c n * H,by rw [qsum_succ,e,e2,divInt_lin],by omega⟩
theorem lq_qsum {c : Nat → Int} {k f : Nat} (hc : ∀ j,j < f → c j = 1 ∨ c j = 0 ∨ c j = -1) (hk : k ≤ 40) (hf : 1 ≤ f) (hf2 : f ≤ 60) {n : Nat} (hn : n ≤ f) : lq (qsum c k f n) ≤ 400 := by
 obtain ⟨N,e,hN⟩ := qsum_form hc hk hf hf2 n hn
 have h1 := lq_divInt (n := N) (trmD_ne (k := k) hf)
 have h2 := len_trmD hk hf2
 rw [e]
 unfold lq
 omega
def smd (k f n : Nat) : List Rat := (List.range n).map (trm k f)
theorem smd_length (k f n : Nat) : (smd k f n).length = n := by simp [smd]
theorem smd_succ (k f n : Nat) : smd k f (n + 1) = smd k f n ++ [trm k f n] := by simp [smd,List.range_succ]
theorem smd_getD {k f n j : Nat} (h : j < n) : (smd k f n).getD j 0 = trm k f j := by simp [smd,h]
end Go.Num
namespace Go.Num
theorem kr_val {d : Int} (hd : d ∈ fdL) {n : Nat} (h1 : 1 ≤ n) (h2 : n ≤ 1000) : krP d n = kr d n ∧ (kr d n = 1 ∨ kr d n = 0 ∨ kr d n = -1) := by
 have h := all1_ok (kk_all d hd) h1 h2
 rw [chkK,Bool.and_eq_true] at h
 exact ⟨eqS_ok h.1,okS_ok h.2⟩
theorem fd_rng {d : Int} (hd : d ∈ fdL) : d ≠ 0 ∧ -60 ≤ d ∧ d ≤ 60 := by
 have key : (fdL.all fun d => decide (d ≠ 0 ∧ -60 ≤ d ∧ d ≤ 60)) = true := by decide +kernel
 exact of_decide_eq_true (List.all_eq_true.1 key d hd)
def chi (d1 d2 : Int) (n j : Nat) : Int := kr d1 (n / j) * kr d2 j
theorem chi_val {d1 d2 : Int} (h1 : d1 ∈ fdL) (h2 : d2 ∈ fdL) {n j : Nat} (hn : n ≤ 1000) (hj : 1 ≤ j) (hjn : j ≤ n) : chi d1 d2 n j = 1 ∨ chi d1 d2 n j = 0 ∨ chi d1 d2 n j = -1 := by
 have hq1 : 1 ≤ n / j := Nat.div_pos hjn (by omega)
 have hq2 : n / j ≤ n := Nat.div_le_self _ _
 have a1 := (kr_val h1 hq1 (by omega)).2
 have a2 := (kr_val h2 hj (by omega)).2
 unfold chi
 rcases a1 with e | e | e <;> rcases a2 with e' | e' | e' <;> rw [e,e'] <;> decide
def twS (k : Nat) (d1 d2 : Int) (n j : Nat) : Int := if n % (j + 1) = 0 then chi d1 d2 n (j + 1) * ((j + 1 : Nat) : Int) ^ k else 0
def twP (k : Nat) (d1 d2 : Int) (n j : Nat) : Int := psum (twS k d1 d2 n) j
def tw (k : Nat) (d1 d2 : Int) (n : Nat) : Int := twP k d1 d2 n n
theorem twP_zero (k : Nat) (d1 d2 : Int) (n : Nat) : twP k d1 d2 n 0 = 0 := rfl
theorem twP_succ (k : Nat) (d1 d2 : Int) (n j : Nat) : twP k d1 d2 n (j + 1) = twP k d1 d2 n j + (if n % (j + 1) = 0 then chi d1 d2 n (j + 1) * ((j + 1 : Nat) : Int) ^ k else 0) := rfl
theorem twP_no {k : Nat} {d1 d2 : Int} {n j : Nat} (h : ¬ n % (j + 1) = 0) : twP k d1 d2 n (j + 1) = twP k d1 d2 n j := by rw [twP_succ,if_neg h,Int.add_zero]
theorem twP_pos {k : Nat} {d1 d2 : Int} {n j : Nat} (h : n % (j + 1) = 0) (hc : chi d1 d2 n (j + 1) = 1) : twP k d1 d2 n (j + 1) = twP k d1 d2 n j + ((j + 1 : Nat) : Int) ^ k := by rw [twP_succ,if_pos h,hc,Int.one_mul]
theorem twP_zer {k : Nat} {d1 d2 : Int} {n j : Nat} (h : n % (j + 1) = 0) (hc : chi d1 d2 n (j + 1) = 0) : twP k d1 d2 n (j + 1) = twP k d1 d2 n j := by rw [twP_succ,if_pos h,hc,Int.zero_mul,Int.add_zero]
theorem twP_neg {k : Nat} {d1 d2 : Int} {n j : Nat} (h : n % (j + 1) = 0) (hc : chi d1 d2 n (j + 1) = -1) : twP k d1 d2 n (j + 1) = twP k d1 d2 n j - ((j + 1 : Nat) : Int) ^ k := by rw [twP_succ,if_pos h,hc,Int.neg_mul,Int.one_mul];omega
theorem pow_k {d k : Nat} (hd : d ≤ 1000) (hk : k ≤ 40) : d ^ k ≤ 4294967296 ^ 13 :=
 Nat.le_trans (Nat.le_trans (Nat.pow_le_pow_left hd k) (Nat.pow_le_pow_right (by omega) hk)) (by decide +kernel)
theorem len_dk' {d k : Nat} (hd : d ≤ 1000) (hk : k ≤ 40) : len (((d : Nat) : Int) ^ k) ≤ 14 := by
 refine len_at (e := 14) ?_
 rw [Int.natAbs_pow,Int.natAbs_natCast]
 exact Nat.lt_of_le_of_lt (pow_k hd hk) (by decide +kernel)
theorem twP_abs {k : Nat} {d1 d2 : Int} (h1 : d1 ∈ fdL) (h2 : d2 ∈ fdL) {n : Nat} (hn : n ≤ 1000) (hk : k ≤ 40) : ∀ j,j ≤ n → (twP k d1 d2 n j).natAbs ≤ j * 4294967296 ^ 13
 | 0,_ => by rw [twP_zero];simp
 | j + 1,h => by
   have ih := twP_abs h1 h2 hn hk j (by omega)
   have hp := pow_k (d := j + 1) (k := k) (by omega) hk
   have hpa : (((j + 1 : Nat) : Int) ^ k).natAbs = (j + 1) ^ k := by rw [Int.natAbs_pow,Int.natAbs_natCast]
   rw [Nat.succ_mul]
   generalize 4294967296 ^ 13 = B at *
   generalize ((j + 1 : Nat) : Int) ^ k = p at *
   by_cases hd : n % (j + 1) = 0
   · have hv := chi_val h1 h2 hn (j := j + 1) (by omega) h
     rw [twP_succ,if_pos hd]
     have : (chi d1 d2 n (j + 1) * ((j + 1 : Nat) : Int) ^ k).natAbs ≤ (j + 1) ^ k := by
       rw [Int.natAbs_mul,Int.natAbs_pow,Int.natAbs_natCast]
       rcases hv with e | e | e <;> rw [e] <;> simp
     refine Nat.le_trans (Int.natAbs_add_le _ _) (Nat.add_le_add ih (Nat.le_trans this hp))
   · rw [twP_no hd]
     omega
theorem len_twP {k : Nat} {d1 d2 : Int} (h1 : d1 ∈ fdL) (h2 : d2 ∈ fdL) {n j : Nat} (hn : n ≤ 1000) (hk : k ≤ 40) (hj : j ≤ n) : len (twP k d1 d2 n j) ≤ 14 := by
 refine len_at (e := 14) ?_
 exact Nat.lt_of_le_of_lt (Nat.le_trans (twP_abs h1 h2 hn hk j hj) (Nat.mul_le_mul_right _ (by omega : j ≤ 1000))) (by decide +kernel)
def gB (k : Nat) (d : Int) : Rat := qsum (fun j => kr d (j + 1)) k d.natAbs d.natAbs
def eK (k : Nat) (d1 d2 : Int) (m : Nat) : Rat := if m = 0 then (if d1 = 1 then gB k d2 / (((-2 * (k : Int) : Int)) : Rat) else 0) else ((tw (k - 1) d1 d2 m : Int) : Rat)
theorem eK_zero1 (k : Nat) (d2 : Int) : eK k 1 d2 0 = gB k d2 / (((-2 * (k : Int) : Int)) : Rat) := by rw [eK,if_pos rfl,if_pos rfl]
theorem eK_zero0 {k : Nat} {d1 d2 : Int} (h : d1 ≠ 1) : eK k d1 d2 0 = 0 := by rw [eK,if_pos rfl,if_neg h]
theorem eK_pos {k : Nat} {d1 d2 : Int} {m : Nat} (h : m ≠ 0) : eK k d1 d2 m = ((tw (k - 1) d1 d2 m : Int) : Rat) := by rw [eK,if_neg h]
theorem lq_gB {k : Nat} (hk : k ≤ 40) {d : Int} (hd : d ∈ fdL) : lq (gB k d) ≤ 400 := by
 obtain ⟨a,b,c⟩ := fd_rng hd
 refine lq_qsum (fun j hj => (kr_val hd (by omega) (by omega)).2) hk (by omega) (by omega) (Nat.le_refl _)
def ordF (a : Nat → Rat) : Nat → Nat → Nat
 | 0,i => i
 | f + 1,i => if a i = 0 then ordF a f (i + 1) else i
def ordN (a : Nat → Rat) (N : Nat) : Nat := ordF a N 0
theorem ordF_spec (a : Nat → Rat) : ∀ f i,i ≤ ordF a f i ∧ ordF a f i ≤ i + f ∧ (∀ j,i ≤ j → j < ordF a f i → a j = 0) ∧ (ordF a f i < i + f → a (ordF a f i) ≠ 0)
 | 0,i => ⟨Nat.le_refl _,Nat.le_refl _,fun j h1 h2 => by simp only [ordF] at h2;omega,fun h => by simp only [ordF] at h;omega⟩
 | f + 1,i => by
   unfold ordF
   by_cases h : a i = 0
   · rw [if_pos h]
     obtain ⟨h1,h2,h3,h4⟩ := ordF_spec a f (i + 1)
     refine ⟨by omega,by omega,fun j a1 a2 => ?_,fun h5 => h4 (by omega)⟩
     by_cases e : j = i
     · rw [e];exact h
     · exact h3 j (by omega) a2
   · rw [if_neg h]
     exact ⟨Nat.le_refl _,by omega,fun j a1 a2 => by omega,fun _ => h⟩
theorem ordN_spec (a : Nat → Rat) (N : Nat) : ordN a N ≤ N ∧ (∀ j,j < ordN a N → a j = 0) ∧ (ordN a N < N → a (ordN a N) ≠ 0) := by
 obtain ⟨_,h2,h3,h4⟩ := ordF_spec a N 0
 exact ⟨by unfold ordN;omega,fun j hj => h3 j (by omega) hj,fun h => h4 (by unfold ordN at h;omega)⟩
theorem ordN_eq {a : Nat → Rat} {N o : Nat} (h1 : o ≤ N) (h2 : ∀ j,j < o → a j = 0) (h3 : o < N → a o ≠ 0) : ordN a N = o := by
 obtain ⟨a1,a2,a3⟩ := ordN_spec a N
 by_cases h : ordN a N < o
 ·exact absurd (h2 _ h) (a3 (by omega))
 ·by_cases h' : o < ordN a N
  ·exact absurd (a2 _ h') (h3 (by omega))
  ·omega
end Go.Num
namespace Go.Num
def isS (z : Int) : Prop := z = 1 ∨ z = 0 ∨ z = -1
theorem isS_mul {a b : Int} (ha : isS a) (hb : isS b) : isS (a * b) := by
 rcases ha with e | e | e <;> rcases hb with e' | e' | e' <;> rw [e,e'] <;> unfold isS <;> decide
theorem isS_bd {a : Int} (h : isS a) : -1 ≤ a ∧ a ≤ 1 := by rcases h with e | e | e <;> omega
end Go.Num
namespace Go.Proofs.YteecamhdbilmoaaGreatDoor
open Go Go.Lg Go.Num
set_option maxRecDepth 100000
set_option maxHeartbeats 4000000
attribute [local irreducible] Go.Lg.lrun Go.Lg.lwp Go.Lg.exThen Go.Lg.exBlk Go.Lg.keep Go.Lg.goodPost tz od jac dm kr two
theorem kron_good (d : Int) (hd : d ∈ fdL) (n : Nat) (h1 : 1 ≤ n) (h2 : n ≤ 1000) : PureGood Tryz.prog 19 [i64 d,i64 n] (i64 (kr d n)) := by
 have hrng := fd_rng hd
 rw [← (kr_val hd h1 h2).1]
 exact kronP_good d n (by omega) h1 h2
end Go.Proofs.YteecamhdbilmoaaGreatDoor
namespace Go.Proofs.YteecamhdbilmoaaGreatDoor
open Go Go.Lg Go.Num
set_option maxRecDepth 100000
noncomputable def chkDQ (d : Int) : Bool := match evl 107 [i64 d] with
 | some (.tup [.agg [.lit (.int .i64 _),.sl _ _],.lit (.int .i64 (.ofNat e))]) => Nat.beq e 0
 | _ => false
theorem dq_a : (fdL.take 10).all chkDQ = true := by kernel_rfl
theorem dq_b : ((fdL.drop 10).take 10).all chkDQ = true := by kernel_rfl
theorem dq_c : ((fdL.drop 20).take 10).all chkDQ = true := by kernel_rfl
theorem dq_d : (fdL.drop 30).all chkDQ = true := by kernel_rfl
theorem dq_all {d : Int} (hd : d ∈ fdL) : chkDQ d = true := by
 have e : fdL = fdL.take 10 ++ ((fdL.drop 10).take 10 ++ ((fdL.drop 20).take 10 ++ fdL.drop 30)) := rfl
 rw [e] at hd
 simp only [List.mem_append] at hd
 rcases hd with h | h | h | h
 ·exact List.all_eq_true.1 dq_a d h
 ·exact List.all_eq_true.1 dq_b d h
 ·exact List.all_eq_true.1 dq_c d h
 ·exact List.all_eq_true.1 dq_d d h
theorem dquad_ok {d : Int} (hd : d ∈ fdL) : ∃ m n cs,PureGood Tryz.prog 107 [i64 d] (.tup [.agg [.lit (.int .i64 m),.sl n cs],i64 0]) := by
 have h := dq_all hd
 unfold chkDQ at h
 split at h
 ·rename_i m n cs e h1
  have e1 := Nat.eq_of_beq_eq_true h
  subst e1
  exact ⟨_,_,_,evl_good h1⟩
 ·cases h
noncomputable def chkFd (d : Int) : Bool := match evl 49 [i64 d],evl 31 [i64 d] with
 | some (.lit (.bool a)),some (.lit (.bool b)) => (a == fdL.contains d) && (b == fdL.contains d)
 | _,_ => false
noncomputable def chkFi (b : Nat) (i : Nat) : Bool := chkFd (Int.sub (Int.ofNat (Nat.add b i)) 60)
theorem fd_a : (List.range 31).all (chkFi 0) = true := by kernel_rfl
theorem fd_b : (List.range 30).all (chkFi 31) = true := by kernel_rfl
theorem fd_c : (List.range 30).all (chkFi 61) = true := by kernel_rfl
theorem fd_d : (List.range 30).all (chkFi 91) = true := by kernel_rfl
theorem fd_all {d : Int} (h1 : -60 ≤ d) (h2 : d ≤ 60) : chkFd d = true := by
 have key : ∀ b i : Nat,d = ((b + i : Nat) : Int) - 60 → chkFi b i = true → chkFd d = true := by
  intro b i e h
  rw [e]
  exact h
 by_cases a1 : d ≤ -30
 ·exact key 0 (d + 60).toNat (by omega) (List.all_eq_true.1 fd_a _ (List.mem_range.2 (by omega)))
 ·by_cases a2 : d ≤ 0
  ·exact key 31 (d + 29).toNat (by omega) (List.all_eq_true.1 fd_b _ (List.mem_range.2 (by omega)))
  ·by_cases a3 : d ≤ 30
   ·exact key 61 (d - 1).toNat (by omega) (List.all_eq_true.1 fd_c _ (List.mem_range.2 (by omega)))
   ·exact key 91 (d - 31).toNat (by omega) (List.all_eq_true.1 fd_d _ (List.mem_range.2 (by omega)))
theorem fd_in {d : Int} (h1 : -60 ≤ d) (h2 : d ≤ 60) : PureGood Tryz.prog 49 [i64 d] (bl (fdL.contains d)) ∧ PureGood Tryz.prog 31 [i64 d] (bl (fdL.contains d)) := by
 have h := fd_all h1 h2
 unfold chkFd at h
 split at h
 ·rename_i a b e1 e2
  rw [Bool.and_eq_true] at h
  have := eq_of_beq h.1
  subst this
  have := eq_of_beq h.2
  subst this
  exact ⟨evl_good e1,evl_good e2⟩
 ·cases h
end Go.Proofs.YteecamhdbilmoaaGreatDoor
namespace Go.Num
theorem lq_div (a b : Rat) (hb : b ≠ 0) : lq (a / b) ≤ lq a + lq b := by
 rw [div_divInt]
 have hn : b.num ≠ 0 := fun e => hb (by rw [← Rat.num_divInt_den b,e,Rat.zero_divInt])
 obtain ⟨h1,h2⟩ := lq_divInt (n := a.num * (b.den : Int)) (Int.mul_ne_zero (den_ne a) hn)
 have h4 := len_mul a.num (b.den : Int)
 have h6 := len_mul (a.den : Int) b.num
 unfold lq
 omega
theorem lq_sub (a b : Rat) : lq (a - b) ≤ lq a + lq b + lq a + lq b + 1 := by
 rw [Rat.sub_eq_add_neg]
 have := lq_add a (-b)
 rw [lq_neg] at this
 exact this
end Go.Num
namespace Go.Proofs.YteecamhdbilmoaaGreatDoor
open Go Go.Lg Go.Num
set_option maxRecDepth 100000
set_option maxHeartbeats 4000000
attribute [local irreducible] Go.Lg.lrun Go.Lg.lwp Go.Lg.exThen Go.Lg.exBlk Go.Lg.keep Go.Lg.goodPost
attribute [local irreducible] sg mg
theorem lq_i64 {z : Int} (h : -9223372036854775808 ≤ z ∧ z ≤ 9223372036854775808) : lq (z : Rat) ≤ 3 := by
 have h3 : len z ≤ 2 := len_pow_lt (e := 2) (by omega)
 rw [lq_int]
 omega
theorem rqsame_good (p q : Rat) (hp : lq p ≤ 1099511627776) (hq : lq q ≤ 1099511627776) : PureGood Tryz.prog 27 [encQ p,encQ q] (bl (decide (p = q))) := by
 unfold lq at hp hq
 have h1 := rsame_good p.num q.num (by omega) (by omega)
 have h2 := rsame_good p.den q.den (by omega) (by omega)
 have he : p = q ↔ p.num = q.num ∧ (p.den : Int) = q.den := ⟨fun e => by subst e;exact ⟨rfl,rfl⟩,fun e => Rat.ext e.1 (by omega)⟩
 simp only [encI_sm,encQ_sm,he,bl] at *
 clear he
 generalize (p.den : Int) = dp at *
 generalize (q.den : Int) = dq at *
 generalize p.num = np at *
 generalize q.num = nq at *
 by_cases h3 : np = nq
 ·have h3' : decide (np = nq) = true := by simpa using h3
  rw [h3'] at h1
  simp only [h3,true_and] at *
  refine good_of_lwp mix Tryz.func27 rfl (by decide) (nt := 17) rfl (rs := [.tmp 4]) rfl (nle rfl) ?_
  (repeat (first|apply zO (by decide +kernel)|apply zP (by decide +kernel)|(apply zS;(case h=>constructor<;>decide))|((first|apply l_go rfl|apply c_dec|apply zT rfl (by decide) rfl);(case hs=>(simp (disch := first|omega|exact kD rfl|exact kX rfl) only [smY,simprocAttr,bl,i64,smT];exact rfl));first|refine c_bt ?_|refine c_bf ?_|refine zq ?_|(case hg=>assumption))))
  ((first|apply g_ret|apply g_end);case hres => (simp only [smR];simp (disch := first|omega|exact kD rfl|exact kX rfl) only [smY,simprocAttr,bl,i64,smT];exact rfl))
  simp (disch := first|omega|exact kD rfl|exact kX rfl) only [smY,simprocAttr,bl,i64,smT]
 ·have h3' : decide (np = nq) = false := by simpa using h3
  rw [h3'] at h1
  simp only [h3,false_and,decide_false] at *
  refine good_of_lwp mix Tryz.func27 rfl (by decide) (nt := 17) rfl (rs := [.tmp 4]) rfl (nle rfl) ?_
  (repeat (first|apply zO (by decide +kernel)|apply zP (by decide +kernel)|(apply zS;(case h=>constructor<;>decide))|((first|apply l_go rfl|apply c_dec|apply zT rfl (by decide) rfl);(case hs=>(simp (disch := first|omega|exact kD rfl|exact kX rfl) only [smY,simprocAttr,bl,i64,smT];exact rfl));first|refine c_bt ?_|refine c_bf ?_|refine zq ?_|(case hg=>assumption))))
  refine l_cskip rfl (by decide) rfl ?_
  (repeat (first|apply zO (by decide +kernel)|apply zP (by decide +kernel)|(apply zS;(case h=>constructor<;>decide))|((first|apply l_go rfl|apply c_dec|apply zT rfl (by decide) rfl);(case hs=>(simp (disch := first|omega|exact kD rfl|exact kX rfl) only [smY,simprocAttr,bl,i64,smT];exact rfl));first|refine c_bt ?_|refine c_bf ?_|refine zq ?_|(case hg=>assumption))))
  ((first|apply g_ret|apply g_end);case hres => (simp only [smR];simp (disch := first|omega|exact kD rfl|exact kX rfl) only [smY,simprocAttr,bl,i64,smT];exact rfl))
  simp (disch := first|omega|exact kD rfl|exact kX rfl) only [smY,simprocAttr,bl,i64,smT]
end Go.Proofs.YteecamhdbilmoaaGreatDoor
namespace Go.Lg
open Go
theorem mk_pos3 {α : Type} {j : Int} {n m k l : Nat} {x y : α} (h : 0 ≤ j ∧ n ≤ m ∧ k ≤ l) : (if 0 ≤ j ∧ n ≤ m ∧ k ≤ l then x else y) = x := if_pos h
theorem cyc_snoc (a b c d : LV) (n : Nat) : cyc [a,b,c,d] (n * 4 + 4) = cyc [a,b,c,d] (n * 4) ++ [a,b,c,d] := by
 unfold cyc
 have e0 : n * 4 % 4 = 0 := by omega
 have e1 : (n * 4 + 1) % 4 = 1 := by omega
 have e2 : (n * 4 + 2) % 4 = 2 := by omega
 have e3 : (n * 4 + 3) % 4 = 3 := by omega
 rw [List.range_succ,List.range_succ,List.range_succ,List.range_succ]
 simp only [List.map_append,List.map_cons,List.map_nil,List.length_cons,List.length_nil,Nat.zero_add,Nat.reduceAdd,e0,e1,e2,e3,List.append_assoc,List.cons_append,List.nil_append]
 rfl
end Go.Lg
namespace Go.Proofs.YteecamhdbilmoaaGreatDoor
open Go Go.Lg Go.Num
set_option maxRecDepth 100000
set_option maxHeartbeats 4000000
def oqc : Option Rat → List LV
 | none => [.lit (.bool false),.lit (.slice none 0 0),.lit (.bool false),.lit (.slice none 0 0)]
 | some q => qcells q
def oc (l : List (Option Rat)) : List LV := l.flatMap oqc
theorem oqc_none : oqc none = [.lit (.bool false),.lit (.slice none 0 0),.lit (.bool false),.lit (.slice none 0 0)] := rfl
theorem oqc_some (q : Rat) : oqc (some q) = [sg (q).num,mg (q).num,sg ((q).den : Int),mg ((q).den : Int)] := qcells_sm q
theorem oqc_len (o : Option Rat) : (oqc o).length = 4 := by cases o <;> rfl
theorem oc_len (l : List (Option Rat)) : (oc l).length = l.length * 4 := by induction l with
 | nil => rfl
 | cons a l ih => rw [oc,List.flatMap_cons,List.length_append,oqc_len];rw [oc] at ih;rw [ih,List.length_cons];omega
theorem oc_split : ∀ {l : List (Option Rat)} {j : Nat},j < l.length → ∃ a b,oc l = a ++ oqc (l.getD j none) ++ b ∧ a.length = j * 4 ∧ ∀ o,oc (l.set j o) = a ++ oqc o ++ b
 | [],j,h => by simp at h
 | x :: l,0,_ => ⟨[],oc l,by simp [oc],rfl,fun o => by simp [oc]⟩
 | x :: l,j + 1,h => by
   obtain ⟨a,b,h1,h2,h3⟩ := oc_split (l := l) (j := j) (by simpa using h)
   refine ⟨oqc x ++ a,b,?_,?_,fun o => ?_⟩
   · show oqc x ++ oc l = _
     rw [h1];simp
   · rw [List.length_append,oqc_len,h2];omega
   · show oqc x ++ oc (l.set j o) = _
     rw [h3];simp
theorem oc_td {l : List (Option Rat)} {j : Nat} (h : j < l.length) : ((oc l).drop (j * 4)).take 4 = oqc (l.getD j none) := by
 obtain ⟨a,b,h1,h2,_⟩ := oc_split h
 rw [h1,← h2,List.append_assoc,List.drop_left,← oqc_len (l.getD j none),List.take_left]
theorem oc_set {l : List (Option Rat)} {j : Nat} (h : j < l.length) (q : Rat) : (oc l).take (j * 4) ++ [sg (q).num,mg (q).num,sg ((q).den : Int),mg ((q).den : Int)] ++ (oc l).drop (j * 4 + 4) = oc (l.set j (some q)) := by
 obtain ⟨a,b,h1,h2,h3⟩ := oc_split h
 rw [h3,← oqc_some,h1,← h2]
 have e : a.length + 4 = (a ++ oqc (l.getD j none)).length := by rw [List.length_append,oqc_len]
 rw [e,List.drop_left,List.append_assoc a (oqc (l.getD j none)) b,List.take_left]
theorem oc_zeros : ∀ n,cyc [.lit (.bool false),.lit (.slice none 0 0),.lit (.bool false),.lit (.slice none 0 0)] (n * 4) = oc (List.replicate n none)
 | 0 => by rw [Nat.zero_mul,cyc_0];rfl
 | n + 1 => by
   rw [Nat.add_mul,Nat.one_mul,cyc_snoc,oc_zeros n,List.replicate_succ',oc,oc,List.flatMap_append]
   rfl
attribute [local irreducible] sg mg
theorem oqc_plain (o : Option Rat) : ∀ c ∈ oqc o,plainC c = true := by
 cases o with
 | none => intro c hc;simp [oqc] at hc;rcases hc with rfl | rfl | rfl | rfl <;> rfl
 | some q =>
   rw [oqc_some]
   intro c hc
   simp only [List.mem_cons,List.not_mem_nil,or_false] at hc
   rcases hc with rfl | rfl | rfl | rfl
   · exact s9 _
   · exact s10 _
   · exact s9 _
   · exact s10 _
theorem oc_plain' (l : List (Option Rat)) : ∀ c ∈ oc l,plainC c = true := by
 intro c hc
 simp only [oc,List.mem_flatMap] at hc
 obtain ⟨o,_,ho⟩ := hc
 exact oqc_plain o c ho
theorem oc_plain (l : List (Option Rat)) : (∀ c ∈ oc l,plainC c = true) = True := eq_true (oc_plain' l)
theorem ren_oc {nb : Nat} {ρ : Nat → Nat} (l : List (Option Rat)) : renLs nb ρ (oc l) = some (oc l) := rens_plain (oc_plain' l)
def mC (a : Nat → Rat) (N i : Nat) : List LV := if i = 0 then oc (List.replicate N none) else qc (aP a i)
theorem mC_zero (a : Nat → Rat) (N : Nat) : oc (List.replicate N none) = mC a N 0 := rfl
theorem mC_take (a : Nat → Rat) (N i : Nat) : (mC a N i).take (i * 4) = qc (aP a i) := by
 unfold mC
 split
 ·rename_i h;subst h;rw [Nat.zero_mul,List.take_zero];rfl
 ·exact qc_take (by rw [aP_len])
theorem mC_len (a : Nat → Rat) (N i : Nat) : i * 4 ≤ (mC a N i).length := by
 unfold mC
 split
 ·rename_i h;subst h;omega
 ·rw [qc_len,aP_len];exact Nat.le_refl _
theorem mC_le {α : Type} {a : Nat → Rat} {N i k l m n : Nat} {x y : α} (h : k ≤ l ∧ m ≤ n) : (if i * 4 ≤ (mC a N i).length ∧ k ≤ l ∧ m ≤ n then x else y) = x := if_pos ⟨mC_len a N i,h⟩
theorem mC_ge {α : Type} {a : Nat → Rat} {N i : Nat} {x y : α} : (if i * 4 ≤ (mC a N i).length then x else y) = x := if_pos (mC_len a N i)
theorem mC_succ {a : Nat → Rat} {N i : Nat} {q : Rat} (h : a i = q) : qc (aP a i) ++ [sg (q).num,mg (q).num,sg ((q).den : Int),mg ((q).den : Int)] = mC a N (i + 1) := by
 subst h
 rw [mC,if_neg (by omega),qc_app,← aP_succ]
theorem mC_plain' (a : Nat → Rat) (N i : Nat) : ∀ c ∈ mC a N i,plainC c = true := by
 unfold mC
 split
 ·exact oc_plain' _
 ·exact qc_all s9 s10 _
theorem mC_plain (a : Nat → Rat) (N i : Nat) : (∀ c ∈ mC a N i,plainC c = true) = True := eq_true (mC_plain' a N i)
theorem ren_mC {nb : Nat} {ρ : Nat → Nat} (a : Nat → Rat) (N i : Nat) : renLs nb ρ (mC a N i) = some (mC a N i) := rens_plain (mC_plain' a N i)
def smM := And.intro mC_take (And.intro @mC_le (And.intro @mC_ge (And.intro mC_plain @ren_mC)))
def nV (b m : Nat) : LV := if m = 0 then nilL else .own b 0 m 4
theorem nV_zero (b : Nat) : nV b 0 = nilL := rfl
theorem nV_of {b m : Nat} (h : m = 0) : nV b m = nilL := if_pos h
theorem nV_ne {b m : Nat} (h : m ≠ 0) : nV b m = .own b 0 m 4 := if_neg h
theorem nV_succ (b m : Nat) : nV b (m + 1) = .own b 0 (m + 1) 4 := rfl
def nB (b m : Nat) (cs : List LV) : List (Nat × Blk) := if m = 0 then [] else [(b,⟨45,cs,false⟩)]
theorem nB_of {b m : Nat} {cs : List LV} (h : m = 0) : nB b m cs = [] := if_pos h
theorem nB_ne {b m : Nat} {cs : List LV} (h : m ≠ 0) : nB b m cs = [(b,⟨45,cs,false⟩)] := if_neg h
theorem nB_zero (b : Nat) (cs : List LV) : nB b 0 cs = [] := rfl
theorem nB_succ (b m : Nat) (cs : List LV) : nB b (m + 1) cs = [(b,⟨45,cs,false⟩)] := rfl
theorem lenL_mg (s : LS) (z : Int) : lenL s (mg z) = some (digs z.natAbs).length := by with_unfolding_all rfl
def smO := And.intro oc_len (And.intro @oc_td (And.intro oqc_none (And.intro oqc_some (And.intro oc_zeros (And.intro oc_plain (And.intro @ren_oc @mk_pos3))))))
end Go.Proofs.YteecamhdbilmoaaGreatDoor
namespace Go.Num
end Go.Num
namespace Go.Proofs.YteecamhdbilmoaaGreatDoor
open Go Go.Lg Go.Num
set_option maxRecDepth 100000
set_option maxHeartbeats 4000000
attribute [local irreducible] Go.Lg.lrun Go.Lg.lwp Go.Lg.exThen Go.Lg.exBlk Go.Lg.keep Go.Lg.goodPost sg mg bq
theorem lq_small {m : Int} (h0 : 0 ≤ m) (h : m ≤ 100000) : lq (m : Rat) ≤ 2 := by
 rw [lq_int]
 have := len_pow_lt (a := m) (e := 1) (by omega)
 omega
end Go.Proofs.YteecamhdbilmoaaGreatDoor
namespace Go.Proofs.YteecamhdbilmoaaGreatDoor
open Go Go.Lg Go.Num
set_option maxRecDepth 100000
set_option maxHeartbeats 4000000
attribute [local irreducible] Go.Lg.lrun Go.Lg.lwp Go.Lg.exThen Go.Lg.exBlk Go.Lg.keep Go.Lg.goodPost sg mg bq
def bp (n k : Nat) : List Rat := (List.range k).map fun j => ((ch n j : Int) : Rat) * bq (n - j)
theorem bp_length (n k : Nat) : (bp n k).length = k := by simp [bp]
theorem bp_succ (n k : Nat) : bp n (k + 1) = bp n k ++ [((ch n k : Int) : Rat) * bq (n - k)] := by simp [bp,List.range_succ]
theorem lq_bpc {n : Nat} (hn : n ≤ 60) (j : Nat) : lq (((ch n j : Int) : Rat) * bq (n - j)) ≤ 30 := by
 have c1 := len_ch (show n ≤ 100 by omega) j
 have c3 := lq_bq (n - j)
 have c4 := lq_mul ((ch n j : Int) : Rat) (bq (n - j))
 have c5 := lq_int (ch n j : Int)
 omega
theorem bp_small {n : Nat} (hn : n ≤ 60) (k : Nat) : ∀ c ∈ bp n k,lq c ≤ 30 := by
 intro c hc
 simp only [bp,List.mem_map] at hc
 obtain ⟨j,_,rfl⟩ := hc
 exact lq_bpc hn j
def trimQ (f : List Rat) : List Rat := (f.reverse.dropWhile (· == 0)).reverse
theorem trimQ_snoc_nz (f : List Rat) {c : Rat} (h : c ≠ 0) : trimQ (f ++ [c]) = f ++ [c] := by
 simp [trimQ,h]
theorem trimQ_snoc_z (f : List Rat) : trimQ (f ++ [0]) = trimQ f := by
 simp [trimQ]
theorem trimQ_nil : trimQ [] = [] := rfl
theorem snoc_of {f : List Rat} (h : 0 < f.length) : f = f.take (f.length - 1) ++ [f.getD (f.length - 1) 0] := by
 have h1 : f.getD (f.length - 1) 0 = f[f.length - 1] := by simp [show f.length - 1 < f.length by omega]
 rw [h1,List.take_append_getElem (by omega),show f.length - 1 + 1 = f.length by omega,List.take_length]
theorem num_z (q : Rat) : q.num = 0 ↔ q = 0 := Rat.num_eq_zero
theorem qc_h1 {l : List Rat} {j : Nat} (h : j < l.length) : ((qc l).drop (j * 4 + 1)).head? = some (mg (l.getD j 0).num) := by
 rw [← List.drop_drop,qc_drop,List.drop_eq_getElem_cons h]
 have : l.getD j 0 = l[j] := by simp [h]
 rw [this]
 simp only [qc,List.flatMap_cons,qcells_sm]
 simp
theorem qc_takes (l : List Rat) (k : Nat) : (qc l).take (k * 4) = qc (l.take k) := by
 by_cases h : k ≤ l.length
 ·conv => lhs;rw [← List.take_append_drop k l]
  rw [qc,List.flatMap_append]
  rw [List.take_append_of_le_length (by have := qc_len (l.take k);rw [qc] at this;rw [this,List.length_take];omega),List.take_of_length_le (by have := qc_len (l.take k);rw [qc] at this;rw [this,List.length_take];omega)]
  rfl
 ·rw [List.take_of_length_le (by rw [qc_len];omega),List.take_of_length_le (by omega)]
theorem qtrim_good (f : List Rat) (hl : f.length ≤ 1000000000) : PureGood Tryz.prog 170 [encF f] (encF (trimQ f)) := by
 rw [encF_qc]
 refine good_of_lwp mix Tryz.func170 rfl (by decide) (nt := 24) rfl (rs := [.tmp 2]) rfl (nle rfl) ?_
 (repeat (first|apply zO (by decide +kernel)|apply zP (by decide +kernel)|(apply zS;(case h=>constructor<;>decide))|((first|apply l_go rfl|apply c_dec|apply zT rfl (by decide) rfl);(case hs=>(simp (disch := first|omega|exact kD rfl|exact kX rfl) only [smY,simprocAttr,bl,i64,smT];exact rfl));first|refine c_bt ?_|refine c_bf ?_|refine zq ?_|(case hg=>assumption))))
 refine w_loop (α := {g : List Rat // trimQ g = trimQ f ∧ g.length ≤ f.length}) (fun g => st 24 (lk [(0,.sl g.1.length (qc g.1)),(2,nilL)]) (lkH []) 0) (fun g => g.1.length) ⟨f,rfl,Nat.le_refl _⟩ ?_ ?_
 ·(refine Sub.plain ?_;simp only [smF,dg,renL,renLs,simprocAttr,bl,i64,smT])
 ·rintro ⟨g,hg,hgl⟩
  simp only [st]
  by_cases h0 : 0 < g.length
  ·have hg' := snoc_of h0
   have hh := qc_h1 (l := g) (j := g.length - 1) (by omega)
   by_cases hz : g.getD (g.length - 1) 0 = 0
   ·have hd : (digs 0).length = 0 := by simp [digs_zero]
    rw [hz,show (0 : Rat).num = 0 from rfl] at hh
    (repeat (first|apply zO (by decide +kernel)|apply zP (by decide +kernel)|(apply zS;(case h=>constructor<;>decide))|((first|apply l_go rfl|apply c_dec|apply zT rfl (by decide) rfl);(case hs=>(simp (disch := first|omega|exact kD rfl|exact kX rfl) only [smY,simprocAttr,bl,i64,smT,lenL_mg,hh,Int.natAbs_zero];exact rfl));first|refine c_bt ?_|refine c_bf ?_|refine zq ?_|(case hg=>assumption))))
    rw [hz] at hg'
    have hg2 : trimQ (g.take (g.length - 1)) = trimQ f := by rw [← hg,hg',trimQ_snoc_z,← hg']
    have hgl2 : (g.take (g.length - 1)).length = g.length - 1 := by rw [List.length_take];omega
    refine ⟨⟨g.take (g.length - 1),hg2,by omega⟩,?_,by simp only;omega⟩
    simp only [hgl2,← qc_takes]
    (refine Sub.plain ?_;simp only [smF,dg,renL,renLs,simprocAttr,bl,i64,smT])
   ·have hzn : (g.getD (g.length - 1) 0).num ≠ 0 := fun e => hz ((num_z _).1 e)
    have hd : (digs (g.getD (g.length - 1) 0).num.natAbs).length ≠ 0 := fun e => hzn (by have := digs_eq_nil.1 (List.eq_nil_of_length_eq_zero e);omega)
    have hfin : trimQ g = g := by
     conv => lhs;rw [hg']
     rw [trimQ_snoc_nz _ hz,← hg']
    rw [← hg,hfin,encF_qc]
    generalize (g.getD (g.length - 1) 0).num = z at *
    (repeat (first|apply zO (by decide +kernel)|apply zP (by decide +kernel)|(apply zS;(case h=>constructor<;>decide))|((first|apply l_go rfl|apply c_dec|apply zT rfl (by decide) rfl);(case hs=>(simp (disch := first|omega|exact kD rfl|exact kX rfl) only [smY,simprocAttr,bl,i64,smT,lenL_mg,hh];exact rfl));first|refine c_bt ?_|refine c_bf ?_|refine zq ?_|(case hg=>assumption))))
    ((first|apply g_ret|apply g_end);case hres => (simp only [smR];simp (disch := first|omega|exact kD rfl|exact kX rfl) only [smY,simprocAttr,bl,i64,smT];exact rfl))
    simp (disch := first|omega|exact kD rfl|exact kX rfl) only [smY,simprocAttr,bl,i64,smT]
  ·have : g = [] := List.length_eq_zero_iff.1 (by omega)
   subst this
   rw [trimQ_nil] at hg
   rw [← hg]
   (repeat (first|apply zO (by decide +kernel)|apply zP (by decide +kernel)|(apply zS;(case h=>constructor<;>decide))|((first|apply l_go rfl|apply c_dec|apply zT rfl (by decide) rfl);(case hs=>(simp (disch := first|omega|exact kD rfl|exact kX rfl) only [smY,simprocAttr,bl,i64,smT];exact rfl));first|refine c_bt ?_|refine c_bf ?_|refine zq ?_|(case hg=>assumption))))
   ((first|apply g_ret|apply g_end);case hres => (simp only [smR];simp (disch := first|omega|exact kD rfl|exact kX rfl) only [smY,simprocAttr,bl,i64,smT];exact rfl))
   simp (disch := first|omega|exact kD rfl|exact kX rfl) only [smY,simprocAttr,bl,i64,smT]
   rfl
theorem cyc_length (z : List LV) (n : Nat) : (cyc z n).length = n := by simp [cyc]
def z4 : List LV := [bl false,.lit (.slice none 0 0),bl false,.lit (.slice none 0 0)]
def fillC (f : List Rat) (k : Nat) : List LV := qc (f.take k) ++ (cyc z4 (f.length * 4)).drop (k * 4)
theorem fillC_zero (f : List Rat) : fillC f 0 = cyc z4 (f.length * 4) := by simp [fillC,qc]
theorem fillC_all (f : List Rat) : fillC f f.length = qc f := by
 rw [fillC,List.take_length,List.drop_of_length_le (by rw [cyc_length];omega),List.append_nil]
theorem fillC_len {f : List Rat} {k : Nat} (h : k ≤ f.length) : (fillC f k).length = f.length * 4 := by
 rw [fillC,List.length_append,qc_len,List.length_take,List.length_drop,cyc_length]
 omega
theorem fillC_step {f : List Rat} {k : Nat} (h : k < f.length) {c : Rat} (hc : f.getD k 0 = c) : (fillC f k).take (k * 4) ++ [sg c.num,mg c.num,sg (c.den : Int),mg (c.den : Int)] ++ (fillC f k).drop (k * 4 + 4) = fillC f (k + 1) := by
 have e1 : (qc (f.take k)).length = k * 4 := by rw [qc_len,List.length_take];omega
 have e2 : f.take (k + 1) = f.take k ++ [c] := by
  rw [List.take_succ_eq_append_getElem h]
  have : f.getD k 0 = f[k] := by simp [h]
  rw [← this,hc]
 rw [fillC,List.take_append_of_le_length (by omega),List.take_of_length_le (by omega),List.drop_append,List.drop_of_length_le (by omega),e1,List.nil_append,List.drop_drop,fillC,e2,← qc_app,show k * 4 + 4 - k * 4 = 4 by omega,show k * 4 + 4 = (k + 1) * 4 by omega]
theorem fillC_plain (f : List Rat) (k : Nat) : ∀ c ∈ fillC f k,plainC c = true := by
 intro c hc
 rcases List.mem_append.1 hc with h | h
 ·exact qc_all (Q := fun c => plainC c = true) s9 s10 _ c h
 ·have h1 := List.mem_of_mem_drop h
  simp only [cyc,List.mem_map,List.mem_range] at h1
  obtain ⟨i,_,rfl⟩ := h1
  have : i % z4.length < 4 := Nat.mod_lt _ (by decide)
  generalize i % z4.length = j at *
  match j,this with
  | 0,_ => rfl
  | 1,_ => rfl
  | 2,_ => rfl
  | 3,_ => rfl
theorem qpnorm_good (f : List Rat) (hl : f.length ≤ 100000000) (hf : ∀ c ∈ f,lq c ≤ 100000) : PureGood Tryz.prog 155 [encF f] (encF (trimQ f)) := by
 have ht := qtrim_good f (by omega)
 rw [encF_qc] at *
 refine good_of_lwp mix Tryz.func155 rfl (by decide) (nt := 24) rfl (rs := [.tmp 2]) rfl (nle rfl) ?_
 (repeat (first|apply zO (by decide +kernel)|apply zP (by decide +kernel)|(apply zS;(case h=>constructor<;>decide))|((first|apply l_go rfl|apply c_dec|apply zT rfl (by decide) rfl);(case hs=>(simp (disch := first|omega|exact kD rfl|exact kX rfl) only [smY,simprocAttr,bl,i64,smT];exact rfl));first|refine c_bt ?_|refine c_bf ?_|refine zq ?_|(case hg=>assumption))))
 refine w_loop (α := {k : Nat // k ≤ f.length}) (fun k => st 24 (lk [(0,.sl f.length (qc f)),(2,nilL),(3,.own 0 0 f.length 4),(9,.sl f.length (qc f)),(10,i64 f.length),(11,i64 k.1)]) (lkH [(0,⟨45,fillC f k.1,false⟩)]) 1) (fun k => f.length - k.1) ⟨0,by omega⟩ ?_ ?_
 ·(refine Sub.heap1 3 ?_ (by simp only [smF,dg,renL,renLs,simprocAttr,bl,i64,smT];exact rfl) ?_ ?_;all_goals (first | exact dgs_plain _ | with_reducible rfl | (simp only [smF,dg,renL,renLs,simprocAttr,bl,i64,smT];done) | (simp only [smF,dg,renL,renLs,simprocAttr,bl,i64,smT]) | skip))
  ·rw [fillC_zero];rfl
  ·exact fillC_plain _ _
 ·rintro ⟨k,hk⟩
  simp only [st]
  by_cases h : k < f.length
  ·have hm : lq (f.getD k 0) ≤ 100000 := by
    have : f.getD k 0 = f[k] := by simp [h]
    rw [this]
    exact hf _ (List.getElem_mem _)
   have hn := qnorm_good (f.getD k 0) (by omega)
   have hfl := fillC_len hk
   generalize hc : f.getD k 0 = c at *
   have hst := fillC_step h hc
   rw [encQ_sm] at hn
   generalize fillC f k = L at *
   (repeat (first|apply zO (by decide +kernel)|apply zP (by decide +kernel)|(apply zS;(case h=>constructor<;>decide))|((first|apply l_go rfl|apply c_dec|apply zT rfl (by decide) rfl);(case hs=>(simp (disch := first|omega|exact kD rfl|exact kX rfl) only [smY,simprocAttr,bl,i64,smT,hc];exact rfl));first|refine c_bt ?_|refine c_bf ?_|refine zq ?_|(case hg=>assumption))))
   refine ⟨⟨k + 1,by omega⟩,?_,by simp only;omega⟩
   (refine Sub.heap1 0 ?_ (by simp only [smF,dg,renL,renLs,simprocAttr,bl,i64,smT];exact rfl) ?_ ?_;all_goals (first | exact dgs_plain _ | with_reducible rfl | (simp only [smF,dg,renL,renLs,simprocAttr,bl,i64,smT];done) | (simp only [smF,dg,renL,renLs,simprocAttr,bl,i64,smT]) | skip))
   ·exact hst
   ·exact fillC_plain _ _
  ·obtain rfl : k = f.length := by omega
   rw [fillC_all]
   (repeat (first|apply zO (by decide +kernel)|apply zP (by decide +kernel)|(apply zS;(case h=>constructor<;>decide))|((first|apply l_go rfl|apply c_dec|apply zT rfl (by decide) rfl);(case hs=>(simp (disch := first|omega|exact kD rfl|exact kX rfl) only [smY,simprocAttr,bl,i64,smT];exact rfl));first|refine c_bt ?_|refine c_bf ?_|refine zq ?_|(case hg=>assumption))))
   ((first|apply g_ret|apply g_end);case hres => (simp only [smR];simp (disch := first|omega|exact kD rfl|exact kX rfl) only [smY,simprocAttr,bl,i64,smT];exact rfl))
   simp (disch := first|omega|exact kD rfl|exact kX rfl) only [smY,simprocAttr,bl,i64,smT]
   rfl
theorem bp_trim (m : Nat) : trimQ (bp m (m + 1)) = bp m (m + 1) := by
 rw [bp_succ,trimQ_snoc_nz]
 rw [Nat.sub_self,ch_self,bq0]
 decide +kernel
theorem polynomial_good (m : Nat) (hm : m ≤ 60) : PureGood Tryz.prog 138 [i64 m] (encF (bp m (m + 1))) := by
 have hn := qpnorm_good (bp m (m + 1)) (by rw [bp_length];omega) (fun c hc => by have := bp_small hm (m + 1) c hc;omega)
 rw [bp_trim,encF_qc,bp_length] at hn
 rw [encF_qc,bp_length]
 have g1 := numbers_good m (by omega)
 have g2 := row_good m (by omega)
 have hl := bn_length (m + 1)
 have hl2 := rowP_length m (m + 1)
 rw [encF_qc,bn_length] at g1
 rw [encL,rowP_length] at g2
 simp only [i64] at g1 g2 ⊢
 have step : ∀ k : Nat, k ≤ m → PureGood Tryz.prog 73 [encI (ch m k)] (encQ ((ch m k : Int) : Rat)) ∧ PureGood Tryz.prog 70 [encQ ((ch m k : Int) : Rat), encQ (bq (m - k))] (encQ (((ch m k : Int) : Rat) * bq (m - k))) ∧
   (rowP m (m + 1)).getD k 0 = (ch m k : Int) ∧ (bn (m + 1)).getD (m - k) 0 = bq (m - k) := by
  intro k hk
  have c1 := len_ch (show m ≤ 100 by omega) k
  have c3 := lq_bq (m - k)
  have c5 := lq_int (ch m k : Int)
  exact ⟨whole_good (ch m k) (by omega),qmul_good ((ch m k : Int) : Rat) (bq (m - k)) (by omega) (by omega),rowP_getD (by omega),bn_getD (by omega)⟩
 have b1 : bp m 1 = [((ch m 0 : Int) : Rat) * bq m] := rfl
 obtain ⟨w1,w2,e1,e2⟩ := step 0 (by omega)
 rw [Nat.sub_zero] at w2 e2
 have hs0 : ((m : Int) - 0).toNat = m := by omega
 generalize ((ch m 0 : Int) : Rat) * bq m = c0 at *
 simp only [encI_sm,encQ_sm] at w1 w2
 refine good_of_lwp mix Tryz.func138 rfl (by decide) (nt := 33) rfl (rs := [.tmp 2]) rfl (nle rfl) ?_
 (repeat (first|apply zO (by decide +kernel)|apply zP (by decide +kernel)|(apply zS;(case h=>constructor<;>decide))|((first|apply l_go rfl|apply c_dec|apply zT rfl (by decide) rfl);(case hs=>(simp (disch := first|omega|exact kD rfl|exact kX rfl) only [smY,simprocAttr,bl,i64,smT];exact rfl));first|refine c_bt ?_|refine c_bf ?_|refine zq ?_|(case hg=>assumption))))
 refine loop_more (s' := ?_) (fun Φ hΦ => ?_) ?_
 rotate_left
 ·(repeat (first|apply zO (by decide +kernel)|apply zP (by decide +kernel)|(apply zS;(case h=>constructor<;>decide))|((first|apply l_go rfl|apply c_dec|apply zT rfl (by decide) rfl);(case hs=>(simp (disch := first|omega|exact kD rfl|exact kX rfl) only [smY,simprocAttr,bl,i64,smT,e1,e2,hs0];exact rfl));first|refine c_bt ?_|refine c_bf ?_|refine zq ?_|(case hg=>assumption))))
  exact hΦ
 refine w_loop (α := {k : Nat // 0 < k ∧ k ≤ m + 1}) (fun k => st 33 (lk [(0,i64 m),(2,nilL),(3,.sl (m + 1) (qc (bn (m + 1)))),(4,.sl (m + 1) (ic (rowP m (m + 1)))),(5,.own 0 0 k.1 4),(6,i64 k.1)]) (lkH [(0,⟨45,qc (bp m k.1),false⟩)]) 1) (fun k => m + 1 - k.1) ⟨1,by omega,by omega⟩ ?_ ?_
 ·(refine Sub.heap1 26 ?_ (by simp only [smF,dg,renL,renLs,simprocAttr,bl,i64,smT];exact rfl) ?_ ?_;all_goals (first | exact dgs_plain _ | with_reducible rfl | (simp only [smF,dg,renL,renLs,simprocAttr,bl,i64,smT];done) | (simp only [smF,dg,renL,renLs,simprocAttr,bl,i64,smT]) | skip))
  rw [b1,← qc_one]
 ·rintro ⟨k,hk0,hk⟩
  simp only [st]
  have hl3 := bp_length m k
  by_cases hlt : k ≤ m
  ·obtain ⟨w1,w2,e1,e2⟩ := step k hlt
   have happ := bp_succ m k
   have hsub : ((m : Int) - (k : Int)).toNat = m - k := by omega
   generalize ((ch m k : Int) : Rat) * bq (m - k) = c0 at *
   simp only [encI_sm,encQ_sm] at w1 w2
   (repeat (first|apply zO (by decide +kernel)|apply zP (by decide +kernel)|(apply zS;(case h=>constructor<;>decide))|((first|apply l_go rfl|apply c_dec|apply zT rfl (by decide) rfl);(case hs=>(simp (disch := first|omega|exact kD rfl|exact kX rfl) only [smY,simprocAttr,bl,i64,smT,e1,e2];exact rfl));first|refine c_bt ?_|refine c_bf ?_|refine zq ?_|(case hg=>assumption))))
   refine ⟨⟨k + 1,by omega,by omega⟩,?_,by simp only;omega⟩
   (refine Sub.heap1 18 ?_ (by simp only [smF,dg,renL,renLs,simprocAttr,bl,i64,smT];exact rfl) ?_ ?_;all_goals (first | exact dgs_plain _ | with_reducible rfl | (simp only [smF,dg,renL,renLs,simprocAttr,bl,i64,smT];done) | (simp only [smF,dg,renL,renLs,simprocAttr,bl,i64,smT]) | skip))
   rw [happ,← qc_app]
  ·obtain rfl : k = m + 1 := by omega
   (repeat (first|apply zO (by decide +kernel)|apply zP (by decide +kernel)|(apply zS;(case h=>constructor<;>decide))|((first|apply l_go rfl|apply c_dec|apply zT rfl (by decide) rfl);(case hs=>(simp (disch := first|omega|exact kD rfl|exact kX rfl) only [smY,simprocAttr,bl,i64,smT];exact rfl));first|refine c_bt ?_|refine c_bf ?_|refine zq ?_|(case hg=>assumption))))
   ((first|apply g_ret|apply g_end);case hres => (simp only [smR];simp (disch := first|omega|exact kD rfl|exact kX rfl) only [smY,simprocAttr,bl,i64,smT];exact rfl))
   simp (disch := first|omega|exact kD rfl|exact kX rfl) only [smY,simprocAttr,bl,i64,smT]
end Go.Proofs.YteecamhdbilmoaaGreatDoor
namespace Go.Proofs.YteecamhdbilmoaaGreatDoor
open Go Go.Lg Go.Num
set_option maxRecDepth 100000
set_option maxHeartbeats 4000000
attribute [local irreducible] Go.Lg.lrun Go.Lg.lwp Go.Lg.exThen Go.Lg.exBlk Go.Lg.keep Go.Lg.goodPost sg mg bq
end Go.Proofs.YteecamhdbilmoaaGreatDoor
namespace Go.Proofs.YteecamhdbilmoaaGreatDoor
open Go Go.Lg Go.Num
set_option maxRecDepth 100000
set_option maxHeartbeats 4000000
attribute [local irreducible] Go.Lg.lrun Go.Lg.lwp Go.Lg.exThen Go.Lg.exBlk Go.Lg.keep Go.Lg.goodPost sg mg bq
theorem pow_unit3 {z : Int} (h : z.natAbs ≤ 1) (n : Nat) : z ^ (if n = 0 then 0 else 2 + n % 2) = z ^ n := by
 have h3 : z = 0 ∨ z = 1 ∨ z = -1 := by omega
 by_cases h0 : n = 0
 ·subst h0;rfl
 ·rw [if_neg h0]
  rcases h3 with rfl | rfl | rfl
  ·rw [Int.zero_pow (by omega),Int.zero_pow h0]
  ·rw [Int.one_pow,Int.one_pow]
  ·have key : ∀ k : Nat,(-1 : Int) ^ (2 * k) = 1 := fun k => by rw [Int.pow_mul];show (1 : Int) ^ k = 1;exact Int.one_pow
   rcases Nat.mod_two_eq_zero_or_one n with h | h
   ·rw [h]
    conv => rhs;rw [show n = 2 * (n / 2) by omega,key]
    rfl
   ·rw [h]
    conv => rhs;rw [show n = 2 * (n / 2) + 1 by omega,Int.pow_succ,key]
    rfl
theorem qpow_good (q : Rat) (n : Nat) (hn : n ≤ 100) (hq : lq q ≤ 50) : PureGood Tryz.prog 139 [encQ q,i64 n] (.tup [encQ (q ^ n),i64 0]) := by
 have h1 := qnorm_good q (by omega)
 have h2 := qbits_good q (by omega)
 have hb : qbits q = max (nbits q.num.natAbs) (nbits q.den) := rfl
 have l1 : len q.num ≤ 50 := by unfold lq at hq;omega
 have l2 : len (q.den : Int) ≤ 50 := by unfold lq at hq;omega
 have b1 := nbits_len q.num.natAbs
 have b2 := nbits_len q.den
 have e2 : (digs q.den).length ≤ 50 := by unfold len at l2;rwa [Int.natAbs_natCast] at l2
 have e1 : (digs q.num.natAbs).length ≤ 50 := l1
 have hbb : qbits q ≤ 1600 := by omega
 have hdiv : ∀ s : Nat,s ≤ 1600 → 1 < s → n ≤ 1048576 / s := fun s h1 h2 => (Nat.le_div_iff_mul_le (by omega)).2 (by have : n * s ≤ 100 * 1600 := Nat.mul_le_mul hn h1;omega)
 by_cases hs : qbits q ≤ 1
 ·have n1 := nbits_lt q.num.natAbs
  have n2 := nbits_lt q.den
  have t1 : 2 ^ nbits q.num.natAbs ≤ 2 ^ 1 := Nat.pow_le_pow_right (by omega) (by omega)
  have t2 : 2 ^ nbits q.den ≤ 2 ^ 1 := Nat.pow_le_pow_right (by omega) (by omega)
  have u1 : q.num.natAbs ≤ 1 := by omega
  have u2 : q.den = 1 := by have := q.den_nz;omega
  have hqn : q = (q.num : Rat) := by apply Rat.ext <;> simp [u2]
  have hpw := pow_unit3 u1 n
  have hpq : ((q.num ^ n : Int) : Rat) = q ^ n := by rw [Rat.intCast_pow,← hqn]
  have hln : len (q.num ^ n) ≤ 1 := by
   have : (q.num ^ n).natAbs ≤ 1 := by rw [Int.natAbs_pow];exact Nat.le_trans (Nat.pow_le_pow_left u1 n) (by rw [Nat.one_pow];omega)
   exact len_pow_lt (e := 1) (by omega)
  have w1 := whole_good (q.num ^ n) (by omega)
  rw [hpq] at w1
  have hnb : nbits q.num.natAbs ≤ 1 := by omega
  by_cases h0 : n = 0
  ·subst h0
   have p1 := pow_good q.num 0 (by omega) (.inl hnb) (by omega)
   rw [Int.natCast_zero] at *
   generalize q ^ 0 = r at *
   generalize qbits q = S at *
   clear hqn hpq hpw
   simp only [encQ_sm,encI_sm,i64] at *
   refine good_of_lwp mix Tryz.func139 rfl (by decide) (nt := 83) rfl (rs := [.cell 4 45,.tmp 5]) rfl (nle rfl) ?_
   (repeat (first|apply zO (by decide +kernel)|apply zP (by decide +kernel)|(apply zS;(case h=>constructor<;>decide))|((first|apply l_go rfl|apply c_dec|apply zT rfl (by decide) rfl);(case hs=>(simp (disch := first|omega|exact kD rfl|exact kX rfl) only [smY,simprocAttr,bl,i64,smT];exact rfl));first|refine c_bt ?_|refine c_bf ?_|refine zq ?_|(case hg=>assumption))))
   ((first|apply g_ret|apply g_end);case hres => (simp only [smR];simp (disch := first|omega|exact kD rfl|exact kX rfl) only [smY,simprocAttr,bl,i64,smT];exact rfl))
   simp (disch := first|omega|exact kD rfl|exact kX rfl) only [smY,simprocAttr,bl,i64,smT]
  ·have p1 := pow_good q.num (2 + n % 2) (by omega) (.inl hnb) (by omega)
   rw [if_neg h0] at hpw
   rw [hpw,show ((2 + n % 2 : Nat) : Int) = 2 + (n : Int) % 2 by omega] at p1
   generalize q.num ^ n = z at *
   generalize q ^ n = r at *
   generalize qbits q = S at *
   clear hqn hpq hpw
   simp only [encQ_sm,encI_sm,i64] at *
   refine good_of_lwp mix Tryz.func139 rfl (by decide) (nt := 83) rfl (rs := [.cell 4 45,.tmp 5]) rfl (nle rfl) ?_
   (repeat (first|apply zO (by decide +kernel)|apply zP (by decide +kernel)|(apply zS;(case h=>constructor<;>decide))|((first|apply l_go rfl|apply c_dec|apply zT rfl (by decide) rfl);(case hs=>(simp (disch := first|omega|exact kD rfl|exact kX rfl) only [smY,simprocAttr,bl,i64,smT];exact rfl));first|refine c_bt ?_|refine c_bf ?_|refine zq ?_|(case hg=>assumption))))
   ((first|apply g_ret|apply g_end);case hres => (simp only [smR];simp (disch := first|omega|exact kD rfl|exact kX rfl) only [smY,simprocAttr,bl,i64,smT];exact rfl))
   simp (disch := first|omega|exact kD rfl|exact kX rfl) only [smY,simprocAttr,bl,i64,smT]
 ·have hd1 := hdiv (qbits q) hbb (by omega)
  have hcast : (1048576 : Int) / (qbits q : Int) = ((1048576 / qbits q : Nat) : Int) := rfl
  have p1 := pow_good q.num n (by omega) (by by_cases h : nbits q.num.natAbs ≤ 1;exact .inl h;exact .inr (hdiv _ (by omega) (by omega))) (by omega)
  have p2 := pow_good (q.den : Int) n (by omega) (by rw [Int.natAbs_natCast];by_cases h : nbits q.den ≤ 1;exact .inl h;exact .inr (hdiv _ (by omega) (by omega))) (by omega)
  have m1 := len_pow q.num n
  have m2 := len_pow (q.den : Int) n
  have m3 : n * len q.num ≤ 100 * 50 := Nat.mul_le_mul hn l1
  have m4 : n * len (q.den : Int) ≤ 100 * 50 := Nat.mul_le_mul hn l2
  have o1 := over_good (q.num ^ n) ((q.den : Int) ^ n) (by omega) (by omega)
  rw [← pow_divInt] at o1
  have hmx : (if 0 - (n : Int) > (n : Int) then 0 - (n : Int) else (n : Int)) = (n : Int) := by split <;> omega
  have hdn : ((1048576 / qbits q : Nat) : Int) ≤ 1048576 := by have := Nat.div_le_self 1048576 (qbits q);omega
  generalize 1048576 / qbits q = M at *
  generalize qbits q = S at *
  simp only [encQ_sm,encI_sm,i64] at *
  clear hdiv hb b1 b2 e1 e2 m1 m2 m3 m4
  refine good_of_lwp mix Tryz.func139 rfl (by decide) (nt := 83) rfl (rs := [.cell 4 45,.tmp 5]) rfl (nle rfl) ?_
  (repeat (first|apply zO (by decide +kernel)|apply zP (by decide +kernel)|(apply zS;(case h=>constructor<;>decide))|((first|apply l_go rfl|apply c_dec|apply zT rfl (by decide) rfl);(case hs=>(simp (disch := first|omega|exact kD rfl|exact kX rfl) only [smY,simprocAttr,bl,i64,smT,hmx,hcast];exact rfl));first|refine c_bt ?_|refine c_bf ?_|refine zq ?_|(case hg=>assumption))))
  ((first|apply g_ret|apply g_end);case hres => (simp only [smR];simp (disch := first|omega|exact kD rfl|exact kX rfl) only [smY,simprocAttr,bl,i64,smT,hmx,hcast];exact rfl))
  simp (disch := first|omega|exact kD rfl|exact kX rfl) only [smY,simprocAttr,bl,i64,smT,hmx,hcast]
theorem bp_bpL (n : Nat) : bp n (n + 1) = bpL n := rfl
theorem hor_horQ (f : List Rat) (x : Rat) : hor f x = horQ f x := rfl
theorem evalB_good {n : Nat} (hn : n ≤ 41) (x : Rat) (hx : lq x ≤ 1000) : PureGood Tryz.prog 141 [encF (bp n (n + 1)),encQ x] (encQ (horQ (bpL n) x)) ∧ lq (horQ (bpL n) x) ≤ 100000 := by
 have hh : ∀ k,lq (horQ ((bpL n).drop k) x) ≤ 100000 := fun k => lq_horB hx (by omega) hn
 have h0 := hh 0
 rw [List.drop_zero] at h0
 refine ⟨?_,h0⟩
 rw [bp_bpL,← hor_horQ]
 refine eval_good (bpL n) x (by rw [← bp_bpL,bp_length];omega) (by omega) (fun c hc => by have := bp_small (n := n) (by omega) (n + 1) c hc;omega) (fun k => by rw [hor_horQ];have := hh k;omega) (fun k => ?_)
 rw [hor_horQ]
 have h1 := hh k
 have h2 := lq_mul (horQ ((bpL n).drop k) x) x
 omega
end Go.Proofs.YteecamhdbilmoaaGreatDoor
namespace Go.Proofs.YteecamhdbilmoaaGreatDoor
open Go Go.Lg Go.Num
set_option maxRecDepth 100000
set_option maxHeartbeats 4000000
attribute [local irreducible] Go.Lg.lrun Go.Lg.lwp Go.Lg.exThen Go.Lg.exBlk Go.Lg.keep Go.Lg.goodPost sg mg bq bpL horQ
end Go.Proofs.YteecamhdbilmoaaGreatDoor
namespace Go.Proofs.YteecamhdbilmoaaGreatDoor
open Go Go.Lg Go.Num
set_option maxRecDepth 100000
set_option maxHeartbeats 4000000
attribute [local irreducible] Go.Lg.lrun Go.Lg.lwp Go.Lg.exThen Go.Lg.exBlk Go.Lg.keep Go.Lg.goodPost sg mg bq bpL horQ trm qsum
theorem trm_eq (k f j : Nat) : trm k f j = ((f : Int) : Rat) ^ (k - 1) * horQ (bpL k) (Rat.divInt ((j + 1 : Nat) : Int) (f : Int)) := by unfold trm;rfl
theorem summands_good (k f : Nat) (hk1 : 1 ≤ k) (hk : k ≤ 40) (hf : 1 ≤ f) (hf2 : f ≤ 60) : PureGood Tryz.prog 108 [i64 k,i64 f] (encF (smd k f f)) := by
 have p1 := polynomial_good k (by omega)
 have of := qof_good (f : Int) (by omega)
 have lf : lq ((f : Int) : Rat) ≤ 2 := lq_small (by omega) (by omega)
 have pw := qpow_good ((f : Int) : Rat) (k - 1) (by omega) (by omega)
 have lw := lq_powQ ((f : Int) : Rat) (k - 1)
 have lw2 : (k - 1) * lq ((f : Int) : Rat) ≤ 40 * 2 := Nat.mul_le_mul (by omega) lf
 have bf := of_good (f : Int) (by omega)
 have step : ∀ j : Nat, j < f → PureGood Tryz.prog 78 [i64 ((j + 1 : Nat) : Int)] (encI ((j + 1 : Nat) : Int)) ∧ PureGood Tryz.prog 140 [encI ((j + 1 : Nat) : Int), encI (f : Int)] (.tup [encQ (Rat.divInt ((j + 1 : Nat) : Int) (f : Int)), i64 0]) ∧
   PureGood Tryz.prog 141 [encF (bp k (k + 1)),encQ (Rat.divInt ((j + 1 : Nat) : Int) (f : Int))] (encQ (horQ (bpL k) (Rat.divInt ((j + 1 : Nat) : Int) (f : Int)))) ∧
   PureGood Tryz.prog 70 [encQ (((f : Int) : Rat) ^ (k - 1)),encQ (horQ (bpL k) (Rat.divInt ((j + 1 : Nat) : Int) (f : Int)))] (encQ (trm k f j)) := by
  intro j hj
  have la : len ((j + 1 : Nat) : Int) ≤ 1 := len_pow_lt (e := 1) (by omega)
  have lf : len (f : Int) ≤ 1 := len_pow_lt (e := 1) (by omega)
  have ld := lq_divInt (n := ((j + 1 : Nat) : Int)) (d := (f : Int)) (by omega)
  have ev := evalB_good (n := k) (by omega) (Rat.divInt ((j + 1 : Nat) : Int) (f : Int)) (by unfold lq;omega)
  have mk := make_good ((j + 1 : Nat) : Int) f (by omega) (by omega) (by omega)
  rw [← encI_nat] at mk
  refine ⟨of_good _ (by omega),mk,ev.1,?_⟩
  rw [trm_eq]
  exact qmul_good _ _ (by omega) (by have := ev.2;omega)
 clear lw lw2 lf
 have hk2 : ((k - 1 : Nat) : Int) = (k : Int) - 1 := by omega
 have hl := bp_length k (k + 1)
 rw [encF_qc,hl] at p1
 rw [encF_qc,smd_length]
 simp only [encF_qc,hl] at step
 generalize bp k (k + 1) = L at *
 rw [hk2] at pw
 generalize ((f : Int) : Rat) ^ (k - 1) = P at *
 generalize ((f : Int) : Rat) = FQ at *
 simp only [encI_sm,encQ_sm,i64] at p1 pw of bf step ⊢
 have b1 : smd k f 1 = [trm k f 0] := rfl
 obtain ⟨w1,w2,w3,w4⟩ := step 0 (by omega)
 rw [show ((0 + 1 : Nat) : Int) = 1 from rfl] at w1 w2 w3 w4
 generalize horQ (bpL k) (Rat.divInt (1 : Int) (f : Int)) = E0 at *
 generalize Rat.divInt (1 : Int) (f : Int) = D0 at *
 generalize ht0 : trm k f 0 = T0 at *
 refine good_of_lwp mix Tryz.func108 rfl (by decide) (nt := 44) rfl (rs := [.tmp 4]) rfl (nle rfl) ?_
 (repeat (first|apply zO (by decide +kernel)|apply zP (by decide +kernel)|(apply zS;(case h=>constructor<;>decide))|((first|apply l_go rfl|apply c_dec|apply zT rfl (by decide) rfl);(case hs=>(simp (disch := first|omega|exact kD rfl|exact kX rfl) only [smY,simprocAttr,bl,i64,smT];exact rfl));first|refine c_bt ?_|refine c_bf ?_|refine zq ?_|(case hg=>assumption))))
 refine loop_more (s' := ?_) (fun Φ hΦ => ?_) ?_
 rotate_left
 ·(repeat (first|apply zO (by decide +kernel)|apply zP (by decide +kernel)|(apply zS;(case h=>constructor<;>decide))|((first|apply l_go rfl|apply c_dec|apply zT rfl (by decide) rfl);(case hs=>(simp (disch := first|omega|exact kD rfl|exact kX rfl) only [smY,simprocAttr,bl,i64,smT];exact rfl));first|refine c_bt ?_|refine c_bf ?_|refine zq ?_|(case hg=>assumption))))
  exact hΦ
 refine w_loop (α := {n : Nat // 1 ≤ n ∧ n ≤ f}) (fun n => st 44 (lk [(0,i64 k),(1,i64 f),(5,.sl (k + 1) (qc L)),(6,.ptr 1 0),(8,.own 0 0 n.1 4),(9,i64 ((n.1 + 1 : Nat) : Int))]) (lkH [(0,⟨45,qc (smd k f n.1),false⟩),(1,⟨45,[sg (P).num,mg (P).num,sg ((P).den : Int),mg ((P).den : Int)],false⟩)]) 2) (fun n => f - n.1) ⟨1,by omega,hf⟩ ?_ ?_
 ·(refine Sub.heapL [38,12] rfl (by decide) ?_ (by simp only [smL];decide) ?_ ?_;all_goals (first|(simp only [plainC,smF,dg,renL,renLs,simprocAttr,bl,i64,smT];done) | (simp only [smF,dg,renL,renLs,simprocAttr,bl,i64,smT];(repeat' apply And.intro);all_goals rfl) | (simp only [smF,dg,renL,renLs,simprocAttr,bl,i64,smT]) | skip))
  rw [b1,← qc_one]
 ·rintro ⟨n,hn1,hn⟩
  simp only [st]
  have hls := smd_length k f n
  by_cases hlt : n < f
  ·obtain ⟨w1,w2,w3,w4⟩ := step n hlt
   have happ := smd_succ k f n
   generalize hN : n + 1 = N at *
   generalize horQ (bpL k) (Rat.divInt (N : Int) (f : Int)) = E at *
   generalize Rat.divInt (N : Int) (f : Int) = D at *
   generalize trm k f n = T at *
   (repeat (first|apply zO (by decide +kernel)|apply zP (by decide +kernel)|(apply zS;(case h=>constructor<;>decide))|((first|apply l_go rfl|apply c_dec|apply zT rfl (by decide) rfl);(case hs=>(simp (disch := first|omega|exact kD rfl|exact kX rfl) only [smY,simprocAttr,bl,i64,smT];exact rfl));first|refine c_bt ?_|refine c_bf ?_|refine zq ?_|(case hg=>assumption))))
   refine ⟨⟨N,by omega,by omega⟩,?_,by simp only;omega⟩
   (refine Sub.heapL [23,1] rfl (by decide) ?_ (by simp only [smL];decide) ?_ ?_;all_goals (first|(simp only [plainC,smF,dg,renL,renLs,simprocAttr,bl,i64,smT];done) | (simp only [smF,dg,renL,renLs,simprocAttr,bl,i64,smT];(repeat' apply And.intro);all_goals rfl) | (simp only [smF,dg,renL,renLs,simprocAttr,bl,i64,smT]) | skip))
   ·simp only [true_and,hN]
   ·rw [happ,← qc_app]
  ·obtain rfl : n = f := by omega
   (repeat (first|apply zO (by decide +kernel)|apply zP (by decide +kernel)|(apply zS;(case h=>constructor<;>decide))|((first|apply l_go rfl|apply c_dec|apply zT rfl (by decide) rfl);(case hs=>(simp (disch := first|omega|exact kD rfl|exact kX rfl) only [smY,simprocAttr,bl,i64,smT];exact rfl));first|refine c_bt ?_|refine c_bf ?_|refine zq ?_|(case hg=>assumption))))
   ((first|apply g_ret|apply g_end);case hres => (simp only [smR];simp (disch := first|omega|exact kD rfl|exact kX rfl) only [smY,simprocAttr,bl,i64,smT];exact rfl))
   simp (disch := first|omega|exact kD rfl|exact kX rfl) only [smY,simprocAttr,bl,i64,smT]
end Go.Proofs.YteecamhdbilmoaaGreatDoor
namespace Go.Num
def chkG1 (k : Nat) : Bool := decide (gB k 1 = bq k)
theorem gB_one_all : ((List.range 20).all fun j => chkG1 (2 * (j + 1))) = true := by decide +kernel
theorem gB_one {k : Nat} (h1 : 2 ≤ k) (h2 : k ≤ 40) (h3 : k % 2 = 0) : gB k 1 = bq k := by
 have h := List.all_eq_true.1 gB_one_all (k / 2 - 1) (List.mem_range.2 (by omega))
 rw [show 2 * (k / 2 - 1 + 1) = k by omega] at h
 exact of_decide_eq_true h
end Go.Num