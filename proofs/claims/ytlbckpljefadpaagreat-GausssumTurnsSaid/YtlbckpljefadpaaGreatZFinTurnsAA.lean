/- Contracts of functions of the program, and what proves them (texts: TW TN0). -/
import Derived.Test.YtlbckpljefadpaaGreatZAZ
import Derived.Test.YtlbckpljefadpaaGreatZBF
import Derived.Test.YtlbckpljefadpaaGreatZBG
import Derived.Test.YtlbckpljefadpaaGreatZBQ
set_option linter.all false
namespace Go.Proofs.YtlbckpljefadpaaGreat
open Go Go.Lg Go.Num
set_option maxRecDepth 100000
set_option maxHeartbeats 4000000
theorem rsd_mod {a b : Int} {N q : Nat} (h : a % (N : Int) = b % (N : Int)) (hq : N % q = 0) : rsd a q = rsd b q := by
 have hd : (q : Int) ∣ (N : Int) := Int.natCast_dvd_natCast.2 (Nat.dvd_of_mod_eq_zero hq)
 unfold rsd
 rw [← Int.emod_emod_of_dvd a hd,← Int.emod_emod_of_dvd b hd,h]
theorem vf_mod {n N : Nat} (hn : n ≤ 60) (hN : N % n = 0) (v : List Nat) {a b : Int} (h : a % (N : Int) = b % (N : Int)) : ∀ i,i ≤ (od n).length → vf n v a i = vf n v b i
 | 0,_ => rfl
 | i + 1,hi => by
   have hq := (hit_ok (n := n) (i := i) hn (by omega)).1
   have : N % pQ n i = 0 := Nat.mod_eq_zero_of_dvd (Nat.dvd_trans (Nat.dvd_of_mod_eq_zero hq) (Nat.dvd_of_mod_eq_zero hN))
   rw [vf,vf,vf_mod hn hN v h i (by omega),rsd_mod h this]
theorem gcd_mod1 (c : Int) (N : Nat) : Int.gcd c N = Int.gcd (c % (N : Int)) N := by
 have e := Int.mul_ediv_add_emod c N
 apply Nat.dvd_antisymm
 ·have d1 : ((Int.gcd c N : Nat) : Int) ∣ c := Int.gcd_dvd_left ..
  have d2 : ((Int.gcd c N : Nat) : Int) ∣ (N : Int) := Int.gcd_dvd_right ..
  refine Int.dvd_gcd ?_ d2
  have := Int.dvd_sub d1 (Int.dvd_trans d2 (Int.dvd_mul_right (N : Int) (c / N)))
  rwa [show c - (N : Int) * (c / N) = c % N by omega] at this
 ·have d1 : ((Int.gcd (c % (N : Int)) N : Nat) : Int) ∣ c % N := Int.gcd_dvd_left ..
  have d2 : ((Int.gcd (c % (N : Int)) N : Nat) : Int) ∣ (N : Int) := Int.gcd_dvd_right ..
  refine Int.dvd_gcd ?_ d2
  have := Int.dvd_add (Int.dvd_trans d2 (Int.dvd_mul_right (N : Int) (c / N))) d1
  rwa [e] at this
theorem gcd_mod {a b : Int} {N : Nat} (h : a % (N : Int) = b % (N : Int)) : Int.gcd a N = Int.gcd b N := by rw [gcd_mod1 a,gcd_mod1 b,h]
theorem gcd_sub {a : Int} {n N : Nat} (hN : N % n = 0) (h : Int.gcd a N = 1) : Int.gcd a n = 1 := by
 have hd : n ∣ N := Nat.dvd_of_mod_eq_zero hN
 exact Nat.Coprime.coprime_dvd_right hd h
attribute [local irreducible] Go.Lg.lrun Go.Lg.lwp Go.Lg.exThen Go.Lg.exBlk Go.Lg.keep Go.Lg.goodPost ec pt gn od cerr
theorem galois_of {N k0 p q r : Nat} {k : Int} {cs ds es : List LV} (n1 : 1 ≤ N) (n2 : N ≤ 60) (hk : -4294967296 ≤ k ∧ k ≤ 4294967296) (h0 : k % (N : Int) = (k0 : Int)) (hg : Nat.gcd k0 N = 1)
  (hc : PureGood Tryz.prog 58 [i64 N] (i64 0)) (hn : PureGood Tryz.prog 60 [i64 N,.sl p cs] (.sl q ds)) (hi : PureGood Tryz.prog 59 [i64 N,i64 k0,.sl q ds] (.sl r es)) :
  PureGood Tryz.prog 31 [i64 N,i64 k,.sl p cs] (.tup [.sl r es,i64 0]) := by
 have b1 : (k0 : Int) < N := by
  have := Int.emod_lt_of_pos k (show (0 : Int) < N by omega)
  omega
 have gg := gcdI_good (k0 : Int) N (by omega) (by omega)
 have e1 : Int.gcd (k0 : Int) (N : Int) = 1 := hg
 rw [e1] at gg
 have ht := Int.tmod_eq_emod (a := k) (b := N)
 rw [h0] at ht
 have hN0 : ¬ (N : Int) = 0 := by omega
 have hcase : k.tmod N = k0 ∨ k.tmod N = k0 - N := by
  rw [ht]
  split
  ·left;omega
  ·right;omega
 clear ht
 simp only [i64,bl] at *
 rcases hcase with hz | hz
 ·have h1 : ¬ (k0 : Int) < 0 := by omega
  refine good_of_lwp mix Tryz.func31 rfl (by decide) (nt := 32) rfl (rs := [.tmp 6,.tmp 7]) rfl (nle rfl) ?_
  (repeat (first|apply zO (by decide +kernel)|apply zP (by decide +kernel)|(apply zS;(case h=>constructor<;>decide))|((first|apply l_go rfl|apply c_dec|apply zT rfl (by decide) rfl);(case hs=>(simp (disch := first|omega|exact kD rfl|exact kX rfl) only [smY,simprocAttr,bl,i64,smE,undefL,undef,hz];exact rfl));first|refine c_bt ?_|refine c_bf ?_|refine zq ?_|(case hg=>assumption))))
  ((first|apply g_ret|apply g_end);case hres => (simp only [smR];simp (disch := first|omega|exact kD rfl|exact kX rfl) only [smY,simprocAttr,bl,i64,smE,undefL,undef,hz];exact rfl))
  simp (disch := first|omega|exact kD rfl|exact kX rfl) only [smY,simprocAttr,bl,i64,smE,undefL,undef,hz]
 ·have h1 : (k0 : Int) - N < 0 := by omega
  have h2 : (k0 : Int) - N + N = k0 := by omega
  refine good_of_lwp mix Tryz.func31 rfl (by decide) (nt := 32) rfl (rs := [.tmp 6,.tmp 7]) rfl (nle rfl) ?_
  (repeat (first|apply zO (by decide +kernel)|apply zP (by decide +kernel)|(apply zS;(case h=>constructor<;>decide))|((first|apply l_go rfl|apply c_dec|apply zT rfl (by decide) rfl);(case hs=>(simp (disch := first|omega|exact kD rfl|exact kX rfl) only [smY,simprocAttr,bl,i64,smE,undefL,undef,hz,h2];exact rfl));first|refine c_bt ?_|refine c_bf ?_|refine zq ?_|(case hg=>assumption))))
  ((first|apply g_ret|apply g_end);case hres => (simp only [smR];simp (disch := first|omega|exact kD rfl|exact kX rfl) only [smY,simprocAttr,bl,i64,smE,undefL,undef,hz,h2];exact rfl))
  simp (disch := first|omega|exact kD rfl|exact kX rfl) only [smY,simprocAttr,bl,i64,smE,undefL,undef,hz,h2]
theorem dvalue_of {m k x y : Int} {l : List Int} (hb : ChB m l) (he : cerr m l = 0) (hk : -1073741824 ≤ k ∧ k ≤ 1073741824) (hv : PureGood Tryz.prog 53 [.agg [i64 m,.sl l.length (ec l)],i64 k] (.agg [bl false,i64 x,i64 y])) : PureGood Tryz.prog 32 [.agg [i64 m,.sl l.length (ec l)],i64 k] (.tup [.agg [bl false,i64 x,i64 y],i64 0]) := by
 have g1 := dcheck_good m l hb.m1 hb.ln
 rw [he] at g1
 simp only [i64,bl] at *
 refine good_of_lwp mix Tryz.func32 rfl (by decide) (nt := 23) rfl (rs := [.cell 4 44,.tmp 5]) rfl (nle rfl) ?_
 (repeat (first|apply zO (by decide +kernel)|apply zP (by decide +kernel)|(apply zS;(case h=>constructor<;>decide))|((first|apply l_go rfl|apply c_dec|apply zT rfl (by decide) rfl);(case hs=>(simp (disch := first|omega|exact kD rfl|exact kX rfl) only [smY,simprocAttr,bl,i64,smE,undefL,undef];exact rfl));first|refine c_bt ?_|refine c_bf ?_|refine zq ?_|(case hg=>assumption))))
 ((first|apply g_ret|apply g_end);case hres => (simp only [smR];simp (disch := first|omega|exact kD rfl|exact kX rfl) only [smY,simprocAttr,bl,i64,smE,undefL,undef];exact rfl))
 simp (disch := first|omega|exact kD rfl|exact kX rfl) only [smY,simprocAttr,bl,i64,smE,undefL,undef]
def i16 (t : Int) : LV := .lit (.int .i16 t)
theorem lawTurns_many {m t : Int} {l : List Int} (h : 100 < l.length) : PureGood Tryz.prog 9 [.agg [i64 m,.sl l.length (ec l)],i16 t] (.lit (.bool true)) := by
 have ga := awake_good
 have gm := many_good m l
 rw [dec_t h] at gm
 simp only [i64,bl,i16] at *
 refine good_of_lwp mix Tryz.func9 rfl (by decide) (nt := 115) rfl (rs := [.tmp 4]) rfl (nle rfl) ?_
 (repeat (first|apply zO (by decide +kernel)|apply zP (by decide +kernel)|(apply zS;(case h=>constructor<;>decide))|((first|apply l_go rfl|apply c_dec|apply zT rfl (by decide) rfl);(case hs=>(simp (disch := first|omega|exact kD rfl|exact kX rfl) only [smY,simprocAttr,bl,i64,smE,undefL,undef,i16];exact rfl));first|refine c_bt ?_|refine c_bf ?_|refine zq ?_|(case hg=>assumption))))
 repeat (refine l_cskip rfl (by decide) rfl ?_;(repeat (first|apply zO (by decide +kernel)|apply zP (by decide +kernel)|(apply zS;(case h=>constructor<;>decide))|((first|apply l_go rfl|apply c_dec|apply zT rfl (by decide) rfl);(case hs=>(simp (disch := first|omega|exact kD rfl|exact kX rfl) only [smY,simprocAttr,bl,i64,smE,undefL,undef,i16];exact rfl));first|refine c_bt ?_|refine c_bf ?_|refine zq ?_|(case hg=>assumption)))))
 ((first|apply g_ret|apply g_end);case hres => (simp only [smR];simp (disch := first|omega|exact kD rfl|exact kX rfl) only [smY,simprocAttr,bl,i64,smE,undefL,undef,i16];exact rfl))
 simp (disch := first|omega|exact kD rfl|exact kX rfl) only [smY,simprocAttr,bl,i64,smE,undefL,undef,i16]
theorem lawTurns_err {m t o f e : Int} {l : List Int} (h : ¬ 100 < l.length) (he : ¬ e = 0) (hg : PureGood Tryz.prog 16 [.agg [i64 m,.sl l.length (ec l)]] (.tup [.sl 0 [],i64 0,i64 e])) (ho : PureGood Tryz.prog 29 [.agg [i64 m,.sl l.length (ec l)]] (.tup [i64 o,i64 f])) : PureGood Tryz.prog 9 [.agg [i64 m,.sl l.length (ec l)],i16 t] (.lit (.bool true)) := by
 have ga := awake_good
 have gm := many_good m l
 rw [dec_f h] at gm
 simp only [i64,bl,i16] at *
 refine good_of_lwp mix Tryz.func9 rfl (by decide) (nt := 115) rfl (rs := [.tmp 4]) rfl (nle rfl) ?_
 (repeat (first|apply zO (by decide +kernel)|apply zP (by decide +kernel)|(apply zS;(case h=>constructor<;>decide))|((first|apply l_go rfl|apply c_dec|apply zT rfl (by decide) rfl);(case hs=>(simp (disch := first|omega|exact kD rfl|exact kX rfl) only [smY,simprocAttr,bl,i64,smE,undefL,undef,i16];exact rfl));first|refine c_bt ?_|refine c_bf ?_|refine zq ?_|(case hg=>assumption))))
 repeat (refine l_cskip rfl (by decide) rfl ?_;(repeat (first|apply zO (by decide +kernel)|apply zP (by decide +kernel)|(apply zS;(case h=>constructor<;>decide))|((first|apply l_go rfl|apply c_dec|apply zT rfl (by decide) rfl);(case hs=>(simp (disch := first|omega|exact kD rfl|exact kX rfl) only [smY,simprocAttr,bl,i64,smE,undefL,undef,i16];exact rfl));first|refine c_bt ?_|refine c_bf ?_|refine zq ?_|(case hg=>assumption)))))
 ((first|apply g_ret|apply g_end);case hres => (simp only [smR];simp (disch := first|omega|exact kD rfl|exact kX rfl) only [smY,simprocAttr,bl,i64,smE,undefL,undef,i16];exact rfl))
 simp (disch := first|omega|exact kD rfl|exact kX rfl) only [smY,simprocAttr,bl,i64,smE,undefL,undef,i16]
theorem lawTurns_skip {m t : Int} {o N p : Nat} {l : List Int} {cs : List LV} (h : ¬ 100 < l.length) (ht : -32768 ≤ t ∧ t ≤ 32767) (o1 : 1 ≤ o ∧ o ≤ 60) (n1 : 1 ≤ N ∧ N ≤ 60) (hg : PureGood Tryz.prog 16 [.agg [i64 m, .sl l.length (ec l)]] (.tup [.sl p cs, i64 N, i64 0])) (ho : PureGood Tryz.prog 29 [.agg [i64 m, .sl l.length (ec l)]] (.tup [i64 o, i64 0]))
  (h1 : ¬ Int.gcd (1 + t * o) N = 1) : PureGood Tryz.prog 9 [.agg [i64 m,.sl l.length (ec l)],i16 t] (.lit (.bool true)) := by
 have ga := awake_good
 have gm := many_good m l
 rw [dec_f h] at gm
 have b1 : -1966080 ≤ t * o ∧ t * o ≤ 1966080 := by
  constructor
  ·have := Int.mul_le_mul_of_nonneg_right (a := -32768) (b := t) (c := o) ht.1 (by omega)
   omega
  ·have := Int.mul_le_mul_of_nonneg_right (a := t) (b := 32767) (c := o) ht.2 (by omega)
   omega
 have gg := gcd18_good (1 + t * o) N (by omega) (by omega)
 have h2 : ¬ ((Int.gcd (1 + t * o) N : Nat) : Int) = 1 := by omega
 generalize Int.gcd (1 + t * o) N = g at *
 generalize ht0 : t * (o : Int) = T at *
 simp only [i64,bl,i16] at *
 refine good_of_lwp mix Tryz.func9 rfl (by decide) (nt := 115) rfl (rs := [.tmp 4]) rfl (nle rfl) ?_
 (repeat (first|apply zO (by decide +kernel)|apply zP (by decide +kernel)|(apply zS;(case h=>constructor<;>decide))|((first|apply l_go rfl|apply c_dec|apply zT rfl (by decide) rfl);(case hs=>(simp (disch := first|omega|exact kD rfl|exact kX rfl) only [smY,simprocAttr,bl,i64,smE,undefL,undef,i16,ht0];exact rfl));first|refine c_bt ?_|refine c_bf ?_|refine zq ?_|(case hg=>assumption))))
 repeat (refine l_cskip rfl (by decide) rfl ?_;(repeat (first|apply zO (by decide +kernel)|apply zP (by decide +kernel)|(apply zS;(case h=>constructor<;>decide))|((first|apply l_go rfl|apply c_dec|apply zT rfl (by decide) rfl);(case hs=>(simp (disch := first|omega|exact kD rfl|exact kX rfl) only [smY,simprocAttr,bl,i64,smE,undefL,undef,i16,ht0];exact rfl));first|refine c_bt ?_|refine c_bf ?_|refine zq ?_|(case hg=>assumption)))))
 ((first|apply g_ret|apply g_end);case hres => (simp only [smR];simp (disch := first|omega|exact kD rfl|exact kX rfl) only [smY,simprocAttr,bl,i64,smE,undefL,undef,i16,ht0];exact rfl))
 simp (disch := first|omega|exact kD rfl|exact kX rfl) only [smY,simprocAttr,bl,i64,smE,undefL,undef,i16,ht0]
theorem lawTurns_yes {m t x y : Int} {o N p q r j : Nat} {l : List Int} {cs ds es fs : List LV} (h : ¬ 100 < l.length) (ht : -32768 ≤ t ∧ t ≤ 32767) (o1 : 1 ≤ o ∧ o ≤ 60) (n1 : 1 ≤ N ∧ N ≤ 60) (hg : PureGood Tryz.prog 16 [.agg [i64 m, .sl l.length (ec l)]] (.tup [.sl p cs, i64 N, i64 0])) (ho : PureGood Tryz.prog 29 [.agg [i64 m, .sl l.length (ec l)]] (.tup [i64 o, i64 0]))
  (h1 : Int.gcd (1 + t * o) N = 1) (hgal : PureGood Tryz.prog 31 [i64 N,i64 (1 + t * o),.sl p cs] (.tup [.sl q ds,i64 0])) (hcj : PureGood Tryz.prog 24 [.agg [i64 m,.sl l.length (ec l)]] (.tup [.agg [i64 m,.sl j es],i64 0]))
  (hv : PureGood Tryz.prog 32 [.agg [i64 m,.sl j es],i64 (1 + t * o)] (.tup [.agg [bl false,i64 x,i64 y],i64 0])) (hel : PureGood Tryz.prog 21 [i64 N,.agg [bl false,i64 x,i64 y]] (.tup [.sl r fs,i64 0]))
  (hp : PureGood Tryz.prog 26 [i64 N,.sl r fs,.sl p cs] (.tup [.sl q ds,bl true])) (hs : PureGood Tryz.prog 18 [.sl q ds,.sl q ds] (.lit (.bool true))) : PureGood Tryz.prog 9 [.agg [i64 m,.sl l.length (ec l)],i16 t] (.lit (.bool true)) := by
 have ga := awake_good
 have gm := many_good m l
 rw [dec_f h] at gm
 have b1 : -1966080 ≤ t * o ∧ t * o ≤ 1966080 := by
  constructor
  ·have := Int.mul_le_mul_of_nonneg_right (a := -32768) (b := t) (c := o) ht.1 (by omega)
   omega
  ·have := Int.mul_le_mul_of_nonneg_right (a := t) (b := 32767) (c := o) ht.2 (by omega)
   omega
 have gg := gcd18_good (1 + t * o) N (by omega) (by omega)
 rw [h1] at gg
 generalize ht0 : t * (o : Int) = T at *
 simp only [i64,bl,i16] at *
 refine good_of_lwp mix Tryz.func9 rfl (by decide) (nt := 115) rfl (rs := [.tmp 4]) rfl (nle rfl) ?_
 (repeat (first|apply zO (by decide +kernel)|apply zP (by decide +kernel)|(apply zS;(case h=>constructor<;>decide))|((first|apply l_go rfl|apply c_dec|apply zT rfl (by decide) rfl);(case hs=>(simp (disch := first|omega|exact kD rfl|exact kX rfl) only [smY,simprocAttr,bl,i64,smE,undefL,undef,i16,ht0];exact rfl));first|refine c_bt ?_|refine c_bf ?_|refine zq ?_|(case hg=>assumption))))
 repeat (refine l_cskip rfl (by decide) rfl ?_;(repeat (first|apply zO (by decide +kernel)|apply zP (by decide +kernel)|(apply zS;(case h=>constructor<;>decide))|((first|apply l_go rfl|apply c_dec|apply zT rfl (by decide) rfl);(case hs=>(simp (disch := first|omega|exact kD rfl|exact kX rfl) only [smY,simprocAttr,bl,i64,smE,undefL,undef,i16,ht0];exact rfl));first|refine c_bt ?_|refine c_bf ?_|refine zq ?_|(case hg=>assumption)))))
 ((first|apply g_ret|apply g_end);case hres => (simp only [smR];simp (disch := first|omega|exact kD rfl|exact kX rfl) only [smY,simprocAttr,bl,i64,smE,undefL,undef,i16,ht0];exact rfl))
 simp (disch := first|omega|exact kD rfl|exact kX rfl) only [smY,simprocAttr,bl,i64,smE,undefL,undef,i16,ht0]
end Go.Proofs.YtlbckpljefadpaaGreat
namespace Go.Proofs.YtlbckpljefadpaaGreat
open Go Go.Lg Go.Num
set_option maxRecDepth 100000
set_option maxHeartbeats 4000000
structure TnE where
 m : Nat
 v : List Nat
 n : Nat
 o : Nat
 g : List Int
 y : List Nat
 rows : List (Nat × Nat × Nat × List Int × List Int)
def elIs (r : LV) (l : List Int) : Bool := match r with
 | .sl k cs => match rdZs k cs with
   | some l' => eqZ l' l
   | none => false
 | _ => false
theorem elIs_ok {r : LV} {l : List Int} (h : elIs r l = true) : r = .sl l.length (qc (rz l)) ∧ ∀ z ∈ l,okZ z = true := by
 unfold elIs at h
 split at h
 ·rename_i k cs
  split at h
  ·rename_i l' hl
   have := eqZ_ok h
   subst this
   obtain ⟨rfl,rfl,h3⟩ := rdZs_ok hl
   exact ⟨rfl,h3⟩
  ·cases h
 ·cases h
theorem wrZL_sl {l : List Int} (h : ∀ z ∈ l,okZ z = true) : wrZL l = .sl l.length (qc (rz l)) := by rw [wrZL_eq h,encF_qc,rz_len]
noncomputable def i2 (x : Option LV) (a b : Nat) : Bool := match x with
 | some (.tup [.lit (.int .i64 (.ofNat c)),.lit (.int .i64 (.ofNat d))]) => Nat.beq c a && Nat.beq d b
 | _ => false
theorem i2_ok {x : Option LV} {a b : Nat} (h : i2 x a b = true) : x = some (.tup [i64 a,i64 b]) := by
 unfold i2 at h
 split at h
 ·rw [Bool.and_eq_true,Nat.beq_eq,Nat.beq_eq] at h
  obtain ⟨rfl,rfl⟩ := h
  rfl
 ·cases h
noncomputable def tnGa (e : TnE) : Bool := match evo orcU 16 [chV e.m e.v] with
 | some (.tup [r,.lit (.int .i64 (.ofNat c)),.lit (.int .i64 (.ofNat z))]) => Nat.beq c e.n && Nat.beq z 0 && elIs r e.g
 | _ => false
noncomputable def tnCj (e : TnE) : Bool := match evo orcU 24 [chV e.m e.v] with
 | some (.tup [.agg [.lit (.int .i64 (.ofNat c)),.sl k cs],.lit (.int .i64 (.ofNat z))]) => match rdNs cs with
   | some l => Nat.beq c e.m && Nat.beq z 0 && Nat.beq k e.y.length && eqN l e.y
   | none => false
 | _ => false
noncomputable def tnNo (e : TnE) : Bool := match evo orcU 60 [.lit (.int .i64 (.ofNat e.n)),wrZL e.g] with
 | some r => elIs r e.g
 | none => false
noncomputable def tnCk (e : TnE) : Bool := match evo orcU 58 [.lit (.int .i64 (.ofNat e.n))] with
 | some (.lit (.int .i64 (.ofNat z))) => Nat.beq z 0
 | _ => false
noncomputable def tnG (e : TnE) : Bool := tnGa e && i2 (evo orcU 29 [chV e.m e.v]) e.o 0 && tnCj e && tnNo e && tnCk e
noncomputable def tnIm (e : TnE) (k : Nat) (a : List Int) : Bool := match evo orcU 59 [.lit (.int .i64 (.ofNat e.n)),.lit (.int .i64 (.ofNat k)),wrZL e.g] with
 | some r => elIs r a
 | none => false
noncomputable def tnEl (e : TnE) (x y : Nat) (u : List Int) : Bool := match evo orcU 21 [.lit (.int .i64 (.ofNat e.n)),.agg [.lit (.bool false),.lit (.int .i64 (.ofNat x)),.lit (.int .i64 (.ofNat y))]] with
 | some (.tup [r,.lit (.int .i64 (.ofNat z))]) => Nat.beq z 0 && elIs r u
 | _ => false
noncomputable def tnPr (e : TnE) (u a : List Int) : Bool := match evo orcU 26 [.lit (.int .i64 (.ofNat e.n)),wrZL u,wrZL e.g] with
 | some (.tup [r,.lit (.bool b)]) => b && elIs r a
 | _ => false
noncomputable def tnR (e : TnE) (r : Nat × Nat × Nat × List Int × List Int) : Bool := match r with
 | (k,x,y,u,a) => tnIm e k a && tnEl e x y u && tnPr e u a
def tnOk (e : TnE) : Prop := tnG e = true ∧ e.rows.all (tnR e) = true
def vIs (m : Nat) (y : List Nat) (k a b : Nat) : Bool := match vK m y (k : Int) (od m).length 0 0 1 with
 | some (c,d) => Nat.beq c a && Nat.beq d b
 | none => false
def tnP (e : TnE) : Bool := okV e.m e.y && ((List.range e.y.length).all fun i => Nat.blt (e.y.getD i 0) ((od e.m).getD i 0)) && Nat.beq (e.n % e.m) 0 && Nat.beq (e.n % e.o) 0 && Nat.ble 1 e.n && Nat.ble e.n 60 && Nat.ble 1 e.o && Nat.ble e.o 60 && (List.range (e.n / e.o)).all fun j => fNat ((1 + j * e.o) % e.n) fun k => !(Nat.beq (Nat.gcd k e.n) 1) || e.rows.any fun r => Nat.beq r.1 k && vIs e.m e.y k r.2.1 r.2.2.1 && Nat.ble r.2.2.2.2.length 1000
def tn_1 : TnE := ⟨1,[],1,1,[1],[],[(0,0,1,[1],[1])]⟩
def tn_2 : TnE := ⟨2,[],2,1,[-1],[],[(1,0,1,[1],[-1])]⟩
def tn_3_0 : TnE := ⟨3,[0],3,1,[-1],[0],[(1,0,1,[1],[-1]),(2,0,1,[1],[-1])]⟩
def tn_3_1 : TnE := ⟨3,[1],6,2,[-1,2],[1],[(1,0,1,[1],[-1,2]),(5,1,2,[-1],[1,-2])]⟩
def tn_4_0 : TnE := ⟨4,[0],4,1,[],[0],[(1,0,1,[1],[]),(3,0,1,[1],[])]⟩
def tn_4_1 : TnE := ⟨4,[1],4,2,[0,2],[1],[(1,0,1,[1],[0,2]),(3,1,2,[-1],[0,-2])]⟩
def tn_5_0 : TnE := ⟨5,[0],5,1,[-1],[0],[(1,0,1,[1],[-1]),(2,0,1,[1],[-1]),(3,0,1,[1],[-1]),(4,0,1,[1],[-1])]⟩
def tn_5_1 : TnE := ⟨5,[1],20,4,[0,0,0,-1,1,0,1,1],[3],[(1,0,1,[1],[0,0,0,-1,1,0,1,1]),(9,1,2,[-1],[0,0,0,1,-1,0,-1,-1]),(13,1,4,[0,0,0,0,0,1],[1,-2,-2,1,1,-1,-1,1]),(17,3,4,[0,0,0,0,0,-1],[-1,2,2,-1,-1,1,1,-1])]⟩
def tn_5_2 : TnE := ⟨5,[2],10,2,[1,0,2,-2],[2],[(1,0,1,[1],[1,0,2,-2]),(3,1,2,[-1],[-1,0,-2,2]),(7,1,2,[-1],[-1,0,-2,2]),(9,0,1,[1],[1,0,2,-2])]⟩
def tn_5_3 : TnE := ⟨5,[3],20,4,[0,0,0,1,1,0,1,-1],[1],[(1,0,1,[1],[0,0,0,1,1,0,1,-1]),(9,1,2,[-1],[0,0,0,-1,-1,0,-1,1]),(13,3,4,[0,0,0,0,0,-1],[1,2,-2,-1,1,1,-1,-1]),(17,1,4,[0,0,0,0,0,1],[-1,-2,2,1,-1,-1,1,1])]⟩
def tn_6_0 : TnE := ⟨6,[0],6,1,[1],[0],[(1,0,1,[1],[1]),(5,0,1,[1],[1])]⟩
def tn_6_1 : TnE := ⟨6,[1],6,2,[-1,2],[1],[(1,0,1,[1],[-1,2]),(5,1,2,[-1],[1,-2])]⟩
def tn_7_0 : TnE := ⟨7,[0],7,1,[-1],[0],[(1,0,1,[1],[-1]),(2,0,1,[1],[-1]),(3,0,1,[1],[-1]),(4,0,1,[1],[-1]),(5,0,1,[1],[-1]),(6,0,1,[1],[-1])]⟩
def tn_7_1 : TnE := ⟨7,[1],42,6,[0,-1,-1,0,-1,-1,1,0,1,0,1],[5],[(1,0,1,[1],[0,-1,-1,0,-1,-1,1,0,1,0,1]),(13,1,2,[-1],[0,1,1,0,1,1,-1,0,-1,0,-1]),(19,1,6,[0,0,0,0,0,0,0,1],[2,0,-1,-3,-1,1,2,-1,-2,-2,2,1]),(25,1,3,[-1,0,0,0,0,0,0,1],[2,1,0,-3,0,2,1,-1,-3,-2,1,1]),(31,5,6,[1,0,0,0,0,0,0,-1],[-2,-1,0,3,0,-2,-1,1,3,2,-1,-1]),(37,2,3,[0,0,0,0,0,0,0,-1],[-2,0,1,3,1,-1,-2,1,2,2,-2,-1])]⟩
def tn_7_2 : TnE := ⟨7,[2],21,3,[2,-1,-2,3,-2,-2,1,1,-1,0,1,-3],[4],[(1,0,1,[1],[2,-1,-2,3,-2,-2,1,1,-1,0,1,-3]),(4,2,3,[-1,0,0,0,0,0,0,-1],[-2,2,1,-3,1,1,-2,-1,2,0,-2,3]),(10,2,3,[-1,0,0,0,0,0,0,-1],[-2,2,1,-3,1,1,-2,-1,2,0,-2,3]),(13,0,1,[1],[2,-1,-2,3,-2,-2,1,1,-1,0,1,-3]),(16,1,3,[0,0,0,0,0,0,0,1],[0,-1,1,0,1,1,1,0,-1,0,1]),(19,1,3,[0,0,0,0,0,0,0,1],[0,-1,1,0,1,1,1,0,-1,0,1])]⟩
def tn_7_3 : TnE := ⟨7,[3],14,2,[1,-2,2,0,2],[3],[(1,0,1,[1],[1,-2,2,0,2]),(3,1,2,[-1],[-1,2,-2,0,-2]),(5,1,2,[-1],[-1,2,-2,0,-2]),(9,0,1,[1],[1,-2,2,0,2]),(11,0,1,[1],[1,-2,2,0,2]),(13,1,2,[-1],[-1,2,-2,0,-2])]⟩
def tn_7_4 : TnE := ⟨7,[4],21,3,[-1,1,2,0,-1,2,-1,-1,1,0,-1],[2],[(1,0,1,[1],[-1,1,2,0,-1,2,-1,-1,1,0,-1]),(4,1,3,[0,0,0,0,0,0,0,1],[0,1,-1,0,2,-1,-1,1,1,0,2]),(10,1,3,[0,0,0,0,0,0,0,1],[0,1,-1,0,2,-1,-1,1,1,0,2]),(13,0,1,[1],[-1,1,2,0,-1,2,-1,-1,1,0,-1]),(16,2,3,[-1,0,0,0,0,0,0,-1],[1,-2,-1,0,-1,-1,2,0,-2,0,-1]),(19,2,3,[-1,0,0,0,0,0,0,-1],[1,-2,-1,0,-1,-1,2,0,-2,0,-1])]⟩
def tn_7_5 : TnE := ⟨7,[5],42,6,[1,0,1,0,-1,1,2,0,0,-2,-1,2],[1],[(1,0,1,[1],[1,0,1,0,-1,1,2,0,0,-2,-1,2]),(13,1,2,[-1],[-1,0,-1,0,1,-1,-2,0,0,2,1,-2]),(19,5,6,[1,0,0,0,0,0,0,-1],[0,1,1,0,0,-1,1,1,1,-2,-2]),(25,2,3,[0,0,0,0,0,0,0,-1],[-1,1,0,0,1,-2,-1,1,1,0,-1,-2]),(31,1,6,[0,0,0,0,0,0,0,1],[1,-1,0,0,-1,2,1,-1,-1,0,1,2]),(37,1,3,[-1,0,0,0,0,0,0,1],[0,-1,-1,0,0,1,-1,-1,-1,2,2])]⟩
def tn_8_0_0 : TnE := ⟨8,[0,0],8,1,[],[0,0],[(1,0,1,[1],[]),(3,0,1,[1],[]),(5,0,1,[1],[]),(7,0,1,[1],[])]⟩
def tn_8_0_1 : TnE := ⟨8,[0,1],8,2,[0,2,0,-2],[0,1],[(1,0,1,[1],[0,2,0,-2]),(3,1,2,[-1],[0,-2,0,2]),(5,1,2,[-1],[0,-2,0,2]),(7,0,1,[1],[0,2,0,-2])]⟩
def tn_8_1_0 : TnE := ⟨8,[1,0],8,2,[],[1,0],[(1,0,1,[1],[]),(3,1,2,[-1],[]),(5,0,1,[1],[]),(7,1,2,[-1],[])]⟩
def tn_8_1_1 : TnE := ⟨8,[1,1],8,2,[0,2,0,2],[1,1],[(1,0,1,[1],[0,2,0,2]),(3,0,1,[1],[0,2,0,2]),(5,1,2,[-1],[0,-2,0,-2]),(7,1,2,[-1],[0,-2,0,-2])]⟩
def tn_9_0 : TnE := ⟨9,[0],9,1,[],[0],[(1,0,1,[1],[]),(2,0,1,[1],[]),(4,0,1,[1],[]),(5,0,1,[1],[]),(7,0,1,[1],[]),(8,0,1,[1],[])]⟩
def tn_9_1 : TnE := ⟨9,[1],18,6,[0,-3,0,0,3],[5],[(1,0,1,[1],[0,-3,0,0,3]),(7,1,3,[-1,0,0,1],[0,0,0,0,-3]),(13,2,3,[0,0,0,-1],[0,3])]⟩
def tn_9_2 : TnE := ⟨9,[2],9,3,[0,3],[4],[(1,0,1,[1],[0,3]),(4,1,3,[0,0,0,1],[0,0,0,0,3]),(7,2,3,[-1,0,0,-1],[0,-3,0,0,-3])]⟩
def tn_9_3 : TnE := ⟨9,[3],18,2,[],[3],[(1,0,1,[1],[]),(5,1,2,[-1],[]),(7,0,1,[1],[]),(11,1,2,[-1],[]),(13,0,1,[1],[]),(17,1,2,[-1],[])]⟩
def tn_9_4 : TnE := ⟨9,[4],9,3,[0,0,-3,0,0,-3],[2],[(1,0,1,[1],[0,0,-3,0,0,-3]),(4,2,3,[-1,0,0,-1],[0,0,0,0,0,3]),(7,1,3,[0,0,0,1],[0,0,3])]⟩
def tn_9_5 : TnE := ⟨9,[5],18,6,[0,0,3],[1],[(1,0,1,[1],[0,0,3]),(7,2,3,[0,0,0,-1],[0,0,0,0,0,-3]),(13,1,3,[-1,0,0,1],[0,0,-3,0,0,3])]⟩
def tn_10_0 : TnE := ⟨10,[0],10,1,[1],[0],[(1,0,1,[1],[1]),(3,0,1,[1],[1]),(7,0,1,[1],[1]),(9,0,1,[1],[1])]⟩
def tn_10_1 : TnE := ⟨10,[1],20,4,[-1,2,2,-1,-1,1,1,-1],[3],[(1,0,1,[1],[-1,2,2,-1,-1,1,1,-1]),(9,1,2,[-1],[1,-2,-2,1,1,-1,-1,1]),(13,1,4,[0,0,0,0,0,1],[0,0,0,-1,1,0,1,1]),(17,3,4,[0,0,0,0,0,-1],[0,0,0,1,-1,0,-1,-1])]⟩
def tn_10_2 : TnE := ⟨10,[2],10,2,[1,0,2,-2],[2],[(1,0,1,[1],[1,0,2,-2]),(3,1,2,[-1],[-1,0,-2,2]),(7,1,2,[-1],[-1,0,-2,2]),(9,0,1,[1],[1,0,2,-2])]⟩
def tn_10_3 : TnE := ⟨10,[3],20,4,[-1,-2,2,1,-1,-1,1,1],[1],[(1,0,1,[1],[-1,-2,2,1,-1,-1,1,1]),(9,1,2,[-1],[1,2,-2,-1,1,1,-1,-1]),(13,3,4,[0,0,0,0,0,-1],[0,0,0,1,1,0,1,-1]),(17,1,4,[0,0,0,0,0,1],[0,0,0,-1,-1,0,-1,1])]⟩
def tn_11_0 : TnE := ⟨11,[0],11,1,[-1],[0],[(1,0,1,[1],[-1]),(2,0,1,[1],[-1]),(3,0,1,[1],[-1]),(4,0,1,[1],[-1]),(5,0,1,[1],[-1]),(6,0,1,[1],[-1]),(7,0,1,[1],[-1]),(8,0,1,[1],[-1]),(9,0,1,[1],[-1]),(10,0,1,[1],[-1])]⟩
def tn_11_5 : TnE := ⟨11,[5],22,2,[-1,2,0,2,-2,2,0,0,0,2],[5],[(1,0,1,[1],[-1,2,0,2,-2,2,0,0,0,2]),(3,0,1,[1],[-1,2,0,2,-2,2,0,0,0,2]),(5,0,1,[1],[-1,2,0,2,-2,2,0,0,0,2]),(7,1,2,[-1],[1,-2,0,-2,2,-2,0,0,0,-2]),(9,0,1,[1],[-1,2,0,2,-2,2,0,0,0,2]),(13,1,2,[-1],[1,-2,0,-2,2,-2,0,0,0,-2]),(15,0,1,[1],[-1,2,0,2,-2,2,0,0,0,2]),(17,1,2,[-1],[1,-2,0,-2,2,-2,0,0,0,-2]),(19,1,2,[-1],[1,-2,0,-2,2,-2,0,0,0,-2]),(21,1,2,[-1],[1,-2,0,-2,2,-2,0,0,0,-2])]⟩
def tn_12_0_0 : TnE := ⟨12,[0,0],12,1,[],[0,0],[(1,0,1,[1],[]),(5,0,1,[1],[]),(7,0,1,[1],[]),(11,0,1,[1],[])]⟩
def tn_12_0_1 : TnE := ⟨12,[0,1],12,2,[],[0,1],[(1,0,1,[1],[]),(5,1,2,[-1],[]),(7,0,1,[1],[]),(11,1,2,[-1],[])]⟩
def tn_12_1_0 : TnE := ⟨12,[1,0],12,2,[0,0,0,2],[1,0],[(1,0,1,[1],[0,0,0,2]),(5,0,1,[1],[0,0,0,2]),(7,1,2,[-1],[0,0,0,-2]),(11,1,2,[-1],[0,0,0,-2])]⟩
def tn_12_1_1 : TnE := ⟨12,[1,1],12,2,[0,4,0,-2],[1,1],[(1,0,1,[1],[0,4,0,-2]),(5,1,2,[-1],[0,-4,0,2]),(7,1,2,[-1],[0,-4,0,2]),(11,0,1,[1],[0,4,0,-2])]⟩
def tn_13_0 : TnE := ⟨13,[0],13,1,[-1],[0],[(1,0,1,[1],[-1]),(2,0,1,[1],[-1]),(3,0,1,[1],[-1]),(4,0,1,[1],[-1]),(5,0,1,[1],[-1]),(6,0,1,[1],[-1]),(7,0,1,[1],[-1]),(8,0,1,[1],[-1]),(9,0,1,[1],[-1]),(10,0,1,[1],[-1]),(11,0,1,[1],[-1]),(12,0,1,[1],[-1])]⟩
def tn_13_6 : TnE := ⟨13,[6],26,2,[1,0,2,0,0,-2,2,-2,2,0,0,-2],[6],[(1,0,1,[1],[1,0,2,0,0,-2,2,-2,2,0,0,-2]),(3,0,1,[1],[1,0,2,0,0,-2,2,-2,2,0,0,-2]),(5,1,2,[-1],[-1,0,-2,0,0,2,-2,2,-2,0,0,2]),(7,1,2,[-1],[-1,0,-2,0,0,2,-2,2,-2,0,0,2]),(9,0,1,[1],[1,0,2,0,0,-2,2,-2,2,0,0,-2]),(11,1,2,[-1],[-1,0,-2,0,0,2,-2,2,-2,0,0,2]),(15,1,2,[-1],[-1,0,-2,0,0,2,-2,2,-2,0,0,2]),(17,0,1,[1],[1,0,2,0,0,-2,2,-2,2,0,0,-2]),(19,1,2,[-1],[-1,0,-2,0,0,2,-2,2,-2,0,0,2]),(21,1,2,[-1],[-1,0,-2,0,0,2,-2,2,-2,0,0,2]),(23,0,1,[1],[1,0,2,0,0,-2,2,-2,2,0,0,-2]),(25,0,1,[1],[1,0,2,0,0,-2,2,-2,2,0,0,-2])]⟩
def tn_14_0 : TnE := ⟨14,[0],14,1,[1],[0],[(1,0,1,[1],[1]),(3,0,1,[1],[1]),(5,0,1,[1],[1]),(9,0,1,[1],[1]),(11,0,1,[1],[1]),(13,0,1,[1],[1])]⟩
def tn_14_1 : TnE := ⟨14,[1],42,6,[-2,-1,0,3,0,-2,-1,1,3,2,-1,-1],[5],[(1,0,1,[1],[-2,-1,0,3,0,-2,-1,1,3,2,-1,-1]),(13,1,2,[-1],[2,1,0,-3,0,2,1,-1,-3,-2,1,1]),(19,1,6,[0,0,0,0,0,0,0,1],[0,-1,-1,0,-1,-1,1,0,1,0,1]),(25,1,3,[-1,0,0,0,0,0,0,1],[2,0,-1,-3,-1,1,2,-1,-2,-2,2,1]),(31,5,6,[1,0,0,0,0,0,0,-1],[-2,0,1,3,1,-1,-2,1,2,2,-2,-1]),(37,2,3,[0,0,0,0,0,0,0,-1],[0,1,1,0,1,1,-1,0,-1,0,-1])]⟩
def tn_14_2 : TnE := ⟨14,[2],42,3,[1,1,-2,0,1,2,1,-1,-1,0,1],[4],[(1,0,1,[1],[1,1,-2,0,1,2,1,-1,-1,0,1]),(13,0,1,[1],[1,1,-2,0,1,2,1,-1,-1,0,1]),(19,1,3,[-1,0,0,0,0,0,0,1],[-1,-2,1,0,1,-1,-2,0,2,0,1]),(25,2,3,[0,0,0,0,0,0,0,-1],[0,1,1,0,-2,-1,1,1,-1,0,-2]),(31,2,3,[0,0,0,0,0,0,0,-1],[0,1,1,0,-2,-1,1,1,-1,0,-2]),(37,1,3,[-1,0,0,0,0,0,0,1],[-1,-2,1,0,1,-1,-2,0,2,0,1])]⟩
def tn_14_3 : TnE := ⟨14,[3],14,2,[-1,2,-2,0,-2],[3],[(1,0,1,[1],[-1,2,-2,0,-2]),(3,1,2,[-1],[1,-2,2,0,2]),(5,1,2,[-1],[1,-2,2,0,2]),(9,0,1,[1],[-1,2,-2,0,-2]),(11,0,1,[1],[-1,2,-2,0,-2]),(13,1,2,[-1],[1,-2,2,0,2])]⟩
def tn_14_4 : TnE := ⟨14,[4],42,3,[-2,-1,2,3,2,-2,-1,1,1,0,-1,-3],[2],[(1,0,1,[1],[-2,-1,2,3,2,-2,-1,1,1,0,-1,-3]),(13,0,1,[1],[-2,-1,2,3,2,-2,-1,1,1,0,-1,-3]),(19,2,3,[0,0,0,0,0,0,0,-1],[0,-1,-1,0,-1,1,-1,0,1,0,-1]),(25,1,3,[-1,0,0,0,0,0,0,1],[2,2,-1,-3,-1,1,2,-1,-2,0,2,3]),(31,1,3,[-1,0,0,0,0,0,0,1],[2,2,-1,-3,-1,1,2,-1,-2,0,2,3]),(37,2,3,[0,0,0,0,0,0,0,-1],[0,-1,-1,0,-1,1,-1,0,1,0,-1])]⟩
def tn_14_5 : TnE := ⟨14,[5],42,6,[1,-1,0,0,-1,2,1,-1,-1,0,1,2],[1],[(1,0,1,[1],[1,-1,0,0,-1,2,1,-1,-1,0,1,2]),(13,1,2,[-1],[-1,1,0,0,1,-2,-1,1,1,0,-1,-2]),(19,5,6,[1,0,0,0,0,0,0,-1],[1,0,1,0,-1,1,2,0,0,-2,-1,2]),(25,2,3,[0,0,0,0,0,0,0,-1],[0,1,1,0,0,-1,1,1,1,-2,-2]),(31,1,6,[0,0,0,0,0,0,0,1],[0,-1,-1,0,0,1,-1,-1,-1,2,2]),(37,1,3,[-1,0,0,0,0,0,0,1],[-1,0,-1,0,1,-1,-2,0,0,2,1,-2])]⟩
def tn_15_0_0 : TnE := ⟨15,[0,0],15,1,[1],[0,0],[(1,0,1,[1],[1]),(2,0,1,[1],[1]),(4,0,1,[1],[1]),(7,0,1,[1],[1]),(8,0,1,[1],[1]),(11,0,1,[1],[1]),(13,0,1,[1],[1]),(14,0,1,[1],[1])]⟩
def tn_15_0_2 : TnE := ⟨15,[0,2],30,2,[-1,0,2,2,0,0,0,-2],[0,2],[(1,0,1,[1],[-1,0,2,2,0,0,0,-2]),(7,1,2,[-1],[1,0,-2,-2,0,0,0,2]),(11,0,1,[1],[-1,0,2,2,0,0,0,-2]),(13,1,2,[-1],[1,0,-2,-2,0,0,0,2]),(17,1,2,[-1],[1,0,-2,-2,0,0,0,2]),(19,0,1,[1],[-1,0,2,2,0,0,0,-2]),(23,1,2,[-1],[1,0,-2,-2,0,0,0,2]),(29,0,1,[1],[-1,0,2,2,0,0,0,-2])]⟩
def tn_15_1_0 : TnE := ⟨15,[1,0],30,2,[-1,0,0,0,0,2],[1,0],[(1,0,1,[1],[-1,0,0,0,0,2]),(7,0,1,[1],[-1,0,0,0,0,2]),(11,1,2,[-1],[1,0,0,0,0,-2]),(13,0,1,[1],[-1,0,0,0,0,2]),(17,1,2,[-1],[1,0,0,0,0,-2]),(19,0,1,[1],[-1,0,0,0,0,2]),(23,1,2,[-1],[1,0,0,0,0,-2]),(29,1,2,[-1],[1,0,0,0,0,-2])]⟩
def tn_15_1_2 : TnE := ⟨15,[1,2],30,2,[-3,-4,2,2,4,2,0,-2],[1,2],[(1,0,1,[1],[-3,-4,2,2,4,2,0,-2]),(7,1,2,[-1],[3,4,-2,-2,-4,-2,0,2]),(11,1,2,[-1],[3,4,-2,-2,-4,-2,0,2]),(13,1,2,[-1],[3,4,-2,-2,-4,-2,0,2]),(17,0,1,[1],[-3,-4,2,2,4,2,0,-2]),(19,0,1,[1],[-3,-4,2,2,4,2,0,-2]),(23,0,1,[1],[-3,-4,2,2,4,2,0,-2]),(29,1,2,[-1],[3,4,-2,-2,-4,-2,0,2])]⟩
def tn_16_0_0 : TnE := ⟨16,[0,0],16,1,[],[0,0],[(1,0,1,[1],[]),(3,0,1,[1],[]),(5,0,1,[1],[]),(7,0,1,[1],[]),(9,0,1,[1],[]),(11,0,1,[1],[]),(13,0,1,[1],[]),(15,0,1,[1],[])]⟩
def tn_16_0_1 : TnE := ⟨16,[0,1],16,4,[0,0,0,0,0,0,0,-4],[0,3],[(1,0,1,[1],[0,0,0,0,0,0,0,-4]),(5,3,4,[0,0,0,0,-1],[0,0,0,-4]),(9,1,2,[-1],[0,0,0,0,0,0,0,4]),(13,1,4,[0,0,0,0,1],[0,0,0,4])]⟩
def tn_16_0_2 : TnE := ⟨16,[0,2],16,2,[],[0,2],[(1,0,1,[1],[]),(3,1,2,[-1],[]),(5,1,2,[-1],[]),(7,0,1,[1],[]),(9,0,1,[1],[]),(11,1,2,[-1],[]),(13,1,2,[-1],[]),(15,0,1,[1],[])]⟩
def tn_16_0_3 : TnE := ⟨16,[0,3],16,4,[0,4],[0,1],[(1,0,1,[1],[0,4]),(5,1,4,[0,0,0,0,1],[0,0,0,0,0,4]),(9,1,2,[-1],[0,-4]),(13,3,4,[0,0,0,0,-1],[0,0,0,0,0,-4])]⟩
def tn_16_1_0 : TnE := ⟨16,[1,0],16,2,[],[1,0],[(1,0,1,[1],[]),(3,1,2,[-1],[]),(5,0,1,[1],[]),(7,1,2,[-1],[]),(9,0,1,[1],[]),(11,1,2,[-1],[]),(13,0,1,[1],[]),(15,1,2,[-1],[])]⟩
def tn_16_1_1 : TnE := ⟨16,[1,1],16,4,[0,0,0,0,0,0,0,4],[1,3],[(1,0,1,[1],[0,0,0,0,0,0,0,4]),(5,3,4,[0,0,0,0,-1],[0,0,0,4]),(9,1,2,[-1],[0,0,0,0,0,0,0,-4]),(13,1,4,[0,0,0,0,1],[0,0,0,-4])]⟩
def tn_16_1_2 : TnE := ⟨16,[1,2],16,2,[],[1,2],[(1,0,1,[1],[]),(3,0,1,[1],[]),(5,1,2,[-1],[]),(7,1,2,[-1],[]),(9,0,1,[1],[]),(11,0,1,[1],[]),(13,1,2,[-1],[]),(15,1,2,[-1],[])]⟩
def tn_16_1_3 : TnE := ⟨16,[1,3],16,4,[0,4],[1,1],[(1,0,1,[1],[0,4]),(5,1,4,[0,0,0,0,1],[0,0,0,0,0,4]),(9,1,2,[-1],[0,-4]),(13,3,4,[0,0,0,0,-1],[0,0,0,0,0,-4])]⟩
def tn_18_0 : TnE := ⟨18,[0],18,1,[],[0],[(1,0,1,[1],[]),(5,0,1,[1],[]),(7,0,1,[1],[]),(11,0,1,[1],[]),(13,0,1,[1],[]),(17,0,1,[1],[])]⟩
def tn_18_1 : TnE := ⟨18,[1],18,6,[0,3],[5],[(1,0,1,[1],[0,3]),(7,1,3,[-1,0,0,1],[0,-3,0,0,3]),(13,2,3,[0,0,0,-1],[0,0,0,0,-3])]⟩
def tn_18_2 : TnE := ⟨18,[2],18,3,[0,0,3,0,0,-3],[4],[(1,0,1,[1],[0,0,3,0,0,-3]),(7,2,3,[0,0,0,-1],[0,0,-3]),(13,1,3,[-1,0,0,1],[0,0,0,0,0,3])]⟩
def tn_18_3 : TnE := ⟨18,[3],18,2,[],[3],[(1,0,1,[1],[]),(5,1,2,[-1],[]),(7,0,1,[1],[]),(11,1,2,[-1],[]),(13,0,1,[1],[]),(17,1,2,[-1],[])]⟩
def tn_18_4 : TnE := ⟨18,[4],18,3,[0,3],[2],[(1,0,1,[1],[0,3]),(7,1,3,[-1,0,0,1],[0,-3,0,0,3]),(13,2,3,[0,0,0,-1],[0,0,0,0,-3])]⟩
def tn_18_5 : TnE := ⟨18,[5],18,6,[0,0,-3,0,0,3],[1],[(1,0,1,[1],[0,0,-3,0,0,3]),(7,2,3,[0,0,0,-1],[0,0,3]),(13,1,3,[-1,0,0,1],[0,0,0,0,0,-3])]⟩
def tn_20_0_0 : TnE := ⟨20,[0,0],20,1,[],[0,0],[(1,0,1,[1],[]),(3,0,1,[1],[]),(7,0,1,[1],[]),(9,0,1,[1],[]),(11,0,1,[1],[]),(13,0,1,[1],[]),(17,0,1,[1],[]),(19,0,1,[1],[])]⟩
def tn_20_0_1 : TnE := ⟨20,[0,1],20,4,[],[0,3],[(1,0,1,[1],[]),(9,1,2,[-1],[]),(13,1,4,[0,0,0,0,0,1],[]),(17,3,4,[0,0,0,0,0,-1],[])]⟩
def tn_20_0_2 : TnE := ⟨20,[0,2],20,2,[],[0,2],[(1,0,1,[1],[]),(3,1,2,[-1],[]),(7,1,2,[-1],[]),(9,0,1,[1],[]),(11,0,1,[1],[]),(13,1,2,[-1],[]),(17,1,2,[-1],[]),(19,0,1,[1],[])]⟩
def tn_20_0_3 : TnE := ⟨20,[0,3],20,4,[],[0,1],[(1,0,1,[1],[]),(9,1,2,[-1],[]),(13,3,4,[0,0,0,0,0,-1],[]),(17,1,4,[0,0,0,0,0,1],[])]⟩
def tn_20_1_0 : TnE := ⟨20,[1,0],20,2,[0,0,0,0,0,-2],[1,0],[(1,0,1,[1],[0,0,0,0,0,-2]),(3,1,2,[-1],[0,0,0,0,0,2]),(7,1,2,[-1],[0,0,0,0,0,2]),(9,0,1,[1],[0,0,0,0,0,-2]),(11,1,2,[-1],[0,0,0,0,0,2]),(13,0,1,[1],[0,0,0,0,0,-2]),(17,0,1,[1],[0,0,0,0,0,-2]),(19,1,2,[-1],[0,0,0,0,0,2])]⟩
def tn_20_1_1 : TnE := ⟨20,[1,1],20,4,[-2,4,4,-2,-2,2,2,-2],[1,3],[(1,0,1,[1],[-2,4,4,-2,-2,2,2,-2]),(9,1,2,[-1],[2,-4,-4,2,2,-2,-2,2]),(13,1,4,[0,0,0,0,0,1],[0,0,0,-2,2,0,2,2]),(17,3,4,[0,0,0,0,0,-1],[0,0,0,2,-2,0,-2,-2])]⟩
def tn_20_1_2 : TnE := ⟨20,[1,2],20,2,[0,0,0,4,0,-2,0,4],[1,2],[(1,0,1,[1],[0,0,0,4,0,-2,0,4]),(3,0,1,[1],[0,0,0,4,0,-2,0,4]),(7,0,1,[1],[0,0,0,4,0,-2,0,4]),(9,0,1,[1],[0,0,0,4,0,-2,0,4]),(11,1,2,[-1],[0,0,0,-4,0,2,0,-4]),(13,1,2,[-1],[0,0,0,-4,0,2,0,-4]),(17,1,2,[-1],[0,0,0,-4,0,2,0,-4]),(19,1,2,[-1],[0,0,0,-4,0,2,0,-4])]⟩
def tn_20_1_3 : TnE := ⟨20,[1,3],20,4,[2,4,-4,-2,2,2,-2,-2],[1,1],[(1,0,1,[1],[2,4,-4,-2,2,2,-2,-2]),(9,1,2,[-1],[-2,-4,4,2,-2,-2,2,2]),(13,3,4,[0,0,0,0,0,-1],[0,0,0,-2,-2,0,-2,2]),(17,1,4,[0,0,0,0,0,1],[0,0,0,2,2,0,2,-2])]⟩
def tn_21_0_0 : TnE := ⟨21,[0,0],21,1,[1],[0,0],[(1,0,1,[1],[1]),(2,0,1,[1],[1]),(4,0,1,[1],[1]),(5,0,1,[1],[1]),(8,0,1,[1],[1]),(10,0,1,[1],[1]),(11,0,1,[1],[1]),(13,0,1,[1],[1]),(16,0,1,[1],[1]),(17,0,1,[1],[1]),(19,0,1,[1],[1]),(20,0,1,[1],[1])]⟩
def tn_21_0_1 : TnE := ⟨21,[0,1],42,6,[-2,0,1,3,1,-1,-2,1,2,2,-2,-1],[0,5],[(1,0,1,[1],[-2,0,1,3,1,-1,-2,1,2,2,-2,-1]),(13,1,2,[-1],[2,0,-1,-3,-1,1,2,-1,-2,-2,2,1]),(19,1,6,[0,0,0,0,0,0,0,1],[-2,-1,0,3,0,-2,-1,1,3,2,-1,-1]),(25,1,3,[-1,0,0,0,0,0,0,1],[0,-1,-1,0,-1,-1,1,0,1,0,1]),(31,5,6,[1,0,0,0,0,0,0,-1],[0,1,1,0,1,1,-1,0,-1,0,-1]),(37,2,3,[0,0,0,0,0,0,0,-1],[2,1,0,-3,0,2,1,-1,-3,-2,1,1])]⟩
def tn_21_0_2 : TnE := ⟨21,[0,2],21,3,[0,1,-1,0,-1,-1,-1,0,1,0,-1],[0,4],[(1,0,1,[1],[0,1,-1,0,-1,-1,-1,0,1,0,-1]),(4,2,3,[-1,0,0,0,0,0,0,-1],[-2,1,2,-3,2,2,-1,-1,1,0,-1,3]),(10,2,3,[-1,0,0,0,0,0,0,-1],[-2,1,2,-3,2,2,-1,-1,1,0,-1,3]),(13,0,1,[1],[0,1,-1,0,-1,-1,-1,0,1,0,-1]),(16,1,3,[0,0,0,0,0,0,0,1],[2,-2,-1,3,-1,-1,2,1,-2,0,2,-3]),(19,1,3,[0,0,0,0,0,0,0,1],[2,-2,-1,3,-1,-1,2,1,-2,0,2,-3])]⟩
def tn_21_0_3 : TnE := ⟨21,[0,3],42,2,[-1,-2,0,0,2,0,0,0,2,2,0,-2],[0,3],[(1,0,1,[1],[-1,-2,0,0,2,0,0,0,2,2,0,-2]),(5,1,2,[-1],[1,2,0,0,-2,0,0,0,-2,-2,0,2]),(11,0,1,[1],[-1,-2,0,0,2,0,0,0,2,2,0,-2]),(13,1,2,[-1],[1,2,0,0,-2,0,0,0,-2,-2,0,2]),(17,1,2,[-1],[1,2,0,0,-2,0,0,0,-2,-2,0,2]),(19,1,2,[-1],[1,2,0,0,-2,0,0,0,-2,-2,0,2]),(23,0,1,[1],[-1,-2,0,0,2,0,0,0,2,2,0,-2]),(25,0,1,[1],[-1,-2,0,0,2,0,0,0,2,2,0,-2]),(29,0,1,[1],[-1,-2,0,0,2,0,0,0,2,2,0,-2]),(31,1,2,[-1],[1,2,0,0,-2,0,0,0,-2,-2,0,2]),(37,0,1,[1],[-1,-2,0,0,2,0,0,0,2,2,0,-2]),(41,1,2,[-1],[1,2,0,0,-2,0,0,0,-2,-2,0,2])]⟩
def tn_21_0_4 : TnE := ⟨21,[0,4],21,3,[-1,2,1,0,1,1,-2,0,2,0,1],[0,2],[(1,0,1,[1],[-1,2,1,0,1,1,-2,0,2,0,1]),(4,1,3,[0,0,0,0,0,0,0,1],[1,-1,-2,0,1,-2,1,1,-1,0,1]),(10,1,3,[0,0,0,0,0,0,0,1],[1,-1,-2,0,1,-2,1,1,-1,0,1]),(13,0,1,[1],[-1,2,1,0,1,1,-2,0,2,0,1]),(16,2,3,[-1,0,0,0,0,0,0,-1],[0,-1,1,0,-2,1,1,-1,-1,0,-2]),(19,2,3,[-1,0,0,0,0,0,0,-1],[0,-1,1,0,-2,1,1,-1,-1,0,-2])]⟩
def tn_21_0_5 : TnE := ⟨21,[0,5],42,6,[0,-1,-1,0,0,1,-1,-1,-1,2,2],[0,1],[(1,0,1,[1],[0,-1,-1,0,0,1,-1,-1,-1,2,2]),(13,1,2,[-1],[0,1,1,0,0,-1,1,1,1,-2,-2]),(19,5,6,[1,0,0,0,0,0,0,-1],[1,-1,0,0,-1,2,1,-1,-1,0,1,2]),(25,2,3,[0,0,0,0,0,0,0,-1],[1,0,1,0,-1,1,2,0,0,-2,-1,2]),(31,1,6,[0,0,0,0,0,0,0,1],[-1,0,-1,0,1,-1,-2,0,0,2,1,-2]),(37,1,3,[-1,0,0,0,0,0,0,1],[-1,1,0,0,1,-2,-1,1,1,0,-1,-2])]⟩
def tn_21_1_0 : TnE := ⟨21,[1,0],42,2,[1,0,0,0,0,0,0,-2],[1,0],[(1,0,1,[1],[1,0,0,0,0,0,0,-2]),(5,1,2,[-1],[-1,0,0,0,0,0,0,2]),(11,1,2,[-1],[-1,0,0,0,0,0,0,2]),(13,0,1,[1],[1,0,0,0,0,0,0,-2]),(17,1,2,[-1],[-1,0,0,0,0,0,0,2]),(19,0,1,[1],[1,0,0,0,0,0,0,-2]),(23,1,2,[-1],[-1,0,0,0,0,0,0,2]),(25,0,1,[1],[1,0,0,0,0,0,0,-2]),(29,1,2,[-1],[-1,0,0,0,0,0,0,2]),(31,0,1,[1],[1,0,0,0,0,0,0,-2]),(37,0,1,[1],[1,0,0,0,0,0,0,-2]),(41,1,2,[-1],[-1,0,0,0,0,0,0,2])]⟩
def tn_21_1_1 : TnE := ⟨21,[1,1],42,6,[2,2,1,-3,1,3,0,-1,-4,-2,0,1],[1,5],[(1,0,1,[1],[2,2,1,-3,1,3,0,-1,-4,-2,0,1]),(13,1,2,[-1],[-2,-2,-1,3,-1,-3,0,1,4,2,0,-1]),(19,1,6,[0,0,0,0,0,0,0,1],[-2,1,2,3,2,0,-3,1,1,2,-3,-1]),(25,1,3,[-1,0,0,0,0,0,0,1],[-4,-1,1,6,1,-3,-3,2,5,4,-3,-2]),(31,5,6,[1,0,0,0,0,0,0,-1],[4,1,-1,-6,-1,3,3,-2,-5,-4,3,2]),(37,2,3,[0,0,0,0,0,0,0,-1],[2,-1,-2,-3,-2,0,3,-1,-1,-2,3,1])]⟩
def tn_21_1_2 : TnE := ⟨21,[1,2],42,6,[-2,-3,3,0,0,-3,-3,1,3],[1,4],[(1,0,1,[1],[-2,-3,3,0,0,-3,-3,1,3]),(13,0,1,[1],[-2,-3,3,0,0,-3,-3,1,3]),(19,1,3,[-1,0,0,0,0,0,0,1],[1,3,0,0,-3,0,3,1,-3,0,-3]),(25,2,3,[0,0,0,0,0,0,0,-1],[1,0,-3,0,3,3,0,-2,0,0,3]),(31,2,3,[0,0,0,0,0,0,0,-1],[1,0,-3,0,3,3,0,-2,0,0,3]),(37,1,3,[-1,0,0,0,0,0,0,1],[1,3,0,0,-3,0,3,1,-3,0,-3])]⟩
def tn_21_1_3 : TnE := ⟨21,[1,3],42,2,[-1,2,4,0,-2,0,0,2,2,-2,0,-2],[1,3],[(1,0,1,[1],[-1,2,4,0,-2,0,0,2,2,-2,0,-2]),(5,0,1,[1],[-1,2,4,0,-2,0,0,2,2,-2,0,-2]),(11,1,2,[-1],[1,-2,-4,0,2,0,0,-2,-2,2,0,2]),(13,1,2,[-1],[1,-2,-4,0,2,0,0,-2,-2,2,0,2]),(17,0,1,[1],[-1,2,4,0,-2,0,0,2,2,-2,0,-2]),(19,1,2,[-1],[1,-2,-4,0,2,0,0,-2,-2,2,0,2]),(23,1,2,[-1],[1,-2,-4,0,2,0,0,-2,-2,2,0,2]),(25,0,1,[1],[-1,2,4,0,-2,0,0,2,2,-2,0,-2]),(29,1,2,[-1],[1,-2,-4,0,2,0,0,-2,-2,2,0,2]),(31,1,2,[-1],[1,-2,-4,0,2,0,0,-2,-2,2,0,2]),(37,0,1,[1],[-1,2,4,0,-2,0,0,2,2,-2,0,-2]),(41,0,1,[1],[-1,2,4,0,-2,0,0,2,2,-2,0,-2])]⟩
def tn_21_1_4 : TnE := ⟨21,[1,4],42,6,[-2,0,3,3,3,-3,0,1,0,0,0,-3],[1,2],[(1,0,1,[1],[-2,0,3,3,3,-3,0,1,0,0,0,-3]),(13,0,1,[1],[-2,0,3,3,3,-3,0,1,0,0,0,-3]),(19,2,3,[0,0,0,0,0,0,0,-1],[-2,-3,0,3,0,0,-3,1,3,0,-3,-3]),(25,1,3,[-1,0,0,0,0,0,0,1],[4,3,-3,-6,-3,3,3,-2,-3,0,3,6]),(31,1,3,[-1,0,0,0,0,0,0,1],[4,3,-3,-6,-3,3,3,-2,-3,0,3,6]),(37,2,3,[0,0,0,0,0,0,0,-1],[-2,-3,0,3,0,0,-3,1,3,0,-3,-3])]⟩
def tn_21_1_5 : TnE := ⟨21,[1,5],42,6,[2,-1,1,0,-2,3,3,-1,-1,-2,0,4],[1,1],[(1,0,1,[1],[2,-1,1,0,-2,3,3,-1,-1,-2,0,4]),(13,1,2,[-1],[-2,1,-1,0,2,-3,-3,1,1,2,0,-4]),(19,5,6,[1,0,0,0,0,0,0,-1],[1,1,2,0,-1,0,3,1,1,-4,-3,2]),(25,2,3,[0,0,0,0,0,0,0,-1],[-1,2,1,0,1,-3,0,2,2,-2,-3,-2]),(31,1,6,[0,0,0,0,0,0,0,1],[1,-2,-1,0,-1,3,0,-2,-2,2,3,2]),(37,1,3,[-1,0,0,0,0,0,0,1],[-1,-1,-2,0,1,0,-3,-1,-1,4,3,-2])]⟩
def tn_22_0 : TnE := ⟨22,[0],22,1,[1],[0],[(1,0,1,[1],[1]),(3,0,1,[1],[1]),(5,0,1,[1],[1]),(7,0,1,[1],[1]),(9,0,1,[1],[1]),(13,0,1,[1],[1]),(15,0,1,[1],[1]),(17,0,1,[1],[1]),(19,0,1,[1],[1]),(21,0,1,[1],[1])]⟩
def tn_22_5 : TnE := ⟨22,[5],22,2,[-1,2,0,2,-2,2,0,0,0,2],[5],[(1,0,1,[1],[-1,2,0,2,-2,2,0,0,0,2]),(3,0,1,[1],[-1,2,0,2,-2,2,0,0,0,2]),(5,0,1,[1],[-1,2,0,2,-2,2,0,0,0,2]),(7,1,2,[-1],[1,-2,0,-2,2,-2,0,0,0,-2]),(9,0,1,[1],[-1,2,0,2,-2,2,0,0,0,2]),(13,1,2,[-1],[1,-2,0,-2,2,-2,0,0,0,-2]),(15,0,1,[1],[-1,2,0,2,-2,2,0,0,0,2]),(17,1,2,[-1],[1,-2,0,-2,2,-2,0,0,0,-2]),(19,1,2,[-1],[1,-2,0,-2,2,-2,0,0,0,-2]),(21,1,2,[-1],[1,-2,0,-2,2,-2,0,0,0,-2])]⟩
def tn_24_0_0_0 : TnE := ⟨24,[0,0,0],24,1,[],[0,0,0],[(1,0,1,[1],[]),(5,0,1,[1],[]),(7,0,1,[1],[]),(11,0,1,[1],[]),(13,0,1,[1],[]),(17,0,1,[1],[]),(19,0,1,[1],[]),(23,0,1,[1],[])]⟩
def tn_24_0_0_1 : TnE := ⟨24,[0,0,1],24,2,[],[0,0,1],[(1,0,1,[1],[]),(5,1,2,[-1],[]),(7,0,1,[1],[]),(11,1,2,[-1],[]),(13,0,1,[1],[]),(17,1,2,[-1],[]),(19,0,1,[1],[]),(23,1,2,[-1],[])]⟩
def tn_24_0_1_0 : TnE := ⟨24,[0,1,0],24,2,[0,2,0,2,0,-2],[0,1,0],[(1,0,1,[1],[0,2,0,2,0,-2]),(5,1,2,[-1],[0,-2,0,-2,0,2]),(7,0,1,[1],[0,2,0,2,0,-2]),(11,1,2,[-1],[0,-2,0,-2,0,2]),(13,1,2,[-1],[0,-2,0,-2,0,2]),(17,0,1,[1],[0,2,0,2,0,-2]),(19,1,2,[-1],[0,-2,0,-2,0,2]),(23,0,1,[1],[0,2,0,2,0,-2])]⟩
def tn_24_0_1_1 : TnE := ⟨24,[0,1,1],24,2,[0,2,0,-2,0,2,0,4],[0,1,1],[(1,0,1,[1],[0,2,0,-2,0,2,0,4]),(5,0,1,[1],[0,2,0,-2,0,2,0,4]),(7,0,1,[1],[0,2,0,-2,0,2,0,4]),(11,0,1,[1],[0,2,0,-2,0,2,0,4]),(13,1,2,[-1],[0,-2,0,2,0,-2,0,-4]),(17,1,2,[-1],[0,-2,0,2,0,-2,0,-4]),(19,1,2,[-1],[0,-2,0,2,0,-2,0,-4]),(23,1,2,[-1],[0,-2,0,2,0,-2,0,-4])]⟩
def tn_24_1_0_0 : TnE := ⟨24,[1,0,0],24,2,[],[1,0,0],[(1,0,1,[1],[]),(5,0,1,[1],[]),(7,1,2,[-1],[]),(11,1,2,[-1],[]),(13,0,1,[1],[]),(17,0,1,[1],[]),(19,1,2,[-1],[]),(23,1,2,[-1],[])]⟩
def tn_24_1_0_1 : TnE := ⟨24,[1,0,1],24,2,[],[1,0,1],[(1,0,1,[1],[]),(5,1,2,[-1],[]),(7,1,2,[-1],[]),(11,0,1,[1],[]),(13,0,1,[1],[]),(17,1,2,[-1],[]),(19,1,2,[-1],[]),(23,0,1,[1],[])]⟩
def tn_24_1_1_0 : TnE := ⟨24,[1,1,0],24,2,[0,2,0,-2,0,-2],[1,1,0],[(1,0,1,[1],[0,2,0,-2,0,-2]),(5,1,2,[-1],[0,-2,0,2,0,2]),(7,1,2,[-1],[0,-2,0,2,0,2]),(11,0,1,[1],[0,2,0,-2,0,-2]),(13,1,2,[-1],[0,-2,0,2,0,2]),(17,0,1,[1],[0,2,0,-2,0,-2]),(19,0,1,[1],[0,2,0,-2,0,-2]),(23,1,2,[-1],[0,-2,0,2,0,2])]⟩
def tn_24_1_1_1 : TnE := ⟨24,[1,1,1],24,2,[0,2,0,2,0,2,0,-4],[1,1,1],[(1,0,1,[1],[0,2,0,2,0,2,0,-4]),(5,0,1,[1],[0,2,0,2,0,2,0,-4]),(7,1,2,[-1],[0,-2,0,-2,0,-2,0,4]),(11,1,2,[-1],[0,-2,0,-2,0,-2,0,4]),(13,1,2,[-1],[0,-2,0,-2,0,-2,0,4]),(17,1,2,[-1],[0,-2,0,-2,0,-2,0,4]),(19,0,1,[1],[0,2,0,2,0,2,0,-4]),(23,0,1,[1],[0,2,0,2,0,2,0,-4])]⟩
def tn_26_0 : TnE := ⟨26,[0],26,1,[1],[0],[(1,0,1,[1],[1]),(3,0,1,[1],[1]),(5,0,1,[1],[1]),(7,0,1,[1],[1]),(9,0,1,[1],[1]),(11,0,1,[1],[1]),(15,0,1,[1],[1]),(17,0,1,[1],[1]),(19,0,1,[1],[1]),(21,0,1,[1],[1]),(23,0,1,[1],[1]),(25,0,1,[1],[1])]⟩
def tn_26_6 : TnE := ⟨26,[6],26,2,[1,0,2,0,0,-2,2,-2,2,0,0,-2],[6],[(1,0,1,[1],[1,0,2,0,0,-2,2,-2,2,0,0,-2]),(3,0,1,[1],[1,0,2,0,0,-2,2,-2,2,0,0,-2]),(5,1,2,[-1],[-1,0,-2,0,0,2,-2,2,-2,0,0,2]),(7,1,2,[-1],[-1,0,-2,0,0,2,-2,2,-2,0,0,2]),(9,0,1,[1],[1,0,2,0,0,-2,2,-2,2,0,0,-2]),(11,1,2,[-1],[-1,0,-2,0,0,2,-2,2,-2,0,0,2]),(15,1,2,[-1],[-1,0,-2,0,0,2,-2,2,-2,0,0,2]),(17,0,1,[1],[1,0,2,0,0,-2,2,-2,2,0,0,-2]),(19,1,2,[-1],[-1,0,-2,0,0,2,-2,2,-2,0,0,2]),(21,1,2,[-1],[-1,0,-2,0,0,2,-2,2,-2,0,0,2]),(23,0,1,[1],[1,0,2,0,0,-2,2,-2,2,0,0,-2]),(25,0,1,[1],[1,0,2,0,0,-2,2,-2,2,0,0,-2])]⟩
def tn_28_0_0 : TnE := ⟨28,[0,0],28,1,[],[0,0],[(1,0,1,[1],[]),(3,0,1,[1],[]),(5,0,1,[1],[]),(9,0,1,[1],[]),(11,0,1,[1],[]),(13,0,1,[1],[]),(15,0,1,[1],[]),(17,0,1,[1],[]),(19,0,1,[1],[]),(23,0,1,[1],[]),(25,0,1,[1],[]),(27,0,1,[1],[])]⟩
def tn_28_0_3 : TnE := ⟨28,[0,3],28,2,[],[0,3],[(1,0,1,[1],[]),(3,1,2,[-1],[]),(5,1,2,[-1],[]),(9,0,1,[1],[]),(11,0,1,[1],[]),(13,1,2,[-1],[]),(15,0,1,[1],[]),(17,1,2,[-1],[]),(19,1,2,[-1],[]),(23,0,1,[1],[]),(25,0,1,[1],[]),(27,1,2,[-1],[])]⟩
def tn_28_1_0 : TnE := ⟨28,[1,0],28,2,[0,0,0,0,0,0,0,2],[1,0],[(1,0,1,[1],[0,0,0,0,0,0,0,2]),(3,1,2,[-1],[0,0,0,0,0,0,0,-2]),(5,0,1,[1],[0,0,0,0,0,0,0,2]),(9,0,1,[1],[0,0,0,0,0,0,0,2]),(11,1,2,[-1],[0,0,0,0,0,0,0,-2]),(13,0,1,[1],[0,0,0,0,0,0,0,2]),(15,1,2,[-1],[0,0,0,0,0,0,0,-2]),(17,0,1,[1],[0,0,0,0,0,0,0,2]),(19,1,2,[-1],[0,0,0,0,0,0,0,-2]),(23,1,2,[-1],[0,0,0,0,0,0,0,-2]),(25,0,1,[1],[0,0,0,0,0,0,0,2]),(27,1,2,[-1],[0,0,0,0,0,0,0,-2])]⟩
def tn_28_1_3 : TnE := ⟨28,[1,3],28,2,[0,4,0,0,0,0,0,-2,0,4,0,-4],[1,3],[(1,0,1,[1],[0,4,0,0,0,0,0,-2,0,4,0,-4]),(3,0,1,[1],[0,4,0,0,0,0,0,-2,0,4,0,-4]),(5,1,2,[-1],[0,-4,0,0,0,0,0,2,0,-4,0,4]),(9,0,1,[1],[0,4,0,0,0,0,0,-2,0,4,0,-4]),(11,1,2,[-1],[0,-4,0,0,0,0,0,2,0,-4,0,4]),(13,1,2,[-1],[0,-4,0,0,0,0,0,2,0,-4,0,4]),(15,1,2,[-1],[0,-4,0,0,0,0,0,2,0,-4,0,4]),(17,1,2,[-1],[0,-4,0,0,0,0,0,2,0,-4,0,4]),(19,0,1,[1],[0,4,0,0,0,0,0,-2,0,4,0,-4]),(23,1,2,[-1],[0,-4,0,0,0,0,0,2,0,-4,0,4]),(25,0,1,[1],[0,4,0,0,0,0,0,-2,0,4,0,-4]),(27,0,1,[1],[0,4,0,0,0,0,0,-2,0,4,0,-4])]⟩
def tn_30_0_0 : TnE := ⟨30,[0,0],30,1,[-1],[0,0],[(1,0,1,[1],[-1]),(7,0,1,[1],[-1]),(11,0,1,[1],[-1]),(13,0,1,[1],[-1]),(17,0,1,[1],[-1]),(19,0,1,[1],[-1]),(23,0,1,[1],[-1]),(29,0,1,[1],[-1])]⟩
def tn_30_0_2 : TnE := ⟨30,[0,2],30,2,[-1,0,2,2,0,0,0,-2],[0,2],[(1,0,1,[1],[-1,0,2,2,0,0,0,-2]),(7,1,2,[-1],[1,0,-2,-2,0,0,0,2]),(11,0,1,[1],[-1,0,2,2,0,0,0,-2]),(13,1,2,[-1],[1,0,-2,-2,0,0,0,2]),(17,1,2,[-1],[1,0,-2,-2,0,0,0,2]),(19,0,1,[1],[-1,0,2,2,0,0,0,-2]),(23,1,2,[-1],[1,0,-2,-2,0,0,0,2]),(29,0,1,[1],[-1,0,2,2,0,0,0,-2])]⟩
def tn_30_1_0 : TnE := ⟨30,[1,0],30,2,[-1,0,0,0,0,2],[1,0],[(1,0,1,[1],[-1,0,0,0,0,2]),(7,0,1,[1],[-1,0,0,0,0,2]),(11,1,2,[-1],[1,0,0,0,0,-2]),(13,0,1,[1],[-1,0,0,0,0,2]),(17,1,2,[-1],[1,0,0,0,0,-2]),(19,0,1,[1],[-1,0,0,0,0,2]),(23,1,2,[-1],[1,0,0,0,0,-2]),(29,1,2,[-1],[1,0,0,0,0,-2])]⟩
def tn_30_1_2 : TnE := ⟨30,[1,2],30,2,[3,4,-2,-2,-4,-2,0,2],[1,2],[(1,0,1,[1],[3,4,-2,-2,-4,-2,0,2]),(7,1,2,[-1],[-3,-4,2,2,4,2,0,-2]),(11,1,2,[-1],[-3,-4,2,2,4,2,0,-2]),(13,1,2,[-1],[-3,-4,2,2,4,2,0,-2]),(17,0,1,[1],[3,4,-2,-2,-4,-2,0,2]),(19,0,1,[1],[3,4,-2,-2,-4,-2,0,2]),(23,0,1,[1],[3,4,-2,-2,-4,-2,0,2]),(29,1,2,[-1],[-3,-4,2,2,4,2,0,-2])]⟩
def tn_36_0_0 : TnE := ⟨36,[0,0],36,1,[],[0,0],[(1,0,1,[1],[]),(5,0,1,[1],[]),(7,0,1,[1],[]),(11,0,1,[1],[]),(13,0,1,[1],[]),(17,0,1,[1],[]),(19,0,1,[1],[]),(23,0,1,[1],[]),(25,0,1,[1],[]),(29,0,1,[1],[]),(31,0,1,[1],[]),(35,0,1,[1],[])]⟩
def tn_36_0_1 : TnE := ⟨36,[0,1],36,6,[],[0,5],[(1,0,1,[1],[]),(7,1,3,[-1,0,0,0,0,0,1],[]),(13,2,3,[0,0,0,0,0,0,-1],[]),(19,0,1,[1],[]),(25,1,3,[-1,0,0,0,0,0,1],[]),(31,2,3,[0,0,0,0,0,0,-1],[])]⟩
def tn_36_0_2 : TnE := ⟨36,[0,2],36,3,[],[0,4],[(1,0,1,[1],[]),(7,2,3,[0,0,0,0,0,0,-1],[]),(13,1,3,[-1,0,0,0,0,0,1],[]),(19,0,1,[1],[]),(25,2,3,[0,0,0,0,0,0,-1],[]),(31,1,3,[-1,0,0,0,0,0,1],[])]⟩
def tn_36_0_3 : TnE := ⟨36,[0,3],36,2,[],[0,3],[(1,0,1,[1],[]),(5,1,2,[-1],[]),(7,0,1,[1],[]),(11,1,2,[-1],[]),(13,0,1,[1],[]),(17,1,2,[-1],[]),(19,0,1,[1],[]),(23,1,2,[-1],[]),(25,0,1,[1],[]),(29,1,2,[-1],[]),(31,0,1,[1],[]),(35,1,2,[-1],[])]⟩
def tn_36_0_4 : TnE := ⟨36,[0,4],36,3,[],[0,2],[(1,0,1,[1],[]),(7,1,3,[-1,0,0,0,0,0,1],[]),(13,2,3,[0,0,0,0,0,0,-1],[]),(19,0,1,[1],[]),(25,1,3,[-1,0,0,0,0,0,1],[]),(31,2,3,[0,0,0,0,0,0,-1],[])]⟩
def tn_36_0_5 : TnE := ⟨36,[0,5],36,6,[],[0,1],[(1,0,1,[1],[]),(7,2,3,[0,0,0,0,0,0,-1],[]),(13,1,3,[-1,0,0,0,0,0,1],[]),(19,0,1,[1],[]),(25,2,3,[0,0,0,0,0,0,-1],[]),(31,1,3,[-1,0,0,0,0,0,1],[])]⟩
def tn_36_1_0 : TnE := ⟨36,[1,0],36,2,[],[1,0],[(1,0,1,[1],[]),(5,0,1,[1],[]),(7,1,2,[-1],[]),(11,1,2,[-1],[]),(13,0,1,[1],[]),(17,0,1,[1],[]),(19,1,2,[-1],[]),(23,1,2,[-1],[]),(25,0,1,[1],[]),(29,0,1,[1],[]),(31,1,2,[-1],[]),(35,1,2,[-1],[])]⟩
def tn_36_1_1 : TnE := ⟨36,[1,1],36,6,[0,0,0,0,0,6,0,0,0,0,0,-6],[1,5],[(1,0,1,[1],[0,0,0,0,0,6,0,0,0,0,0,-6]),(7,5,6,[1,0,0,0,0,0,-1],[0,0,0,0,0,0,0,0,0,0,0,-6]),(13,2,3,[0,0,0,0,0,0,-1],[0,0,0,0,0,-6]),(19,1,2,[-1],[0,0,0,0,0,-6,0,0,0,0,0,6]),(25,1,3,[-1,0,0,0,0,0,1],[0,0,0,0,0,0,0,0,0,0,0,6]),(31,1,6,[0,0,0,0,0,0,1],[0,0,0,0,0,6])]⟩
def tn_36_1_2 : TnE := ⟨36,[1,2],36,6,[0,6],[1,4],[(1,0,1,[1],[0,6]),(7,1,6,[0,0,0,0,0,0,1],[0,0,0,0,0,0,0,6]),(13,1,3,[-1,0,0,0,0,0,1],[0,-6,0,0,0,0,0,6]),(19,1,2,[-1],[0,-6]),(25,2,3,[0,0,0,0,0,0,-1],[0,0,0,0,0,0,0,-6]),(31,5,6,[1,0,0,0,0,0,-1],[0,6,0,0,0,0,0,-6])]⟩
def tn_36_1_3 : TnE := ⟨36,[1,3],36,2,[],[1,3],[(1,0,1,[1],[]),(5,1,2,[-1],[]),(7,1,2,[-1],[]),(11,0,1,[1],[]),(13,0,1,[1],[]),(17,1,2,[-1],[]),(19,1,2,[-1],[]),(23,0,1,[1],[]),(25,0,1,[1],[]),(29,1,2,[-1],[]),(31,1,2,[-1],[]),(35,0,1,[1],[])]⟩
def tn_36_1_4 : TnE := ⟨36,[1,4],36,6,[0,0,0,0,0,-6,0,0,0,0,0,6],[1,2],[(1,0,1,[1],[0,0,0,0,0,-6,0,0,0,0,0,6]),(7,5,6,[1,0,0,0,0,0,-1],[0,0,0,0,0,0,0,0,0,0,0,6]),(13,2,3,[0,0,0,0,0,0,-1],[0,0,0,0,0,6]),(19,1,2,[-1],[0,0,0,0,0,6,0,0,0,0,0,-6]),(25,1,3,[-1,0,0,0,0,0,1],[0,0,0,0,0,0,0,0,0,0,0,-6]),(31,1,6,[0,0,0,0,0,0,1],[0,0,0,0,0,-6])]⟩
def tn_36_1_5 : TnE := ⟨36,[1,5],36,6,[0,6],[1,1],[(1,0,1,[1],[0,6]),(7,1,6,[0,0,0,0,0,0,1],[0,0,0,0,0,0,0,6]),(13,1,3,[-1,0,0,0,0,0,1],[0,-6,0,0,0,0,0,6]),(19,1,2,[-1],[0,-6]),(25,2,3,[0,0,0,0,0,0,-1],[0,0,0,0,0,0,0,-6]),(31,5,6,[1,0,0,0,0,0,-1],[0,6,0,0,0,0,0,-6])]⟩
def tn_42_0_0 : TnE := ⟨42,[0,0],42,1,[-1],[0,0],[(1,0,1,[1],[-1]),(5,0,1,[1],[-1]),(11,0,1,[1],[-1]),(13,0,1,[1],[-1]),(17,0,1,[1],[-1]),(19,0,1,[1],[-1]),(23,0,1,[1],[-1]),(25,0,1,[1],[-1]),(29,0,1,[1],[-1]),(31,0,1,[1],[-1]),(37,0,1,[1],[-1]),(41,0,1,[1],[-1])]⟩
def tn_42_0_1 : TnE := ⟨42,[0,1],42,6,[0,1,1,0,1,1,-1,0,-1,0,-1],[0,5],[(1,0,1,[1],[0,1,1,0,1,1,-1,0,-1,0,-1]),(13,1,2,[-1],[0,-1,-1,0,-1,-1,1,0,1,0,1]),(19,1,6,[0,0,0,0,0,0,0,1],[-2,0,1,3,1,-1,-2,1,2,2,-2,-1]),(25,1,3,[-1,0,0,0,0,0,0,1],[-2,-1,0,3,0,-2,-1,1,3,2,-1,-1]),(31,5,6,[1,0,0,0,0,0,0,-1],[2,1,0,-3,0,2,1,-1,-3,-2,1,1]),(37,2,3,[0,0,0,0,0,0,0,-1],[2,0,-1,-3,-1,1,2,-1,-2,-2,2,1])]⟩
def tn_42_0_2 : TnE := ⟨42,[0,2],42,3,[1,2,-1,0,-1,1,2,0,-2,0,-1],[0,4],[(1,0,1,[1],[1,2,-1,0,-1,1,2,0,-2,0,-1]),(13,0,1,[1],[1,2,-1,0,-1,1,2,0,-2,0,-1]),(19,1,3,[-1,0,0,0,0,0,0,1],[0,-1,-1,0,2,1,-1,-1,1,0,2]),(25,2,3,[0,0,0,0,0,0,0,-1],[-1,-1,2,0,-1,-2,-1,1,1,0,-1]),(31,2,3,[0,0,0,0,0,0,0,-1],[-1,-1,2,0,-1,-2,-1,1,1,0,-1]),(37,1,3,[-1,0,0,0,0,0,0,1],[0,-1,-1,0,2,1,-1,-1,1,0,2])]⟩
def tn_42_0_3 : TnE := ⟨42,[0,3],42,2,[1,2,0,0,-2,0,0,0,-2,-2,0,2],[0,3],[(1,0,1,[1],[1,2,0,0,-2,0,0,0,-2,-2,0,2]),(5,1,2,[-1],[-1,-2,0,0,2,0,0,0,2,2,0,-2]),(11,0,1,[1],[1,2,0,0,-2,0,0,0,-2,-2,0,2]),(13,1,2,[-1],[-1,-2,0,0,2,0,0,0,2,2,0,-2]),(17,1,2,[-1],[-1,-2,0,0,2,0,0,0,2,2,0,-2]),(19,1,2,[-1],[-1,-2,0,0,2,0,0,0,2,2,0,-2]),(23,0,1,[1],[1,2,0,0,-2,0,0,0,-2,-2,0,2]),(25,0,1,[1],[1,2,0,0,-2,0,0,0,-2,-2,0,2]),(29,0,1,[1],[1,2,0,0,-2,0,0,0,-2,-2,0,2]),(31,1,2,[-1],[-1,-2,0,0,2,0,0,0,2,2,0,-2]),(37,0,1,[1],[1,2,0,0,-2,0,0,0,-2,-2,0,2]),(41,1,2,[-1],[-1,-2,0,0,2,0,0,0,2,2,0,-2])]⟩
def tn_42_0_4 : TnE := ⟨42,[0,4],42,3,[0,1,1,0,1,-1,1,0,-1,0,1],[0,2],[(1,0,1,[1],[0,1,1,0,1,-1,1,0,-1,0,1]),(13,0,1,[1],[0,1,1,0,1,-1,1,0,-1,0,1]),(19,2,3,[0,0,0,0,0,0,0,-1],[-2,-2,1,3,1,-1,-2,1,2,0,-2,-3]),(25,1,3,[-1,0,0,0,0,0,0,1],[2,1,-2,-3,-2,2,1,-1,-1,0,1,3]),(31,1,3,[-1,0,0,0,0,0,0,1],[2,1,-2,-3,-2,2,1,-1,-1,0,1,3]),(37,2,3,[0,0,0,0,0,0,0,-1],[-2,-2,1,3,1,-1,-2,1,2,0,-2,-3])]⟩
def tn_42_0_5 : TnE := ⟨42,[0,5],42,6,[-1,0,-1,0,1,-1,-2,0,0,2,1,-2],[0,1],[(1,0,1,[1],[-1,0,-1,0,1,-1,-2,0,0,2,1,-2]),(13,1,2,[-1],[1,0,1,0,-1,1,2,0,0,-2,-1,2]),(19,5,6,[1,0,0,0,0,0,0,-1],[0,-1,-1,0,0,1,-1,-1,-1,2,2]),(25,2,3,[0,0,0,0,0,0,0,-1],[1,-1,0,0,-1,2,1,-1,-1,0,1,2]),(31,1,6,[0,0,0,0,0,0,0,1],[-1,1,0,0,1,-2,-1,1,1,0,-1,-2]),(37,1,3,[-1,0,0,0,0,0,0,1],[0,1,1,0,0,-1,1,1,1,-2,-2])]⟩
def tn_42_1_0 : TnE := ⟨42,[1,0],42,2,[1,0,0,0,0,0,0,-2],[1,0],[(1,0,1,[1],[1,0,0,0,0,0,0,-2]),(5,1,2,[-1],[-1,0,0,0,0,0,0,2]),(11,1,2,[-1],[-1,0,0,0,0,0,0,2]),(13,0,1,[1],[1,0,0,0,0,0,0,-2]),(17,1,2,[-1],[-1,0,0,0,0,0,0,2]),(19,0,1,[1],[1,0,0,0,0,0,0,-2]),(23,1,2,[-1],[-1,0,0,0,0,0,0,2]),(25,0,1,[1],[1,0,0,0,0,0,0,-2]),(29,1,2,[-1],[-1,0,0,0,0,0,0,2]),(31,0,1,[1],[1,0,0,0,0,0,0,-2]),(37,0,1,[1],[1,0,0,0,0,0,0,-2]),(41,1,2,[-1],[-1,0,0,0,0,0,0,2])]⟩
def tn_42_1_1 : TnE := ⟨42,[1,1],42,6,[-4,-1,1,6,1,-3,-3,2,5,4,-3,-2],[1,5],[(1,0,1,[1],[-4,-1,1,6,1,-3,-3,2,5,4,-3,-2]),(13,1,2,[-1],[4,1,-1,-6,-1,3,3,-2,-5,-4,3,2]),(19,1,6,[0,0,0,0,0,0,0,1],[-2,-2,-1,3,-1,-3,0,1,4,2,0,-1]),(25,1,3,[-1,0,0,0,0,0,0,1],[2,-1,-2,-3,-2,0,3,-1,-1,-2,3,1]),(31,5,6,[1,0,0,0,0,0,0,-1],[-2,1,2,3,2,0,-3,1,1,2,-3,-1]),(37,2,3,[0,0,0,0,0,0,0,-1],[2,2,1,-3,1,3,0,-1,-4,-2,0,1])]⟩
def tn_42_1_2 : TnE := ⟨42,[1,2],42,6,[1,0,-3,0,3,3,0,-2,0,0,3],[1,4],[(1,0,1,[1],[1,0,-3,0,3,3,0,-2,0,0,3]),(13,0,1,[1],[1,0,-3,0,3,3,0,-2,0,0,3]),(19,1,3,[-1,0,0,0,0,0,0,1],[-2,-3,3,0,0,-3,-3,1,3]),(25,2,3,[0,0,0,0,0,0,0,-1],[1,3,0,0,-3,0,3,1,-3,0,-3]),(31,2,3,[0,0,0,0,0,0,0,-1],[1,3,0,0,-3,0,3,1,-3,0,-3]),(37,1,3,[-1,0,0,0,0,0,0,1],[-2,-3,3,0,0,-3,-3,1,3])]⟩
def tn_42_1_3 : TnE := ⟨42,[1,3],42,2,[-1,2,4,0,-2,0,0,2,2,-2,0,-2],[1,3],[(1,0,1,[1],[-1,2,4,0,-2,0,0,2,2,-2,0,-2]),(5,0,1,[1],[-1,2,4,0,-2,0,0,2,2,-2,0,-2]),(11,1,2,[-1],[1,-2,-4,0,2,0,0,-2,-2,2,0,2]),(13,1,2,[-1],[1,-2,-4,0,2,0,0,-2,-2,2,0,2]),(17,0,1,[1],[-1,2,4,0,-2,0,0,2,2,-2,0,-2]),(19,1,2,[-1],[1,-2,-4,0,2,0,0,-2,-2,2,0,2]),(23,1,2,[-1],[1,-2,-4,0,2,0,0,-2,-2,2,0,2]),(25,0,1,[1],[-1,2,4,0,-2,0,0,2,2,-2,0,-2]),(29,1,2,[-1],[1,-2,-4,0,2,0,0,-2,-2,2,0,2]),(31,1,2,[-1],[1,-2,-4,0,2,0,0,-2,-2,2,0,2]),(37,0,1,[1],[-1,2,4,0,-2,0,0,2,2,-2,0,-2]),(41,0,1,[1],[-1,2,4,0,-2,0,0,2,2,-2,0,-2])]⟩
def tn_42_1_4 : TnE := ⟨42,[1,4],42,6,[4,3,-3,-6,-3,3,3,-2,-3,0,3,6],[1,2],[(1,0,1,[1],[4,3,-3,-6,-3,3,3,-2,-3,0,3,6]),(13,0,1,[1],[4,3,-3,-6,-3,3,3,-2,-3,0,3,6]),(19,2,3,[0,0,0,0,0,0,0,-1],[-2,0,3,3,3,-3,0,1,0,0,0,-3]),(25,1,3,[-1,0,0,0,0,0,0,1],[-2,-3,0,3,0,0,-3,1,3,0,-3,-3]),(31,1,3,[-1,0,0,0,0,0,0,1],[-2,-3,0,3,0,0,-3,1,3,0,-3,-3]),(37,2,3,[0,0,0,0,0,0,0,-1],[-2,0,3,3,3,-3,0,1,0,0,0,-3])]⟩
def tn_42_1_5 : TnE := ⟨42,[1,5],42,6,[-1,2,1,0,1,-3,0,2,2,-2,-3,-2],[1,1],[(1,0,1,[1],[-1,2,1,0,1,-3,0,2,2,-2,-3,-2]),(13,1,2,[-1],[1,-2,-1,0,-1,3,0,-2,-2,2,3,2]),(19,5,6,[1,0,0,0,0,0,0,-1],[-2,1,-1,0,2,-3,-3,1,1,2,0,-4]),(25,2,3,[0,0,0,0,0,0,0,-1],[-1,-1,-2,0,1,0,-3,-1,-1,4,3,-2]),(31,1,6,[0,0,0,0,0,0,0,1],[1,1,2,0,-1,0,3,1,1,-4,-3,2]),(37,1,3,[-1,0,0,0,0,0,0,1],[2,-1,1,0,-2,3,3,-1,-1,-2,0,4])]⟩
def tnT : List (List TnE) := [[],[tn_1],[tn_2],[tn_3_0,tn_3_1],[tn_4_0,tn_4_1],[tn_5_0,tn_5_1,tn_5_2,tn_5_3],[tn_6_0,tn_6_1],[tn_7_0,tn_7_1,tn_7_2,tn_7_3,tn_7_4,tn_7_5],[tn_8_0_0,tn_8_0_1,tn_8_1_0,tn_8_1_1],[tn_9_0,tn_9_1,tn_9_2,tn_9_3,tn_9_4,tn_9_5],[tn_10_0,tn_10_1,tn_10_2,tn_10_3],[tn_11_0,tn_11_5],[tn_12_0_0,tn_12_0_1,tn_12_1_0,tn_12_1_1],[tn_13_0,tn_13_6],[tn_14_0,tn_14_1,tn_14_2,tn_14_3,tn_14_4,tn_14_5],[tn_15_0_0,tn_15_0_2,tn_15_1_0,tn_15_1_2],[tn_16_0_0,tn_16_0_1,tn_16_0_2,tn_16_0_3,tn_16_1_0,tn_16_1_1,tn_16_1_2,tn_16_1_3],[],[tn_18_0,tn_18_1,tn_18_2,tn_18_3,tn_18_4,tn_18_5],[],[tn_20_0_0,tn_20_0_1,tn_20_0_2,tn_20_0_3,tn_20_1_0,tn_20_1_1,tn_20_1_2,tn_20_1_3],[tn_21_0_0,tn_21_0_1,tn_21_0_2,tn_21_0_3,tn_21_0_4,tn_21_0_5,tn_21_1_0,tn_21_1_1,tn_21_1_2,tn_21_1_3,tn_21_1_4,tn_21_1_5],[tn_22_0,tn_22_5],[],[tn_24_0_0_0,tn_24_0_0_1,tn_24_0_1_0,tn_24_0_1_1,tn_24_1_0_0,tn_24_1_0_1,tn_24_1_1_0,tn_24_1_1_1],[],[tn_26_0,tn_26_6],[],[tn_28_0_0,tn_28_0_3,tn_28_1_0,tn_28_1_3],[],[tn_30_0_0,tn_30_0_2,tn_30_1_0,tn_30_1_2],[],[],[],[],[],[tn_36_0_0,tn_36_0_1,tn_36_0_2,tn_36_0_3,tn_36_0_4,tn_36_0_5,tn_36_1_0,tn_36_1_1,tn_36_1_2,tn_36_1_3,tn_36_1_4,tn_36_1_5],[],[],[],[],[],[tn_42_0_0,tn_42_0_1,tn_42_0_2,tn_42_0_3,tn_42_0_4,tn_42_0_5,tn_42_1_0,tn_42_1_1,tn_42_1_2,tn_42_1_3,tn_42_1_4,tn_42_1_5],[],[],[],[],[],[],[],[],[],[],[],[],[],[],[],[],[],[]]
end Go.Proofs.YtlbckpljefadpaaGreat