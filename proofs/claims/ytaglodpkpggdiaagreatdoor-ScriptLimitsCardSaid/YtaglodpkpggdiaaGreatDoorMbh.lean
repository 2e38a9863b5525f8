/-
  The law ScriptLimits, on plain data.
-/
import Derived.Test.YtaglodpkpggdiaaGreatDoorMbg
set_option linter.unusedSimpArgs false
set_option linter.unusedVariables false
namespace Go.Proofs.YtaglodpkpggdiaaGreatDoor
open Go Go.Gm
theorem z2t : ∀ (m n : Nat) (r r0 : Bytes),n ≤ m → n ≤ 9223372036854775807 → r.length + Go.Lib.nDigits n ≤ 1000 →
  q39 ((n : Int),UInt8.ofNat (48 + n % 10) :: r,r0) = some (dT n ++ r) := by
 intro m
 induction m with
 | zero =>
  intro n r r0 h1 h2 h3
  have : n = 0 := by omega
  subst this
  rw [q39.eq_1,if_neg (by simp)]
  unfold dT
  rw [Go.Lib.decDigits_one (by omega)]
  rfl
 | succ m ih =>
  intro n r r0 h1 h2 h3
  rw [q39.eq_1]
  by_cases h : 10 ≤ n
  ·rw [if_pos (by simp; omega)]
   have hd : ((n : Nat) : Int).tdiv 10 = ((n / 10 : Nat) : Int) := by
    rw [Int.tdiv_eq_ediv_of_nonneg (by omega)]
    rfl
   rw [hd,jl (n := ((n / 10 : Nat) : Int)),qgm]
   have hn := Go.Lib.nDigits_big (u := n) (by omega)
   rw [if_pos (by simp only [List.length_cons,List.length_nil]; omega)]
   have hh := ih (n / 10) (UInt8.ofNat (48 + n % 10) :: r) r0 (by omega) (by omega) (by simp only [List.length_cons]; omega)
   rw [List.cons_append,List.nil_append,hh]
   unfold dT
   conv => rhs; rw [Go.Lib.decDigits,dif_neg (by omega)]
   rw [List.append_assoc]
   rfl
  ·rw [if_neg (by simp; omega)]
   unfold dT
   rw [Go.Lib.decDigits_one (by omega),Nat.mod_eq_of_lt (by omega)]
   rfl
theorem qe5 {n : Int} (h0 : 0 ≤ n) (h : n ≤ 9223372036854775807) : q50 n = some (dT n.toNat) := by
 obtain ⟨k,rfl⟩ : ∃ k : Nat,n = (k : Int) := ⟨n.toNat,by omega⟩
 unfold q50
 rw [qgm]
 have := q63 (n := k) (k := 18) (by rw [p19]; omega)
 unfold dT at this
 rw [Go.Lib.decDigits_length] at this
 rw [z2t k k [] _ (Nat.le_refl _) (by omega) (by simp only [List.length_nil]; omega)]
 simp
theorem zn7 {n : Int} (h : inI n) (h2 : -9223372036854775808 < n) : q44 n = some (iT n) := by
 obtain ⟨h0,h1⟩ := h
 unfold q44
 by_cases hn : n < 0
 ·rw [if_pos (by simpa using hn),jl (n := 0 - n),qe5 (by omega) (by omega)]
  simp only [Option.bind_eq_bind,Option.bind_some]
  have := q63 (n := (0 - n).toNat) (k := 18) (by rw [p19]; omega)
  rw [if_pos (by simp only [List.length_cons,List.length_nil]; omega)]
  unfold iT dT Go.Lib.itoa
  rw [if_pos hn]
  have : (0 - n).toNat = n.natAbs := by omega
  rw [this]
  rfl
 ·rw [if_neg (by simpa using hn),qe5 (by omega) (by omega)]
  simp only [Option.bind_eq_bind,Option.bind_some]
  rw [q87 (by omega)]
theorem q8h {n k : Nat} (h : 10 ≤ n) (hk : (dT (n / 10)).length = k) : (dT n).length = k + 1 := by
 rw [qdv (by omega),List.length_append,hk]
 rfl
theorem qd9 {n : Nat} (h1 : 10000 ≤ n) (h2 : n < 100000) : (dT n).length = 5 := by
 refine q8h (by omega) (q8h (by omega) (q8h (by omega) (q8h (by omega) ?_)))
 rw [q7r (by omega)]
 rfl
def q4g : T.Op := T.Op.mk 12 [] [] 0 false ⟨true,[]⟩ ⟨true,[]⟩
def zk (n : Nat) : List T.Op := List.replicate n q4g
theorem q91 : Can q4g := ⟨by decide,rfl,rfl⟩
theorem qbc : Texts q4g := ⟨by decide,by decide,(by intro e he; cases he)⟩
theorem x04 : q7a q4g := ⟨⟨by decide,by decide⟩,by decide,by decide,by decide,(by intro e he; cases he),by decide,(by intro e he; cases he)⟩
theorem q7w {n : Nat} {o : T.Op} (h : o ∈ zk n) : o = q4g := List.eq_of_mem_replicate h
theorem q4a (n : Nat) : (zk n).length = n := List.length_replicate
theorem qei (a b : List T.Op) : opB (a ++ b) = opB a ++ opB b := by simp [opB]
theorem qbg (n : Nat) : zk (n + 1) = zk n ++ [q4g] := List.replicate_succ'
theorem qh3 (ns : List Int) (a b : List T.Op) : zn ns (a ++ b) = zn ns a ++ opB b := by
 unfold zn
 rw [qei]
 simp only [List.append_assoc]
theorem q8v (n : Nat) : (opB (zk n)).length = 5 * n := by
 induction n with
 | zero => rfl
 | succ n ih =>
  rw [qbg,qei,List.length_append,ih]
  show 5 * n + 5 = 5 * (n + 1)
  omega
theorem q81 (n : Nat) : (zn [] (zk n)).length = 5 + 5 * n := by
 rw [q8d,q8v]
 rfl
theorem qdx (long : Int) (n : Nat) (hn : n ≤ 2000) : ∀ (d i : Nat),i + d = n → q2v (long,(n : Int),zn [] (zk i),(i : Int),zk i) = some (zn [] (zk n),zk n)
 | 0,i,h => by
  have : i = n := by omega
  subst this
  rw [q2v.eq_1,if_neg (by simp)]
 | d + 1,i,h => by
  rw [q2v.eq_1,if_pos (by simp; omega),q4a,if_pos (q04 (by omega) (by omega)),q81,if_pos (by simp only [List.length_cons,List.length_nil]; omega),uf (by omega)]
  have e1 : zn [] (zk i) ++ [117,110,100,111,10] = zn [] (zk (i + 1)) := by
   rw [qbg,qh3]
   rfl
  have e2 : zk i ++ [T.Op.mk 12 [] [] 0 false ⟨true,[]⟩ ⟨true,[]⟩] = zk (i + 1) := (qbg i).symm
  rw [e1,e2]
  exact qdx long n hn d (i + 1) (by omega)
theorem q69 : ∀ x ∈ ([] : List Int),inU x := by
 intro x hx
 cases hx
theorem zcr (n : Nat) : q0g (zk n) = true := qdn fun o h => by rw [q7w h]; exact q91
theorem qwt (n : Nat) (hn : n ≤ 2000) : q2h ⟨true,([] : List Int)⟩ ⟨(zk n).isEmpty,zk n⟩ = some (if n > 1000 then (⟨true,[]⟩,7) else (⟨false,zn [] (zk n)⟩,0)) := by
 rw [qdf ⟨true,([] : List Int)⟩ ⟨(zk n).isEmpty,zk n⟩ (by simp) q69 (fun o h => by rw [q7w h]; exact x04) (by simp only [q4a]; omega) (by simp only [q8v]; omega)]
 unfold q7g
 simp only
 rw [zcr,if_neg (by simp),q4a,q81]
 by_cases h : n > 1000
 ·rw [if_pos h,if_pos h]
 ·rw [if_neg h,if_neg h,if_neg (by omega)]
theorem z1x (n : Nat) (hn : n ≤ 2000) : q36 (zn [] (zk n)) = if n > 1000 then q1f 1002 7 else (⟨true,[]⟩,⟨(zk n).isEmpty,zk n⟩,0,0) := by
 by_cases h : n > 1000
 ·rw [if_pos h]
  have e : zk n = zk 1000 ++ zk (n - 1000) := by
   unfold zk
   rw [List.replicate_append_replicate,show 1000 + (n - 1000) = n by omega]
  obtain ⟨m,hm⟩ : ∃ m,n - 1000 = m + 1 := ⟨n - 1001,by omega⟩
  rw [hm] at e
  have e3 : opB (zk (m + 1)) = qm q4g ++ 10 :: opB (zk m) := by
   unfold zk
   rw [List.replicate_succ,q5p,List.append_assoc]
   rfl
  have hlen : (zn [] (zk 1000) ++ opB (zk (m + 1))).length ≤ 65536 := by
   rw [List.length_append,q81,q8v]
   omega
  obtain ⟨g,g1,g2,g3⟩ := qh7 (ns := []) (os := zk 1000) (opB (zk (m + 1))) q69 (fun o h => by rw [q7w h]; exact ⟨q91,qbc⟩) (by rw [q4a]; omega) hlen
  rw [e,qh3,g2]
  rw [e3] at g3
  cases g with
  | zero => omega
  | succ g =>
   rw [q18,if_pos (by rw [List.length_append,q8v]; omega)]
   have h2 := (qgl q91 qbc g3).1
   rw [e3,h2]
   simp only
   rw [q4a,if_pos rfl]
 ·rw [if_neg h]
  exact qca q69 (fun o h => by rw [q7w h]; exact ⟨q91,qbc⟩) (by rw [q4a]; omega) (by rw [q81]; omega)
theorem qd4 (long : Int) (t : Bytes) : q14 (long,t) = if decide ((t.length : Int) < (65536 : Int)) = true then (if t.length + t.length ≤ 2 ^ 62 then q14 (long,t ++ t) else none) else some t := by
 conv => lhs; rw [q14.eq_def]
theorem zw2 (long : Int) (N : Nat) (hN : N = 65536) (j : Nat) : ∀ m : Nat,m * 2 ^ j = N → q14 (long,List.replicate m (116 : UInt8)) = some (List.replicate N (116 : UInt8)) := by
 induction j with
 | zero =>
  intro m h
  rw [Nat.pow_zero,Nat.mul_one] at h
  subst h
  have hl : (List.replicate m (116 : UInt8)).length = m := List.length_replicate
  rw [qd4,if_neg (by rw [hl]; simp only [decide_eq_true_eq]; omega)]
 | succ j ih =>
  intro m h
  have h2 : (m + m) * 2 ^ j = N := by
   rw [← h,Nat.pow_succ,← Nat.two_mul,Nat.mul_comm 2 m,Nat.mul_assoc,Nat.mul_comm 2]
  have hp : 0 < 2 ^ j := Nat.pow_pos (by omega)
  have hm : m + m ≤ N := by
   have := Nat.le_mul_of_pos_right (m + m) hp
   omega
  have hm0 : 0 < m := by
   rcases Nat.eq_zero_or_pos m with h0 | h0
   ·rw [h0,Nat.zero_mul] at h
    omega
   ·exact h0
  have hl : (List.replicate m (116 : UInt8)).length = m := List.length_replicate
  rw [qd4,if_pos (by rw [hl]; simp only [decide_eq_true_eq]; omega),if_pos (by rw [hl]; omega),List.replicate_append_replicate]
  exact ih (m + m) h2
def q12 (k : Nat) : Bytes := List.replicate k 116
theorem q60 (k : Nat) : (q12 k).length = k := List.length_replicate
def ja (k : Nat) : T.Op := T.Op.mk 2 [] (q12 k) 0 false ⟨true,[]⟩ ⟨true,[]⟩
theorem qi1 (k : Nat) : Can (ja k) := by
 refine ⟨?_,rfl,rfl⟩
 simp [jh,ja,q0j,xc]
theorem zq2 {k : Nat} (hk : k ≤ 100000) : Texts (ja k) := by
 refine ⟨by simp [ja], ?_,(by intro e he; cases he)⟩
 show (q12 k).length < _
 rw [q60]
 omega
theorem qxi {k : Nat} (hk : k ≤ 100000) : q7a (ja k) := by
 refine ⟨⟨(by show (-9223372036854775808 : Int) ≤ 0; decide),(by show (0 : Int) ≤ 9223372036854775807; decide)⟩,by simp [ja], ?_,by simp [ja],(by intro e he; cases he),by simp [ja],(by intro e he; cases he)⟩
 show (q12 k).length ≤ _
 rw [q60]
 exact hk
theorem qaf {P : T.Op → Prop} {k : Nat} (h : P (ja k)) : ∀ o ∈ [ja k],P o := by
 intro o ho
 rw [List.mem_singleton.1 ho]
 exact h
theorem qat (k : Nat) : zn [] [ja k] = ((([100,105,99,101,10,116,121,112,101,32] ++ iT (k : Int)) ++ [58]) ++ q12 k) ++ [10] := by
 have : opB [ja k] = qm (ja k) ++ [10] := by rw [q5p]; simp [opB]
 unfold zn
 rw [this]
 have : qm (ja k) = [116,121,112,101] ++ kz (q12 k) := rfl
 rw [this,q45,q60]
 simp [nuB]
theorem qa0 {k : Nat} (h1 : 10000 ≤ k) (h2 : k < 100000) : (zn [] [ja k]).length = k + 17 := by
 rw [qat]
 simp only [List.length_append,List.length_cons,List.length_nil]
 rw [q87 (by omega),Int.toNat_natCast,qd9 h1 h2,q60]
 omega
theorem qc9 {k : Nat} (h1 : 10000 ≤ k) (h2 : k < 100000) : q2h ⟨true,([] : List Int)⟩ ⟨false,[ja k]⟩ = some (if k + 17 > 65536 then (⟨true,[]⟩,4) else (⟨false,zn [] [ja k]⟩,0)) := by
 have hs := qa0 h1 h2
 have hb : (opB [ja k]).length ≤ 200000 := by
  rw [q8d] at hs
  omega
 rw [qdf ⟨true,([] : List Int)⟩ ⟨false,[ja k]⟩ (by simp) q69 (qaf (qxi (by omega))) (by simp) (by simp only; omega)]
 unfold q7g
 simp only
 rw [qdn (qaf (qi1 k)),if_neg (by simp),if_neg (by simp),hs]
theorem qdk {k : Nat} (h1 : 10000 ≤ k) (h2 : k < 100000) : q36 (zn [] [ja k]) = if k + 17 > 65536 then q1f 0 4 else (⟨true,[]⟩,⟨false,[ja k]⟩,0,0) := by
 have hs := qa0 h1 h2
 by_cases h : k + 17 > 65536
 ·rw [if_pos h]
  unfold q36
  rw [if_pos (by omega)]
 ·rw [if_neg h]
  exact qca q69 (qaf ⟨qi1 k,zq2 (by omega)⟩) (by simp) (by omega)
theorem qik {N : Nat} (hN : N = 65536) {v : Int} (h0 : 0 ≤ v) (h : v < 4) : yn (List.replicate N (116 : UInt8)) (IntKind.i64.wrap (IntKind.i64.wrap ((65535 : Int) + v) - 17)) = some (q12 (65518 + v.toNat)) := by
 have e : IntKind.i64.wrap (IntKind.i64.wrap ((65535 : Int) + v) - 17) = 65518 + v := by
  rw [jl (n := 65535 + v),jl (n := 65535 + v - 17)]
  omega
 rw [e]
 unfold yn
 rw [if_pos (by rw [List.length_replicate]; omega),List.take_replicate]
 unfold q12
 rw [show min (65518 + v).toNat N = 65518 + v.toNat by omega]
theorem qzh (many long : Int) : q7k many long = some true := by
 unfold q7k
 obtain ⟨v,v1,v2,v3⟩ := qgi many 4 (by omega) (by omega)
 rw [v1]
 simp only [Option.bind_eq_bind,Option.bind_some]
 obtain ⟨a,ha⟩ : ∃ a : Nat,v = (a : Int) := ⟨v.toNat,by omega⟩
 subst ha
 have hw : IntKind.i64.wrap ((999 : Int) + (a : Int)) = ((999 + a : Nat) : Int) := by
  rw [jl (n := (999 : Int) + (a : Int))]
  omega
 rw [hw]
 have h0 := qdx long (999 + a) (by omega) (999 + a) 0 (by omega)
 have e0 : zn [] (zk 0) = [100,105,99,101,10] := rfl
 have e1 : zk 0 = [] := rfl
 rw [e0,e1,Int.natCast_zero] at h0
 rw [h0]
 simp only [Option.bind_some]
 rw [qwt (999 + a) (by omega)]
 simp only [Option.bind_some]
 rw [q93]
 simp only [Option.bind_some]
 rw [z1x (999 + a) (by omega)]
 obtain ⟨w,w1,w2,w3⟩ := qgi long 4 (by omega) (by omega)
 obtain ⟨N,hN⟩ : ∃ N : Nat,N = 65536 := ⟨_,rfl⟩
 have h2 := zw2 long N hN 16 1 (by rw [hN])
 have e2 : List.replicate 1 (116 : UInt8) = [116] := rfl
 rw [e2] at h2
 have hsub := qik hN w2 w3
 obtain ⟨k,hk⟩ : ∃ k : Nat,k = 65518 + w.toNat := ⟨_,rfl⟩
 rw [← hk] at hsub
 have hk1 : 10000 ≤ k := by omega
 have hk2 : k < 100000 := by omega
 have hnum : q44 ((q12 k).length : Int) = some (iT (k : Int)) := by
  rw [q60]
  exact zn7 ⟨by omega,by omega⟩ (by omega)
 have hit : (iT (k : Int)).length = 5 := by
  rw [q87 (by omega),Int.toNat_natCast,qd9 hk1 hk2]
 have hws : IntKind.i64.wrap ((65535 : Int) + w) = ((k + 17 : Nat) : Int) := by
  rw [jl (n := (65535 : Int) + w)]
  omega
 have hop : (T.Op.mk 2 [] (q12 k) 0 false ⟨true,[]⟩ ⟨true,[]⟩) = ja k := rfl
 have hbig : ((k + 17 : Nat) : Int) > 65536 ↔ k + 17 > 65536 := by omega
 have hll := q60 k
 have hsz := qa0 hk1 hk2
 by_cases h : 999 + a > 1000
 ·rw [if_pos (show decide (((999 + a : Nat) : Int) > 1000) = true by simp; omega),if_pos h,if_pos h]
  unfold q1f
  simp only
  rw [if_neg (by simp)]
  rw [h2]
  simp only [Option.bind_some]
  rw [w1]
  simp only [Option.bind_some]
  rw [hsub]
  simp only [Option.bind_some]
  rw [hop,qc9 hk1 hk2]
  simp only [Option.bind_some]
  rw [hnum]
  simp only [Option.bind_some]
  rw [if_pos (by simp only [List.length_append,List.length_cons,List.length_nil]; omega),if_pos (by simp only [List.length_append,List.length_cons,List.length_nil]; omega),if_pos (by simp only [List.length_append,List.length_cons,List.length_nil]; omega),if_pos (by simp only [List.length_append,List.length_cons,List.length_nil]; omega),← qat,q93]
  simp only [Option.bind_some]
  rw [qdk hk1 hk2,hws]
  by_cases hb : k + 17 > 65536
  ·rw [if_pos (show decide (((k + 17 : Nat) : Int) > 65536) = true by simp; omega),if_pos hb,if_pos hb]
   unfold q1f
   simp only
   rw [if_pos (by simp)]
   rfl
  ·rw [if_neg (show ¬ decide (((k + 17 : Nat) : Int) > 65536) = true by simp; omega),if_neg hb,if_neg hb]
   simp only
   rw [if_pos (by simp [hsz])]
   rfl
 ·rw [if_neg (show ¬ decide (((999 + a : Nat) : Int) > 1000) = true by simp; omega),if_neg h,if_neg h]
  simp only
  rw [if_neg (by simp),if_neg (by simp [q4a])]
  rw [h2]
  simp only [Option.bind_some]
  rw [w1]
  simp only [Option.bind_some]
  rw [hsub]
  simp only [Option.bind_some]
  rw [hop,qc9 hk1 hk2]
  simp only [Option.bind_some]
  rw [hnum]
  simp only [Option.bind_some]
  rw [if_pos (by simp only [List.length_append,List.length_cons,List.length_nil]; omega),if_pos (by simp only [List.length_append,List.length_cons,List.length_nil]; omega),if_pos (by simp only [List.length_append,List.length_cons,List.length_nil]; omega),if_pos (by simp only [List.length_append,List.length_cons,List.length_nil]; omega),← qat,q93]
  simp only [Option.bind_some]
  rw [qdk hk1 hk2,hws]
  by_cases hb : k + 17 > 65536
  ·rw [if_pos (show decide (((k + 17 : Nat) : Int) > 65536) = true by simp; omega),if_pos hb,if_pos hb]
   unfold q1f
   simp only
   rw [if_pos (by simp)]
   rfl
  ·rw [if_neg (show ¬ decide (((k + 17 : Nat) : Int) > 65536) = true by simp; omega),if_neg hb,if_neg hb]
   simp only
   rw [if_pos (by simp [hsz])]
   rfl
end Go.Proofs.YtaglodpkpggdiaaGreatDoor
