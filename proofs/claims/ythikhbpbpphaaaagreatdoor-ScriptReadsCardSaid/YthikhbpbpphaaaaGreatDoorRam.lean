/-
  Scripts: what a number, a word and a text read as; the program's reader and the document's read these so.
-/
import Derived.Test.YthikhbpbpphaaaaGreatDoorRah
import Derived.Test.YthikhbpbpphaaaaGreatDoorRal
set_option linter.unusedSimpArgs false
set_option linter.unusedVariables false
namespace Go.Proofs.YthikhbpbpphaaaaGreatDoor
open Go Go.Gm
def PR (b : Sl UInt8) (k : Nat) (ok : Bool) : T.qb := ⟨⟨b,(k : Int)⟩,ok⟩
def RR (b : Sl UInt8) (k : Nat) : T.qf := ⟨b,(k : Int)⟩
def zi (c : UInt8) : Bool := decide (48 ≤ c.toNat) && decide (c.toNat ≤ 57)
def kv (c : UInt8) : Bool := decide (97 ≤ c.toNat) && decide (c.toNat ≤ 122)
def val (n : Int) : Bytes → Int
 | [] => n
 | c :: r => val (10 * n + ((c.toNat : Int) - 48)) r
def qm (L : Bytes) (k : Nat) : Bytes := (L.drop k).takeWhile zi
def xg (L : Bytes) (k : Nat) : Bool := decide (L[k]? = some 45)
def behind (L : Bytes) (k : Nat) : Nat := if xg L k then k + 1 else k
def zl (L : Bytes) (k : Nat) : Option (Int × Nat) :=
 if (qm L (behind L k)).length = 0 ∨ 18 < (qm L (behind L k)).length then none
 else if L[behind L k]? = some 48 ∧ (xg L k = true ∨ 1 < (qm L (behind L k)).length) then none
 else some (if xg L k then 0 - val 0 (qm L (behind L k)) else val 0 (qm L (behind L k)),behind L k + (qm L (behind L k)).length)
def bad (L : Bytes) (k : Nat) : Prop := ∃ c,L[k]? = some c ∧ zi c = true
theorem q1k {x c : UInt8} : ((x.toNat : Int) = (c.toNat : Int)) ↔ x = c := by
 constructor
 ·intro h
  apply UInt8.toNat_inj.mp
  omega
 ·intro h
  rw [h]
theorem drop_cons {α : Type} {s : List α} {k : Nat} {b : α} {r : List α} (h : s.drop k = b :: r) : za s (k : Int) = some b ∧ s[k]? = some b ∧ k < s.length ∧ s.drop (k + 1) = r := by
 have hk : k < s.length := by
  rcases Nat.lt_or_ge k s.length with h1 | h1
  ·exact h1
  ·rw [List.drop_eq_nil_of_le h1] at h; cases h
 rw [List.drop_eq_getElem_cons hk] at h
 cases h
 exact ⟨by unfold za; simp [hk],by simp [hk],hk,rfl⟩
theorem drop_nil {α : Type} {s : List α} {k : Nat} (h : s.drop k = []) (hk : k ≤ s.length) : k = s.length ∧ s[k]? = none := by
 have := congrArg List.length h
 simp at this
 have hh : k = s.length := by omega
 subst hh
 simp
theorem qa2 {p : UInt8 → Bool} (L : Bytes) (k : Nat) : (L.take (k + ((L.drop k).takeWhile p).length)).drop k = (L.drop k).takeWhile p := by
 rw [List.drop_take]
 rw [show k + ((L.drop k).takeWhile p).length - k = ((L.drop k).takeWhile p).length by omega]
 exact (List.prefix_iff_eq_take.mp (List.takeWhile_prefix p)).symm
theorem q6c {p : UInt8 → Bool} (L : Bytes) (k : Nat) (hk : k ≤ L.length) : k + ((L.drop k).takeWhile p).length ≤ L.length := by
 have h := (List.takeWhile_prefix (l := L.drop k) p).length_le
 simp at h
 omega
theorem q30 (b : Sl UInt8) (k : Nat) (ok : Bool) (c : UInt8) (hb : b.l.length ≤ 65536) (hk : k ≤ b.l.length) :
  ja c (PR b k ok) = some (decide (b.l[k]? = some c),PR b (if b.l[k]? = some c then k + 1 else k) ok) := by
 unfold ja PR
 simp only
 cases hr : b.l.drop k with
 | nil =>
  obtain ⟨h1,h2⟩ := drop_nil hr hk
  rw [if_pos (by simp; omega),h2]
  simp
 | cons x r =>
  obtain ⟨h1,h2,h3,h4⟩ := drop_cons hr
  rw [if_neg (by simp; omega),h1,h2]
  simp only [Option.bind_eq_bind,Option.bind_some,Option.some.injEq,bne_iff_ne,ne_eq,q1k]
  by_cases hx : x = c
  ·rw [if_neg (by simp [hx])]
   simp [hx]
   exact ji (by omega)
  ·rw [if_pos hx]
   simp [hx]
theorem q0n (b : Sl UInt8) (k : Nat) (c : UInt8) (hb : b.l.length ≤ 65536) (hk : k ≤ b.l.length) :
  q1w c (RR b k) = some (decide (b.l[k]? = some c),RR b (if b.l[k]? = some c then k + 1 else k)) := by
 unfold q1w RR
 simp only
 cases hr : b.l.drop k with
 | nil =>
  obtain ⟨h1,h2⟩ := drop_nil hr hk
  rw [if_pos (by simp; omega),h2]
  simp
 | cons x r =>
  obtain ⟨h1,h2,h3,h4⟩ := drop_cons hr
  rw [if_neg (by simp; omega),h1,h2]
  simp only [Option.bind_eq_bind,Option.bind_some,Option.some.injEq,bne_iff_ne,ne_eq,q1k]
  by_cases hx : x = c
  ·rw [if_neg (by simp [hx])]
   simp [hx]
   exact ji (by omega)
  ·rw [if_pos hx]
   simp [hx]
theorem q45 (b : Sl UInt8) (k : Nat) (ok : Bool) (hk : k ≤ b.l.length) :
  q39 (PR b k ok) = some (ok && decide (b.l[k]? = some 32)) := by
 unfold q39 PR
 simp only
 cases hr : b.l.drop k with
 | nil =>
  obtain ⟨h1,h2⟩ := drop_nil hr hk
  rw [if_neg (by simp; omega),h2]
  simp
 | cons x r =>
  obtain ⟨h1,h2,h3,h4⟩ := drop_cons hr
  cases ok with
  | false => simp
  | true =>
   rw [if_pos (by simp; omega),h1,h2]
   simp only [Option.bind_eq_bind,Option.bind_some,Option.some.injEq,Bool.true_and]
   rw [Bool.eq_iff_iff]
   simp only [beq_iff_eq,decide_eq_true_eq]
   exact q1k (c := 32)
theorem q4r (b : Sl UInt8) (k : Nat) (hk : k ≤ b.l.length) :
  q2y (RR b k) = some (decide (b.l[k]? = some 32)) := by
 unfold q2y RR
 simp only
 cases hr : b.l.drop k with
 | nil =>
  obtain ⟨h1,h2⟩ := drop_nil hr hk
  rw [if_neg (by simp; omega),h2]
  simp
 | cons x r =>
  obtain ⟨h1,h2,h3,h4⟩ := drop_cons hr
  rw [if_pos (by simp; omega),h1,h2]
  simp only [Option.bind_eq_bind,Option.bind_some,Option.some.injEq]
  rw [Bool.eq_iff_iff]
  simp only [beq_iff_eq,decide_eq_true_eq]
  exact q1k (c := 32)
theorem qck (b : Sl UInt8) (ok : Bool) (f : Int) (hb : b.l.length ≤ 65536) : ∀ (r : Bytes) (k : Nat),b.l.drop k = r → k ≤ b.l.length →
  q0o (f,PR b k ok) = some (PR b (k + (r.takeWhile kv).length) ok)
 | [],k,hr,hk => by
  obtain ⟨h1,h2⟩ := drop_nil hr hk
  rw [q0o.eq_1]
  unfold PR
  simp only
  rw [if_neg (by simp; omega)]
  simp
 | x :: r,k,hr,hk => by
  obtain ⟨h1,h2,h3,h4⟩ := drop_cons hr
  rw [q0o.eq_1]
  unfold PR
  simp only
  rw [if_pos (by simp; omega),h1]
  simp only [Option.bind_eq_bind,Option.bind_some]
  by_cases hx : kv x = true
  ·have hx' := hx
   unfold kv at hx'
   simp only [Bool.and_eq_true,decide_eq_true_eq] at hx'
   rw [if_pos (by simp; omega),if_pos (by simp; omega),ji (by omega)]
   have ih := qck b ok f hb r (k + 1) h4 (by omega)
   unfold PR at ih
   rw [ih,List.takeWhile_cons_of_pos hx]
   simp only [List.length_cons]
   rw [show k + 1 + (r.takeWhile kv).length = k + ((r.takeWhile kv).length + 1) by omega]
  ·have hx' := hx
   unfold kv at hx'
   simp only [Bool.and_eq_true,decide_eq_true_eq] at hx'
   rw [List.takeWhile_cons_of_neg hx]
   simp only [List.length_nil,Nat.add_zero]
   split
   ·rw [if_neg (by rename_i h; simp at h ⊢; omega)]
   ·rfl
theorem qbn (b : Sl UInt8) (f : Int) (hb : b.l.length ≤ 65536) : ∀ (r : Bytes) (k : Nat),b.l.drop k = r → k ≤ b.l.length →
  q1c (f,RR b k) = some (RR b (k + (r.takeWhile kv).length))
 | [],k,hr,hk => by
  obtain ⟨h1,h2⟩ := drop_nil hr hk
  rw [q1c.eq_1]
  unfold RR
  simp only
  rw [if_neg (by simp; omega)]
  simp
 | x :: r,k,hr,hk => by
  obtain ⟨h1,h2,h3,h4⟩ := drop_cons hr
  rw [q1c.eq_1]
  unfold RR
  simp only
  rw [if_pos (by simp; omega),h1]
  simp only [Option.bind_eq_bind,Option.bind_some]
  by_cases hx : kv x = true
  ·have hx' := hx
   unfold kv at hx'
   simp only [Bool.and_eq_true,decide_eq_true_eq] at hx'
   rw [if_pos (by simp; omega),if_pos (by simp; omega),ji (by omega)]
   have ih := qbn b f hb r (k + 1) h4 (by omega)
   unfold RR at ih
   rw [ih,List.takeWhile_cons_of_pos hx]
   simp only [List.length_cons]
   rw [show k + 1 + (r.takeWhile kv).length = k + ((r.takeWhile kv).length + 1) by omega]
  ·have hx' := hx
   unfold kv at hx'
   simp only [Bool.and_eq_true,decide_eq_true_eq] at hx'
   rw [List.takeWhile_cons_of_neg hx]
   simp only [List.length_nil,Nat.add_zero]
   split
   ·rw [if_neg (by rename_i h; simp at h ⊢; omega)]
   ·rfl
def zy (L : Bytes) (k : Nat) : Bytes × Nat := ((L.drop k).takeWhile kv,k + ((L.drop k).takeWhile kv).length)
theorem q5x (L : Bytes) (k : Nat) (hk : k ≤ L.length) : (zy L k).2 ≤ L.length := q6c L k hk
theorem qbu (b : Sl UInt8) (k : Nat) (ok : Bool) (hb : b.l.length ≤ 65536) (hk : k ≤ b.l.length) :
  q4o (PR b k ok) = some ((zy b.l k).1,PR b (zy b.l k).2 ok) := by
 unfold q4o
 have h := qck b ok (k : Int) hb (b.l.drop k) k rfl hk
 show (q0o ((k : Int),PR b k ok) >>= _) = _
 rw [h]
 simp only [Option.bind_eq_bind,Option.bind_some]
 unfold PR
 simp only
 have hl := q6c (p := kv) b.l k hk
 unfold xk
 rw [if_pos ⟨⟨by omega,by omega⟩,by omega,by omega⟩]
 simp only [Option.bind_some,Int.toNat_natCast]
 unfold zy
 rw [qa2]
theorem qa7 (b : Sl UInt8) (k : Nat) (hb : b.l.length ≤ 65536) (hk : k ≤ b.l.length) :
  q43 (RR b k) = some ((zy b.l k).1,RR b (zy b.l k).2) := by
 unfold q43
 have h := qbn b (k : Int) hb (b.l.drop k) k rfl hk
 show (q1c ((k : Int),RR b k) >>= _) = _
 rw [h]
 simp only [Option.bind_eq_bind,Option.bind_some]
 unfold RR
 simp only
 have hl := q6c (p := kv) b.l k hk
 unfold xk
 rw [if_pos ⟨⟨by omega,by omega⟩,by omega,by omega⟩]
 simp only [Option.bind_some,Int.toNat_natCast]
 unfold zy
 rw [qa2]
theorem q3j {c : UInt8} : zi c = true ↔ 48 ≤ c.toNat ∧ c.toNat ≤ 57 := by
 unfold zi
 simp
theorem q3l (i : Nat) : (10 : Int) ^ (i + 1) = 10 * 10 ^ i := by rw [Int.pow_succ]; omega
theorem qdi {i : Nat} (h : i ≤ 18) : (10 : Int) ^ i ≤ 1000000000000000000 := by
 have : (10 : Nat) ^ i ≤ 10 ^ 18 := Nat.pow_le_pow_right (by omega) h
 have h2 : ((10 ^ i : Nat) : Int) ≤ ((10 ^ 18 : Nat) : Int) := by exact_mod_cast this
 simpa using h2
theorem qbc : ∀ (ds : Bytes) (n : Int) (i : Nat),(∀ c ∈ ds,zi c = true) → 0 ≤ n → n < 10 ^ i → 0 ≤ val n ds ∧ val n ds < 10 ^ (i + ds.length)
 | [],n,i,_,h0,h1 => ⟨h0,h1⟩
 | c :: r,n,i,hd,h0,h1 => by
  have hc := q3j.mp (hd c (by simp))
  have h := qbc r (10 * n + ((c.toNat : Int) - 48)) (i + 1) (fun x hx => hd x (by simp [hx])) (by omega) (by rw [q3l]; omega)
  rw [List.length_cons,show i + (r.length + 1) = i + 1 + r.length by omega]
  exact h
theorem q7k (p : UInt8 → Bool) : ∀ (l : Bytes),∀ c ∈ l.takeWhile p,p c = true
 | [],c,h => by simp at h
 | x :: r,c,h => by
  by_cases hx : p x = true
  ·rw [List.takeWhile_cons_of_pos hx] at h
   rcases List.mem_cons.mp h with h | h
   ·rw [h]; exact hx
   ·exact q7k p r c h
  ·rw [List.takeWhile_cons_of_neg hx] at h
   simp at h
theorem q9m {n : Int} {c : UInt8} {i : Nat} (hc : zi c = true) (h0 : 0 ≤ n) (h1 : n < 10 ^ i) (hi : i < 18) :
  (IntKind.i64.wrap ((IntKind.i64.wrap ((10 : Int) * n)) + (IntKind.i64.wrap (IntKind.u8.wrap ((c.toNat : Int) - (48 : Int)))))) = 10 * n + ((c.toNat : Int) - 48) := by
 have hc' := q3j.mp hc
 have h2 := qdi (i := i + 1) (by omega)
 rw [q3l] at h2
 rw [qrw (by omega) (by omega),ug (n := (c.toNat : Int) - 48),ug (n := 10 * n),ug]
theorem qe7 (b : Sl UInt8) (ok below : Bool) (f : Nat) (hb : b.l.length ≤ 65536) : ∀ (r : Bytes) (k : Nat) (n : Int) (i : Nat),b.l.drop k = r → k ≤ b.l.length → k = f + i → i ≤ 18 → 0 ≤ n → n < 10 ^ i →
  (i + (r.takeWhile zi).length ≤ 18 → q0e (below,(f : Int),n,PR b k ok) = some (.inr (val n (r.takeWhile zi),PR b (k + (r.takeWhile zi).length) ok))) ∧
  (18 < i + (r.takeWhile zi).length → ∃ n',q0e (below,(f : Int),n,PR b k ok) = some (.inl (0,false,n',PR b (f + 18) ok)))
 | [],k,n,i,hr,hk,hf,hi,h0,h1 => by
  obtain ⟨g1,g2⟩ := drop_nil hr hk
  refine ⟨fun _ => ?_,fun h => by simp at h; omega⟩
  rw [q0e.eq_1]
  unfold PR
  simp only
  rw [if_neg (by simp; omega)]
  simp [val]
 | x :: r,k,n,i,hr,hk,hf,hi,h0,h1 => by
  obtain ⟨g1,g2,g3,g4⟩ := drop_cons hr
  rw [q0e.eq_1]
  unfold PR
  simp only
  rw [if_pos (by simp; omega),g1]
  simp only [Option.bind_eq_bind,Option.bind_some]
  by_cases hx : zi x = true
  ·have hx' := q3j.mp hx
   rw [if_pos (by simp; omega),if_pos (by simp; omega),ji (by omega),ug (n := (k : Int) - (f : Int)),List.takeWhile_cons_of_pos hx]
   by_cases hi18 : i = 18
   ·refine ⟨fun h => by simp at h; omega,fun _ => ⟨n, ?_⟩⟩
    rw [if_pos (by simp; omega)]
    rw [hf,hi18]
   ·rw [if_neg (by simp; omega),q9m hx h0 h1 (by omega)]
    have ih := qe7 b ok below f hb r (k + 1) (10 * n + ((x.toNat : Int) - 48)) (i + 1) g4 (by omega) (by omega) (by omega) (by omega) (by rw [q3l]; omega)
    unfold PR at ih
    refine ⟨fun h => ?_,fun h => ih.2 (by simp at h; omega)⟩
    rw [ih.1 (by simp at h; omega)]
    simp only [List.length_cons,val]
    rw [show k + 1 + (r.takeWhile zi).length = k + ((r.takeWhile zi).length + 1) by omega]
  ·have hx' := hx
   rw [q3j] at hx'
   rw [List.takeWhile_cons_of_neg hx]
   refine ⟨fun _ => ?_,fun h => by simp at h; omega⟩
   simp only [List.length_nil,Nat.add_zero,val]
   split
   ·rw [if_neg (by rename_i h; simp at h ⊢; omega)]
   ·rfl
theorem qk7 (c : UInt8) : q51 c = some (zi c) := by
 unfold q51 zi
 split
 ·rename_i h
  simp at h
  simp
  rw [Bool.eq_iff_iff]
  simp
  omega
 ·rename_i h
  simp at h
  simp
  omega
theorem qdm (b : Sl UInt8) (below : Bool) (f : Nat) (hb : b.l.length ≤ 65536) : ∀ (r : Bytes) (k : Nat) (n : Int) (i : Nat),b.l.drop k = r → k ≤ b.l.length → k = f + i → i ≤ 18 → 0 ≤ n → n < 10 ^ i →
  (i + (r.takeWhile zi).length ≤ 18 → uy (below,(f : Int),n,RR b k) = some (val n (r.takeWhile zi),RR b (k + (r.takeWhile zi).length))) ∧
  (18 < i + (r.takeWhile zi).length → bad b.l (f + 18) ∧ f + 18 < b.l.length ∧ ∃ n',0 ≤ n' ∧ n' < 10 ^ 18 ∧ uy (below,(f : Int),n,RR b k) = some (n',RR b (f + 18)))
 | [],k,n,i,hr,hk,hf,hi,h0,h1 => by
  obtain ⟨g1,g2⟩ := drop_nil hr hk
  refine ⟨fun _ => ?_,fun h => by simp at h; omega⟩
  rw [uy.eq_1]
  unfold RR
  simp only
  rw [if_neg (by simp; omega)]
  simp [val]
 | x :: r,k,n,i,hr,hk,hf,hi,h0,h1 => by
  obtain ⟨g1,g2,g3,g4⟩ := drop_cons hr
  rw [uy.eq_1]
  unfold RR
  simp only
  rw [ug (n := (f : Int) + 18)]
  by_cases hi18 : i = 18
  ·rw [if_neg (by simp; omega)]
   refine ⟨fun h => ?_,fun h => ?_⟩
   ·have h9 : (List.takeWhile zi (x :: r)).length = 0 := by omega
    have h8 := List.eq_nil_of_length_eq_zero h9
    rw [h8]
    simp [val]
   ·have hx : zi x = true := by
     rcases hd : zi x with _ | _
     ·rw [List.takeWhile_cons_of_neg (by simp [hd])] at h
      simp at h
      omega
     ·rfl
    refine ⟨⟨x,by rw [← hi18,← hf]; exact g2,hx⟩,by omega,n,h0,by rw [← hi18]; exact h1, ?_⟩
    rw [hf,hi18]
  ·rw [if_pos (by simp; omega),g1]
   simp only [Option.bind_eq_bind,Option.bind_some,qk7]
   by_cases hx : zi x = true
   ·have hx' := q3j.mp hx
    rw [if_pos hx,ji (by omega),List.takeWhile_cons_of_pos hx,Int.mul_comm n 10,q9m hx h0 h1 (by omega)]
    have ih := qdm b below f hb r (k + 1) (10 * n + ((x.toNat : Int) - 48)) (i + 1) g4 (by omega) (by omega) (by omega) (by omega) (by rw [q3l]; omega)
    unfold RR at ih
    refine ⟨fun h => ?_,fun h => ih.2 (by simp at h; omega)⟩
    rw [ih.1 (by simp at h; omega)]
    simp only [List.length_cons,val]
    rw [show k + 1 + (r.takeWhile zi).length = k + ((r.takeWhile zi).length + 1) by omega]
   ·rw [List.takeWhile_cons_of_neg hx,if_neg hx]
    refine ⟨fun _ => ?_,fun h => by simp at h; omega⟩
    simp [val]
end Go.Proofs.YthikhbpbpphaaaaGreatDoor
