/-
  Scripts: a number that is told is read as it was; what reads as a number is told so.
-/
import Derived.Test.YtaglodpkpggdiaaGreatDoorMar
import Derived.Test.YtaglodpkpggdiaaGreatDoorMav
set_option linter.unusedSimpArgs false
set_option linter.unusedVariables false
namespace Go.Proofs.YtaglodpkpggdiaaGreatDoor
open Go Go.Gm
theorem qhr : ∀ (l : Bytes) (n : Int) (c : UInt8),val n (l ++ [c]) = 10 * val n l + ((c.toNat : Int) - 48)
 | [],n,c => rfl
 | x :: r,n,c => by
  simp only [List.cons_append,val]
  exact qhr r _ c
theorem qf8 {d : Nat} (h : d < 10) : (UInt8.ofNat (48 + d)).toNat = 48 + d := by
 rw [UInt8.toNat_ofNat']
 omega
theorem qdv {n : Nat} (h : ¬ n < 10) : dT n = dT (n / 10) ++ [UInt8.ofNat (48 + n % 10)] := by
 unfold dT
 conv => lhs; rw [Go.Lib.decDigits,dif_neg h]
theorem q7r {n : Nat} (h : n < 10) : dT n = [UInt8.ofNat (48 + n)] := Go.Lib.decDigits_one h
theorem qbh : ∀ (m n : Nat),n ≤ m → (∀ c ∈ dT n,j5 c = true) ∧ val 0 (dT n) = (n : Int) ∧ (0 < n → ∃ c r,dT n = c :: r ∧ c ≠ 48) := by
 intro m
 induction m with
 | zero =>
  intro n h
  have : n = 0 := by omega
  subst this
  rw [q7r (by omega)]
  exact ⟨by decide,by decide,by omega⟩
 | succ m ih =>
  intro n h
  by_cases hn : n < 10
  ·rw [q7r hn]
   have hb := qf8 hn
   refine ⟨fun c hc => ?_, ?_,fun h0 => ⟨_,[],rfl,fun e => ?_⟩⟩
   ·rw [List.mem_singleton.1 hc,q4u,hb]
    omega
   ·simp only [val,hb]
    omega
   ·rw [e] at hb
    have : (48 : UInt8).toNat = 48 := rfl
    omega
  ·obtain ⟨i1,i2,i3⟩ := ih (n / 10) (by omega)
   have hb := qf8 (d := n % 10) (by omega)
   rw [qdv hn]
   refine ⟨fun c hc => ?_, ?_,fun h0 => ?_⟩
   ·rcases List.mem_append.1 hc with hc | hc
    ·exact i1 c hc
    ·rw [List.mem_singleton.1 hc,q4u,hb]
     omega
   ·rw [qhr,i2,hb]
    omega
   ·obtain ⟨c,r,e1,e2⟩ := i3 (by omega)
    exact ⟨c,r ++ [UInt8.ofNat (48 + n % 10)],by rw [e1]; rfl,e2⟩
theorem q97 (n : Nat) : ∀ c ∈ dT n,j5 c = true := (qbh n n (Nat.le_refl _)).1
theorem qgp (n : Nat) : val 0 (dT n) = (n : Int) := (qbh n n (Nat.le_refl _)).2.1
theorem qfd {n : Nat} (h : 0 < n) : ∃ c r,dT n = c :: r ∧ c ≠ 48 := (qbh n n (Nat.le_refl _)).2.2 h
theorem xz {α : Type} {L X R : List α} {k : Nat} (h : L.drop k = X ++ R) : L.drop (k + X.length) = R := by
 rw [← List.drop_drop,h]
 simp
theorem yj {α : Type} {L R : List α} {k : Nat} {c : α} (h : L.drop k = c :: R) : L[k]? = some c := by
 have : (L.drop k)[0]? = some c := by rw [h]; rfl
 simpa using this
theorem qws {α : Type} {L : List α} {k : Nat} {c : α} (h : L[k]? = some c) : L.drop k = c :: L.drop (k + 1) := by
 have hk := at_lt h
 rw [List.drop_eq_getElem_cons hk]
 congr 1
 rw [List.getElem?_eq_getElem hk] at h
 exact Option.some.inj h
theorem q8p {p : UInt8 → Bool} : ∀ (X R : Bytes),(∀ c ∈ X,p c = true) → (∀ c r,R = c :: r → p c = false) → (X ++ R).takeWhile p = X
 | [],R,_,h => by
  cases R with
  | nil => rfl
  | cons c r => rw [List.nil_append,List.takeWhile_cons_of_neg (by simp [h c r rfl])]
 | x :: X,R,hx,h => by
  rw [List.cons_append,List.takeWhile_cons_of_pos (hx x (by simp)),q8p X R (fun c hc => hx c (by simp [hc])) h]
def q1l (R : Bytes) : Prop := ∀ c r,R = c :: r → j5 c = false
theorem q07 {c : UInt8} {r : Bytes} (h : j5 c = false) : q1l (c :: r) := fun c' r' e => by cases e; exact h
theorem qh0 {n : Nat} (h : n < 1000000000000000000) : (dT n).length ≤ 18 := q63 (k := 17) (by
 have : (10 : Nat) ^ (17 + 1) = 1000000000000000000 := rfl
 omega)
theorem qe6 {L R : Bytes} {k : Nat} {n : Int} (h : L.drop k = iT n ++ R) (hs : xc n = true) (hR : q1l R) : kv L k = some (n,k + (iT n).length) := by
 unfold xc at hs
 simp only [Bool.and_eq_true,decide_eq_true_eq] at hs
 by_cases hn : n < 0
 ·have e : iT n = 45 :: dT n.natAbs := by unfold iT dT Go.Lib.itoa; rw [if_pos hn]
  rw [e] at h ⊢
  have hneg : w9 L k = true := by unfold w9; simp [yj h]
  have hb : behind L k = k + 1 := by unfold behind; rw [hneg]; rfl
  have h2 : L.drop (k + 1) = dT n.natAbs ++ R := by
   have := xz (X := [45]) (R := dT n.natAbs ++ R) (by simpa using h)
   simpa using this
  have hd : zm L (k + 1) = dT n.natAbs := by unfold zm; rw [h2]; exact q8p _ _ (q97 _) hR
  obtain ⟨c,r,hc,hc48⟩ := qfd (n := n.natAbs) (by omega)
  have h18 := qh0 (n := n.natAbs) (by omega)
  have hpos := qew n.natAbs
  unfold kv
  rw [hb,hd,hneg,if_neg (by omega),if_neg (by
   rw [yj (c := c) (R := r ++ R) (by rw [h2,hc]; rfl)]
   intro hh
   exact hc48 (by simpa using hh.1)),qgp]
  simp only [if_true,Option.some.injEq,Prod.mk.injEq,List.length_cons]
  omega
 ·have e : iT n = dT n.toNat := q87 (by omega)
  rw [e] at h ⊢
  have hpos := qew n.toNat
  obtain ⟨c,r,hc⟩ : ∃ c r,dT n.toNat = c :: r := by
   cases hh : dT n.toNat with
   | nil => rw [hh] at hpos; simp at hpos
   | cons c r => exact ⟨c,r,rfl⟩
  have hcd : j5 c = true := q97 n.toNat c (by rw [hc]; simp)
  have hg : L[k]? = some c := yj (R := r ++ R) (by rw [h,hc]; rfl)
  have hneg : w9 L k = false := by
   unfold w9
   rw [hg]
   simp only [decide_eq_false_iff_not]
   intro hh
   cases hh
   revert hcd
   decide
  have hb : behind L k = k := by unfold behind; rw [hneg]; rfl
  have hd : zm L k = dT n.toNat := by unfold zm; rw [h]; exact q8p _ _ (q97 _) hR
  have h18 := qh0 (n := n.toNat) (by omega)
  unfold kv
  rw [hb,hd,hneg,if_neg (by omega),if_neg (by
   rw [hg]
   rintro ⟨h1,h2 | h2⟩
   ·cases h2
   ·cases h1
    by_cases h0 : 0 < n.toNat
    ·obtain ⟨c',r',e1,e2⟩ := qfd h0
     rw [hc] at e1
     cases e1
     exact e2 rfl
    ·have : n.toNat = 0 := by omega
     rw [this,q7r (by omega)] at h2
     simp at h2),qgp]
  simp only [Bool.false_eq_true,if_false,Option.some.injEq,Prod.mk.injEq,and_true]
  omega
end Go.Proofs.YtaglodpkpggdiaaGreatDoor
