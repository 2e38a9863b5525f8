/-
  Scripts: a number that is told is read as it was; what reads as a number is told so.
-/
import Derived.Test.YtaglodpkpggdiaaGreatDoorAar
import Derived.Test.YtaglodpkpggdiaaGreatDoorAav
set_option linter.unusedSimpArgs false
set_option linter.unusedVariables false
namespace Go.Proofs.YtaglodpkpggdiaaGreatDoor
open Go Go.Gm
theorem qai : ∀ (l : Bytes) (n : Int) (c : UInt8),val n (l ++ [c]) = 10 * val n l + ((c.toNat : Int) - 48)
 | [],n,c => rfl
 | x :: r,n,c => by
  simp only [List.cons_append,val]
  exact qai r _ c
theorem q93 {d : Nat} (h : d < 10) : (UInt8.ofNat (48 + d)).toNat = 48 + d := by
 rw [UInt8.toNat_ofNat']
 omega
theorem qdd {n : Nat} (h : ¬ n < 10) : dT n = dT (n / 10) ++ [UInt8.ofNat (48 + n % 10)] := by
 unfold dT
 conv => lhs; rw [Go.Lib.decDigits,dif_neg h]
theorem q8q {n : Nat} (h : n < 10) : dT n = [UInt8.ofNat (48 + n)] := Go.Lib.decDigits_one h
theorem qaq : ∀ (m n : Nat),n ≤ m → (∀ c ∈ dT n,zy c = true) ∧ val 0 (dT n) = (n : Int) ∧ (0 < n → ∃ c r,dT n = c :: r ∧ c ≠ 48) := by
 intro m
 induction m with
 | zero =>
  intro n h
  have : n = 0 := by omega
  subst this
  rw [q8q (by omega)]
  exact ⟨by decide,by decide,by omega⟩
 | succ m ih =>
  intro n h
  by_cases hn : n < 10
  ·rw [q8q hn]
   have hb := q93 hn
   refine ⟨fun c hc => ?_, ?_,fun h0 => ⟨_,[],rfl,fun e => ?_⟩⟩
   ·rw [List.mem_singleton.1 hc,q1n,hb]
    omega
   ·simp only [val,hb]
    omega
   ·rw [e] at hb
    have : (48 : UInt8).toNat = 48 := rfl
    omega
  ·obtain ⟨i1,i2,i3⟩ := ih (n / 10) (by omega)
   have hb := q93 (d := n % 10) (by omega)
   rw [qdd hn]
   refine ⟨fun c hc => ?_, ?_,fun h0 => ?_⟩
   ·rcases List.mem_append.1 hc with hc | hc
    ·exact i1 c hc
    ·rw [List.mem_singleton.1 hc,q1n,hb]
     omega
   ·rw [qai,i2,hb]
    omega
   ·obtain ⟨c,r,e1,e2⟩ := i3 (by omega)
    exact ⟨c,r ++ [UInt8.ofNat (48 + n % 10)],by rw [e1]; rfl,e2⟩
theorem qbr (n : Nat) : ∀ c ∈ dT n,zy c = true := (qaq n n (Nat.le_refl _)).1
theorem qhn (n : Nat) : val 0 (dT n) = (n : Int) := (qaq n n (Nat.le_refl _)).2.1
theorem qek {n : Nat} (h : 0 < n) : ∃ c r,dT n = c :: r ∧ c ≠ 48 := (qaq n n (Nat.le_refl _)).2.2 h
theorem q9y : ∀ (l : Bytes) (n : Int),(∀ c ∈ l,zy c = true) → 0 ≤ n → n ≤ val n l
 | [],n,_,_ => Int.le_refl _
 | c :: r,n,hd,h0 => by
  have hc := q1n.mp (hd c (by simp))
  have := q9y r (10 * n + ((c.toNat : Int) - 48)) (fun x hx => hd x (by simp [hx])) (by omega)
  simp only [val]
  omega
theorem x0n (ds : Bytes) (hd : ∀ c ∈ ds,zy c = true) (h0 : ds ≠ []) (hc : ¬ (ds.head? = some 48 ∧ 1 < ds.length)) : dT (val 0 ds).toNat = ds := by
 have key : ∀ (m : Nat) (ds : Bytes),ds.length = m → (∀ c ∈ ds,zy c = true) → ds ≠ [] → ¬ (ds.head? = some 48 ∧ 1 < ds.length) → dT (val 0 ds).toNat = ds := by
  intro m
  induction m with
  | zero => intro ds hl _ h0; exact absurd (List.length_eq_zero_iff.1 hl) h0
  | succ m ih =>
   intro ds hl hd h0 hc
   obtain ⟨l,c,rfl⟩ : ∃ l c,ds = l ++ [c] := by
    rcases List.eq_nil_or_concat ds with h | ⟨l,c,h⟩
    ·exact absurd h h0
    ·exact ⟨l,c,by simpa using h⟩
   have hcd := q1n.mp (hd c (by simp))
   rw [qai]
   by_cases hl0 : l = []
   ·subst hl0
    simp only [val,List.nil_append]
    rw [q8q (by omega)]
    congr 1
    apply UInt8.toNat_inj.mp
    rw [q93 (by omega)]
    omega
   ·have hd' : ∀ x ∈ l,zy x = true := fun x hx => hd x (by simp [hx])
    obtain ⟨x,r,rfl⟩ : ∃ x r,l = x :: r := by
     cases l with
     | nil => exact absurd rfl hl0
     | cons x r => exact ⟨x,r,rfl⟩
    have hx48 : x ≠ 48 := fun e => hc ⟨by simp [e],by simp⟩
    have hxd := q1n.mp (hd x (by simp))
    have hx1 : 49 ≤ x.toNat := by
     have : x.toNat ≠ 48 := fun e => hx48 (UInt8.toNat_inj.mp e)
     omega
    have hv : 1 ≤ val 0 (x :: r) := by
     have := q9y r (10 * 0 + ((x.toNat : Int) - 48)) (fun y hy => hd' y (by simp [hy])) (by omega)
     simp only [val]
     omega
    have ihl := ih (x :: r) (by simpa using hl) hd' (by simp) (fun h => hx48 (by simpa using h.1))
    have hn : ¬ (10 * val 0 (x :: r) + ((c.toNat : Int) - 48)).toNat < 10 := by omega
    rw [qdd hn]
    have e1 : (10 * val 0 (x :: r) + ((c.toNat : Int) - 48)).toNat / 10 = (val 0 (x :: r)).toNat := by omega
    have e2 : (10 * val 0 (x :: r) + ((c.toNat : Int) - 48)).toNat % 10 = c.toNat - 48 := by omega
    rw [e1,e2,ihl]
    congr 2
    apply UInt8.toNat_inj.mp
    rw [q93 (by omega)]
    omega
 exact key ds.length ds rfl hd h0 hc
theorem ja {α : Type} {L X R : List α} {k : Nat} (h : L.drop k = X ++ R) : L.drop (k + X.length) = R := by
 rw [← List.drop_drop,h]
 simp
theorem vw {α : Type} {L R : List α} {k : Nat} {c : α} (h : L.drop k = c :: R) : L[k]? = some c := by
 have : (L.drop k)[0]? = some c := by rw [h]; rfl
 simpa using this
theorem q0f {α : Type} {L : List α} {k : Nat} {c : α} (h : L[k]? = some c) : L.drop k = c :: L.drop (k + 1) := by
 have hk := at_lt h
 rw [List.drop_eq_getElem_cons hk]
 congr 1
 rw [List.getElem?_eq_getElem hk] at h
 exact Option.some.inj h
theorem q9b {p : UInt8 → Bool} : ∀ (X R : Bytes),(∀ c ∈ X,p c = true) → (∀ c r,R = c :: r → p c = false) → (X ++ R).takeWhile p = X
 | [],R,_,h => by
  cases R with
  | nil => rfl
  | cons c r => rw [List.nil_append,List.takeWhile_cons_of_neg (by simp [h c r rfl])]
 | x :: X,R,hx,h => by
  rw [List.cons_append,List.takeWhile_cons_of_pos (hx x (by simp)),q9b X R (fun c hc => hx c (by simp [hc])) h]
def q1v (R : Bytes) : Prop := ∀ c r,R = c :: r → zy c = false
theorem q0v {c : UInt8} {r : Bytes} (h : zy c = false) : q1v (c :: r) := fun c' r' e => by cases e; exact h
theorem qfu {n : Nat} (h : n < 1000000000000000000) : (dT n).length ≤ 18 := qbm (k := 17) (by
 have : (10 : Nat) ^ (17 + 1) = 1000000000000000000 := rfl
 omega)
theorem qdj {L R : Bytes} {k : Nat} {n : Int} (h : L.drop k = iT n ++ R) (hs : zb n = true) (hR : q1v R) : ko L k = some (n,k + (iT n).length) := by
 unfold zb at hs
 simp only [Bool.and_eq_true,decide_eq_true_eq] at hs
 by_cases hn : n < 0
 ·have e : iT n = 45 :: dT n.natAbs := by unfold iT dT Go.Lib.itoa; rw [if_pos hn]
  rw [e] at h ⊢
  have hneg : jf L k = true := by unfold jf; simp [vw h]
  have hb : behind L k = k + 1 := by unfold behind; rw [hneg]; rfl
  have h2 : L.drop (k + 1) = dT n.natAbs ++ R := by
   have := ja (X := [45]) (R := dT n.natAbs ++ R) (by simpa using h)
   simpa using this
  have hd : qx L (k + 1) = dT n.natAbs := by unfold qx; rw [h2]; exact q9b _ _ (qbr _) hR
  obtain ⟨c,r,hc,hc48⟩ := qek (n := n.natAbs) (by omega)
  have h18 := qfu (n := n.natAbs) (by omega)
  have hpos := qeb n.natAbs
  unfold ko
  rw [hb,hd,hneg,if_neg (by omega),if_neg (by
   rw [vw (c := c) (R := r ++ R) (by rw [h2,hc]; rfl)]
   intro hh
   exact hc48 (by simpa using hh.1)),qhn]
  simp only [if_true,Option.some.injEq,Prod.mk.injEq,List.length_cons]
  omega
 ·have e : iT n = dT n.toNat := qcl (by omega)
  rw [e] at h ⊢
  have hpos := qeb n.toNat
  obtain ⟨c,r,hc⟩ : ∃ c r,dT n.toNat = c :: r := by
   cases hh : dT n.toNat with
   | nil => rw [hh] at hpos; simp at hpos
   | cons c r => exact ⟨c,r,rfl⟩
  have hcd : zy c = true := qbr n.toNat c (by rw [hc]; simp)
  have hg : L[k]? = some c := vw (R := r ++ R) (by rw [h,hc]; rfl)
  have hneg : jf L k = false := by
   unfold jf
   rw [hg]
   simp only [decide_eq_false_iff_not]
   intro hh
   cases hh
   revert hcd
   decide
  have hb : behind L k = k := by unfold behind; rw [hneg]; rfl
  have hd : qx L k = dT n.toNat := by unfold qx; rw [h]; exact q9b _ _ (qbr _) hR
  have h18 := qfu (n := n.toNat) (by omega)
  unfold ko
  rw [hb,hd,hneg,if_neg (by omega),if_neg (by
   rw [hg]
   rintro ⟨h1,h2 | h2⟩
   ·cases h2
   ·cases h1
    by_cases h0 : 0 < n.toNat
    ·obtain ⟨c',r',e1,e2⟩ := qek h0
     rw [hc] at e1
     cases e1
     exact e2 rfl
    ·have : n.toNat = 0 := by omega
     rw [this,q8q (by omega)] at h2
     simp at h2),qhn]
  simp only [Bool.false_eq_true,if_false,Option.some.injEq,Prod.mk.injEq,and_true]
  omega
theorem qgh {L : Bytes} {k j : Nat} {n : Int} (h : ko L k = some (n,j)) : L.drop k = iT n ++ L.drop j ∧ zb n = true := by
 unfold ko at h
 split at h
 ·cases h
 rename_i c1
 split at h
 ·cases h
 rename_i c2
 simp only [Option.some.injEq,Prod.mk.injEq] at h
 obtain ⟨rfl,rfl⟩ := h
 have hall : ∀ c ∈ qx L (behind L k),zy c = true := qam zy _
 have hv := qdb (L := L) (k := behind L k) (by omega)
 have hne : qx L (behind L k) ≠ [] := fun e => c1 (.inl (by rw [e]; rfl))
 have hsplit : L.drop (behind L k) = qx L (behind L k) ++ L.drop (behind L k + (qx L (behind L k)).length) := by
  have h1 : L.drop (behind L k) = (L.drop (behind L k)).takeWhile zy ++ (L.drop (behind L k)).dropWhile zy := List.takeWhile_append_dropWhile.symm
  have h2 := ja h1
  unfold qx
  rw [h2]
  exact h1
 obtain ⟨x,r,hx⟩ : ∃ x r,qx L (behind L k) = x :: r := by
  cases hh : qx L (behind L k) with
  | nil => exact absurd hh hne
  | cons x r => exact ⟨x,r,rfl⟩
 have hg : L[behind L k]? = some x := by
  rw [hx] at hsplit
  exact vw hsplit
 have hcan : ¬ ((qx L (behind L k)).head? = some 48 ∧ 1 < (qx L (behind L k)).length) := fun hh => c2 ⟨by
  rw [hg,← hh.1,hx]
  rfl,.inr hh.2⟩
 have hdt := x0n _ hall hne hcan
 by_cases hneg : jf L k = true
 ·have hb : behind L k = k + 1 := by unfold behind; rw [hneg]; rfl
  have h48 : x ≠ 48 := fun e => c2 ⟨by rw [hg,e],.inl hneg⟩
  have hpos : 0 < val 0 (qx L (behind L k)) := by
   have hxd := q1n.mp (hall x (by rw [hx]; simp))
   have hx1 : 49 ≤ x.toNat := by
    have : x.toNat ≠ 48 := fun e => h48 (UInt8.toNat_inj.mp e)
    omega
   have := q9y r (10 * 0 + ((x.toNat : Int) - 48)) (fun y hy => hall y (by rw [hx]; simp [hy])) (by omega)
   rw [hx]
   simp only [val]
   omega
  rw [hneg]
  simp only [if_true]
  have hat : L[k]? = some 45 := by unfold jf at hneg; simpa using hneg
  refine ⟨?_,by unfold zb; simp; omega⟩
  have e : iT (0 - val 0 (qx L (behind L k))) = 45 :: qx L (behind L k) := by
   have : iT (0 - val 0 (qx L (behind L k))) = 45 :: dT (0 - val 0 (qx L (behind L k))).natAbs := by unfold iT dT Go.Lib.itoa; rw [if_pos (by omega)]
   rw [this,show (0 - val 0 (qx L (behind L k))).natAbs = (val 0 (qx L (behind L k))).toNat by omega,hdt]
  rw [e,q0f hat,← hb]
  rw [List.cons_append,← hsplit]
 ·have hneg' : jf L k = false := by simpa using hneg
  have hb : behind L k = k := by unfold behind; rw [hneg']; rfl
  rw [hneg']
  simp only [Bool.false_eq_true,if_false]
  refine ⟨?_,by unfold zb; simp; omega⟩
  rw [qcl hv.1,hdt]
  rw [hb] at hsplit ⊢
  exact hsplit
end Go.Proofs.YtaglodpkpggdiaaGreatDoor
