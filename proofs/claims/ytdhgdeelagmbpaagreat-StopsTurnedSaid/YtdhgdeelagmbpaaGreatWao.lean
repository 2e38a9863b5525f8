/-
  A snippet, read from a text: lists of parts, joined.
-/
import Derived.Test.YtdhgdeelagmbpaaGreatWah
set_option linter.unusedSimpArgs false
set_option linter.unusedVariables false
namespace Go.Proofs.YtdhgdeelagmbpaaGreat
open Go Go.Gm
def Tot {α : Type} (o : Option α) (Q : α → Prop) : Prop := ∃ r,o = some r ∧ Q r
theorem Tot.ret {α : Type} {a : α} {Q : α → Prop} (h : Q a) : Tot (some a) Q := ⟨a,rfl,h⟩
theorem Tot.bind {α β : Type} {o : Option α} {f : α → Option β} {P : α → Prop} {Q : β → Prop} (h : Tot o P) (k : ∀ x,P x → Tot (f x) Q) : Tot (o >>= f) Q := by
 obtain ⟨x,rfl,hx⟩ := h
 exact k x hx
theorem Tot.go {α β : Type} {o : Option α} {f : α → Option β} {a : α} {Q : β → Prop} (h : o = some a) (k : Tot (f a) Q) : Tot (o >>= f) Q := by
 subst h
 exact k
theorem Tot.ite {α : Type} {c : Prop} [Decidable c] {a b : Option α} {Q : α → Prop} (h1 : c → Tot a Q) (h2 : ¬ c → Tot b Q) : Tot (if c then a else b) Q := by
 split
 ·exact h1 (by assumption)
 ·exact h2 (by assumption)
theorem Tot.need {α : Type} {c : Prop} [Decidable c] {a : Option α} {Q : α → Prop} (hc : c) (h : Tot a Q) : Tot (if c then a else none) Q := by
 rw [if_pos hc]
 exact h
theorem Tot.mono {α : Type} {o : Option α} {P Q : α → Prop} (h : Tot o P) (k : ∀ x,P x → Q x) : Tot o Q := by
 obtain ⟨x,h1,h2⟩ := h
 exact ⟨x,h1,k x h2⟩
theorem Tot.get {α : Type} {l : List α} {i : Int} (h1 : 0 ≤ i) (h2 : i < (l.length : Int)) : Tot (qc l i) (fun x => l[i.toNat]? = some x ∧ x ∈ l) := by
 have h3 : i.toNat < l.length := by omega
 refine ⟨l[i.toNat], ?_,by simp [h3],List.getElem_mem h3⟩
 unfold qc
 rw [if_pos h1]
 simp [h3]
theorem Tot.sub2 {α : Type} {l : List α} {lo hi : Int} (h1 : 0 ≤ lo) (h2 : lo ≤ hi) (h3 : hi ≤ (l.length : Int)) : Tot (Gm.sub2 l lo hi) (fun r => r = (l.take hi.toNat).drop lo.toNat ∧ (r.length : Int) = hi - lo) := by
 refine ⟨(l.take hi.toNat).drop lo.toNat, ?_,rfl, ?_⟩
 ·unfold Gm.sub2
  rw [if_pos ⟨⟨h1,by omega⟩,by omega,by omega⟩]
 ·simp only [List.length_drop,List.length_take]; omega
theorem Tot.jr {α : Type} {l : List α} {lo : Int} (h1 : 0 ≤ lo) (h2 : lo ≤ (l.length : Int)) : Tot (Gm.jr l lo) (fun r => r = l.drop lo.toNat ∧ (r.length : Int) = l.length - lo) := by
 refine ⟨l.drop lo.toNat, ?_,rfl, ?_⟩
 ·unfold Gm.jr
  rw [if_pos ⟨h1,by omega⟩]
 ·simp only [List.length_drop]; omega
theorem Tot.gq {α : Type} {l : List α} {hi : Int} (h1 : 0 ≤ hi) (h2 : hi ≤ (l.length : Int)) : Tot (Gm.gq l hi) (fun r => r = l.take hi.toNat ∧ (r.length : Int) = hi) := by
 refine ⟨l.take hi.toNat, ?_,rfl, ?_⟩
 ·unfold Gm.gq
  rw [if_pos ⟨h1,by omega⟩]
 ·simp only [List.length_take]; omega
theorem zt {n k : Nat} (h : n ≤ 2 ^ 30) (hk : k ≤ 2 ^ 16) : ql n k = true := by
 have h1 : n * k ≤ 2 ^ 30 * 2 ^ 16 := Nat.mul_le_mul h hk
 unfold ql
 simp only [Bool.and_eq_true,decide_eq_true_eq]
 refine ⟨⟨by simpa using h1,by omega⟩,by omega⟩
theorem qa {n : Int} (h1 : 0 ≤ n) (h2 : n ≤ 255) : IntKind.u8.wrap n = n := IntWalk.u8_in n ⟨h1,h2⟩
theorem ge0 {a b : Int} : (a ≥ b) = (b ≤ a) := rfl
theorem gt0 {a b : Int} : (a > b) = (b < a) := rfl
def tfx := PLift.up (And.intro @decide_eq_true_eq (And.intro @Bool.and_eq_true (And.intro @Bool.or_eq_true (And.intro @Bool.not_eq_true' (And.intro @Bool.not_eq_true (And.intro @Bool.and_eq_false_iff (And.intro @Bool.or_eq_false_iff (And.intro @decide_eq_false_iff_not
 (And.intro @beq_iff_eq.{0} (And.intro @bne_iff_ne.{0} (And.intro @beq_eq_false_iff_ne.{0} (And.intro @bne_eq_false_iff_eq.{0} (And.intro @not_and (And.intro @not_or (And.intro @ge0 (And.intro @gt0 (And.intro @Bool.not_eq_false' (And.intro @Bool.not_eq_false (And.intro @Int.not_lt (And.intro @Int.not_le
 (And.intro @ne_eq.{1} @Decidable.not_not)))))))))))))))))))))
def BN : Nat := 8192
theorem q51 (c : UInt8) : Tot (q1j c) (fun v => v = true → 48 ≤ c.toNat ∧ c.toNat ≤ 57) := by
 unfold q1j
 (apply Tot.ite <;> intro hT <;> try simp (disch := omega) only [tfx.down,q9,qa] at hT)
 ·exact .ret (by simp; omega)
 ·exact .ret (by simp)
theorem q9t (c : UInt8) : Tot (q5c c) (fun _ => True) := by
 unfold q5c
 (apply Tot.ite <;> intro hT <;> try simp (disch := omega) only [tfx.down,q9,qa] at hT)
 ·exact .ret trivial
 ·(apply Tot.ite <;> intro hT <;> try simp (disch := omega) only [tfx.down,q9,qa] at hT)
  ·exact .ret trivial
  ·exact .ret trivial
theorem qrl (s : Bytes) (hs : s.length ≤ BN) (at_ : Int) (ha : 0 ≤ at_) (ha2 : at_ ≤ s.length) : ∀ (m : Nat) (n e : Int),m = (s.length - e).toNat → at_ ≤ e → e ≤ s.length → 0 ≤ n →
  (e = at_ ∧ n < 1 ∨ e = at_ + 1 ∧ n < 10 ∨ e = at_ + 2 ∧ n < 100 ∨ e = at_ + 3 ∧ n < 1000 ∨ e = at_ + 4 ∧ n < 10000) →
  Tot (q6g (s,at_,n,e)) (fun r => 0 ≤ r.1 ∧ r.1 ≤ 9999 ∧ e ≤ r.2 ∧ r.2 ≤ s.length) := by
 unfold BN at hs
 intro m
 induction m using Nat.strongRecOn with
 | _ m ih =>
 intro n e hm h1 h2 h4 h5
 rw [q6g.eq_1]
 (apply Tot.ite <;> intro hT <;> try simp (disch := omega) only [tfx.down,q9,qa] at hT)
 ·(repeat (first | (rw [q9]; rotate_left; omega; omega) | (rw [qa]; rotate_left; omega; omega)))
  refine Tot.bind (Tot.get (by omega) (by omega)) fun b hb => ?_
  refine Tot.bind (q51 b) fun v hv => ?_
  (apply Tot.ite <;> intro hT <;> try simp (disch := omega) only [tfx.down,q9,qa] at hT)
  ·have hv1 := hT
   have hv2 := hv hv1
   (try simp (disch := omega) only [q9,qa])
   exact (ih _ (by omega) _ _ rfl (by omega) (by omega) (by omega) (by omega)).mono fun r hr => by omega
  ·exact .ret (by simp only; omega)
 ·exact .ret (by simp only; omega)
theorem qg6 (s : Bytes) (hs : s.length ≤ BN) (at_ : Int) (ha : 0 ≤ at_) (ha2 : at_ ≤ s.length) :
  Tot (q6o s at_) (fun r => 0 ≤ r.1 ∧ r.1 ≤ 9999 ∧ (r.2.2 = true → at_ < r.2.1 ∧ r.2.1 ≤ s.length)) := by
 unfold q6o
 refine Tot.bind (qrl s hs at_ ha ha2 _ 0 at_ rfl (by omega) ha2 (by omega) (by omega)) fun v hv => ?_
 (apply Tot.ite <;> intro hT <;> try simp (disch := omega) only [tfx.down,q9,qa] at hT)
 ·exact .ret (by simp)
 ·(apply Tot.ite <;> intro hT <;> try simp (disch := omega) only [tfx.down,q9,qa] at hT)
  ·refine Tot.bind (Tot.get (by omega) (by omega)) fun b hb => ?_
   refine Tot.bind (q51 b) fun w hw => ?_
   (apply Tot.ite <;> intro hT <;> try simp (disch := omega) only [tfx.down,q9,qa] at hT)
   ·exact .ret (by simp)
   ·exact .ret ⟨hv.1,hv.2.1,fun _ => by simp only; omega⟩
  ·exact .ret ⟨hv.1,hv.2.1,fun _ => by simp only; omega⟩
theorem zbo (s : Bytes) (hs : s.length ≤ BN) : ∀ (m : Nat) (i : Int),m = (s.length - i).toNat → 0 ≤ i → Tot (q0i (s,i)) (fun _ => True) := by
 unfold BN at hs
 intro m
 induction m using Nat.strongRecOn with
 | _ m ih =>
 intro i hm h1
 rw [q0i.eq_1]
 (apply Tot.ite <;> intro hT <;> try simp (disch := omega) only [tfx.down,q9,qa] at hT)
 ·(repeat (first | (rw [q9]; rotate_left; omega; omega) | (rw [qa]; rotate_left; omega; omega)))
  refine Tot.bind (Tot.get (by omega) (by omega)) fun b hb => ?_
  refine Tot.bind (q9t b) fun v hv => ?_
  have h := ih _ (by omega) (i + 1) rfl (by omega)
  (apply Tot.ite <;> intro hT <;> try simp (disch := omega) only [tfx.down,q9,qa] at hT)
  ·(apply Tot.ite <;> intro hT <;> try simp (disch := omega) only [tfx.down,q9,qa] at hT)
   ·(apply Tot.ite <;> intro hT <;> try simp (disch := omega) only [tfx.down,q9,qa] at hT)
    ·exact .ret trivial
    ·refine Tot.bind (q51 b) fun w hw => ?_
     (apply Tot.ite <;> intro hT <;> try simp (disch := omega) only [tfx.down,q9,qa] at hT)
     ·exact .ret trivial
     ·exact h
   ·exact h
  ·exact h
 ·exact .ret trivial
theorem qqb (s : Bytes) (hs : s.length ≤ BN) : Tot (gy s) (fun _ => True) := by
 unfold gy
 (apply Tot.ite <;> intro hT <;> try simp (disch := omega) only [tfx.down,q9,qa] at hT)
 ·exact .ret trivial
 ·refine Tot.bind (zbo s hs _ 0 rfl (by omega)) fun v hv => ?_
  rcases v with v | v <;> exact .ret trivial
theorem zix (s : Bytes) (hs : s.length ≤ BN) (w : List T.qb) (es : List Int) (at_ : Int) (ha : 0 ≤ at_) : ∀ (m : Nat) (e : Int),m = (s.length - e).toNat → at_ ≤ e → e ≤ s.length →
  Tot (q35 (at_,e,s,w,es)) (fun r => e ≤ r ∧ r ≤ s.length) := by
 unfold BN at hs
 intro m
 induction m using Nat.strongRecOn with
 | _ m ih =>
 intro e hm h1 h2
 rw [q35.eq_1]
 (apply Tot.ite <;> intro hT <;> try simp (disch := omega) only [tfx.down,q9,qa] at hT)
 ·(repeat (first | (rw [q9]; rotate_left; omega; omega) | (rw [qa]; rotate_left; omega; omega)))
  refine Tot.bind (Tot.get (by omega) (by omega)) fun b hb => ?_
  refine Tot.bind (q9t b) fun v hv => ?_
  have h := (ih _ (by omega) (e + 1) rfl (by omega) (by omega)).mono (Q := fun r => e ≤ r ∧ r ≤ s.length) fun r hr => by omega
  (apply Tot.ite <;> intro hT <;> try simp (disch := omega) only [tfx.down,q9,qa] at hT)
  ·exact h
  ·(apply Tot.ite <;> intro hT <;> try simp (disch := omega) only [tfx.down,q9,qa] at hT)
   ·exact h
   ·(apply Tot.ite <;> intro hT <;> try simp (disch := omega) only [tfx.down,q9,qa] at hT)
    ·refine Tot.bind (q51 b) fun w hw => ?_
     (apply Tot.ite <;> intro hT <;> try simp (disch := omega) only [tfx.down,q9,qa] at hT)
     ·exact h
     ·exact .ret (by omega)
    ·exact .ret (by omega)
 ·exact .ret (by omega)
theorem zsp (s : Bytes) (hs : s.length ≤ BN) (w : List T.qb) (es : List Int) (at_ : Int) (ha : 0 ≤ at_) (ha2 : at_ ≤ s.length) :
  Tot (qbc at_ s w es) (fun r => at_ ≤ r.2.1 ∧ r.2.1 ≤ s.length ∧ (r.1.length : Int) = r.2.1 - at_ ∧ (r.2.2 = true → at_ < r.2.1)) := by
 unfold qbc
 refine Tot.bind (zix s hs w es at_ ha _ at_ rfl (by omega) ha2) fun v hv => ?_
 refine Tot.bind (Tot.sub2 ha hv.1 hv.2) fun x hx => ?_
 have hn := qqb x (by omega)
 by_cases he : x.length = 0
 ·have : x = [] := by simpa using he
  subst this
  refine Tot.bind (o := gy []) (P := fun w => w = false) ⟨false,by unfold gy; simp,rfl⟩ fun w hw => ?_
  subst hw
  exact .ret ⟨hv.1,hv.2,hx.2,by simp⟩
 ·refine Tot.bind hn fun w hw => ?_
  exact .ret ⟨hv.1,hv.2,hx.2,fun _ => by simp only; omega⟩
end Go.Proofs.YtdhgdeelagmbpaaGreat
set_option linter.unusedSimpArgs false
set_option linter.unusedVariables false
namespace Go.Proofs.YtdhgdeelagmbpaaGreat
open Go Go.Gm
def qf : List Nat → Nat
 | [] => 0
 | a :: r => a + qf r
theorem q5n : ∀ a b : List Nat,qf (a ++ b) = qf a + qf b
 | [],b => by simp [qf]
 | x :: a,b => by simp only [List.cons_append,qf,q5n a b]; omega
theorem qix : ∀ {l : List Nat} {x : Nat},x ∈ l → x ≤ qf l
 | y :: l,x,h => by
  simp only [qf]
  rcases List.mem_cons.1 h with rfl | h
  ·omega
  ·have := qix h; omega
theorem xk {α : Type} {f : α → Nat} (hf : ∀ a,1 ≤ f a) : ∀ l : List α,l.length ≤ qf (l.map f)
 | [] => by simp [qf]
 | a :: l => by
  have := xk hf l
  have := hf a
  simp only [List.map_cons,qf,List.length_cons]
  omega
theorem wh {α : Type} (f : α → Nat) (l : List α) (a : α) : qf ((l ++ [a]).map f) = qf (l.map f) + f a := by
 rw [List.map_append,q5n]; simp [qf]
theorem uy {α : Type} {f : α → Nat} {l : List α} {a : α} (h : a ∈ l) : f a ≤ qf (l.map f) := qix (List.mem_map.2 ⟨a,h,rfl⟩)
theorem qb0 {α : Type} (f : α → Nat) : ∀ (l : List α) (i : Nat) (a x : α),l[i]? = some x → qf ((l.set i a).map f) + f x = qf (l.map f) + f a
 | y :: l,0,a,x,h => by
  simp only [List.getElem?_cons_zero,Option.some.injEq] at h
  subst h
  simp only [List.set_cons_zero,List.map_cons,qf]; omega
 | y :: l,i + 1,a,x,h => by
  simp only [List.getElem?_cons_succ] at h
  have := qb0 f l i a x h
  simp only [List.set_cons_succ,List.map_cons,qf]; omega
def fmW (f : T.Fmt) : Nat := 1 + f.thn.length + f.els.length
theorem qcz (x : T.Fmt) : 1 ≤ fmW x := by unfold fmW; omega
theorem qj2 (w : Int) : Tot (q8r w) (fun r => r.length ≤ 20) := by
 unfold q8r
 repeat' (first | (apply Tot.ite <;> intro hT <;> try simp (disch := omega) only [tfx.down,q9,qa] at hT) | exact .ret (by decide))
theorem zkr (s : Bytes) (hs : s.length ≤ BN) (e : Int) (h0 : 0 ≤ e) (h1 : e + 1 < s.length) (t f : T.Fmt) : ∀ (m : Nat) (w : Int),m = (6 - w).toNat → 1 ≤ w →
  Tot (q5t (s,e,w,t,f)) (fun r => ∀ y,r = .inl y → e < y.1 ∧ y.1 ≤ s.length ∧ fmW y.2.2.1 = fmW f ∧ y.2.1 = true) := by
 unfold BN at hs
 intro m
 induction m using Nat.strongRecOn with
 | _ m ih =>
 intro w hm h2
 rw [q5t.eq_1]
 (apply Tot.ite <;> intro hT <;> try simp (disch := omega) only [tfx.down,q9,qa] at hT)
 ·refine Tot.bind (qj2 w) fun v hv => ?_
  refine Tot.need (by simp; omega) ?_
  have hl : ((v ++ ([125] : Bytes)).length : Int) = v.length + 1 := by simp
  (repeat (first | (rw [q9]; rotate_left; omega; omega) | (rw [qa]; rotate_left; omega; omega)))
  simp only [hl]
  have h := ih _ (by omega) (w + 1) rfl (by omega)
  (apply Tot.ite <;> intro hT <;> try simp (disch := omega) only [tfx.down,q9,qa] at hT)
  ·(repeat (first | (rw [q9]; rotate_left; omega; omega) | (rw [qa]; rotate_left; omega; omega)))
   refine Tot.bind (Tot.sub2 (by omega) (by omega) (by omega)) fun r hr => ?_
   (apply Tot.ite <;> intro hT <;> try simp (disch := omega) only [tfx.down,q9,qa] at hT)
   ·refine .ret fun y hy => ?_
    cases hy
    refine ⟨by simp only; omega,by simp only; omega,rfl,rfl⟩
   ·(repeat (first | (rw [q9]; rotate_left; omega; omega) | (rw [qa]; rotate_left; omega; omega))); exact h
  ·(repeat (first | (rw [q9]; rotate_left; omega; omega) | (rw [qa]; rotate_left; omega; omega))); exact h
 ·exact .ret fun y hy => by cases hy
theorem qfg (s : Bytes) (hs : s.length ≤ BN) (at_ : Int) (h0 : 0 ≤ at_) (h1 : at_ < s.length) (c : Bool) : Tot (q70 s at_ c) (fun r => r = true → at_ + 1 < s.length) := by
 unfold BN at hs
 unfold q70
 refine Tot.bind (Tot.get h0 h1) fun b hb => ?_
 (repeat (first | (rw [q9]; rotate_left; omega; omega) | (rw [qa]; rotate_left; omega; omega)))
 (apply Tot.ite <;> intro hT <;> try simp (disch := omega) only [tfx.down,q9,qa] at hT)
 ·exact .ret (by simp)
 ·refine Tot.bind (Tot.get (by omega) (by omega)) fun b2 hb2 => ?_
  (apply Tot.ite <;> intro hT <;> try simp (disch := omega) only [tfx.down,q9,qa] at hT)
  ·exact .ret (by simp; omega)
  ·(apply Tot.ite <;> intro hT <;> try simp (disch := omega) only [tfx.down,q9,qa] at hT)
   ·exact .ret (fun _ => by omega)
   ·exact .ret (by simp)
theorem zgj (s : Bytes) (hs : s.length ≤ BN) (stop : UInt8) : ∀ (m : Nat) (at_ : Int) (b : List UInt8),m = (s.length - at_).toNat → 0 ≤ at_ → at_ ≤ s.length → b.length ≤ BN →  (b.length : Int) ≤ at_ →
  Tot (q52 (s,at_,stop,b)) (fun r => at_ ≤ r.1 ∧ r.1 ≤ s.length ∧ (r.2.length : Int) + at_ ≤ b.length + r.1) := by
 unfold BN at hs
 intro m
 induction m using Nat.strongRecOn with
 | _ m ih =>
 intro at_ b hm h0 h1 hb hb2
 rw [q52.eq_1]
 (apply Tot.ite <;> intro hT <;> try simp (disch := omega) only [tfx.down,q9,qa] at hT)
 ·refine Tot.bind (Tot.get (by omega) (by omega)) fun c hc => ?_
  (apply Tot.ite <;> intro hT <;> try simp (disch := omega) only [tfx.down,q9,qa] at hT)
  ·refine Tot.bind (qfg s (by unfold BN; omega) at_ h0 (by omega) true) fun v hv => ?_
   (repeat (first | (rw [q9]; rotate_left; omega; omega) | (rw [qa]; rotate_left; omega; omega)))
   (apply Tot.ite <;> intro hT <;> try simp (disch := omega) only [tfx.down,q9,qa] at hT)
   ·have hv1 := hT
    have := hv hv1
    refine Tot.bind (Tot.get (by omega) (by omega)) fun c2 hc2 => ?_
    refine Tot.need (zt (by omega) (by omega)) ?_
    exact (ih _ (by omega) (at_ + 1 + 1) _ rfl (by omega) (by omega) (by simp; unfold BN; omega) (by simp; omega)).mono fun r hr => by
     simp only [List.length_append,List.length_cons,List.length_nil] at hr; omega
   ·refine Tot.need (zt (by omega) (by omega)) ?_
    exact (ih _ (by omega) (at_ + 1) _ rfl (by omega) (by omega) (by simp; unfold BN; omega) (by simp; omega)).mono fun r hr => by
     simp only [List.length_append,List.length_cons,List.length_nil] at hr; omega
  ·exact .ret (by simp only; omega)
 ·exact .ret (by simp only; omega)
theorem q9q (s : Bytes) (hs : s.length ≤ BN) (at_ : Int) (h0 : 0 ≤ at_) (h1 : at_ ≤ s.length) (stop : UInt8) :
  Tot (q3s s at_ stop) (fun r => r.2.2 = true → at_ ≤ r.2.1 ∧ r.2.1 < s.length ∧ (r.1.length : Int) + at_ ≤ r.2.1) := by
 unfold q3s
 refine Tot.bind (zgj s hs stop _ at_ [] rfl h0 h1 (by simp) (by simp; omega)) fun v hv => ?_
 (apply Tot.ite <;> intro hT <;> try simp (disch := omega) only [tfx.down,q9,qa] at hT)
 ·exact .ret (by simp)
 ·refine .ret fun _ => ?_
  simp only [List.length_nil] at hv ⊢
  omega
set_option maxHeartbeats 2000000 in
theorem qz5 (s : Bytes) (hs : s.length ≤ BN) (at_ : Int) (h0 : 0 ≤ at_) (h1 : at_ < s.length) :
  Tot (qbz s at_) (fun r => r.2.2 = true → at_ + 1 < r.2.1 ∧ r.2.1 ≤ s.length ∧ (fmW r.1 : Int) + at_ + 1 ≤ r.2.1) := by
 have hB : s.length ≤ 8192 := hs
 unfold qbz
 (repeat (first | (rw [q9]; rotate_left; omega; omega) | (rw [qa]; rotate_left; omega; omega)))
 refine Tot.bind (qg6 s hs (at_ + 1) (by omega) (by omega)) fun v hv => ?_
 (apply Tot.ite <;> intro hT <;> try simp (disch := omega) only [tfx.down,q9,qa] at hT)
 ·have hc := hT
  have := hv.2.2 hc
  exact .ret fun _ => ⟨by simp only; omega,by simp only; omega,by simp only [fmW,List.length_nil]; omega⟩
 ·(apply Tot.ite <;> intro hT <;> try simp (disch := omega) only [tfx.down,q9,qa] at hT)
  ·exact .ret (by simp)
  ·refine Tot.bind (Tot.get (by omega) (by omega)) fun b hb => ?_
   (apply Tot.ite <;> intro hT <;> try simp (disch := omega) only [tfx.down,q9,qa] at hT)
   ·exact .ret (by simp)
   ·refine Tot.bind (qg6 s hs (at_ + 2) (by omega) (by omega)) fun w hw => ?_
    (apply Tot.ite <;> intro hT <;> try simp (disch := omega) only [tfx.down,q9,qa] at hT)
    ·exact .ret (by simp)
    ·have hc := hT
     have hw2 := hw.2.2 (by simpa using hc.1)
     refine Tot.bind (Tot.get (by omega) (by omega)) fun b2 hb2 => ?_
     (repeat (first | (rw [q9]; rotate_left; omega; omega) | (rw [qa]; rotate_left; omega; omega)))
     (apply Tot.ite <;> intro hT <;> try simp (disch := omega) only [tfx.down,q9,qa] at hT)
     ·exact .ret fun _ => ⟨by simp only; omega,by simp only; omega,by simp only [fmW,List.length_nil]; omega⟩
     ·(apply Tot.ite <;> intro hT <;> try simp (disch := omega) only [tfx.down,q9,qa] at hT)
      ·exact .ret (by simp)
      ·refine Tot.bind (Tot.get (by omega) (by omega)) fun b3 hb3 => ?_
       (apply Tot.ite <;> intro hT <;> try simp (disch := omega) only [tfx.down,q9,qa] at hT)
       ·refine Tot.bind (zkr s hs w.2.1 (by omega) (by omega) _ _ _ 1 rfl (by omega)) fun y hy => ?_
        rcases y with y | y
        ·obtain ⟨g1,g2,g3,g4⟩ := hy y rfl
         refine .ret fun _ => ?_
         simp only [fmW,List.length_nil] at g3 ⊢
         omega
        ·exact .ret (by simp)
       ·(repeat (first | (rw [q9]; rotate_left; omega; omega) | (rw [qa]; rotate_left; omega; omega)))
        (apply Tot.ite <;> intro hT <;> try simp (disch := omega) only [tfx.down,q9,qa] at hT)
        ·refine Tot.bind (q9q s hs (w.2.1 + 2) (by omega) (by omega) 125) fun y hy => ?_
         (apply Tot.ite <;> intro hT <;> try simp (disch := omega) only [tfx.down,q9,qa] at hT)
         ·exact .ret (by simp)
         ·have hc := hT
          have hy := hy hc
          (repeat (first | (rw [q9]; rotate_left; omega; omega) | (rw [qa]; rotate_left; omega; omega)))
          refine .ret fun _ => ?_
          simp only [fmW,List.length_nil]
          omega
        ·(apply Tot.ite <;> intro hT <;> try simp (disch := omega) only [tfx.down,q9,qa] at hT)
         ·refine Tot.bind (q9q s hs (w.2.1 + 2) (by omega) (by omega) 58) fun y hy => ?_
          (apply Tot.ite <;> intro hT <;> try simp (disch := omega) only [tfx.down,q9,qa] at hT)
          ·have hc := hT
           have hy := hy hc
           (repeat (first | (rw [q9]; rotate_left; omega; omega) | (rw [qa]; rotate_left; omega; omega)))
           refine Tot.bind (q9q s hs (y.2.1 + 1) (by omega) (by omega) 125) fun z hz => ?_
           (apply Tot.ite <;> intro hT <;> try simp (disch := omega) only [tfx.down,q9,qa] at hT)
           ·exact .ret (by simp)
           ·have hc := hT
            have hz := hz hc
            (repeat (first | (rw [q9]; rotate_left; omega; omega) | (rw [qa]; rotate_left; omega; omega)))
            refine .ret fun _ => ?_
            simp only [fmW]
            omega
          ·exact .ret (by simp)
         ·(apply Tot.ite <;> intro hT <;> try simp (disch := omega) only [tfx.down,q9,qa] at hT)
          ·refine Tot.bind (q9q s hs (w.2.1 + 2) (by omega) (by omega) 125) fun y hy => ?_
           (apply Tot.ite <;> intro hT <;> try simp (disch := omega) only [tfx.down,q9,qa] at hT)
           ·exact .ret (by simp)
           ·have hc := hT
            have hy := hy hc
            (repeat (first | (rw [q9]; rotate_left; omega; omega) | (rw [qa]; rotate_left; omega; omega)))
            refine .ret fun _ => ?_
            simp only [fmW,List.length_nil]
            omega
          ·refine Tot.bind (q9q s hs (w.2.1 + 1) (by omega) (by omega) 125) fun y hy => ?_
           (apply Tot.ite <;> intro hT <;> try simp (disch := omega) only [tfx.down,q9,qa] at hT)
           ·exact .ret (by simp)
           ·have hc := hT
            have hy := hy hc
            (repeat (first | (rw [q9]; rotate_left; omega; omega) | (rw [qa]; rotate_left; omega; omega)))
            refine .ret fun _ => ?_
            simp only [fmW,List.length_nil]
            omega
theorem zqy {α : Type} (l : List α) (a : α) : (((l ++ [a]).length : Int) - 1).toNat = l.length := by simp
theorem zk3 {α : Type} (l : List α) (a b : α) : (l ++ [a]).set l.length b = l ++ [b] := by simp
theorem qmr (c : UInt8) (fs : List T.Fmt) (hf : qf (fs.map fmW) ≤ 4 * BN) :
  Tot (q1u c fs) (fun r => qf (r.map fmW) ≤ qf (fs.map fmW) + 2) := by
 unfold BN at hf
 have hl := xk qcz fs
 have key : ∀ z : T.Fmt,z.thn = [] → z.els = [] → Tot (qc (fs ++ [z]) (IntKind.i64.wrap (((fs ++ [z]).length : Int) - 1))) (fun x => x = z) := by
  intro z h1 h2
  have : IntKind.i64.wrap (((fs ++ [z]).length : Int) - 1) = (fs.length : Int) := by
   rw [q9 (by simp only [List.length_append,List.length_cons,List.length_nil]; omega) (by simp only [List.length_append,List.length_cons,List.length_nil]; omega)]; simp
  rw [this]
  refine (Tot.get (by omega) (by simp only [List.length_append,List.length_cons,List.length_nil]; omega)).mono fun x hx => ?_
  have := hx.1
  simp at this
  exact this.symm
 have snd : ∀ (z y : T.Fmt),z.thn = [] → z.els = [] → y.thn = [c] → y.els = [] → qf (((fs ++ [z]).set (IntKind.i64.wrap (((fs ++ [z]).length : Int) - 1)).toNat y).map fmW) ≤ qf (fs.map fmW) + 2 := by
  intro z y h1 h2 h3 h4
  rw [q9 (by simp only [List.length_append,List.length_cons,List.length_nil]; omega) (by simp only [List.length_append,List.length_cons,List.length_nil]; omega),zqy,zk3,wh]
  simp [fmW,h3,h4]
 unfold q1u
 (apply Tot.ite <;> intro hT <;> try simp (disch := omega) only [tfx.down,q9,qa] at hT)
 ·refine Tot.need (zt (by omega) (by omega)) ?_
  refine Tot.bind (key _ rfl rfl) fun x hx => ?_
  subst hx
  refine Tot.need (by simp) ?_
  exact .ret (snd _ _ rfl rfl (by simp) rfl)
 ·have e1 : IntKind.i64.wrap ((fs.length : Int) - 1) = (fs.length : Int) - 1 := q9 (by omega) (by omega)
  rw [e1]
  refine Tot.bind (Tot.get (by omega) (by omega)) fun x hx => ?_
  have hx2 := uy (f := fmW) hx.2
  (apply Tot.ite <;> intro hT <;> try simp (disch := omega) only [tfx.down,q9,qa] at hT)
  ·refine Tot.need (zt (by omega) (by omega)) ?_
   refine Tot.bind (key _ rfl rfl) fun x hx => ?_
   subst hx
   refine Tot.need (by simp) ?_
   exact .ret (snd _ _ rfl rfl (by simp) rfl)
  ·refine Tot.need (by simp only [fmW] at hx2; simp; omega) ?_
   refine .ret ?_
   have := qb0 fmW fs ((fs.length : Int) - 1).toNat (T.Fmt.mk x.kind x.n x.cas (x.thn ++ [c]) x.els) x hx.1
   simp only [fmW,List.length_append,List.length_cons,List.length_nil] at this ⊢
   have e2 : qf (List.map (fun f => 1 + f.thn.length + f.els.length) (fs.set ((fs.length : Int) - 1).toNat (T.Fmt.mk x.kind x.n x.cas (x.thn ++ [c]) x.els))) = qf (List.map fmW (fs.set ((fs.length : Int) - 1).toNat (T.Fmt.mk x.kind x.n x.cas (x.thn ++ [c]) x.els))) := rfl
   omega
theorem zly (s : Bytes) (hs : s.length ≤ BN) : ∀ (m : Nat) (at_ : Int) (fs : List T.Fmt),m = (s.length - at_).toNat → 0 ≤ at_ → at_ ≤ s.length → (qf (fs.map fmW) : Int) ≤ 2 * at_ →
  Tot (q04 (s,at_,fs)) (fun r => at_ ≤ r.1 ∧ r.1 ≤ s.length ∧ (qf (r.2.map fmW) : Int) + 2 * at_ ≤ qf (fs.map fmW) + 2 * r.1) := by
 have hB : s.length ≤ 8192 := hs
 intro m
 induction m using Nat.strongRecOn with
 | _ m ih =>
 intro at_ fs hm h0 h1 hw
 have hl := xk qcz fs
 rw [q04.eq_1]
 (apply Tot.ite <;> intro hT <;> try simp (disch := omega) only [tfx.down,q9,qa] at hT)
 ·refine Tot.bind (Tot.get (by omega) (by omega)) fun c hc => ?_
  have two : ∀ (v : Bool),(v = true → at_ + 1 < s.length) → Tot (if v = true then
     qc s (IntKind.i64.wrap (at_ + (1 : Int))) >>= fun b14 =>
     q1u b14 fs >>= fun v16 =>
     q04 (s,(IntKind.i64.wrap ((IntKind.i64.wrap (at_ + (1 : Int))) + (1 : Int))),v16)
    else
     q1u c fs >>= fun v18 =>
     q04 (s,(IntKind.i64.wrap (at_ + (1 : Int))),v18)) (fun r => at_ ≤ r.1 ∧ r.1 ≤ s.length ∧ (qf (r.2.map fmW) : Int) + 2 * at_ ≤ qf (fs.map fmW) + 2 * r.1) := by
   intro v hv
   (repeat (first | (rw [q9]; rotate_left; omega; omega) | (rw [qa]; rotate_left; omega; omega)))
   (apply Tot.ite <;> intro hT <;> try simp (disch := omega) only [tfx.down,q9,qa] at hT)
   ·have hv1 := hT
    have := hv hv1
    refine Tot.bind (Tot.get (by omega) (by omega)) fun c2 hc2 => ?_
    refine Tot.bind (qmr c2 fs (by unfold BN; omega)) fun w hw2 => ?_
    exact (ih _ (by omega) (at_ + 1 + 1) w rfl (by omega) (by omega) (by omega)).mono fun r hr => by omega
   ·refine Tot.bind (qmr c fs (by unfold BN; omega)) fun w hw2 => ?_
    exact (ih _ (by omega) (at_ + 1) w rfl (by omega) (by omega) (by omega)).mono fun r hr => by omega
  (apply Tot.ite <;> intro hT <;> try simp (disch := omega) only [tfx.down,q9,qa] at hT)
  ·(apply Tot.ite <;> intro hT <;> try simp (disch := omega) only [tfx.down,q9,qa] at hT)
   ·refine Tot.bind (qz5 s hs at_ h0 (by omega)) fun y hy => ?_
    (apply Tot.ite <;> intro hT <;> try simp (disch := omega) only [tfx.down,q9,qa] at hT)
    ·have hy1 := hT
     have hy := hy hy1
     refine Tot.need (zt (by omega) (by omega)) ?_
     exact (ih _ (by omega) y.2.1 _ rfl (by omega) (by omega) (by rw [wh]; omega)).mono fun r hr => by rw [wh] at hr; omega
    ·refine Tot.bind (qfg s hs at_ h0 (by omega) false) fun v hv => ?_
     exact two v hv
   ·refine Tot.bind (qfg s hs at_ h0 (by omega) false) fun v hv => ?_
    exact two v hv
  ·exact .ret ⟨by simp only; omega,by simp only; omega,by simp only; omega⟩
 ·exact .ret ⟨by simp only; omega,by simp only; omega,by simp only; omega⟩
theorem znb (s : Bytes) (hs : s.length ≤ BN) (at_ : Int) :
  Tot (qbd s at_) (fun r => r.2.2 = true → 0 ≤ at_ ∧ at_ ≤ r.2.1 ∧ r.2.1 < s.length ∧ (qf (r.1.l.map fmW) : Int) ≤ 2 * (r.2.1 - at_)) := by
 unfold qbd
 (apply Tot.ite <;> intro hT <;> try simp (disch := omega) only [tfx.down,q9,qa] at hT)
 ·exact .ret (by simp)
 ·refine Tot.bind (zly s hs _ at_ [] rfl (by omega) (by omega) (by simp [qf]; omega)) fun v hv => ?_
  (apply Tot.ite <;> intro hT <;> try simp (disch := omega) only [tfx.down,q9,qa] at hT)
  ·exact .ret (by simp)
  ·refine .ret fun _ => ?_
   simp only [List.map_nil,qf] at hv ⊢
   omega
end Go.Proofs.YtdhgdeelagmbpaaGreat
set_option linter.unusedSimpArgs false
set_option linter.unusedVariables false
namespace Go.Proofs.YtdhgdeelagmbpaaGreat
open Go Go.Gm
def zk (r : T.Row) : Nat := 1 + r.frm.length + r.to.length
theorem q4c (r : T.Row) : 1 ≤ zk r := by unfold zk; omega
mutual
def rxW : T.Rx → Nat
 | ⟨_,c,_,rows,_,_,_,kids⟩ => 1 + c.length + qf (rows.l.map zk) + qp0 kids
def qp0 : Sl T.Rx → Nat
 | ⟨_,l⟩ => q9u l
def q9u : List T.Rx → Nat
 | [] => 0
 | x :: r => rxW x + q9u r
end
theorem qk5 : ∀ l : List T.Rx,q9u l = qf (l.map rxW)
 | [] => by simp [q9u,qf]
 | x :: r => by simp [q9u,qf,qk5 r]
theorem jk (x : T.Rx) : rxW x = 1 + x.char.length + qf (x.rows.l.map zk) + qf (x.kids.l.map rxW) := by
 cases x with | mk a b c d e f g h => cases h; simp [rxW,qp0,qk5]
theorem q78 (x : T.Rx) : 1 ≤ rxW x := by rw [jk]; omega
theorem qi8 (b : UInt8) : Tot (q2x b) (fun _ => True) := by
 unfold q2x
 repeat' (first | (apply Tot.ite <;> intro hT <;> try simp (disch := omega) only [tfx.down,q9,qa] at hT) | exact .ret trivial)
theorem z3r (s : Bytes) (hs : s.length ≤ BN) : ∀ (m : Nat) (f i : Int) (l : List Bytes),m = (s.length + 1 - i).toNat → 0 ≤ f → f < i → i ≤ s.length + 1 → (l.length : Int) ≤ f → (∀ c ∈ l,c.length ≤ s.length) →
  Tot (yc (s,f,i,l)) (fun r => r.length ≤ s.length + 1 ∧ ∀ c ∈ r,c.length ≤ s.length) := by
 have hB : s.length ≤ 8192 := hs
 intro m
 induction m using Nat.strongRecOn with
 | _ m ih =>
 intro f i l hm h0 h1 h2 h3 h4
 rw [yc.eq_1]
 have more : i ≤ s.length → ∀ r : Bytes,(r.length : Int) = i - f → ∀ c ∈ l ++ [r],c.length ≤ s.length := by
  intro hi r hr c hc
  rcases List.mem_append.1 hc with hc | hc
  ·exact h4 c hc
  ·have : c = r := by simpa using hc
   subst this; omega
 (apply Tot.ite <;> intro hT <;> try simp (disch := omega) only [tfx.down,q9,qa] at hT)
 ·(apply Tot.ite <;> intro hT <;> try simp (disch := omega) only [tfx.down,q9,qa] at hT)
  ·refine Tot.bind (Tot.sub2 h0 (by omega) (by omega)) fun r hr => ?_
   refine Tot.need (zt (by omega) (by omega)) ?_
   (repeat (first | (rw [q9]; rotate_left; omega; omega) | (rw [qa]; rotate_left; omega; omega)))
   exact ih _ (by omega) i (i + 1) _ rfl (by omega) (by omega) (by omega) (by simp; omega) (more (by omega) r hr.2)
  ·refine Tot.bind (Tot.get (by omega) (by omega)) fun b hb => ?_
   refine Tot.bind (qi8 b) fun v hv => ?_
   (apply Tot.ite <;> intro hT <;> try simp (disch := omega) only [tfx.down,q9,qa] at hT)
   ·refine Tot.bind (Tot.sub2 h0 (by omega) (by omega)) fun r hr => ?_
    refine Tot.need (zt (by omega) (by omega)) ?_
    (repeat (first | (rw [q9]; rotate_left; omega; omega) | (rw [qa]; rotate_left; omega; omega)))
    exact ih _ (by omega) i (i + 1) _ rfl (by omega) (by omega) (by omega) (by simp; omega) (more (by omega) r hr.2)
   ·(repeat (first | (rw [q9]; rotate_left; omega; omega) | (rw [qa]; rotate_left; omega; omega)))
    exact ih _ (by omega) f (i + 1) _ rfl (by omega) (by omega) (by omega) (by omega) h4
 ·exact .ret ⟨by show l.length ≤ _; omega,h4⟩
theorem qib (s : Bytes) (hs : s.length ≤ BN) : Tot (q2w s) (fun r => r.l.length ≤ s.length + 1 ∧ ∀ c ∈ r.l,c.length ≤ s.length) := by
 unfold q2w
 by_cases h : s.length = 0
 ·have : s = [] := by simpa using h
  subst this
  refine Tot.bind (P := fun r => r = []) ⟨[],by rw [yc.eq_1]; simp,rfl⟩ fun v hv => ?_
  subst hv
  exact .ret ⟨by simp,by simp⟩
 ·refine Tot.bind (z3r s hs _ 0 1 [] rfl (by omega) (by omega) (by omega) (by simp) (by simp)) fun v hv => ?_
  exact .ret hv
theorem qg0 (c : Bytes) (hc : c.length ≤ BN) : Tot (nz c) (fun _ => True) := by
 unfold nz
 (apply Tot.ite <;> intro hT <;> try simp (disch := omega) only [tfx.down,q9,qa] at hT)
 ·refine Tot.bind (Tot.get (by omega) (by omega)) fun b hb => ?_
  refine Tot.bind (qi8 b) fun v hv => ?_
  (apply Tot.ite <;> intro hT <;> try simp (disch := omega) only [tfx.down,q9,qa] at hT)
  ·refine Tot.bind (qib c hc) fun r hr => ?_
   exact .ret trivial
  ·exact .ret trivial
 ·exact .ret trivial
theorem qw6 : ∀ (m : Nat) (i : Int) (b : List UInt8),m = (b.length - i).toNat → 0 ≤ i → b.length ≤ BN → Tot (q1a (i,b)) (fun r => r.length = b.length) := by
 intro m
 induction m using Nat.strongRecOn with
 | _ m ih =>
 intro i b hm h0 hb
 have hB : b.length ≤ 8192 := hb
 rw [q1a.eq_1]
 (apply Tot.ite <;> intro hT <;> try simp (disch := omega) only [tfx.down,q9,qa] at hT)
 ·refine Tot.bind (Tot.get (by omega) (by omega)) fun c hc => ?_
  (repeat (first | (rw [q9]; rotate_left; omega; omega) | (rw [qa]; rotate_left; omega; omega)))
  have h := ih _ (by omega) (i + 1) b rfl (by omega) hb
  (apply Tot.ite <;> intro hT <;> try simp (disch := omega) only [tfx.down,q9,qa] at hT)
  ·(apply Tot.ite <;> intro hT <;> try simp (disch := omega) only [tfx.down,q9,qa] at hT)
   ·(repeat (first | (rw [q9]; rotate_left; omega; omega) | (rw [qa]; rotate_left; omega; omega)))
    exact (ih _ (by simp; omega) (i + 1) _ rfl (by omega) (by simpa using hb)).mono fun r hr => by simpa using hr
   ·(repeat (first | (rw [q9]; rotate_left; omega; omega) | (rw [qa]; rotate_left; omega; omega))); exact h
  ·(repeat (first | (rw [q9]; rotate_left; omega; omega) | (rw [qa]; rotate_left; omega; omega))); exact h
 ·exact .ret rfl
theorem zrg (s : Bytes) (hs : s.length ≤ BN) : Tot (q20 s) (fun r => r.length = s.length) := by
 unfold q20
 refine Tot.bind (qw6 _ 0 s rfl (by omega) hs) fun v hv => ?_
 exact .ret hv
theorem qn0 (c : UInt8) : Tot (q7t c) (fun r => qf (r.1.l.map zk) ≤ 12) := by
 unfold q7t
 repeat' (first | (apply Tot.ite <;> intro hT <;> try simp (disch := omega) only [tfx.down,q9,qa] at hT) | exact .ret (by decide))
theorem qo8 (c : Bytes) : Tot (q28 c) (fun r => r.1.length ≤ c.length + 1 ∧ (r.2 = true → 0 < c.length)) := by
 unfold q28
 (apply Tot.ite <;> intro hT <;> try simp (disch := omega) only [tfx.down,q9,qa] at hT)
 ·exact .ret (by simp)
 have h0 := hT
 have h1 : 0 < c.length := List.length_pos_iff.2 h0
 repeat' (first | (apply Tot.ite <;> intro hT <;> try simp (disch := omega) only [tfx.down,q9,qa] at hT) | exact .ret ⟨by simp,fun _ => h1⟩)
 ·refine Tot.bind (Tot.get (by omega) (by omega)) fun b hb => ?_
  refine Tot.bind (q9t b) fun v hv => ?_
  (apply Tot.ite <;> intro hT <;> try simp (disch := omega) only [tfx.down,q9,qa] at hT)
  ·exact .ret (by simp)
  ·refine Tot.bind (q51 b) fun w hw => ?_
   (apply Tot.ite <;> intro hT <;> try simp (disch := omega) only [tfx.down,q9,qa] at hT)
   ·exact .ret (by simp)
   ·exact .ret ⟨by simp,fun _ => h1⟩
structure q3w (cs : Sl Bytes) : Prop where
 many : cs.l.length ≤ 257
 each : ∀ c ∈ cs.l,c.length ≤ 256
theorem q3c {cs : Sl Bytes} (hc : q3w cs) (b : T.qm) (h : b.cs = cs) (h0 : 0 ≤ b.at_) :
  Tot (q0e b) (fun r => r.length ≤ 256 ∧ (r ≠ [] → b.at_ < cs.l.length)) := by
 unfold q0e
 rw [h]
 (apply Tot.ite <;> intro hT <;> try simp (disch := omega) only [tfx.down,q9,qa] at hT)
 ·exact .ret (by simp)
 ·refine Tot.bind (Tot.get h0 (by omega)) fun x hx => ?_
  exact .ret ⟨hc.each x hx.2,fun _ => by omega⟩
theorem qh5 {cs : Sl Bytes} (hc : q3w cs) (c : Bytes) (b : T.qm) (h : b.cs = cs) (h0 : 0 ≤ b.at_) :
  Tot (zu c b) (fun r => r.2.cs = cs ∧ (r.1 = true → r.2.at_ = b.at_ + 1 ∧ b.at_ < cs.l.length) ∧ (r.1 = false → r.2 = b)) := by
 have hm := hc.many
 unfold zu
 rw [h]
 (apply Tot.ite <;> intro hT <;> try simp (disch := omega) only [tfx.down,q9,qa] at hT)
 ·exact .ret ⟨h,by simp,by simp⟩
 ·refine Tot.bind (Tot.get h0 (by omega)) fun x hx => ?_
  (apply Tot.ite <;> intro hT <;> try simp (disch := omega) only [tfx.down,q9,qa] at hT)
  ·exact .ret ⟨h,by simp,by simp⟩
  ·refine .ret ⟨rfl,fun _ => ⟨?_,by omega⟩,by simp⟩
   simp only
   (repeat (first | (rw [q9]; rotate_left; omega; omega) | (rw [qa]; rotate_left; omega; omega)))
end Go.Proofs.YtdhgdeelagmbpaaGreat
set_option linter.unusedSimpArgs false
set_option linter.unusedVariables false
namespace Go.Proofs.YtdhgdeelagmbpaaGreat
open Go Go.Gm
def uu (rows : List T.Row) : Prop := ∀ r ∈ rows,r.frm.length ≤ 300 ∧ r.to.length ≤ 300
theorem uu.app {a b : List T.Row} (h1 : uu a) (h2 : uu b) : uu (a ++ b) := by
 intro r hr
 rcases List.mem_append.1 hr with hr | hr
 ·exact h1 r hr
 ·exact h2 r hr
theorem uu.one {f t : Bytes} (h1 : f.length ≤ 300) (h2 : t.length ≤ 300) : uu [T.Row.mk f t] := by
 intro r hr
 have : r = T.Row.mk f t := by simpa using hr
 subst this
 exact ⟨h1,h2⟩
theorem uu.qt5 {rows : List T.Row} (h : qf (rows.map zk) ≤ 300) : uu rows := by
 intro r hr
 have := uy (f := zk) hr
 simp only [zk] at this
 have e : qf (List.map zk rows) = qf (rows.map fun r => 1 + r.frm.length + r.to.length) := rfl
 omega
section
variable {cs : Sl Bytes} (hc : q3w cs)
include hc
theorem qi2 (b : T.qm) (h : b.cs = cs) (h0 : 0 ≤ b.at_) (h1 : b.at_ ≤ cs.l.length) :
  Tot (q80 b) (fun r => r.2.2.2.cs = cs ∧ 0 ≤ r.2.2.2.at_ ∧ (r.2.2.1 = true → b.at_ < r.2.2.2.at_ ∧ r.2.2.2.at_ ≤ cs.l.length ∧ qf (r.1.l.map zk) ≤ 12 ∧ r.2.1.length ≤ 257)) := by
 have hm := hc.many
 unfold q80
 refine Tot.bind (q3c hc b h h0) fun v hv => ?_
 (apply Tot.ite <;> intro hT <;> try simp (disch := omega) only [tfx.down,q9,qa] at hT)
 ·exact .ret ⟨h,h0,by simp⟩
 ·have h2 := hT
  have h3 := hv.2 h2.1
  (repeat (first | (rw [q9]; rotate_left; omega; omega) | (rw [qa]; rotate_left; omega; omega)))
  (apply Tot.ite <;> intro hT <;> try simp (disch := omega) only [tfx.down,q9,qa] at hT)
  ·exact .ret ⟨h,by simp only; omega,fun _ => ⟨by simp only; omega,by simp only; omega,by simp [qf],by simp only; omega⟩⟩
  ·refine Tot.bind (q3c hc (T.qm.mk b.cs (b.at_ + 1)) h (by simp only; omega)) fun w hw => ?_
   simp only at hw
   (repeat (first | (rw [q9]; rotate_left; omega; omega) | (rw [qa]; rotate_left; omega; omega)))
   have esc : Tot (q28 w >>= fun v15 =>
     some ((⟨true,([] : List T.Row)⟩ : Sl T.Row),v15.1,v15.2,(T.qm.mk b.cs (b.at_ + 1 + 1))))
     (fun r => r.2.2.2.cs = cs ∧ 0 ≤ r.2.2.2.at_ ∧ (r.2.2.1 = true → b.at_ < r.2.2.2.at_ ∧ r.2.2.2.at_ ≤ cs.l.length ∧ qf (r.1.l.map zk) ≤ 12 ∧ r.2.1.length ≤ 257)) := by
    refine Tot.bind (qo8 w) fun y hy => ?_
    refine .ret ⟨h,by simp only; omega,fun hy2 => ?_⟩
    simp only at hy2 ⊢
    have hy3 := hy.2 hy2
    have hw2 := hw.2 (List.ne_nil_of_length_pos hy3)
    exact ⟨by omega,by omega,by simp [qf],by omega⟩
   (apply Tot.ite <;> intro hT <;> try simp (disch := omega) only [tfx.down,q9,qa] at hT)
   ·refine Tot.bind (Tot.get (by omega) (by omega)) fun c hc2 => ?_
    refine Tot.bind (qn0 c) fun y hy => ?_
    (apply Tot.ite <;> intro hT <;> try simp (disch := omega) only [tfx.down,q9,qa] at hT)
    ·have hw2 := hw.2 (List.ne_nil_of_length_pos (by omega))
     exact .ret ⟨h,by simp only; omega,fun _ => ⟨by simp only; omega,by simp only; omega,hy,by simp⟩⟩
    ·exact esc
   ·exact esc
theorem qwi (t : T.Rx) (x : T.Rx) (a0 : Int) : ∀ (m : Nat) (b : T.qm) (rows : List T.Row),m = (cs.l.length - b.at_).toNat → b.cs = cs → 0 ≤ a0 → a0 ≤ b.at_ → b.at_ ≤ cs.l.length → (qf (rows.map zk) : Int) ≤ 600 * (b.at_ - a0) → uu rows →
  Tot (q02 (b,t,x,rows)) (fun r => (∀ y,r = .inl y → y.1 ≠ 0 ∧ y.2.1.cs = cs) ∧
   ∀ y,r = .inr y → y.1.cs = cs ∧ b.at_ < y.1.at_ ∧ y.1.at_ ≤ cs.l.length ∧ (qf (y.2.map zk) : Int) ≤ 600 * (y.1.at_ - a0) ∧ uu y.2) := by
 have hm := hc.many
 intro m
 induction m using Nat.strongRecOn with
 | _ m ih =>
 intro b rows hmm h ha0 h0 h1 hw hro
 have hl := xk q4c rows
 rw [q02.eq_1]
 refine Tot.bind (qh5 hc _ b h (by omega)) fun v hv => ?_
 have next : ∀ (b2 : T.qm) (rows2 : List T.Row),b2.cs = cs → b.at_ < b2.at_ → b2.at_ ≤ cs.l.length → (qf (rows2.map zk) : Int) ≤ 600 * (b2.at_ - a0) → uu rows2 →
   Tot (q02 (b2,t,x,rows2)) (fun r => (∀ y,r = .inl y → y.1 ≠ 0 ∧ y.2.1.cs = cs) ∧
    ∀ y,r = .inr y → y.1.cs = cs ∧ b.at_ < y.1.at_ ∧ y.1.at_ ≤ cs.l.length ∧ (qf (y.2.map zk) : Int) ≤ 600 * (y.1.at_ - a0) ∧ uu y.2) := by
  intro b2 rows2 g1 g2 g3 g4 g5
  refine (ih _ (by omega) b2 rows2 rfl g1 ha0 (by omega) g3 g4 g5).mono fun r hr => ⟨hr.1,fun y hy => ?_⟩
  have := hr.2 y hy
  exact ⟨this.1,by omega,this.2.2.1,this.2.2.2⟩
 (apply Tot.ite <;> intro hT <;> try simp (disch := omega) only [tfx.down,q9,qa] at hT)
 ·have hv1 := hT
  have e := hv.2.2 hv1
  rw [e]
  refine Tot.bind (qi2 hc b h (by omega) h1) fun w hw1 => ?_
  (apply Tot.ite <;> intro hT <;> try simp (disch := omega) only [tfx.down,q9,qa] at hT)
  ·refine .ret ⟨fun y hy => ?_,fun y hy => by cases hy⟩
   cases hy
   exact ⟨by simp,hw1.1⟩
  ·have hok := hT
   obtain ⟨g1,g2,g3⟩ := hw1
   obtain ⟨g3,g4,g5,g6⟩ := g3 hok
   have hl2 := xk q4c w.1.l
   (apply Tot.ite <;> intro hT <;> try simp (disch := omega) only [tfx.down,q9,qa] at hT)
   ·(apply Tot.ite <;> intro hT <;> try simp (disch := omega) only [tfx.down,q9,qa] at hT)
    ·exact next _ _ g1 g3 g4 (by omega) hro
    ·refine Tot.need (zt (by omega) (by omega)) ?_
     exact next _ _ g1 g3 g4 (by rw [List.map_append,q5n]; omega) (hro.app (uu.qt5 (by omega)))
   ·refine Tot.bind (q3c hc w.2.2.2 g1 g2) fun y hy => ?_
    have one : Tot (if ql (rows.length + 1) 32 = true then q02 (w.2.2.2,t,x,(rows ++ [(T.Row.mk w.2.1 w.2.1)])) else none)
      (fun r => (∀ y,r = .inl y → y.1 ≠ 0 ∧ y.2.1.cs = cs) ∧
       ∀ y,r = .inr y → y.1.cs = cs ∧ b.at_ < y.1.at_ ∧ y.1.at_ ≤ cs.l.length ∧ (qf (y.2.map zk) : Int) ≤ 600 * (y.1.at_ - a0) ∧ uu y.2) := by
     refine Tot.need (zt (by omega) (by omega)) ?_
     exact next _ _ g1 g3 g4 (by rw [wh]; simp only [zk]; omega) (hro.app (uu.one (by omega) (by omega)))
    rw [g1]
    (apply Tot.ite <;> intro hT <;> try simp (disch := omega) only [tfx.down,q9,qa] at hT)
    ·(repeat (first | (rw [q9]; rotate_left; omega; omega) | (rw [qa]; rotate_left; omega; omega)))
     refine Tot.bind (Tot.get (by omega) (by omega)) fun c hc2 => ?_
     (apply Tot.ite <;> intro hT <;> try simp (disch := omega) only [tfx.down,q9,qa] at hT)
     ·refine Tot.bind (qi2 hc (T.qm.mk cs (w.2.2.2.at_ + 1)) rfl (by simp only; omega) (by simp only; omega)) fun z hz => ?_
      simp only at hz
      (apply Tot.ite <;> intro hT <;> try simp (disch := omega) only [tfx.down,q9,qa] at hT)
      ·refine .ret ⟨fun y hy => ?_,fun y hy => by cases hy⟩
       cases hy
       exact ⟨by simp,hz.1⟩
      ·have hok2 := hT
       obtain ⟨k1,k2,k3⟩ := hz
       obtain ⟨k3,k4,k5,k6⟩ := k3 hok2.1
       refine Tot.need (zt (by omega) (by omega)) ?_
       exact next _ _ k1 (by omega) k4 (by rw [wh]; simp only [zk]; omega) (hro.app (uu.one (by omega) (by omega)))
     ·exact one
    ·exact one
 ·have hv1 := hT
  obtain ⟨g1,g2⟩ := hv.2.1 hv1
  refine .ret ⟨fun y hy => (by cases hy),fun y hy => ?_⟩
  cases hy
  exact ⟨hv.1,by simp only; omega,by simp only; omega,by simp only; omega,hro⟩
end
theorem z4k (rows s : Sl T.Row) (i : Int) (x : T.Row) (hs : s.l.length ≤ 1000000) : ∀ (m : Nat) (k : Int),m = k.toNat → 0 ≤ k → k ≤ s.l.length → Tot (q4x (rows,s,i,k,x)) (fun r => 0 ≤ r ∧ r ≤ s.l.length) := by
 intro m
 induction m using Nat.strongRecOn with
 | _ m ih =>
 intro k hm h0 h1
 rw [q4x.eq_1]
 (apply Tot.ite <;> intro hT <;> try simp (disch := omega) only [tfx.down,q9,qa] at hT)
 ·(repeat (first | (rw [q9]; rotate_left; omega; omega) | (rw [qa]; rotate_left; omega; omega)))
  refine Tot.bind (Tot.get (by omega) (by omega)) fun y hy => ?_
  have h := ih _ (by omega) (k - 1) rfl (by omega) (by omega)
  (repeat (first | (rw [q9]; rotate_left; omega; omega) | (rw [qa]; rotate_left; omega; omega)))
  (apply Tot.ite <;> intro hT <;> try simp (disch := omega) only [tfx.down,q9,qa] at hT)
  ·exact h
  ·(apply Tot.ite <;> intro hT <;> try simp (disch := omega) only [tfx.down,q9,qa] at hT)
   ·(apply Tot.ite <;> intro hT <;> try simp (disch := omega) only [tfx.down,q9,qa] at hT)
    ·exact h
    ·exact .ret ⟨h0,h1⟩
   ·exact .ret ⟨h0,h1⟩
 ·exact .ret ⟨h0,h1⟩
theorem z6f (rows : Sl T.Row) (hw : qf (rows.l.map zk) ≤ 1000000) (he : ∀ r ∈ rows.l,r.frm.length ≤ BN ∧ r.to.length ≤ BN) : ∀ (r : List T.Row) (k : Nat) (s : Sl T.Row),rows.l.drop k = r → qf (s.l.map zk) + qf (r.map zk) ≤ qf (rows.l.map zk) →
  Tot (q1y (rows,s,(k : Int))) (fun t => qf (t.l.map zk) ≤ qf (rows.l.map zk)) := by
 have hl := xk q4c rows.l
 intro r
 induction r with
 | nil =>
  intro k s hk hs
  rw [q1y.eq_1]
  have := nk hk
  (apply Tot.ite <;> intro hT <;> try simp (disch := omega) only [tfx.down,q9,qa] at hT)
  ·omega
  ·exact .ret (by simp [qf] at hs; exact hs)
 | cons x r ih =>
  intro k s hk hs
  obtain ⟨h1,h2,h3⟩ := drop_cons hk
  have hx := he x (List.mem_of_getElem? h1)
  have hl2 := xk q4c s.l
  simp only [List.map_cons,qf] at hs
  rw [q1y.eq_1]
  have e1 : IntKind.i64.wrap ((k : Int) + 1) = ((k + 1 : Nat) : Int) := q1o (by omega)
  rw [e1]
  (apply Tot.ite <;> intro hT <;> try simp (disch := omega) only [tfx.down,q9,qa] at hT)
  ·refine Tot.bind (P := fun y => y = x) ⟨x,by rw [zx h3]; simpa [List.getElem?_eq_getElem h3] using h1,rfl⟩ fun y hy => ?_
   subst hy
   refine Tot.bind (qg0 _ hx.1) fun v hv => ?_
   (apply Tot.ite <;> intro hT <;> try simp (disch := omega) only [tfx.down,q9,qa] at hT)
   ·exact ih (k + 1) s h2 (by omega)
   ·refine Tot.bind (qg0 _ hx.2) fun w hw2 => ?_
    (apply Tot.ite <;> intro hT <;> try simp (disch := omega) only [tfx.down,q9,qa] at hT)
    ·exact ih (k + 1) s h2 (by omega)
    ·refine Tot.bind (z4k rows s k y (by omega) _ _ rfl (by omega) (by omega)) fun z hz => ?_
     refine Tot.bind (Tot.gq hz.1 hz.2) fun a ha => ?_
     refine Tot.need (zt (by omega) (by omega)) ?_
     refine Tot.need (zt (by omega) (by omega)) ?_
     refine Tot.bind (Tot.jr hz.1 hz.2) fun b hb => ?_
     refine Tot.need (zt (by simp; omega) (by omega)) ?_
     refine ih (k + 1) _ h2 ?_
     have e2 : qf (s.l.map zk) = qf (a.map zk) + qf (b.map zk) := by
      rw [← q5n,← List.map_append,ha.1,hb.1,List.take_append_drop]
     simp only [List.map_append,q5n,List.map_cons,List.map_nil,qf]
     omega
  ·omega
end Go.Proofs.YtdhgdeelagmbpaaGreat
set_option linter.unusedSimpArgs false
set_option linter.unusedVariables false
namespace Go.Proofs.YtdhgdeelagmbpaaGreat
open Go Go.Gm
theorem zoe (s : Sl T.Row) (hw : qf (s.l.map zk) ≤ 1000000) : ∀ (r : List T.Row) (k : Nat) (out : List T.Row),s.l.drop k = r → qf (out.map zk) + qf (r.map zk) ≤ qf (s.l.map zk) →
  Tot (q2j (s,(k : Int),out)) (fun t => qf (t.map zk) ≤ qf (s.l.map zk)) := by
 have hl := xk q4c s.l
 intro r
 induction r with
 | nil =>
  intro k out hk hs
  rw [q2j.eq_1]
  have := nk hk
  (apply Tot.ite <;> intro hT <;> try simp (disch := omega) only [tfx.down,q9,qa] at hT)
  ·omega
  ·exact .ret (by simp [qf] at hs; exact hs)
 | cons x r ih =>
  intro k out hk hs
  obtain ⟨h1,h2,h3⟩ := drop_cons hk
  have hl2 := xk q4c out
  simp only [List.map_cons,qf] at hs
  rw [q2j.eq_1]
  have e1 : IntKind.i64.wrap ((k : Int) + 1) = ((k + 1 : Nat) : Int) := q1o (by omega)
  rw [e1]
  have hg : Tot (qc s.l (k : Int)) (fun y => y = x) := ⟨x,by rw [zx h3]; simpa [List.getElem?_eq_getElem h3] using h1,rfl⟩
  (apply Tot.ite <;> intro hT <;> try simp (disch := omega) only [tfx.down,q9,qa] at hT)
  ·(apply Tot.ite <;> intro hT <;> try simp (disch := omega) only [tfx.down,q9,qa] at hT)
   ·refine Tot.bind hg fun y hy => ?_
    subst hy
    have e2 : IntKind.i64.wrap ((out.length : Int) - 1) = (out.length : Int) - 1 := q9 (by omega) (by omega)
    rw [e2]
    refine Tot.bind (Tot.get (by omega) (by omega)) fun z hz => ?_
    (apply Tot.ite <;> intro hT <;> try simp (disch := omega) only [tfx.down,q9,qa] at hT)
    ·refine ih (k + 1) _ h2 ?_
     have := qb0 zk out ((out.length : Int) - 1).toNat (T.Row.mk z.frm (if j6 z.to y.to = true then y.to else z.to)) z hz.1
     have e3 : zk (T.Row.mk z.frm (if j6 z.to y.to = true then y.to else z.to)) ≤ zk z + zk y := by
      simp only [zk]
      split <;> omega
     omega
    ·refine Tot.need (zt (by omega) (by omega)) ?_
     exact ih (k + 1) _ h2 (by rw [wh]; omega)
   ·refine Tot.bind hg fun y hy => ?_
    subst hy
    refine Tot.need (zt (by omega) (by omega)) ?_
    exact ih (k + 1) _ h2 (by rw [wh]; omega)
  ·omega
theorem zo4 (rows : Sl T.Row) (hw : qf (rows.l.map zk) ≤ 1000000) (he : ∀ r ∈ rows.l,r.frm.length ≤ BN ∧ r.to.length ≤ BN) : Tot (qbk rows) (fun t => qf (t.l.map zk) ≤ qf (rows.l.map zk)) := by
 unfold qbk
 have h := z6f rows hw he rows.l 0 (⟨true,[]⟩ : Sl T.Row) rfl (by simp [qf])
 rw [show ((0 : Nat) : Int) = 0 from rfl] at h
 refine Tot.bind h fun v hv => ?_
 have h2 := zoe v (by omega) v.l 0 [] rfl (by simp [qf])
 rw [show ((0 : Nat) : Int) = 0 from rfl] at h2
 refine Tot.bind h2 fun w hw2 => ?_
 exact .ret (by simp only; omega)
section
variable {cs : Sl Bytes} (hc : q3w cs)
include hc
theorem qvd (b : T.qm) (h : b.cs = cs) (h0 : 0 ≤ b.at_) (h1 : b.at_ ≤ cs.l.length) :
  Tot (qaz b) (fun r => r.2.2.cs = cs ∧ (r.2.1 = 0 → b.at_ < r.2.2.at_ ∧ r.2.2.at_ ≤ cs.l.length ∧ (rxW r.1 : Int) ≤ 600 * (r.2.2.at_ - b.at_) + 1)) := by
 have hm := hc.many
 unfold qaz
 refine Tot.bind (qh5 hc _ b h h0) fun v hv => ?_
 have hb : b.at_ ≤ v.2.at_ ∧ v.2.at_ ≤ cs.l.length := by
  cases hv1 : v.1
  ·rw [hv.2.2 hv1]; omega
  ·have := hv.2.1 hv1; omega
 refine Tot.bind (qwi hc _ _ b.at_ _ v.2 [] rfl hv.1 h0 hb.1 hb.2 (by simp [qf]; omega) (by intro r hr; cases hr)) fun w hw => ?_
 rcases w with y | y
 ·have := hw.1 y rfl
  exact .ret ⟨this.2,fun h => absurd h this.1⟩
 ·obtain ⟨g1,g2,g3,g4,g5⟩ := hw.2 y rfl
  refine Tot.bind (zo4 (⟨y.2.isEmpty,y.2⟩ : Sl T.Row) (by simp only; omega) (fun r hr => by have := g5 r hr; unfold BN; omega)) fun z hz => ?_
  refine .ret ⟨g1,fun _ => ⟨by simp only; omega,g3, ?_⟩⟩
  simp only [jk,List.length_nil,List.map_nil,qf] at hz ⊢
  omega
theorem z05 (b : T.qm) (h : b.cs = cs) (h0 : 0 ≤ b.at_) (h1 : b.at_ ≤ cs.l.length) :
  Tot (q9k b) (fun r => r.2.2.cs = cs ∧ (r.2.1 = 0 → b.at_ < r.2.2.at_ ∧ r.2.2.at_ ≤ cs.l.length ∧ rxW r.1 ≤ 300)) := by
 have hm := hc.many
 unfold q9k
 refine Tot.bind (q3c hc b h h0) fun v hv => ?_
 refine Tot.bind (zrg v (by unfold BN; omega)) fun w hw => ?_
 (repeat (first | (rw [q9]; rotate_left; omega; omega) | (rw [qa]; rotate_left; omega; omega)))
 have esc : Tot (q28 v >>= fun v12 =>
   if (!v12.2) then
    some ((T.Rx.mk (0 : Int) ([] : Bytes) false (⟨true,([] : List T.Row)⟩ : (Sl T.Row)) (0 : Int) (0 : Int) false (⟨true,([] : List T.Rx)⟩ : (Sl T.Rx))),(10 : Int),b)
   else
    some ((T.Rx.mk (2 : Int) v12.1 false (⟨true,([] : List T.Row)⟩ : (Sl T.Row)) (0 : Int) (0 : Int) false (⟨true,([] : List T.Rx)⟩ : (Sl T.Rx))),(0 : Int),(T.qm.mk b.cs (b.at_ + 1))))
   (fun r => r.2.2.cs = cs ∧ (r.2.1 = 0 → b.at_ < r.2.2.at_ ∧ r.2.2.at_ ≤ cs.l.length ∧ rxW r.1 ≤ 300)) := by
  refine Tot.bind (qo8 v) fun y hy => ?_
  (apply Tot.ite <;> intro hT <;> try simp (disch := omega) only [tfx.down,q9,qa] at hT)
  ·exact .ret ⟨h,by simp⟩
  ·have hy1 := hT
   have hy2 := hy.2 hy1
   have hv2 := hv.2 (List.ne_nil_of_length_pos hy2)
   refine .ret ⟨h,fun _ => ⟨by simp only; omega,by simp only; omega, ?_⟩⟩
   simp only [jk,List.map_nil,qf]
   omega
 (apply Tot.ite <;> intro hT <;> try simp (disch := omega) only [tfx.down,q9,qa] at hT)
 ·refine Tot.bind (Tot.get (by omega) (by omega)) fun c hc2 => ?_
  refine Tot.bind (qn0 c) fun y hy => ?_
  (apply Tot.ite <;> intro hT <;> try simp (disch := omega) only [tfx.down,q9,qa] at hT)
  ·have hv2 := hv.2 (List.ne_nil_of_length_pos (by omega))
   refine .ret ⟨h,fun _ => ⟨by simp only; omega,by simp only; omega, ?_⟩⟩
   simp only [jk,List.length_nil,List.map_nil,qf]
   omega
  ·exact esc
 ·exact esc
theorem zfo : ∀ (m : Nat) (n k : Int) (b : T.qm),m = (3 - k).toNat → 0 ≤ k → b.cs = cs → 0 ≤ b.at_ → b.at_ ≤ cs.l.length → 0 ≤ n → (k = 0 ∧ n < 1 ∨ k = 1 ∧ n < 10 ∨ k = 2 ∧ n < 100 ∨ k = 3 ∧ n < 1000) →
  Tot (q6d (n,k,b)) (fun r => 0 ≤ r.1 ∧ r.1 < 1000 ∧ k ≤ r.2.1 ∧ r.2.2.cs = cs ∧ b.at_ ≤ r.2.2.at_ ∧ r.2.2.at_ ≤ cs.l.length) := by
 have hm := hc.many
 intro m
 induction m using Nat.strongRecOn with
 | _ m ih =>
 intro n k b hmm hk h h0 h1 hn hkn
 rw [q6d.eq_1]
 (apply Tot.ite <;> intro hT <;> try simp (disch := omega) only [tfx.down,q9,qa] at hT)
 ·refine Tot.bind (q3c hc b h h0) fun v hv => ?_
  (apply Tot.ite <;> intro hT <;> try simp (disch := omega) only [tfx.down,q9,qa] at hT)
  ·have hv2 := hv.2 (List.ne_nil_of_length_pos (by omega))
   refine Tot.bind (Tot.get (by omega) (by omega)) fun c hc2 => ?_
   refine Tot.bind (q51 c) fun w hw => ?_
   (apply Tot.ite <;> intro hT <;> try simp (disch := omega) only [tfx.down,q9,qa] at hT)
   ·have hw1 := hT
    have hw2 := hw hw1
    (try simp (disch := omega) only [q9,qa])
    exact (ih _ (by omega) _ (k + 1) (T.qm.mk b.cs (b.at_ + 1)) rfl (by omega) h (by simp only; omega) (by simp only; omega) (by omega) (by omega)).mono fun r hr => by
     simp only at hr
     exact ⟨hr.1,hr.2.1,by omega,hr.2.2.2.1,by omega,hr.2.2.2.2.2⟩
   ·exact .ret ⟨hn,by simp only; omega,by simp,h,by simp,h1⟩
  ·exact .ret ⟨hn,by simp only; omega,by simp,h,by simp,h1⟩
 ·exact .ret ⟨hn,by simp only; omega,by simp,h,by simp,h1⟩
theorem qk0 (b : T.qm) (h : b.cs = cs) (h0 : 0 ≤ b.at_) (h1 : b.at_ ≤ cs.l.length) :
  Tot (q8l b) (fun r => 0 ≤ r.1 ∧ r.1 < 1000 ∧ r.2.2.cs = cs ∧ b.at_ ≤ r.2.2.at_ ∧ r.2.2.at_ ≤ cs.l.length) := by
 unfold q8l
 refine Tot.bind (zfo hc _ 0 0 b rfl (by omega) h h0 h1 (by omega) (by omega)) fun v hv => ?_
 (apply Tot.ite <;> intro hT <;> try simp (disch := omega) only [tfx.down,q9,qa] at hT)
 ·exact .ret ⟨hv.1,hv.2.1,hv.2.2.2⟩
 ·exact .ret ⟨hv.1,hv.2.1,hv.2.2.2⟩
end
end Go.Proofs.YtdhgdeelagmbpaaGreat
set_option linter.unusedSimpArgs false
set_option linter.unusedVariables false
namespace Go.Proofs.YtdhgdeelagmbpaaGreat
open Go Go.Gm
theorem z1l (x : T.Rx) (a b : Int) (l : Bool) : rxW (T.Rx.mk (7 : Int) ([] : Bytes) false (⟨true,[]⟩ : (Sl T.Row)) a b l (⟨false,[x]⟩ : (Sl T.Rx))) = 1 + rxW x := by
 rw [jk]; simp [qf]
theorem zk1 (kind : Int) (xs : Sl T.Rx) (hw : qf (xs.l.map rxW) ≤ 1000000) : ∀ (r : List T.Rx) (k : Nat) (l : List T.Rx),xs.l.drop k = r → qf (l.map rxW) + qf (r.map rxW) ≤ qf (xs.l.map rxW) →
  Tot (q2i (kind,xs,(k : Int),l)) (fun t => qf (t.map rxW) ≤ qf (xs.l.map rxW)) := by
 have hl := xk q78 xs.l
 intro r
 induction r with
 | nil =>
  intro k l hk hs
  rw [q2i.eq_1]
  have := nk hk
  (apply Tot.ite <;> intro hT <;> try simp (disch := omega) only [tfx.down,q9,qa] at hT)
  ·omega
  ·exact .ret (by simp [qf] at hs; exact hs)
 | cons x r ih =>
  intro k l hk hs
  obtain ⟨h1,h2,h3⟩ := drop_cons hk
  have hl2 := xk q78 l
  have hl3 := xk q78 x.kids.l
  have hx := jk x
  simp only [List.map_cons,qf] at hs
  rw [q2i.eq_1]
  have e1 : IntKind.i64.wrap ((k : Int) + 1) = ((k + 1 : Nat) : Int) := q1o (by omega)
  rw [e1]
  have hg : Tot (qc xs.l (k : Int)) (fun y => y = x) := ⟨x,by rw [zx h3]; simpa [List.getElem?_eq_getElem h3] using h1,rfl⟩
  (apply Tot.ite <;> intro hT <;> try simp (disch := omega) only [tfx.down,q9,qa] at hT)
  ·refine Tot.bind hg fun y hy => ?_
   subst hy
   (apply Tot.ite <;> intro hT <;> try simp (disch := omega) only [tfx.down,q9,qa] at hT)
   ·(apply Tot.ite <;> intro hT <;> try simp (disch := omega) only [tfx.down,q9,qa] at hT)
    ·exact ih (k + 1) _ h2 (by omega)
    ·refine Tot.need (zt (by omega) (by omega)) ?_
     exact ih (k + 1) _ h2 (by rw [List.map_append,q5n]; omega)
   ·refine Tot.need (zt (by omega) (by omega)) ?_
    exact ih (k + 1) _ h2 (by rw [wh]; omega)
  ·omega
theorem qjk (kind : Int) (xs : Sl T.Rx) (hw : qf (xs.l.map rxW) ≤ 1000000) : Tot (q7m kind xs) (fun t => qf (t.l.map rxW) ≤ qf (xs.l.map rxW)) := by
 unfold q7m
 have h := zk1 kind xs hw xs.l 0 [] rfl (by simp [qf])
 rw [show ((0 : Nat) : Int) = 0 from rfl] at h
 refine Tot.bind h fun v hv => ?_
 exact .ret hv
theorem qsd (xs : Sl T.Rx) (hw : qf (xs.l.map rxW) ≤ 1000000) : Tot (qb7 xs) (fun t => rxW t ≤ 1 + qf (xs.l.map rxW)) := by
 unfold qb7
 refine Tot.bind (qjk 0 xs hw) fun v hv => ?_
 (apply Tot.ite <;> intro hT <;> try simp (disch := omega) only [tfx.down,q9,qa] at hT)
 ·refine Tot.bind (Tot.get (by omega) (by omega)) fun x hx => ?_
  have := uy (f := rxW) hx.2
  exact .ret (by omega)
 ·refine .ret ?_
  simp only [jk,List.length_nil,List.map_nil,qf]
  omega
theorem z7h (xs : Sl T.Rx) (hw : qf (xs.l.map rxW) ≤ 1000000) : Tot (qc7 xs) (fun t => rxW t ≤ 1 + qf (xs.l.map rxW)) := by
 unfold qc7
 refine Tot.bind (qjk 1 xs hw) fun v hv => ?_
 (apply Tot.ite <;> intro hT <;> try simp (disch := omega) only [tfx.down,q9,qa] at hT)
 ·refine .ret ?_
  simp only [jk,List.length_nil,List.map_nil,qf]
  omega
 ·(apply Tot.ite <;> intro hT <;> try simp (disch := omega) only [tfx.down,q9,qa] at hT)
  ·refine Tot.bind (Tot.get (by omega) (by omega)) fun x hx => ?_
   have := uy (f := rxW) hx.2
   exact .ret (by omega)
  ·refine .ret ?_
   simp only [jk,List.length_nil,List.map_nil,qf]
   omega
section
variable {cs : Sl Bytes} (hc : q3w cs)
include hc
theorem yh (c : Bytes) (b : T.qm) (h : b.cs = cs) (h0 : 0 ≤ b.at_) (h1 : b.at_ ≤ cs.l.length) :
  Tot (zu c b) (fun r => r.2.cs = cs ∧ b.at_ ≤ r.2.at_ ∧ r.2.at_ ≤ cs.l.length ∧ (r.1 = true → r.2.at_ = b.at_ + 1) ∧ (r.1 = false → r.2.at_ = b.at_)) := by
 refine (qh5 hc c b h h0).mono fun r hr => ?_
 cases h2 : r.1
 ·have := hr.2.2 h2
  rw [this]
  exact ⟨h,by omega,h1,by simp,by simp⟩
 ·have := hr.2.1 h2
  exact ⟨hr.1,by omega,by omega,fun _ => this.1,by simp⟩
def ql7 (cs : Sl Bytes) (x : T.Rx) (a : Int) (r : T.Rx × Int × T.qm) : Prop :=
 r.2.2.cs = cs ∧ (r.2.1 = 0 → a ≤ r.2.2.at_ ∧ r.2.2.at_ ≤ cs.l.length ∧ (rxW r.1 : Int) ≤ rxW x + (r.2.2.at_ - a))
theorem qvb (x : T.Rx) (b : T.qm) (h : b.cs = cs) (h0 : 0 ≤ b.at_) (h1 : b.at_ ≤ cs.l.length) :
  Tot (q7c x b) (ql7 cs x b.at_) := by
 have last : ∀ (w : T.qm) (p q : Int),w.cs = cs → b.at_ < w.at_ → w.at_ ≤ cs.l.length → Tot (zu ([63] : Bytes) w >>= fun v5 =>
   some ((T.Rx.mk (7 : Int) ([] : Bytes) false (⟨true,[]⟩ : (Sl T.Row)) p q v5.1 (⟨false,[x]⟩ : (Sl T.Rx))),(0 : Int),v5.2)) (ql7 cs x b.at_) := by
  intro w p q g1 g2 g3
  refine Tot.bind (yh hc _ w g1 (by omega) g3) fun z hz => ?_
  refine .ret ⟨hz.1,fun _ => ⟨by simp only; omega,by simp only; omega, ?_⟩⟩
  simp only [z1l]
  omega
 unfold q7c
 refine Tot.bind (yh hc _ b h h0 h1) fun v hv => ?_
 (apply Tot.ite <;> intro hT <;> try simp (disch := omega) only [tfx.down,q9,qa] at hT)
 ·exact last _ _ _ hv.1 (by have g := hT; have := hv.2.2.2.1 g; omega) (by omega)
 have g1 := hT
 have hv1 := hv.2.2.2.2 g1
 refine Tot.bind (yh hc _ v.2 hv.1 (by omega) (by omega)) fun w hw => ?_
 (apply Tot.ite <;> intro hT <;> try simp (disch := omega) only [tfx.down,q9,qa] at hT)
 ·exact last _ _ _ hw.1 (by have g := hT; have := hw.2.2.2.1 g; omega) (by omega)
 have g2 := hT
 have hw1 := hw.2.2.2.2 g2
 refine Tot.bind (yh hc _ w.2 hw.1 (by omega) (by omega)) fun y hy => ?_
 (apply Tot.ite <;> intro hT <;> try simp (disch := omega) only [tfx.down,q9,qa] at hT)
 ·exact last _ _ _ hy.1 (by have g := hT; have := hy.2.2.2.1 g; omega) (by omega)
 have g3 := hT
 have hy1 := hy.2.2.2.2 g3
 refine Tot.bind (yh hc _ y.2 hy.1 (by omega) (by omega)) fun z hz => ?_
 (apply Tot.ite <;> intro hT <;> try simp (disch := omega) only [tfx.down,q9,qa] at hT)
 ·have g4 := hT
  have hz1 := hz.2.2.2.1 g4
  refine Tot.bind (qk0 hc z.2 hz.1 (by omega) (by omega)) fun n hn => ?_
  (apply Tot.ite <;> intro hT <;> try simp (disch := omega) only [tfx.down,q9,qa] at hT)
  ·exact .ret ⟨hn.2.2.1,by simp⟩
  ·refine Tot.bind (yh hc _ n.2.2 hn.2.2.1 (by omega) (by omega)) fun k hk => ?_
   (apply Tot.ite <;> intro hT <;> try simp (disch := omega) only [tfx.down,q9,qa] at hT)
   ·refine Tot.bind (q3c hc k.2 hk.1 (by omega)) fun s hs => ?_
    (apply Tot.ite <;> intro hT <;> try simp (disch := omega) only [tfx.down,q9,qa] at hT)
    ·refine Tot.bind (qk0 hc k.2 hk.1 (by omega) (by omega)) fun q hq => ?_
     (apply Tot.ite <;> intro hT <;> try simp (disch := omega) only [tfx.down,q9,qa] at hT)
     ·exact .ret ⟨hq.2.2.1,by simp⟩
     ·refine Tot.bind (yh hc _ q.2.2 hq.2.2.1 (by omega) (by omega)) fun p hp => ?_
      (apply Tot.ite <;> intro hT <;> try simp (disch := omega) only [tfx.down,q9,qa] at hT)
      ·exact .ret ⟨hp.1,by simp⟩
      ·exact last _ _ _ hp.1 (by omega) (by omega)
    ·refine Tot.bind (yh hc _ k.2 hk.1 (by omega) (by omega)) fun p hp => ?_
     (apply Tot.ite <;> intro hT <;> try simp (disch := omega) only [tfx.down,q9,qa] at hT)
     ·exact .ret ⟨hp.1,by simp⟩
     ·exact last _ _ _ hp.1 (by omega) (by omega)
   ·refine Tot.bind (yh hc _ k.2 hk.1 (by omega) (by omega)) fun p hp => ?_
    (apply Tot.ite <;> intro hT <;> try simp (disch := omega) only [tfx.down,q9,qa] at hT)
    ·exact .ret ⟨hp.1,by simp⟩
    ·exact last _ _ _ hp.1 (by omega) (by omega)
 ·have g4 := hT
  have hz1 := hz.2.2.2.2 g4
  exact .ret ⟨hz.1,fun _ => ⟨by simp only; omega,by simp only; omega,by simp only; omega⟩⟩
end
end Go.Proofs.YtdhgdeelagmbpaaGreat
set_option linter.unusedSimpArgs false
set_option linter.unusedVariables false
namespace Go.Proofs.YtdhgdeelagmbpaaGreat
open Go Go.Gm
def qeu (cs : Sl Bytes) (a : Int) (r : T.Rx × Int × T.qm) : Prop :=
 r.2.2.cs = cs ∧ (r.2.1 = 0 → a ≤ r.2.2.at_ ∧ r.2.2.at_ ≤ cs.l.length ∧ (rxW r.1 : Int) ≤ 1000 * (r.2.2.at_ - a) + 2)
def qef (cs : Sl Bytes) (a : Int) (r : T.Rx × Int × T.qm) : Prop :=
 r.2.2.cs = cs ∧ (r.2.1 = 0 → a < r.2.2.at_ ∧ r.2.2.at_ ≤ cs.l.length ∧ (rxW r.1 : Int) ≤ 1000 * (r.2.2.at_ - a))
theorem qa2 (k : Int) : rxW (T.Rx.mk k ([] : Bytes) false (⟨true,([] : List T.Row)⟩ : (Sl T.Row)) (0 : Int) (0 : Int) false (⟨true,([] : List T.Rx)⟩ : (Sl T.Rx))) = 1 := by
 rw [jk]; simp [qf]
theorem qps (k : Int) (x : T.Rx) : rxW (T.Rx.mk k ([] : Bytes) false (⟨true,[]⟩ : (Sl T.Row)) (0 : Int) (0 : Int) false (⟨false,[x]⟩ : (Sl T.Rx))) = 1 + rxW x := by
 rw [jk]; simp [qf]
section
variable {cs : Sl Bytes} (hc : q3w cs) (a0 : Int) (ha0 : 0 ≤ a0)
 (H : ∀ (deep : Int) (b : T.qm),0 ≤ deep → deep ≤ 16 → b.cs = cs → a0 < b.at_ → b.at_ ≤ cs.l.length → Tot (q1f (deep,b)) (qeu cs b.at_))
include hc ha0 H
theorem zh8 (deep : Int) (d0 : 0 ≤ deep) (d1 : deep ≤ 16) (b : T.qm) (h : b.cs = cs) (h0 : a0 ≤ b.at_) (h1 : b.at_ ≤ cs.l.length) : Tot (q5v (deep,b)) (qef cs b.at_) := by
 have hm := hc.many
 rw [q5v.eq_1]
 refine Tot.bind (yh hc _ b h (by omega) h1) fun v hv => ?_
 (apply Tot.ite <;> intro hT <;> try simp (disch := omega) only [tfx.down,q9,qa] at hT)
 ·have g := hT
  have := hv.2.2.2.1 g
  exact .ret ⟨hv.1,fun _ => ⟨by simp only; omega,by simp only; omega,by simp only [qa2]; omega⟩⟩
 have g := hT
 have hv1 := hv.2.2.2.2 g
 refine Tot.bind (yh hc _ v.2 hv.1 (by omega) (by omega)) fun w hw => ?_
 have grp : ∀ (k : Int) (u : T.qm),u.cs = cs → b.at_ < u.at_ → u.at_ ≤ cs.l.length → deep < 16 → Tot (q1f ((IntKind.i64.wrap (deep + (1 : Int))),u) >>= fun v15 =>
       if (v15.2.1 != (0 : Int)) then
        some ((T.Rx.mk (0 : Int) ([] : Bytes) false (⟨true,([] : List T.Row)⟩ : (Sl T.Row)) (0 : Int) (0 : Int) false (⟨true,([] : List T.Rx)⟩ : (Sl T.Rx))),v15.2.1,v15.2.2)
       else
        zu ([41] : Bytes) v15.2.2 >>= fun v18 =>
        if (!v18.1) then
         some ((T.Rx.mk (0 : Int) ([] : Bytes) false (⟨true,([] : List T.Row)⟩ : (Sl T.Row)) (0 : Int) (0 : Int) false (⟨true,([] : List T.Rx)⟩ : (Sl T.Rx))),(10 : Int),v18.2)
        else
         some ((T.Rx.mk k ([] : Bytes) false (⟨true,[]⟩ : (Sl T.Row)) (0 : Int) (0 : Int) false (⟨false,[v15.1]⟩ : (Sl T.Rx))),(0 : Int),v18.2)) (qef cs b.at_) := by
  intro k u g1 g2 g3 g4
  (repeat (first | (rw [q9]; rotate_left; omega; omega) | (rw [qa]; rotate_left; omega; omega)))
  refine Tot.bind (H (deep + 1) u (by omega) (by omega) g1 (by omega) g3) fun y hy => ?_
  (apply Tot.ite <;> intro hT <;> try simp (disch := omega) only [tfx.down,q9,qa] at hT)
  ·have hc1 := hT
   exact .ret ⟨hy.1,fun h => absurd h hc1⟩
  ·have hc1 := hT
   have hy2 := hy.2 hc1
   refine Tot.bind (yh hc _ y.2.2 hy.1 (by omega) (by omega)) fun z hz => ?_
   (apply Tot.ite <;> intro hT <;> try simp (disch := omega) only [tfx.down,q9,qa] at hT)
   ·exact .ret ⟨hz.1,by simp⟩
   ·have hc2 := hT
    have := hz.2.2.2.1 hc2
    exact .ret ⟨hz.1,fun _ => ⟨by simp only; omega,by simp only; omega,by simp only [qps]; omega⟩⟩
 (apply Tot.ite <;> intro hT <;> try simp (disch := omega) only [tfx.down,q9,qa] at hT)
 ·have g := hT
  have hw1 := hw.2.2.2.1 g
  (apply Tot.ite <;> intro hT <;> try simp (disch := omega) only [tfx.down,q9,qa] at hT)
  ·exact .ret ⟨hw.1,by simp⟩
  ·refine Tot.bind (yh hc _ w.2 hw.1 (by omega) (by omega)) fun y hy => ?_
   (apply Tot.ite <;> intro hT <;> try simp (disch := omega) only [tfx.down,q9,qa] at hT)
   ·refine Tot.bind (yh hc _ y.2 hy.1 (by omega) (by omega)) fun z hz => ?_
    (apply Tot.ite <;> intro hT <;> try simp (disch := omega) only [tfx.down,q9,qa] at hT)
    ·exact .ret ⟨hz.1,by simp⟩
    ·exact grp 6 z.2 hz.1 (by omega) (by omega) (by omega)
   ·exact grp 5 y.2 hy.1 (by omega) (by omega) (by omega)
 have g := hT
 have hw1 := hw.2.2.2.2 g
 refine Tot.bind (yh hc _ w.2 hw.1 (by omega) (by omega)) fun y hy => ?_
 (apply Tot.ite <;> intro hT <;> try simp (disch := omega) only [tfx.down,q9,qa] at hT)
 ·have g := hT
  have hy1 := hy.2.2.2.1 g
  refine Tot.bind (qvd hc y.2 hy.1 (by omega) (by omega)) fun z hz => ?_
  refine .ret ⟨hz.1,fun h => ?_⟩
  have := hz.2 h
  simp only
  omega
 have g := hT
 have hy1 := hy.2.2.2.2 g
 refine Tot.bind (yh hc _ y.2 hy.1 (by omega) (by omega)) fun z hz => ?_
 (apply Tot.ite <;> intro hT <;> try simp (disch := omega) only [tfx.down,q9,qa] at hT)
 ·have g := hT
  have hz1 := hz.2.2.2.1 g
  refine Tot.bind (z05 hc z.2 hz.1 (by omega) (by omega)) fun u hu => ?_
  refine .ret ⟨hu.1,fun h => ?_⟩
  have := hu.2 h
  simp only
  omega
 have g := hT
 have hz1 := hz.2.2.2.2 g
 refine Tot.bind (q3c hc z.2 hz.1 (by omega)) fun s hs => ?_
 (apply Tot.ite <;> intro hT <;> try simp (disch := omega) only [tfx.down,q9,qa] at hT)
 ·exact .ret ⟨hz.1,by simp⟩
 ·by_cases hn : s = []
  ·refine Tot.bind (o := nz s) (P := fun r => r = false) ⟨false,by rw [hn]; unfold nz; simp,rfl⟩ fun p hp => ?_
   subst hp
   exact .ret ⟨hz.1,by simp⟩
  ·refine Tot.bind (qg0 s (by unfold BN; omega)) fun p hp => ?_
   (apply Tot.ite <;> intro hT <;> try simp (disch := omega) only [tfx.down,q9,qa] at hT)
   ·exact .ret ⟨hz.1,by simp⟩
   ·have := hs.2 hn
    (repeat (first | (rw [q9]; rotate_left; omega; omega) | (rw [qa]; rotate_left; omega; omega)))
    refine .ret ⟨hz.1,fun _ => ⟨by simp only; omega,by simp only; omega, ?_⟩⟩
    simp only [jk,List.map_nil,qf]
    omega
theorem qwb (deep : Int) (d0 : 0 ≤ deep) (d1 : deep ≤ 16) (b : T.qm) (h : b.cs = cs) (h0 : a0 ≤ b.at_) (h1 : b.at_ ≤ cs.l.length) : Tot (qcc (deep,b)) (qef cs b.at_) := by
 have hm := hc.many
 rw [qcc.eq_1]
 refine Tot.bind (yh hc _ b h (by omega) h1) fun v hv => ?_
 (apply Tot.ite <;> intro hT <;> try simp (disch := omega) only [tfx.down,q9,qa] at hT)
 ·have g := hT
  have := hv.2.2.2.1 g
  exact .ret ⟨hv.1,fun _ => ⟨by simp only; omega,by simp only; omega,by simp only [qa2]; omega⟩⟩
 have g := hT
 have hv1 := hv.2.2.2.2 g
 refine Tot.bind (yh hc _ v.2 hv.1 (by omega) (by omega)) fun w hw => ?_
 (apply Tot.ite <;> intro hT <;> try simp (disch := omega) only [tfx.down,q9,qa] at hT)
 ·have g := hT
  have := hw.2.2.2.1 g
  exact .ret ⟨hw.1,fun _ => ⟨by simp only; omega,by simp only; omega,by simp only [qa2]; omega⟩⟩
 have g := hT
 have hw1 := hw.2.2.2.2 g
 have at1 : Tot (q5v (deep,w.2) >>= fun v26 =>
     if (v26.2.1 != (0 : Int)) then
      some ((T.Rx.mk (0 : Int) ([] : Bytes) false (⟨true,([] : List T.Row)⟩ : (Sl T.Row)) (0 : Int) (0 : Int) false (⟨true,([] : List T.Rx)⟩ : (Sl T.Rx))),v26.2.1,v26.2.2)
     else
      q7c v26.1 v26.2.2 >>= fun v29 =>
      some (v29.1,v29.2.1,v29.2.2)) (qef cs b.at_) := by
  refine Tot.bind (zh8 hc a0 ha0 H deep d0 d1 w.2 hw.1 (by omega) (by omega)) fun y hy => ?_
  (apply Tot.ite <;> intro hT <;> try simp (disch := omega) only [tfx.down,q9,qa] at hT)
  ·have hc1 := hT
   exact .ret ⟨hy.1,fun h => absurd h hc1⟩
  ·have hc1 := hT
   have hy2 := hy.2 hc1
   refine Tot.bind (qvb hc y.1 y.2.2 hy.1 (by omega) (by omega)) fun z hz => ?_
   refine .ret ⟨hz.1,fun h => ?_⟩
   have := hz.2 h
   simp only
   omega
 refine Tot.bind (q3c hc w.2 hw.1 (by omega)) fun s hs => ?_
 rw [hw.1]
 (apply Tot.ite <;> intro hT <;> try simp (disch := omega) only [tfx.down,q9,qa] at hT)
 ·(repeat (first | (rw [q9]; rotate_left; omega; omega) | (rw [qa]; rotate_left; omega; omega)))
  refine Tot.bind (Tot.get (by omega) (by omega)) fun c hc2 => ?_
  (apply Tot.ite <;> intro hT <;> try simp (disch := omega) only [tfx.down,q9,qa] at hT)
  ·exact .ret ⟨rfl,fun _ => ⟨by simp only; omega,by simp only; omega,by simp only [qa2]; omega⟩⟩
  ·(apply Tot.ite <;> intro hT <;> try simp (disch := omega) only [tfx.down,q9,qa] at hT)
   ·exact .ret ⟨rfl,fun _ => ⟨by simp only; omega,by simp only; omega,by simp only [qa2]; omega⟩⟩
   ·exact at1
 ·exact at1
end
end Go.Proofs.YtdhgdeelagmbpaaGreat
set_option linter.unusedSimpArgs false
set_option linter.unusedVariables false
namespace Go.Proofs.YtdhgdeelagmbpaaGreat
open Go Go.Gm
section
variable {cs : Sl Bytes} (hc : q3w cs) (a0 : Int) (ha0 : 0 ≤ a0)
 (H : ∀ (deep : Int) (b : T.qm),0 ≤ deep → deep ≤ 16 → b.cs = cs → a0 < b.at_ → b.at_ ≤ cs.l.length → Tot (q1f (deep,b)) (qeu cs b.at_))
include hc ha0 H
theorem zq6 (deep : Int) (d0 : 0 ≤ deep) (d1 : deep ≤ 16) (t : T.Rx) (alts : List T.Rx) (a1 : Int) (ha1 : 0 ≤ a1) : ∀ (m : Nat) (b : T.qm) (terms : List T.Rx),m = (cs.l.length - b.at_).toNat → b.cs = cs → a0 ≤ b.at_ → a1 ≤ b.at_ → b.at_ ≤ cs.l.length →
  (qf (terms.map rxW) : Int) ≤ 1000 * (b.at_ - a1) → Tot (q68 (deep,b,t,alts,terms)) (fun r => (∀ y,r = .inl y → y.1 ≠ 0 ∧ y.2.1.cs = cs) ∧
   ∀ y,r = .inr y → y.1.cs = cs ∧ b.at_ ≤ y.1.at_ ∧ y.1.at_ ≤ cs.l.length ∧ (qf (y.2.map rxW) : Int) ≤ 1000 * (y.1.at_ - a1)) := by
 have hm := hc.many
 intro m
 induction m using Nat.strongRecOn with
 | _ m ih =>
 intro b terms hmm h h0 h1 h2 hw
 have hl := xk q78 terms
 rw [q68.eq_1]
 have stop : Tot (some (Sum.inr (b,terms) : (Int × T.qm × T.Rx × (List T.Rx)) ⊕ (T.qm × (List T.Rx)))) (fun r => (∀ y,r = .inl y → y.1 ≠ 0 ∧ y.2.1.cs = cs) ∧
   ∀ y,r = .inr y → y.1.cs = cs ∧ b.at_ ≤ y.1.at_ ∧ y.1.at_ ≤ cs.l.length ∧ (qf (y.2.map rxW) : Int) ≤ 1000 * (y.1.at_ - a1)) := by
  refine .ret ⟨fun y hy => (by cases hy),fun y hy => ?_⟩
  cases hy
  exact ⟨h,by simp,h2,hw⟩
 rw [h]
 (apply Tot.ite <;> intro hT <;> try simp (disch := omega) only [tfx.down,q9,qa] at hT)
 ·refine Tot.bind (q3c hc b h (by omega)) fun s hs => ?_
  (apply Tot.ite <;> intro hT <;> try simp (disch := omega) only [tfx.down,q9,qa] at hT)
  ·(apply Tot.ite <;> intro hT <;> try simp (disch := omega) only [tfx.down,q9,qa] at hT)
   ·refine Tot.bind (qwb hc a0 ha0 H deep d0 d1 b h h0 h2) fun y hy => ?_
    (apply Tot.ite <;> intro hT <;> try simp (disch := omega) only [tfx.down,q9,qa] at hT)
    ·have hc1 := hT
     refine .ret ⟨fun z hz => ?_,fun z hz => by cases hz⟩
     cases hz
     exact ⟨hc1,hy.1⟩
    ·have hc1 := hT
     have hy2 := hy.2 hc1
     refine Tot.need (zt (by omega) (by omega)) ?_
     refine (ih _ (by omega) y.2.2 _ rfl hy.1 (by omega) (by omega) (by omega) (by rw [wh]; omega)).mono fun r hr => ⟨hr.1,fun z hz => ?_⟩
     have := hr.2 z hz
     exact ⟨this.1,by omega,this.2.2.1,this.2.2.2⟩
   ·exact stop
  ·exact stop
 ·exact stop
theorem qug (deep : Int) (d0 : 0 ≤ deep) (d1 : deep ≤ 16) (t : T.Rx) : ∀ (m : Nat) (b : T.qm) (alts : List T.Rx),m = (cs.l.length - b.at_).toNat → b.cs = cs → a0 ≤ b.at_ → b.at_ ≤ cs.l.length →
  (qf (alts.map rxW) : Int) ≤ 1000 * (b.at_ - a0) → Tot (q74 (deep,b,t,alts)) (fun r => (∀ y,r = .inl y → y.1 ≠ 0 ∧ y.2.1.cs = cs) ∧
   ∀ y,r = .inr y → y.2.1.cs = cs ∧ a0 ≤ y.2.1.at_ ∧ y.2.1.at_ ≤ cs.l.length ∧ (rxW y.2.2 : Int) ≤ 1000 * (y.2.1.at_ - a0) + 2) := by
 have hm := hc.many
 intro m
 induction m using Nat.strongRecOn with
 | _ m ih =>
 intro b alts hmm h h0 h2 hw
 have hl := xk q78 alts
 rw [q74.eq_1]
 refine Tot.bind (zq6 hc a0 ha0 H deep d0 d1 t alts b.at_ (by omega) _ b [] rfl h h0 (by omega) h2 (by simp [qf])) fun v hv => ?_
 rcases v with y | y
 ·have := hv.1 y rfl
  refine .ret ⟨fun z hz => ?_,fun z hz => by cases hz⟩
  cases hz
  exact this
 ·obtain ⟨g1,g2,g3,g4⟩ := hv.2 y rfl
  refine Tot.bind (qsd (⟨y.2.isEmpty,y.2⟩ : Sl T.Rx) (by simp only; omega)) fun w hw2 => ?_
  simp only at hw2
  refine Tot.need (zt (by omega) (by omega)) ?_
  refine Tot.bind (yh hc _ y.1 g1 (by omega) g3) fun z hz => ?_
  (apply Tot.ite <;> intro hT <;> try simp (disch := omega) only [tfx.down,q9,qa] at hT)
  ·have hc1 := hT
   have hz1 := hz.2.2.2.2 hc1
   refine Tot.bind (z7h (⟨false,(alts ++ [w])⟩ : Sl T.Rx) (by simp only [wh]; omega)) fun u hu => ?_
   simp only [wh] at hu
   refine .ret ⟨fun x hx => (by cases hx),fun x hx => ?_⟩
   cases hx
   exact ⟨hz.1,by simp only; omega,by simp only; omega,by simp only; omega⟩
  ·have hc1 := hT
   have hz1 := hz.2.2.2.1 hc1
   exact ih _ (by omega) z.2 _ rfl hz.1 (by omega) (by omega) (by rw [wh]; omega)
end
theorem zkz {cs : Sl Bytes} (hc : q3w cs) : ∀ (m : Nat) (deep : Int) (b : T.qm),m = (cs.l.length - b.at_).toNat → 0 ≤ deep → deep ≤ 16 → b.cs = cs → 0 ≤ b.at_ → b.at_ ≤ cs.l.length → Tot (q1f (deep,b)) (qeu cs b.at_) := by
 intro m
 induction m using Nat.strongRecOn with
 | _ m ih =>
 intro deep b hmm d0 d1 h h0 h1
 rw [q1f.eq_1]
 refine Tot.bind (qug hc b.at_ h0 (fun d2 b2 e1 e2 e3 e4 e5 => ih _ (by omega) d2 b2 rfl e1 e2 e3 (by omega) e5) deep d0 d1 _ _ b [] rfl h (by omega) h1 (by simp [qf])) fun v hv => ?_
 rcases v with y | y
 ·have := hv.1 y rfl
  exact .ret ⟨this.2,fun h => absurd h this.1⟩
 ·obtain ⟨g1,g2,g3,g4⟩ := hv.2 y rfl
  exact .ret ⟨g1,fun _ => ⟨g2,g3,g4⟩⟩
theorem zo3 (s : Bytes) : Tot (qa0 s) (fun r => r.2 = 0 → s.length ≤ 256 ∧ rxW r.1 ≤ 1000 * s.length + 1002) := by
 unfold qa0
 (apply Tot.ite <;> intro hT <;> try simp (disch := omega) only [tfx.down,q9,qa] at hT)
 ·exact .ret (by simp)
 ·refine Tot.bind (qib s (by unfold BN; omega)) fun v hv => ?_
  have hc : q3w v := ⟨by omega,fun c h => by have := hv.2 c h; omega⟩
  refine Tot.bind (zkz hc _ 0 (T.qm.mk v 0) rfl (by omega) (by omega) rfl (by simp) (by simp)) fun w hw => ?_
  (apply Tot.ite <;> intro hT <;> try simp (disch := omega) only [tfx.down,q9,qa] at hT)
  ·exact .ret (by simp)
  ·(apply Tot.ite <;> intro hT <;> try simp (disch := omega) only [tfx.down,q9,qa] at hT)
   ·have h := hT
    exact .ret fun h2 => absurd h2 h
   ·have h := hT
    have := hw.2 h
    refine .ret fun _ => ⟨by omega, ?_⟩
    simp only at this ⊢
    omega
end Go.Proofs.YtdhgdeelagmbpaaGreat
set_option linter.unusedSimpArgs false
set_option linter.unusedVariables false
namespace Go.Proofs.YtdhgdeelagmbpaaGreat
open Go Go.Gm
def xw (f : T.Form) : Nat := rxW f.rx + qf (f.fmts.l.map fmW)
theorem zie (s : Bytes) (hs : s.length ≤ BN) (t : T.Form) : ∀ (m : Nat) (k : Int) (b : List UInt8),m = (s.length - k).toNat → 0 ≤ k → k ≤ s.length → (b.length : Int) ≤ k →
  Tot (q3k (s,k,t,b)) (fun r => k ≤ r.1 ∧ r.1 ≤ s.length ∧ (r.2.length : Int) ≤ b.length + (r.1 - k)) := by
 have hB : s.length ≤ 8192 := hs
 intro m
 induction m using Nat.strongRecOn with
 | _ m ih =>
 intro k b hm h0 h1 hb
 rw [q3k.eq_1]
 (apply Tot.ite <;> intro hT <;> try simp (disch := omega) only [tfx.down,q9,qa] at hT)
 ·refine Tot.bind (Tot.get (by omega) (by omega)) fun c hc => ?_
  (apply Tot.ite <;> intro hT <;> try simp (disch := omega) only [tfx.down,q9,qa] at hT)
  ·(apply Tot.ite <;> intro hT <;> try simp (disch := omega) only [tfx.down,q9,qa] at hT)
   ·(repeat (first | (rw [q9]; rotate_left; omega; omega) | (rw [qa]; rotate_left; omega; omega)))
    refine Tot.bind (Tot.get (by omega) (by omega)) fun c2 hc2 => ?_
    (apply Tot.ite <;> intro hT <;> try simp (disch := omega) only [tfx.down,q9,qa] at hT)
    ·refine Tot.need (zt (by omega) (by omega)) ?_
     refine Tot.need (zt (by simp; omega) (by omega)) ?_
     exact (ih _ (by omega) (k + 1 + 1) _ rfl (by omega) (by omega) (by simp; omega)).mono fun r hr => by
      simp only [List.length_append,List.length_cons,List.length_nil] at hr
      omega
    ·refine Tot.need (zt (by omega) (by omega)) ?_
     exact (ih _ (by omega) (k + 1 + 1) _ rfl (by omega) (by omega) (by simp; omega)).mono fun r hr => by
      simp only [List.length_append,List.length_cons,List.length_nil] at hr
      omega
   ·refine Tot.need (zt (by omega) (by omega)) ?_
    (repeat (first | (rw [q9]; rotate_left; omega; omega) | (rw [qa]; rotate_left; omega; omega)))
    exact (ih _ (by omega) (k + 1) _ rfl (by omega) (by omega) (by simp; omega)).mono fun r hr => by
     simp only [List.length_append,List.length_cons,List.length_nil] at hr
     omega
  ·exact .ret ⟨by simp,h1,by simp only; omega⟩
 ·exact .ret ⟨by simp,h1,by simp only; omega⟩
theorem qum (s : Bytes) (hs : s.length ≤ BN) (t : T.Form) (l : List UInt8) (x : T.Rx) : ∀ (m : Nat) (e : Int) (f : T.Form),m = (s.length - e).toNat → 0 ≤ e →
  Tot (q40 (s,e,t,l,x,f)) (fun r => (∀ y,r = .inl y → y.2.1 = false) ∧ ∀ y,r = .inr y → e ≤ y.1 ∧ xw y.2 = xw f) := by
 have hB : s.length ≤ 8192 := hs
 intro m
 induction m using Nat.strongRecOn with
 | _ m ih =>
 intro e f hm h0
 rw [q40.eq_1]
 have stop : Tot (some (Sum.inr (e,f) : (Int × Bool × Int × T.Form × T.Form) ⊕ (Int × T.Form))) (fun r => (∀ y,r = .inl y → y.2.1 = false) ∧ ∀ y,r = .inr y → e ≤ y.1 ∧ xw y.2 = xw f) := by
  refine .ret ⟨fun y hy => (by cases hy),fun y hy => ?_⟩
  cases hy
  exact ⟨by simp,rfl⟩
 have go : ∀ f2 : T.Form,e < s.length → xw f2 = xw f → Tot (q40 (s,e + 1,t,l,x,f2)) (fun r => (∀ y,r = .inl y → y.2.1 = false) ∧ ∀ y,r = .inr y → e ≤ y.1 ∧ xw y.2 = xw f) := by
  intro f2 he hf
  exact (ih _ (by omega) (e + 1) f2 rfl (by omega)).mono fun r hr => ⟨hr.1,fun y hy => by have := hr.2 y hy; exact ⟨by omega,this.2.trans hf⟩⟩
 (apply Tot.ite <;> intro hT <;> try simp (disch := omega) only [tfx.down,q9,qa] at hT)
 ·refine Tot.bind (Tot.get (by omega) (by omega)) fun c hc => ?_
  (repeat (first | (rw [q9]; rotate_left; omega; omega) | (rw [qa]; rotate_left; omega; omega)))
  (apply Tot.ite <;> intro hT <;> try simp (disch := omega) only [tfx.down,q9,qa] at hT)
  ·(apply Tot.ite <;> intro hT <;> try simp (disch := omega) only [tfx.down,q9,qa] at hT)
   ·exact go _ (by omega) rfl
   ·(repeat (first | (rw [q9]; rotate_left; omega; omega) | (rw [qa]; rotate_left; omega; omega)))
    (apply Tot.ite <;> intro hT <;> try simp (disch := omega) only [tfx.down,q9,qa] at hT)
    ·exact go _ (by omega) rfl
    ·refine .ret ⟨fun y hy => ?_,fun y hy => by cases hy⟩
     cases hy
     rfl
  ·exact stop
 ·exact stop
theorem qq0 (s : Bytes) (hs : s.length ≤ BN) (at_ : Int) :
  Tot (qa5 s at_) (fun r => r.2.2 = true → 0 ≤ at_ ∧ at_ < r.2.1 ∧ r.2.1 < s.length ∧ (xw r.1 : Int) ≤ 1000 * (r.2.1 - at_)) := by
 have hB : s.length ≤ 8192 := hs
 unfold qa5
 (apply Tot.ite <;> intro hT <;> try simp (disch := omega) only [tfx.down,q9,qa] at hT)
 ·exact .ret (by simp)
 ·refine Tot.bind (Tot.get (by omega) (by omega)) fun c hc => ?_
  (apply Tot.ite <;> intro hT <;> try simp (disch := omega) only [tfx.down,q9,qa] at hT)
  ·exact .ret (by simp)
  ·(repeat (first | (rw [q9]; rotate_left; omega; omega) | (rw [qa]; rotate_left; omega; omega)))
   refine Tot.bind (zie s hs _ _ (at_ + 1) [] rfl (by omega) (by omega) (by simp; omega)) fun v hv => ?_
   simp only [List.length_nil] at hv
   (apply Tot.ite <;> intro hT <;> try simp (disch := omega) only [tfx.down,q9,qa] at hT)
   ·exact .ret (by simp)
   ·refine Tot.bind (zo3 v.2) fun w hw => ?_
    (apply Tot.ite <;> intro hT <;> try simp (disch := omega) only [tfx.down,q9,qa] at hT)
    ·exact .ret (by simp)
    ·have hc1 := hT
     have hw2 := hw hc1
     (repeat (first | (rw [q9]; rotate_left; omega; omega) | (rw [qa]; rotate_left; omega; omega)))
     refine Tot.bind (znb s hs (v.1 + 1)) fun y hy => ?_
     (apply Tot.ite <;> intro hT <;> try simp (disch := omega) only [tfx.down,q9,qa] at hT)
     ·exact .ret (by simp)
     ·have hc2 := hT
      have hy2 := hy hc2
      (repeat (first | (rw [q9]; rotate_left; omega; omega) | (rw [qa]; rotate_left; omega; omega)))
      refine Tot.bind (qum s hs _ _ _ _ (y.2.1 + 1) _ rfl (by omega)) fun z hz => ?_
      rcases z with z | z
      ·have := hz.1 z rfl
       exact .ret fun h => by simp only [this] at h; cases h
      ·obtain ⟨g1,g2⟩ := hz.2 z rfl
       (apply Tot.ite <;> intro hT <;> try simp (disch := omega) only [tfx.down,q9,qa] at hT)
       ·exact .ret (by simp)
       ·refine .ret fun _ => ?_
        simp only [g2]
        simp only [xw]
        omega
end Go.Proofs.YtdhgdeelagmbpaaGreat
set_option linter.unusedSimpArgs false
set_option linter.unusedVariables false
namespace Go.Proofs.YtdhgdeelagmbpaaGreat
open Go Go.Gm
def opW (s : Bytes) : Nat := 1 + s.length
mutual
def snW : T.qb → Nat
 | ⟨_,t,_,_,_,f,o,kids⟩ => 1 + t.length + xw f + qf (o.l.map opW) + qoi kids
def qoi : Sl T.qb → Nat
 | ⟨_,l⟩ => qb1 l
def qb1 : List T.qb → Nat
 | [] => 0
 | x :: r => snW x + qb1 r
end
theorem qkk : ∀ l : List T.qb,qb1 l = qf (l.map snW)
 | [] => by simp [qb1,qf]
 | x :: r => by simp [qb1,qf,qkk r]
theorem yg (x : T.qb) : snW x = 1 + x.text.length + xw x.form + qf (x.opts.l.map opW) + qf (x.kids.l.map snW) := by
 cases x with | mk a b c d e f g h => cases h; simp [snW,qoi,qkk]
theorem q1x (x : T.qb) : 1 ≤ snW x := by rw [yg]; omega
theorem qge (x : Bytes) : 1 ≤ opW x := by unfold opW; omega
theorem qgr (s : Bytes) (hs : s.length ≤ BN) (at_ : Int) (h0 : 0 ≤ at_) (h1 : at_ < s.length) (c : Bool) : Tot (q75 s at_ c) (fun r => r = true → at_ + 1 < s.length) := by
 have hB : s.length ≤ 8192 := hs
 unfold q75
 refine Tot.bind (Tot.get h0 h1) fun b hb => ?_
 (apply Tot.ite <;> intro hT <;> try simp (disch := omega) only [tfx.down,q9,qa] at hT)
 ·exact .ret (by simp)
 ·(repeat (first | (rw [q9]; rotate_left; omega; omega) | (rw [qa]; rotate_left; omega; omega)))
  refine Tot.bind (Tot.get (by omega) (by omega)) fun b2 hb2 => ?_
  repeat' (first | (apply Tot.ite <;> intro hT <;> try simp (disch := omega) only [tfx.down,q9,qa] at hT) | exact .ret (fun _ => by omega))
theorem qqj (s : Bytes) (hs : s.length ≤ BN) (w : List T.qb) (es : List Int) (a1 : Int) (ha1 : 0 ≤ a1) : ∀ (m : Nat) (at_ : Int) (l : List Bytes) (t : List UInt8),m = (s.length - at_).toNat → a1 ≤ at_ → at_ ≤ s.length → (qf (l.map opW) + t.length : Int) ≤ at_ - a1 →
  Tot (q46 (at_,s,w,es,l,t)) (fun r => at_ ≤ r.1 ∧ r.1 ≤ s.length ∧ (qf (r.2.1.map opW) + r.2.2.length : Int) ≤ r.1 - a1) := by
 have hB : s.length ≤ 8192 := hs
 intro m
 induction m using Nat.strongRecOn with
 | _ m ih =>
 intro at_ l t hm h0 h1 hw
 have hl := xk qge l
 rw [q46.eq_1]
 (apply Tot.ite <;> intro hT <;> try simp (disch := omega) only [tfx.down,q9,qa] at hT)
 ·refine Tot.bind (Tot.get (by omega) (by omega)) fun c hc => ?_
  (apply Tot.ite <;> intro hT <;> try simp (disch := omega) only [tfx.down,q9,qa] at hT)
  ·(apply Tot.ite <;> intro hT <;> try simp (disch := omega) only [tfx.down,q9,qa] at hT)
   ·refine Tot.need (zt (by omega) (by omega)) ?_
    (repeat (first | (rw [q9]; rotate_left; omega; omega) | (rw [qa]; rotate_left; omega; omega)))
    exact (ih _ (by omega) (at_ + 1) _ _ rfl (by omega) (by omega) (by rw [wh]; simp only [opW,List.length_nil]; omega)).mono fun r hr => ⟨by omega,hr.2.1,hr.2.2⟩
   ·refine Tot.bind (qgr s hs at_ (by omega) (by omega) true) fun v hv => ?_
    (apply Tot.ite <;> intro hT <;> try simp (disch := omega) only [tfx.down,q9,qa] at hT)
    ·have hc1 := hT
     have := hv hc1
     (repeat (first | (rw [q9]; rotate_left; omega; omega) | (rw [qa]; rotate_left; omega; omega)))
     refine Tot.bind (Tot.get (by omega) (by omega)) fun c2 hc2 => ?_
     refine Tot.need (zt (by omega) (by omega)) ?_
     (repeat (first | (rw [q9]; rotate_left; omega; omega) | (rw [qa]; rotate_left; omega; omega)))
     exact (ih _ (by omega) (at_ + 1 + 1) _ _ rfl (by omega) (by omega) (by simp; omega)).mono fun r hr => ⟨by omega,hr.2.1,hr.2.2⟩
    ·refine Tot.need (zt (by omega) (by omega)) ?_
     (repeat (first | (rw [q9]; rotate_left; omega; omega) | (rw [qa]; rotate_left; omega; omega)))
     exact (ih _ (by omega) (at_ + 1) _ _ rfl (by omega) (by omega) (by simp; omega)).mono fun r hr => ⟨by omega,hr.2.1,hr.2.2⟩
  ·exact .ret ⟨by simp,h1,hw⟩
 ·exact .ret ⟨by simp,h1,hw⟩
theorem zhh (s : Bytes) (hs : s.length ≤ BN) (w : List T.qb) (es : List Int) (at_ : Int) (h0 : 0 ≤ at_) (h1 : at_ ≤ s.length) :
  Tot (qbs at_ s w es) (fun r => r.2 ≥ 0 → at_ ≤ r.2 ∧ r.2 < s.length ∧ (qf (r.1.l.map opW) : Int) ≤ r.2 - at_ + 1) := by
 have hB : s.length ≤ 8192 := hs
 unfold qbs
 refine Tot.bind (qqj s hs w es at_ h0 _ at_ [] [] rfl (by omega) h1 (by simp [qf])) fun v hv => ?_
 have hl := xk qge v.2.1
 (apply Tot.ite <;> intro hT <;> try simp (disch := omega) only [tfx.down,q9,qa] at hT)
 ·exact .ret (by simp)
 ·refine Tot.need (zt (by omega) (by omega)) ?_
  refine .ret fun _ => ⟨by simp only; omega,by simp only; omega, ?_⟩
  simp only [wh,opW]
  omega
end Go.Proofs.YtdhgdeelagmbpaaGreat
set_option linter.unusedSimpArgs false
set_option linter.unusedVariables false
namespace Go.Proofs.YtdhgdeelagmbpaaGreat
open Go Go.Gm
theorem qpj (l : Sl T.qb) (hw : qf (l.l.map snW) ≤ 100000000) : ∀ (r : List T.qb) (k : Nat) (out : List T.qb),l.l.drop k = r → qf (out.map snW) + qf (r.map snW) ≤ qf (l.l.map snW) →
  Tot (q0a (l,(k : Int),out)) (fun t => qf (t.map snW) ≤ qf (l.l.map snW)) := by
 have hl := xk q1x l.l
 intro r
 induction r with
 | nil =>
  intro k out hk hs
  rw [q0a.eq_1]
  have := nk hk
  (apply Tot.ite <;> intro hT <;> try simp (disch := omega) only [tfx.down,q9,qa] at hT)
  ·omega
  ·exact .ret (by simp [qf] at hs; exact hs)
 | cons x r ih =>
  intro k out hk hs
  obtain ⟨h1,h2,h3⟩ := drop_cons hk
  have hl2 := xk q1x out
  simp only [List.map_cons,qf] at hs
  rw [q0a.eq_1]
  have e1 : IntKind.i64.wrap ((k : Int) + 1) = ((k + 1 : Nat) : Int) := q1o (by omega)
  rw [e1]
  have hg : Tot (qc l.l (k : Int)) (fun y => y = x) := ⟨x,by rw [zx h3]; simpa [List.getElem?_eq_getElem h3] using h1,rfl⟩
  have put : Tot (if ql (out.length + 1) 224 = true then q0a (l,((k + 1 : Nat) : Int),(out ++ [x])) else none) (fun t => qf (t.map snW) ≤ qf (l.l.map snW)) := by
   refine Tot.need (zt (by omega) (by omega)) ?_
   exact ih (k + 1) _ h2 (by rw [wh]; omega)
  (apply Tot.ite <;> intro hT <;> try simp (disch := omega) only [tfx.down,q9,qa] at hT)
  ·refine Tot.bind hg fun y hy => ?_
   subst hy
   (apply Tot.ite <;> intro hT <;> try simp (disch := omega) only [tfx.down,q9,qa] at hT)
   ·(apply Tot.ite <;> intro hT <;> try simp (disch := omega) only [tfx.down,q9,qa] at hT)
    ·exact ih (k + 1) _ h2 (by omega)
    ·(apply Tot.ite <;> intro hT <;> try simp (disch := omega) only [tfx.down,q9,qa] at hT)
     ·have e2 : IntKind.i64.wrap ((out.length : Int) - 1) = (out.length : Int) - 1 := q9 (by omega) (by omega)
      rw [e2]
      refine Tot.bind (Tot.get (by omega) (by omega)) fun z hz => ?_
      (apply Tot.ite <;> intro hT <;> try simp (disch := omega) only [tfx.down,q9,qa] at hT)
      ·have hz2 := uy (f := snW) hz.2
       have hzw := yg z
       have hyw := yg y
       refine Tot.need (by omega) ?_
       refine ih (k + 1) _ h2 ?_
       have := qb0 snW out ((out.length : Int) - 1).toNat (T.qb.mk z.kind (z.text ++ y.text) z.n z.has z.turned z.form z.opts z.kids) z hz.1
       have e3 := yg (T.qb.mk z.kind (z.text ++ y.text) z.n z.has z.turned z.form z.opts z.kids)
       simp only [List.length_append] at e3
       omega
      ·exact put
     ·exact put
   ·exact put
  ·omega
theorem zkp (l : Sl T.qb) (hw : qf (l.l.map snW) ≤ 100000000) : Tot (qag l) (fun t => qf (t.l.map snW) ≤ qf (l.l.map snW)) := by
 unfold qag
 have h := qpj l hw l.l 0 [] rfl (by simp [qf])
 rw [show ((0 : Nat) : Int) = 0 from rfl] at h
 refine Tot.bind h fun v hv => ?_
 exact .ret hv
theorem qdr (t : Bytes) : snW (T.qb.mk (0 : Int) t (0 : Int) false false (T.Form.mk (T.Rx.mk (0 : Int) ([] : Bytes) false (⟨true,[]⟩ : (Sl T.Row)) (0 : Int) (0 : Int) false (⟨true,[]⟩ : (Sl T.Rx))) (⟨true,[]⟩ : (Sl T.Fmt)) false false) (⟨true,[]⟩ : (Sl Bytes)) (⟨true,[]⟩ : (Sl T.qb))) = 2 + t.length := by
 rw [yg]; simp [xw,jk,qf]; omega
end Go.Proofs.YtdhgdeelagmbpaaGreat
