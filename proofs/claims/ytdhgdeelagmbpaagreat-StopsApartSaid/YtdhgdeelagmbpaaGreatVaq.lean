/-
  A snippet, read from a text: lists of parts, joined.
-/
import Derived.Test.YtdhgdeelagmbpaaGreatVah
set_option linter.unusedSimpArgs false
set_option linter.unusedVariables false
namespace Go.Proofs.YtdhgdeelagmbpaaGreat
open Go Go.Gm
def Tot {α : Type} (o : Option α) (Q : α → Prop) : Prop := ∃ r,o = some r ∧ Q r
theorem Tot.ret {α : Type} {a : α} {Q : α → Prop} (h : Q a) : Tot (some a) Q := ⟨a,rfl,h⟩
theorem Tot.bind {α β : Type} {o : Option α} {f : α → Option β} {P : α → Prop} {Q : β → Prop} (h : Tot o P) (k : ∀ x,P x → Tot (f x) Q) : Tot (o >>= f) Q := by
 obtain ⟨x,rfl,hx⟩ := h
 exact k x hx
theorem Tot.go {α β : Type} {o : Option α} {f : α → Option β} {a : α} {Q : β → Prop} (h : o = some a) (k : Tot (f a) Q) : Tot (o >>= f) Q := by
 subst h
 exact k
theorem Tot.ite {α : Type} {c : Prop} [Decidable c] {a b : Option α} {Q : α → Prop} (h1 : c → Tot a Q) (h2 : ¬ c → Tot b Q) : Tot (if c then a else b) Q := by
 split
 ·exact h1 (by assumption)
 ·exact h2 (by assumption)
theorem Tot.need {α : Type} {c : Prop} [Decidable c] {a : Option α} {Q : α → Prop} (hc : c) (h : Tot a Q) : Tot (if c then a else none) Q := by
 rw [if_pos hc]
 exact h
theorem Tot.mono {α : Type} {o : Option α} {P Q : α → Prop} (h : Tot o P) (k : ∀ x,P x → Q x) : Tot o Q := by
 obtain ⟨x,h1,h2⟩ := h
 exact ⟨x,h1,k x h2⟩
theorem Tot.get {α : Type} {l : List α} {i : Int} (h1 : 0 ≤ i) (h2 : i < (l.length : Int)) : Tot (qh l i) (fun x => l[i.toNat]? = some x ∧ x ∈ l) := by
 have h3 : i.toNat < l.length := by omega
 refine ⟨l[i.toNat], ?_,by simp [h3],List.getElem_mem h3⟩
 unfold qh
 rw [if_pos h1]
 simp [h3]
theorem Tot.sub2 {α : Type} {l : List α} {lo hi : Int} (h1 : 0 ≤ lo) (h2 : lo ≤ hi) (h3 : hi ≤ (l.length : Int)) : Tot (Gm.sub2 l lo hi) (fun r => r = (l.take hi.toNat).drop lo.toNat ∧ (r.length : Int) = hi - lo) := by
 refine ⟨(l.take hi.toNat).drop lo.toNat, ?_,rfl, ?_⟩
 ·unfold Gm.sub2
  rw [if_pos ⟨⟨h1,by omega⟩,by omega,by omega⟩]
 ·simp only [List.length_drop,List.length_take]; omega
theorem Tot.ku {α : Type} {l : List α} {lo : Int} (h1 : 0 ≤ lo) (h2 : lo ≤ (l.length : Int)) : Tot (Gm.ku l lo) (fun r => r = l.drop lo.toNat ∧ (r.length : Int) = l.length - lo) := by
 refine ⟨l.drop lo.toNat, ?_,rfl, ?_⟩
 ·unfold Gm.ku
  rw [if_pos ⟨h1,by omega⟩]
 ·simp only [List.length_drop]; omega
theorem Tot.gm {α : Type} {l : List α} {hi : Int} (h1 : 0 ≤ hi) (h2 : hi ≤ (l.length : Int)) : Tot (Gm.gm l hi) (fun r => r = l.take hi.toNat ∧ (r.length : Int) = hi) := by
 refine ⟨l.take hi.toNat, ?_,rfl, ?_⟩
 ·unfold Gm.gm
  rw [if_pos ⟨h1,by omega⟩]
 ·simp only [List.length_take]; omega
theorem zt {n k : Nat} (h : n ≤ 2 ^ 30) (hk : k ≤ 2 ^ 16) : ql n k = true := by
 have h1 : n * k ≤ 2 ^ 30 * 2 ^ 16 := Nat.mul_le_mul h hk
 unfold ql
 simp only [Bool.and_eq_true,decide_eq_true_eq]
 refine ⟨⟨by simpa using h1,by omega⟩,by omega⟩
theorem qa {n : Int} (h1 : 0 ≤ n) (h2 : n ≤ 255) : IntKind.u8.wrap n = n := IntWalk.u8_in n ⟨h1,h2⟩
theorem ge0 {a b : Int} : (a ≥ b) = (b ≤ a) := rfl
theorem gt0 {a b : Int} : (a > b) = (b < a) := rfl
def tfx := PLift.up (And.intro @decide_eq_true_eq (And.intro @Bool.and_eq_true (And.intro @Bool.or_eq_true (And.intro @Bool.not_eq_true' (And.intro @Bool.not_eq_true (And.intro @Bool.and_eq_false_iff (And.intro @Bool.or_eq_false_iff (And.intro @decide_eq_false_iff_not
 (And.intro @beq_iff_eq.{0} (And.intro @bne_iff_ne.{0} (And.intro @beq_eq_false_iff_ne.{0} (And.intro @bne_eq_false_iff_eq.{0} (And.intro @not_and (And.intro @not_or (And.intro @ge0 (And.intro @gt0 (And.intro @Bool.not_eq_false' (And.intro @Bool.not_eq_false (And.intro @Int.not_lt (And.intro @Int.not_le
 (And.intro @ne_eq.{1} @Decidable.not_not)))))))))))))))))))))
def BN : Nat := 8192
theorem q60 (c : UInt8) : Tot (q1s c) (fun v => v = true → 48 ≤ c.toNat ∧ c.toNat ≤ 57) := by
 unfold q1s
 (apply Tot.ite <;> intro hT <;> try simp (disch := omega) only [tfx.down,q9,qa] at hT)
 ·exact .ret (by simp; omega)
 ·exact .ret (by simp)
theorem q9p (c : UInt8) : Tot (q5r c) (fun _ => True) := by
 unfold q5r
 (apply Tot.ite <;> intro hT <;> try simp (disch := omega) only [tfx.down,q9,qa] at hT)
 ·exact .ret trivial
 ·(apply Tot.ite <;> intro hT <;> try simp (disch := omega) only [tfx.down,q9,qa] at hT)
  ·exact .ret trivial
  ·exact .ret trivial
theorem qqc (s : Bytes) (hs : s.length ≤ BN) (at_ : Int) (ha : 0 ≤ at_) (ha2 : at_ ≤ s.length) : ∀ (m : Nat) (n e : Int),m = (s.length - e).toNat → at_ ≤ e → e ≤ s.length → 0 ≤ n →
  (e = at_ ∧ n < 1 ∨ e = at_ + 1 ∧ n < 10 ∨ e = at_ + 2 ∧ n < 100 ∨ e = at_ + 3 ∧ n < 1000 ∨ e = at_ + 4 ∧ n < 10000) →
  Tot (q6x (s,at_,n,e)) (fun r => 0 ≤ r.1 ∧ r.1 ≤ 9999 ∧ e ≤ r.2 ∧ r.2 ≤ s.length) := by
 unfold BN at hs
 intro m
 induction m using Nat.strongRecOn with
 | _ m ih =>
 intro n e hm h1 h2 h4 h5
 rw [q6x.eq_1]
 (apply Tot.ite <;> intro hT <;> try simp (disch := omega) only [tfx.down,q9,qa] at hT)
 ·(repeat (first | (rw [q9]; rotate_left; omega; omega) | (rw [qa]; rotate_left; omega; omega)))
  refine Tot.bind (Tot.get (by omega) (by omega)) fun b hb => ?_
  refine Tot.bind (q60 b) fun v hv => ?_
  (apply Tot.ite <;> intro hT <;> try simp (disch := omega) only [tfx.down,q9,qa] at hT)
  ·have hv1 := hT
   have hv2 := hv hv1
   (try simp (disch := omega) only [q9,qa])
   exact (ih _ (by omega) _ _ rfl (by omega) (by omega) (by omega) (by omega)).mono fun r hr => by omega
  ·exact .ret (by simp only; omega)
 ·exact .ret (by simp only; omega)
theorem qgh (s : Bytes) (hs : s.length ≤ BN) (at_ : Int) (ha : 0 ≤ at_) (ha2 : at_ ≤ s.length) :
  Tot (q6n s at_) (fun r => 0 ≤ r.1 ∧ r.1 ≤ 9999 ∧ (r.2.2 = true → at_ < r.2.1 ∧ r.2.1 ≤ s.length)) := by
 unfold q6n
 refine Tot.bind (qqc s hs at_ ha ha2 _ 0 at_ rfl (by omega) ha2 (by omega) (by omega)) fun v hv => ?_
 (apply Tot.ite <;> intro hT <;> try simp (disch := omega) only [tfx.down,q9,qa] at hT)
 ·exact .ret (by simp)
 ·(apply Tot.ite <;> intro hT <;> try simp (disch := omega) only [tfx.down,q9,qa] at hT)
  ·refine Tot.bind (Tot.get (by omega) (by omega)) fun b hb => ?_
   refine Tot.bind (q60 b) fun w hw => ?_
   (apply Tot.ite <;> intro hT <;> try simp (disch := omega) only [tfx.down,q9,qa] at hT)
   ·exact .ret (by simp)
   ·exact .ret ⟨hv.1,hv.2.1,fun _ => by simp only; omega⟩
  ·exact .ret ⟨hv.1,hv.2.1,fun _ => by simp only; omega⟩
theorem zkf (s : Bytes) (hs : s.length ≤ BN) : ∀ (m : Nat) (i : Int),m = (s.length - i).toNat → 0 ≤ i → Tot (q0x (s,i)) (fun _ => True) := by
 unfold BN at hs
 intro m
 induction m using Nat.strongRecOn with
 | _ m ih =>
 intro i hm h1
 rw [q0x.eq_1]
 (apply Tot.ite <;> intro hT <;> try simp (disch := omega) only [tfx.down,q9,qa] at hT)
 ·(repeat (first | (rw [q9]; rotate_left; omega; omega) | (rw [qa]; rotate_left; omega; omega)))
  refine Tot.bind (Tot.get (by omega) (by omega)) fun b hb => ?_
  refine Tot.bind (q9p b) fun v hv => ?_
  have h := ih _ (by omega) (i + 1) rfl (by omega)
  (apply Tot.ite <;> intro hT <;> try simp (disch := omega) only [tfx.down,q9,qa] at hT)
  ·(apply Tot.ite <;> intro hT <;> try simp (disch := omega) only [tfx.down,q9,qa] at hT)
   ·(apply Tot.ite <;> intro hT <;> try simp (disch := omega) only [tfx.down,q9,qa] at hT)
    ·exact .ret trivial
    ·refine Tot.bind (q60 b) fun w hw => ?_
     (apply Tot.ite <;> intro hT <;> try simp (disch := omega) only [tfx.down,q9,qa] at hT)
     ·exact .ret trivial
     ·exact h
   ·exact h
  ·exact h
 ·exact .ret trivial
theorem qzk (s : Bytes) (hs : s.length ≤ BN) : Tot (bf s) (fun _ => True) := by
 unfold bf
 (apply Tot.ite <;> intro hT <;> try simp (disch := omega) only [tfx.down,q9,qa] at hT)
 ·exact .ret trivial
 ·refine Tot.bind (zkf s hs _ 0 rfl (by omega)) fun v hv => ?_
  rcases v with v | v <;> exact .ret trivial
theorem za4 (s : Bytes) (hs : s.length ≤ BN) (w : List T.qb) (es : List Int) (at_ : Int) (ha : 0 ≤ at_) : ∀ (m : Nat) (e : Int),m = (s.length - e).toNat → at_ ≤ e → e ≤ s.length →
  Tot (q34 (at_,e,s,w,es)) (fun r => e ≤ r ∧ r ≤ s.length) := by
 unfold BN at hs
 intro m
 induction m using Nat.strongRecOn with
 | _ m ih =>
 intro e hm h1 h2
 rw [q34.eq_1]
 (apply Tot.ite <;> intro hT <;> try simp (disch := omega) only [tfx.down,q9,qa] at hT)
 ·(repeat (first | (rw [q9]; rotate_left; omega; omega) | (rw [qa]; rotate_left; omega; omega)))
  refine Tot.bind (Tot.get (by omega) (by omega)) fun b hb => ?_
  refine Tot.bind (q9p b) fun v hv => ?_
  have h := (ih _ (by omega) (e + 1) rfl (by omega) (by omega)).mono (Q := fun r => e ≤ r ∧ r ≤ s.length) fun r hr => by omega
  (apply Tot.ite <;> intro hT <;> try simp (disch := omega) only [tfx.down,q9,qa] at hT)
  ·exact h
  ·(apply Tot.ite <;> intro hT <;> try simp (disch := omega) only [tfx.down,q9,qa] at hT)
   ·exact h
   ·(apply Tot.ite <;> intro hT <;> try simp (disch := omega) only [tfx.down,q9,qa] at hT)
    ·refine Tot.bind (q60 b) fun w hw => ?_
     (apply Tot.ite <;> intro hT <;> try simp (disch := omega) only [tfx.down,q9,qa] at hT)
     ·exact h
     ·exact .ret (by omega)
    ·exact .ret (by omega)
 ·exact .ret (by omega)
theorem qx6 (s : Bytes) (hs : s.length ≤ BN) (w : List T.qb) (es : List Int) (at_ : Int) (ha : 0 ≤ at_) (ha2 : at_ ≤ s.length) :
  Tot (q9n at_ s w es) (fun r => at_ ≤ r.2.1 ∧ r.2.1 ≤ s.length ∧ (r.1.length : Int) = r.2.1 - at_ ∧ (r.2.2 = true → at_ < r.2.1)) := by
 unfold q9n
 refine Tot.bind (za4 s hs w es at_ ha _ at_ rfl (by omega) ha2) fun v hv => ?_
 refine Tot.bind (Tot.sub2 ha hv.1 hv.2) fun x hx => ?_
 have hn := qzk x (by omega)
 by_cases he : x.length = 0
 ·have : x = [] := by simpa using he
  subst this
  refine Tot.bind (o := bf []) (P := fun w => w = false) ⟨false,by unfold bf; simp,rfl⟩ fun w hw => ?_
  subst hw
  exact .ret ⟨hv.1,hv.2,hx.2,by simp⟩
 ·refine Tot.bind hn fun w hw => ?_
  exact .ret ⟨hv.1,hv.2,hx.2,fun _ => by simp only; omega⟩
end Go.Proofs.YtdhgdeelagmbpaaGreat
set_option linter.unusedSimpArgs false
set_option linter.unusedVariables false
namespace Go.Proofs.YtdhgdeelagmbpaaGreat
open Go Go.Gm
def qd : List Nat → Nat
 | [] => 0
 | a :: r => a + qd r
theorem q5i : ∀ a b : List Nat,qd (a ++ b) = qd a + qd b
 | [],b => by simp [qd]
 | x :: a,b => by simp only [List.cons_append,qd,q5i a b]; omega
theorem qlv : ∀ {l : List Nat} {x : Nat},x ∈ l → x ≤ qd l
 | y :: l,x,h => by
  simp only [qd]
  rcases List.mem_cons.1 h with rfl | h
  ·omega
  ·have := qlv h; omega
theorem xn {α : Type} {f : α → Nat} (hf : ∀ a,1 ≤ f a) : ∀ l : List α,l.length ≤ qd (l.map f)
 | [] => by simp [qd]
 | a :: l => by
  have := xn hf l
  have := hf a
  simp only [List.map_cons,qd,List.length_cons]
  omega
theorem wy {α : Type} (f : α → Nat) (l : List α) (a : α) : qd ((l ++ [a]).map f) = qd (l.map f) + f a := by
 rw [List.map_append,q5i]; simp [qd]
theorem uu {α : Type} {f : α → Nat} {l : List α} {a : α} (h : a ∈ l) : f a ≤ qd (l.map f) := qlv (List.mem_map.2 ⟨a,h,rfl⟩)
theorem qb4 {α : Type} (f : α → Nat) : ∀ (l : List α) (i : Nat) (a x : α),l[i]? = some x → qd ((l.set i a).map f) + f x = qd (l.map f) + f a
 | y :: l,0,a,x,h => by
  simp only [List.getElem?_cons_zero,Option.some.injEq] at h
  subst h
  simp only [List.set_cons_zero,List.map_cons,qd]; omega
 | y :: l,i + 1,a,x,h => by
  simp only [List.getElem?_cons_succ] at h
  have := qb4 f l i a x h
  simp only [List.set_cons_succ,List.map_cons,qd]; omega
def fmW (f : T.Fmt) : Nat := 1 + f.thn.length + f.els.length
theorem qea (x : T.Fmt) : 1 ≤ fmW x := by unfold fmW; omega
theorem qld (w : Int) : Tot (q90 w) (fun r => r.length ≤ 20) := by
 unfold q90
 repeat' (first | (apply Tot.ite <;> intro hT <;> try simp (disch := omega) only [tfx.down,q9,qa] at hT) | exact .ret (by decide))
theorem z01 (s : Bytes) (hs : s.length ≤ BN) (e : Int) (h0 : 0 ≤ e) (h1 : e + 1 < s.length) (t f : T.Fmt) : ∀ (m : Nat) (w : Int),m = (6 - w).toNat → 1 ≤ w →
  Tot (q4k (s,e,w,t,f)) (fun r => ∀ y,r = .inl y → e < y.1 ∧ y.1 ≤ s.length ∧ fmW y.2.2.1 = fmW f ∧ y.2.1 = true) := by
 unfold BN at hs
 intro m
 induction m using Nat.strongRecOn with
 | _ m ih =>
 intro w hm h2
 rw [q4k.eq_1]
 (apply Tot.ite <;> intro hT <;> try simp (disch := omega) only [tfx.down,q9,qa] at hT)
 ·refine Tot.bind (qld w) fun v hv => ?_
  refine Tot.need (by simp; omega) ?_
  have hl : ((v ++ ([125] : Bytes)).length : Int) = v.length + 1 := by simp
  (repeat (first | (rw [q9]; rotate_left; omega; omega) | (rw [qa]; rotate_left; omega; omega)))
  simp only [hl]
  have h := ih _ (by omega) (w + 1) rfl (by omega)
  (apply Tot.ite <;> intro hT <;> try simp (disch := omega) only [tfx.down,q9,qa] at hT)
  ·(repeat (first | (rw [q9]; rotate_left; omega; omega) | (rw [qa]; rotate_left; omega; omega)))
   refine Tot.bind (Tot.sub2 (by omega) (by omega) (by omega)) fun r hr => ?_
   (apply Tot.ite <;> intro hT <;> try simp (disch := omega) only [tfx.down,q9,qa] at hT)
   ·refine .ret fun y hy => ?_
    cases hy
    refine ⟨by simp only; omega,by simp only; omega,rfl,rfl⟩
   ·(repeat (first | (rw [q9]; rotate_left; omega; omega) | (rw [qa]; rotate_left; omega; omega))); exact h
  ·(repeat (first | (rw [q9]; rotate_left; omega; omega) | (rw [qa]; rotate_left; omega; omega))); exact h
 ·exact .ret fun y hy => by cases hy
theorem qfi (s : Bytes) (hs : s.length ≤ BN) (at_ : Int) (h0 : 0 ≤ at_) (h1 : at_ < s.length) (c : Bool) : Tot (q68 s at_ c) (fun r => r = true → at_ + 1 < s.length) := by
 unfold BN at hs
 unfold q68
 refine Tot.bind (Tot.get h0 h1) fun b hb => ?_
 (repeat (first | (rw [q9]; rotate_left; omega; omega) | (rw [qa]; rotate_left; omega; omega)))
 (apply Tot.ite <;> intro hT <;> try simp (disch := omega) only [tfx.down,q9,qa] at hT)
 ·exact .ret (by simp)
 ·refine Tot.bind (Tot.get (by omega) (by omega)) fun b2 hb2 => ?_
  (apply Tot.ite <;> intro hT <;> try simp (disch := omega) only [tfx.down,q9,qa] at hT)
  ·exact .ret (by simp; omega)
  ·(apply Tot.ite <;> intro hT <;> try simp (disch := omega) only [tfx.down,q9,qa] at hT)
   ·exact .ret (fun _ => by omega)
   ·exact .ret (by simp)
theorem zhf (s : Bytes) (hs : s.length ≤ BN) (stop : UInt8) : ∀ (m : Nat) (at_ : Int) (b : List UInt8),m = (s.length - at_).toNat → 0 ≤ at_ → at_ ≤ s.length → b.length ≤ BN →  (b.length : Int) ≤ at_ →
  Tot (q5k (s,at_,stop,b)) (fun r => at_ ≤ r.1 ∧ r.1 ≤ s.length ∧ (r.2.length : Int) + at_ ≤ b.length + r.1) := by
 unfold BN at hs
 intro m
 induction m using Nat.strongRecOn with
 | _ m ih =>
 intro at_ b hm h0 h1 hb hb2
 rw [q5k.eq_1]
 (apply Tot.ite <;> intro hT <;> try simp (disch := omega) only [tfx.down,q9,qa] at hT)
 ·refine Tot.bind (Tot.get (by omega) (by omega)) fun c hc => ?_
  (apply Tot.ite <;> intro hT <;> try simp (disch := omega) only [tfx.down,q9,qa] at hT)
  ·refine Tot.bind (qfi s (by unfold BN; omega) at_ h0 (by omega) true) fun v hv => ?_
   (repeat (first | (rw [q9]; rotate_left; omega; omega) | (rw [qa]; rotate_left; omega; omega)))
   (apply Tot.ite <;> intro hT <;> try simp (disch := omega) only [tfx.down,q9,qa] at hT)
   ·have hv1 := hT
    have := hv hv1
    refine Tot.bind (Tot.get (by omega) (by omega)) fun c2 hc2 => ?_
    refine Tot.need (zt (by omega) (by omega)) ?_
    exact (ih _ (by omega) (at_ + 1 + 1) _ rfl (by omega) (by omega) (by simp; unfold BN; omega) (by simp; omega)).mono fun r hr => by
     simp only [List.length_append,List.length_cons,List.length_nil] at hr; omega
   ·refine Tot.need (zt (by omega) (by omega)) ?_
    exact (ih _ (by omega) (at_ + 1) _ rfl (by omega) (by omega) (by simp; unfold BN; omega) (by simp; omega)).mono fun r hr => by
     simp only [List.length_append,List.length_cons,List.length_nil] at hr; omega
  ·exact .ret (by simp only; omega)
 ·exact .ret (by simp only; omega)
theorem qbg (s : Bytes) (hs : s.length ≤ BN) (at_ : Int) (h0 : 0 ≤ at_) (h1 : at_ ≤ s.length) (stop : UInt8) :
  Tot (q3b s at_ stop) (fun r => r.2.2 = true → at_ ≤ r.2.1 ∧ r.2.1 < s.length ∧ (r.1.length : Int) + at_ ≤ r.2.1) := by
 unfold q3b
 refine Tot.bind (zhf s hs stop _ at_ [] rfl h0 h1 (by simp) (by simp; omega)) fun v hv => ?_
 (apply Tot.ite <;> intro hT <;> try simp (disch := omega) only [tfx.down,q9,qa] at hT)
 ·exact .ret (by simp)
 ·refine .ret fun _ => ?_
  simp only [List.length_nil] at hv ⊢
  omega
set_option maxHeartbeats 2000000 in
theorem z8j (s : Bytes) (hs : s.length ≤ BN) (at_ : Int) (h0 : 0 ≤ at_) (h1 : at_ < s.length) :
  Tot (qbb s at_) (fun r => r.2.2 = true → at_ + 1 < r.2.1 ∧ r.2.1 ≤ s.length ∧ (fmW r.1 : Int) + at_ + 1 ≤ r.2.1) := by
 have hB : s.length ≤ 8192 := hs
 unfold qbb
 (repeat (first | (rw [q9]; rotate_left; omega; omega) | (rw [qa]; rotate_left; omega; omega)))
 refine Tot.bind (qgh s hs (at_ + 1) (by omega) (by omega)) fun v hv => ?_
 (apply Tot.ite <;> intro hT <;> try simp (disch := omega) only [tfx.down,q9,qa] at hT)
 ·have hc := hT
  have := hv.2.2 hc
  exact .ret fun _ => ⟨by simp only; omega,by simp only; omega,by simp only [fmW,List.length_nil]; omega⟩
 ·(apply Tot.ite <;> intro hT <;> try simp (disch := omega) only [tfx.down,q9,qa] at hT)
  ·exact .ret (by simp)
  ·refine Tot.bind (Tot.get (by omega) (by omega)) fun b hb => ?_
   (apply Tot.ite <;> intro hT <;> try simp (disch := omega) only [tfx.down,q9,qa] at hT)
   ·exact .ret (by simp)
   ·refine Tot.bind (qgh s hs (at_ + 2) (by omega) (by omega)) fun w hw => ?_
    (apply Tot.ite <;> intro hT <;> try simp (disch := omega) only [tfx.down,q9,qa] at hT)
    ·exact .ret (by simp)
    ·have hc := hT
     have hw2 := hw.2.2 (by simpa using hc.1)
     refine Tot.bind (Tot.get (by omega) (by omega)) fun b2 hb2 => ?_
     (repeat (first | (rw [q9]; rotate_left; omega; omega) | (rw [qa]; rotate_left; omega; omega)))
     (apply Tot.ite <;> intro hT <;> try simp (disch := omega) only [tfx.down,q9,qa] at hT)
     ·exact .ret fun _ => ⟨by simp only; omega,by simp only; omega,by simp only [fmW,List.length_nil]; omega⟩
     ·(apply Tot.ite <;> intro hT <;> try simp (disch := omega) only [tfx.down,q9,qa] at hT)
      ·exact .ret (by simp)
      ·refine Tot.bind (Tot.get (by omega) (by omega)) fun b3 hb3 => ?_
       (apply Tot.ite <;> intro hT <;> try simp (disch := omega) only [tfx.down,q9,qa] at hT)
       ·refine Tot.bind (z01 s hs w.2.1 (by omega) (by omega) _ _ _ 1 rfl (by omega)) fun y hy => ?_
        rcases y with y | y
        ·obtain ⟨g1,g2,g3,g4⟩ := hy y rfl
         refine .ret fun _ => ?_
         simp only [fmW,List.length_nil] at g3 ⊢
         omega
        ·exact .ret (by simp)
       ·(repeat (first | (rw [q9]; rotate_left; omega; omega) | (rw [qa]; rotate_left; omega; omega)))
        (apply Tot.ite <;> intro hT <;> try simp (disch := omega) only [tfx.down,q9,qa] at hT)
        ·refine Tot.bind (qbg s hs (w.2.1 + 2) (by omega) (by omega) 125) fun y hy => ?_
         (apply Tot.ite <;> intro hT <;> try simp (disch := omega) only [tfx.down,q9,qa] at hT)
         ·exact .ret (by simp)
         ·have hc := hT
          have hy := hy hc
          (repeat (first | (rw [q9]; rotate_left; omega; omega) | (rw [qa]; rotate_left; omega; omega)))
          refine .ret fun _ => ?_
          simp only [fmW,List.length_nil]
          omega
        ·(apply Tot.ite <;> intro hT <;> try simp (disch := omega) only [tfx.down,q9,qa] at hT)
         ·refine Tot.bind (qbg s hs (w.2.1 + 2) (by omega) (by omega) 58) fun y hy => ?_
          (apply Tot.ite <;> intro hT <;> try simp (disch := omega) only [tfx.down,q9,qa] at hT)
          ·have hc := hT
           have hy := hy hc
           (repeat (first | (rw [q9]; rotate_left; omega; omega) | (rw [qa]; rotate_left; omega; omega)))
           refine Tot.bind (qbg s hs (y.2.1 + 1) (by omega) (by omega) 125) fun z hz => ?_
           (apply Tot.ite <;> intro hT <;> try simp (disch := omega) only [tfx.down,q9,qa] at hT)
           ·exact .ret (by simp)
           ·have hc := hT
            have hz := hz hc
            (repeat (first | (rw [q9]; rotate_left; omega; omega) | (rw [qa]; rotate_left; omega; omega)))
            refine .ret fun _ => ?_
            simp only [fmW]
            omega
          ·exact .ret (by simp)
         ·(apply Tot.ite <;> intro hT <;> try simp (disch := omega) only [tfx.down,q9,qa] at hT)
          ·refine Tot.bind (qbg s hs (w.2.1 + 2) (by omega) (by omega) 125) fun y hy => ?_
           (apply Tot.ite <;> intro hT <;> try simp (disch := omega) only [tfx.down,q9,qa] at hT)
           ·exact .ret (by simp)
           ·have hc := hT
            have hy := hy hc
            (repeat (first | (rw [q9]; rotate_left; omega; omega) | (rw [qa]; rotate_left; omega; omega)))
            refine .ret fun _ => ?_
            simp only [fmW,List.length_nil]
            omega
          ·refine Tot.bind (qbg s hs (w.2.1 + 1) (by omega) (by omega) 125) fun y hy => ?_
           (apply Tot.ite <;> intro hT <;> try simp (disch := omega) only [tfx.down,q9,qa] at hT)
           ·exact .ret (by simp)
           ·have hc := hT
            have hy := hy hc
            (repeat (first | (rw [q9]; rotate_left; omega; omega) | (rw [qa]; rotate_left; omega; omega)))
            refine .ret fun _ => ?_
            simp only [fmW,List.length_nil]
            omega
theorem zfc {α : Type} (l : List α) (a : α) : (((l ++ [a]).length : Int) - 1).toNat = l.length := by simp
theorem zdy {α : Type} (l : List α) (a b : α) : (l ++ [a]).set l.length b = l ++ [b] := by simp
theorem qnl (c : UInt8) (fs : List T.Fmt) (hf : qd (fs.map fmW) ≤ 4 * BN) :
  Tot (q2s c fs) (fun r => qd (r.map fmW) ≤ qd (fs.map fmW) + 2) := by
 unfold BN at hf
 have hl := xn qea fs
 have key : ∀ z : T.Fmt,z.thn = [] → z.els = [] → Tot (qh (fs ++ [z]) (IntKind.i64.wrap (((fs ++ [z]).length : Int) - 1))) (fun x => x = z) := by
  intro z h1 h2
  have : IntKind.i64.wrap (((fs ++ [z]).length : Int) - 1) = (fs.length : Int) := by
   rw [q9 (by simp only [List.length_append,List.length_cons,List.length_nil]; omega) (by simp only [List.length_append,List.length_cons,List.length_nil]; omega)]; simp
  rw [this]
  refine (Tot.get (by omega) (by simp only [List.length_append,List.length_cons,List.length_nil]; omega)).mono fun x hx => ?_
  have := hx.1
  simp at this
  exact this.symm
 have snd : ∀ (z y : T.Fmt),z.thn = [] → z.els = [] → y.thn = [c] → y.els = [] → qd (((fs ++ [z]).set (IntKind.i64.wrap (((fs ++ [z]).length : Int) - 1)).toNat y).map fmW) ≤ qd (fs.map fmW) + 2 := by
  intro z y h1 h2 h3 h4
  rw [q9 (by simp only [List.length_append,List.length_cons,List.length_nil]; omega) (by simp only [List.length_append,List.length_cons,List.length_nil]; omega),zfc,zdy,wy]
  simp [fmW,h3,h4]
 unfold q2s
 (apply Tot.ite <;> intro hT <;> try simp (disch := omega) only [tfx.down,q9,qa] at hT)
 ·refine Tot.need (zt (by omega) (by omega)) ?_
  refine Tot.bind (key _ rfl rfl) fun x hx => ?_
  subst hx
  refine Tot.need (by simp) ?_
  exact .ret (snd _ _ rfl rfl (by simp) rfl)
 ·have e1 : IntKind.i64.wrap ((fs.length : Int) - 1) = (fs.length : Int) - 1 := q9 (by omega) (by omega)
  rw [e1]
  refine Tot.bind (Tot.get (by omega) (by omega)) fun x hx => ?_
  have hx2 := uu (f := fmW) hx.2
  (apply Tot.ite <;> intro hT <;> try simp (disch := omega) only [tfx.down,q9,qa] at hT)
  ·refine Tot.need (zt (by omega) (by omega)) ?_
   refine Tot.bind (key _ rfl rfl) fun x hx => ?_
   subst hx
   refine Tot.need (by simp) ?_
   exact .ret (snd _ _ rfl rfl (by simp) rfl)
  ·refine Tot.need (by simp only [fmW] at hx2; simp; omega) ?_
   refine .ret ?_
   have := qb4 fmW fs ((fs.length : Int) - 1).toNat (T.Fmt.mk x.kind x.n x.cas (x.thn ++ [c]) x.els) x hx.1
   simp only [fmW,List.length_append,List.length_cons,List.length_nil] at this ⊢
   have e2 : qd (List.map (fun f => 1 + f.thn.length + f.els.length) (fs.set ((fs.length : Int) - 1).toNat (T.Fmt.mk x.kind x.n x.cas (x.thn ++ [c]) x.els))) = qd (List.map fmW (fs.set ((fs.length : Int) - 1).toNat (T.Fmt.mk x.kind x.n x.cas (x.thn ++ [c]) x.els))) := rfl
   omega
theorem qr3 (s : Bytes) (hs : s.length ≤ BN) : ∀ (m : Nat) (at_ : Int) (fs : List T.Fmt),m = (s.length - at_).toNat → 0 ≤ at_ → at_ ≤ s.length → (qd (fs.map fmW) : Int) ≤ 2 * at_ →
  Tot (tq (s,at_,fs)) (fun r => at_ ≤ r.1 ∧ r.1 ≤ s.length ∧ (qd (r.2.map fmW) : Int) + 2 * at_ ≤ qd (fs.map fmW) + 2 * r.1) := by
 have hB : s.length ≤ 8192 := hs
 intro m
 induction m using Nat.strongRecOn with
 | _ m ih =>
 intro at_ fs hm h0 h1 hw
 have hl := xn qea fs
 rw [tq.eq_1]
 (apply Tot.ite <;> intro hT <;> try simp (disch := omega) only [tfx.down,q9,qa] at hT)
 ·refine Tot.bind (Tot.get (by omega) (by omega)) fun c hc => ?_
  have two : ∀ (v : Bool),(v = true → at_ + 1 < s.length) → Tot (if v = true then
     qh s (IntKind.i64.wrap (at_ + (1 : Int))) >>= fun b14 =>
     q2s b14 fs >>= fun v16 =>
     tq (s,(IntKind.i64.wrap ((IntKind.i64.wrap (at_ + (1 : Int))) + (1 : Int))),v16)
    else
     q2s c fs >>= fun v18 =>
     tq (s,(IntKind.i64.wrap (at_ + (1 : Int))),v18)) (fun r => at_ ≤ r.1 ∧ r.1 ≤ s.length ∧ (qd (r.2.map fmW) : Int) + 2 * at_ ≤ qd (fs.map fmW) + 2 * r.1) := by
   intro v hv
   (repeat (first | (rw [q9]; rotate_left; omega; omega) | (rw [qa]; rotate_left; omega; omega)))
   (apply Tot.ite <;> intro hT <;> try simp (disch := omega) only [tfx.down,q9,qa] at hT)
   ·have hv1 := hT
    have := hv hv1
    refine Tot.bind (Tot.get (by omega) (by omega)) fun c2 hc2 => ?_
    refine Tot.bind (qnl c2 fs (by unfold BN; omega)) fun w hw2 => ?_
    exact (ih _ (by omega) (at_ + 1 + 1) w rfl (by omega) (by omega) (by omega)).mono fun r hr => by omega
   ·refine Tot.bind (qnl c fs (by unfold BN; omega)) fun w hw2 => ?_
    exact (ih _ (by omega) (at_ + 1) w rfl (by omega) (by omega) (by omega)).mono fun r hr => by omega
  (apply Tot.ite <;> intro hT <;> try simp (disch := omega) only [tfx.down,q9,qa] at hT)
  ·(apply Tot.ite <;> intro hT <;> try simp (disch := omega) only [tfx.down,q9,qa] at hT)
   ·refine Tot.bind (z8j s hs at_ h0 (by omega)) fun y hy => ?_
    (apply Tot.ite <;> intro hT <;> try simp (disch := omega) only [tfx.down,q9,qa] at hT)
    ·have hy1 := hT
     have hy := hy hy1
     refine Tot.need (zt (by omega) (by omega)) ?_
     exact (ih _ (by omega) y.2.1 _ rfl (by omega) (by omega) (by rw [wy]; omega)).mono fun r hr => by rw [wy] at hr; omega
    ·refine Tot.bind (qfi s hs at_ h0 (by omega) false) fun v hv => ?_
     exact two v hv
   ·refine Tot.bind (qfi s hs at_ h0 (by omega) false) fun v hv => ?_
    exact two v hv
  ·exact .ret ⟨by simp only; omega,by simp only; omega,by simp only; omega⟩
 ·exact .ret ⟨by simp only; omega,by simp only; omega,by simp only; omega⟩
theorem zic (s : Bytes) (hs : s.length ≤ BN) (at_ : Int) :
  Tot (qcb s at_) (fun r => r.2.2 = true → 0 ≤ at_ ∧ at_ ≤ r.2.1 ∧ r.2.1 < s.length ∧ (qd (r.1.l.map fmW) : Int) ≤ 2 * (r.2.1 - at_)) := by
 unfold qcb
 (apply Tot.ite <;> intro hT <;> try simp (disch := omega) only [tfx.down,q9,qa] at hT)
 ·exact .ret (by simp)
 ·refine Tot.bind (qr3 s hs _ at_ [] rfl (by omega) (by omega) (by simp [qd]; omega)) fun v hv => ?_
  (apply Tot.ite <;> intro hT <;> try simp (disch := omega) only [tfx.down,q9,qa] at hT)
  ·exact .ret (by simp)
  ·refine .ret fun _ => ?_
   simp only [List.map_nil,qd] at hv ⊢
   omega
end Go.Proofs.YtdhgdeelagmbpaaGreat
set_option linter.unusedSimpArgs false
set_option linter.unusedVariables false
namespace Go.Proofs.YtdhgdeelagmbpaaGreat
open Go Go.Gm
def zl (r : T.Row) : Nat := 1 + r.frm.length + r.to.length
theorem q5b (r : T.Row) : 1 ≤ zl r := by unfold zl; omega
mutual
def rxW : T.Rx → Nat
 | ⟨_,c,_,rows,_,_,_,kids⟩ => 1 + c.length + qd (rows.l.map zl) + qlf kids
def qlf : Sl T.Rx → Nat
 | ⟨_,l⟩ => qa8 l
def qa8 : List T.Rx → Nat
 | [] => 0
 | x :: r => rxW x + qa8 r
end
theorem qjb : ∀ l : List T.Rx,qa8 l = qd (l.map rxW)
 | [] => by simp [qa8,qd]
 | x :: r => by simp [qa8,qd,qjb r]
theorem jm (x : T.Rx) : rxW x = 1 + x.char.length + qd (x.rows.l.map zl) + qd (x.kids.l.map rxW) := by
 cases x with | mk a b c d e f g h => cases h; simp [rxW,qlf,qjb]
theorem q7d (x : T.Rx) : 1 ≤ rxW x := by rw [jm]; omega
theorem qnd (b : UInt8) : Tot (q38 b) (fun _ => True) := by
 unfold q38
 repeat' (first | (apply Tot.ite <;> intro hT <;> try simp (disch := omega) only [tfx.down,q9,qa] at hT) | exact .ret trivial)
theorem z1x (s : Bytes) (hs : s.length ≤ BN) : ∀ (m : Nat) (f i : Int) (l : List Bytes),m = (s.length + 1 - i).toNat → 0 ≤ f → f < i → i ≤ s.length + 1 → (l.length : Int) ≤ f → (∀ c ∈ l,c.length ≤ s.length) →
  Tot (yc (s,f,i,l)) (fun r => r.length ≤ s.length + 1 ∧ ∀ c ∈ r,c.length ≤ s.length) := by
 have hB : s.length ≤ 8192 := hs
 intro m
 induction m using Nat.strongRecOn with
 | _ m ih =>
 intro f i l hm h0 h1 h2 h3 h4
 rw [yc.eq_1]
 have more : i ≤ s.length → ∀ r : Bytes,(r.length : Int) = i - f → ∀ c ∈ l ++ [r],c.length ≤ s.length := by
  intro hi r hr c hc
  rcases List.mem_append.1 hc with hc | hc
  ·exact h4 c hc
  ·have : c = r := by simpa using hc
   subst this; omega
 (apply Tot.ite <;> intro hT <;> try simp (disch := omega) only [tfx.down,q9,qa] at hT)
 ·(apply Tot.ite <;> intro hT <;> try simp (disch := omega) only [tfx.down,q9,qa] at hT)
  ·refine Tot.bind (Tot.sub2 h0 (by omega) (by omega)) fun r hr => ?_
   refine Tot.need (zt (by omega) (by omega)) ?_
   (repeat (first | (rw [q9]; rotate_left; omega; omega) | (rw [qa]; rotate_left; omega; omega)))
   exact ih _ (by omega) i (i + 1) _ rfl (by omega) (by omega) (by omega) (by simp; omega) (more (by omega) r hr.2)
  ·refine Tot.bind (Tot.get (by omega) (by omega)) fun b hb => ?_
   refine Tot.bind (qnd b) fun v hv => ?_
   (apply Tot.ite <;> intro hT <;> try simp (disch := omega) only [tfx.down,q9,qa] at hT)
   ·refine Tot.bind (Tot.sub2 h0 (by omega) (by omega)) fun r hr => ?_
    refine Tot.need (zt (by omega) (by omega)) ?_
    (repeat (first | (rw [q9]; rotate_left; omega; omega) | (rw [qa]; rotate_left; omega; omega)))
    exact ih _ (by omega) i (i + 1) _ rfl (by omega) (by omega) (by omega) (by simp; omega) (more (by omega) r hr.2)
   ·(repeat (first | (rw [q9]; rotate_left; omega; omega) | (rw [qa]; rotate_left; omega; omega)))
    exact ih _ (by omega) f (i + 1) _ rfl (by omega) (by omega) (by omega) (by omega) h4
 ·exact .ret ⟨by show l.length ≤ _; omega,h4⟩
theorem qkj (s : Bytes) (hs : s.length ≤ BN) : Tot (q31 s) (fun r => r.l.length ≤ s.length + 1 ∧ ∀ c ∈ r.l,c.length ≤ s.length) := by
 unfold q31
 by_cases h : s.length = 0
 ·have : s = [] := by simpa using h
  subst this
  refine Tot.bind (P := fun r => r = []) ⟨[],by rw [yc.eq_1]; simp,rfl⟩ fun v hv => ?_
  subst hv
  exact .ret ⟨by simp,by simp⟩
 ·refine Tot.bind (z1x s hs _ 0 1 [] rfl (by omega) (by omega) (by omega) (by simp) (by simp)) fun v hv => ?_
  exact .ret hv
theorem qgl (c : Bytes) (hc : c.length ≤ BN) : Tot (mg c) (fun _ => True) := by
 unfold mg
 (apply Tot.ite <;> intro hT <;> try simp (disch := omega) only [tfx.down,q9,qa] at hT)
 ·refine Tot.bind (Tot.get (by omega) (by omega)) fun b hb => ?_
  refine Tot.bind (qnd b) fun v hv => ?_
  (apply Tot.ite <;> intro hT <;> try simp (disch := omega) only [tfx.down,q9,qa] at hT)
  ·refine Tot.bind (qkj c hc) fun r hr => ?_
   exact .ret trivial
  ·exact .ret trivial
 ·exact .ret trivial
theorem zm7 : ∀ (m : Nat) (i : Int) (b : List UInt8),m = (b.length - i).toNat → 0 ≤ i → b.length ≤ BN → Tot (q17 (i,b)) (fun r => r.length = b.length) := by
 intro m
 induction m using Nat.strongRecOn with
 | _ m ih =>
 intro i b hm h0 hb
 have hB : b.length ≤ 8192 := hb
 rw [q17.eq_1]
 (apply Tot.ite <;> intro hT <;> try simp (disch := omega) only [tfx.down,q9,qa] at hT)
 ·refine Tot.bind (Tot.get (by omega) (by omega)) fun c hc => ?_
  (repeat (first | (rw [q9]; rotate_left; omega; omega) | (rw [qa]; rotate_left; omega; omega)))
  have h := ih _ (by omega) (i + 1) b rfl (by omega) hb
  (apply Tot.ite <;> intro hT <;> try simp (disch := omega) only [tfx.down,q9,qa] at hT)
  ·(apply Tot.ite <;> intro hT <;> try simp (disch := omega) only [tfx.down,q9,qa] at hT)
   ·(repeat (first | (rw [q9]; rotate_left; omega; omega) | (rw [qa]; rotate_left; omega; omega)))
    exact (ih _ (by simp; omega) (i + 1) _ rfl (by omega) (by simpa using hb)).mono fun r hr => by simpa using hr
   ·(repeat (first | (rw [q9]; rotate_left; omega; omega) | (rw [qa]; rotate_left; omega; omega))); exact h
  ·(repeat (first | (rw [q9]; rotate_left; omega; omega) | (rw [qa]; rotate_left; omega; omega))); exact h
 ·exact .ret rfl
theorem zqw (s : Bytes) (hs : s.length ≤ BN) : Tot (q1x s) (fun r => r.length = s.length) := by
 unfold q1x
 refine Tot.bind (zm7 _ 0 s rfl (by omega) hs) fun v hv => ?_
 exact .ret hv
theorem qmi (c : UInt8) : Tot (q9i c) (fun r => qd (r.1.l.map zl) ≤ 12) := by
 unfold q9i
 repeat' (first | (apply Tot.ite <;> intro hT <;> try simp (disch := omega) only [tfx.down,q9,qa] at hT) | exact .ret (by decide))
theorem qlq (c : Bytes) : Tot (q27 c) (fun r => r.1.length ≤ c.length + 1 ∧ (r.2 = true → 0 < c.length)) := by
 unfold q27
 (apply Tot.ite <;> intro hT <;> try simp (disch := omega) only [tfx.down,q9,qa] at hT)
 ·exact .ret (by simp)
 have h0 := hT
 have h1 : 0 < c.length := List.length_pos_iff.2 h0
 repeat' (first | (apply Tot.ite <;> intro hT <;> try simp (disch := omega) only [tfx.down,q9,qa] at hT) | exact .ret ⟨by simp,fun _ => h1⟩)
 ·refine Tot.bind (Tot.get (by omega) (by omega)) fun b hb => ?_
  refine Tot.bind (q9p b) fun v hv => ?_
  (apply Tot.ite <;> intro hT <;> try simp (disch := omega) only [tfx.down,q9,qa] at hT)
  ·exact .ret (by simp)
  ·refine Tot.bind (q60 b) fun w hw => ?_
   (apply Tot.ite <;> intro hT <;> try simp (disch := omega) only [tfx.down,q9,qa] at hT)
   ·exact .ret (by simp)
   ·exact .ret ⟨by simp,fun _ => h1⟩
structure q3t (cs : Sl Bytes) : Prop where
 many : cs.l.length ≤ 257
 each : ∀ c ∈ cs.l,c.length ≤ 256
theorem q3k {cs : Sl Bytes} (hc : q3t cs) (b : T.qm) (h : b.cs = cs) (h0 : 0 ≤ b.at_) :
  Tot (q05 b) (fun r => r.length ≤ 256 ∧ (r ≠ [] → b.at_ < cs.l.length)) := by
 unfold q05
 rw [h]
 (apply Tot.ite <;> intro hT <;> try simp (disch := omega) only [tfx.down,q9,qa] at hT)
 ·exact .ret (by simp)
 ·refine Tot.bind (Tot.get h0 (by omega)) fun x hx => ?_
  exact .ret ⟨hc.each x hx.2,fun _ => by omega⟩
theorem qgc {cs : Sl Bytes} (hc : q3t cs) (c : Bytes) (b : T.qm) (h : b.cs = cs) (h0 : 0 ≤ b.at_) :
  Tot (zu c b) (fun r => r.2.cs = cs ∧ (r.1 = true → r.2.at_ = b.at_ + 1 ∧ b.at_ < cs.l.length) ∧ (r.1 = false → r.2 = b)) := by
 have hm := hc.many
 unfold zu
 rw [h]
 (apply Tot.ite <;> intro hT <;> try simp (disch := omega) only [tfx.down,q9,qa] at hT)
 ·exact .ret ⟨h,by simp,by simp⟩
 ·refine Tot.bind (Tot.get h0 (by omega)) fun x hx => ?_
  (apply Tot.ite <;> intro hT <;> try simp (disch := omega) only [tfx.down,q9,qa] at hT)
  ·exact .ret ⟨h,by simp,by simp⟩
  ·refine .ret ⟨rfl,fun _ => ⟨?_,by omega⟩,by simp⟩
   simp only
   (repeat (first | (rw [q9]; rotate_left; omega; omega) | (rw [qa]; rotate_left; omega; omega)))
end Go.Proofs.YtdhgdeelagmbpaaGreat
set_option linter.unusedSimpArgs false
set_option linter.unusedVariables false
namespace Go.Proofs.YtdhgdeelagmbpaaGreat
open Go Go.Gm
def uq (rows : List T.Row) : Prop := ∀ r ∈ rows,r.frm.length ≤ 300 ∧ r.to.length ≤ 300
theorem uq.app {a b : List T.Row} (h1 : uq a) (h2 : uq b) : uq (a ++ b) := by
 intro r hr
 rcases List.mem_append.1 hr with hr | hr
 ·exact h1 r hr
 ·exact h2 r hr
theorem uq.one {f t : Bytes} (h1 : f.length ≤ 300) (h2 : t.length ≤ 300) : uq [T.Row.mk f t] := by
 intro r hr
 have : r = T.Row.mk f t := by simpa using hr
 subst this
 exact ⟨h1,h2⟩
theorem uq.qwm {rows : List T.Row} (h : qd (rows.map zl) ≤ 300) : uq rows := by
 intro r hr
 have := uu (f := zl) hr
 simp only [zl] at this
 have e : qd (List.map zl rows) = qd (rows.map fun r => 1 + r.frm.length + r.to.length) := rfl
 omega
section
variable {cs : Sl Bytes} (hc : q3t cs)
include hc
theorem qox (b : T.qm) (h : b.cs = cs) (h0 : 0 ≤ b.at_) (h1 : b.at_ ≤ cs.l.length) :
  Tot (q8f b) (fun r => r.2.2.2.cs = cs ∧ 0 ≤ r.2.2.2.at_ ∧ (r.2.2.1 = true → b.at_ < r.2.2.2.at_ ∧ r.2.2.2.at_ ≤ cs.l.length ∧ qd (r.1.l.map zl) ≤ 12 ∧ r.2.1.length ≤ 257)) := by
 have hm := hc.many
 unfold q8f
 refine Tot.bind (q3k hc b h h0) fun v hv => ?_
 (apply Tot.ite <;> intro hT <;> try simp (disch := omega) only [tfx.down,q9,qa] at hT)
 ·exact .ret ⟨h,h0,by simp⟩
 ·have h2 := hT
  have h3 := hv.2 h2.1
  (repeat (first | (rw [q9]; rotate_left; omega; omega) | (rw [qa]; rotate_left; omega; omega)))
  (apply Tot.ite <;> intro hT <;> try simp (disch := omega) only [tfx.down,q9,qa] at hT)
  ·exact .ret ⟨h,by simp only; omega,fun _ => ⟨by simp only; omega,by simp only; omega,by simp [qd],by simp only; omega⟩⟩
  ·refine Tot.bind (q3k hc (T.qm.mk b.cs (b.at_ + 1)) h (by simp only; omega)) fun w hw => ?_
   simp only at hw
   (repeat (first | (rw [q9]; rotate_left; omega; omega) | (rw [qa]; rotate_left; omega; omega)))
   have esc : Tot (q27 w >>= fun v15 =>
     some ((⟨true,([] : List T.Row)⟩ : Sl T.Row),v15.1,v15.2,(T.qm.mk b.cs (b.at_ + 1 + 1))))
     (fun r => r.2.2.2.cs = cs ∧ 0 ≤ r.2.2.2.at_ ∧ (r.2.2.1 = true → b.at_ < r.2.2.2.at_ ∧ r.2.2.2.at_ ≤ cs.l.length ∧ qd (r.1.l.map zl) ≤ 12 ∧ r.2.1.length ≤ 257)) := by
    refine Tot.bind (qlq w) fun y hy => ?_
    refine .ret ⟨h,by simp only; omega,fun hy2 => ?_⟩
    simp only at hy2 ⊢
    have hy3 := hy.2 hy2
    have hw2 := hw.2 (List.ne_nil_of_length_pos hy3)
    exact ⟨by omega,by omega,by simp [qd],by omega⟩
   (apply Tot.ite <;> intro hT <;> try simp (disch := omega) only [tfx.down,q9,qa] at hT)
   ·refine Tot.bind (Tot.get (by omega) (by omega)) fun c hc2 => ?_
    refine Tot.bind (qmi c) fun y hy => ?_
    (apply Tot.ite <;> intro hT <;> try simp (disch := omega) only [tfx.down,q9,qa] at hT)
    ·have hw2 := hw.2 (List.ne_nil_of_length_pos (by omega))
     exact .ret ⟨h,by simp only; omega,fun _ => ⟨by simp only; omega,by simp only; omega,hy,by simp⟩⟩
    ·exact esc
   ·exact esc
theorem zpp (t : T.Rx) (x : T.Rx) (a0 : Int) : ∀ (m : Nat) (b : T.qm) (rows : List T.Row),m = (cs.l.length - b.at_).toNat → b.cs = cs → 0 ≤ a0 → a0 ≤ b.at_ → b.at_ ≤ cs.l.length → (qd (rows.map zl) : Int) ≤ 600 * (b.at_ - a0) → uq rows →
  Tot (q02 (b,t,x,rows)) (fun r => (∀ y,r = .inl y → y.1 ≠ 0 ∧ y.2.1.cs = cs) ∧
   ∀ y,r = .inr y → y.1.cs = cs ∧ b.at_ < y.1.at_ ∧ y.1.at_ ≤ cs.l.length ∧ (qd (y.2.map zl) : Int) ≤ 600 * (y.1.at_ - a0) ∧ uq y.2) := by
 have hm := hc.many
 intro m
 induction m using Nat.strongRecOn with
 | _ m ih =>
 intro b rows hmm h ha0 h0 h1 hw hro
 have hl := xn q5b rows
 rw [q02.eq_1]
 refine Tot.bind (qgc hc _ b h (by omega)) fun v hv => ?_
 have next : ∀ (b2 : T.qm) (rows2 : List T.Row),b2.cs = cs → b.at_ < b2.at_ → b2.at_ ≤ cs.l.length → (qd (rows2.map zl) : Int) ≤ 600 * (b2.at_ - a0) → uq rows2 →
   Tot (q02 (b2,t,x,rows2)) (fun r => (∀ y,r = .inl y → y.1 ≠ 0 ∧ y.2.1.cs = cs) ∧
    ∀ y,r = .inr y → y.1.cs = cs ∧ b.at_ < y.1.at_ ∧ y.1.at_ ≤ cs.l.length ∧ (qd (y.2.map zl) : Int) ≤ 600 * (y.1.at_ - a0) ∧ uq y.2) := by
  intro b2 rows2 g1 g2 g3 g4 g5
  refine (ih _ (by omega) b2 rows2 rfl g1 ha0 (by omega) g3 g4 g5).mono fun r hr => ⟨hr.1,fun y hy => ?_⟩
  have := hr.2 y hy
  exact ⟨this.1,by omega,this.2.2.1,this.2.2.2⟩
 (apply Tot.ite <;> intro hT <;> try simp (disch := omega) only [tfx.down,q9,qa] at hT)
 ·have hv1 := hT
  have e := hv.2.2 hv1
  rw [e]
  refine Tot.bind (qox hc b h (by omega) h1) fun w hw1 => ?_
  (apply Tot.ite <;> intro hT <;> try simp (disch := omega) only [tfx.down,q9,qa] at hT)
  ·refine .ret ⟨fun y hy => ?_,fun y hy => by cases hy⟩
   cases hy
   exact ⟨by simp,hw1.1⟩
  ·have hok := hT
   obtain ⟨g1,g2,g3⟩ := hw1
   obtain ⟨g3,g4,g5,g6⟩ := g3 hok
   have hl2 := xn q5b w.1.l
   (apply Tot.ite <;> intro hT <;> try simp (disch := omega) only [tfx.down,q9,qa] at hT)
   ·(apply Tot.ite <;> intro hT <;> try simp (disch := omega) only [tfx.down,q9,qa] at hT)
    ·exact next _ _ g1 g3 g4 (by omega) hro
    ·refine Tot.need (zt (by omega) (by omega)) ?_
     exact next _ _ g1 g3 g4 (by rw [List.map_append,q5i]; omega) (hro.app (uq.qwm (by omega)))
   ·refine Tot.bind (q3k hc w.2.2.2 g1 g2) fun y hy => ?_
    have one : Tot (if ql (rows.length + 1) 32 = true then q02 (w.2.2.2,t,x,(rows ++ [(T.Row.mk w.2.1 w.2.1)])) else none)
      (fun r => (∀ y,r = .inl y → y.1 ≠ 0 ∧ y.2.1.cs = cs) ∧
       ∀ y,r = .inr y → y.1.cs = cs ∧ b.at_ < y.1.at_ ∧ y.1.at_ ≤ cs.l.length ∧ (qd (y.2.map zl) : Int) ≤ 600 * (y.1.at_ - a0) ∧ uq y.2) := by
     refine Tot.need (zt (by omega) (by omega)) ?_
     exact next _ _ g1 g3 g4 (by rw [wy]; simp only [zl]; omega) (hro.app (uq.one (by omega) (by omega)))
    rw [g1]
    (apply Tot.ite <;> intro hT <;> try simp (disch := omega) only [tfx.down,q9,qa] at hT)
    ·(repeat (first | (rw [q9]; rotate_left; omega; omega) | (rw [qa]; rotate_left; omega; omega)))
     refine Tot.bind (Tot.get (by omega) (by omega)) fun c hc2 => ?_
     (apply Tot.ite <;> intro hT <;> try simp (disch := omega) only [tfx.down,q9,qa] at hT)
     ·refine Tot.bind (qox hc (T.qm.mk cs (w.2.2.2.at_ + 1)) rfl (by simp only; omega) (by simp only; omega)) fun z hz => ?_
      simp only at hz
      (apply Tot.ite <;> intro hT <;> try simp (disch := omega) only [tfx.down,q9,qa] at hT)
      ·refine .ret ⟨fun y hy => ?_,fun y hy => by cases hy⟩
       cases hy
       exact ⟨by simp,hz.1⟩
      ·have hok2 := hT
       obtain ⟨k1,k2,k3⟩ := hz
       obtain ⟨k3,k4,k5,k6⟩ := k3 hok2.1
       refine Tot.need (zt (by omega) (by omega)) ?_
       exact next _ _ k1 (by omega) k4 (by rw [wy]; simp only [zl]; omega) (hro.app (uq.one (by omega) (by omega)))
     ·exact one
    ·exact one
 ·have hv1 := hT
  obtain ⟨g1,g2⟩ := hv.2.1 hv1
  refine .ret ⟨fun y hy => (by cases hy),fun y hy => ?_⟩
  cases hy
  exact ⟨hv.1,by simp only; omega,by simp only; omega,by simp only; omega,hro⟩
end
theorem qvq (rows s : Sl T.Row) (i : Int) (x : T.Row) (hs : s.l.length ≤ 1000000) : ∀ (m : Nat) (k : Int),m = k.toNat → 0 ≤ k → k ≤ s.l.length → Tot (q4p (rows,s,i,k,x)) (fun r => 0 ≤ r ∧ r ≤ s.l.length) := by
 intro m
 induction m using Nat.strongRecOn with
 | _ m ih =>
 intro k hm h0 h1
 rw [q4p.eq_1]
 (apply Tot.ite <;> intro hT <;> try simp (disch := omega) only [tfx.down,q9,qa] at hT)
 ·(repeat (first | (rw [q9]; rotate_left; omega; omega) | (rw [qa]; rotate_left; omega; omega)))
  refine Tot.bind (Tot.get (by omega) (by omega)) fun y hy => ?_
  have h := ih _ (by omega) (k - 1) rfl (by omega) (by omega)
  (repeat (first | (rw [q9]; rotate_left; omega; omega) | (rw [qa]; rotate_left; omega; omega)))
  (apply Tot.ite <;> intro hT <;> try simp (disch := omega) only [tfx.down,q9,qa] at hT)
  ·exact h
  ·(apply Tot.ite <;> intro hT <;> try simp (disch := omega) only [tfx.down,q9,qa] at hT)
   ·(apply Tot.ite <;> intro hT <;> try simp (disch := omega) only [tfx.down,q9,qa] at hT)
    ·exact h
    ·exact .ret ⟨h0,h1⟩
   ·exact .ret ⟨h0,h1⟩
 ·exact .ret ⟨h0,h1⟩
theorem quj (rows : Sl T.Row) (hw : qd (rows.l.map zl) ≤ 1000000) (he : ∀ r ∈ rows.l,r.frm.length ≤ BN ∧ r.to.length ≤ BN) : ∀ (r : List T.Row) (k : Nat) (s : Sl T.Row),rows.l.drop k = r → qd (s.l.map zl) + qd (r.map zl) ≤ qd (rows.l.map zl) →
  Tot (q1w (rows,s,(k : Int))) (fun t => qd (t.l.map zl) ≤ qd (rows.l.map zl)) := by
 have hl := xn q5b rows.l
 intro r
 induction r with
 | nil =>
  intro k s hk hs
  rw [q1w.eq_1]
  have := nz hk
  (apply Tot.ite <;> intro hT <;> try simp (disch := omega) only [tfx.down,q9,qa] at hT)
  ·omega
  ·exact .ret (by simp [qd] at hs; exact hs)
 | cons x r ih =>
  intro k s hk hs
  obtain ⟨h1,h2,h3⟩ := drop_cons hk
  have hx := he x (List.mem_of_getElem? h1)
  have hl2 := xn q5b s.l
  simp only [List.map_cons,qd] at hs
  rw [q1w.eq_1]
  have e1 : IntKind.i64.wrap ((k : Int) + 1) = ((k + 1 : Nat) : Int) := q2y (by omega)
  rw [e1]
  (apply Tot.ite <;> intro hT <;> try simp (disch := omega) only [tfx.down,q9,qa] at hT)
  ·refine Tot.bind (P := fun y => y = x) ⟨x,by rw [xw h3]; simpa [List.getElem?_eq_getElem h3] using h1,rfl⟩ fun y hy => ?_
   subst hy
   refine Tot.bind (qgl _ hx.1) fun v hv => ?_
   (apply Tot.ite <;> intro hT <;> try simp (disch := omega) only [tfx.down,q9,qa] at hT)
   ·exact ih (k + 1) s h2 (by omega)
   ·refine Tot.bind (qgl _ hx.2) fun w hw2 => ?_
    (apply Tot.ite <;> intro hT <;> try simp (disch := omega) only [tfx.down,q9,qa] at hT)
    ·exact ih (k + 1) s h2 (by omega)
    ·refine Tot.bind (qvq rows s k y (by omega) _ _ rfl (by omega) (by omega)) fun z hz => ?_
     refine Tot.bind (Tot.gm hz.1 hz.2) fun a ha => ?_
     refine Tot.need (zt (by omega) (by omega)) ?_
     refine Tot.need (zt (by omega) (by omega)) ?_
     refine Tot.bind (Tot.ku hz.1 hz.2) fun b hb => ?_
     refine Tot.need (zt (by simp; omega) (by omega)) ?_
     refine ih (k + 1) _ h2 ?_
     have e2 : qd (s.l.map zl) = qd (a.map zl) + qd (b.map zl) := by
      rw [← q5i,← List.map_append,ha.1,hb.1,List.take_append_drop]
     simp only [List.map_append,q5i,List.map_cons,List.map_nil,qd]
     omega
  ·omega
end Go.Proofs.YtdhgdeelagmbpaaGreat
set_option linter.unusedSimpArgs false
set_option linter.unusedVariables false
namespace Go.Proofs.YtdhgdeelagmbpaaGreat
open Go Go.Gm
theorem zo4 (s : Sl T.Row) (hw : qd (s.l.map zl) ≤ 1000000) : ∀ (r : List T.Row) (k : Nat) (out : List T.Row),s.l.drop k = r → qd (out.map zl) + qd (r.map zl) ≤ qd (s.l.map zl) →
  Tot (q2l (s,(k : Int),out)) (fun t => qd (t.map zl) ≤ qd (s.l.map zl)) := by
 have hl := xn q5b s.l
 intro r
 induction r with
 | nil =>
  intro k out hk hs
  rw [q2l.eq_1]
  have := nz hk
  (apply Tot.ite <;> intro hT <;> try simp (disch := omega) only [tfx.down,q9,qa] at hT)
  ·omega
  ·exact .ret (by simp [qd] at hs; exact hs)
 | cons x r ih =>
  intro k out hk hs
  obtain ⟨h1,h2,h3⟩ := drop_cons hk
  have hl2 := xn q5b out
  simp only [List.map_cons,qd] at hs
  rw [q2l.eq_1]
  have e1 : IntKind.i64.wrap ((k : Int) + 1) = ((k + 1 : Nat) : Int) := q2y (by omega)
  rw [e1]
  have hg : Tot (qh s.l (k : Int)) (fun y => y = x) := ⟨x,by rw [xw h3]; simpa [List.getElem?_eq_getElem h3] using h1,rfl⟩
  (apply Tot.ite <;> intro hT <;> try simp (disch := omega) only [tfx.down,q9,qa] at hT)
  ·(apply Tot.ite <;> intro hT <;> try simp (disch := omega) only [tfx.down,q9,qa] at hT)
   ·refine Tot.bind hg fun y hy => ?_
    subst hy
    have e2 : IntKind.i64.wrap ((out.length : Int) - 1) = (out.length : Int) - 1 := q9 (by omega) (by omega)
    rw [e2]
    refine Tot.bind (Tot.get (by omega) (by omega)) fun z hz => ?_
    (apply Tot.ite <;> intro hT <;> try simp (disch := omega) only [tfx.down,q9,qa] at hT)
    ·refine ih (k + 1) _ h2 ?_
     have := qb4 zl out ((out.length : Int) - 1).toNat (T.Row.mk z.frm (if j6 z.to y.to = true then y.to else z.to)) z hz.1
     have e3 : zl (T.Row.mk z.frm (if j6 z.to y.to = true then y.to else z.to)) ≤ zl z + zl y := by
      simp only [zl]
      split <;> omega
     omega
    ·refine Tot.need (zt (by omega) (by omega)) ?_
     exact ih (k + 1) _ h2 (by rw [wy]; omega)
   ·refine Tot.bind hg fun y hy => ?_
    subst hy
    refine Tot.need (zt (by omega) (by omega)) ?_
    exact ih (k + 1) _ h2 (by rw [wy]; omega)
  ·omega
theorem z3m (rows : Sl T.Row) (hw : qd (rows.l.map zl) ≤ 1000000) (he : ∀ r ∈ rows.l,r.frm.length ≤ BN ∧ r.to.length ≤ BN) : Tot (qbj rows) (fun t => qd (t.l.map zl) ≤ qd (rows.l.map zl)) := by
 unfold qbj
 have h := quj rows hw he rows.l 0 (⟨true,[]⟩ : Sl T.Row) rfl (by simp [qd])
 rw [show ((0 : Nat) : Int) = 0 from rfl] at h
 refine Tot.bind h fun v hv => ?_
 have h2 := zo4 v (by omega) v.l 0 [] rfl (by simp [qd])
 rw [show ((0 : Nat) : Int) = 0 from rfl] at h2
 refine Tot.bind h2 fun w hw2 => ?_
 exact .ret (by simp only; omega)
section
variable {cs : Sl Bytes} (hc : q3t cs)
include hc
theorem z04 (b : T.qm) (h : b.cs = cs) (h0 : 0 ≤ b.at_) (h1 : b.at_ ≤ cs.l.length) :
  Tot (qcg b) (fun r => r.2.2.cs = cs ∧ (r.2.1 = 0 → b.at_ < r.2.2.at_ ∧ r.2.2.at_ ≤ cs.l.length ∧ (rxW r.1 : Int) ≤ 600 * (r.2.2.at_ - b.at_) + 1)) := by
 have hm := hc.many
 unfold qcg
 refine Tot.bind (qgc hc _ b h h0) fun v hv => ?_
 have hb : b.at_ ≤ v.2.at_ ∧ v.2.at_ ≤ cs.l.length := by
  cases hv1 : v.1
  ·rw [hv.2.2 hv1]; omega
  ·have := hv.2.1 hv1; omega
 refine Tot.bind (zpp hc _ _ b.at_ _ v.2 [] rfl hv.1 h0 hb.1 hb.2 (by simp [qd]; omega) (by intro r hr; cases hr)) fun w hw => ?_
 rcases w with y | y
 ·have := hw.1 y rfl
  exact .ret ⟨this.2,fun h => absurd h this.1⟩
 ·obtain ⟨g1,g2,g3,g4,g5⟩ := hw.2 y rfl
  refine Tot.bind (z3m (⟨y.2.isEmpty,y.2⟩ : Sl T.Row) (by simp only; omega) (fun r hr => by have := g5 r hr; unfold BN; omega)) fun z hz => ?_
  refine .ret ⟨g1,fun _ => ⟨by simp only; omega,g3, ?_⟩⟩
  simp only [jm,List.length_nil,List.map_nil,qd] at hz ⊢
  omega
theorem zai (b : T.qm) (h : b.cs = cs) (h0 : 0 ≤ b.at_) (h1 : b.at_ ≤ cs.l.length) :
  Tot (qbp b) (fun r => r.2.2.cs = cs ∧ (r.2.1 = 0 → b.at_ < r.2.2.at_ ∧ r.2.2.at_ ≤ cs.l.length ∧ rxW r.1 ≤ 300)) := by
 have hm := hc.many
 unfold qbp
 refine Tot.bind (q3k hc b h h0) fun v hv => ?_
 refine Tot.bind (zqw v (by unfold BN; omega)) fun w hw => ?_
 (repeat (first | (rw [q9]; rotate_left; omega; omega) | (rw [qa]; rotate_left; omega; omega)))
 have esc : Tot (q27 v >>= fun v12 =>
   if (!v12.2) then
    some ((T.Rx.mk (0 : Int) ([] : Bytes) false (⟨true,([] : List T.Row)⟩ : (Sl T.Row)) (0 : Int) (0 : Int) false (⟨true,([] : List T.Rx)⟩ : (Sl T.Rx))),(10 : Int),b)
   else
    some ((T.Rx.mk (2 : Int) v12.1 false (⟨true,([] : List T.Row)⟩ : (Sl T.Row)) (0 : Int) (0 : Int) false (⟨true,([] : List T.Rx)⟩ : (Sl T.Rx))),(0 : Int),(T.qm.mk b.cs (b.at_ + 1))))
   (fun r => r.2.2.cs = cs ∧ (r.2.1 = 0 → b.at_ < r.2.2.at_ ∧ r.2.2.at_ ≤ cs.l.length ∧ rxW r.1 ≤ 300)) := by
  refine Tot.bind (qlq v) fun y hy => ?_
  (apply Tot.ite <;> intro hT <;> try simp (disch := omega) only [tfx.down,q9,qa] at hT)
  ·exact .ret ⟨h,by simp⟩
  ·have hy1 := hT
   have hy2 := hy.2 hy1
   have hv2 := hv.2 (List.ne_nil_of_length_pos hy2)
   refine .ret ⟨h,fun _ => ⟨by simp only; omega,by simp only; omega, ?_⟩⟩
   simp only [jm,List.map_nil,qd]
   omega
 (apply Tot.ite <;> intro hT <;> try simp (disch := omega) only [tfx.down,q9,qa] at hT)
 ·refine Tot.bind (Tot.get (by omega) (by omega)) fun c hc2 => ?_
  refine Tot.bind (qmi c) fun y hy => ?_
  (apply Tot.ite <;> intro hT <;> try simp (disch := omega) only [tfx.down,q9,qa] at hT)
  ·have hv2 := hv.2 (List.ne_nil_of_length_pos (by omega))
   refine .ret ⟨h,fun _ => ⟨by simp only; omega,by simp only; omega, ?_⟩⟩
   simp only [jm,List.length_nil,List.map_nil,qd]
   omega
  ·exact esc
 ·exact esc
theorem zpq : ∀ (m : Nat) (n k : Int) (b : T.qm),m = (3 - k).toNat → 0 ≤ k → b.cs = cs → 0 ≤ b.at_ → b.at_ ≤ cs.l.length → 0 ≤ n → (k = 0 ∧ n < 1 ∨ k = 1 ∧ n < 10 ∨ k = 2 ∧ n < 100 ∨ k = 3 ∧ n < 1000) →
  Tot (q7h (n,k,b)) (fun r => 0 ≤ r.1 ∧ r.1 < 1000 ∧ k ≤ r.2.1 ∧ r.2.2.cs = cs ∧ b.at_ ≤ r.2.2.at_ ∧ r.2.2.at_ ≤ cs.l.length) := by
 have hm := hc.many
 intro m
 induction m using Nat.strongRecOn with
 | _ m ih =>
 intro n k b hmm hk h h0 h1 hn hkn
 rw [q7h.eq_1]
 (apply Tot.ite <;> intro hT <;> try simp (disch := omega) only [tfx.down,q9,qa] at hT)
 ·refine Tot.bind (q3k hc b h h0) fun v hv => ?_
  (apply Tot.ite <;> intro hT <;> try simp (disch := omega) only [tfx.down,q9,qa] at hT)
  ·have hv2 := hv.2 (List.ne_nil_of_length_pos (by omega))
   refine Tot.bind (Tot.get (by omega) (by omega)) fun c hc2 => ?_
   refine Tot.bind (q60 c) fun w hw => ?_
   (apply Tot.ite <;> intro hT <;> try simp (disch := omega) only [tfx.down,q9,qa] at hT)
   ·have hw1 := hT
    have hw2 := hw hw1
    (try simp (disch := omega) only [q9,qa])
    exact (ih _ (by omega) _ (k + 1) (T.qm.mk b.cs (b.at_ + 1)) rfl (by omega) h (by simp only; omega) (by simp only; omega) (by omega) (by omega)).mono fun r hr => by
     simp only at hr
     exact ⟨hr.1,hr.2.1,by omega,hr.2.2.2.1,by omega,hr.2.2.2.2.2⟩
   ·exact .ret ⟨hn,by simp only; omega,by simp,h,by simp,h1⟩
  ·exact .ret ⟨hn,by simp only; omega,by simp,h,by simp,h1⟩
 ·exact .ret ⟨hn,by simp only; omega,by simp,h,by simp,h1⟩
theorem qpe (b : T.qm) (h : b.cs = cs) (h0 : 0 ≤ b.at_) (h1 : b.at_ ≤ cs.l.length) :
  Tot (q95 b) (fun r => 0 ≤ r.1 ∧ r.1 < 1000 ∧ r.2.2.cs = cs ∧ b.at_ ≤ r.2.2.at_ ∧ r.2.2.at_ ≤ cs.l.length) := by
 unfold q95
 refine Tot.bind (zpq hc _ 0 0 b rfl (by omega) h h0 h1 (by omega) (by omega)) fun v hv => ?_
 (apply Tot.ite <;> intro hT <;> try simp (disch := omega) only [tfx.down,q9,qa] at hT)
 ·exact .ret ⟨hv.1,hv.2.1,hv.2.2.2⟩
 ·exact .ret ⟨hv.1,hv.2.1,hv.2.2.2⟩
end
end Go.Proofs.YtdhgdeelagmbpaaGreat
set_option linter.unusedSimpArgs false
set_option linter.unusedVariables false
namespace Go.Proofs.YtdhgdeelagmbpaaGreat
open Go Go.Gm
theorem qyv (x : T.Rx) (a b : Int) (l : Bool) : rxW (T.Rx.mk (7 : Int) ([] : Bytes) false (⟨true,[]⟩ : (Sl T.Row)) a b l (⟨false,[x]⟩ : (Sl T.Rx))) = 1 + rxW x := by
 rw [jm]; simp [qd]
theorem zm4 (kind : Int) (xs : Sl T.Rx) (hw : qd (xs.l.map rxW) ≤ 1000000) : ∀ (r : List T.Rx) (k : Nat) (l : List T.Rx),xs.l.drop k = r → qd (l.map rxW) + qd (r.map rxW) ≤ qd (xs.l.map rxW) →
  Tot (q2p (kind,xs,(k : Int),l)) (fun t => qd (t.map rxW) ≤ qd (xs.l.map rxW)) := by
 have hl := xn q7d xs.l
 intro r
 induction r with
 | nil =>
  intro k l hk hs
  rw [q2p.eq_1]
  have := nz hk
  (apply Tot.ite <;> intro hT <;> try simp (disch := omega) only [tfx.down,q9,qa] at hT)
  ·omega
  ·exact .ret (by simp [qd] at hs; exact hs)
 | cons x r ih =>
  intro k l hk hs
  obtain ⟨h1,h2,h3⟩ := drop_cons hk
  have hl2 := xn q7d l
  have hl3 := xn q7d x.kids.l
  have hx := jm x
  simp only [List.map_cons,qd] at hs
  rw [q2p.eq_1]
  have e1 : IntKind.i64.wrap ((k : Int) + 1) = ((k + 1 : Nat) : Int) := q2y (by omega)
  rw [e1]
  have hg : Tot (qh xs.l (k : Int)) (fun y => y = x) := ⟨x,by rw [xw h3]; simpa [List.getElem?_eq_getElem h3] using h1,rfl⟩
  (apply Tot.ite <;> intro hT <;> try simp (disch := omega) only [tfx.down,q9,qa] at hT)
  ·refine Tot.bind hg fun y hy => ?_
   subst hy
   (apply Tot.ite <;> intro hT <;> try simp (disch := omega) only [tfx.down,q9,qa] at hT)
   ·(apply Tot.ite <;> intro hT <;> try simp (disch := omega) only [tfx.down,q9,qa] at hT)
    ·exact ih (k + 1) _ h2 (by omega)
    ·refine Tot.need (zt (by omega) (by omega)) ?_
     exact ih (k + 1) _ h2 (by rw [List.map_append,q5i]; omega)
   ·refine Tot.need (zt (by omega) (by omega)) ?_
    exact ih (k + 1) _ h2 (by rw [wy]; omega)
  ·omega
theorem qn3 (kind : Int) (xs : Sl T.Rx) (hw : qd (xs.l.map rxW) ≤ 1000000) : Tot (q8c kind xs) (fun t => qd (t.l.map rxW) ≤ qd (xs.l.map rxW)) := by
 unfold q8c
 have h := zm4 kind xs hw xs.l 0 [] rfl (by simp [qd])
 rw [show ((0 : Nat) : Int) = 0 from rfl] at h
 refine Tot.bind h fun v hv => ?_
 exact .ret hv
theorem z0o (xs : Sl T.Rx) (hw : qd (xs.l.map rxW) ≤ 1000000) : Tot (qau xs) (fun t => rxW t ≤ 1 + qd (xs.l.map rxW)) := by
 unfold qau
 refine Tot.bind (qn3 0 xs hw) fun v hv => ?_
 (apply Tot.ite <;> intro hT <;> try simp (disch := omega) only [tfx.down,q9,qa] at hT)
 ·refine Tot.bind (Tot.get (by omega) (by omega)) fun x hx => ?_
  have := uu (f := rxW) hx.2
  exact .ret (by omega)
 ·refine .ret ?_
  simp only [jm,List.length_nil,List.map_nil,qd]
  omega
theorem zhs (xs : Sl T.Rx) (hw : qd (xs.l.map rxW) ≤ 1000000) : Tot (qbh xs) (fun t => rxW t ≤ 1 + qd (xs.l.map rxW)) := by
 unfold qbh
 refine Tot.bind (qn3 1 xs hw) fun v hv => ?_
 (apply Tot.ite <;> intro hT <;> try simp (disch := omega) only [tfx.down,q9,qa] at hT)
 ·refine .ret ?_
  simp only [jm,List.length_nil,List.map_nil,qd]
  omega
 ·(apply Tot.ite <;> intro hT <;> try simp (disch := omega) only [tfx.down,q9,qa] at hT)
  ·refine Tot.bind (Tot.get (by omega) (by omega)) fun x hx => ?_
   have := uu (f := rxW) hx.2
   exact .ret (by omega)
  ·refine .ret ?_
   simp only [jm,List.length_nil,List.map_nil,qd]
   omega
section
variable {cs : Sl Bytes} (hc : q3t cs)
include hc
theorem vw (c : Bytes) (b : T.qm) (h : b.cs = cs) (h0 : 0 ≤ b.at_) (h1 : b.at_ ≤ cs.l.length) :
  Tot (zu c b) (fun r => r.2.cs = cs ∧ b.at_ ≤ r.2.at_ ∧ r.2.at_ ≤ cs.l.length ∧ (r.1 = true → r.2.at_ = b.at_ + 1) ∧ (r.1 = false → r.2.at_ = b.at_)) := by
 refine (qgc hc c b h h0).mono fun r hr => ?_
 cases h2 : r.1
 ·have := hr.2.2 h2
  rw [this]
  exact ⟨h,by omega,h1,by simp,by simp⟩
 ·have := hr.2.1 h2
  exact ⟨hr.1,by omega,by omega,fun _ => this.1,by simp⟩
def qpd (cs : Sl Bytes) (x : T.Rx) (a : Int) (r : T.Rx × Int × T.qm) : Prop :=
 r.2.2.cs = cs ∧ (r.2.1 = 0 → a ≤ r.2.2.at_ ∧ r.2.2.at_ ≤ cs.l.length ∧ (rxW r.1 : Int) ≤ rxW x + (r.2.2.at_ - a))
theorem ziw (x : T.Rx) (b : T.qm) (h : b.cs = cs) (h0 : 0 ≤ b.at_) (h1 : b.at_ ≤ cs.l.length) :
  Tot (q64 x b) (qpd cs x b.at_) := by
 have last : ∀ (w : T.qm) (p q : Int),w.cs = cs → b.at_ < w.at_ → w.at_ ≤ cs.l.length → Tot (zu ([63] : Bytes) w >>= fun v5 =>
   some ((T.Rx.mk (7 : Int) ([] : Bytes) false (⟨true,[]⟩ : (Sl T.Row)) p q v5.1 (⟨false,[x]⟩ : (Sl T.Rx))),(0 : Int),v5.2)) (qpd cs x b.at_) := by
  intro w p q g1 g2 g3
  refine Tot.bind (vw hc _ w g1 (by omega) g3) fun z hz => ?_
  refine .ret ⟨hz.1,fun _ => ⟨by simp only; omega,by simp only; omega, ?_⟩⟩
  simp only [qyv]
  omega
 unfold q64
 refine Tot.bind (vw hc _ b h h0 h1) fun v hv => ?_
 (apply Tot.ite <;> intro hT <;> try simp (disch := omega) only [tfx.down,q9,qa] at hT)
 ·exact last _ _ _ hv.1 (by have g := hT; have := hv.2.2.2.1 g; omega) (by omega)
 have g1 := hT
 have hv1 := hv.2.2.2.2 g1
 refine Tot.bind (vw hc _ v.2 hv.1 (by omega) (by omega)) fun w hw => ?_
 (apply Tot.ite <;> intro hT <;> try simp (disch := omega) only [tfx.down,q9,qa] at hT)
 ·exact last _ _ _ hw.1 (by have g := hT; have := hw.2.2.2.1 g; omega) (by omega)
 have g2 := hT
 have hw1 := hw.2.2.2.2 g2
 refine Tot.bind (vw hc _ w.2 hw.1 (by omega) (by omega)) fun y hy => ?_
 (apply Tot.ite <;> intro hT <;> try simp (disch := omega) only [tfx.down,q9,qa] at hT)
 ·exact last _ _ _ hy.1 (by have g := hT; have := hy.2.2.2.1 g; omega) (by omega)
 have g3 := hT
 have hy1 := hy.2.2.2.2 g3
 refine Tot.bind (vw hc _ y.2 hy.1 (by omega) (by omega)) fun z hz => ?_
 (apply Tot.ite <;> intro hT <;> try simp (disch := omega) only [tfx.down,q9,qa] at hT)
 ·have g4 := hT
  have hz1 := hz.2.2.2.1 g4
  refine Tot.bind (qpe hc z.2 hz.1 (by omega) (by omega)) fun n hn => ?_
  (apply Tot.ite <;> intro hT <;> try simp (disch := omega) only [tfx.down,q9,qa] at hT)
  ·exact .ret ⟨hn.2.2.1,by simp⟩
  ·refine Tot.bind (vw hc _ n.2.2 hn.2.2.1 (by omega) (by omega)) fun k hk => ?_
   (apply Tot.ite <;> intro hT <;> try simp (disch := omega) only [tfx.down,q9,qa] at hT)
   ·refine Tot.bind (q3k hc k.2 hk.1 (by omega)) fun s hs => ?_
    (apply Tot.ite <;> intro hT <;> try simp (disch := omega) only [tfx.down,q9,qa] at hT)
    ·refine Tot.bind (qpe hc k.2 hk.1 (by omega) (by omega)) fun q hq => ?_
     (apply Tot.ite <;> intro hT <;> try simp (disch := omega) only [tfx.down,q9,qa] at hT)
     ·exact .ret ⟨hq.2.2.1,by simp⟩
     ·refine Tot.bind (vw hc _ q.2.2 hq.2.2.1 (by omega) (by omega)) fun p hp => ?_
      (apply Tot.ite <;> intro hT <;> try simp (disch := omega) only [tfx.down,q9,qa] at hT)
      ·exact .ret ⟨hp.1,by simp⟩
      ·exact last _ _ _ hp.1 (by omega) (by omega)
    ·refine Tot.bind (vw hc _ k.2 hk.1 (by omega) (by omega)) fun p hp => ?_
     (apply Tot.ite <;> intro hT <;> try simp (disch := omega) only [tfx.down,q9,qa] at hT)
     ·exact .ret ⟨hp.1,by simp⟩
     ·exact last _ _ _ hp.1 (by omega) (by omega)
   ·refine Tot.bind (vw hc _ k.2 hk.1 (by omega) (by omega)) fun p hp => ?_
    (apply Tot.ite <;> intro hT <;> try simp (disch := omega) only [tfx.down,q9,qa] at hT)
    ·exact .ret ⟨hp.1,by simp⟩
    ·exact last _ _ _ hp.1 (by omega) (by omega)
 ·have g4 := hT
  have hz1 := hz.2.2.2.2 g4
  exact .ret ⟨hz.1,fun _ => ⟨by simp only; omega,by simp only; omega,by simp only; omega⟩⟩
end
end Go.Proofs.YtdhgdeelagmbpaaGreat
set_option linter.unusedSimpArgs false
set_option linter.unusedVariables false
namespace Go.Proofs.YtdhgdeelagmbpaaGreat
open Go Go.Gm
def qf6 (cs : Sl Bytes) (a : Int) (r : T.Rx × Int × T.qm) : Prop :=
 r.2.2.cs = cs ∧ (r.2.1 = 0 → a ≤ r.2.2.at_ ∧ r.2.2.at_ ≤ cs.l.length ∧ (rxW r.1 : Int) ≤ 1000 * (r.2.2.at_ - a) + 2)
def qdk (cs : Sl Bytes) (a : Int) (r : T.Rx × Int × T.qm) : Prop :=
 r.2.2.cs = cs ∧ (r.2.1 = 0 → a < r.2.2.at_ ∧ r.2.2.at_ ≤ cs.l.length ∧ (rxW r.1 : Int) ≤ 1000 * (r.2.2.at_ - a))
theorem qbz (k : Int) : rxW (T.Rx.mk k ([] : Bytes) false (⟨true,([] : List T.Row)⟩ : (Sl T.Row)) (0 : Int) (0 : Int) false (⟨true,([] : List T.Rx)⟩ : (Sl T.Rx))) = 1 := by
 rw [jm]; simp [qd]
theorem z7j (k : Int) (x : T.Rx) : rxW (T.Rx.mk k ([] : Bytes) false (⟨true,[]⟩ : (Sl T.Row)) (0 : Int) (0 : Int) false (⟨false,[x]⟩ : (Sl T.Rx))) = 1 + rxW x := by
 rw [jm]; simp [qd]
section
variable {cs : Sl Bytes} (hc : q3t cs) (a0 : Int) (ha0 : 0 ≤ a0)
 (H : ∀ (deep : Int) (b : T.qm),0 ≤ deep → deep ≤ 16 → b.cs = cs → a0 < b.at_ → b.at_ ≤ cs.l.length → Tot (q1i (deep,b)) (qf6 cs b.at_))
include hc ha0 H
theorem qyg (deep : Int) (d0 : 0 ≤ deep) (d1 : deep ≤ 16) (b : T.qm) (h : b.cs = cs) (h0 : a0 ≤ b.at_) (h1 : b.at_ ≤ cs.l.length) : Tot (q6b (deep,b)) (qdk cs b.at_) := by
 have hm := hc.many
 rw [q6b.eq_1]
 refine Tot.bind (vw hc _ b h (by omega) h1) fun v hv => ?_
 (apply Tot.ite <;> intro hT <;> try simp (disch := omega) only [tfx.down,q9,qa] at hT)
 ·have g := hT
  have := hv.2.2.2.1 g
  exact .ret ⟨hv.1,fun _ => ⟨by simp only; omega,by simp only; omega,by simp only [qbz]; omega⟩⟩
 have g := hT
 have hv1 := hv.2.2.2.2 g
 refine Tot.bind (vw hc _ v.2 hv.1 (by omega) (by omega)) fun w hw => ?_
 have grp : ∀ (k : Int) (u : T.qm),u.cs = cs → b.at_ < u.at_ → u.at_ ≤ cs.l.length → deep < 16 → Tot (q1i ((IntKind.i64.wrap (deep + (1 : Int))),u) >>= fun v15 =>
       if (v15.2.1 != (0 : Int)) then
        some ((T.Rx.mk (0 : Int) ([] : Bytes) false (⟨true,([] : List T.Row)⟩ : (Sl T.Row)) (0 : Int) (0 : Int) false (⟨true,([] : List T.Rx)⟩ : (Sl T.Rx))),v15.2.1,v15.2.2)
       else
        zu ([41] : Bytes) v15.2.2 >>= fun v18 =>
        if (!v18.1) then
         some ((T.Rx.mk (0 : Int) ([] : Bytes) false (⟨true,([] : List T.Row)⟩ : (Sl T.Row)) (0 : Int) (0 : Int) false (⟨true,([] : List T.Rx)⟩ : (Sl T.Rx))),(10 : Int),v18.2)
        else
         some ((T.Rx.mk k ([] : Bytes) false (⟨true,[]⟩ : (Sl T.Row)) (0 : Int) (0 : Int) false (⟨false,[v15.1]⟩ : (Sl T.Rx))),(0 : Int),v18.2)) (qdk cs b.at_) := by
  intro k u g1 g2 g3 g4
  (repeat (first | (rw [q9]; rotate_left; omega; omega) | (rw [qa]; rotate_left; omega; omega)))
  refine Tot.bind (H (deep + 1) u (by omega) (by omega) g1 (by omega) g3) fun y hy => ?_
  (apply Tot.ite <;> intro hT <;> try simp (disch := omega) only [tfx.down,q9,qa] at hT)
  ·have hc1 := hT
   exact .ret ⟨hy.1,fun h => absurd h hc1⟩
  ·have hc1 := hT
   have hy2 := hy.2 hc1
   refine Tot.bind (vw hc _ y.2.2 hy.1 (by omega) (by omega)) fun z hz => ?_
   (apply Tot.ite <;> intro hT <;> try simp (disch := omega) only [tfx.down,q9,qa] at hT)
   ·exact .ret ⟨hz.1,by simp⟩
   ·have hc2 := hT
    have := hz.2.2.2.1 hc2
    exact .ret ⟨hz.1,fun _ => ⟨by simp only; omega,by simp only; omega,by simp only [z7j]; omega⟩⟩
 (apply Tot.ite <;> intro hT <;> try simp (disch := omega) only [tfx.down,q9,qa] at hT)
 ·have g := hT
  have hw1 := hw.2.2.2.1 g
  (apply Tot.ite <;> intro hT <;> try simp (disch := omega) only [tfx.down,q9,qa] at hT)
  ·exact .ret ⟨hw.1,by simp⟩
  ·refine Tot.bind (vw hc _ w.2 hw.1 (by omega) (by omega)) fun y hy => ?_
   (apply Tot.ite <;> intro hT <;> try simp (disch := omega) only [tfx.down,q9,qa] at hT)
   ·refine Tot.bind (vw hc _ y.2 hy.1 (by omega) (by omega)) fun z hz => ?_
    (apply Tot.ite <;> intro hT <;> try simp (disch := omega) only [tfx.down,q9,qa] at hT)
    ·exact .ret ⟨hz.1,by simp⟩
    ·exact grp 6 z.2 hz.1 (by omega) (by omega) (by omega)
   ·exact grp 5 y.2 hy.1 (by omega) (by omega) (by omega)
 have g := hT
 have hw1 := hw.2.2.2.2 g
 refine Tot.bind (vw hc _ w.2 hw.1 (by omega) (by omega)) fun y hy => ?_
 (apply Tot.ite <;> intro hT <;> try simp (disch := omega) only [tfx.down,q9,qa] at hT)
 ·have g := hT
  have hy1 := hy.2.2.2.1 g
  refine Tot.bind (z04 hc y.2 hy.1 (by omega) (by omega)) fun z hz => ?_
  refine .ret ⟨hz.1,fun h => ?_⟩
  have := hz.2 h
  simp only
  omega
 have g := hT
 have hy1 := hy.2.2.2.2 g
 refine Tot.bind (vw hc _ y.2 hy.1 (by omega) (by omega)) fun z hz => ?_
 (apply Tot.ite <;> intro hT <;> try simp (disch := omega) only [tfx.down,q9,qa] at hT)
 ·have g := hT
  have hz1 := hz.2.2.2.1 g
  refine Tot.bind (zai hc z.2 hz.1 (by omega) (by omega)) fun u hu => ?_
  refine .ret ⟨hu.1,fun h => ?_⟩
  have := hu.2 h
  simp only
  omega
 have g := hT
 have hz1 := hz.2.2.2.2 g
 refine Tot.bind (q3k hc z.2 hz.1 (by omega)) fun s hs => ?_
 (apply Tot.ite <;> intro hT <;> try simp (disch := omega) only [tfx.down,q9,qa] at hT)
 ·exact .ret ⟨hz.1,by simp⟩
 ·by_cases hn : s = []
  ·refine Tot.bind (o := mg s) (P := fun r => r = false) ⟨false,by rw [hn]; unfold mg; simp,rfl⟩ fun p hp => ?_
   subst hp
   exact .ret ⟨hz.1,by simp⟩
  ·refine Tot.bind (qgl s (by unfold BN; omega)) fun p hp => ?_
   (apply Tot.ite <;> intro hT <;> try simp (disch := omega) only [tfx.down,q9,qa] at hT)
   ·exact .ret ⟨hz.1,by simp⟩
   ·have := hs.2 hn
    (repeat (first | (rw [q9]; rotate_left; omega; omega) | (rw [qa]; rotate_left; omega; omega)))
    refine .ret ⟨hz.1,fun _ => ⟨by simp only; omega,by simp only; omega, ?_⟩⟩
    simp only [jm,List.map_nil,qd]
    omega
theorem zfe (deep : Int) (d0 : 0 ≤ deep) (d1 : deep ≤ 16) (b : T.qm) (h : b.cs = cs) (h0 : a0 ≤ b.at_) (h1 : b.at_ ≤ cs.l.length) : Tot (qbi (deep,b)) (qdk cs b.at_) := by
 have hm := hc.many
 rw [qbi.eq_1]
 refine Tot.bind (vw hc _ b h (by omega) h1) fun v hv => ?_
 (apply Tot.ite <;> intro hT <;> try simp (disch := omega) only [tfx.down,q9,qa] at hT)
 ·have g := hT
  have := hv.2.2.2.1 g
  exact .ret ⟨hv.1,fun _ => ⟨by simp only; omega,by simp only; omega,by simp only [qbz]; omega⟩⟩
 have g := hT
 have hv1 := hv.2.2.2.2 g
 refine Tot.bind (vw hc _ v.2 hv.1 (by omega) (by omega)) fun w hw => ?_
 (apply Tot.ite <;> intro hT <;> try simp (disch := omega) only [tfx.down,q9,qa] at hT)
 ·have g := hT
  have := hw.2.2.2.1 g
  exact .ret ⟨hw.1,fun _ => ⟨by simp only; omega,by simp only; omega,by simp only [qbz]; omega⟩⟩
 have g := hT
 have hw1 := hw.2.2.2.2 g
 have at1 : Tot (q6b (deep,w.2) >>= fun v26 =>
     if (v26.2.1 != (0 : Int)) then
      some ((T.Rx.mk (0 : Int) ([] : Bytes) false (⟨true,([] : List T.Row)⟩ : (Sl T.Row)) (0 : Int) (0 : Int) false (⟨true,([] : List T.Rx)⟩ : (Sl T.Rx))),v26.2.1,v26.2.2)
     else
      q64 v26.1 v26.2.2 >>= fun v29 =>
      some (v29.1,v29.2.1,v29.2.2)) (qdk cs b.at_) := by
  refine Tot.bind (qyg hc a0 ha0 H deep d0 d1 w.2 hw.1 (by omega) (by omega)) fun y hy => ?_
  (apply Tot.ite <;> intro hT <;> try simp (disch := omega) only [tfx.down,q9,qa] at hT)
  ·have hc1 := hT
   exact .ret ⟨hy.1,fun h => absurd h hc1⟩
  ·have hc1 := hT
   have hy2 := hy.2 hc1
   refine Tot.bind (ziw hc y.1 y.2.2 hy.1 (by omega) (by omega)) fun z hz => ?_
   refine .ret ⟨hz.1,fun h => ?_⟩
   have := hz.2 h
   simp only
   omega
 refine Tot.bind (q3k hc w.2 hw.1 (by omega)) fun s hs => ?_
 rw [hw.1]
 (apply Tot.ite <;> intro hT <;> try simp (disch := omega) only [tfx.down,q9,qa] at hT)
 ·(repeat (first | (rw [q9]; rotate_left; omega; omega) | (rw [qa]; rotate_left; omega; omega)))
  refine Tot.bind (Tot.get (by omega) (by omega)) fun c hc2 => ?_
  (apply Tot.ite <;> intro hT <;> try simp (disch := omega) only [tfx.down,q9,qa] at hT)
  ·exact .ret ⟨rfl,fun _ => ⟨by simp only; omega,by simp only; omega,by simp only [qbz]; omega⟩⟩
  ·(apply Tot.ite <;> intro hT <;> try simp (disch := omega) only [tfx.down,q9,qa] at hT)
   ·exact .ret ⟨rfl,fun _ => ⟨by simp only; omega,by simp only; omega,by simp only [qbz]; omega⟩⟩
   ·exact at1
 ·exact at1
end
end Go.Proofs.YtdhgdeelagmbpaaGreat
set_option linter.unusedSimpArgs false
set_option linter.unusedVariables false
namespace Go.Proofs.YtdhgdeelagmbpaaGreat
open Go Go.Gm
section
variable {cs : Sl Bytes} (hc : q3t cs) (a0 : Int) (ha0 : 0 ≤ a0)
 (H : ∀ (deep : Int) (b : T.qm),0 ≤ deep → deep ≤ 16 → b.cs = cs → a0 < b.at_ → b.at_ ≤ cs.l.length → Tot (q1i (deep,b)) (qf6 cs b.at_))
include hc ha0 H
theorem qqw (deep : Int) (d0 : 0 ≤ deep) (d1 : deep ≤ 16) (t : T.Rx) (alts : List T.Rx) (a1 : Int) (ha1 : 0 ≤ a1) : ∀ (m : Nat) (b : T.qm) (terms : List T.Rx),m = (cs.l.length - b.at_).toNat → b.cs = cs → a0 ≤ b.at_ → a1 ≤ b.at_ → b.at_ ≤ cs.l.length →
  (qd (terms.map rxW) : Int) ≤ 1000 * (b.at_ - a1) → Tot (q7l (deep,b,t,alts,terms)) (fun r => (∀ y,r = .inl y → y.1 ≠ 0 ∧ y.2.1.cs = cs) ∧
   ∀ y,r = .inr y → y.1.cs = cs ∧ b.at_ ≤ y.1.at_ ∧ y.1.at_ ≤ cs.l.length ∧ (qd (y.2.map rxW) : Int) ≤ 1000 * (y.1.at_ - a1)) := by
 have hm := hc.many
 intro m
 induction m using Nat.strongRecOn with
 | _ m ih =>
 intro b terms hmm h h0 h1 h2 hw
 have hl := xn q7d terms
 rw [q7l.eq_1]
 have stop : Tot (some (Sum.inr (b,terms) : (Int × T.qm × T.Rx × (List T.Rx)) ⊕ (T.qm × (List T.Rx)))) (fun r => (∀ y,r = .inl y → y.1 ≠ 0 ∧ y.2.1.cs = cs) ∧
   ∀ y,r = .inr y → y.1.cs = cs ∧ b.at_ ≤ y.1.at_ ∧ y.1.at_ ≤ cs.l.length ∧ (qd (y.2.map rxW) : Int) ≤ 1000 * (y.1.at_ - a1)) := by
  refine .ret ⟨fun y hy => (by cases hy),fun y hy => ?_⟩
  cases hy
  exact ⟨h,by simp,h2,hw⟩
 rw [h]
 (apply Tot.ite <;> intro hT <;> try simp (disch := omega) only [tfx.down,q9,qa] at hT)
 ·refine Tot.bind (q3k hc b h (by omega)) fun s hs => ?_
  (apply Tot.ite <;> intro hT <;> try simp (disch := omega) only [tfx.down,q9,qa] at hT)
  ·(apply Tot.ite <;> intro hT <;> try simp (disch := omega) only [tfx.down,q9,qa] at hT)
   ·refine Tot.bind (zfe hc a0 ha0 H deep d0 d1 b h h0 h2) fun y hy => ?_
    (apply Tot.ite <;> intro hT <;> try simp (disch := omega) only [tfx.down,q9,qa] at hT)
    ·have hc1 := hT
     refine .ret ⟨fun z hz => ?_,fun z hz => by cases hz⟩
     cases hz
     exact ⟨hc1,hy.1⟩
    ·have hc1 := hT
     have hy2 := hy.2 hc1
     refine Tot.need (zt (by omega) (by omega)) ?_
     refine (ih _ (by omega) y.2.2 _ rfl hy.1 (by omega) (by omega) (by omega) (by rw [wy]; omega)).mono fun r hr => ⟨hr.1,fun z hz => ?_⟩
     have := hr.2 z hz
     exact ⟨this.1,by omega,this.2.2.1,this.2.2.2⟩
   ·exact stop
  ·exact stop
 ·exact stop
theorem qzc (deep : Int) (d0 : 0 ≤ deep) (d1 : deep ≤ 16) (t : T.Rx) : ∀ (m : Nat) (b : T.qm) (alts : List T.Rx),m = (cs.l.length - b.at_).toNat → b.cs = cs → a0 ≤ b.at_ → b.at_ ≤ cs.l.length →
  (qd (alts.map rxW) : Int) ≤ 1000 * (b.at_ - a0) → Tot (q79 (deep,b,t,alts)) (fun r => (∀ y,r = .inl y → y.1 ≠ 0 ∧ y.2.1.cs = cs) ∧
   ∀ y,r = .inr y → y.2.1.cs = cs ∧ a0 ≤ y.2.1.at_ ∧ y.2.1.at_ ≤ cs.l.length ∧ (rxW y.2.2 : Int) ≤ 1000 * (y.2.1.at_ - a0) + 2) := by
 have hm := hc.many
 intro m
 induction m using Nat.strongRecOn with
 | _ m ih =>
 intro b alts hmm h h0 h2 hw
 have hl := xn q7d alts
 rw [q79.eq_1]
 refine Tot.bind (qqw hc a0 ha0 H deep d0 d1 t alts b.at_ (by omega) _ b [] rfl h h0 (by omega) h2 (by simp [qd])) fun v hv => ?_
 rcases v with y | y
 ·have := hv.1 y rfl
  refine .ret ⟨fun z hz => ?_,fun z hz => by cases hz⟩
  cases hz
  exact this
 ·obtain ⟨g1,g2,g3,g4⟩ := hv.2 y rfl
  refine Tot.bind (z0o (⟨y.2.isEmpty,y.2⟩ : Sl T.Rx) (by simp only; omega)) fun w hw2 => ?_
  simp only at hw2
  refine Tot.need (zt (by omega) (by omega)) ?_
  refine Tot.bind (vw hc _ y.1 g1 (by omega) g3) fun z hz => ?_
  (apply Tot.ite <;> intro hT <;> try simp (disch := omega) only [tfx.down,q9,qa] at hT)
  ·have hc1 := hT
   have hz1 := hz.2.2.2.2 hc1
   refine Tot.bind (zhs (⟨false,(alts ++ [w])⟩ : Sl T.Rx) (by simp only [wy]; omega)) fun u hu => ?_
   simp only [wy] at hu
   refine .ret ⟨fun x hx => (by cases hx),fun x hx => ?_⟩
   cases hx
   exact ⟨hz.1,by simp only; omega,by simp only; omega,by simp only; omega⟩
  ·have hc1 := hT
   have hz1 := hz.2.2.2.1 hc1
   exact ih _ (by omega) z.2 _ rfl hz.1 (by omega) (by omega) (by rw [wy]; omega)
end
theorem z09 {cs : Sl Bytes} (hc : q3t cs) : ∀ (m : Nat) (deep : Int) (b : T.qm),m = (cs.l.length - b.at_).toNat → 0 ≤ deep → deep ≤ 16 → b.cs = cs → 0 ≤ b.at_ → b.at_ ≤ cs.l.length → Tot (q1i (deep,b)) (qf6 cs b.at_) := by
 intro m
 induction m using Nat.strongRecOn with
 | _ m ih =>
 intro deep b hmm d0 d1 h h0 h1
 rw [q1i.eq_1]
 refine Tot.bind (qzc hc b.at_ h0 (fun d2 b2 e1 e2 e3 e4 e5 => ih _ (by omega) d2 b2 rfl e1 e2 e3 (by omega) e5) deep d0 d1 _ _ b [] rfl h (by omega) h1 (by simp [qd])) fun v hv => ?_
 rcases v with y | y
 ·have := hv.1 y rfl
  exact .ret ⟨this.2,fun h => absurd h this.1⟩
 ·obtain ⟨g1,g2,g3,g4⟩ := hv.2 y rfl
  exact .ret ⟨g1,fun _ => ⟨g2,g3,g4⟩⟩
theorem zn0 (s : Bytes) : Tot (qb0 s) (fun r => r.2 = 0 → s.length ≤ 256 ∧ rxW r.1 ≤ 1000 * s.length + 1002) := by
 unfold qb0
 (apply Tot.ite <;> intro hT <;> try simp (disch := omega) only [tfx.down,q9,qa] at hT)
 ·exact .ret (by simp)
 ·refine Tot.bind (qkj s (by unfold BN; omega)) fun v hv => ?_
  have hc : q3t v := ⟨by omega,fun c h => by have := hv.2 c h; omega⟩
  refine Tot.bind (z09 hc _ 0 (T.qm.mk v 0) rfl (by omega) (by omega) rfl (by simp) (by simp)) fun w hw => ?_
  (apply Tot.ite <;> intro hT <;> try simp (disch := omega) only [tfx.down,q9,qa] at hT)
  ·exact .ret (by simp)
  ·(apply Tot.ite <;> intro hT <;> try simp (disch := omega) only [tfx.down,q9,qa] at hT)
   ·have h := hT
    exact .ret fun h2 => absurd h2 h
   ·have h := hT
    have := hw.2 h
    refine .ret fun _ => ⟨by omega, ?_⟩
    simp only at this ⊢
    omega
end Go.Proofs.YtdhgdeelagmbpaaGreat
set_option linter.unusedSimpArgs false
set_option linter.unusedVariables false
namespace Go.Proofs.YtdhgdeelagmbpaaGreat
open Go Go.Gm
def xu (f : T.Form) : Nat := rxW f.rx + qd (f.fmts.l.map fmW)
theorem z3g (s : Bytes) (hs : s.length ≤ BN) (t : T.Form) : ∀ (m : Nat) (k : Int) (b : List UInt8),m = (s.length - k).toNat → 0 ≤ k → k ≤ s.length → (b.length : Int) ≤ k →
  Tot (q44 (s,k,t,b)) (fun r => k ≤ r.1 ∧ r.1 ≤ s.length ∧ (r.2.length : Int) ≤ b.length + (r.1 - k)) := by
 have hB : s.length ≤ 8192 := hs
 intro m
 induction m using Nat.strongRecOn with
 | _ m ih =>
 intro k b hm h0 h1 hb
 rw [q44.eq_1]
 (apply Tot.ite <;> intro hT <;> try simp (disch := omega) only [tfx.down,q9,qa] at hT)
 ·refine Tot.bind (Tot.get (by omega) (by omega)) fun c hc => ?_
  (apply Tot.ite <;> intro hT <;> try simp (disch := omega) only [tfx.down,q9,qa] at hT)
  ·(apply Tot.ite <;> intro hT <;> try simp (disch := omega) only [tfx.down,q9,qa] at hT)
   ·(repeat (first | (rw [q9]; rotate_left; omega; omega) | (rw [qa]; rotate_left; omega; omega)))
    refine Tot.bind (Tot.get (by omega) (by omega)) fun c2 hc2 => ?_
    (apply Tot.ite <;> intro hT <;> try simp (disch := omega) only [tfx.down,q9,qa] at hT)
    ·refine Tot.need (zt (by omega) (by omega)) ?_
     refine Tot.need (zt (by simp; omega) (by omega)) ?_
     exact (ih _ (by omega) (k + 1 + 1) _ rfl (by omega) (by omega) (by simp; omega)).mono fun r hr => by
      simp only [List.length_append,List.length_cons,List.length_nil] at hr
      omega
    ·refine Tot.need (zt (by omega) (by omega)) ?_
     exact (ih _ (by omega) (k + 1 + 1) _ rfl (by omega) (by omega) (by simp; omega)).mono fun r hr => by
      simp only [List.length_append,List.length_cons,List.length_nil] at hr
      omega
   ·refine Tot.need (zt (by omega) (by omega)) ?_
    (repeat (first | (rw [q9]; rotate_left; omega; omega) | (rw [qa]; rotate_left; omega; omega)))
    exact (ih _ (by omega) (k + 1) _ rfl (by omega) (by omega) (by simp; omega)).mono fun r hr => by
     simp only [List.length_append,List.length_cons,List.length_nil] at hr
     omega
  ·exact .ret ⟨by simp,h1,by simp only; omega⟩
 ·exact .ret ⟨by simp,h1,by simp only; omega⟩
theorem z4w (s : Bytes) (hs : s.length ≤ BN) (t : T.Form) (l : List UInt8) (x : T.Rx) : ∀ (m : Nat) (e : Int) (f : T.Form),m = (s.length - e).toNat → 0 ≤ e →
  Tot (q3q (s,e,t,l,x,f)) (fun r => (∀ y,r = .inl y → y.2.1 = false) ∧ ∀ y,r = .inr y → e ≤ y.1 ∧ xu y.2 = xu f) := by
 have hB : s.length ≤ 8192 := hs
 intro m
 induction m using Nat.strongRecOn with
 | _ m ih =>
 intro e f hm h0
 rw [q3q.eq_1]
 have stop : Tot (some (Sum.inr (e,f) : (Int × Bool × Int × T.Form × T.Form) ⊕ (Int × T.Form))) (fun r => (∀ y,r = .inl y → y.2.1 = false) ∧ ∀ y,r = .inr y → e ≤ y.1 ∧ xu y.2 = xu f) := by
  refine .ret ⟨fun y hy => (by cases hy),fun y hy => ?_⟩
  cases hy
  exact ⟨by simp,rfl⟩
 have go : ∀ f2 : T.Form,e < s.length → xu f2 = xu f → Tot (q3q (s,e + 1,t,l,x,f2)) (fun r => (∀ y,r = .inl y → y.2.1 = false) ∧ ∀ y,r = .inr y → e ≤ y.1 ∧ xu y.2 = xu f) := by
  intro f2 he hf
  exact (ih _ (by omega) (e + 1) f2 rfl (by omega)).mono fun r hr => ⟨hr.1,fun y hy => by have := hr.2 y hy; exact ⟨by omega,this.2.trans hf⟩⟩
 (apply Tot.ite <;> intro hT <;> try simp (disch := omega) only [tfx.down,q9,qa] at hT)
 ·refine Tot.bind (Tot.get (by omega) (by omega)) fun c hc => ?_
  (repeat (first | (rw [q9]; rotate_left; omega; omega) | (rw [qa]; rotate_left; omega; omega)))
  (apply Tot.ite <;> intro hT <;> try simp (disch := omega) only [tfx.down,q9,qa] at hT)
  ·(apply Tot.ite <;> intro hT <;> try simp (disch := omega) only [tfx.down,q9,qa] at hT)
   ·exact go _ (by omega) rfl
   ·(repeat (first | (rw [q9]; rotate_left; omega; omega) | (rw [qa]; rotate_left; omega; omega)))
    (apply Tot.ite <;> intro hT <;> try simp (disch := omega) only [tfx.down,q9,qa] at hT)
    ·exact go _ (by omega) rfl
    ·refine .ret ⟨fun y hy => ?_,fun y hy => by cases hy⟩
     cases hy
     rfl
  ·exact stop
 ·exact stop
theorem qsn (s : Bytes) (hs : s.length ≤ BN) (at_ : Int) :
  Tot (qae s at_) (fun r => r.2.2 = true → 0 ≤ at_ ∧ at_ < r.2.1 ∧ r.2.1 < s.length ∧ (xu r.1 : Int) ≤ 1000 * (r.2.1 - at_)) := by
 have hB : s.length ≤ 8192 := hs
 unfold qae
 (apply Tot.ite <;> intro hT <;> try simp (disch := omega) only [tfx.down,q9,qa] at hT)
 ·exact .ret (by simp)
 ·refine Tot.bind (Tot.get (by omega) (by omega)) fun c hc => ?_
  (apply Tot.ite <;> intro hT <;> try simp (disch := omega) only [tfx.down,q9,qa] at hT)
  ·exact .ret (by simp)
  ·(repeat (first | (rw [q9]; rotate_left; omega; omega) | (rw [qa]; rotate_left; omega; omega)))
   refine Tot.bind (z3g s hs _ _ (at_ + 1) [] rfl (by omega) (by omega) (by simp; omega)) fun v hv => ?_
   simp only [List.length_nil] at hv
   (apply Tot.ite <;> intro hT <;> try simp (disch := omega) only [tfx.down,q9,qa] at hT)
   ·exact .ret (by simp)
   ·refine Tot.bind (zn0 v.2) fun w hw => ?_
    (apply Tot.ite <;> intro hT <;> try simp (disch := omega) only [tfx.down,q9,qa] at hT)
    ·exact .ret (by simp)
    ·have hc1 := hT
     have hw2 := hw hc1
     (repeat (first | (rw [q9]; rotate_left; omega; omega) | (rw [qa]; rotate_left; omega; omega)))
     refine Tot.bind (zic s hs (v.1 + 1)) fun y hy => ?_
     (apply Tot.ite <;> intro hT <;> try simp (disch := omega) only [tfx.down,q9,qa] at hT)
     ·exact .ret (by simp)
     ·have hc2 := hT
      have hy2 := hy hc2
      (repeat (first | (rw [q9]; rotate_left; omega; omega) | (rw [qa]; rotate_left; omega; omega)))
      refine Tot.bind (z4w s hs _ _ _ _ (y.2.1 + 1) _ rfl (by omega)) fun z hz => ?_
      rcases z with z | z
      ·have := hz.1 z rfl
       exact .ret fun h => by simp only [this] at h; cases h
      ·obtain ⟨g1,g2⟩ := hz.2 z rfl
       (apply Tot.ite <;> intro hT <;> try simp (disch := omega) only [tfx.down,q9,qa] at hT)
       ·exact .ret (by simp)
       ·refine .ret fun _ => ?_
        simp only [g2]
        simp only [xu]
        omega
end Go.Proofs.YtdhgdeelagmbpaaGreat
set_option linter.unusedSimpArgs false
set_option linter.unusedVariables false
namespace Go.Proofs.YtdhgdeelagmbpaaGreat
open Go Go.Gm
def opW (s : Bytes) : Nat := 1 + s.length
mutual
def snW : T.qb → Nat
 | ⟨_,t,_,_,_,f,o,kids⟩ => 1 + t.length + xu f + qd (o.l.map opW) + qms kids
def qms : Sl T.qb → Nat
 | ⟨_,l⟩ => qc8 l
def qc8 : List T.qb → Nat
 | [] => 0
 | x :: r => snW x + qc8 r
end
theorem qi6 : ∀ l : List T.qb,qc8 l = qd (l.map snW)
 | [] => by simp [qc8,qd]
 | x :: r => by simp [qc8,qd,qi6 r]
theorem vg (x : T.qb) : snW x = 1 + x.text.length + xu x.form + qd (x.opts.l.map opW) + qd (x.kids.l.map snW) := by
 cases x with | mk a b c d e f g h => cases h; simp [snW,qms,qi6]
theorem q2g (x : T.qb) : 1 ≤ snW x := by rw [vg]; omega
theorem qfs (x : Bytes) : 1 ≤ opW x := by unfold opW; omega
theorem qew (s : Bytes) (hs : s.length ≤ BN) (at_ : Int) (h0 : 0 ≤ at_) (h1 : at_ < s.length) (c : Bool) : Tot (q74 s at_ c) (fun r => r = true → at_ + 1 < s.length) := by
 have hB : s.length ≤ 8192 := hs
 unfold q74
 refine Tot.bind (Tot.get h0 h1) fun b hb => ?_
 (apply Tot.ite <;> intro hT <;> try simp (disch := omega) only [tfx.down,q9,qa] at hT)
 ·exact .ret (by simp)
 ·(repeat (first | (rw [q9]; rotate_left; omega; omega) | (rw [qa]; rotate_left; omega; omega)))
  refine Tot.bind (Tot.get (by omega) (by omega)) fun b2 hb2 => ?_
  repeat' (first | (apply Tot.ite <;> intro hT <;> try simp (disch := omega) only [tfx.down,q9,qa] at hT) | exact .ret (fun _ => by omega))
theorem za8 (s : Bytes) (hs : s.length ≤ BN) (w : List T.qb) (es : List Int) (a1 : Int) (ha1 : 0 ≤ a1) : ∀ (m : Nat) (at_ : Int) (l : List Bytes) (t : List UInt8),m = (s.length - at_).toNat → a1 ≤ at_ → at_ ≤ s.length → (qd (l.map opW) + t.length : Int) ≤ at_ - a1 →
  Tot (q48 (at_,s,w,es,l,t)) (fun r => at_ ≤ r.1 ∧ r.1 ≤ s.length ∧ (qd (r.2.1.map opW) + r.2.2.length : Int) ≤ r.1 - a1) := by
 have hB : s.length ≤ 8192 := hs
 intro m
 induction m using Nat.strongRecOn with
 | _ m ih =>
 intro at_ l t hm h0 h1 hw
 have hl := xn qfs l
 rw [q48.eq_1]
 (apply Tot.ite <;> intro hT <;> try simp (disch := omega) only [tfx.down,q9,qa] at hT)
 ·refine Tot.bind (Tot.get (by omega) (by omega)) fun c hc => ?_
  (apply Tot.ite <;> intro hT <;> try simp (disch := omega) only [tfx.down,q9,qa] at hT)
  ·(apply Tot.ite <;> intro hT <;> try simp (disch := omega) only [tfx.down,q9,qa] at hT)
   ·refine Tot.need (zt (by omega) (by omega)) ?_
    (repeat (first | (rw [q9]; rotate_left; omega; omega) | (rw [qa]; rotate_left; omega; omega)))
    exact (ih _ (by omega) (at_ + 1) _ _ rfl (by omega) (by omega) (by rw [wy]; simp only [opW,List.length_nil]; omega)).mono fun r hr => ⟨by omega,hr.2.1,hr.2.2⟩
   ·refine Tot.bind (qew s hs at_ (by omega) (by omega) true) fun v hv => ?_
    (apply Tot.ite <;> intro hT <;> try simp (disch := omega) only [tfx.down,q9,qa] at hT)
    ·have hc1 := hT
     have := hv hc1
     (repeat (first | (rw [q9]; rotate_left; omega; omega) | (rw [qa]; rotate_left; omega; omega)))
     refine Tot.bind (Tot.get (by omega) (by omega)) fun c2 hc2 => ?_
     refine Tot.need (zt (by omega) (by omega)) ?_
     (repeat (first | (rw [q9]; rotate_left; omega; omega) | (rw [qa]; rotate_left; omega; omega)))
     exact (ih _ (by omega) (at_ + 1 + 1) _ _ rfl (by omega) (by omega) (by simp; omega)).mono fun r hr => ⟨by omega,hr.2.1,hr.2.2⟩
    ·refine Tot.need (zt (by omega) (by omega)) ?_
     (repeat (first | (rw [q9]; rotate_left; omega; omega) | (rw [qa]; rotate_left; omega; omega)))
     exact (ih _ (by omega) (at_ + 1) _ _ rfl (by omega) (by omega) (by simp; omega)).mono fun r hr => ⟨by omega,hr.2.1,hr.2.2⟩
  ·exact .ret ⟨by simp,h1,hw⟩
 ·exact .ret ⟨by simp,h1,hw⟩
theorem zd0 (s : Bytes) (hs : s.length ≤ BN) (w : List T.qb) (es : List Int) (at_ : Int) (h0 : 0 ≤ at_) (h1 : at_ ≤ s.length) :
  Tot (qbm at_ s w es) (fun r => r.2 ≥ 0 → at_ ≤ r.2 ∧ r.2 < s.length ∧ (qd (r.1.l.map opW) : Int) ≤ r.2 - at_ + 1) := by
 have hB : s.length ≤ 8192 := hs
 unfold qbm
 refine Tot.bind (za8 s hs w es at_ h0 _ at_ [] [] rfl (by omega) h1 (by simp [qd])) fun v hv => ?_
 have hl := xn qfs v.2.1
 (apply Tot.ite <;> intro hT <;> try simp (disch := omega) only [tfx.down,q9,qa] at hT)
 ·exact .ret (by simp)
 ·refine Tot.need (zt (by omega) (by omega)) ?_
  refine .ret fun _ => ⟨by simp only; omega,by simp only; omega, ?_⟩
  simp only [wy,opW]
  omega
end Go.Proofs.YtdhgdeelagmbpaaGreat
set_option linter.unusedSimpArgs false
set_option linter.unusedVariables false
namespace Go.Proofs.YtdhgdeelagmbpaaGreat
open Go Go.Gm
theorem zbs (l : Sl T.qb) (hw : qd (l.l.map snW) ≤ 100000000) : ∀ (r : List T.qb) (k : Nat) (out : List T.qb),l.l.drop k = r → qd (out.map snW) + qd (r.map snW) ≤ qd (l.l.map snW) →
  Tot (q0h (l,(k : Int),out)) (fun t => qd (t.map snW) ≤ qd (l.l.map snW)) := by
 have hl := xn q2g l.l
 intro r
 induction r with
 | nil =>
  intro k out hk hs
  rw [q0h.eq_1]
  have := nz hk
  (apply Tot.ite <;> intro hT <;> try simp (disch := omega) only [tfx.down,q9,qa] at hT)
  ·omega
  ·exact .ret (by simp [qd] at hs; exact hs)
 | cons x r ih =>
  intro k out hk hs
  obtain ⟨h1,h2,h3⟩ := drop_cons hk
  have hl2 := xn q2g out
  simp only [List.map_cons,qd] at hs
  rw [q0h.eq_1]
  have e1 : IntKind.i64.wrap ((k : Int) + 1) = ((k + 1 : Nat) : Int) := q2y (by omega)
  rw [e1]
  have hg : Tot (qh l.l (k : Int)) (fun y => y = x) := ⟨x,by rw [xw h3]; simpa [List.getElem?_eq_getElem h3] using h1,rfl⟩
  have put : Tot (if ql (out.length + 1) 224 = true then q0h (l,((k + 1 : Nat) : Int),(out ++ [x])) else none) (fun t => qd (t.map snW) ≤ qd (l.l.map snW)) := by
   refine Tot.need (zt (by omega) (by omega)) ?_
   exact ih (k + 1) _ h2 (by rw [wy]; omega)
  (apply Tot.ite <;> intro hT <;> try simp (disch := omega) only [tfx.down,q9,qa] at hT)
  ·refine Tot.bind hg fun y hy => ?_
   subst hy
   (apply Tot.ite <;> intro hT <;> try simp (disch := omega) only [tfx.down,q9,qa] at hT)
   ·(apply Tot.ite <;> intro hT <;> try simp (disch := omega) only [tfx.down,q9,qa] at hT)
    ·exact ih (k + 1) _ h2 (by omega)
    ·(apply Tot.ite <;> intro hT <;> try simp (disch := omega) only [tfx.down,q9,qa] at hT)
     ·have e2 : IntKind.i64.wrap ((out.length : Int) - 1) = (out.length : Int) - 1 := q9 (by omega) (by omega)
      rw [e2]
      refine Tot.bind (Tot.get (by omega) (by omega)) fun z hz => ?_
      (apply Tot.ite <;> intro hT <;> try simp (disch := omega) only [tfx.down,q9,qa] at hT)
      ·have hz2 := uu (f := snW) hz.2
       have hzw := vg z
       have hyw := vg y
       refine Tot.need (by omega) ?_
       refine ih (k + 1) _ h2 ?_
       have := qb4 snW out ((out.length : Int) - 1).toNat (T.qb.mk z.kind (z.text ++ y.text) z.n z.has z.turned z.form z.opts z.kids) z hz.1
       have e3 := vg (T.qb.mk z.kind (z.text ++ y.text) z.n z.has z.turned z.form z.opts z.kids)
       simp only [List.length_append] at e3
       omega
      ·exact put
     ·exact put
   ·exact put
  ·omega
theorem z6n (l : Sl T.qb) (hw : qd (l.l.map snW) ≤ 100000000) : Tot (qch l) (fun t => qd (t.l.map snW) ≤ qd (l.l.map snW)) := by
 unfold qch
 have h := zbs l hw l.l 0 [] rfl (by simp [qd])
 rw [show ((0 : Nat) : Int) = 0 from rfl] at h
 refine Tot.bind h fun v hv => ?_
 exact .ret hv
theorem qdz (t : Bytes) : snW (T.qb.mk (0 : Int) t (0 : Int) false false (T.Form.mk (T.Rx.mk (0 : Int) ([] : Bytes) false (⟨true,[]⟩ : (Sl T.Row)) (0 : Int) (0 : Int) false (⟨true,[]⟩ : (Sl T.Rx))) (⟨true,[]⟩ : (Sl T.Fmt)) false false) (⟨true,[]⟩ : (Sl Bytes)) (⟨true,[]⟩ : (Sl T.qb))) = 2 + t.length := by
 rw [vg]; simp [xu,jm,qd]; omega
end Go.Proofs.YtdhgdeelagmbpaaGreat
