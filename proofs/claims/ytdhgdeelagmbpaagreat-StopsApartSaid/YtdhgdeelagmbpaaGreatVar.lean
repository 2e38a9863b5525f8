/-
  A run of an expression over a text: it ends, and where.
-/
import Derived.Test.YtdhgdeelagmbpaaGreatVaq
set_option linter.unusedSimpArgs false
set_option linter.unusedVariables false
namespace Go.Proofs.YtdhgdeelagmbpaaGreat
open Go Go.Gm
structure Seen (s : Bytes) (w : List T.qb) (es : List Int) : Prop where
 lw : w.length = s.length
 le : es.length = s.length
 ok : ∀ (p : Nat) (e : Int) (x : T.qb),es[p]? = some e → 0 < e → w[p]? = some x → (p : Int) < e ∧ e ≤ s.length ∧ (snW x + 2 : Int) ≤ 1000 * (e - p)
def q7z (s : Bytes) (a1 at_ : Int) (r : Int × List T.qb × List UInt8) : Prop := at_ ≤ r.1 ∧ r.1 ≤ s.length ∧ (qd (r.2.1.map snW) + r.2.2.length : Int) ≤ 1000 * (r.1 - a1)
theorem z3d (s : Bytes) (hs : s.length ≤ BN) (w : List T.qb) (es : List Int) (hS : Seen s w es) (br : Bool) (a1 : Int) (ha1 : 0 ≤ a1) : ∀ (m : Nat) (at_ : Int) (l : List T.qb) (t : List UInt8),m = (s.length - at_).toNat → a1 ≤ at_ → at_ ≤ s.length → (qd (l.map snW) + t.length : Int) ≤ 1000 * (at_ - a1) →
  Tot (uo (at_,br,s,w,es,l,t)) (q7z s a1 at_) := by
 have hB : s.length ≤ 8192 := hs
 intro m
 induction m using Nat.strongRecOn with
 | _ m ih =>
 intro at_ l t hm h0 h1 hw
 have hl := xn q2g l
 have stop : Tot (some (at_,l,t)) (q7z s a1 at_) := .ret ⟨by simp,h1,hw⟩
 have go : ∀ (a2 : Int) (l2 : List T.qb) (t2 : List UInt8),at_ < a2 → a2 ≤ s.length → (qd (l2.map snW) + t2.length : Int) ≤ 1000 * (a2 - a1) → Tot (uo (a2,br,s,w,es,l2,t2)) (q7z s a1 at_) := by
  intro a2 l2 t2 g1 g2 g3
  exact (ih _ (by omega) a2 l2 t2 rfl (by omega) g2 g3).mono fun r hr => ⟨by have := hr.1; omega,hr.2.1,hr.2.2⟩
 have two : at_ < s.length → ∀ e : Int,es[at_.toNat]? = some e → 0 < e → ∀ f : T.qb,snW f = 2 + t.length → Tot (qh w at_ >>= fun x10 =>
      if ql (l.length + 2) 224 = true then
       uo (e,br,s,w,es,(l ++ [f,x10]),([] : List UInt8))
      else none) (q7z s a1 at_) := by
  intro hlt e he h2 f hf
  refine Tot.bind (Tot.get (by omega) (by have := hS.lw; omega)) fun x hx => ?_
  obtain ⟨g1,g2,g3⟩ := hS.ok at_.toNat e x he h2 hx.1
  refine Tot.need (zt (by omega) (by omega)) ?_
  refine go e _ _ (by omega) g2 ?_
  simp only [List.map_append,List.map_cons,List.map_nil,q5i,qd,List.length_nil,hf]
  omega
 have text : at_ < s.length → ∀ c : UInt8,Tot (if ql (t.length + 1) 1 = true then uo ((IntKind.i64.wrap (at_ + (1 : Int))),br,s,w,es,l,(t ++ [c])) else none) (q7z s a1 at_) := by
  intro hlt c
  refine Tot.need (zt (by omega) (by omega)) ?_
  (repeat (first | (rw [q9]; rotate_left; omega; omega) | (rw [qa]; rotate_left; omega; omega)))
  exact go (at_ + 1) _ _ (by omega) (by omega) (by simp; omega)
 have esc : at_ + 1 < s.length → Tot (qh s (IntKind.i64.wrap (at_ + (1 : Int))) >>= fun b16 =>
       if ql (t.length + 1) 1 = true then
        uo ((IntKind.i64.wrap ((IntKind.i64.wrap (at_ + (1 : Int))) + (1 : Int))),br,s,w,es,l,(t ++ [b16]))
       else none) (q7z s a1 at_) := by
  intro hlt
  (repeat (first | (rw [q9]; rotate_left; omega; omega) | (rw [qa]; rotate_left; omega; omega)))
  refine Tot.bind (Tot.get (by omega) (by omega)) fun c hc => ?_
  refine Tot.need (zt (by omega) (by omega)) ?_
  (repeat (first | (rw [q9]; rotate_left; omega; omega) | (rw [qa]; rotate_left; omega; omega)))
  exact go (at_ + 1 + 1) _ _ (by omega) (by omega) (by simp; omega)
 rw [uo.eq_1]
 (apply Tot.ite <;> intro hT <;> try simp (disch := omega) only [tfx.down,q9,qa] at hT)
 ·have hlt := hT
  (apply Tot.ite <;> intro hT <;> try simp (disch := omega) only [tfx.down,q9,qa] at hT)
  ·refine Tot.bind (Tot.get (by omega) (by omega)) fun c hc => ?_
   (apply Tot.ite <;> intro hT <;> try simp (disch := omega) only [tfx.down,q9,qa] at hT)
   ·refine Tot.bind (Tot.get (by omega) (by have := hS.le; omega)) fun e he => ?_
    (apply Tot.ite <;> intro hT <;> try simp (disch := omega) only [tfx.down,q9,qa] at hT)
    ·have h2 := hT
     exact two hlt e he.1 h2 _ (qdz t)
    ·refine Tot.bind (qew s hs at_ (by omega) (by omega) false) fun v hv => ?_
     (apply Tot.ite <;> intro hT <;> try simp (disch := omega) only [tfx.down,q9,qa] at hT)
     ·have h3 := hT
      exact esc (hv h3)
     ·exact text hlt c
   ·exact stop
  ·refine Tot.bind (Tot.get (by omega) (by have := hS.le; omega)) fun e he => ?_
   (apply Tot.ite <;> intro hT <;> try simp (disch := omega) only [tfx.down,q9,qa] at hT)
   ·have h2 := hT
    exact two hlt e he.1 h2 _ (qdz t)
   ·refine Tot.bind (qew s hs at_ (by omega) (by omega) false) fun v hv => ?_
    (apply Tot.ite <;> intro hT <;> try simp (disch := omega) only [tfx.down,q9,qa] at hT)
    ·have h3 := hT
     exact esc (hv h3)
    ·refine Tot.bind (Tot.get (by omega) (by omega)) fun c hc => ?_
     exact text hlt c
 ·exact stop
theorem qjw (s : Bytes) (hs : s.length ≤ BN) (w : List T.qb) (es : List Int) (hS : Seen s w es) (at_ : Int) (h0 : 0 ≤ at_) (h1 : at_ ≤ s.length) (br : Bool) :
  Tot (q96 at_ br s w es) (fun r => (r.2 ≥ 0 → at_ ≤ r.2 ∧ r.2 ≤ s.length ∧ (br = true → r.2 < s.length) ∧ (qd (r.1.l.map snW) : Int) ≤ 1000 * (r.2 - at_) + 2) ∧ (br = false → 0 ≤ r.2)) := by
 have hB : s.length ≤ 8192 := hs
 unfold q96
 refine Tot.bind (z3d s hs w es hS br at_ h0 _ at_ [] [] rfl (by omega) h1 (by simp [qd])) fun v hv => ?_
 obtain ⟨g1,g2,g3⟩ := hv
 have hl := xn q2g v.2.1
 (apply Tot.ite <;> intro hT <;> try simp (disch := omega) only [tfx.down,q9,qa] at hT)
 ·have hc := hT
  exact .ret ⟨by simp,fun h => by rw [h] at hc; simp at hc⟩
 ·have hc := hT
  refine Tot.need (zt (by omega) (by omega)) ?_
  refine Tot.bind (z6n _ (by simp only [wy,qdz]; omega)) fun y hy => ?_
  simp only [wy,qdz] at hy
  refine .ret ⟨fun _ => ⟨g1,g2,fun hb => ?_,by simp only; omega⟩,fun _ => by simp only; omega⟩
  simp only
  rcases Int.lt_or_le v.1 (s.length : Int) with h | h
  ·exact h
  ·simp [hb] at hc; omega
end Go.Proofs.YtdhgdeelagmbpaaGreat
set_option linter.unusedSimpArgs false
set_option linter.unusedVariables false
namespace Go.Proofs.YtdhgdeelagmbpaaGreat
open Go Go.Gm
structure zg0 (s : Bytes) (at_ : Int) (r : T.qb × Int × Bool) : Prop where
 lt : at_ < r.2.1
 le : r.2.1 ≤ s.length
 text : (r.1.text.length : Int) ≤ r.2.1 - at_
 form : xu r.1.form = 1
 opts : r.1.opts.l = []
 kids : r.1.kids.l = []
theorem qif (s : Bytes) (hs : s.length ≤ BN) (w : List T.qb) (es : List Int) (at_ : Int) (h0 : 0 ≤ at_) (h1 : at_ ≤ s.length) :
  Tot (q9k at_ s w es) (fun r => r.2.2 = true → zg0 s at_ r) := by
 unfold q9k
 refine Tot.bind (qgh s hs at_ h0 h1) fun v hv => ?_
 (apply Tot.ite <;> intro hT <;> try simp (disch := omega) only [tfx.down,q9,qa] at hT)
 ·have hc := hT
  have := hv.2.2 hc
  exact .ret fun _ => ⟨by simp only; omega,by simp only; omega,by simp only [List.length_nil]; omega,by simp [xu,jm,qd],rfl,rfl⟩
 ·refine Tot.bind (qx6 s hs w es at_ h0 h1) fun y hy => ?_
  (apply Tot.ite <;> intro hT <;> try simp (disch := omega) only [tfx.down,q9,qa] at hT)
  ·have hc := hT
   have := hy.2.2.2 hc
   exact .ret fun _ => ⟨by simp only; omega,by simp only; omega,by simp only; omega,by simp [xu,jm,qd],rfl,rfl⟩
  ·exact .ret (by simp)
def q83 (s : Bytes) (at_ : Int) (r : T.qb × Int × Bool) : Prop := r.2.2 = true → at_ < r.2.1 ∧ r.2.1 ≤ s.length ∧ (snW r.1 + 2 : Int) ≤ 1000 * (r.2.1 - at_)
theorem qy4 (s : Bytes) (hs : s.length ≤ BN) (w : List T.qb) (es : List Int) (hS : Seen s w es) (at_ : Int) (h0 : 0 ≤ at_) (h1 : at_ < s.length) : Tot (qb5 at_ s w es) (q83 s at_) := by
 have hB : s.length ≤ 8192 := hs
 unfold qb5
 (repeat (first | (rw [q9]; rotate_left; omega; omega) | (rw [qa]; rotate_left; omega; omega)))
 refine Tot.bind (qif s hs w es (at_ + 1) (by omega) (by omega)) fun v hv => ?_
 (apply Tot.ite <;> intro hT <;> try simp (disch := omega) only [tfx.down,q9,qa] at hT)
 ·have hc := hT
  obtain ⟨g1,g2,g3,g4,g5,g6⟩ := hv hc
  refine .ret fun _ => ⟨by simp only; omega,g2, ?_⟩
  simp only [vg,g4,g5,g6,List.map_nil,qd]
  omega
 (apply Tot.ite <;> intro hT <;> try simp (disch := omega) only [tfx.down,q9,qa] at hT)
 ·exact .ret (by simp [q83])
 refine Tot.bind (Tot.get (by omega) (by omega)) fun b hb => ?_
 (apply Tot.ite <;> intro hT <;> try simp (disch := omega) only [tfx.down,q9,qa] at hT)
 ·exact .ret (by simp [q83])
 (repeat (first | (rw [q9]; rotate_left; omega; omega) | (rw [qa]; rotate_left; omega; omega)))
 refine Tot.bind (qif s hs w es (at_ + 2) (by omega) (by omega)) fun v hv => ?_
 (apply Tot.ite <;> intro hT <;> try simp (disch := omega) only [tfx.down,q9,qa] at hT)
 ·exact .ret (by simp [q83])
 have hc := hT
 obtain ⟨g1,g2,g3,g4,g5,g6⟩ := hv hc.1
 refine Tot.bind (Tot.get (by omega) (by omega)) fun c hc2 => ?_
 (repeat (first | (rw [q9]; rotate_left; omega; omega) | (rw [qa]; rotate_left; omega; omega)))
 (apply Tot.ite <;> intro hT <;> try simp (disch := omega) only [tfx.down,q9,qa] at hT)
 ·refine .ret fun _ => ⟨by simp only; omega,by simp only; omega, ?_⟩
  simp only [vg,g4,g5,g6,List.map_nil,qd]
  omega
 (repeat (first | (rw [q9]; rotate_left; omega; omega) | (rw [qa]; rotate_left; omega; omega)))
 (apply Tot.ite <;> intro hT <;> try simp (disch := omega) only [tfx.down,q9,qa] at hT)
 ·refine Tot.bind (qjw s hs w es hS (v.2.1 + 1) (by omega) (by omega) true) fun y hy => ?_
  refine .ret fun h => ?_
  simp only [decide_eq_true_eq] at h
  obtain ⟨k1,k2,k3,k4⟩ := hy.1 h
  have := k3 rfl
  simp only
  rw [q9 (by omega) (by omega)]
  refine ⟨by omega,by omega, ?_⟩
  simp only [vg,g4,g5,List.map_nil,qd]
  omega
 (apply Tot.ite <;> intro hT <;> try simp (disch := omega) only [tfx.down,q9,qa] at hT)
 ·refine Tot.bind (qsn s hs v.2.1) fun y hy => ?_
  refine .ret fun h => ?_
  obtain ⟨k1,k2,k3,k4⟩ := hy h
  simp only
  rw [q9 (by omega) (by omega)]
  refine ⟨by omega,by omega, ?_⟩
  simp only [vg,g5,g6,List.map_nil,qd]
  omega
 (repeat (first | (rw [q9]; rotate_left; omega; omega) | (rw [qa]; rotate_left; omega; omega)))
 (apply Tot.ite <;> intro hT <;> try simp (disch := omega) only [tfx.down,q9,qa] at hT)
 ·refine Tot.bind (zd0 s hs w es (v.2.1 + 1) (by omega) (by omega)) fun y hy => ?_
  refine Tot.ite (fun hT => ?_) fun hT => ?_ <;> (try simp only [tfx.down] at hT) <;> (try simp (disch := omega) only [q9,qa] at hT)
  ·have hc3 := hT
   obtain ⟨k1,k2,k3⟩ := hy hc3.1
   (repeat (first | (rw [q9]; rotate_left; omega; omega) | (rw [qa]; rotate_left; omega; omega)))
   refine Tot.bind (Tot.get (by omega) (by omega)) fun d hd => ?_
   refine .ret fun h => ⟨by simp only; omega,by simp only; omega, ?_⟩
   simp only [vg,g4,g6,List.map_nil,qd]
   omega
  ·exact .ret (by simp [q83])
 ·exact .ret (by simp [q83])
theorem Seen.set {s : Bytes} {w : List T.qb} {es : List Int} (hS : Seen s w es) {at_ : Int} (h0 : 0 ≤ at_) (h1 : at_ < s.length) {x : T.qb} {e : Int} (h : at_ < e ∧ e ≤ s.length ∧ (snW x + 2 : Int) ≤ 1000 * (e - at_)) :
  Seen s (w.set at_.toNat x) (es.set at_.toNat e) where
 lw := by simpa using hS.lw
 le := by simpa using hS.le
 ok := by
  intro p e2 x2 h2 h3 h4
  rw [List.getElem?_set] at h2 h4
  by_cases hp : at_.toNat = p
  ·subst hp
   have l1 : at_.toNat < es.length := by have := hS.le; omega
   have l2 : at_.toNat < w.length := by have := hS.lw; omega
   simp only [if_true,l1,l2,Option.some.injEq] at h2 h4
   subst h2 h4
   rw [Int.toNat_of_nonneg h0]
   exact h
  ·rw [if_neg hp] at h2 h4
   exact hS.ok p e2 x2 h2 h3 h4
theorem zgy (s : Bytes) (hs : s.length ≤ BN) : ∀ (m : Nat) (at_ : Int) (w : List T.qb) (es : List Int),m = (at_ + 1).toNat → -1 ≤ at_ → at_ < s.length → Seen s w es →
  Tot (q3v (s,at_,w,es,s)) (fun r => Seen s r.1 r.2) := by
 have hB : s.length ≤ 8192 := hs
 intro m
 induction m using Nat.strongRecOn with
 | _ m ih =>
 intro at_ w es hm h0 h1 hS
 rw [q3v.eq_1]
 (apply Tot.ite <;> intro hT <;> try simp (disch := omega) only [tfx.down,q9,qa] at hT)
 ·refine Tot.bind (Tot.get (by omega) (by omega)) fun c hc => ?_
  (apply Tot.ite <;> intro hT <;> try simp (disch := omega) only [tfx.down,q9,qa] at hT)
  ·refine Tot.bind (qy4 s hs w es hS at_ (by omega) h1) fun y hy => ?_
   (apply Tot.ite <;> intro hT <;> try simp (disch := omega) only [tfx.down,q9,qa] at hT)
   ·have hc2 := hT
    refine Tot.bind (Tot.get (by omega) (by have := hS.lw; omega)) fun p hp => ?_
    refine Tot.bind (Tot.get (by omega) (by have := hS.le; omega)) fun q hq => ?_
    (repeat (first | (rw [q9]; rotate_left; omega; omega) | (rw [qa]; rotate_left; omega; omega)))
    exact ih _ (by omega) (at_ - 1) _ _ rfl (by omega) (by omega) (hS.set (by omega) h1 (hy hc2))
   ·(repeat (first | (rw [q9]; rotate_left; omega; omega) | (rw [qa]; rotate_left; omega; omega)))
    exact ih _ (by omega) (at_ - 1) _ _ rfl (by omega) (by omega) hS
  ·(repeat (first | (rw [q9]; rotate_left; omega; omega) | (rw [qa]; rotate_left; omega; omega)))
   exact ih _ (by omega) (at_ - 1) _ _ rfl (by omega) (by omega) hS
 ·exact .ret hS
end Go.Proofs.YtdhgdeelagmbpaaGreat
set_option linter.unusedSimpArgs false
set_option linter.unusedVariables false
namespace Go.Proofs.YtdhgdeelagmbpaaGreat
open Go Go.Gm
theorem qk2 : ∀ (n : Nat) (l : Sl T.qb),qd (l.l.map snW) ≤ n → n ≤ 100000000 → Tot (q5n l) (fun r => 0 ≤ r ∧ r ≤ n) := by
 intro n
 induction n using Nat.strongRecOn with
 | _ n ih =>
 intro l hl hn
 have hlen := xn q2g l.l
 have loop : ∀ (r : List T.qb) (k : Nat) (d : Int),l.l.drop k = r → 0 ≤ d → d ≤ n → Tot (q3i (l,d,(k : Int))) (fun r => 0 ≤ r ∧ r ≤ n) := by
  intro r
  induction r with
  | nil =>
   intro k d hk h1 h2
   rw [q3i.eq_1]
   have := nz hk
   (apply Tot.ite <;> intro hT <;> try simp (disch := omega) only [tfx.down,q9,qa] at hT)
   ·omega
   ·exact .ret ⟨h1,h2⟩
  | cons x r ihr =>
   intro k d hk h1 h2
   obtain ⟨e1,e2,e3⟩ := drop_cons hk
   have hx := uu (f := snW) (List.mem_of_getElem? e1)
   have hxw := vg x
   rw [q3i.eq_1]
   have e4 : IntKind.i64.wrap ((k : Int) + 1) = ((k + 1 : Nat) : Int) := q2y (by omega)
   rw [e4]
   (apply Tot.ite <;> intro hT <;> try simp (disch := omega) only [tfx.down,q9,qa] at hT)
   ·refine Tot.bind (P := fun y => y = x) ⟨x,by rw [xw e3]; simpa [List.getElem?_eq_getElem e3] using e1,rfl⟩ fun y hy => ?_
    subst hy
    refine Tot.bind (ih (n - 1) (by omega) y.kids (by omega) (by omega)) fun z hz => ?_
    (apply Tot.ite <;> intro hT <;> try simp (disch := omega) only [tfx.down,q9,qa] at hT)
    ·(repeat (first | (rw [q9]; rotate_left; omega; omega) | (rw [qa]; rotate_left; omega; omega)))
     exact ihr (k + 1) _ e2 (by split <;> omega) (by split <;> omega)
    ·exact ihr (k + 1) _ e2 (by split <;> omega) (by split <;> omega)
   ·omega
 have h := loop l.l 0 0 rfl (by omega) (by omega)
 rw [show ((0 : Nat) : Int) = 0 from rfl] at h
 rw [q5n.eq_1]
 first
 | exact h
 | (refine Tot.bind h fun v hv => ?_; exact .ret hv)
theorem zid (s : Bytes) (x : T.qb) : Seen s (List.replicate s.length x) (List.replicate s.length (0 : Int)) where
 lw := by simp
 le := by simp
 ok := by
  intro p e y h1 h2 h3
  have : e = 0 := by
   have := List.mem_of_getElem? h1
   exact (List.mem_replicate.1 this).2
  omega
theorem qs4 (s : Bytes) : Tot (qaw s) (fun r => qd (r.1.l.map snW) ≤ 8192002 ∧ (r.2 = 0 → s.length ≤ BN)) := by
 unfold qaw
 (apply Tot.ite <;> intro hT <;> try simp (disch := omega) only [tfx.down,q9,qa] at hT)
 ·exact .ret ⟨by simp [qd],by simp⟩
 ·have hc := hT
  have hs : s.length ≤ BN := by unfold BN; omega
  have e : (s.length : Int).toNat = s.length := by simp
  refine Tot.need (by omega) ?_
  rw [e]
  refine Tot.need (zt (by omega) (by omega)) ?_
  refine Tot.need (by omega) ?_
  refine Tot.need (zt (by omega) (by omega)) ?_
  (repeat (first | (rw [q9]; rotate_left; omega; omega) | (rw [qa]; rotate_left; omega; omega)))
  refine Tot.bind (zgy s hs _ ((s.length : Int) - 1) _ _ rfl (by omega) (by omega) (zid s _)) fun v hv => ?_
  refine Tot.bind (qjw s hs v.1 v.2 hv 0 (by omega) (by omega) false) fun y hy => ?_
  obtain ⟨k1,k2,_,k4⟩ := hy.1 (hy.2 rfl)
  refine Tot.bind (qk2 8192002 y.1 (by omega) (by omega)) fun z hz => ?_
  (apply Tot.ite <;> intro hT <;> try simp (disch := omega) only [tfx.down,q9,qa] at hT)
  ·exact .ret ⟨by simp [qd],fun _ => hs⟩
  ·exact .ret ⟨by simp only; omega,fun _ => hs⟩
end Go.Proofs.YtdhgdeelagmbpaaGreat
set_option linter.unusedSimpArgs false
set_option linter.unusedVariables false
namespace Go.Proofs.YtdhgdeelagmbpaaGreat
open Go Go.Gm
theorem zw {α : Type} {xs : List α} {k : Nat} (h : xs.drop k = []) : ¬ ((k : Int) < (xs.length : Int)) := by
 have := nz h; omega
theorem zq {α : Type} {xs r : List α} {x : α} {k : Nat} (h : xs.drop k = x :: r) : (k : Int) < (xs.length : Int) ∧ qh xs (k : Int) = some x ∧ xs.drop (k + 1) = r ∧ x ∈ xs := by
 obtain ⟨a,b,c⟩ := drop_cons h
 refine ⟨by omega, ?_,b,List.mem_of_getElem? a⟩
 rw [xw c]
 simpa [List.getElem?_eq_getElem c] using a
theorem wrS {α : Type} {xs : List α} {k : Nat} (hl : xs.length ≤ 9223372036854775807) (h : (k : Int) < (xs.length : Int)) : IntKind.i64.wrap ((k : Int) + 1) = ((k + 1 : Nat) : Int) := q2y (by omega)
theorem wr {n : Int} (h1 : -(2 ^ 62) ≤ n) (h2 : n ≤ 2 ^ 62) : IntKind.i64.wrap n = n := q9 (by omega) (by omega)
theorem qbw {P : T.Rx → Prop} (h : ∀ x,(∀ y ∈ x.kids.l,P y) → P x) (x : T.Rx) : P x := by
 have key : ∀ n (x : T.Rx),rxW x < n → P x := by
  intro n
  induction n with
  | zero => intro x hx; omega
  | succ n ih =>
   intro x hx
   refine h x fun y hy => ih y ?_
   have := uu (f := rxW) hy
   have := jm x
   omega
 exact key _ x (Nat.lt_succ_self _)
theorem q7b (x : T.Rx) : x.kids.l.length < rxW x := by have := xn q7d x.kids.l; rw [jm]; omega
theorem qot {x y : T.Rx} (h : y ∈ x.kids.l) : rxW y < rxW x := by have := uu (f := rxW) h; rw [jm x]; omega
abbrev Light (x : T.Rx) : Prop := rxW x ≤ 1099511627776
theorem q2v {x y : T.Rx} (h : Light x) (hy : y ∈ x.kids.l) : Light y := by have := qot hy; unfold Light at *; omega
theorem znc : ∀ x : T.Rx,Light x → Tot (q4y x) (fun _ => True) := by
 apply qbw (P := fun x => Light x → Tot (q4y x) (fun _ => True))
 intro x ih0 hw
 have hk := q7b x
 have key : ∀ (r : List T.Rx) (k : Nat) (n : Int),x.kids.l.drop k = r → Tot (q4d (n,(k : Int),x)) (fun _ => True) := by
  intro r
  induction r with
  | nil =>
   intro k n hd
   rw [q4d.eq_1,if_neg (by simpa using zw hd)]
   exact .ret trivial
  | cons y r ih =>
   intro k n hd
   obtain ⟨a1,a2,a3,a4⟩ := zq hd
   rw [q4d.eq_1,if_pos (by simpa using a1),wrS (by unfold Light at hw; omega) a1]
   refine Tot.go a2 ?_
   exact Tot.bind (ih0 y a4 (q2v hw a4)) fun v _ => ih (k + 1) _ a3
 rw [q4y.eq_1]
 exact Tot.bind (key x.kids.l 0 1 rfl) fun v _ => .ret trivial
theorem zbf : ∀ x : T.Rx,Light x → Tot (q50 x) (fun _ => True) := by
 apply qbw (P := fun x => Light x → Tot (q50 x) (fun _ => True))
 intro x ih0 hw
 have hk := q7b x
 have key : ∀ (r : List T.Rx) (k : Nat) (n : Int),x.kids.l.drop k = r → Tot (q5x (n,(k : Int),x)) (fun _ => True) := by
  intro r
  induction r with
  | nil =>
   intro k n hd
   rw [q5x.eq_1,if_neg (by simpa using zw hd)]
   exact .ret trivial
  | cons y r ih =>
   intro k n hd
   obtain ⟨a1,a2,a3,a4⟩ := zq hd
   rw [q5x.eq_1,if_pos (by simpa using a1),wrS (by unfold Light at hw; omega) a1]
   refine Tot.go a2 ?_
   exact Tot.bind (ih0 y a4 (q2v hw a4)) fun v _ => ih (k + 1) _ a3
 rw [q50.eq_1]
 refine Tot.bind (key x.kids.l 0 0 rfl) fun v _ => ?_
 (apply Tot.ite <;> intro hT <;> try simp (disch := omega) only [tfx.down,q9,qa] at hT)
 ·exact .ret trivial
 ·exact .ret trivial
mutual
def rxG : T.Rx → Nat
 | ⟨k,_,_,_,_,_,_,s⟩ => (if k = 5 then 1 else 0) + qj1 s
def qj1 : Sl T.Rx → Nat
 | ⟨_,l⟩ => q9z l
def q9z : List T.Rx → Nat
 | [] => 0
 | x :: r => rxG x + q9z r
end
theorem qiq : ∀ l : List T.Rx,q9z l = qd (l.map rxG)
 | [] => by simp [q9z,qd]
 | x :: r => by simp [q9z,qd,qiq r]
theorem q9w (x : T.Rx) : rxG x = (if x.kind = 5 then 1 else 0) + qd (x.kids.l.map rxG) := by
 obtain ⟨a,b,c,d,e,f,g,h⟩ := x
 obtain ⟨u,l⟩ := h
 simp [rxG,qj1,qiq]
theorem qo2 {α : Type} {f g : α → Nat} : ∀ {l : List α},(∀ a ∈ l,f a ≤ g a) → qd (l.map f) ≤ qd (l.map g)
 | [],_ => by simp [qd]
 | a :: l,h => by
  have h1 := h a (by simp)
  have h2 := qo2 (l := l) fun b hb => h b (by simp [hb])
  simp only [List.map_cons,qd]
  omega
theorem qhx : ∀ x : T.Rx,rxG x ≤ rxW x := by
 apply qbw
 intro x ih
 have := qo2 ih
 rw [q9w,jm]
 split <;> omega
theorem qap : ∀ x : T.Rx,Light x → q0o x = some (rxG x : Int) := by
 apply qbw (P := fun x => Light x → q0o x = some (rxG x : Int))
 intro x ih0 hw
 have hk := q7b x
 have hp := qhx x
 have key : ∀ (r : List T.Rx) (k n : Nat),x.kids.l.drop k = r → n + qd (r.map rxG) ≤ 1099511627776 → q3a ((n : Int),(k : Int),x) = some ((n + qd (r.map rxG) : Nat) : Int) := by
  intro r
  induction r with
  | nil =>
   intro k n hd _
   rw [q3a.eq_1,if_neg (by simpa using zw hd)]
   simp [qd]
  | cons y r ih =>
   intro k n hd hn
   obtain ⟨a1,a2,a3,a4⟩ := zq hd
   simp only [List.map_cons,qd] at hn
   have e : IntKind.i64.wrap ((n : Int) + (rxG y : Int)) = ((n + rxG y : Nat) : Int) := by rw [wr (by omega) (by omega)]; omega
   rw [q3a.eq_1]
   simp only [a1,decide_true,if_true,a2,Option.bind_eq_bind,Option.bind_some,ih0 y a4 (q2v hw a4),wrS (by unfold Light at hw; omega) a1,e]
   rw [ih (k + 1) (n + rxG y) a3 (by omega)]
   simp only [List.map_cons,qd,Option.some.injEq,Int.natCast_inj]
   omega
 have hg := q9w x
 rw [q0o.eq_1]
 unfold Light at hw
 by_cases h5 : x.kind = 5
 ·rw [if_pos h5] at hg
  have h := key x.kids.l 0 1 rfl (by omega)
  rw [if_pos (by simp [h5]),show ((1 : Int),(0 : Int),x) = (((1 : Nat) : Int),((0 : Nat) : Int),x) from rfl,h]
  simp [hg]
 ·rw [if_neg h5] at hg
  have h := key x.kids.l 0 0 rfl (by omega)
  rw [if_neg (by simp [h5]),show ((0 : Int),(0 : Int),x) = (((0 : Nat) : Int),((0 : Nat) : Int),x) from rfl,h]
  simp [hg]
inductive WF : T.Rx → Prop
 | mk (x : T.Rx) (hk : ∀ y ∈ x.kids.l,WF y) (h1 : x.kind = 5 ∨ x.kind = 6 ∨ x.kind = 7 → ∃ y,x.kids.l = [y]) (h7 : x.kind = 7 → ∀ y ∈ x.kids.l,2 ≤ y.kind ∧ y.kind ≤ 6) : WF x
theorem WF.kids {x : T.Rx} (h : WF x) : ∀ y ∈ x.kids.l,WF y := by cases h; assumption
theorem WF.one {x : T.Rx} (h : WF x) : x.kind = 5 ∨ x.kind = 6 ∨ x.kind = 7 → ∃ y,x.kids.l = [y] := by cases h; assumption
theorem WF.rep {x : T.Rx} (h : WF x) : x.kind = 7 → ∀ y ∈ x.kids.l,2 ≤ y.kind ∧ y.kind ≤ 6 := by cases h; assumption
theorem q6f (x : T.Rx) : Tot (q1o x) (fun _ => True) := by
 unfold q1o
 (apply Tot.ite <;> intro hT <;> try simp (disch := omega) only [tfx.down,q9,qa] at hT)
 ·exact .ret trivial
 ·exact .ret trivial
def q5y (b : UInt8) : Bool := decide ((b.toNat : Int) < 128) || decide ((b.toNat : Int) > 191)
theorem qd1 (b : UInt8) : q38 b = some (q5y b) := by
 unfold q38 q5y
 by_cases h : (b.toNat : Int) < 128 <;> simp [h]
theorem qlh (s : Bytes) (hl : s.length ≤ 1099511627776) : ∀ (r : Bytes) (k f : Nat) (l : List Bytes),s.drop k = r → k ≤ s.length → f ≤ k → l.length ≤ k →
  ∃ out,yc (s,(f : Int),(k : Int),l) = some out ∧ out.length = l.length + r.countP q5y + 1 := by
 have room : ∀ n,n ≤ 1099511627777 → ql n 16 = true := by
  intro n hn
  simp only [ql,Bool.and_eq_true,decide_eq_true_eq]
  omega
 intro r
 induction r with
 | nil =>
  intro k f l hk hkl hf hll
  have h1 := nz hk
  obtain rfl : k = s.length := by omega
  have hs : sub2 s (f : Int) (s.length : Int) = some (s.drop f) := by
   unfold sub2
   rw [if_pos (by simp; omega)]
   simp
  rw [yc.eq_1]
  simp only [Int.le_refl,decide_true,if_true,beq_self_eq_true,hs,Option.bind_eq_bind,Option.bind_some,room _ (show l.length + 1 ≤ _ by omega)]
  rw [yc.eq_1,if_neg (by rw [wr (by omega) (by omega)]; simp; omega)]
  exact ⟨_,rfl,by simp⟩
 | cons b r ih =>
  intro k f l hk hkl hf hll
  obtain ⟨a1,a2,a3,_⟩ := zq hk
  have h1 : ((k : Int) ≤ (s.length : Int)) := by omega
  have h2 : ((k : Int) == (s.length : Int)) = false := by simp; omega
  have hs : sub2 s (f : Int) (k : Int) = some ((s.take k).drop f) := by
   unfold sub2
   rw [if_pos (by simp; omega)]
   simp
  rw [yc.eq_1]
  simp only [h1,decide_true,if_true,h2,Bool.false_eq_true,if_false,a2,Option.bind_eq_bind,Option.bind_some,qd1,wrS (by omega) a1]
  cases hb : q5y b
  ·obtain ⟨out,o1,o2⟩ := ih (k + 1) f l a3 (by omega) (by omega) (by omega)
   exact ⟨out,by simpa using o1,by rw [o2]; simp [List.countP_cons,hb]⟩
  ·obtain ⟨out,o1,o2⟩ := ih (k + 1) k (l ++ [(s.take k).drop f]) a3 (by omega) (by omega) (by simp; omega)
   refine ⟨out, ?_,by rw [o2]; simp [List.countP_cons,hb]; omega⟩
   simp only [if_true,hs,Option.bind_some,room _ (show l.length + 1 ≤ _ by omega),o1]
theorem qha (c : Bytes) (hl : c.length ≤ 1099511627776) : Tot (mg c) (fun _ => True) := by
 unfold mg q31
 (apply Tot.ite <;> intro hT <;> try simp (disch := omega) only [tfx.down,q9,qa] at hT)
 ·refine Tot.bind (Tot.get (by omega) (by omega)) fun b hb => ?_
  refine Tot.go (qd1 b) ?_
  (apply Tot.ite <;> intro hT <;> try simp (disch := omega) only [tfx.down,q9,qa] at hT)
  ·obtain ⟨out,o1,o2⟩ := qlh c hl (c.drop 1) 1 0 [] rfl (by omega) (by omega) (by simp)
   exact Tot.go (Option.bind_eq_some_iff.2 ⟨out,o1,rfl⟩) (.ret trivial)
  ·exact .ret trivial
 ·exact .ret trivial
theorem zpn (rows : Sl T.Row) (hw : qd (rows.l.map zl) ≤ 1099511627776) : Tot (qar rows) (fun _ => True) := by
 have hll : rows.l.length ≤ 1099511627776 := by have := xn q5b rows.l; omega
 have key : ∀ (r : List T.Row) (k : Nat),rows.l.drop k = r → Tot (q47 (rows,(k : Int))) (fun _ => True) := by
  intro r
  induction r with
  | nil =>
   intro k hk
   rw [q47.eq_1,if_neg (by simpa using zw hk)]
   exact .ret trivial
  | cons x r ih =>
   intro k hk
   obtain ⟨a1,a2,a3,a4⟩ := zq hk
   have hx : zl x ≤ 1099511627776 := by have := uu (f := zl) a4; omega
   have ih := ih (k + 1) a3
   unfold zl at hx
   rw [q47.eq_1,if_pos (by simpa using a1),wrS (by omega) a1]
   refine Tot.go a2 ?_
   refine Tot.bind (qha x.frm (by omega)) fun v _ => ?_
   (apply Tot.ite <;> intro hT <;> try simp (disch := omega) only [tfx.down,q9,qa] at hT)
   ·exact .ret trivial
   refine Tot.bind (qha x.to (by omega)) fun w _ => ?_
   (apply Tot.ite <;> intro hT <;> try simp (disch := omega) only [tfx.down,q9,qa] at hT)
   ·exact .ret trivial
   (apply Tot.ite <;> intro hT <;> try simp (disch := omega) only [tfx.down,q9,qa] at hT)
   ·(repeat (first | (rw [q9]; rotate_left; omega; omega) | (rw [qa]; rotate_left; omega; omega)))
    refine Tot.bind (Tot.get (by omega) (by omega)) fun b hb => ?_
    (apply Tot.ite <;> intro hT <;> try simp (disch := omega) only [tfx.down,q9,qa] at hT)
    ·exact .ret trivial
    ·exact ih
   ·exact ih
 unfold qar
 refine Tot.bind (key rows.l 0 rfl) fun v _ => ?_
 rcases v with v | v <;> exact .ret trivial
theorem qh3 {o : Option (Bool ⊕ Unit)} {f : Unit → Option Bool} {P : Prop} (h : Tot o (fun v => v = .inl true → False)) (h2 : o = some (.inr ()) → Tot (f ()) (fun c => c = true → P)) :
  Tot (o >>= fun v => match v with | .inl y => some y | .inr y => f y) (fun c => c = true → P) := by
 obtain ⟨v,rfl,hv⟩ := h
 rcases v with v | v
 ·refine Tot.go rfl (.ret fun hc => ?_)
  exact absurd (congrArg Sum.inl hc) hv
 ·exact Tot.go rfl (h2 rfl)
theorem zj3 (x : T.Rx) (hl : x.kids.l.length ≤ 9223372036854775807) : ∀ (r : List T.Rx) (k : Nat),x.kids.l.drop k = r → Tot (q4i ((x.kids.l.length : Int),(k : Int),x)) (fun v => v = .inl true → False) := by
 intro r
 induction r with
 | nil =>
  intro k hk
  rw [q4i.eq_1,if_neg (by simpa using zw hk)]
  exact .ret (by simp)
 | cons y r ih =>
  intro k hk
  obtain ⟨a1,a2,a3,a4⟩ := zq hk
  rw [q4i.eq_1,if_pos (by simpa using a1),wrS hl a1]
  refine Tot.go a2 ?_
  (apply Tot.ite <;> intro hT <;> try simp (disch := omega) only [tfx.down,q9,qa] at hT)
  ·exact .ret (by simp)
  (apply Tot.ite <;> intro hT <;> try simp (disch := omega) only [tfx.down,q9,qa] at hT)
  ·exact .ret (by simp)
  ·exact ih (k + 1) a3
theorem zn8 (x : T.Rx) (hl : x.kids.l.length ≤ 9223372036854775807) : ∀ (r : List T.Rx) (k : Nat),x.kids.l.drop k = r → Tot (q5e ((x.kids.l.length : Int),(k : Int),x)) (fun v => v = .inl true → False) := by
 intro r
 induction r with
 | nil =>
  intro k hk
  rw [q5e.eq_1,if_neg (by simpa using zw hk)]
  exact .ret (by simp)
 | cons y r ih =>
  intro k hk
  obtain ⟨a1,a2,a3,a4⟩ := zq hk
  rw [q5e.eq_1,if_pos (by simpa using a1),wrS hl a1]
  refine Tot.go a2 ?_
  (apply Tot.ite <;> intro hT <;> try simp (disch := omega) only [tfx.down,q9,qa] at hT)
  ·exact .ret (by simp)
  ·exact ih (k + 1) a3
theorem zk5 (x : T.Rx) : Tot (qck x) (fun c => c = true → ∃ y,x.kids.l = [y] ∧ 2 ≤ y.kind ∧ y.kind ≤ 6) := by
 unfold qck
 (apply Tot.ite <;> intro hT <;> try simp (disch := omega) only [tfx.down,q9,qa] at hT)
 ·exact .ret (by simp)
 ·have h1 : x.kids.l.length = 1 := by omega
  obtain ⟨y,hy⟩ := List.length_eq_one_iff.1 h1
  refine Tot.go (a := y) (by rw [hy]; rfl) ?_
  refine Tot.bind (q6f _) fun v _ => ?_
  (apply Tot.ite <;> intro hT <;> try simp (disch := omega) only [tfx.down,q9,qa] at hT)
  ·(apply Tot.ite <;> intro hT <;> try simp (disch := omega) only [tfx.down,q9,qa] at hT)
   ·exact .ret fun _ => ⟨y,hy,by omega,by omega⟩
   ·refine .ret fun h => ⟨y,hy, ?_⟩
    simp only [beq_iff_eq] at h
    omega
  ·exact .ret (by simp)
theorem qfu {x : T.Rx} (hk : x.kids.l = []) (h : x.kind ≠ 5 ∧ x.kind ≠ 6 ∧ x.kind ≠ 7) : WF x := .mk x (by simp [hk]) (fun h2 => by omega) (fun h2 => by omega)
theorem len_nil {α : Type} {l : List α} (h : (l.length : Int) = 0) : l = [] := by
 cases l with
 | nil => rfl
 | cons _ _ => simp at h; omega
theorem qrc : ∀ x : T.Rx,Light x → Tot (q4r x) (fun c => c = true → WF x) := by
 apply qbw (P := fun x => Light x → Tot (q4r x) (fun c => c = true → WF x))
 intro x ih0 hw
 have hk := q7b x
 have hx := jm x
 have hl : x.kids.l.length ≤ 9223372036854775807 := by unfold Light at hw; omega
 have key : ∀ (r : List T.Rx) (k : Nat),x.kids.l.drop k = r → Tot (q5q ((x.kids.l.length : Int),(k : Int),x)) (fun v => (v = .inl true → False) ∧ (v = .inr () → ∀ y ∈ r,WF y)) := by
  intro r
  induction r with
  | nil =>
   intro k hd
   rw [q5q.eq_1,if_neg (by simpa using zw hd)]
   exact .ret ⟨by simp,by simp⟩
  | cons y r ih =>
   intro k hd
   obtain ⟨a1,a2,a3,a4⟩ := zq hd
   rw [q5q.eq_1,if_pos (by simpa using a1),wrS hl a1]
   refine Tot.go a2 ?_
   refine Tot.bind (ih0 y a4 (q2v hw a4)) fun v hv => ?_
   (apply Tot.ite <;> intro hT <;> try simp (disch := omega) only [tfx.down,q9,qa] at hT)
   ·exact .ret ⟨by simp,by simp⟩
   ·have hv := hv hT
    refine (ih (k + 1) a3).mono fun w h => ⟨h.1,fun hw => ?_⟩
    intro z hz
    rcases List.mem_cons.1 hz with rfl | hz
    ·exact hv
    ·exact h.2 hw z hz
 have key := key x.kids.l 0 rfl
 rw [show ((0 : Nat) : Int) = 0 from rfl] at key
 have e3 := zj3 x hl x.kids.l 0 rfl
 have e5 := zn8 x hl x.kids.l 0 rfl
 rw [show ((0 : Nat) : Int) = 0 from rfl] at e3 e5
 unfold Light at hw
 rw [q4r.eq_1]
 refine qh3 (key.mono fun v h => h.1) fun hr => ?_
 obtain ⟨v,hv1,hv2⟩ := key
 rw [hr] at hv1
 cases hv1
 have kids := hv2.2 rfl
 (apply Tot.ite <;> intro hT <;> try simp (disch := omega) only [tfx.down,q9,qa] at hT)
 ·have h0 := hT
  refine qh3 e3 fun _ => ?_
  refine Tot.bind (q6f _) fun v _ => ?_
  (apply Tot.ite <;> intro hT <;> try simp (disch := omega) only [tfx.down,q9,qa] at hT)
  ·exact .ret fun _ => .mk x kids (fun h => by omega) (fun h => by omega)
  ·exact .ret (by simp)
 (apply Tot.ite <;> intro hT <;> try simp (disch := omega) only [tfx.down,q9,qa] at hT)
 ·have h0 := hT
  refine qh3 e5 fun _ => ?_
  refine Tot.bind (q6f _) fun v _ => ?_
  (apply Tot.ite <;> intro hT <;> try simp (disch := omega) only [tfx.down,q9,qa] at hT)
  ·exact .ret fun _ => .mk x kids (fun h => by omega) (fun h => by omega)
  ·exact .ret (by simp)
 (apply Tot.ite <;> intro hT <;> try simp (disch := omega) only [tfx.down,q9,qa] at hT)
 ·have h0 := hT
  refine Tot.bind (q6f _) fun v _ => ?_
  (apply Tot.ite <;> intro hT <;> try simp (disch := omega) only [tfx.down,q9,qa] at hT)
  ·have h1 := hT
   refine Tot.bind (qha x.char (by omega)) fun v _ => ?_
   exact .ret fun _ => qfu (len_nil h1.2) (by omega)
  ·exact .ret (by simp)
 (apply Tot.ite <;> intro hT <;> try simp (disch := omega) only [tfx.down,q9,qa] at hT)
 ·have h0 := hT
  refine Tot.bind (q6f _) fun v _ => ?_
  (apply Tot.ite <;> intro hT <;> try simp (disch := omega) only [tfx.down,q9,qa] at hT)
  ·refine .ret fun h => qfu (len_nil (by simpa using h)) (by omega)
  ·exact .ret (by simp)
 (apply Tot.ite <;> intro hT <;> try simp (disch := omega) only [tfx.down,q9,qa] at hT)
 ·have h0 := hT
  refine Tot.bind (q6f _) fun v _ => ?_
  (apply Tot.ite <;> intro hT <;> try simp (disch := omega) only [tfx.down,q9,qa] at hT)
  ·have h1 := hT
   refine Tot.bind (zpn x.rows (by omega)) fun v _ => ?_
   exact .ret fun _ => qfu (len_nil h1.2) (by omega)
  ·exact .ret (by simp)
 (apply Tot.ite <;> intro hT <;> try simp (disch := omega) only [tfx.down,q9,qa] at hT)
 ·have h0 := hT
  refine Tot.bind (q6f _) fun v _ => ?_
  (apply Tot.ite <;> intro hT <;> try simp (disch := omega) only [tfx.down,q9,qa] at hT)
  ·refine .ret fun h => .mk x kids (fun _ => ?_) (fun h => by omega)
   exact List.length_eq_one_iff.1 (by simp at h; omega)
  ·exact .ret (by simp)
 (apply Tot.ite <;> intro hT <;> try simp (disch := omega) only [tfx.down,q9,qa] at hT)
 ·have h0 := hT
  refine Tot.bind (zk5 x) fun v hv => ?_
  refine .ret fun h => ?_
  obtain ⟨y,y1,y2⟩ := hv h
  refine .mk x kids (fun _ => ⟨y,y1⟩) (fun _ z hz => ?_)
  rw [y1] at hz
  simp only [List.mem_singleton] at hz
  subst hz
  exact y2
 ·exact .ret (by simp)
theorem qh5 (x : T.Rx) (hw : Light x) : Tot (q7m x) (fun c => c = true → WF x) := by
 unfold q7m
 refine Tot.bind (znc x hw) fun v _ => ?_
 (apply Tot.ite <;> intro hT <;> try simp (disch := omega) only [tfx.down,q9,qa] at hT)
 ·refine Tot.bind (zbf x hw) fun v _ => ?_
  (apply Tot.ite <;> intro hT <;> try simp (disch := omega) only [tfx.down,q9,qa] at hT)
  ·refine Tot.bind (qrc x hw) fun v hv => ?_
   exact .ret hv
  ·exact .ret (by simp)
 ·exact .ret (by simp)
end Go.Proofs.YtdhgdeelagmbpaaGreat
set_option linter.unusedSimpArgs false
set_option linter.unusedVariables false
namespace Go.Proofs.YtdhgdeelagmbpaaGreat
open Go Go.Gm
theorem qlk (fs : Sl T.Fmt) (hl : fs.l.length ≤ 1099511627776) : Tot (q8h fs) (fun c => c = true → ∀ f ∈ fs.l,0 ≤ f.n) := by
 have key : ∀ (r : List T.Fmt) (k : Nat),fs.l.drop k = r → Tot (uf (fs,(k : Int))) (fun v => (v = .inl true → False) ∧ (v = .inr () → ∀ f ∈ r,0 ≤ f.n)) := by
  intro r
  induction r with
  | nil =>
   intro k hk
   rw [uf.eq_1,if_neg (by simpa using zw hk)]
   exact .ret ⟨by simp,by simp⟩
  | cons x r ih =>
   intro k hk
   obtain ⟨a1,a2,a3,a4⟩ := zq hk
   have ih := ih (k + 1) a3
   have next : 0 ≤ x.n → Tot (uf (fs,((k + 1 : Nat) : Int))) (fun v => (v = .inl true → False) ∧ (v = .inr () → ∀ f ∈ x :: r,0 ≤ f.n)) := by
    intro hx
    refine ih.mono fun v h => ⟨h.1,fun hw z hz => ?_⟩
    rcases List.mem_cons.1 hz with rfl | hz
    ·exact hx
    ·exact h.2 hw z hz
   have prev : ¬ (k : Int) = 0 → ∀ {f : T.Fmt → Option (Bool ⊕ Unit)} {Q : Bool ⊕ Unit → Prop},(∀ y,Tot (f y) Q) → Tot (qh fs.l (IntKind.i64.wrap ((k : Int) - 1)) >>= f) Q := by
    intro h f Q hf
    (repeat (first | (rw [q9]; rotate_left; omega; omega) | (rw [qa]; rotate_left; omega; omega)))
    exact Tot.bind (Tot.get (by omega) (by omega)) fun y _ => hf y
   rw [uf.eq_1,if_pos (by simpa using a1),wrS (by omega) a1]
   refine Tot.go a2 ?_
   repeat' (first | exact .ret ⟨by simp,by simp⟩ | (apply Tot.ite <;> intro hT <;> try simp (disch := omega) only [tfx.down,q9,qa] at hT) | (refine prev ‹_› fun y => ?_) | refine Tot.bind (qld _) fun v _ => ?_)
   all_goals exact next (by omega)
 unfold q8h
 refine Tot.bind (key fs.l 0 rfl) fun v hv => ?_
 rcases v with v | v
 ·exact .ret fun h => by subst h; exact absurd rfl hv.1
 ·exact .ret fun _ => hv.2 rfl
theorem qlp (f : T.Form) (hw : xu f ≤ 1099511627776) : Tot (q92 f) (fun c => c = true → WF f.rx) := by
 have hl := xn qea f.fmts.l
 unfold xu at hw
 unfold q92
 refine Tot.bind (qh5 f.rx (by unfold Light; omega)) fun v hv => ?_
 (apply Tot.ite <;> intro hT <;> try simp (disch := omega) only [tfx.down,q9,qa] at hT)
 ·have h := hT
  refine Tot.bind (qlk f.fmts (by omega)) fun w _ => ?_
  exact .ret fun _ => hv h
 ·exact .ret (by simp)
def q4v : T.Rx := T.Rx.mk (0 : Int) ([] : Bytes) false (⟨true,[]⟩ : (Sl T.Row)) (0 : Int) (0 : Int) false (⟨true,[]⟩ : (Sl T.Rx))
def q5h : T.Form := T.Form.mk q4v (⟨true,([] : List T.Fmt)⟩ : (Sl T.Fmt)) false false
theorem qsf (x : T.Rx) : Tot (q6m (x,q4v)) (fun _ => True) := by
 rw [q6m.eq_1]
 (apply Tot.ite <;> intro hT <;> try simp (disch := omega) only [tfx.down,q9,qa] at hT)
 ·exact .ret trivial
 ·have h := hT
  simp only [q4v,List.length_nil] at h
  have h1 : x.rows.l.length = 0 := by omega
  have h2 : x.kids.l.length = 0 := by omega
  refine Tot.go (a := .inr ()) (by rw [q7y.eq_1]; simp [h1]) ?_
  refine Tot.go (a := .inr ()) (by rw [q8x.eq_1]; simp [h2]) ?_
  exact .ret trivial
theorem qhd (f : T.Form) : Tot (q71 f q5h) (fun _ => True) := by
 unfold q71
 refine Tot.bind (qsf f.rx) fun v _ => ?_
 (apply Tot.ite <;> intro hT <;> try simp (disch := omega) only [tfx.down,q9,qa] at hT)
 ·exact .ret trivial
 ·have h := hT
  simp only [q5h,List.length_nil] at h
  have h1 : f.fmts.l.length = 0 := by omega
  refine Tot.go (a := .inr ()) (by rw [q99.eq_1]; simp [h1]) ?_
  exact .ret trivial
inductive WS : T.qb → Prop
 | mk (x : T.qb) (hk : ∀ y ∈ x.kids.l,WS y) (h0 : x.kind = 0 → x.kids.l = []) (h2 : x.kind = 2 → x.has = false ∧ x.turned = false ∧ x.kids.l = [] ∧ 0 < x.opts.l.length)
   (h1 : x.kind = 1 ∨ x.kind = 3 → x.opts.l = [] ∧ (x.has = true → x.turned = false) ∧ (x.has = false → x.kids.l = [])) (hd : 0 ≤ x.kind ∧ x.kind ≤ 3)
   (hn : x.kind = 1 ∨ x.kind = 2 → 0 ≤ x.n ∧ x.n ≤ 9999) : WS x
def q11 (l : Sl T.qb) : Prop := ∀ x ∈ l.l,WS x
theorem qw7 {P : Sl T.qb → Prop} (h : ∀ l,(∀ x ∈ l.l,P x.kids) → P l) : ∀ l,P l := by
 have key : ∀ n (l : Sl T.qb),qd (l.l.map snW) < n → P l := by
  intro n
  induction n with
  | zero => intro l hl; omega
  | succ n ih =>
   intro l hl
   refine h l fun x hx => ih _ ?_
   have := uu (f := snW) hx
   have := vg x
   omega
 exact fun l => key _ l (Nat.lt_succ_self _)
abbrev q2x (l : Sl T.qb) : Prop := qd (l.l.map snW) ≤ 1099511627775
theorem z1q {l : Sl T.qb} (h : q2x l) : l.l.length ≤ 1099511627775 := by have := xn q2g l.l; unfold q2x at h; omega
theorem qi2 {l : Sl T.qb} (h : q2x l) {x : T.qb} (hx : x ∈ l.l) : snW x ≤ 1099511627775 := by have := uu (f := snW) hx; unfold q2x at h; omega
theorem zcw {l : Sl T.qb} (h : q2x l) {x : T.qb} (hx : x ∈ l.l) : q2x x.kids := by have := qi2 h hx; have := vg x; unfold q2x; omega
theorem zm1 (s : Bytes) (hs : s.length ≤ 1099511627776) : ∀ (r : Bytes) (k : Nat),s.drop k = r → Tot (q0x (s,(k : Int))) (fun _ => True) := by
 intro r
 induction r with
 | nil =>
  intro k hk
  rw [q0x.eq_1,if_neg (by simpa using zw hk)]
  exact .ret trivial
 | cons b r ih =>
  intro k hk
  obtain ⟨a1,a2,a3,a4⟩ := zq hk
  have h := ih (k + 1) a3
  rw [q0x.eq_1,if_pos (by simpa using a1),wrS (by omega) a1]
  refine Tot.go a2 ?_
  refine Tot.bind (q9p b) fun v hv => ?_
  repeat' (first | exact h | exact .ret trivial | (apply Tot.ite <;> intro hT <;> try simp (disch := omega) only [tfx.down,q9,qa] at hT) | refine Tot.bind (q60 b) fun w _ => ?_)
theorem z9h (s : Bytes) (hs : s.length ≤ 1099511627776) : Tot (bf s) (fun _ => True) := by
 unfold bf
 (apply Tot.ite <;> intro hT <;> try simp (disch := omega) only [tfx.down,q9,qa] at hT)
 ·exact .ret trivial
 ·refine Tot.bind (zm1 s hs s 0 rfl) fun v hv => ?_
  rcases v with v | v <;> exact .ret trivial
theorem znq (x : T.qb) (hw : snW x ≤ 1099511627775) (ih : Tot (q1u x.kids) (fun c => c = true → q11 x.kids)) :
  Tot (mh x) (fun c => c = true → x.opts.l = [] ∧ (x.has = true → x.turned = false) ∧ (x.has = false → x.kids.l = []) ∧ q11 x.kids) := by
 have hx := vg x
 rw [mh.eq_1]
 (apply Tot.ite <;> intro hT <;> try simp (disch := omega) only [tfx.down,q9,qa] at hT)
 ·exact .ret (by simp)
 have h1 : x.opts.l = [] := len_nil (by omega)
 (apply Tot.ite <;> intro hT <;> try simp (disch := omega) only [tfx.down,q9,qa] at hT)
 ·have hh := hT
  (apply Tot.ite <;> intro hT <;> try simp (disch := omega) only [tfx.down,q9,qa] at hT)
  ·exact .ret (by simp)
  have ht := hT
  refine Tot.bind (qhd x.form) fun v _ => ?_
  (apply Tot.ite <;> intro hT <;> try simp (disch := omega) only [tfx.down,q9,qa] at hT)
  ·refine Tot.bind ih fun v hv => ?_
   exact .ret fun h => ⟨h1,fun _ => ht,fun h => (by rw [hh] at h; cases h),hv h⟩
  ·exact .ret (by simp)
 have hh := hT
 (apply Tot.ite <;> intro hT <;> try simp (disch := omega) only [tfx.down,q9,qa] at hT)
 ·exact .ret (by simp)
 have hk : x.kids.l = [] := len_nil (by omega)
 have hka : q11 x.kids := fun y hy => by rw [hk] at hy; cases hy
 (apply Tot.ite <;> intro hT <;> try simp (disch := omega) only [tfx.down,q9,qa] at hT)
 ·refine Tot.bind (qlp x.form (by omega)) fun v hv => ?_
  exact .ret fun _ => ⟨h1,fun h => (by rw [hh] at h; cases h),fun _ => hk,hka⟩
 ·refine Tot.bind (qhd x.form) fun v _ => ?_
  (apply Tot.ite <;> intro hT <;> try simp (disch := omega) only [tfx.down,q9,qa] at hT)
  ·refine Tot.bind ih fun v hv => ?_
   exact .ret fun _ => ⟨h1,fun h => (by rw [hh] at h; cases h),fun _ => hk,hka⟩
  ·exact .ret (by simp)
theorem znw : ∀ l,q2x l → Tot (q1u l) (fun c => c = true → q11 l) := by
 apply qw7 (P := fun l => q2x l → Tot (q1u l) (fun c => c = true → q11 l))
 intro l ih0 hw
 have hl := z1q hw
 have key : ∀ (r : List T.qb) (k : Nat),l.l.drop k = r → Tot (jw (l,(k : Int))) (fun v => (v = .inl true → False) ∧ (v = .inr () → ∀ y ∈ r,WS y)) := by
  intro r
  induction r with
  | nil =>
   intro k hd
   rw [jw.eq_1,if_neg (by simpa using zw hd)]
   exact .ret ⟨by simp,by simp⟩
  | cons x r ih =>
   intro k hd
   obtain ⟨a1,a2,a3,a4⟩ := zq hd
   have hx := vg x
   have hxw := qi2 hw a4
   have hst := znq x hxw (ih0 x a4 (zcw hw a4))
   have ih := ih (k + 1) a3
   have next : WS x → Tot (jw (l,((k + 1 : Nat) : Int))) (fun v => (v = .inl true → False) ∧ (v = .inr () → ∀ y ∈ x :: r,WS y)) := by
    intro hx
    refine ih.mono fun v h => ⟨h.1,fun hw z hz => ?_⟩
    rcases List.mem_cons.1 hz with rfl | hz
    ·exact hx
    ·exact h.2 hw z hz
   have stop : ∀ {f : Bool → Option (Bool ⊕ Unit)},(∀ v,(v = true → x.opts.l = [] ∧ (x.has = true → x.turned = false) ∧ (x.has = false → x.kids.l = []) ∧ q11 x.kids) → Tot (f v) (fun v => (v = .inl true → False) ∧ (v = .inr () → ∀ y ∈ x :: r,WS y))) →
     Tot (mh x >>= f) (fun v => (v = .inl true → False) ∧ (v = .inr () → ∀ y ∈ x :: r,WS y)) := fun hf => Tot.bind hst hf
   have prev : ¬ (k : Int) = 0 → ∀ {f : T.qb → Option (Bool ⊕ Unit)},(∀ y,Tot (f y) (fun v => (v = .inl true → False) ∧ (v = .inr () → ∀ y ∈ x :: r,WS y))) → Tot (qh l.l (IntKind.i64.wrap ((k : Int) - 1)) >>= f) (fun v => (v = .inl true → False) ∧ (v = .inr () → ∀ y ∈ x :: r,WS y)) := by
    intro h f hf
    (repeat (first | (rw [q9]; rotate_left; omega; omega) | (rw [qa]; rotate_left; omega; omega)))
    exact Tot.bind (Tot.get (by omega) (by omega)) fun y _ => hf y
   have w1 : x.kind = 1 → 0 ≤ x.n → x.n ≤ 9999 → (x.opts.l = [] ∧ (x.has = true → x.turned = false) ∧ (x.has = false → x.kids.l = []) ∧ q11 x.kids) → WS x := fun a b c d =>
    .mk x d.2.2.2 (fun h => by omega) (fun h => by omega) (fun _ => ⟨d.1,d.2.1,d.2.2.1⟩) (by omega) (fun _ => ⟨b,c⟩)
   have w3 : x.kind = 3 → (x.opts.l = [] ∧ (x.has = true → x.turned = false) ∧ (x.has = false → x.kids.l = []) ∧ q11 x.kids) → WS x := fun a d =>
    .mk x d.2.2.2 (fun h => by omega) (fun h => by omega) (fun _ => ⟨d.1,d.2.1,d.2.2.1⟩) (by omega) (fun h => by omega)
   have w0 : x.kind = 0 → x.kids.l = [] → WS x := fun a b =>
    .mk x (by simp [b]) (fun _ => b) (fun h => by omega) (fun h => by omega) (by omega) (fun h => by omega)
   have w2 : x.kind = 2 → x.kids.l = [] → x.has = false → x.turned = false → 0 < x.opts.l.length → 0 ≤ x.n → x.n ≤ 9999 → WS x := fun a b c d e f g =>
    .mk x (by simp [b]) (fun h => by omega) (fun _ => ⟨c,d,b,e⟩) (fun h => by omega) (by omega) (fun _ => ⟨f,g⟩)
   have hname := z9h x.text (by omega)
   rw [jw.eq_1,if_pos (by simpa using a1),wrS (by omega) a1]
   refine Tot.go a2 ?_
   repeat' (first | exact .ret ⟨by simp,by simp⟩ | (apply Tot.ite <;> intro hT <;> try simp (disch := omega) only [tfx.down,q9,qa] at hT) | (refine prev ‹_› fun y => ?_) | refine Tot.bind (qhd x.form) fun v _ => ?_ | refine Tot.bind hname fun v _ => ?_ | refine stop fun v hv => ?_)
   all_goals refine next ?_
   all_goals first | exact w1 (by omega) (by omega) (by omega) (by simp_all) | exact w3 (by omega) (by simp_all) | exact w0 (by omega) (len_nil (by omega)) | exact w2 (by omega) (len_nil (by omega)) (by simp_all) (by simp_all) (by omega) (by omega) (by omega)
 rw [q1u.eq_1]
 refine Tot.bind (key l.l 0 rfl) fun v hv => ?_
 rcases v with v | v
 ·exact .ret fun h => by subst h; exact absurd rfl hv.1
 ·exact .ret fun _ => hv.2 rfl
theorem z2w (l : Sl T.qb) (hw : qd (l.l.map snW) ≤ 100000000) : Tot (qbn l) (fun c => c = true → q11 l) := by
 unfold qbn
 refine Tot.bind (qk2 _ l (Nat.le_refl _) hw) fun v _ => ?_
 (apply Tot.ite <;> intro hT <;> try simp (disch := omega) only [tfx.down,q9,qa] at hT)
 ·refine Tot.bind (znw l (by unfold q2x; omega)) fun v hv => ?_
  exact .ret hv
 ·exact .ret (by simp)
end Go.Proofs.YtdhgdeelagmbpaaGreat
set_option linter.unusedSimpArgs false
set_option linter.unusedVariables false
namespace Go.Proofs.YtdhgdeelagmbpaaGreat
open Go Go.Gm
theorem zem : ∀ (m : Nat) (i : Int) (b : List UInt8),m = (b.length - i).toNat → 0 ≤ i → b.length ≤ 1099511627776 → Tot (q17 (i,b)) (fun r => r.length = b.length) := by
 intro m
 induction m using Nat.strongRecOn with
 | _ m ih =>
 intro i b hm h0 hB
 rw [q17.eq_1]
 (apply Tot.ite <;> intro hT <;> try simp (disch := omega) only [tfx.down,q9,qa] at hT)
 ·refine Tot.bind (Tot.get (by omega) (by omega)) fun c hc => ?_
  (repeat (first | (rw [q9]; rotate_left; omega; omega) | (rw [qa]; rotate_left; omega; omega)))
  have h := ih _ (by omega) (i + 1) b rfl (by omega) hB
  (apply Tot.ite <;> intro hT <;> try simp (disch := omega) only [tfx.down,q9,qa] at hT)
  ·(apply Tot.ite <;> intro hT <;> try simp (disch := omega) only [tfx.down,q9,qa] at hT)
   ·(repeat (first | (rw [q9]; rotate_left; omega; omega) | (rw [qa]; rotate_left; omega; omega)))
    exact (ih _ (by simp; omega) (i + 1) _ rfl (by omega) (by simpa using hB)).mono fun r hr => by simpa using hr
   ·(repeat (first | (rw [q9]; rotate_left; omega; omega) | (rw [qa]; rotate_left; omega; omega))); exact h
  ·(repeat (first | (rw [q9]; rotate_left; omega; omega) | (rw [qa]; rotate_left; omega; omega))); exact h
 ·exact .ret rfl
theorem qgg (s : Bytes) (hs : s.length ≤ 1099511627776) : Tot (q1x s) (fun r => r.length = s.length) := by
 unfold q1x
 exact Tot.bind (zem _ 0 s rfl (by omega) hs) fun v hv => .ret hv
theorem qsa : ∀ (m : Nat) (i : Int) (b : List UInt8),m = (b.length - i).toNat → 0 ≤ i → b.length ≤ 1099511627776 → Tot (q3r (i,b)) (fun r => r.length = b.length) := by
 intro m
 induction m using Nat.strongRecOn with
 | _ m ih =>
 intro i b hm h0 hB
 rw [q3r.eq_1]
 (apply Tot.ite <;> intro hT <;> try simp (disch := omega) only [tfx.down,q9,qa] at hT)
 ·refine Tot.bind (Tot.get (by omega) (by omega)) fun c hc => ?_
  (repeat (first | (rw [q9]; rotate_left; omega; omega) | (rw [qa]; rotate_left; omega; omega)))
  have h := ih _ (by omega) (i + 1) b rfl (by omega) hB
  (apply Tot.ite <;> intro hT <;> try simp (disch := omega) only [tfx.down,q9,qa] at hT)
  ·(apply Tot.ite <;> intro hT <;> try simp (disch := omega) only [tfx.down,q9,qa] at hT)
   ·(repeat (first | (rw [q9]; rotate_left; omega; omega) | (rw [qa]; rotate_left; omega; omega)))
    exact (ih _ (by simp; omega) (i + 1) _ rfl (by omega) (by simpa using hB)).mono fun r hr => by simpa using hr
   ·(repeat (first | (rw [q9]; rotate_left; omega; omega) | (rw [qa]; rotate_left; omega; omega))); exact h
  ·(repeat (first | (rw [q9]; rotate_left; omega; omega) | (rw [qa]; rotate_left; omega; omega))); exact h
 ·exact .ret rfl
theorem z5o (s : Bytes) (hs : s.length ≤ 1099511627776) : Tot (q9v s) (fun r => r.length = s.length) := by
 unfold q9v
 exact Tot.bind (qsa _ 0 s rfl (by omega) hs) fun v hv => .ret hv
theorem qgv (c : Bytes) : Tot (q6p c) (fun _ => True) := by
 unfold q6p
 (apply Tot.ite <;> intro hT <;> try simp (disch := omega) only [tfx.down,q9,qa] at hT)
 ·refine Tot.bind (Tot.get (by omega) (by omega)) fun b hb => ?_
  refine Tot.bind (q9p b) fun v _ => ?_
  (apply Tot.ite <;> intro hT <;> try simp (disch := omega) only [tfx.down,q9,qa] at hT)
  ·exact .ret trivial
  ·refine Tot.bind (q60 b) fun v _ => ?_
   (apply Tot.ite <;> intro hT <;> try simp (disch := omega) only [tfx.down,q9,qa] at hT)
   ·exact .ret trivial
   ·exact .ret trivial
 ·exact .ret trivial
theorem qfk (rows : Sl T.Row) (hl : rows.l.length ≤ 1099511627776) (c : Bytes) : Tot (q7n rows c) (fun _ => True) := by
 have key : ∀ (r : List T.Row) (k : Nat),rows.l.drop k = r → Tot (q3u (rows,c,(k : Int))) (fun _ => True) := by
  intro r
  induction r with
  | nil =>
   intro k hk
   rw [q3u.eq_1,if_neg (by simpa using zw hk)]
   exact .ret trivial
  | cons x r ih =>
   intro k hk
   obtain ⟨a1,a2,a3,a4⟩ := zq hk
   have ih := ih (k + 1) a3
   rw [q3u.eq_1,if_pos (by simpa using a1),wrS (by omega) a1]
   refine Tot.go a2 ?_
   repeat' (first | exact ih | exact .ret trivial | (apply Tot.ite <;> intro hT <;> try simp (disch := omega) only [tfx.down,q9,qa] at hT))
 unfold q7n
 refine Tot.bind (key rows.l 0 rfl) fun v _ => ?_
 rcases v with v | v <;> exact .ret trivial
theorem qyk (rows : Sl T.Row) (hl : rows.l.length ≤ 1099511627776) (n f : Bool) (c : Bytes) (hc : c.length ≤ 1099511627776) : Tot (q9r rows n f c) (fun _ => True) := by
 unfold q9r
 refine Tot.bind (qfk rows hl c) fun v _ => ?_
 (apply Tot.ite <;> intro hT <;> try simp (disch := omega) only [tfx.down,q9,qa] at hT)
 ·refine Tot.bind (qgg c hc) fun d _ => ?_
  refine Tot.bind (qfk rows hl d) fun w _ => ?_
  (apply Tot.ite <;> intro hT <;> try simp (disch := omega) only [tfx.down,q9,qa] at hT)
  ·exact .ret trivial
  ·refine Tot.bind (z5o c hc) fun d _ => ?_
   refine Tot.bind (qfk rows hl d) fun w _ => ?_
   (apply Tot.ite <;> intro hT <;> try simp (disch := omega) only [tfx.down,q9,qa] at hT)
   ·exact .ret trivial
   ·exact .ret trivial
 ·exact .ret trivial
structure jo (s : Bytes) (n : Nat) (b : T.qo) : Prop where
 hs : s.length ≤ 1048576
 cs : b.cs.l.length = n
 clen : ∀ c ∈ b.cs.l,c.length ≤ s.length
 offs : b.offs.l.length = n + 1
 mono : b.offs.l.Pairwise (· < ·)
 rng : ∀ x ∈ b.offs.l,0 ≤ x ∧ x ≤ s.length
 fuel : 0 ≤ b.fuel ∧ b.fuel ≤ 20000
 hn : n ≤ 1048576
structure Later (b c : T.qo) : Prop where
 cs : c.cs = b.cs
 offs : c.offs = b.offs
 fold : c.fold = b.fold
 fuel : c.fuel ≤ b.fuel
theorem Later.refl (b : T.qo) : Later b b := ⟨rfl,rfl,rfl,Int.le_refl _⟩
theorem Later.trans {a b c : T.qo} (h1 : Later a b) (h2 : Later b c) : Later a c := ⟨h2.cs.trans h1.cs,h2.offs.trans h1.offs,h2.fold.trans h1.fold,Int.le_trans h2.fuel h1.fuel⟩
def qd6 (s : Bytes) (x : T.Span) : Prop := x.frm = -1 ∨ (0 ≤ x.frm ∧ x.frm ≤ x.to ∧ x.to ≤ s.length)
structure q0g (s : Bytes) (g : Nat) (p : Sl T.Span) : Prop where
 len : p.l.length = g
 ok : ∀ x ∈ p.l,qd6 s x
inductive KOk (g : Nat) (j : Int) : Option T.qy → Prop
 | none : KOk g j none
 | ended (k : T.qy) (hk : k.kind = 1) (g0 : 0 ≤ k.g) (g1 : k.g < g) (f0 : 0 ≤ k.frm) (f1 : k.frm ≤ j) (h : KOk g j k.rest) : KOk g j (some k)
 | again (k : T.qy) (hk : k.kind = 2) (hx : WF k.x) (hl : Light k.x) (h7 : k.x.kind = 7) (g0 : 0 ≤ k.g) (g1 : k.g + rxG k.x ≤ g) (h : KOk g j k.rest) : KOk g j (some k)
 | hold (k : T.qy) (hk : k.kind = 0) (hx : WF k.x) (hl : Light k.x) (g0 : 0 ≤ k.g) (g1 : k.g + rxG k.x ≤ g) (h : KOk g j k.rest) : KOk g j (some k)
theorem KOk.later {g : Nat} {i j : Int} (hij : i ≤ j) {k : Option T.qy} (h : KOk g i k) : KOk g j k := by
 induction h with
 | none => exact .none
 | ended k hk g0 g1 f0 f1 _ ih => exact .ended k hk g0 g1 f0 (by omega) ih
 | again k hk hx hl h7 g0 g1 _ ih => exact .again k hk hx hl h7 g0 g1 ih
 | hold k hk hx hl g0 g1 _ ih => exact .hold k hk hx hl g0 g1 ih
mutual
def kW : T.qy → Nat
 | ⟨kd,x,_,_,_,r⟩ => (if kd = 0 then rxW x else 1) + kWO r
def kWO : Option T.qy → Nat
 | none => 0
 | some k => kW k
end
theorem qgn (k : T.qy) : kWO (some k) = (if k.kind = 0 then rxW k.x else 1) + kWO k.rest := by
 cases k
 simp [kW,kWO]
section
variable {s : Bytes} {n : Nat}
theorem qda {b : T.qo} (hb : jo s n b) {i : Int} (h0 : 0 ≤ i) (h1 : i ≤ n) : Tot (qh b.offs.l i) (fun x => b.offs.l[i.toNat]? = some x ∧ 0 ≤ x ∧ x ≤ s.length) :=
 (Tot.get h0 (by have := hb.offs; omega)).mono fun x hx => ⟨hx.1,hb.rng x hx.2⟩
theorem qgs {l : List Int} (hm : l.Pairwise (· < ·)) {i j : Nat} {a c : Int} (hi : l[i]? = some a) (hj : l[j]? = some c) (h : i < j) : a < c := by
 obtain ⟨i1,rfl⟩ := List.getElem?_eq_some_iff.1 hi
 obtain ⟨j1,rfl⟩ := List.getElem?_eq_some_iff.1 hj
 exact List.pairwise_iff_getElem.1 hm i j i1 j1 h
theorem q8m {l : List Int} (hm : l.Pairwise (· < ·)) {i j : Nat} {a c : Int} (hi : l[i]? = some a) (hj : l[j]? = some c) (h : i ≤ j) : a ≤ c := by
 rcases Nat.lt_or_eq_of_le h with h | rfl
 ·exact Int.le_of_lt (qgs hm hi hj h)
 ·rw [hi] at hj
  cases hj
  exact Int.le_refl _
theorem zfa (x : T.Rx) (hx : Light x) (i : Int) (h0 : 0 ≤ i) (h1 : i ≤ n) (b : T.qo) (hb : jo s n b) : Tot (qcj x i b) (fun r => 0 ≤ r.1 ∧ (r.2 = true → i + r.1 ≤ n)) := by
 have hc := hb.cs
 have hn := hb.hn
 have hs := hb.hs
 have hxw := jm x
 have hrows := xn q5b x.rows.l
 unfold Light at hx
 unfold qcj
 (apply Tot.ite <;> intro hT <;> try simp (disch := omega) only [tfx.down,q9,qa] at hT)
 ·exact .ret ⟨by simp,fun _ => by simp only; omega⟩
 (apply Tot.ite <;> intro hT <;> try simp (disch := omega) only [tfx.down,q9,qa] at hT)
 ·exact .ret ⟨by simp,fun _ => by simp only; omega⟩
 (apply Tot.ite <;> intro hT <;> try simp (disch := omega) only [tfx.down,q9,qa] at hT)
 ·(apply Tot.ite <;> intro hT <;> try simp (disch := omega) only [tfx.down,q9,qa] at hT)
  ·(repeat (first | (rw [q9]; rotate_left; omega; omega) | (rw [qa]; rotate_left; omega; omega)))
   refine Tot.bind (Tot.get (by omega) (by omega)) fun c _ => ?_
   refine Tot.bind (qgv c) fun v _ => ?_
   (apply Tot.ite <;> intro hT <;> try simp (disch := omega) only [tfx.down,q9,qa] at hT)
   ·refine Tot.bind (Tot.get (by omega) (by omega)) fun c _ => ?_
    refine Tot.bind (qgv c) fun v _ => ?_
    exact .ret ⟨by simp,fun _ => by simp only; omega⟩
   ·exact .ret ⟨by simp,fun _ => by simp only; omega⟩
  ·(apply Tot.ite <;> intro hT <;> try simp (disch := omega) only [tfx.down,q9,qa] at hT)
   ·refine Tot.bind (Tot.get (by omega) (by omega)) fun c _ => ?_
    refine Tot.bind (qgv c) fun v _ => ?_
    exact .ret ⟨by simp,fun _ => by simp only; omega⟩
   ·exact .ret ⟨by simp,fun _ => by simp only; omega⟩
 (apply Tot.ite <;> intro hT <;> try simp (disch := omega) only [tfx.down,q9,qa] at hT)
 ·exact .ret ⟨by simp,by simp⟩
 refine Tot.bind (Tot.get (by omega) (by omega)) fun c hcc => ?_
 have hcl := hb.clen c hcc.2
 (apply Tot.ite <;> intro hT <;> try simp (disch := omega) only [tfx.down,q9,qa] at hT)
 ·exact .ret ⟨by simp,fun _ => by simp only; omega⟩
 (apply Tot.ite <;> intro hT <;> try simp (disch := omega) only [tfx.down,q9,qa] at hT)
 ·refine Tot.bind (qyk x.rows (by omega) _ _ c (by omega)) fun v _ => ?_
  exact .ret ⟨by simp,fun _ => by simp only; omega⟩
 (apply Tot.ite <;> intro hT <;> try simp (disch := omega) only [tfx.down,q9,qa] at hT)
 ·exact .ret ⟨by simp,fun _ => by simp only; omega⟩
 (apply Tot.ite <;> intro hT <;> try simp (disch := omega) only [tfx.down,q9,qa] at hT)
 ·refine Tot.bind (qgg c (by omega)) fun v _ => ?_
  refine Tot.bind (qgg x.char (by omega)) fun v _ => ?_
  exact .ret ⟨by simp,fun _ => by simp only; omega⟩
 ·exact .ret ⟨by simp,by simp⟩
end
end Go.Proofs.YtdhgdeelagmbpaaGreat
set_option linter.unusedSimpArgs false
set_option linter.unusedVariables false
namespace Go.Proofs.YtdhgdeelagmbpaaGreat
open Go Go.Gm
abbrev OnR := Int × Sl T.Span × Bool × T.qo
structure OnQ (s : Bytes) (n g : Nat) (i : Int) (b : T.qo) (r : OnR) : Prop where
 run : jo s n r.2.2.2
 later : Later b r.2.2.2
 ok : r.2.2.1 = true → i ≤ r.1 ∧ r.1 ≤ n ∧ q0g s g r.2.1
theorem OnQ.mono {s : Bytes} {n g : Nat} {i j : Int} {b c : T.qo} {r : OnR} (h : OnQ s n g j c r) (hij : i ≤ j) (hl : Later b c) : OnQ s n g i b r :=
 ⟨h.run,hl.trans h.later,fun k => ⟨Int.le_trans hij (h.ok k).1,(h.ok k).2⟩⟩
theorem OnQ.fail {s : Bytes} {n g : Nat} {i : Int} {b : T.qo} (hb : jo s n b) {e : Int} {p : Sl T.Span} : OnQ s n g i b (e,p,false,b) := ⟨hb,.refl b,by simp⟩
section
variable {s : Bytes} {n g : Nat}
structure q43 (s : Bytes) (n g : Nat) (k : Option T.qy) (i : Int) (parts : Sl T.Span) (b : T.qo) : Prop where
 i0 : 0 ≤ i
 i1 : i ≤ n
 k : KOk g i k
 p : q0g s g parts
 run : jo s n b
 g : g ≤ 1000000000
def OnT (s : Bytes) (n g : Nat) (k : Option T.qy) (i : Int) (parts : Sl T.Span) (b : T.qo) : Prop := Tot (zz (k,i,parts,b)) (OnQ s n g i b)
theorem qp9 {p : Sl T.Span} (h : p.l.length = g) (hg : g ≤ 1000000000) : ql p.l.length 16 = true := by
 simp only [ql,Bool.and_eq_true,decide_eq_true_eq]
 omega
theorem q0g.set {p : Sl T.Span} (h : q0g s g p) (i : Nat) {x : T.Span} (hx : qd6 s x) (b : Bool) : q0g s g (⟨b,p.l.set i x⟩ : Sl T.Span) where
 len := by simpa using h.len
 ok := by
  intro y hy
  rcases List.mem_or_eq_of_mem_set hy with hy | rfl
  ·exact h.ok y hy
  ·exact hx
theorem pq {o : Option OnR} {Q : OnR → Prop} (h : Tot o Q) : Tot (o >>= fun v => some (v.1,v.2.1,v.2.2.1,v.2.2.2)) Q := Tot.bind h fun v hv => .ret hv
theorem qxm (k : T.qy) (i : Int) (parts : Sl T.Span) (b : T.qo) (h : q43 s n g (some k) i parts b) (hk : k.kind = 0) (h7 : k.x.kind ≠ 7)
  (go : ∀ k i parts c,q43 s n g k i parts c → c.fuel.toNat < b.fuel.toNat → OnT s n g k i parts c) : Tot (qbk (some k,i,parts,b)) (OnQ s n g i b) := by
 have hf := h.run.fuel
 have hg := h.g
 have hn := h.run.hn
 obtain ⟨hx,hl,g0,g1,hrest⟩ : WF k.x ∧ Light k.x ∧ 0 ≤ k.g ∧ k.g + rxG k.x ≤ g ∧ KOk g i k.rest := by
  cases h.k with
  | ended _ h1 => omega
  | again _ h1 => omega
  | hold _ _ a b c d e => exact ⟨a,b,c,d,e⟩
 rw [qbk.eq_1]
 (apply Tot.ite <;> intro hT <;> try simp (disch := omega) only [tfx.down,q9,qa] at hT)
 ·exact .ret ⟨⟨h.run.hs,h.run.cs,h.run.clen,h.run.offs,h.run.mono,h.run.rng,hf,hn⟩,⟨rfl,rfl,rfl,Int.le_refl _⟩,by simp⟩
 have hf0 : 0 < b.fuel := by omega
 refine Tot.go rfl ?_
 have hr : jo s n (T.qo.mk b.cs b.offs b.fold (IntKind.i64.wrap (b.fuel - (1 : Int))) b.out) :=
  ⟨h.run.hs,h.run.cs,h.run.clen,h.run.offs,h.run.mono,h.run.rng,by simp only; rw [q9 (by omega) (by omega)]; omega,hn⟩
 have hla : Later b (T.qo.mk b.cs b.offs b.fold (IntKind.i64.wrap (b.fuel - (1 : Int))) b.out) := ⟨rfl,rfl,rfl,by simp only; rw [q9 (by omega) (by omega)]; omega⟩
 have hlt : (T.qo.mk b.cs b.offs b.fold (IntKind.i64.wrap (b.fuel - (1 : Int))) b.out).fuel.toNat < b.fuel.toNat := by simp only; rw [q9 (by omega) (by omega)]; omega
 have hgx := q9w k.x
 (apply Tot.ite <;> intro hT <;> try simp (disch := omega) only [tfx.down,q9,qa] at hT)
 ·have h5 := hT
  obtain ⟨y,hy⟩ := hx.one (by omega)
  refine Tot.go (a := y) (by rw [hy]; rfl) ?_
  have hym : y ∈ k.x.kids.l := by rw [hy]; simp
  rw [if_pos h5,hy] at hgx
  simp only [List.map_cons,List.map_nil,qd] at hgx
  rw [wr (n := k.g + 1) (by omega) (by omega)]
  refine pq ((go _ i parts _ ⟨h.i0,h.i1, ?_,h.p,hr,hg⟩ hlt).mono fun r hr => hr.mono (Int.le_refl _) hla)
  refine .hold _ rfl (hx.kids y hym) (q2v hl hym) (by simp only; omega) (by simp only; omega) ?_
  exact .ended _ rfl (by simp only; omega) (by simp only; omega) (by simp only; exact h.i0) (by simp only; omega) hrest
 (apply Tot.ite <;> intro hT <;> try simp (disch := omega) only [tfx.down,q9,qa] at hT)
 ·have h6 := hT
  obtain ⟨y,hy⟩ := hx.one (by omega)
  refine Tot.go (a := y) (by rw [hy]; rfl) ?_
  have hym : y ∈ k.x.kids.l := by rw [hy]; simp
  rw [if_neg (by omega),hy] at hgx
  simp only [List.map_cons,List.map_nil,qd] at hgx
  refine pq ((go _ i parts _ ⟨h.i0,h.i1, ?_,h.p,hr,hg⟩ hlt).mono fun r hr => hr.mono (Int.le_refl _) hla)
  exact .hold _ rfl (hx.kids y hym) (q2v hl hym) (by simp only; omega) (by simp only; omega) hrest
 ·refine Tot.bind (zfa k.x hl i h.i0 h.i1 _ hr) fun v hv => ?_
  (apply Tot.ite <;> intro hT <;> try simp (disch := omega) only [tfx.down,q9,qa] at hT)
  ·exact .ret ⟨hr,hla,by simp⟩
  ·have hv2 := hv.2 (by simpa using hT)
   have h0 := h.i0
   rw [wr (n := i + v.1) (by omega) (by omega)]
   refine pq ((go _ (i + v.1) parts _ ⟨by omega,hv2,hrest.later (by omega),h.p,hr,hg⟩ hlt).mono fun r hr => hr.mono (by omega) hla)
theorem qil (k : T.qy) (i : Int) (parts : Sl T.Span) (b : T.qo) (h : q43 s n g (some k) i parts b) (hk : k.kind = 0) (h0 : k.x.kind ≠ 0 ∧ k.x.kind ≠ 1 ∧ k.x.kind ≠ 7)
  (go : ∀ k i parts c,q43 s n g k i parts c → c.fuel.toNat < b.fuel.toNat → OnT s n g k i parts c) : OnT s n g (some k) i parts b := by
 unfold OnT
 rw [zz.eq_1]
 rw [if_neg (by simp)]
 refine Tot.go rfl ?_
 rw [if_neg (by simp [hk]),if_neg (by simp [hk]),if_neg (by simp [h0.1]),if_neg (by simp [h0.2.1]),if_neg (by simp [h0.2.2])]
 exact pq (qxm k i parts b h hk h0.2.2 go)
theorem zg9 (k : T.qy) (i : Int) (b : T.qo) (hl : Light k.x) (g0 : 0 ≤ k.g) (g1 : k.g + rxG k.x ≤ g) (hg : g ≤ 1000000000) :
  ∀ (m : Nat) (j : Int) (p : List T.Span),m = (rxG k.x - j).toNat → 0 ≤ j → q0g s g ⟨false,p⟩ → Tot (q6l (some k,i,j,b,p)) (fun r => q0g s g ⟨false,r⟩) := by
 intro m
 induction m using Nat.strongRecOn with
 | _ m ih =>
 intro j p hm h0 hp
 have hpl := hp.len
 simp only at hpl
 rw [q6l.eq_1]
 refine Tot.go rfl ?_
 refine Tot.go (qap k.x hl) ?_
 (apply Tot.ite <;> intro hT <;> try simp (disch := omega) only [tfx.down,q9,qa] at hT)
 ·rw [wr (n := k.g + j) (by omega) (by omega),wr (n := j + 1) (by omega) (by omega)]
  refine Tot.bind (Tot.get (by omega) (by omega)) fun y _ => ?_
  exact ih _ (by omega) (j + 1) _ rfl (by omega) (hp.set _ (.inl rfl) false)
 ·exact .ret hp
theorem zm0 (k : T.qy) (i : Int) (parts : Sl T.Span) (b : T.qo) (i0 : 0 ≤ i) (i1 : i ≤ n) (hx : WF k.x) (hl : Light k.x) (h7 : k.x.kind = 7) (g0 : 0 ≤ k.g) (g1 : k.g + rxG k.x ≤ g) (hrest : KOk g i k.rest) (hp : q0g s g parts) (hb : jo s n b) (hg : g ≤ 1000000000)
  (go : ∀ k i parts c,q43 s n g k i parts c → c.fuel.toNat < b.fuel.toNat → OnT s n g k i parts c) : Tot (q0b (some k,i,parts,b)) (OnQ s n g i b) := by
 rw [q0b.eq_1]
 refine Tot.need (qp9 hp.len hg) ?_
 refine Tot.bind (zg9 (s := s) k i b hl g0 g1 hg _ 0 parts.l rfl (by omega) ⟨hp.len,hp.ok⟩) fun v hv => ?_
 refine Tot.go rfl ?_
 obtain ⟨y,hy⟩ := hx.one (by omega)
 refine Tot.go (a := y) (by rw [hy]; rfl) ?_
 have hym : y ∈ k.x.kids.l := by rw [hy]; simp
 have hyk := hx.rep h7 y hym
 have hgx := q9w k.x
 rw [if_neg (by omega),hy] at hgx
 simp only [List.map_cons,List.map_nil,qd] at hgx
 refine pq (qil _ i _ b ⟨i0,i1, ?_,hv,hb,hg⟩ rfl (by simp only; omega) go)
 refine .hold _ rfl (hx.kids y hym) (q2v hl hym) g0 (by simp only; omega) ?_
 exact .again _ rfl hx hl h7 g0 g1 hrest
theorem qmj (k : T.qy) (i : Int) (parts : Sl T.Span) (b : T.qo) (i0 : 0 ≤ i) (i1 : i ≤ n) (hx : WF k.x) (hl : Light k.x) (h7 : k.x.kind = 7) (g0 : 0 ≤ k.g) (g1 : k.g + rxG k.x ≤ g) (hrest : KOk g i k.rest) (hp : q0g s g parts) (hb : jo s n b) (hg : g ≤ 1000000000)
  (go : ∀ k i parts c,q43 s n g k i parts c → c.fuel.toNat < b.fuel.toNat → OnT s n g k i parts c)
  (rest : ∀ c,jo s n c → c.fuel ≤ b.fuel → OnT s n g k.rest i parts c) : Tot (q5s (some k,i,parts,b)) (OnQ s n g i b) := by
 have tm : ∀ c,jo s n c → Later b c → Tot (q0b (some k,i,parts,c)) (OnQ s n g i c) := fun c hc hbc =>
  zm0 k i parts c i0 i1 hx hl h7 g0 g1 hrest hp hc hg fun k i p d h1 h2 => go k i p d h1 (by have := hbc.fuel; have := hc.fuel; have := hb.fuel; omega)
 have t0 := tm b hb (.refl b)
 have r0 : Tot (zz (k.rest,i,parts,b)) (OnQ s n g i b) := rest b hb (Int.le_refl _)
 have lazy : ∀ {c : OnR → Prop} [DecidablePred c],Tot (zz (k.rest,i,parts,b) >>= fun v => if c v then some (v.1,v.2.1,v.2.2.1,v.2.2.2) else q0b (some k,i,parts,v.2.2.2) >>= fun w => some (w.1,w.2.1,w.2.2.1,w.2.2.2)) (OnQ s n g i b) := by
  intro c _
  refine Tot.bind r0 fun v hv => ?_
  refine Tot.ite (fun _ => .ret hv) fun _ => ?_
  exact pq ((tm v.2.2.2 hv.run hv.later).mono fun r hr => hr.mono (Int.le_refl _) hv.later)
 have eager : ∀ {c : OnR → Prop} [DecidablePred c],Tot (q0b (some k,i,parts,b) >>= fun v => if c v then some (v.1,v.2.1,v.2.2.1,v.2.2.2) else zz (k.rest,i,parts,v.2.2.2) >>= fun w => some (w.1,w.2.1,w.2.2.1,w.2.2.2)) (OnQ s n g i b) := by
  intro c _
  refine Tot.bind t0 fun v hv => ?_
  refine Tot.ite (fun _ => .ret hv) fun _ => ?_
  exact pq ((rest v.2.2.2 hv.run hv.later.fuel).mono fun r hr => hr.mono (Int.le_refl _) hv.later)
 rw [q5s.eq_1]
 refine Tot.go rfl ?_
 repeat' (first | exact pq t0 | exact pq r0 | exact lazy | exact eager | refine Tot.ite (fun _ => ?_) (fun _ => ?_))
theorem qyf (k : T.qy) (i : Int) (parts : Sl T.Span) (b : T.qo) (hx : WF k.x) (hl : Light k.x) (g0 : 0 ≤ k.g) (g1 : k.g + qd (k.x.kids.l.map rxG) ≤ g) (hg : g ≤ 1000000000) :
  ∀ (m : Nat) (rest : Option T.qy),m ≤ k.x.kids.l.length → KOk g i rest →
   Tot (q62 (some k,i,parts,rest,k.g + (qd ((k.x.kids.l.take m).map rxG) : Nat),(m : Int) - 1,b)) (fun r => KOk g i r ∧ kWO r = qd ((k.x.kids.l.take m).map rxW) + kWO rest) := by
 intro m
 have hkl := q7b k.x
 unfold Light at hl
 induction m with
 | zero =>
  intro rest _ hr
  rw [q62.eq_1,if_neg (by simp)]
  exact .ret ⟨hr,by simp [qd]⟩
 | succ m ih =>
  intro rest hm hr
  rw [q62.eq_1,if_pos (by simp)]
  refine Tot.go rfl ?_
  have hlt : m < k.x.kids.l.length := by omega
  have hy : k.x.kids.l[m] ∈ k.x.kids.l := List.getElem_mem hlt
  have e1 : ((m + 1 : Nat) : Int) - 1 = (m : Int) := by omega
  rw [e1]
  refine Tot.go (xw hlt) ?_
  have hlk : Light k.x.kids.l[m] := q2v (by unfold Light; omega) hy
  refine Tot.go (qap _ hlk) ?_
  have e2 : k.x.kids.l.take (m + 1) = k.x.kids.l.take m ++ [k.x.kids.l[m]] := by rw [List.take_succ_eq_append_getElem hlt]
  have e3 := wy rxG (k.x.kids.l.take m) k.x.kids.l[m]
  have e4 := wy rxW (k.x.kids.l.take m) k.x.kids.l[m]
  have e5 : qd (k.x.kids.l.map rxG) = qd ((k.x.kids.l.take m).map rxG) + qd ((k.x.kids.l.drop m).map rxG) := by
   conv => lhs; rw [← List.take_append_drop m k.x.kids.l,List.map_append,q5i]
  have e6 : rxG k.x.kids.l[m] ≤ qd ((k.x.kids.l.drop m).map rxG) := uu (by rw [List.drop_eq_getElem_cons hlt]; exact List.mem_cons_self)
  rw [e2,e3,e4]
  have e7 : IntKind.i64.wrap (k.g + ((qd ((k.x.kids.l.take m).map rxG) + rxG k.x.kids.l[m] : Nat) : Int) - (rxG k.x.kids.l[m] : Int)) = k.g + (qd ((k.x.kids.l.take m).map rxG) : Nat) := by
   rw [wr (by omega) (by omega)]; omega
  rw [e7,wr (n := (m : Int) - 1) (by omega) (by omega)]
  refine (ih _ (by omega) (.hold _ rfl (hx.kids _ hy) hlk (by simp only; omega) (by simp only; omega) hr)).mono fun r h => ⟨h.1, ?_⟩
  rw [h.2,qgn]
  simp only [if_true]
  omega
theorem qtb (k : T.qy) (i : Int) (parts : Sl T.Span) (b : T.qo) (hx : WF k.x) (hl : Light k.x) (g0 : 0 ≤ k.g) (g1 : k.g + qd (k.x.kids.l.map rxG) ≤ g) (hg : g ≤ 1000000000) (hrest : KOk g i k.rest)
  (go : ∀ y ∈ k.x.kids.l,∀ (q : Int) c,0 ≤ q → q + rxG y ≤ g → jo s n c → c.fuel ≤ b.fuel → OnT s n g (some (T.qy.mk (0 : Int) y q (0 : Int) (0 : Int) k.rest)) i parts c) :
  ∀ (r : List T.Rx) (m : Nat) (q : Int) (c : T.qo),k.x.kids.l.drop m = r → k.g ≤ q → q + qd (r.map rxG) ≤ g → jo s n c → Later b c →
   Tot (q4j (some k,i,parts,q,(m : Int),c)) (fun r => match r with | .inl v => OnQ s n g i b v | .inr d => jo s n d ∧ Later b d) := by
 have hkl := q7b k.x
 unfold Light at hl
 intro r
 induction r with
 | nil =>
  intro m q c hm h0 h1 hc hbc
  rw [q4j.eq_1]
  refine Tot.go rfl ?_
  rw [if_neg (by simpa using zw hm)]
  exact .ret ⟨hc,hbc⟩
 | cons y r ih =>
  intro m q c hm h0 h1 hc hbc
  obtain ⟨a1,a2,a3,a4⟩ := zq hm
  simp only [List.map_cons,qd] at h1
  rw [q4j.eq_1]
  refine Tot.go rfl ?_
  rw [if_pos (by simpa using a1),wrS (by omega) a1]
  refine Tot.go a2 ?_
  refine Tot.bind (go y a4 q c (by omega) (by omega) hc hbc.fuel) fun v hv => ?_
  refine Tot.ite (fun _ => .ret (hv.mono (Int.le_refl _) hbc)) fun _ => ?_
  refine Tot.go (qap y (q2v (by unfold Light; omega) a4)) ?_
  rw [wr (n := q + (rxG y : Int)) (by omega) (by omega)]
  exact ih (m + 1) _ _ a3 (by omega) (by omega) hv.run (hbc.trans hv.later)
theorem zbz : ∀ (f w : Nat) (k : Option T.qy) (i : Int) (parts : Sl T.Span) (b : T.qo),b.fuel.toNat = f → kWO k = w → q43 s n g k i parts b → OnT s n g k i parts b := by
 intro f
 induction f using Nat.strongRecOn with
 | _ f ihf =>
 intro w
 induction w using Nat.strongRecOn with
 | _ w ihw =>
 intro k i parts b hf hw h
 have go : ∀ k i parts c,q43 s n g k i parts c → c.fuel.toNat < b.fuel.toNat → OnT s n g k i parts c := fun k i p c h1 h2 => ihf _ (by omega) _ k i p c rfl rfl h1
 have less : ∀ k i parts c,q43 s n g k i parts c → c.fuel ≤ b.fuel → kWO k < w → OnT s n g k i parts c := by
  intro k' i p c h1 h2 h3
  have := h1.run.fuel
  by_cases h4 : c.fuel.toNat = f
  ·exact ihw _ h3 k' i p c h4 rfl h1
  ·exact ihf _ (by omega) _ k' i p c rfl rfl h1
 have hg := h.g
 have hn := h.run.hn
 cases hk : k with
 | none =>
  unfold OnT
  rw [zz.eq_1,if_pos (by simp)]
  exact .ret ⟨h.run,.refl b,fun _ => ⟨Int.le_refl _,h.i1,h.p⟩⟩
 | some k =>
  rw [hk] at h hw
  rw [qgn] at hw
  cases h.k with
  | ended _ h1 g0 g1 f0 f1 hrest =>
   unfold OnT
   rw [zz.eq_1,if_neg (by simp)]
   refine Tot.go rfl ?_
   rw [if_pos (by simp [h1])]
   refine Tot.need (qp9 h.p.len hg) ?_
   have i1 := h.i1
   refine Tot.bind (qda h.run f0 (by omega)) fun x hx => ?_
   refine Tot.bind (qda h.run h.i0 h.i1) fun y hy => ?_
   refine Tot.bind (Tot.get g0 (by have := h.p.len; omega)) fun z _ => ?_
   rw [if_neg (by omega)] at hw
   refine pq (less k.rest i _ b ⟨h.i0,h.i1,hrest,h.p.set _ (.inr ⟨hx.2.1, ?_,hy.2.2⟩) false,h.run,hg⟩ (Int.le_refl _) (by omega))
   exact q8m h.run.mono hx.1 hy.1 (by omega)
  | again _ h1 hx hl h7 g0 g1 hrest =>
   have rep : Tot (q5s (some k,i,parts,b)) (OnQ s n g i b) :=
    qmj k i parts b h.i0 h.i1 hx hl h7 g0 g1 hrest h.p h.run hg go fun c hc hcf => less k.rest i parts c ⟨h.i0,h.i1,hrest,h.p,hc,hg⟩ hcf (by rw [if_neg (by omega)] at hw; omega)
   unfold OnT
   rw [zz.eq_1,if_neg (by simp)]
   refine Tot.go rfl ?_
   rw [if_neg (by simp [h1]),if_pos (by simp [h1])]
   refine Tot.ite (fun _ => Tot.ite (fun _ => .ret (.fail h.run)) fun _ => pq rep) fun _ => pq rep
  | hold _ h1 hx hl g0 g1 hrest =>
   rw [if_pos h1] at hw
   have hgx := q9w k.x
   have hwx := jm k.x
   by_cases k0 : k.x.kind = 0
   ·rw [if_neg (by omega)] at hgx
    unfold OnT
    rw [zz.eq_1,if_neg (by simp)]
    refine Tot.go rfl ?_
    rw [if_neg (by simp [h1]),if_neg (by simp [h1]),if_pos (by simp [k0])]
    refine Tot.go (qap k.x hl) ?_
    have hkl := q7b k.x
    unfold Light at hl
    have h2 := qyf k i parts b hx (by unfold Light; omega) g0 (by omega) hg k.x.kids.l.length k.rest (Nat.le_refl _) hrest
    rw [List.take_length] at h2
    rw [wr (n := k.g + (rxG k.x : Int)) (by omega) (by omega),wr (n := (k.x.kids.l.length : Int) - 1) (by omega) (by omega)]
    rw [show k.g + (rxG k.x : Int) = k.g + ((qd (k.x.kids.l.map rxG) : Nat) : Int) by omega]
    refine Tot.bind h2 fun v hv => ?_
    exact pq (less v i parts b ⟨h.i0,h.i1,hv.1,h.p,h.run,hg⟩ (Int.le_refl _) (by omega))
   by_cases k1 : k.x.kind = 1
   ·rw [if_neg (by omega)] at hgx
    unfold OnT
    rw [zz.eq_1,if_neg (by simp)]
    refine Tot.go rfl ?_
    rw [if_neg (by simp [h1]),if_neg (by simp [h1]),if_neg (by simp [k0]),if_pos (by simp [k1])]
    refine Tot.bind (qtb (s := s) (n := n) k i parts b hx hl g0 (by omega) hg hrest ?_ k.x.kids.l 0 k.g b rfl (Int.le_refl _) (by omega) h.run (.refl b)) fun v hv => ?_
    ·intro y hy q c q0 q1 hc hcf
     have := qot hy
     refine less _ i parts c ⟨h.i0,h.i1,.hold _ rfl (hx.kids y hy) (q2v hl hy) q0 q1 hrest,h.p,hc,hg⟩ hcf ?_
     rw [qgn]
     simp only [if_true]
     omega
    ·rcases v with v | v
     ·exact .ret hv
     ·exact .ret ⟨hv.1,hv.2,by simp⟩
   by_cases k7 : k.x.kind = 7
   ·unfold OnT
    rw [zz.eq_1,if_neg (by simp)]
    refine Tot.go rfl ?_
    rw [if_neg (by simp [h1]),if_neg (by simp [h1]),if_neg (by simp [k0]),if_neg (by simp [k1]),if_pos (by simp [k7])]
    refine pq (qmj _ i parts b h.i0 h.i1 hx hl k7 g0 g1 hrest h.p h.run hg go fun c hc hcf => ?_)
    exact less k.rest i parts c ⟨h.i0,h.i1,hrest,h.p,hc,hg⟩ hcf (by have := q7d k.x; omega)
   ·exact qil k i parts b h h1 ⟨k0,k1,k7⟩ go
end
end Go.Proofs.YtdhgdeelagmbpaaGreat
