/-
  A snippet's parts are numbered; no number holds itself.
-/
import Derived.Test.YtdhgdeelagmbpaaGreatVar
set_option linter.unusedSimpArgs false
set_option linter.unusedVariables false
namespace Go.Proofs.YtdhgdeelagmbpaaGreat
open Go Go.Gm
theorem zqp (s : Bytes) : ∀ (r : Bytes) (k f : Nat) (l out : List Bytes),s.drop k = r → k ≤ s.length → s.length ≤ 1048576 → (∀ c ∈ l,c.length ≤ s.length) → yc (s,(f : Int),(k : Int),l) = some out → ∀ c ∈ out,c.length ≤ s.length := by
 intro r
 induction r with
 | nil =>
  intro k f l out hk hkl hs hl h
  have h1 := nz hk
  obtain rfl : k = s.length := by omega
  rw [yc.eq_1] at h
  simp only [Int.le_refl,decide_true,if_true,beq_self_eq_true,Option.bind_eq_bind,Option.bind_eq_some_iff] at h
  obtain ⟨r,hr,h⟩ := h
  split at h
  ·rw [yc.eq_1,if_neg (by rw [wr (by omega) (by omega)]; simp; omega)] at h
   cases h
   intro c hc
   rcases List.mem_append.1 hc with hc | hc
   ·exact hl c hc
   ·simp only [List.mem_singleton] at hc
    subst hc
    rw [← qbu hr]
    simp
  ·cases h
 | cons b r ih =>
  intro k f l out hk hkl hs hl h
  obtain ⟨a1,a2,a3,_⟩ := zq hk
  have h1 : ((k : Int) ≤ (s.length : Int)) := by omega
  have h2 : ((k : Int) == (s.length : Int)) = false := by simp; omega
  rw [yc.eq_1] at h
  simp only [h1,decide_true,if_true,h2,Bool.false_eq_true,if_false,a2,Option.bind_eq_bind,Option.bind_some,qd1,wrS (by omega) a1] at h
  split at h
  ·rw [Option.bind_eq_some_iff] at h
   obtain ⟨r1,hr,h⟩ := h
   split at h
   ·refine ih (k + 1) k _ out a3 (by omega) hs ?_ h
    intro c hc
    rcases List.mem_append.1 hc with hc | hc
    ·exact hl c hc
    ·simp only [List.mem_singleton] at hc
     subst hc
     rw [← qbu hr]
     simp
     omega
   ·cases h
  ·exact ih (k + 1) f l out a3 (by omega) hs hl h
theorem zfj (s : Bytes) (hs : s.length ≤ 1048576) : ∀ (r : Bytes) (k : Nat) (l : List Int),s.drop k = r → k ≤ s.length → l.length ≤ k → l.Pairwise (· < ·) → (∀ x ∈ l,0 ≤ x ∧ x < k) →
  ∃ out,q0i (s,(k : Int),l) = some out ∧ out.length = l.length + r.countP q5y + 1 ∧ out.Pairwise (· < ·) ∧ ∀ x ∈ out,0 ≤ x ∧ x ≤ s.length := by
 have room : ∀ n,n ≤ 1099511627777 → ql n 8 = true := by
  intro n hn
  simp only [ql,Bool.and_eq_true,decide_eq_true_eq]
  omega
 have snoc : ∀ (l : List Int) (k : Nat),l.Pairwise (· < ·) → (∀ x ∈ l,0 ≤ x ∧ x < (k : Int)) → (l ++ [(k : Int)]).Pairwise (· < ·) := by
  intro l k h1 h2
  refine List.pairwise_append.2 ⟨h1,by simp,fun a ha b hb => ?_⟩
  simp only [List.mem_singleton] at hb
  subst hb
  exact (h2 a ha).2
 intro r
 induction r with
 | nil =>
  intro k l hk hkl hll hp hr
  have h1 := nz hk
  obtain rfl : k = s.length := by omega
  rw [q0i.eq_1]
  simp only [Int.le_refl,decide_true,if_true,beq_self_eq_true,room _ (show l.length + 1 ≤ _ by omega)]
  rw [q0i.eq_1,if_neg (by rw [wr (by omega) (by omega)]; simp; omega)]
  refine ⟨_,rfl,by simp,snoc l _ hp hr, ?_⟩
  intro x hx
  rcases List.mem_append.1 hx with hx | hx
  ·have := hr x hx; omega
  ·simp only [List.mem_singleton] at hx; omega
 | cons b r ih =>
  intro k l hk hkl hll hp hr
  obtain ⟨a1,a2,a3,_⟩ := zq hk
  have h1 : ((k : Int) ≤ (s.length : Int)) := by omega
  have h2 : ((k : Int) == (s.length : Int)) = false := by simp; omega
  rw [q0i.eq_1]
  simp only [h1,decide_true,if_true,h2,Bool.false_eq_true,if_false,a2,Option.bind_eq_bind,Option.bind_some,qd1,wrS (by omega) a1]
  cases hb : q5y b
  ·obtain ⟨out,o1,o2,o3⟩ := ih (k + 1) l a3 (by omega) (by omega) hp (fun x hx => by have := hr x hx; omega)
   exact ⟨out,by simpa using o1,by rw [o2]; simp [List.countP_cons,hb],o3⟩
  ·obtain ⟨out,o1,o2,o3⟩ := ih (k + 1) (l ++ [(k : Int)]) a3 (by omega) (by simp; omega) (snoc l k hp hr) (fun x hx => by
    rcases List.mem_append.1 hx with hx | hx
    ·have := hr x hx; omega
    ·simp only [List.mem_singleton] at hx; omega)
   refine ⟨out, ?_,by rw [o2]; simp [List.countP_cons,hb]; omega,o3⟩
   simp only [if_true,room _ (show l.length + 1 ≤ _ by omega),o1]
theorem qi7 (fold : Bool) (s : Bytes) (hs : s.length ≤ 1048576) (fuel : Int) : Tot (q8n fold s fuel) (fun b => ∃ n,jo s n b) := by
 have hfu : 0 ≤ (if (20000 : Int) < (if (0 : Int) > fuel then (0 : Int) else fuel) then (20000 : Int) else (if (0 : Int) > fuel then (0 : Int) else fuel)) ∧ (if (20000 : Int) < (if (0 : Int) > fuel then (0 : Int) else fuel) then (20000 : Int) else (if (0 : Int) > fuel then (0 : Int) else fuel)) ≤ 20000 := by
  constructor <;> (repeat' split) <;> omega
 unfold q8n
 by_cases h0 : s.length = 0
 ·have : s = [] := by simpa using h0
  subst this
  refine Tot.go (a := (⟨true,[]⟩ : Sl Bytes)) (by unfold q31; rw [yc.eq_1]; simp) ?_
  refine Tot.go (a := (⟨false,[0]⟩ : Sl Int)) (by unfold qa3; rw [q0i.eq_1]; simp) ?_
  exact .ret ⟨0,⟨by simp,rfl,by simp,rfl,by simp,by simp,hfu,by omega⟩⟩
 ·obtain ⟨o1,p1,p2⟩ := qlh s (by omega) (s.drop 1) 1 0 [] rfl (by omega) (by omega) (by simp)
  have p3 := zqp s (s.drop 1) 1 0 [] o1 rfl (by omega) hs (by simp) p1
  obtain ⟨o2,q1,q2,q3,q4⟩ := zfj s hs (s.drop 1) 1 [0] rfl (by omega) (by simp) (by simp) (by simp)
  have hc : (s.drop 1).countP q5y ≤ s.length - 1 := by have := List.countP_le_length (p := q5y) (l := s.drop 1); simp only [List.length_drop] at this; exact this
  refine Tot.go (a := (⟨o1.isEmpty,o1⟩ : Sl Bytes)) (by unfold q31; exact Option.bind_eq_some_iff.2 ⟨o1,p1,rfl⟩) ?_
  refine Tot.go (a := (⟨false,o2⟩ : Sl Int)) (by unfold qa3; exact Option.bind_eq_some_iff.2 ⟨o2,q1,rfl⟩) ?_
  refine .ret ⟨o1.length,⟨hs,rfl,p3, ?_,q3,q4,hfu, ?_⟩⟩
  ·simp only [q2,p2,List.length_cons,List.length_nil]; omega
  ·simp only [List.length_nil] at p2; omega
structure q8j (s : Bytes) (n g : Nat) (b : T.qo) (i : Int) (m : T.qw) : Prop where
 ex : ∃ j e : Nat,i ≤ j ∧ j ≤ e ∧ e ≤ n ∧ b.offs.l[j]? = some m.span.frm ∧ b.offs.l[e]? = some m.span.to
 parts : q0g s g m.parts
section
variable {s : Bytes} {n : Nat}
theorem z6f (i : Int) (b : T.qo) (x : T.Rx) (t : T.qw) (hl : Light x) (hg : rxG x ≤ 1000000000) : ∀ (m : Nat) (j : Int) (l : List T.Span),m = (rxG x - j).toNat → 0 ≤ j → j ≤ rxG x → (l.length : Int) = j → (∀ y ∈ l,qd6 s y) →
  Tot (q6o (i,j,b,x,t,l)) (fun r => r.length = rxG x ∧ ∀ y ∈ r,qd6 s y) := by
 intro m
 induction m using Nat.strongRecOn with
 | _ m ih =>
 intro j l hm h0 h1 hlen hl2
 rw [q6o.eq_1]
 refine Tot.go (qap x hl) ?_
 (apply Tot.ite <;> intro hT <;> try simp (disch := omega) only [tfx.down,q9,qa] at hT)
 ·refine Tot.need (by simp only [ql,Bool.and_eq_true,decide_eq_true_eq]; omega) ?_
  rw [wr (n := j + 1) (by omega) (by omega)]
  refine ih _ (by omega) (j + 1) _ rfl (by omega) (by omega) (by simp; omega) ?_
  intro y hy
  rcases List.mem_append.1 hy with hy | hy
  ·exact hl2 y hy
  ·simp only [List.mem_singleton] at hy
   subst hy
   exact .inl rfl
 ·exact .ret ⟨by omega,hl2⟩
theorem zg3 (x : T.Rx) (hx : WF x) (hl : rxW x ≤ 1000000000) (i : Int) (h0 : 0 ≤ i) (h1 : i ≤ n) (b : T.qo) (hb : jo s n b) :
  Tot (qb3 x i b) (fun r => jo s n r.2.2 ∧ Later b r.2.2 ∧ (r.2.1 = true → q8j s n (rxG x) b i r.1)) := by
 have hgl := qhx x
 have hli : Light x := by unfold Light; omega
 unfold qb3
 refine Tot.bind (z6f (s := s) i b x _ hli (by omega) _ 0 [] rfl (by omega) (by omega) rfl (by simp)) fun v hv => ?_
 refine Tot.bind (zbz (s := s) (n := n) (g := rxG x) _ _ _ i _ b rfl rfl ⟨h0,h1,.hold _ rfl hx hli (by simp only; omega) (by simp only; omega) .none,⟨hv.1,hv.2⟩,hb,by omega⟩) fun w hw => ?_
 refine Tot.ite (fun _ => .ret ⟨hw.run,hw.later,by simp⟩) fun hc => ?_
 have hw1 := hw.ok (by simpa using hc)
 refine Tot.bind (qda hw.run h0 h1) fun y hy => ?_
 refine Tot.bind (qda hw.run (by omega) hw1.2.1) fun z hz => ?_
 refine .ret ⟨hw.run,hw.later,fun _ => ⟨⟨i.toNat,w.1.toNat,by omega,by omega,by omega, ?_, ?_⟩,hw1.2.2⟩⟩
 ·rw [← hw.later.offs]; exact hy.1
 ·rw [← hw.later.offs]; exact hz.1
theorem q8j.mono {g : Nat} {b c : T.qo} {i j : Int} {m : T.qw} (h : q8j s n g c j m) (hij : i ≤ j) (hl : Later b c) : q8j s n g b i m := by
 obtain ⟨⟨p,e,h1,h2,h3,h4,h5⟩,h6⟩ := h
 exact ⟨⟨p,e,by omega,h2,h3,by rw [← hl.offs]; exact h4,by rw [← hl.offs]; exact h5⟩,h6⟩
theorem zor (x : T.Rx) (hx : WF x) (hl : rxW x ≤ 1000000000) (t : T.qw) : ∀ (m : Nat) (i : Int) (b : T.qo),m = (n + 1 - i).toNat → 0 ≤ i → jo s n b →
  Tot (q6j (i,b,x,t)) (fun r => match r with | .inl v => jo s n v.2.1 ∧ Later b v.2.1 ∧ (v.1 = true → q8j s n (rxG x) b i v.2.2) | .inr c => jo s n c ∧ Later b c) := by
 intro m
 induction m using Nat.strongRecOn with
 | _ m ih =>
 intro i b hm h0 hb
 have ho := hb.offs
 have hn := hb.hn
 rw [q6j.eq_1]
 (apply Tot.ite <;> intro hT <;> try simp (disch := omega) only [tfx.down,q9,qa] at hT)
 ·refine Tot.bind (zg3 x hx hl i h0 (by omega) b hb) fun v hv => ?_
  refine Tot.ite (fun _ => .ret hv) fun _ => ?_
  rw [wr (n := i + 1) (by omega) (by omega)]
  refine (ih _ (by omega) (i + 1) v.2.2 rfl (by omega) hv.1).mono fun r hr => ?_
  rcases r with r | r
  ·exact ⟨hr.1,hv.2.1.trans hr.2.1,fun h => (hr.2.2 h).mono (by omega) hv.2.1⟩
  ·exact ⟨hr.1,hv.2.1.trans hr.2⟩
 ·exact .ret ⟨hb,.refl b⟩
theorem qo9 (x : T.Rx) (hx : WF x) (hl : rxW x ≤ 1000000000) (i : Int) (h0 : 0 ≤ i) (b : T.qo) (hb : jo s n b) :
  Tot (q87 x i b) (fun r => jo s n r.2.2 ∧ Later b r.2.2 ∧ (r.2.1 = true → q8j s n (rxG x) b i r.1)) := by
 unfold q87
 refine Tot.bind (zor x hx hl _ _ i b rfl h0 hb) fun v hv => ?_
 rcases v with v | v
 ·exact .ret hv
 ·exact .ret ⟨hv.1,hv.2,by simp⟩
theorem qoh (a : Int) (b : T.qo) (hb : jo s n b) : Tot (q8d a b) (fun r => -1 ≤ r ∧ ∀ e : Nat,b.offs.l[e]? = some a → r = e) := by
 have ho := hb.offs
 have hn := hb.hn
 have key : ∀ (r : List Int) (k : Nat),b.offs.l.drop k = r → Tot (q5m (a,(k : Int),b)) (fun v => match v with | .inl i => ∃ j : Nat,i = j ∧ b.offs.l[j]? = some a | .inr _ => ∀ e : Nat,k ≤ e → b.offs.l[e]? ≠ some a) := by
  intro r
  induction r with
  | nil =>
   intro k hk
   rw [q5m.eq_1,if_neg (by simpa using zw hk)]
   refine .ret fun e he => ?_
   rw [List.getElem?_eq_none (by have := nz hk; omega)]
   simp
  | cons y r ih =>
   intro k hk
   obtain ⟨a1,a2,a3,a4⟩ := zq hk
   obtain ⟨b1,b2,b3⟩ := drop_cons hk
   rw [q5m.eq_1,if_pos (by simpa using a1),wrS (by omega) a1]
   refine Tot.go a2 ?_
   (apply Tot.ite <;> intro hT <;> try simp (disch := omega) only [tfx.down,q9,qa] at hT)
   ·exact .ret ⟨k,rfl,by rw [b1,hT]⟩
   ·refine (ih (k + 1) a3).mono fun v hv => ?_
    rcases v with v | v
    ·exact hv
    ·intro e he
     rcases Nat.eq_or_lt_of_le he with rfl | he
     ·rw [b1]; simpa using hT
     ·exact hv e he
 unfold q8d
 refine Tot.bind (key b.offs.l 0 rfl) fun v hv => ?_
 rcases v with v | v
 ·obtain ⟨j,rfl,hj⟩ := hv
  refine .ret ⟨by omega,fun e he => ?_⟩
  have h1 : ¬ j < e := fun h => by have := qgs hb.mono hj he h; omega
  have h2 : ¬ e < j := fun h => by have := qgs hb.mono he hj h; omega
  omega
 ·exact .ret ⟨by omega,fun e he => absurd he (hv e (Nat.zero_le e))⟩
def Ms (s : Bytes) (g : Nat) : Int → List T.qw → Prop
 | lo,[] => 0 ≤ lo ∧ lo ≤ s.length
 | lo,m :: r => 0 ≤ lo ∧ lo ≤ m.span.frm ∧ m.span.frm ≤ m.span.to ∧ q0g s g m.parts ∧ Ms s g m.span.to r
def q9m : Int → List T.qw → Int
 | lo,[] => lo
 | _,m :: r => q9m m.span.to r
theorem Ms.lo {g : Nat} : ∀ {l : List T.qw} {lo : Int},Ms s g lo l → 0 ≤ lo ∧ lo ≤ s.length
 | [],lo,h => h
 | m :: r,lo,h => by
  have := Ms.lo h.2.2.2.2
  have h1 := h.1
  have h2 := h.2.1
  have h3 := h.2.2.1
  omega
theorem qgt : ∀ (l : List T.qw) (lo : Int) (m : T.qw),q9m lo (l ++ [m]) = m.span.to
 | [],_,_ => rfl
 | _ :: r,_,m => qgt r _ m
theorem Ms.snoc {g : Nat} : ∀ {l : List T.qw} {lo : Int} {m : T.qw},Ms s g lo l → q9m lo l ≤ m.span.frm → m.span.frm ≤ m.span.to → m.span.to ≤ s.length → q0g s g m.parts → Ms s g lo (l ++ [m])
 | [],lo,m,h,h1,h2,h3,h4 => by
  have := h.1
  exact ⟨h.1,h1,h2,h4,by simp only [q9m] at h1; omega,h3⟩
 | x :: r,lo,m,h,h1,h2,h3,h4 => ⟨h.1,h.2.1,h.2.2.1,h.2.2.2.1,Ms.snoc h.2.2.2.2 h1 h2 h3 h4⟩
theorem z4e (x : T.Rx) (hx : WF x) (hl : rxW x ≤ 1000000000) : ∀ (m : Nat) (i : Int) (b : T.qo) (out : List T.qw),m = (n + 1 - i).toNat → 0 ≤ i → i ≤ n + 1 → (out.length : Int) ≤ i → jo s n b → Ms s (rxG x) 0 out → (∀ a,b.offs.l[i.toNat]? = some a → q9m 0 out ≤ a) →
  Tot (q5c (i,x,b,out)) (fun r => match r with | .inl v => v.2.2.1 ≠ 0 ∧ v.1.l = [] | .inr v => Ms s (rxG x) 0 v.2 ∧ v.2.length ≤ n + 1) := by
 intro m
 induction m using Nat.strongRecOn with
 | _ m ih =>
 intro i b out hm h0 hi1 hlen hb hM hhi
 have ho := hb.offs
 have hn := hb.hn
 rw [q5c.eq_1]
 (apply Tot.ite <;> intro hT <;> try simp (disch := omega) only [tfx.down,q9,qa] at hT)
 ·have hi := hT
  refine Tot.bind (qo9 x hx hl i h0 b hb) fun v hv => ?_
  (apply Tot.ite <;> intro hT <;> try simp (disch := omega) only [tfx.down,q9,qa] at hT)
  ·exact .ret ⟨by simp,rfl⟩
  (apply Tot.ite <;> intro hT <;> try simp (disch := omega) only [tfx.down,q9,qa] at hT)
  ·exact .ret ⟨hM,by simp only; omega⟩
  obtain ⟨⟨j,e,g1,g2,g3,g4,g5⟩,g6⟩ := hv.2.2 hT
  refine Tot.need (by simp only [ql,Bool.and_eq_true,decide_eq_true_eq]; omega) ?_
  refine Tot.bind (qoh v.1.span.to v.2.2 hv.1) fun w hw => ?_
  have hwe : w = e := hw.2 e (by rw [hv.2.1.offs]; exact g5)
  have hlow : q9m 0 out ≤ v.1.span.frm := by
   obtain ⟨a,ha⟩ : ∃ a,b.offs.l[i.toNat]? = some a := ⟨_,List.getElem?_eq_getElem (by omega)⟩
   have h1 := hhi a ha
   have h2 := q8m hb.mono ha g4 (by omega)
   omega
  have hft := q8m hb.mono g4 g5 g2
  have hto := (hb.rng _ (List.mem_of_getElem? g5)).2
  have hM2 := hM.snoc hlow hft hto g6
  have hoff := hv.2.1.offs
  (apply Tot.ite <;> intro hT <;> try simp (disch := omega) only [tfx.down,q9,qa] at hT)
  ·rw [wr (n := w + 1) (by omega) (by omega)]
   refine ih _ (by omega) (w + 1) v.2.2 _ rfl (by omega) (by omega) (by simp; omega) hv.1 hM2 ?_
   intro a ha
   rw [qgt]
   rw [hoff] at ha
   exact q8m hb.mono g5 ha (by omega)
  ·have hne := hT
   have hje : j < e := by
    rcases Nat.eq_or_lt_of_le g2 with rfl | h
    ·exact absurd (Option.some.inj (g4.symm.trans g5)) hne
    ·exact h
   refine ih _ (by omega) w v.2.2 _ rfl (by omega) (by omega) (by simp; omega) hv.1 hM2 ?_
   intro a ha
   rw [qgt]
   rw [hoff] at ha
   exact q8m hb.mono g5 ha (by omega)
 ·exact .ret ⟨hM,by simp only; omega⟩
end
theorem qwy (x : T.Rx) (hl : rxW x ≤ 1000000000) (fold : Bool) (s : Bytes) (hs : s.length ≤ 1048576) (fuel : Int) : Tot (qbc x fold s fuel) (fun r => r.2.2 = 0 → Ms s (rxG x) 0 r.1.l ∧ r.1.l.length ≤ 1048577) := by
 unfold qbc
 refine Tot.bind (qh5 x (by unfold Light; omega)) fun v hv => ?_
 (apply Tot.ite <;> intro hT <;> try simp (disch := omega) only [tfx.down,q9,qa] at hT)
 ·exact .ret (by simp)
 have hx := hv hT
 refine Tot.bind (qi7 fold s hs fuel) fun b hb => ?_
 obtain ⟨n,hb⟩ := hb
 refine Tot.bind (z4e (s := s) (n := n) x hx hl _ 0 b [] rfl (by omega) (by omega) (by simp) hb ⟨by omega,by omega⟩ (fun a ha => (hb.rng a (List.mem_of_getElem? ha)).1)) fun w hw => ?_
 rcases w with w | w
 ·exact .ret fun h => absurd h hw.1
 ·exact .ret fun _ => ⟨hw.1,by have := hb.hn; have := hw.2; simp only; omega⟩
theorem zou (x : T.Rx) (hl : rxW x ≤ 1000000000) (fold : Bool) (s : Bytes) (hs : s.length ≤ 1048576) (a fuel : Int) : Tot (qan x fold s a fuel) (fun r => r.2.2.1 = true → Ms s (rxG x) 0 [r.1]) := by
 unfold qan
 refine Tot.bind (qh5 x (by unfold Light; omega)) fun v hv => ?_
 (apply Tot.ite <;> intro hT <;> try simp (disch := omega) only [tfx.down,q9,qa] at hT)
 ·exact .ret (by simp)
 have hx := hv hT
 refine Tot.bind (qi7 fold s hs fuel) fun b hb => ?_
 obtain ⟨n,hb⟩ := hb
 refine Tot.bind (qoh a b hb) fun w hw => ?_
 (apply Tot.ite <;> intro hT <;> try simp (disch := omega) only [tfx.down,q9,qa] at hT)
 ·exact .ret (by simp)
 refine Tot.bind (qo9 x hx hl w (by omega) b hb) fun y hy => ?_
 refine Tot.bind (P := fun r => r.2.2.1 = true → y.2.1 = true ∧ r.1 = y.1) ?_ fun z hz => ?_
 ·unfold qct
  (apply Tot.ite <;> intro hT <;> try simp (disch := omega) only [tfx.down,q9,qa] at hT)
  ·exact .ret (by simp)
  ·exact .ret fun h => ⟨h,rfl⟩
 ·refine .ret fun h => ?_
  obtain ⟨z1,z2⟩ := hz h
  obtain ⟨⟨j,e,g1,g2,g3,g4,g5⟩,g6⟩ := hy.2.2 z1
  simp only [z2]
  have h1 := hb.rng _ (List.mem_of_getElem? g4)
  have h2 := hb.rng _ (List.mem_of_getElem? g5)
  exact ⟨by omega,h1.1,q8m hb.mono g4 g5 g2,g6,h2⟩
end Go.Proofs.YtdhgdeelagmbpaaGreat
set_option linter.unusedSimpArgs false
set_option linter.unusedVariables false
namespace Go.Proofs.YtdhgdeelagmbpaaGreat
open Go Go.Gm
theorem qez (c : UInt8) : Tot (q6d c) (fun _ => True) := by
 unfold q6d
 (apply Tot.ite <;> intro hT <;> try simp (disch := omega) only [tfx.down,q9,qa] at hT)
 ·exact .ret trivial
 ·exact .ret trivial
theorem qo7 (c : UInt8) : Tot (q7s c) (fun _ => True) := by
 unfold q7s
 (apply Tot.ite <;> intro hT <;> try simp (disch := omega) only [tfx.down,q9,qa] at hT)
 ·exact .ret trivial
 ·exact .ret trivial
theorem qjs (c : UInt8) : ∃ v,q7g c = some v := by
 unfold q7g qdw
 repeat' split
 all_goals first | exact ⟨_,rfl⟩ | (simp only [Option.bind_eq_bind,Option.bind_some]; split <;> exact ⟨_,rfl⟩)
theorem z0h : ∀ (m : Nat) (i : Int) (b : List UInt8),m = (b.length - i).toNat → 0 ≤ i → b.length ≤ 1099511627776 → Tot (q7j (i,b)) (fun r => r.length = b.length) := by
 intro m
 induction m using Nat.strongRecOn with
 | _ m ih =>
 intro i b hm h0 hB
 rw [q7j.eq_1]
 (apply Tot.ite <;> intro hT <;> try simp (disch := omega) only [tfx.down,q9,qa] at hT)
 ·refine Tot.bind (Tot.get (by omega) (by omega)) fun c hc => ?_
  refine Tot.bind (qez c) fun v _ => ?_
  (repeat (first | (rw [q9]; rotate_left; omega; omega) | (rw [qa]; rotate_left; omega; omega)))
  exact (ih _ (by simp; omega) (i + 1) _ rfl (by omega) (by simpa using hB)).mono fun r hr => by simpa using hr
 ·exact .ret rfl
theorem z2p : ∀ (m : Nat) (i : Int) (b : List UInt8),m = (b.length - i).toNat → 0 ≤ i → b.length ≤ 1099511627776 → Tot (q7k (i,b)) (fun r => r.length = b.length) := by
 intro m
 induction m using Nat.strongRecOn with
 | _ m ih =>
 intro i b hm h0 hB
 rw [q7k.eq_1]
 (apply Tot.ite <;> intro hT <;> try simp (disch := omega) only [tfx.down,q9,qa] at hT)
 ·refine Tot.bind (Tot.get (by omega) (by omega)) fun c hc => ?_
  refine Tot.bind (qo7 c) fun v _ => ?_
  (repeat (first | (rw [q9]; rotate_left; omega; omega) | (rw [qa]; rotate_left; omega; omega)))
  exact (ih _ (by simp; omega) (i + 1) _ rfl (by omega) (by simpa using hB)).mono fun r hr => by simpa using hr
 ·exact .ret rfl
def kg (s : Bytes) : Nat := s.length
theorem qh0 : ∀ (l : List Bytes),(∀ w ∈ l,1 ≤ w.length) → l.length ≤ qd (l.map kg)
 | [],_ => by simp
 | a :: l,h => by
  have h1 := h a (by simp)
  have h2 := qh0 l fun w hw => h w (by simp [hw])
  simp only [List.map_cons,qd,List.length_cons,kg] at *
  omega
theorem zgl (s : Bytes) (hs : s.length ≤ 1048576) : ∀ (r : Bytes) (k : Nat) (l : List Bytes),s.drop k = r → k ≤ s.length → (∀ w ∈ l,1 ≤ w.length) → qd (l.map kg) ≤ k → (0 < k → ∀ b,s[k - 1]? = some b → q7g b = some true → 0 < l.length) →
  Tot (q0k (s,(k : Int),l)) (fun r => (∀ w ∈ r,1 ≤ w.length) ∧ qd (r.map kg) ≤ s.length) := by
 intro r
 induction r with
 | nil =>
  intro k l hk hks h1 h2 h3
  rw [q0k.eq_1,if_neg (by simpa using zw hk)]
  exact .ret ⟨h1,by omega⟩
 | cons b r ih =>
  intro k l hk hks h1 h2 h3
  obtain ⟨a1,a2,a3,a4⟩ := zq hk
  obtain ⟨b1,b2,b3⟩ := drop_cons hk
  have hl := qh0 l h1
  have e1 : IntKind.i64.wrap ((k : Int) + 1) = ((k + 1 : Nat) : Int) := wrS (by omega) a1
  have put : ∀ (l : List Bytes),0 < l.length → l.length ≤ k + 1 → (∀ i w,l[i]? = some w → i + 1 < l.length → 1 ≤ w.length) → qd (l.map kg) ≤ k → ∀ {f : Bytes → Bytes → Option (List Bytes)},(∀ x y,f x y = if x.length + y.length ≤ 2 ^ 62 then q0k (s,IntKind.i64.wrap ((k : Int) + 1),l.set ((IntKind.i64.wrap ((l.length : Int) - 1)).toNat) (x ++ y)) else none) →
    Tot (qh l (IntKind.i64.wrap ((l.length : Int) - 1)) >>= fun x => sub2 s (k : Int) (IntKind.i64.wrap ((k : Int) + 1)) >>= fun y => f x y) (fun r => (∀ w ∈ r,1 ≤ w.length) ∧ qd (r.map kg) ≤ s.length) := by
   intro l hl0 hlk h4 h5 f hf
   have e2 : IntKind.i64.wrap ((l.length : Int) - 1) = ((l.length - 1 : Nat) : Int) := by rw [wr (by omega) (by omega)]; omega
   rw [e2,e1]
   refine Tot.bind (Tot.get (by omega) (by omega)) fun x hx => ?_
   have hxl : x.length ≤ qd (l.map kg) := uu (f := kg) hx.2
   refine Tot.bind (Tot.sub2 (by omega) (by omega) (by omega)) fun y hy => ?_
   rw [hf]
   refine Tot.need (by omega) ?_
   have hyl : y.length = 1 := by omega
   have hx1 : l[l.length - 1]? = some x := by simpa using hx.1
   have hsum := qb4 kg l (l.length - 1) (x ++ y) x hx1
   rw [e2,Int.toNat_natCast,e1]
   have hlen : kg (x ++ y) = kg x + 1 := by simp [kg,hyl]
   refine ih (k + 1) _ a3 (by omega) ?_ (by omega) (fun _ _ _ _ => by simpa using hl0)
   intro w hw
   obtain ⟨i,hi⟩ := List.getElem?_of_mem hw
   rw [List.getElem?_set] at hi
   split at hi
   ·split at hi
    ·cases hi; simp [hyl]
    ·cases hi
   ·rename_i hne
    have := (List.getElem?_eq_some_iff.1 hi).1
    exact h4 i w hi (by omega)
  obtain ⟨v,hv⟩ := qjs b
  rw [q0k.eq_1,if_pos (by simpa using a1)]
  refine Tot.go a2 ?_
  refine Tot.go hv ?_
  have hnew : ∀ i w,(l ++ [([] : Bytes)])[i]? = some w → i + 1 < (l ++ [([] : Bytes)]).length → 1 ≤ w.length := by
   intro i w hi hlt
   simp only [List.length_append,List.length_cons,List.length_nil] at hlt
   rw [List.getElem?_append_left (by omega)] at hi
   exact h1 w (List.mem_of_getElem? hi)
  have hns : qd ((l ++ [([] : Bytes)]).map kg) ≤ k := by rw [wy]; simp only [kg,List.length_nil]; omega
  have hroom : ql (l.length + 1) 16 = true := by simp only [ql,Bool.and_eq_true,decide_eq_true_eq]; omega
  (apply Tot.ite <;> intro hT <;> try simp (disch := omega) only [tfx.down,q9,qa] at hT)
  ·rw [e1]
   refine ih (k + 1) l a3 (by omega) h1 (by omega) (fun _ c hc hc2 => ?_)
   simp only [Nat.add_sub_cancel] at hc
   rw [b1] at hc
   cases hc
   rw [hv] at hc2
   cases hc2
   exact absurd hT (by simp)
  (apply Tot.ite <;> intro hT <;> try simp (disch := omega) only [tfx.down,q9,qa] at hT)
  ·exact Tot.need hroom (put _ (by simp) (by simp; omega) hnew hns fun _ _ => rfl)
  have hk0 : 0 < k := by omega
  have e3 : IntKind.i64.wrap ((k : Int) - 1) = ((k - 1 : Nat) : Int) := by rw [wr (by omega) (by omega)]; omega
  rw [e3]
  refine Tot.bind (Tot.get (by omega) (by omega)) fun c hc => ?_
  obtain ⟨w,hw⟩ := qjs c
  refine Tot.go hw ?_
  (apply Tot.ite <;> intro hT <;> try simp (disch := omega) only [tfx.down,q9,qa] at hT)
  ·exact Tot.need hroom (put _ (by simp) (by simp; omega) hnew hns fun _ _ => rfl)
  ·refine put l (h3 hk0 c (by simpa using hc.1) ?_) (by omega) (fun i w hi _ => h1 w (List.mem_of_getElem? hi)) h2 fun _ _ => rfl
   rw [hw,hT]
theorem qqp (s : Bytes) (hs : s.length ≤ 1048576) : Tot (qbs s) (fun r => (∀ w ∈ r.l,1 ≤ w.length) ∧ qd (r.l.map kg) ≤ s.length) := by
 unfold qbs
 exact Tot.bind (zgl s hs s 0 [] rfl (by omega) (by simp) (by simp [qd]) (fun h => by omega)) fun v hv => .ret hv
theorem z5b (way : Int) (ws : Sl Bytes) (r0 : List UInt8) (hw : ∀ w ∈ ws.l,1 ≤ w.length) (hs : qd (ws.l.map kg) ≤ 1048576) : ∀ (r : List Bytes) (k : Nat) (out : Bytes),ws.l.drop k = r → out.length + qd (r.map kg) ≤ qd (ws.l.map kg) →
  Tot (q35 (way,ws,out,(k : Int),r0)) (fun t => t.length ≤ qd (ws.l.map kg)) := by
 have hl := qh0 ws.l hw
 intro r
 induction r with
 | nil =>
  intro k out hk ho
  rw [q35.eq_1,if_neg (by simpa using zw hk)]
  simp only [List.map_nil,qd] at ho
  exact .ret (by omega)
 | cons x r ih =>
  intro k out hk ho
  obtain ⟨a1,a2,a3,a4⟩ := zq hk
  simp only [List.map_cons,qd,kg] at ho
  have hx := hw x a4
  rw [q35.eq_1,if_pos (by simpa using a1),wrS (by omega) a1]
  refine Tot.go a2 ?_
  (apply Tot.ite <;> intro hT <;> try simp (disch := omega) only [tfx.down,q9,qa] at hT)
  ·refine Tot.bind (Tot.get (by omega) (by omega)) fun c _ => ?_
   refine Tot.bind (qo7 c) fun v _ => ?_
   refine Tot.need (by simp; omega) ?_
   exact ih (k + 1) _ a3 (by simp [kg]; omega)
  ·refine Tot.bind (Tot.get (by omega) (by omega)) fun c _ => ?_
   refine Tot.bind (qez c) fun v _ => ?_
   refine Tot.need (by simp; omega) ?_
   exact ih (k + 1) _ a3 (by simp [kg]; omega)
theorem qor (s : Bytes) (hs : s.length ≤ 1048576) (way : Int) : Tot (q9d s way) (fun r => r.1.length ≤ s.length) := by
 unfold q9d
 (apply Tot.ite <;> intro hT <;> try simp (disch := omega) only [tfx.down,q9,qa] at hT)
 ·exact Tot.bind (z0h _ 0 s rfl (by omega) (by omega)) fun v hv => .ret (by simp only; omega)
 (apply Tot.ite <;> intro hT <;> try simp (disch := omega) only [tfx.down,q9,qa] at hT)
 ·exact Tot.bind (z2p _ 0 s rfl (by omega) (by omega)) fun v hv => .ret (by simp only; omega)
 (apply Tot.ite <;> intro hT <;> try simp (disch := omega) only [tfx.down,q9,qa] at hT)
 ·(apply Tot.ite <;> intro hT <;> try simp (disch := omega) only [tfx.down,q9,qa] at hT)
  ·refine Tot.bind (Tot.get (by omega) (by omega)) fun c _ => ?_
   refine Tot.bind (qez c) fun v _ => ?_
   exact .ret (by simp)
  ·exact .ret (by simp)
 (apply Tot.ite <;> intro hT <;> try simp (disch := omega) only [tfx.down,q9,qa] at hT)
 ·refine Tot.bind (qqp s hs) fun w hw => ?_
  refine Tot.bind (z5b way w s hw.1 (by omega) w.l 0 [] rfl (by simp)) fun v hv => ?_
  exact .ret (by simp only; omega)
 ·exact .ret (by simp)
theorem zln (fs : Sl T.Fmt) (hf : qd (fs.l.map fmW) ≤ 1000000000) (parts : Sl Bytes) (hp : ∀ p ∈ parts.l,p.length ≤ 1048576) : Tot (qb1 fs parts) (fun r => r.length ≤ 1048576 * qd (fs.l.map fmW)) := by
 have hl := xn qea fs.l
 unfold qb1
 refine Tot.bind (qlk fs (by omega)) fun v hv => ?_
 (apply Tot.ite <;> intro hT <;> try simp (disch := omega) only [tfx.down,q9,qa] at hT)
 ·exact .ret (by simp)
 have hn := hv hT
 have key : ∀ (r : List T.Fmt) (k : Nat) (s : Bytes),fs.l.drop k = r → s.length + 1048576 * qd (r.map fmW) ≤ 1048576 * qd (fs.l.map fmW) → Tot (kr (fs,parts,s,(k : Int))) (fun r => r.length ≤ 1048576 * qd (fs.l.map fmW)) := by
  intro r
  induction r with
  | nil =>
   intro k s hk hs
   rw [kr.eq_1,if_neg (by simpa using zw hk)]
   exact .ret (by omega)
  | cons f r ih =>
   intro k s hk hs
   obtain ⟨a1,a2,a3,a4⟩ := zq hk
   simp only [List.map_cons,qd] at hs
   have hfw : fmW f = 1 + f.thn.length + f.els.length := rfl
   have hfn := hn f a4
   have next : ∀ t : Bytes,t.length ≤ 1048576 * fmW f → Tot (if s.length + t.length ≤ 2 ^ 62 then kr (fs,parts,(s ++ t),((k + 1 : Nat) : Int)) else none) (fun r => r.length ≤ 1048576 * qd (fs.l.map fmW)) := by
    intro t ht
    refine Tot.need (by omega) (ih (k + 1) _ a3 ?_)
    simp only [List.length_append]
    omega
   have h1 := next f.thn (by omega)
   have h2 := next f.els (by omega)
   have h3 := next [] (by simp)
   rw [kr.eq_1,if_pos (by simpa using a1),wrS (by omega) a1]
   refine Tot.go a2 ?_
   refine Tot.ite (fun hc => ?_) fun hc => ?_
   ·simp only [decide_eq_true_eq] at hc
    refine Tot.bind (Tot.get hfn hc) fun p hpp => ?_
    have hpl := hp p hpp.2
    have h4 := next p (by omega)
    repeat' (first | exact h1 | exact h2 | exact h4 | (refine Tot.bind (qor p hpl _) fun v hv => ?_; exact next v.1 (by omega)) | refine Tot.ite (fun _ => ?_) (fun _ => ?_))
   ·repeat' (first | exact h1 | exact h2 | exact h3 | (refine Tot.bind (qor [] (by simp) _) fun v hv => ?_; exact next v.1 (by simp only [List.length_nil] at hv; omega)) | refine Tot.ite (fun _ => ?_) (fun _ => ?_))
 exact Tot.bind (key fs.l 0 [] rfl (by simp)) fun v hv => .ret hv
theorem qnr (f : T.Form) (hf : xu f ≤ 1000000000) (s : Bytes) (hs : s.length ≤ 1048576) (g : Nat) (hg : g ≤ 1000000000) (m : T.qw) (h0 : 0 ≤ m.span.frm) (h1 : m.span.frm ≤ m.span.to) (h2 : m.span.to ≤ s.length) (hp : q0g s g m.parts) :
  Tot (q7r f s m) (fun r => r.length ≤ 1048576 * 1000000000) := by
 have hpl := hp.len
 have hfw : xu f = rxW f.rx + qd (f.fmts.l.map fmW) := rfl
 have key : ∀ (r : List T.Span) (k : Nat) (ps : List Bytes),m.parts.l.drop k = r → ps.length = k + 1 → (∀ p ∈ ps,p.length ≤ 1048576) → Tot (q3m (s,(k : Int),f,m,ps)) (fun r => ∀ p ∈ r,p.length ≤ 1048576) := by
  intro r
  induction r with
  | nil =>
   intro k ps hk hl hps
   rw [q3m.eq_1,if_neg (by simpa using zw hk)]
   exact .ret hps
  | cons x r ih =>
   intro k ps hk hl hps
   obtain ⟨a1,a2,a3,a4⟩ := zq hk
   have hx := hp.ok x a4
   have more : ∀ p : Bytes,p.length ≤ 1048576 → ∀ q ∈ ps ++ [p],q.length ≤ 1048576 := by
    intro p hp q hq
    rcases List.mem_append.1 hq with hq | hq
    ·exact hps q hq
    ·simp only [List.mem_singleton] at hq; subst hq; exact hp
   have hroom : ql (ps.length + 1) 16 = true := by simp only [ql,Bool.and_eq_true,decide_eq_true_eq]; omega
   rw [q3m.eq_1,if_pos (by simpa using a1),wrS (by omega) a1]
   refine Tot.go a2 ?_
   (apply Tot.ite <;> intro hT <;> try simp (disch := omega) only [tfx.down,q9,qa] at hT)
   ·rcases hx with hx | hx
    ·omega
    refine Tot.bind (Tot.sub2 hx.1 hx.2.1 hx.2.2) fun y hy => ?_
    exact Tot.need hroom (ih (k + 1) _ a3 (by simp; omega) (more y (by omega)))
   ·exact Tot.need hroom (ih (k + 1) _ a3 (by simp; omega) (more [] (by simp)))
 unfold q7r
 refine Tot.bind (Tot.sub2 h0 h1 h2) fun y hy => ?_
 refine Tot.bind (key m.parts.l 0 [y] rfl rfl (by simp; omega)) fun v hv => ?_
 refine Tot.bind (zln f.fmts (by omega) ⟨false,v⟩ hv) fun w hw => ?_
 refine .ret ?_
 have : qd (f.fmts.l.map fmW) ≤ 1000000000 := by omega
 have := Nat.mul_le_mul_left 1048576 this
 omega
theorem z7p (f : T.Form) (hf : xu f ≤ 1000000000) (s : Bytes) (hs : s.length ≤ 1048576) (g : Nat) (hg : g ≤ 1000000000) (ms : Sl T.qw) (hml : ms.l.length ≤ 1099511627776) (left : Int) : ∀ (r : List T.qw) (k : Nat) (a : Int) (out : Bytes),ms.l.drop k = r → Ms s g a r → out.length ≤ 65536 →
  Tot (q4c (s,ms,left,out,a,(k : Int),f)) (fun v => match v with | .inl y => y.2.2.1 ≠ 0 ∧ y.1 = [] | .inr y => y.1.length ≤ 65536 ∧ 0 ≤ y.2 ∧ y.2 ≤ s.length) := by
 intro r
 induction r with
 | nil =>
  intro k a out hk hm ho
  rw [q4c.eq_1,if_neg (by simpa using zw hk)]
  exact .ret ⟨ho,hm⟩
 | cons x r ih =>
  intro k a out hk hm ho
  obtain ⟨a1,a2,a3,a4⟩ := zq hk
  obtain ⟨m1,m2,m3,m4,m5⟩ := hm
  have m6 := m5.lo
  rw [q4c.eq_1,if_pos (by simpa using a1),wrS (by omega) a1]
  refine Tot.go a2 ?_
  refine Tot.bind (Tot.sub2 m1 m2 (by omega)) fun y hy => ?_
  refine Tot.need (by omega) ?_
  refine Tot.bind (qnr f hf s hs g hg x (by omega) m3 m6.2 m4) fun v hv => ?_
  refine Tot.need (by simp; omega) ?_
  (apply Tot.ite <;> intro hT <;> try simp (disch := omega) only [tfx.down,q9,qa] at hT)
  ·exact .ret ⟨by simp,rfl⟩
  ·exact ih (k + 1) _ _ a3 m5 (by omega)
theorem zlc (f : T.Form) (hf : xu f ≤ 1000000000) (s : Bytes) (hs : s.length ≤ 1048576) (g : Nat) (hg : g ≤ 1000000000) (ms : List T.qw) (hml : ms.length ≤ 1099511627776) (left : Int) (b1 : T.qw) (r2 : List T.qw) : ∀ (r : List T.qw) (k : Nat) (a : Int) (out : Bytes),ms.drop k = r → Ms s g a r → out.length ≤ 65536 →
  Tot (q54 (s,left,out,a,(k : Int),f,b1,r2,ms)) (fun v => match v with | .inl y => y.2.2.1 ≠ 0 ∧ y.1 = [] | .inr y => y.1.length ≤ 65536 ∧ 0 ≤ y.2 ∧ y.2 ≤ s.length) := by
 intro r
 induction r with
 | nil =>
  intro k a out hk hm ho
  rw [q54.eq_1,if_neg (by simpa using zw hk)]
  exact .ret ⟨ho,hm⟩
 | cons x r ih =>
  intro k a out hk hm ho
  obtain ⟨a1,a2,a3,a4⟩ := zq hk
  obtain ⟨m1,m2,m3,m4,m5⟩ := hm
  have m6 := m5.lo
  rw [q54.eq_1,if_pos (by simpa using a1),wrS (by omega) a1]
  refine Tot.go a2 ?_
  refine Tot.bind (Tot.sub2 m1 m2 (by omega)) fun y hy => ?_
  refine Tot.need (by omega) ?_
  refine Tot.bind (qnr f hf s hs g hg x (by omega) m3 m6.2 m4) fun v hv => ?_
  refine Tot.need (by simp; omega) ?_
  (apply Tot.ite <;> intro hT <;> try simp (disch := omega) only [tfx.down,q9,qa] at hT)
  ·exact .ret ⟨by simp,rfl⟩
  ·exact ih (k + 1) _ _ a3 m5 (by omega)
theorem qf5 (f : T.Form) (hf : xu f ≤ 1000000000) (s : Bytes) (hs : s.length ≤ 1048576) (fuel : Int) : Tot (q5o f s fuel) (fun r => r.1.length ≤ 65536 ∨ r.1 = s) := by
 have hfw : xu f = rxW f.rx + qd (f.fmts.l.map fmW) := rfl
 have hgl := qhx f.rx
 unfold q5o
 refine Tot.bind (qlp f (by omega)) fun v hv => ?_
 (apply Tot.ite <;> intro hT <;> try simp (disch := omega) only [tfx.down,q9,qa] at hT)
 ·exact .ret (.inl (by simp))
 (apply Tot.ite <;> intro hT <;> try simp (disch := omega) only [tfx.down,q9,qa] at hT)
 ·refine Tot.bind (qwy f.rx (by omega) f.fold s hs fuel) fun w hw => ?_
  (apply Tot.ite <;> intro hT <;> try simp (disch := omega) only [tfx.down,q9,qa] at hT)
  ·exact .ret (.inl (by simp))
  have hM := hw hT
  (apply Tot.ite <;> intro hT <;> try simp (disch := omega) only [tfx.down,q9,qa] at hT)
  ·exact .ret (.inr rfl)
  refine Tot.bind (z7p f hf s hs (rxG f.rx) (by omega) w.1 (by have := hM.2; omega) w.2.1 w.1.l 0 0 [] rfl hM.1 (by simp)) fun y hy => ?_
  rcases y with y | y
  ·exact .ret (.inl (by simp only [hy.2,List.length_nil]; omega))
  ·simp only
   (try simp (disch := omega) only [q9,qa])
   (apply Tot.ite <;> intro hT <;> try simp (disch := omega) only [tfx.down,q9,qa] at hT)
   ·exact .ret (.inl (by simp))
   ·refine Tot.bind (Tot.ku hy.2.1 hy.2.2) fun z hz => ?_
    refine Tot.need (by omega) ?_
    exact .ret (.inl (by simp only [List.length_append]; omega))
 ·refine Tot.bind (zou f.rx (by omega) f.fold s hs 0 fuel) fun w hw => ?_
  (apply Tot.ite <;> intro hT <;> try simp (disch := omega) only [tfx.down,q9,qa] at hT)
  ·have hM := hw hT
   refine Tot.need (by simp [ql]) ?_
   (apply Tot.ite <;> intro hT <;> try simp (disch := omega) only [tfx.down,q9,qa] at hT)
   ·exact .ret (.inl (by simp))
   refine Tot.ite (fun h => absurd h (by simp)) fun _ => ?_
   refine Tot.bind (zlc f hf s hs (rxG f.rx) (by omega) [w.1] (by simp) w.2.1 w.1 [w.1] [w.1] 0 0 [] rfl hM (by simp)) fun y hy => ?_
   rcases y with y | y
   ·exact .ret (.inl (by simp only [hy.2,List.length_nil]; omega))
   ·simp only
    (try simp (disch := omega) only [q9,qa])
    (apply Tot.ite <;> intro hT <;> try simp (disch := omega) only [tfx.down,q9,qa] at hT)
    ·exact .ret (.inl (by simp))
    ·refine Tot.bind (Tot.ku hy.2.1 hy.2.2) fun z hz => ?_
     refine Tot.need (by omega) ?_
     exact .ret (.inl (by simp only [List.length_append]; omega))
  ·(apply Tot.ite <;> intro hT <;> try simp (disch := omega) only [tfx.down,q9,qa] at hT)
   ·exact .ret (.inl (by simp))
   ·exact Tot.ite (fun _ => .ret (.inr rfl)) fun h => absurd (by decide) h
end Go.Proofs.YtdhgdeelagmbpaaGreat
set_option linter.unusedSimpArgs false
set_option linter.unusedVariables false
namespace Go.Proofs.YtdhgdeelagmbpaaGreat
open Go Go.Gm
theorem qhy (s lead unit : Bytes) (hs : s.length ≤ 8192002) (hl : lead.length ≤ 1048576) (hu : unit.length ≤ 1048576) : Tot (q5f s lead unit) (fun r => r.length ≤ 17592186044416) := by
 have key : ∀ (r : Bytes) (k : Nat) (behind : Bool) (b : Bytes),s.drop k = r → k ≤ s.length → b.length ≤ 2097153 * k → Tot (uw (s,lead,unit,behind,(k : Int),b)) (fun r => r.length ≤ 17592186044416) := by
  have room : ∀ n,n ≤ 17592186044416 → ql n 1 = true := by
   intro n hn
   simp only [ql,Bool.and_eq_true,decide_eq_true_eq]
   omega
  intro r
  induction r with
  | nil =>
   intro k behind b hk hks hb
   rw [uw.eq_1,if_neg (by simpa using zw hk)]
   exact .ret (by omega)
  | cons c r ih =>
   intro k behind b hk hks hb
   obtain ⟨a1,a2,a3,a4⟩ := zq hk
   have next : ∀ (h : Bool) (e : Bytes),e.length ≤ b.length + 2097153 → Tot (uw (s,lead,unit,h,((k + 1 : Nat) : Int),e)) (fun r => r.length ≤ 17592186044416) := fun h e he => ih (k + 1) h e a3 (by omega) (by omega)
   rw [uw.eq_1,if_pos (by simpa using a1),wrS (by omega) a1,a2]
   refine Tot.ite (fun _ => ?_) fun _ => ?_
   all_goals refine Tot.go rfl ?_
   all_goals repeat' (first | exact next _ _ (by first | omega | (simp only [List.length_append,List.length_cons,List.length_nil]; omega)) | refine Tot.need (room _ (by first | omega | (simp only [List.length_append,List.length_cons,List.length_nil]; omega))) ?_ | refine Tot.ite (fun _ => ?_) (fun _ => ?_))
 unfold q5f
 exact Tot.bind (key s 0 false [] rfl (by omega) (by simp)) fun v hv => .ret hv
theorem qic (name : Bytes) (env : Sl T.qi) (he : env.l.length ≤ 1099511627776) : Tot (q80 name env) (fun r => (∃ p ∈ env.l,r.1 = p.value) ∨ (r.1 = [] ∧ r.2 = false)) := by
 have key : ∀ (r : List T.qi) (k : Nat),env.l.drop k = r → Tot (q4u (name,env,(k : Int))) (fun v => match v with | .inl y => ∃ p ∈ env.l,y.1 = p.value | .inr _ => True) := by
  intro r
  induction r with
  | nil =>
   intro k hk
   rw [q4u.eq_1,if_neg (by simpa using zw hk)]
   exact .ret trivial
  | cons c r ih =>
   intro k hk
   obtain ⟨a1,a2,a3,a4⟩ := zq hk
   rw [q4u.eq_1,if_pos (by simpa using a1),wrS (by omega) a1]
   refine Tot.go a2 ?_
   (apply Tot.ite <;> intro hT <;> try simp (disch := omega) only [tfx.down,q9,qa] at hT)
   ·exact .ret ⟨c,a4,rfl⟩
   ·exact ih (k + 1) a3
 unfold q80
 refine Tot.bind (key env.l 0 rfl) fun v hv => ?_
 rcases v with v | v
 ·exact .ret (.inl hv)
 ·exact .ret (.inr ⟨rfl,rfl⟩)
theorem qi9 (name : Bytes) : Tot (q9e name) (fun _ => True) := by
 have key : ∀ (l : Sl Bytes) (hl : l.l.length ≤ 1000) (r : List Bytes) (k : Nat),l.l.drop k = r → Tot (q5l (name,l,(k : Int))) (fun _ => True) := by
  intro l hl r
  induction r with
  | nil =>
   intro k hk
   rw [q5l.eq_1,if_neg (by simpa using zw hk)]
   exact .ret trivial
  | cons c r ih =>
   intro k hk
   obtain ⟨a1,a2,a3,a4⟩ := zq hk
   rw [q5l.eq_1,if_pos (by simpa using a1),wrS (by omega) a1]
   refine Tot.go a2 ?_
   (apply Tot.ite <;> intro hT <;> try simp (disch := omega) only [tfx.down,q9,qa] at hT)
   ·exact .ret trivial
   ·exact ih (k + 1) a3
 unfold q9e qee
 refine Tot.go rfl ?_
 refine Tot.bind (key _ (by simp) _ 0 rfl) fun v _ => ?_
 rcases v with v | v <;> exact .ret trivial
theorem q8z (n : Int) (l : List Int) (hl : l.length ≤ 1099511627776) : Tot (q2w n l) (fun r => r = true ↔ n ∈ l) := by
 have key : ∀ (r : List Int) (k : Nat),l.drop k = r → Tot (q4e (n,(k : Int),l)) (fun v => (v = .inl true ∧ n ∈ r) ∨ (v = .inr () ∧ n ∉ r)) := by
  intro r
  induction r with
  | nil =>
   intro k hk
   rw [q4e.eq_1,if_neg (by simpa using zw hk)]
   exact .ret (.inr ⟨rfl,by simp⟩)
  | cons c r ih =>
   intro k hk
   obtain ⟨a1,a2,a3,a4⟩ := zq hk
   rw [q4e.eq_1,if_pos (by simpa using a1),wrS (by omega) a1]
   refine Tot.go a2 ?_
   (apply Tot.ite <;> intro hT <;> try simp (disch := omega) only [tfx.down,q9,qa] at hT)
   ·exact .ret (.inl ⟨rfl,by simp [hT]⟩)
   ·refine (ih (k + 1) a3).mono fun v hv => ?_
    rcases hv with ⟨h1,h2⟩ | ⟨h1,h2⟩
    ·exact .inl ⟨h1,by simp [h2]⟩
    ·refine .inr ⟨h1, ?_⟩
     intro h
     rcases List.mem_cons.1 h with h | h
     ·exact hT h.symm
     ·exact h2 h
 unfold q2w
 refine Tot.bind (key l 0 rfl) fun v hv => ?_
 rcases hv with ⟨rfl,h⟩ | ⟨rfl,h⟩
 ·exact .ret (by simp [h])
 ·exact .ret (by simp [h])
abbrev Pt := T.qc
inductive xe : Int → Nat → List Pt → Prop
 | nil (up : Int) (b : Nat) : xe up b []
 | cons (up : Int) (b : Nat) (x : Pt) (kids rest : List Pt) (hu : x.up = up) (he : x.end_ = ((b + 1 + kids.length : Nat) : Int)) (hd : x.def_ = false → kids = []) (ho : x.opts.l ≠ [] → kids = [])
   (hk : xe b (b + 1) kids) (hr : xe up (b + 1 + kids.length) rest) : xe up b (x :: (kids ++ rest))
theorem xe.app {up : Int} {b : Nat} {l r : List Pt} (h : xe up b l) : xe up (b + l.length) r → xe up b (l ++ r) := by
 induction h with
 | nil up b => intro hr; simpa using hr
 | cons up b x kids rest hu he hd ho hk _ _ ih =>
  intro hr
  have := xe.cons up b x kids (rest ++ r) hu he hd ho hk (ih (by
   have : b + (x :: (kids ++ rest)).length = b + 1 + kids.length + rest.length := by simp; omega
   rwa [this] at hr))
  simpa using this
theorem xe.one {up : Int} {b : Nat} (x : Pt) (hu : x.up = up) (he : x.end_ = ((b + 1 : Nat) : Int)) : xe up b [x] := by
 simpa using xe.cons up b x [] [] hu (by simpa using he) (fun _ => rfl) (fun _ => rfl) (.nil _ _) (.nil _ _)
structure POk (k : Nat) (x : Pt) : Prop where
 kind : 0 ≤ x.kind ∧ x.kind ≤ 2
 other : x.kind ≠ 1 → x.n = 0 ∧ x.def_ = false ∧ x.opts.l = []
 n : -(k : Int) ≤ x.n ∧ x.n ≤ 9999
 form : xu x.form ≤ 1000000000
 dt : x.def_ = true → x.turned = false
 od : x.def_ = false → x.opts.l = []
 tt : x.turned = true → x.text.length ≤ 1048576
 tl : x.text.length ≤ 17592186044416
 ol : ∀ o ∈ x.opts.l,o.length ≤ 17592186044416
theorem POk.mono {j k : Nat} (h : j ≤ k) {x : Pt} (p : POk j x) : POk k x := ⟨p.kind,p.other,⟨by have := p.n; omega,p.n.2⟩,p.form,p.dt,p.od,p.tt,p.tl,p.ol⟩
def defs (r : List Pt) : List Int := (r.filter (·.def_)).map (·.n)
structure ja (r : List Pt) (ds : List Int) (ns : List Bytes) : Prop where
 ok : ∀ x ∈ r,POk ns.length x
 dk : ∀ n ∈ defs r,n ∈ ds
 un : (defs r).Nodup
 dl : ds.length ≤ r.length
 nl : ns.length ≤ r.length
structure Kept (env : Sl T.qi) (lead unit : Bytes) (up : Int) (r : List Pt) (ns : List Bytes) (m : Nat) (v : Sl T.qi × Bytes × Bytes × List Pt × List Int × List Bytes) : Prop where
 e1 : v.1 = env
 e2 : v.2.1 = lead
 e3 : v.2.2.1 = unit
 ex : ∃ t,v.2.2.2.1 = r ++ t ∧ xe up r.length t ∧ t.length ≤ 2 * m
 inv : ja v.2.2.2.1 v.2.2.2.2.1 v.2.2.2.2.2
 ns : ns.length ≤ v.2.2.2.2.2.length
theorem q2k (p : Pt) (b : Sl T.qi) (b2 b3 : Bytes) (r : List Pt) (r2 : List Int) (r3 : List Bytes) (h : r.length ≤ 100000000) :
  Tot (um p b b2 b3 r r2 r3) (fun v => v = r ++ [{ p with end_ := ((r.length + 1 : Nat) : Int) }]) := by
 unfold um
 refine Tot.need (by simp only [ql,Bool.and_eq_true,decide_eq_true_eq]; omega) ?_
 rw [wr (by omega) (by omega)]
 exact .ret (by simp)
theorem q57 (a b : List Pt) : defs (a ++ b) = defs a ++ defs b := by simp [defs]
theorem q59 (x : Pt) : defs [x] = if x.def_ then [x.n] else [] := by unfold defs; cases h : x.def_ <;> simp [h]
theorem ja.put {r : List Pt} {ds : List Int} {ns : List Bytes} (h : ja r ds ns) (x : Pt) (hx : POk ns.length x) (hd : x.def_ = false) : ja (r ++ [x]) ds ns where
 ok := by
  intro y hy
  rcases List.mem_append.1 hy with hy | hy
  ·exact h.ok y hy
  ·simp only [List.mem_singleton] at hy; subst hy; exact hx
 dk := by rw [q57,q59,hd]; simpa using h.dk
 un := by rw [q57,q59,hd]; simpa using h.un
 dl := by have := h.dl; simp; omega
 nl := by have := h.nl; simp; omega
theorem ja.define {r : List Pt} {ds : List Int} {ns : List Bytes} (h : ja r ds ns) (x : Pt) (hx : POk ns.length x) (hd : x.def_ = true) (hn : x.n ∉ ds) : ja (r ++ [x]) (ds ++ [x.n]) ns where
 ok := by
  intro y hy
  rcases List.mem_append.1 hy with hy | hy
  ·exact h.ok y hy
  ·simp only [List.mem_singleton] at hy; subst hy; exact hx
 dk := by
  rw [q57,q59,hd]
  intro n hn
  rcases List.mem_append.1 hn with hn | hn
  ·exact List.mem_append.2 (.inl (h.dk n hn))
  ·exact List.mem_append.2 (.inr hn)
 un := by
  rw [q57,q59,hd]
  refine List.nodup_append.2 ⟨h.un,by simp,fun a ha b hb => ?_⟩
  simp only [if_true,List.mem_singleton] at hb
  subst hb
  exact fun e => hn (e ▸ h.dk a ha)
 dl := by have := h.dl; simp; omega
 nl := by have := h.nl; simp; omega
theorem ja.qv6 {r : List Pt} {ds : List Int} {ns ms : List Bytes} (h : ja r ds ns) (hm : ns.length ≤ ms.length ∧ ms.length ≤ ns.length + 1) (x : Pt) (hx : POk ms.length x) (hd : x.def_ = false) : ja (r ++ [x]) ds ms where
 ok := by
  intro y hy
  rcases List.mem_append.1 hy with hy | hy
  ·exact (h.ok y hy).mono hm.1
  ·simp only [List.mem_singleton] at hy; subst hy; exact hx
 dk := by rw [q57,q59,hd]; simpa using h.dk
 un := by rw [q57,q59,hd]; simpa using h.un
 dl := by have := h.dl; simp; omega
 nl := by have := h.nl; simp; omega
theorem ja.zca {r : List Pt} {ds : List Int} {ns ms : List Bytes} (h : ja r ds ns) (hm : ns.length ≤ ms.length ∧ ms.length ≤ ns.length + 1) (x : Pt) (hx : POk ms.length x) (hd : x.def_ = true) (hn : x.n ∉ ds) : ja (r ++ [x]) (ds ++ [x.n]) ms where
 ok := by
  intro y hy
  rcases List.mem_append.1 hy with hy | hy
  ·exact (h.ok y hy).mono hm.1
  ·simp only [List.mem_singleton] at hy; subst hy; exact hx
 dk := by
  rw [q57,q59,hd]
  intro n hn
  rcases List.mem_append.1 hn with hn | hn
  ·exact List.mem_append.2 (.inl (h.dk n hn))
  ·exact List.mem_append.2 (.inr hn)
 un := by
  rw [q57,q59,hd]
  refine List.nodup_append.2 ⟨h.un,by simp,fun a ha b hb => ?_⟩
  simp only [if_true,List.mem_singleton] at hb
  subst hb
  exact fun e => hn (e ▸ h.dk a ha)
 dl := by have := h.dl; simp; omega
 nl := by have := h.nl; simp; omega
theorem ja.names {r : List Pt} {ds : List Int} {ns : List Bytes} (h : ja r ds ns) {ms : List Bytes} (h1 : ns.length ≤ ms.length) (h2 : ms.length ≤ r.length) : ja r ds ms :=
 ⟨fun x hx => (h.ok x hx).mono h1,h.dk,h.un,h.dl,h2⟩
theorem ja.ended {r t : List Pt} {p q : Pt} {ds : List Int} {ns : List Bytes} (h : ja (r ++ p :: t) ds ns) (e : Int) (hq : q = { p with end_ := e }) : ja (r ++ q :: t) ds ns where
 ok := by
  subst hq
  intro y hy
  rcases List.mem_append.1 hy with hy | hy
  ·exact h.ok y (by simp [hy])
  ·rcases List.mem_cons.1 hy with rfl | hy
   ·have := h.ok p (by simp)
    exact ⟨this.kind,this.other,this.n,this.form,this.dt,this.od,this.tt,this.tl,this.ol⟩
   ·exact h.ok y (by simp [hy])
 dk := by
  have e1 : defs (r ++ q :: t) = defs (r ++ p :: t) := by
   subst hq
   simp only [defs,List.filter_append,List.filter_cons]
   cases p.def_ <;> simp
  rw [e1]; exact h.dk
 un := by
  have e1 : defs (r ++ q :: t) = defs (r ++ p :: t) := by
   subst hq
   simp only [defs,List.filter_append,List.filter_cons]
   cases p.def_ <;> simp
  rw [e1]; exact h.un
 dl := by have := h.dl; simpa using this
 nl := by have := h.nl; simpa using this
theorem qcr : xu q5h = 1 := by simp [q5h,q4v,xu,jm,qd]
end Go.Proofs.YtdhgdeelagmbpaaGreat
set_option linter.unusedSimpArgs false
set_option linter.unusedVariables false
namespace Go.Proofs.YtdhgdeelagmbpaaGreat
open Go Go.Gm
structure q9j (env : Sl T.qi) (lead unit : Bytes) : Prop where
 len : env.l.length ≤ 1099511627776
 val : ∀ p ∈ env.l,p.value.length ≤ 1048576
 lead : lead.length ≤ 1048576
 unit : unit.length ≤ 1048576
section
variable {env : Sl T.qi} {lead unit : Bytes}
theorem qjm (name : Bytes) (r : List Pt) (r2 : List Int) (ns : List Bytes) (hn : ns.length ≤ 100000000) :
  Tot (q88 name env lead unit r r2 ns) (fun v => ns.length ≤ v.2.length ∧ v.2.length ≤ ns.length + 1 ∧ -(v.2.length : Int) ≤ v.1 ∧ v.1 < 0) := by
 have key : ∀ (q : List Bytes) (k : Nat),ns.drop k = q → Tot (q58 (name,(k : Int),env,lead,unit,r,r2,ns)) (fun v => match v with | .inl y => -(ns.length : Int) ≤ y ∧ y < 0 | .inr _ => True) := by
  intro q
  induction q with
  | nil =>
   intro k hk
   rw [q58.eq_1,if_neg (by simpa using zw hk)]
   exact .ret trivial
  | cons c q ih =>
   intro k hk
   obtain ⟨a1,a2,a3,a4⟩ := zq hk
   rw [q58.eq_1,if_pos (by simpa using a1),wrS (by omega) a1]
   refine Tot.go a2 ?_
   (apply Tot.ite <;> intro hT <;> try simp (disch := omega) only [tfx.down,q9,qa] at hT)
   ·rw [wr (by omega) (by omega)]
    exact .ret (by simp only; omega)
   ·exact ih (k + 1) a3
 unfold q88
 refine Tot.bind (key ns 0 rfl) fun v hv => ?_
 rcases v with v | v
 ·exact .ret ⟨Nat.le_refl _,Nat.le_succ _,hv⟩
 ·refine Tot.need (by simp only [ql,Bool.and_eq_true,decide_eq_true_eq]; omega) ?_
  rw [wr (by simp; omega) (by simp; omega)]
  exact .ret ⟨by simp,by simp,by simp,by simp <;> omega⟩
theorem qn0 (plain : Bool) (a : Int) (r : List Pt) (r2 : List Int) (r3 : List Bytes) (x : T.qb) (hx : snW x ≤ 8192002) (hE : q9j env lead unit) (p1 : Int) (p2 : Bytes) (p3 : Int) (d : Bool) (p5 p6 : Bool) (p7 : Int) (p8 : Bytes) (p9 : Bool) (p10 : Sl T.Row) (p11 p12 : Int) (p13 : Bool) (p14 : Sl T.Rx) (p15 : Sl T.Fmt) (p16 p17 : Bool) (p18 p19 : Int) :
  Tot (q1t (plain,a,(0 : Int),env,lead,unit,r,r2,r3,x,p1,p2,p3,d,p5,p6,p7,p8,p9,p10,p11,p12,p13,p14,p15,p16,p17,p18,p19,([] : List Bytes)))
   (fun o => (d = false → o = []) ∧ (x.opts.l = [] → o = []) ∧ ∀ y ∈ o,y.length ≤ 17592186044416) := by
 have hw := vg x
 have hol := xn qfs x.opts.l
 cases d with
 | false =>
  rw [q1t.eq_1,if_neg (by simp)]
  exact .ret ⟨fun _ => rfl,fun _ => rfl,by simp⟩
 | true =>
  have key : ∀ (q : List Bytes) (k : Nat) (o : List Bytes),x.opts.l.drop k = q → o.length = k → k ≤ x.opts.l.length → (∀ y ∈ o,y.length ≤ 17592186044416) →
    Tot (q1t (plain,a,(k : Int),env,lead,unit,r,r2,r3,x,p1,p2,p3,true,p5,p6,p7,p8,p9,p10,p11,p12,p13,p14,p15,p16,p17,p18,p19,o)) (fun o => o.length = x.opts.l.length ∧ ∀ y ∈ o,y.length ≤ 17592186044416) := by
   intro q
   induction q with
   | nil =>
    intro k o hk ho hkl hy
    rw [q1t.eq_1,if_neg (by simpa using zw hk)]
    have := nz hk
    exact .ret ⟨by omega,hy⟩
   | cons c q ih =>
    intro k o hk ho hkl hy
    obtain ⟨a1,a2,a3,a4⟩ := zq hk
    have hc : opW c ≤ qd (x.opts.l.map opW) := uu a4
    have hcw : opW c = 1 + c.length := rfl
    rw [q1t.eq_1,if_pos (by simpa using a1),wrS (by omega) a1]
    refine Tot.go a2 ?_
    refine Tot.bind (qhy c lead unit (by omega) hE.lead hE.unit) fun v hv => ?_
    refine Tot.need (by simp only [ql,Bool.and_eq_true,decide_eq_true_eq]; omega) ?_
    refine ih (k + 1) _ a3 (by simp; omega) (by omega) ?_
    intro y hy2
    rcases List.mem_append.1 hy2 with hy2 | hy2
    ·exact hy y hy2
    ·simp only [List.mem_singleton] at hy2
     subst hy2
     exact hv
  refine (key x.opts.l 0 [] rfl rfl (by omega) (by simp)).mono fun o ho => ⟨by simp,fun h => ?_,ho.2⟩
  have := ho.1
  rw [h] at this
  simpa using this
theorem qcv {α : Type} (r t : List α) (p q : α) : (r ++ p :: t).set r.length q = r ++ q :: t := by
 rw [List.set_append_right _ _ (Nat.le_refl _)]
 simp
theorem qam {α : Type} (r t : List α) (p : α) : qh (r ++ p :: t) (r.length : Int) = some p := by
 rw [xw (by simp)]
 simp
theorem qi8 (x : T.qb) (hx : snW x ≤ 8192002) (hS : WS x) (hk : x.kind = 1 ∨ x.kind = 2) (up : Int) (hE : q9j env lead unit) (r : List Pt) (ds : List Int) (ns : List Bytes) (hr : r.length + 2 * snW x ≤ 40000000) (hI : ja r ds ns)
  (ih : ∀ (up : Int) (r : List Pt) (ds : List Int) (ns : List Bytes),r.length + 2 * qd (x.kids.l.map snW) ≤ 40000000 → ja r ds ns → Tot (q0w (x.kids,up,env,lead,unit,r,ds,ns)) (Kept env lead unit up r ns (qd (x.kids.l.map snW)))) :
  Tot (q7v (x,up,false,env,lead,unit,r,ds,ns)) (Kept env lead unit up r ns (snW x)) := by
 have hw := vg x
 have hdl := hI.dl
 obtain ⟨s2,s1,sn⟩ : (x.kind = 2 → x.has = false ∧ x.turned = false ∧ x.kids.l = [] ∧ 0 < x.opts.l.length) ∧ (x.kind = 1 ∨ x.kind = 3 → x.opts.l = [] ∧ (x.has = true → x.turned = false) ∧ (x.has = false → x.kids.l = [])) ∧ (x.kind = 1 ∨ x.kind = 2 → 0 ≤ x.n ∧ x.n ≤ 9999) := by
  cases hS with | mk _ _ _ a b _ c => exact ⟨a,b,c⟩
 have hn := sn hk
 rw [q7v.eq_1]
 (apply Tot.ite <;> intro hT <;> try simp (disch := omega) only [tfx.down,q9,qa] at hT)
 ·have hd := hT
  have htu : x.turned = false := by
   rcases hk with h | h
   ·rcases hd with hd | hd
    ·exact (s1 (.inl h)).2.1 hd
    ·omega
   ·exact (s2 h).2.1
  refine Tot.bind (q8z x.n ds (by omega)) fun v hv => ?_
  refine Tot.bind (qn0 _ _ _ _ _ x hx hE _ _ _ (!v) _ _ _ _ _ _ _ _ _ _ _ _ _ _ _) fun o ho => ?_
  have hp : ∀ e,POk ns.length (T.qc.mk (1 : Int) ([] : Bytes) x.n (!v) false x.turned x.form (⟨o.isEmpty,o⟩ : (Sl Bytes)) up e) := fun e =>
   ⟨by simp only; omega,by simp,⟨by simp only; omega,hn.2⟩,by simp only; omega,fun _ => htu,fun h => ho.1 h,by simp,by simp,ho.2.2⟩
  refine Tot.bind (q2k _ env lead unit r ds ns (by omega)) fun y hy => ?_
  subst hy
  (apply Tot.ite <;> intro hT <;> try simp (disch := omega) only [tfx.down,q9,qa] at hT)
  ·have hv1 := hT
   refine .ret ⟨rfl,rfl,rfl,⟨_,rfl,xe.one _ rfl rfl,by simp; omega⟩,hI.put _ (hp _) (by simp [hv1]),Nat.le_refl _⟩
  ·have hv1 := hT
   refine Tot.need (by simp only [ql,Bool.and_eq_true,decide_eq_true_eq]; omega) ?_
   rw [if_neg (by simp)]
   have hI2 := hI.define _ (hp ((r.length + 1 : Nat) : Int)) (by simp [hv1]) (fun h => by have := hv.2 h; simp_all)
   refine Tot.bind (ih (r.length : Int) _ _ _ (by simp; omega) hI2) fun w hw2 => ?_
   obtain ⟨g1,g2,g3,⟨t,g4,g5,g6⟩,g7,g8⟩ := hw2
   rw [g4,List.append_assoc] at g7 ⊢
   simp only [List.cons_append,List.nil_append] at g7 ⊢
   refine Tot.go (qam _ _ _) ?_
   rw [Int.toNat_natCast,qcv]
   have hlen : (r ++ T.qc.mk (1 : Int) ([] : Bytes) x.n (!v) false x.turned x.form (⟨o.isEmpty,o⟩ : (Sl Bytes)) up ((r.length + 1 : Nat) : Int) :: t).length = r.length + 1 + t.length := by simp; omega
   refine .ret ⟨g1,g2,g3,⟨_,rfl, ?_,by simp; omega⟩, ?_,g8⟩
   ·have hkid : (⟨o.isEmpty,o⟩ : Sl Bytes).l ≠ [] → t = [] := by
     intro h
     have hko : x.kids.l = [] := by
      rcases hk with h1 | h1
      ·exact absurd (ho.2.1 (s1 (.inl h1)).1) h
      ·exact (s2 h1).2.2.1
     have : t.length ≤ 0 := by rw [hko] at g6; simpa [qd] using g6
     simpa using this
    have := xe.cons up r.length (T.qc.mk (1 : Int) ([] : Bytes) x.n (!v) false x.turned x.form (⟨o.isEmpty,o⟩ : (Sl Bytes)) up (((r ++ T.qc.mk (1 : Int) ([] : Bytes) x.n (!v) false x.turned x.form (⟨o.isEmpty,o⟩ : (Sl Bytes)) up ((r.length + 1 : Nat) : Int) :: t).length : Nat) : Int)) t [] rfl (by simp only [hlen]) (fun h => by simp [hv1] at h) hkid (by simpa using g5) (.nil _ _)
    simpa using this
   ·exact g7.ended _ rfl
 ·have hd := hT
  refine Tot.bind (qn0 _ _ _ _ _ x hx hE _ _ _ false _ _ _ _ _ _ _ _ _ _ _ _ _ _ _) fun o ho => ?_
  refine Tot.bind (q2k _ env lead unit r ds ns (by omega)) fun y hy => ?_
  subst hy
  refine .ret ⟨rfl,rfl,rfl,⟨_,rfl,xe.one _ rfl rfl,by simp; omega⟩,hI.put _ ?_ rfl,Nat.le_refl _⟩
  exact ⟨by simp only; omega,by simp,⟨by simp only; omega,hn.2⟩,by simp only; omega,by simp,fun _ => ho.1 rfl,by simp,by simp,ho.2.2⟩
end
end Go.Proofs.YtdhgdeelagmbpaaGreat
set_option linter.unusedSimpArgs false
set_option linter.unusedVariables false
namespace Go.Proofs.YtdhgdeelagmbpaaGreat
open Go Go.Gm
section
variable {env : Sl T.qi} {lead unit : Bytes}
theorem Kept.trans {up : Int} {r : List Pt} {ns : List Bytes} {m1 m2 : Nat} {v w : Sl T.qi × Bytes × Bytes × List Pt × List Int × List Bytes} (h1 : Kept env lead unit up r ns m1 v) (h2 : Kept env lead unit up v.2.2.2.1 v.2.2.2.2.2 m2 w) : Kept env lead unit up r ns (m1 + m2) w := by
 obtain ⟨t1,a1,a2,a3⟩ := h1.ex
 obtain ⟨t2,b1,b2,b3⟩ := h2.ex
 refine ⟨h2.e1,h2.e2,h2.e3,⟨t1 ++ t2,by rw [b1,a1,List.append_assoc],a2.app ?_,by simp; omega⟩,h2.inv,Nat.le_trans h1.ns h2.ns⟩
 rw [a1] at b2
 simpa using b2
theorem Kept.len {up : Int} {r : List Pt} {ns : List Bytes} {m : Nat} {v : Sl T.qi × Bytes × Bytes × List Pt × List Int × List Bytes} (h : Kept env lead unit up r ns m v) : v.2.2.2.1.length ≤ r.length + 2 * m := by
 obtain ⟨t,a1,_,a3⟩ := h.ex
 rw [a1]
 simp
 omega
theorem q8g {up : Int} {r : List Pt} {ds : List Int} {ns : List Bytes} (hI : ja r ds ns) {x : Pt} (hu : x.up = up) (hd : x.def_ = false) (he : x.end_ = ((r.length + 1 : Nat) : Int)) (hp : POk ns.length x) {m : Nat} (hm : 1 ≤ m) :
  Kept env lead unit up r ns m (env,lead,unit,r ++ [x],ds,ns) :=
 ⟨rfl,rfl,rfl,⟨_,rfl,xe.one _ hu he,by simp; omega⟩,hI.put _ hp hd,Nat.le_refl _⟩
theorem qp0 (n : Int) (t : Bytes) (ht : t.length ≤ 8192002) (up : Int) (r : List Pt) (ds : List Int) (ns : List Bytes) (hr : r.length ≤ 50000000) (hI : ja r ds ns) (ms : List Bytes) (hms : ns.length ≤ ms.length ∧ ms.length ≤ ns.length + 1) (hn : -(ms.length : Int) ≤ n ∧ n < 0) :
  Tot (q8b ((1 : Int),([] : Bytes),n,true,false,(0 : Int),([] : Bytes),false,(⟨true,([] : List T.Row)⟩ : Sl T.Row),(0 : Int),(0 : Int),false,(⟨true,([] : List T.Rx)⟩ : Sl T.Rx),(⟨true,([] : List T.Fmt)⟩ : Sl T.Fmt),false,false,(⟨true,([] : List Bytes)⟩ : Sl Bytes),up,true,env,lead,unit,[(T.qb.mk (0 : Int) t (0 : Int) false false (T.Form.mk (T.Rx.mk (0 : Int) ([] : Bytes) false (⟨true,[]⟩ : (Sl T.Row)) (0 : Int) (0 : Int) false (⟨true,[]⟩ : (Sl T.Rx))) (⟨true,[]⟩ : (Sl T.Fmt)) false false) (⟨true,[]⟩ : (Sl Bytes)) (⟨true,[]⟩ : (Sl T.qb)))],r,ds,ms))
   (fun v => ∃ r' ds',v = .inl (r',ds') ∧ Kept env lead unit up r ns 1 (env,lead,unit,r',ds',ms)) := by
 have hdl := hI.dl
 have hnl := hI.nl
 rw [q8b.eq_1]
 rw [if_pos (by simp)]
 refine Tot.bind (q8z n ds (by omega)) fun v hv => ?_
 refine Tot.go (a := []) (by rw [q7i.eq_1]; simp) ?_
 have hp : ∀ e,POk ms.length (T.qc.mk (1 : Int) ([] : Bytes) n (!v) false false (T.Form.mk (T.Rx.mk (0 : Int) ([] : Bytes) false (⟨true,([] : List T.Row)⟩ : Sl T.Row) (0 : Int) (0 : Int) false (⟨true,([] : List T.Rx)⟩ : Sl T.Rx)) (⟨true,([] : List T.Fmt)⟩ : Sl T.Fmt) false false) (⟨([] : List Bytes).isEmpty,[]⟩ : (Sl Bytes)) up e) := fun e =>
  ⟨by simp only; omega,by simp,⟨hn.1,by simp only; omega⟩,by have := qcr; unfold q5h q4v at this; simp only [this]; omega,fun _ => rfl,fun _ => rfl,by simp,by simp,by simp⟩
 have hq : ∀ e,POk ms.length (T.qc.mk (0 : Int) t (0 : Int) false false false (T.Form.mk (T.Rx.mk (0 : Int) ([] : Bytes) false (⟨true,([] : List T.Row)⟩ : Sl T.Row) (0 : Int) (0 : Int) false (⟨true,([] : List T.Rx)⟩ : Sl T.Rx)) (⟨true,([] : List T.Fmt)⟩ : Sl T.Fmt) false false) (⟨true,([] : List Bytes)⟩ : (Sl Bytes)) (r.length : Int) e) := fun e =>
  ⟨by simp only; omega,by simp,⟨by simp only; omega,by simp only; omega⟩,by have := qcr; unfold q5h q4v at this; simp only [this]; omega,by simp,fun _ => rfl,by simp,by simp only; omega,by simp⟩
 refine Tot.bind (q2k _ env lead unit r ds ms (by omega)) fun y hy => ?_
 subst hy
 (apply Tot.ite <;> intro hT <;> try simp (disch := omega) only [tfx.down,q9,qa] at hT)
 ·have hv1 := hT
  exact .ret ⟨_,_,rfl,⟨rfl,rfl,rfl,⟨_,rfl,xe.one _ rfl rfl,by simp⟩,hI.qv6 hms _ (hp _) (by simp [hv1]),hms.1⟩⟩
 ·have hv1 := hT
  refine Tot.need (by simp only [ql,Bool.and_eq_true,decide_eq_true_eq]; omega) ?_
  rw [if_pos rfl]
  refine Tot.go (a := (T.qb.mk (0 : Int) t (0 : Int) false false (T.Form.mk (T.Rx.mk (0 : Int) ([] : Bytes) false (⟨true,[]⟩ : (Sl T.Row)) (0 : Int) (0 : Int) false (⟨true,[]⟩ : (Sl T.Rx))) (⟨true,[]⟩ : (Sl T.Fmt)) false false) (⟨true,[]⟩ : (Sl Bytes)) (⟨true,[]⟩ : (Sl T.qb)))) rfl ?_
  have hI2 := hI.zca hms _ (hp ((r.length + 1 : Nat) : Int)) (by simp [hv1]) (fun h => by have := hv.2 h; simp_all)
  refine Tot.bind (q2k _ env lead unit _ _ ms (by simp; omega)) fun y hy => ?_
  simp only [List.length_append,List.length_cons,List.length_nil,Nat.zero_add] at hy
  subst hy
  have hI3 := hI2.put _ (hq ((r.length + 1 + 1 : Nat) : Int)) rfl
  rw [List.append_assoc] at hI3 ⊢
  simp only [List.cons_append,List.nil_append] at hI3 ⊢
  refine Tot.go (qam _ _ _) ?_
  rw [Int.toNat_natCast,qcv]
  refine .ret ⟨_,_,rfl,⟨rfl,rfl,rfl,⟨_,rfl, ?_,by simp⟩,hI3.ended _ rfl,hms.1⟩⟩
  have := xe.cons (up := up) (b := r.length) (T.qc.mk (1 : Int) ([] : Bytes) n (!v) false false (T.Form.mk (T.Rx.mk (0 : Int) ([] : Bytes) false (⟨true,([] : List T.Row)⟩ : Sl T.Row) (0 : Int) (0 : Int) false (⟨true,([] : List T.Rx)⟩ : Sl T.Rx)) (⟨true,([] : List T.Fmt)⟩ : Sl T.Fmt) false false) (⟨([] : List Bytes).isEmpty,[]⟩ : (Sl Bytes)) up ((r.length + 1 + 1 : Nat) : Int))
   [T.qc.mk (0 : Int) t (0 : Int) false false false (T.Form.mk (T.Rx.mk (0 : Int) ([] : Bytes) false (⟨true,([] : List T.Row)⟩ : Sl T.Row) (0 : Int) (0 : Int) false (⟨true,([] : List T.Rx)⟩ : Sl T.Rx)) (⟨true,([] : List T.Fmt)⟩ : Sl T.Fmt) false false) (⟨true,([] : List Bytes)⟩ : (Sl Bytes)) (r.length : Int) ((r.length + 1 + 1 : Nat) : Int)] [] rfl (by simp) (fun h => by simp [hv1] at h) (fun h => absurd rfl h) (xe.one _ rfl rfl) (.nil _ _)
  have e2 : (r.length : Int) + 2 = (r.length : Int) + 1 + 1 := by omega
  simpa [e2] using this
theorem qli (hE : q9j env lead unit) : ∀ (m : Nat) (l : Sl T.qb),qd (l.l.map snW) ≤ m → m ≤ 8192002 → q11 l → ∀ (up : Int) (r : List Pt) (ds : List Int) (ns : List Bytes),r.length + 2 * qd (l.l.map snW) ≤ 40000000 → ja r ds ns →
  Tot (q0w (l,up,env,lead,unit,r,ds,ns)) (Kept env lead unit up r ns (qd (l.l.map snW))) := by
 intro m
 induction m using Nat.strongRecOn with
 | _ m ih =>
 intro l hl hm hS up r ds ns hr hI
 have hlen := xn q2g l.l
 have key : ∀ (q : List T.qb) (k : Nat) (r : List Pt) (ds : List Int) (ns : List Bytes),l.l.drop k = q → r.length + 2 * qd (q.map snW) ≤ 40000000 → ja r ds ns →
   Tot (nu (l,up,(k : Int),env,lead,unit,r,ds,ns)) (Kept env lead unit up r ns (qd (q.map snW))) := by
  intro q
  induction q with
  | nil =>
   intro k r ds ns hk hr hI
   rw [nu.eq_1,if_neg (by simpa using zw hk)]
   exact .ret ⟨rfl,rfl,rfl,⟨[],by simp,.nil _ _,by simp⟩,hI,Nat.le_refl _⟩
  | cons x q ihq =>
   intro k r ds ns hk hr hI
   obtain ⟨a1,a2,a3,a4⟩ := zq hk
   have hx := uu (f := snW) a4
   have hxw := vg x
   have hx1 := q2g x
   simp only [List.map_cons,qd] at hr ⊢
   have hSx := hS x a4
   have next : ∀ v : Sl T.qi × Bytes × Bytes × List Pt × List Int × List Bytes,Kept env lead unit up r ns (snW x) v →
     Tot (nu (l,up,((k + 1 : Nat) : Int),v.1,v.2.1,v.2.2.1,v.2.2.2.1,v.2.2.2.2.1,v.2.2.2.2.2)) (Kept env lead unit up r ns (snW x + qd (q.map snW))) := by
    intro v hv
    have := hv.len
    rw [hv.e1,hv.e2,hv.e3]
    exact (ihq (k + 1) _ _ _ a3 (by omega) hv.inv).mono fun w hw => hv.trans hw
   rw [nu.eq_1,if_pos (by simpa using a1),wrS (by omega) a1]
   refine Tot.go a2 ?_
   (apply Tot.ite <;> intro hT <;> try simp (disch := omega) only [tfx.down,q9,qa] at hT)
   ·refine Tot.bind (qhy x.text lead unit (by omega) hE.lead hE.unit) fun t ht => ?_
    refine Tot.bind (q2k _ env lead unit r ds ns (by omega)) fun y hy => ?_
    subst hy
    refine next (env,lead,unit,_,ds,ns) ?_
    refine q8g hI ?_ ?_ ?_ ?_ hx1; rfl; rfl; rfl
    exact ⟨by simp only; omega,by simp,⟨by simp only; omega,by simp only; omega⟩,by have := qcr; unfold q5h q4v at this; simp only [this]; omega,by simp,fun _ => rfl,by simp,ht,by simp⟩
   have k0 := hT
   (apply Tot.ite <;> intro hT <;> try simp (disch := omega) only [tfx.down,q9,qa] at hT)
   ·have k3 := hT
    refine Tot.bind (qic x.text env hE.len) fun v hv => ?_
    have hvl : v.1.length ≤ 1048576 := by
     rcases hv with ⟨p,p1,p2⟩ | ⟨p1,_⟩
     ·rw [p2]; exact hE.val p p1
     ·rw [p1]; simp
    (apply Tot.ite <;> intro hT <;> try simp (disch := omega) only [tfx.down,q9,qa] at hT)
    ·refine Tot.bind (q2k _ env lead unit r ds ns (by omega)) fun y hy => ?_
     subst hy
     refine next (env,lead,unit,_,ds,ns) ?_
     refine q8g hI ?_ ?_ ?_ ?_ hx1; rfl; rfl; rfl
     exact ⟨by simp only; omega,by simp,⟨by simp only; omega,by simp only; omega⟩,by simp only; omega,by simp,fun _ => rfl,fun _ => hvl,by simp only; omega,by simp⟩
    (apply Tot.ite <;> intro hT <;> try simp (disch := omega) only [tfx.down,q9,qa] at hT)
    ·refine Tot.bind (ih (qd (x.kids.l.map snW)) (by omega) x.kids (Nat.le_refl _) (by omega) (by cases hSx; assumption) up r ds ns (by omega) hI) fun v hv => ?_
     refine next v ⟨hv.e1,hv.e2,hv.e3, ?_,hv.inv,hv.ns⟩
     obtain ⟨t,t1,t2,t3⟩ := hv.ex
     exact ⟨t,t1,t2,by omega⟩
    refine Tot.bind (qi9 x.text) fun v _ => ?_
    (apply Tot.ite <;> intro hT <;> try simp (disch := omega) only [tfx.down,q9,qa] at hT)
    ·refine Tot.bind (q2k _ env lead unit r ds ns (by omega)) fun y hy => ?_
     subst hy
     refine next (env,lead,unit,_,ds,ns) ?_
     refine q8g hI ?_ ?_ ?_ ?_ hx1; rfl; rfl; rfl
     exact ⟨by simp only; omega,by simp,⟨by simp only; omega,by simp only; omega⟩,by simp only; omega,by simp,fun _ => rfl,by simp,by simp,by simp⟩
    ·have hnl := hI.nl
     refine Tot.bind (qjm x.text r ds ns (by omega)) fun w hw => ?_
     refine Tot.bind (qp0 w.1 x.text (by omega) up r ds ns (by omega) hI w.2 ⟨hw.1,hw.2.1⟩ ⟨hw.2.2.1,hw.2.2.2⟩) fun y hy => ?_
     obtain ⟨r',ds',rfl,hy⟩ := hy
     refine next (env,lead,unit,r',ds',w.2) ⟨hy.e1,hy.e2,hy.e3, ?_,hy.inv,hy.ns⟩
     obtain ⟨t,t1,t2,t3⟩ := hy.ex
     exact ⟨t,t1,t2,by omega⟩
   ·have k3 := hT
    have hkd : 0 ≤ x.kind ∧ x.kind ≤ 3 := by cases hSx; assumption
    refine Tot.bind (qi8 x (by omega) hSx (by omega) up hE r ds ns (by omega) hI ?_) fun v hv => ?_
    ·intro up r ds ns hr hI
     exact ih (qd (x.kids.l.map snW)) (by omega) x.kids (Nat.le_refl _) (by omega) (by cases hSx; assumption) up r ds ns (by omega) hI
    ·exact next v hv
 rw [q0w.eq_1]
 exact Tot.bind (key l.l 0 r ds ns rfl hr hI) fun v hv => .ret hv
theorem z3x (hE : q9j env lead unit) (l : Sl T.qb) (hl : qd (l.l.map snW) ≤ 8192002) (hS : q11 l) (up : Int) : Tot (qb2 l up env lead unit) (Kept env lead unit up [] [] (qd (l.l.map snW))) := by
 have hlen := xn q2g l.l
 have key : ∀ (q : List T.qb) (k : Nat) (r : List Pt) (ds : List Int) (ns : List Bytes),l.l.drop k = q → r.length + 2 * qd (q.map snW) ≤ 40000000 → ja r ds ns →
   Tot (gu (l,up,(k : Int),env,lead,unit,r,ds,ns)) (Kept env lead unit up r ns (qd (q.map snW))) := by
  intro q
  induction q with
  | nil =>
   intro k r ds ns hk hr hI
   rw [gu.eq_1,if_neg (by simpa using zw hk)]
   exact .ret ⟨rfl,rfl,rfl,⟨[],by simp,.nil _ _,by simp⟩,hI,Nat.le_refl _⟩
  | cons x q ihq =>
   intro k r ds ns hk hr hI
   obtain ⟨a1,a2,a3,a4⟩ := zq hk
   have hx := uu (f := snW) a4
   have hxw := vg x
   have hx1 := q2g x
   simp only [List.map_cons,qd] at hr ⊢
   have hSx := hS x a4
   have next : ∀ v : Sl T.qi × Bytes × Bytes × List Pt × List Int × List Bytes,Kept env lead unit up r ns (snW x) v →
     Tot (gu (l,up,((k + 1 : Nat) : Int),v.1,v.2.1,v.2.2.1,v.2.2.2.1,v.2.2.2.2.1,v.2.2.2.2.2)) (Kept env lead unit up r ns (snW x + qd (q.map snW))) := by
    intro v hv
    have := hv.len
    rw [hv.e1,hv.e2,hv.e3]
    exact (ihq (k + 1) _ _ _ a3 (by omega) hv.inv).mono fun w hw => hv.trans hw
   rw [gu.eq_1,if_pos (by simpa using a1),wrS (by omega) a1]
   refine Tot.go a2 ?_
   (apply Tot.ite <;> intro hT <;> try simp (disch := omega) only [tfx.down,q9,qa] at hT)
   ·refine Tot.bind (qhy x.text lead unit (by omega) hE.lead hE.unit) fun t ht => ?_
    refine Tot.bind (q2k _ env lead unit r ds ns (by omega)) fun y hy => ?_
    subst hy
    refine next (env,lead,unit,_,ds,ns) ?_
    refine q8g hI ?_ ?_ ?_ ?_ hx1; rfl; rfl; rfl
    exact ⟨by simp only; omega,by simp,⟨by simp only; omega,by simp only; omega⟩,by have := qcr; unfold q5h q4v at this; simp only [this]; omega,by simp,fun _ => rfl,by simp,ht,by simp⟩
   have k0 := hT
   (apply Tot.ite <;> intro hT <;> try simp (disch := omega) only [tfx.down,q9,qa] at hT)
   ·have k3 := hT
    refine Tot.bind (qic x.text env hE.len) fun v hv => ?_
    have hvl : v.1.length ≤ 1048576 := by
     rcases hv with ⟨p,p1,p2⟩ | ⟨p1,_⟩
     ·rw [p2]; exact hE.val p p1
     ·rw [p1]; simp
    (apply Tot.ite <;> intro hT <;> try simp (disch := omega) only [tfx.down,q9,qa] at hT)
    ·refine Tot.bind (q2k _ env lead unit r ds ns (by omega)) fun y hy => ?_
     subst hy
     refine next (env,lead,unit,_,ds,ns) ?_
     refine q8g hI ?_ ?_ ?_ ?_ hx1; rfl; rfl; rfl
     exact ⟨by simp only; omega,by simp,⟨by simp only; omega,by simp only; omega⟩,by simp only; omega,by simp,fun _ => rfl,fun _ => hvl,by simp only; omega,by simp⟩
    (apply Tot.ite <;> intro hT <;> try simp (disch := omega) only [tfx.down,q9,qa] at hT)
    ·refine Tot.bind (qli hE (qd (x.kids.l.map snW)) x.kids (Nat.le_refl _) (by omega) (by cases hSx; assumption) up r ds ns (by omega) hI) fun v hv => ?_
     refine next v ⟨hv.e1,hv.e2,hv.e3, ?_,hv.inv,hv.ns⟩
     obtain ⟨t,t1,t2,t3⟩ := hv.ex
     exact ⟨t,t1,t2,by omega⟩
    refine Tot.bind (qi9 x.text) fun v _ => ?_
    (apply Tot.ite <;> intro hT <;> try simp (disch := omega) only [tfx.down,q9,qa] at hT)
    ·refine Tot.bind (q2k _ env lead unit r ds ns (by omega)) fun y hy => ?_
     subst hy
     refine next (env,lead,unit,_,ds,ns) ?_
     refine q8g hI ?_ ?_ ?_ ?_ hx1; rfl; rfl; rfl
     exact ⟨by simp only; omega,by simp,⟨by simp only; omega,by simp only; omega⟩,by simp only; omega,by simp,fun _ => rfl,by simp,by simp,by simp⟩
    ·have hnl := hI.nl
     refine Tot.bind (qjm x.text r ds ns (by omega)) fun w hw => ?_
     refine Tot.bind (qp0 w.1 x.text (by omega) up r ds ns (by omega) hI w.2 ⟨hw.1,hw.2.1⟩ ⟨hw.2.2.1,hw.2.2.2⟩) fun y hy => ?_
     obtain ⟨r',ds',rfl,hy⟩ := hy
     refine next (env,lead,unit,r',ds',w.2) ⟨hy.e1,hy.e2,hy.e3, ?_,hy.inv,hy.ns⟩
     obtain ⟨t,t1,t2,t3⟩ := hy.ex
     exact ⟨t,t1,t2,by omega⟩
   ·have k3 := hT
    have hkd : 0 ≤ x.kind ∧ x.kind ≤ 3 := by cases hSx; assumption
    refine Tot.bind (qi8 x (by omega) hSx (by omega) up hE r ds ns (by omega) hI ?_) fun v hv => ?_
    ·intro up r ds ns hr hI
     exact qli hE (qd (x.kids.l.map snW)) x.kids (Nat.le_refl _) (by omega) (by cases hSx; assumption) up r ds ns (by omega) hI
    ·exact next v hv
 unfold qb2
 exact Tot.bind (key l.l 0 [] [] [] rfl (by simp; omega) ⟨by simp,by simp [defs],by simp [defs],by simp,by simp⟩) fun v hv => .ret hv
end
end Go.Proofs.YtdhgdeelagmbpaaGreat
set_option linter.unusedSimpArgs false
set_option linter.unusedVariables false
namespace Go.Proofs.YtdhgdeelagmbpaaGreat
open Go Go.Gm
def core (x : Pt) : Pt := { x with n := 0,first := false }
theorem xe.like {up : Int} {b : Nat} {l : List Pt} (h : xe up b l) : ∀ {l' : List Pt},l'.map core = l.map core → xe up b l' := by
 induction h with
 | nil up b => intro l' h; simp at h; subst h; exact .nil _ _
 | cons up b x kids rest hu he hd ho hk _ ihk ihr =>
  intro l' h
  rw [List.map_cons,List.map_append] at h
  cases l' with
  | nil => simp at h
  | cons y t =>
   simp only [List.map_cons,List.cons.injEq] at h
   obtain ⟨h1,h2⟩ := h
   obtain ⟨k',r',rfl,e1,e2⟩ := List.map_eq_append_iff.1 h2
   have e3 : k'.length = kids.length := by simpa using congrArg List.length e1
   have e4 : y.up = x.up := (congrArg (·.up) h1 : (core y).up = (core x).up)
   have e5 : y.end_ = x.end_ := (congrArg (·.end_) h1 : (core y).end_ = (core x).end_)
   have e6 : y.def_ = x.def_ := (congrArg (·.def_) h1 : (core y).def_ = (core x).def_)
   have e7 : y.opts = x.opts := (congrArg (·.opts) h1 : (core y).opts = (core x).opts)
   refine .cons up b y k' r' (e4.trans hu) (by rw [e5,he,e3]) (fun h => ?_) (fun h => ?_) (ihk e1) (by rw [e3]; exact ihr e2)
   ·have := hd (e6 ▸ h)
    subst this
    simpa using e1
   ·have := ho (e7 ▸ h)
    subst this
    simpa using e1
theorem xe.end_ {up : Int} {b : Nat} {l : List Pt} (h : xe up b l) : ∀ (i : Nat) (x : Pt),l[i]? = some x → ((b + i : Nat) : Int) < x.end_ ∧ x.end_ ≤ ((b + l.length : Nat) : Int) := by
 induction h with
 | nil up b => intro i x h; simp at h
 | cons up b x kids rest hu he hd ho hk _ ihk ihr =>
  intro i y h
  cases i with
  | zero =>
   simp only [List.getElem?_cons_zero,Option.some.injEq] at h
   subst h
   rw [he]
   simp
   omega
  | succ i =>
   simp only [List.getElem?_cons_succ] at h
   by_cases hi : i < kids.length
   ·rw [List.getElem?_append_left hi] at h
    have := ihk i y h
    simp only [List.length_cons,List.length_append]
    omega
   ·rw [List.getElem?_append_right (by omega)] at h
    have := ihr (i - kids.length) y h
    simp only [List.length_cons,List.length_append]
    omega
structure q9u (x : Pt) : Prop where
 kind : 0 ≤ x.kind ∧ x.kind ≤ 2
 other : x.kind ≠ 1 → x.def_ = false ∧ x.opts.l = []
 form : xu x.form ≤ 1000000000
 dt : x.def_ = true → x.turned = false
 od : x.def_ = false → x.opts.l = []
 tt : x.turned = true → x.text.length ≤ 1048576
 tl : x.text.length ≤ 17592186044416
 ol : ∀ o ∈ x.opts.l,o.length ≤ 17592186044416
structure Good (P : List Pt) : Prop where
 seg : xe (-1) 0 P
 ok : ∀ x ∈ P,q9u x
 n : ∀ x ∈ P,0 ≤ x.n ∧ x.n ≤ 100000000
 un : (defs P).Nodup
 len : P.length ≤ 40000000
theorem q9u.like {x y : Pt} (h : q9u x) (e : core y = core x) : q9u y := by
 have e1 : y.kind = x.kind := (congrArg (·.kind) e : (core y).kind = (core x).kind)
 have e2 : y.def_ = x.def_ := (congrArg (·.def_) e : (core y).def_ = (core x).def_)
 have e3 : y.opts = x.opts := (congrArg (·.opts) e : (core y).opts = (core x).opts)
 have e4 : y.form = x.form := (congrArg (·.form) e : (core y).form = (core x).form)
 have e5 : y.turned = x.turned := (congrArg (·.turned) e : (core y).turned = (core x).turned)
 have e6 : y.text = x.text := (congrArg (·.text) e : (core y).text = (core x).text)
 exact ⟨e1 ▸ h.kind,by rw [e1,e2,e3]; exact h.other,e4 ▸ h.form,by rw [e2,e5]; exact h.dt,by rw [e2,e3]; exact h.od,by rw [e5,e6]; exact h.tt,e6 ▸ h.tl,by rw [e3]; exact h.ol⟩
theorem z8z {l l' : List Pt} (h : l'.map core = l.map core) {y : Pt} (hy : y ∈ l') : ∃ x ∈ l,core y = core x := by
 have : core y ∈ l.map core := by rw [← h]; exact List.mem_map.2 ⟨y,hy,rfl⟩
 obtain ⟨x,hx,e⟩ := List.mem_map.1 this
 exact ⟨x,hx,e.symm⟩
section
variable {env : Sl T.qi} {lead unit : Bytes}
theorem z11 (r : List Pt) (ds : List Int) (ns : List Bytes) (hl : r.length ≤ 40000000) (hn : ∀ x ∈ r,x.n ≤ 9999) : ∀ (q : List Pt) (k : Nat) (m : Int),r.drop k = q → 0 ≤ m → m ≤ 9999 → (∀ i x,i < k → r[i]? = some x → x.n ≤ m) →
  Tot (q5j (m,(k : Int),env,lead,unit,r,ds,ns)) (fun v => 0 ≤ v ∧ v ≤ 9999 ∧ ∀ x ∈ r,x.n ≤ v) := by
 intro q
 induction q with
 | nil =>
  intro k m hk h0 h1 hm
  rw [q5j.eq_1,if_neg (by simpa using zw hk)]
  refine .ret ⟨h0,h1,fun x hx => ?_⟩
  obtain ⟨i,hi⟩ := List.getElem?_of_mem hx
  have := nz hk
  exact hm i x (by have := (List.getElem?_eq_some_iff.1 hi).1; omega) hi
 | cons x q ih =>
  intro k m hk h0 h1 hm
  obtain ⟨a1,a2,a3,a4⟩ := zq hk
  obtain ⟨b1,_,_⟩ := drop_cons hk
  have hx := hn x a4
  rw [q5j.eq_1,if_pos (by simpa using a1),wrS (by omega) a1]
  refine Tot.go a2 ?_
  refine ih (k + 1) _ a3 (by split <;> omega) (by split <;> omega) ?_
  intro i y hi hy
  by_cases h : i = k
  ·subst h
   rw [b1] at hy
   cases hy
   split <;> omega
  ·have := hm i y (by omega) hy
   split <;> omega
def q3s (m n : Int) : Int := if n < 0 then m - n else n
def uz (m : Int) (x : Pt) : Pt := { x with n := q3s m x.n }
theorem qq4 (ds : List Int) (ns : List Bytes) (m : Int) (h0 : 0 ≤ m) (h1 : m ≤ 9999) : ∀ (B A : List Pt),(A ++ B).length ≤ 40000000 → (∀ x ∈ B,-40000000 ≤ x.n) →
  Tot (q3l (m,(A.length : Int),env,lead,unit,A ++ B,ds,ns)) (fun v => v = A ++ B.map (uz m)) := by
 intro B
 induction B with
 | nil =>
  intro A hl hn
  rw [q3l.eq_1,if_neg (by simp)]
  exact .ret rfl
 | cons x B ih =>
  intro A hl hn
  have hx := hn x (by simp)
  rw [q3l.eq_1,if_pos (by simp; omega)]
  refine Tot.go (qam _ _ _) ?_
  simp only [List.length_append,List.length_cons] at hl
  rw [wr (n := (A.length : Int) + 1) (by omega) (by omega)]
  have e : A ++ (x :: B).map (uz m) = (A ++ [uz m x]) ++ B.map (uz m) := by simp
  have e2 : ((A.length : Int) + 1) = ((A ++ [uz m x]).length : Int) := by simp
  rw [e]
  (apply Tot.ite <;> intro hT <;> try simp (disch := omega) only [tfx.down,q9,qa] at hT)
  ·rw [Int.toNat_natCast,qcv,wr (n := m - x.n) (by omega) (by omega),e2]
   have e3 : A ++ (T.qc.mk x.kind x.text (m - x.n) x.def_ x.first x.turned x.form x.opts x.up x.end_) :: B = (A ++ [uz m x]) ++ B := by simp [uz,q3s,hT]
   rw [e3]
   exact ih _ (by simp; omega) fun y hy => hn y (by simp [hy])
  ·rw [e2]
   have e3 : A ++ x :: B = (A ++ [uz m x]) ++ B := by
    have : ¬ x.n < 0 := by omega
    simp [uz,q3s,this]
   rw [e3]
   exact ih _ (by simp; omega) fun y hy => hn y (by simp [hy])
theorem qfn (n : Int) (r : List Pt) (ds : List Int) (ns : List Bytes) (hl : r.length ≤ 40000000) :
  Tot (q78 n env lead unit r ds ns) (fun v => (v = -1 ∧ ∀ x ∈ r,x.kind = 1 → x.def_ = true → x.n ≠ n) ∨ ∃ (d : Nat) (x : Pt),v = d ∧ r[d]? = some x ∧ x.kind = 1 ∧ x.def_ = true ∧ x.n = n) := by
 have key : ∀ (q : List Pt) (k : Nat),r.drop k = q → Tot (q10 (n,(k : Int),env,lead,unit,r,ds,ns)) (fun v => match v with | .inl v => ∃ (d : Nat) (x : Pt),v = d ∧ r[d]? = some x ∧ x.kind = 1 ∧ x.def_ = true ∧ x.n = n | .inr _ => ∀ x ∈ q,x.kind = 1 → x.def_ = true → x.n ≠ n) := by
  intro q
  induction q with
  | nil =>
   intro k hk
   rw [q10.eq_1,if_neg (by simpa using zw hk)]
   exact .ret (by simp)
  | cons x q ih =>
   intro k hk
   obtain ⟨a1,a2,a3,a4⟩ := zq hk
   obtain ⟨b1,_,_⟩ := drop_cons hk
   have next : ¬ (x.kind = 1 ∧ x.def_ = true ∧ x.n = n) → Tot (q10 (n,((k + 1 : Nat) : Int),env,lead,unit,r,ds,ns)) (fun v => match v with | .inl v => ∃ (d : Nat) (x : Pt),v = d ∧ r[d]? = some x ∧ x.kind = 1 ∧ x.def_ = true ∧ x.n = n | .inr _ => ∀ y ∈ x :: q,y.kind = 1 → y.def_ = true → y.n ≠ n) := by
    intro h
    refine (ih (k + 1) a3).mono fun v hv => ?_
    rcases v with v | v
    ·exact hv
    ·intro y hy h1 h2 h3
     rcases List.mem_cons.1 hy with rfl | hy
     ·exact h ⟨h1,h2,h3⟩
     ·exact hv y hy h1 h2 h3
   rw [q10.eq_1,if_pos (by simpa using a1),wrS (by omega) a1]
   refine Tot.go a2 ?_
   (apply Tot.ite <;> intro hT <;> try simp (disch := omega) only [tfx.down,q9,qa] at hT)
   ·have h1 := hT
    (apply Tot.ite <;> intro hT <;> try simp (disch := omega) only [tfx.down,q9,qa] at hT)
    ·have h2 := hT
     (apply Tot.ite <;> intro hT <;> try simp (disch := omega) only [tfx.down,q9,qa] at hT)
     ·exact .ret ⟨k,x,rfl,b1,h1,h2,hT⟩
     ·exact next fun h => hT h.2.2
    ·exact next fun h => by simp_all
   ·exact next fun h => hT h.1
 unfold q78
 refine Tot.bind (key r 0 rfl) fun v hv => ?_
 rcases v with v | v
 ·exact .ret (.inr hv)
 ·exact .ret (.inl ⟨rfl,hv⟩)
theorem zb6 (ds : List Int) (ns : List Bytes) : ∀ (B A : List Pt) (told : List Int),(A ++ B).length ≤ 40000000 → told.length ≤ A.length →
  Tot (bn ((A.length : Int),env,lead,unit,A ++ B,ds,ns,told)) (fun v => v.1.map core = (A ++ B).map core ∧ v.1.map (·.n) = (A ++ B).map (·.n)) := by
 intro B
 induction B with
 | nil =>
  intro A told hl ht
  rw [bn.eq_1,if_neg (by simp)]
  exact .ret ⟨rfl,rfl⟩
 | cons x B ih =>
  intro A told hl ht
  rw [bn.eq_1,if_pos (by simp; omega)]
  refine Tot.go (qam _ _ _) ?_
  have hl' := hl
  simp only [List.length_append,List.length_cons] at hl
  rw [wr (n := (A.length : Int) + 1) (by omega) (by omega)]
  have e1 : ∀ y : Pt,((A.length : Int) + 1) = ((A ++ [y]).length : Int) := fun y => by simp
  have e2 : ∀ y : Pt,A ++ y :: B = (A ++ [y]) ++ B := fun y => by simp
  have skip : ∀ t : List Int,t.length ≤ A.length + 1 → Tot (bn ((A.length : Int) + 1,env,lead,unit,A ++ x :: B,ds,ns,t)) (fun v => v.1.map core = (A ++ x :: B).map core ∧ v.1.map (·.n) = (A ++ x :: B).map (·.n)) := by
   intro t h
   rw [e1 x,e2 x]
   exact ih (A ++ [x]) t (by simp; omega) (by simpa using h)
  have mark : Tot (bn ((A.length : Int) + 1,env,lead,unit,((A ++ x :: B).set (A.length : Int).toNat (T.qc.mk x.kind x.text x.n x.def_ true x.turned x.form x.opts x.up x.end_)),ds,ns,told ++ [x.n])) (fun v => v.1.map core = (A ++ x :: B).map core ∧ v.1.map (·.n) = (A ++ x :: B).map (·.n)) := by
   rw [Int.toNat_natCast,qcv,e1 x,show (A ++ [x]).length = (A ++ [T.qc.mk x.kind x.text x.n x.def_ true x.turned x.form x.opts x.up x.end_]).length by simp,e2]
   refine (ih _ _ (by simp; omega) (by simp; omega)).mono fun v hv => ⟨hv.1.trans ?_,hv.2.trans ?_⟩
   ·simp [core]
   ·simp
  have hroom : ql (told.length + 1) 8 = true := by simp only [ql,Bool.and_eq_true,decide_eq_true_eq]; omega
  (apply Tot.ite <;> intro hT <;> try simp (disch := omega) only [tfx.down,q9,qa] at hT)
  ·(apply Tot.ite <;> intro hT <;> try simp (disch := omega) only [tfx.down,q9,qa] at hT)
   ·exact Tot.need hroom mark
   (apply Tot.ite <;> intro hT <;> try simp (disch := omega) only [tfx.down,q9,qa] at hT)
   ·refine Tot.bind (qfn x.n _ ds ns hl') fun v _ => ?_
    (apply Tot.ite <;> intro hT <;> try simp (disch := omega) only [tfx.down,q9,qa] at hT)
    ·refine Tot.bind (q8z x.n told (by omega)) fun w _ => ?_
     (apply Tot.ite <;> intro hT <;> try simp (disch := omega) only [tfx.down,q9,qa] at hT)
     ·exact Tot.need hroom mark
     ·exact skip told (by omega)
    ·exact skip told (by omega)
   ·exact skip told (by omega)
  ·exact skip told (by omega)
theorem zjy {m a b : Int} (ha : a ≤ m) (hb : b ≤ m) (h0 : 0 ≤ m) (h : q3s m a = q3s m b) : a = b := by
 unfold q3s at h
 split at h <;> split at h <;> omega
theorem qik : ∀ {l l' : List Pt},l'.map core = l.map core → l'.map (·.n) = l.map (·.n) → defs l' = defs l
 | [],[],_,_ => rfl
 | [],_ :: _,h,_ => by simp at h
 | _ :: _,[],h,_ => by simp at h
 | x :: l,y :: l',h1,h2 => by
  simp only [List.map_cons,List.cons.injEq] at h1 h2
  have e : y.def_ = x.def_ := (congrArg (·.def_) h1.1 : (core y).def_ = (core x).def_)
  have ih := qik h1.2 h2.2
  unfold defs at ih ⊢
  simp only [List.filter_cons,e]
  cases x.def_
  ·simpa using ih
  ·simp [h2.1,ih]
theorem znt (m : Int) (l : List Pt) : defs (l.map (uz m)) = (defs l).map (q3s m) := by
 induction l with
 | nil => rfl
 | cons x l ih =>
  unfold defs at ih ⊢
  simp only [List.map_cons,List.filter_cons,uz]
  cases x.def_
  ·simpa [uz] using ih
  ·simpa [uz] using ih
theorem qjf {α β : Type} {f : α → β} : ∀ {l : List α},l.Nodup → (∀ a ∈ l,∀ b ∈ l,f a = f b → a = b) → (l.map f).Nodup
 | [],_,_ => by simp
 | x :: l,h,hf => by
  rw [List.nodup_cons] at h
  rw [List.map_cons,List.nodup_cons]
  refine ⟨fun hm => ?_,qjf h.2 fun a ha b hb => hf a (by simp [ha]) b (by simp [hb])⟩
  obtain ⟨y,hy,e⟩ := List.mem_map.1 hm
  have := hf x (by simp) y (by simp [hy]) e.symm
  exact h.1 (this ▸ hy)
theorem qw5 (r : List Pt) (ds : List Int) (ns : List Bytes) (hs : xe (-1) 0 r) (hI : ja r ds ns) (hl : r.length ≤ 40000000) : Tot (qa7 env lead unit r ds ns) Good := by
 have hnl := hI.nl
 unfold qa7
 refine Tot.bind (z11 r ds ns hl (fun x hx => (hI.ok x hx).n.2) r 0 0 rfl (by omega) (by omega) (by omega)) fun m hm => ?_
 have h2 := qq4 (env := env) (lead := lead) (unit := unit) ds ns m hm.1 hm.2.1 r [] (by simpa using hl) (fun x hx => by have := (hI.ok x hx).n; omega)
 simp only [List.nil_append,List.length_nil] at h2
 refine Tot.bind h2 fun p hp => ?_
 subst hp
 have h4 := zb6 (env := env) (lead := lead) (unit := unit) ds ns (r.map (uz m)) [] [] (by simpa using hl) (by simp)
 simp only [List.nil_append,List.length_nil] at h4
 refine Tot.bind h4 fun v hv => .ret ?_
 have hc : v.1.map core = r.map core := by rw [hv.1,List.map_map]; exact List.map_congr_left fun x _ => rfl
 have hd : defs v.1 = (defs r).map (q3s m) := by rw [qik hv.1 hv.2,znt]
 refine ⟨hs.like hc,fun y hy => ?_,fun y hy => ?_, ?_, ?_⟩
 ·obtain ⟨x,hx,e⟩ := z8z hc hy
  have h := hI.ok x hx
  exact q9u.like ⟨h.kind,fun k => (h.other k).2,h.form,h.dt,h.od,h.tt,h.tl,h.ol⟩ e
 ·have : y.n ∈ (r.map (uz m)).map (·.n) := by rw [← hv.2]; exact List.mem_map.2 ⟨y,hy,rfl⟩
  simp only [List.map_map,List.mem_map,Function.comp] at this
  obtain ⟨x,hx,e⟩ := this
  have h := (hI.ok x hx).n
  rw [← e]
  simp only [uz,q3s]
  split <;> omega
 ·rw [hd]
  have hle : ∀ a ∈ defs r,a ≤ m := by
   intro a ha
   obtain ⟨x,hx,rfl⟩ := List.mem_map.1 ha
   exact hm.2.2 x (List.mem_filter.1 hx).1
  exact qjf hI.un fun a ha b hb => zjy (hle a ha) (hle b hb) hm.1
 ·have := congrArg List.length hc
  simp only [List.length_map] at this
  omega
end
end Go.Proofs.YtdhgdeelagmbpaaGreat
