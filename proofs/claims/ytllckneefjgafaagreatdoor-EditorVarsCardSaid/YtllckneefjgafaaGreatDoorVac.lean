/-
  The machine, part c.
-/
import Derived.Test.YtllckneefjgafaaGreatDoorVab
import Derived.Below
import Derived.Deep.Draws
import Derived.Laws.AppendOwn
import Derived.Lib.ItoaNum
import Derived.Lib.LaidTab
import Derived.Lib.SlKeysI
import Derived.LoopN
import Derived.Maps.Own
import Derived.OpenShut
import Derived.Orders
import Derived.ProofKit
import Derived.Sort.Grow
set_option linter.unusedSimpArgs false
set_option linter.unusedVariables false
set_option linter.unusedSectionVars false
namespace Go.Gm
open Go
section
variable [Globs] {P : Program} {w w' : World} {H H0 H' : Heap} {ι ι' : Plc} {Im Im' : Nat → Prop} {L : List Nat} {nx : Nat}
theorem yf : ∀ (ws : List (Nat × Blk)) (H : Heap) (γ : Nat),(∀ x ∈ ws,x.1 ≠ γ) → (qf ws H).get γ = H.get γ
 | [],H,γ,_ => rfl
 | (i,b) :: r,H,γ,h => by
  simp only [qf]
  rw [yf r _ γ fun x hx => h x (by simp [hx]),Heap.get_put]
  rw [if_neg (fun e => h (i,b) (by simp) e.symm)]
theorem q5x (g : Nat → Nat) : ∀ (H : Heap) (i : Nat),xk i H = true → ∀ x ∈ xu g H,∃ j,i ≤ j ∧ j < i + H.length ∧ x.1 = g j
 | [],i,_,x,h => by simp [xu] at h
 | (k,b) :: r,i,hk,x,h => by
  simp only [xk,Bool.and_eq_true,decide_eq_true_eq] at hk
  obtain ⟨rfl,hk⟩ := hk
  simp only [xu,List.mem_cons] at h
  rcases h with rfl | h
  ·exact ⟨k,Nat.le_refl _,by simp,rfl⟩
  ·obtain ⟨j,h1,h2,h3⟩ := q5x g r (k + 1) hk x h
   exact ⟨j,by omega,by simp only [List.length_cons]; omega,h3⟩
theorem q2o : ∀ (H : Heap) (i : Nat),xk i H = true → ∀ {j : Nat} {b : Blk},H.get j = some b → i ≤ j ∧ j < i + H.length
 | [],i,_,j,b,h => by simp [Heap.get] at h
 | (k,b0) :: r,i,hk,j,b,h => by
  simp only [xk,Bool.and_eq_true,decide_eq_true_eq] at hk
  obtain ⟨rfl,hk⟩ := hk
  simp only [Heap.get] at h
  split at h
  ·rename_i e; subst e; simp
  ·have := q2o r (k + 1) hk h
   simp only [List.length_cons]
   omega
theorem q83 (g : Nat → Nat) : ∀ (H' H : Heap) (i : Nat),xk i H' = true → (∀ j k,i ≤ j → j < i + H'.length → i ≤ k → k < i + H'.length → g j = g k → j = k) →
  ∀ {j : Nat} {b : Blk},H'.get j = some b → (qf (xu g H') H).get (g j) = some (b.ren g)
 | [],H,i,_,_,j,b,h => by simp [Heap.get] at h
 | (k,b0) :: r,H,i,hk,hg,j,b,h => by
  simp only [xk,Bool.and_eq_true,decide_eq_true_eq] at hk
  obtain ⟨rfl,hk⟩ := hk
  simp only [Heap.get] at h
  simp only [xu,qf]
  split at h
  ·rename_i e
   subst e
   cases h
   rw [yf _ _ _ fun x hx => ?_,Heap.get_put,if_pos rfl]
   obtain ⟨m,h1,h2,h3⟩ := q5x g r (k + 1) hk x hx
   rw [h3]
   intro e
   have := hg m k (by omega) (by simp only [List.length_cons]; omega) (Nat.le_refl _) (by simp) e
   omega
  ·exact q83 g r _ (k + 1) hk (fun j' k' a1 a2 a3 a4 e => hg j' k' (by omega) (by simp only [List.length_cons]; omega) (by omega) (by simp only [List.length_cons]; omega) e) h
theorem ztk {x y : Blk} {p q : Pl} {f g : Nat → Nat} (h : qo (x.ren f) y p q) : qo x (y.ren g) p q := by
 unfold qo at *
 rw [q1y] at h ⊢
 cases hx : x.sh with
 | some a =>
  cases hy : y.sh with
  | some b => rw [hx,hy] at h; exact h
  | none =>
   rw [hx,hy] at h
   have h' : y = .dead := h
   subst h'
   rfl
 | none =>
  cases hy : y.sh with
  | some b => rw [hx,hy] at h; exact h
  | none =>
   rw [hx,hy] at h
   cases x <;> cases y <;> first | exact h | exact (h : False).elim
def q00 (ι ι' : Plc) (L : List Nat) (nx n : Nat) : Plc := fun γ => if γ ∈ L then ι' (pos L γ) else if nx ≤ γ ∧ γ < nx + (n - L.length) then ι' (L.length + (γ - nx)) else ι γ
theorem z0q (hs : q06 H L H0) (hi : qa w H ι Im) {X : Nat → Prop} (hnx : Bd X H nx)
  (hi' : qa w' H' ι' Im') (he : Evo w H0 (kg ι L) Im w' H' ι' Im') (hk : xk 0 H' = true) (hX : ∀ γ,X γ → nx + (H'.length - L.length) ≤ γ) :
  qa w' (qf (xu (backTo L nx) H') H) (q00 ι ι' L nx H'.length) Im' ∧ Evo w H ι Im w' (qf (xu (backTo L nx) H') H) (q00 ι ι' L nx H'.length) Im' ∧
   (∀ {r : AV} {v : Value},RA w' H' ι' Im' r v → RA w' (qf (xu (backTo L nx) H') H) (q00 ι ι' L nx H'.length) Im' (r.ren (backTo L nx)) v) ∧
   Bd X (qf (xu (backTo L nx) H') H) (nx + (H'.length - L.length)) := by
 have hLlt : ∀ β ∈ L,β < nx ∨ nx + (H'.length - L.length) ≤ β := fun β hβ => by
  obtain ⟨b,hb,_⟩ := hs.has β hβ
  exact (hnx β b hb).imp id (hX β)
 have g1 : ∀ {j β : Nat},L[j]? = some β → backTo L nx j = β := fun h => by simp [backTo,h]
 have g2 : ∀ {j : Nat},L.length ≤ j → backTo L nx j = nx + (j - L.length) := fun h => by simp [backTo,List.getElem?_eq_none h]
 have ginj : ∀ j k,j < H'.length → k < H'.length → backTo L nx j = backTo L nx k → j = k := by
  intro j k hjl hkl e
  by_cases hj : j < L.length <;> by_cases hkk : k < L.length
  ·have a1 : L[j]? = some L[j] := by simp [hj]
   have a2 : L[k]? = some L[k] := by simp [hkk]
   rw [g1 a1,g1 a2] at e
   rw [← q37 hs.nodup a1,← q37 hs.nodup a2,e]
  ·have a1 : L[j]? = some L[j] := by simp [hj]
   rw [g1 a1,g2 (by omega)] at e
   have := hLlt _ (List.mem_of_getElem? a1)
   omega
  ·have a2 : L[k]? = some L[k] := by simp [hkk]
   rw [g1 a2,g2 (by omega)] at e
   have := hLlt _ (List.mem_of_getElem? a2)
   omega
  ·rw [g2 (by omega),g2 (by omega)] at e
   omega
 have hget : ∀ {j : Nat} {b : Blk},H'.get j = some b → (qf (xu (backTo L nx) H') H).get (backTo L nx j) = some (b.ren (backTo L nx)) :=
  fun h => q83 _ H' H 0 hk (fun j k _ hjl _ hkl e => ginj j k (by omega) (by omega) e) h
 have hplace : ∀ j,j < H'.length → q00 ι ι' L nx H'.length (backTo L nx j) = ι' j := by
  intro j hjl
  unfold q00
  by_cases hj : j < L.length
  ·have a1 : L[j]? = some L[j] := by simp [hj]
   rw [g1 a1,if_pos (List.mem_of_getElem? a1),q37 hs.nodup a1]
  ·rw [g2 (by omega),if_neg (fun h => by have := hLlt _ h; omega),if_pos (by omega)]
   congr 1
   omega
 have hlen : L.length ≤ H'.length := by
  rcases Nat.eq_zero_or_pos L.length with h | h
  ·omega
  ·have a1 : L[L.length - 1]? = some L[L.length - 1] := by simp [h]
   obtain ⟨b,hb,_⟩ := hs.has _ (List.mem_of_getElem? a1)
   have h0 : H0.get (L.length - 1) = some (b.ren (pos L)) := by rw [hs.look,a1]; simp [hb]
   obtain ⟨b',hb',_⟩ := he.comp _ _ h0
   have := (q2o H' 0 hk hb').2
   omega
 have hcase : ∀ γ,(∃ j,γ = backTo L nx j ∧ j < H'.length) ∨ ((∀ j,j < H'.length → γ ≠ backTo L nx j) ∧ (qf (xu (backTo L nx) H') H).get γ = H.get γ) := by
  intro γ
  by_cases h : ∃ j,j < H'.length ∧ γ = backTo L nx j
  ·obtain ⟨j,h1,h2⟩ := h
   exact .inl ⟨j,h2,h1⟩
  ·refine .inr ⟨fun j hj e => h ⟨j,hj,e⟩,yf _ _ _ fun x hx e => ?_⟩
   obtain ⟨j,_,h2,h3⟩ := q5x _ H' 0 hk x hx
   exact h ⟨j,by omega,by rw [← e,h3]⟩
 have hnotL : ∀ γ,(∀ j,j < H'.length → γ ≠ backTo L nx j) → γ ∉ L := by
  intro γ h hL
  have := q3o L γ hL
  exact h (pos L γ) (Nat.lt_of_lt_of_le (qbf hL) hlen) (g1 this).symm
 have hpl2 : ∀ γ b,γ ∉ L → H.get γ = some b → q00 ι ι' L nx H'.length γ = ι γ := by
  intro γ b h hb
  have := (hnx γ b hb).imp id (hX γ)
  unfold q00
  rw [if_neg h,if_neg (by omega)]
 have live0 : ∀ {i : Nat} {x : Blk} {z : Nat},H0.get i = some x → x.foot (kg ι L i) z → ∃ β b,β ∈ L ∧ H.get β = some b ∧ b.foot (ι β) z := by
  intro i x z h hu
  obtain ⟨β,b0,h1,h2,rfl,h4⟩ := hs.inv (ι := ι) h
  rw [Blk.ym,h4] at hu
  exact ⟨β,b0,List.mem_of_getElem? h1,h2,hu⟩
 have hsame : ∀ γ b z,γ ∉ L → H.get γ = some b → b.foot (ι γ) z → w'.heap[z]? = w.heap[z]? := by
  intro γ b z hL hb hu
  refine he.same _ ((hi.blk γ b hb).mf hu) fun i x hx hux => ?_
  obtain ⟨β,b1,q1,q2,q3⟩ := live0 hx hux
  exact hL (hi.inj β γ b1 b z q2 hb q3 hu ▸ q1)
 have hev : Evo w H ι Im w' (qf (xu (backTo L nx) H') H) (q00 ι ι' L nx H'.length) Im' := by
  refine ⟨fun β b hb => ?_,he.im,fun b h => ?_,fun γ x z hx hu => ?_,fun b hb hn => ?_,he.size,he.io⟩
  ·by_cases hL : β ∈ L
   ·obtain ⟨q1,q2⟩ := hs.conn (ι := ι) hL b hb
    obtain ⟨b',q3,q4⟩ := he.comp _ _ q1
    have q5 := hget q3
    have e : backTo L nx (pos L β) = β := g1 (q3o L β hL)
    rw [e] at q5
    refine ⟨_,q5, ?_⟩
    have := hplace (pos L β) (Nat.lt_of_lt_of_le (qbf hL) hlen)
    rw [e] at this
    rw [this,← q2]
    exact ztk q4
   ·rcases hcase β with ⟨j,e,hj⟩ | ⟨h1,h2⟩
    ·exfalso
     by_cases hjl : j < L.length
     ·have a1 : L[j]? = some L[j] := by simp [hjl]
      rw [g1 a1] at e
      exact hL (e ▸ List.mem_of_getElem? a1)
     ·rw [g2 (by omega)] at e
      have := (hnx β b hb).imp id (hX β)
      omega
    ·exact ⟨b,by rw [h2,hb],by rw [hpl2 β b hL hb]; exact gz _ _⟩
  ·rcases he.imnew b h with h | h | ⟨i,x,h1,h2⟩
   ·exact .inl h
   ·exact .inr (.inl h)
   ·obtain ⟨β,b1,q1,q2,q3⟩ := live0 h1 h2
    exact .inr (.inr ⟨β,b1,q2,q3⟩)
  ·rcases hcase γ with ⟨j,rfl,hj⟩ | ⟨h1,h2⟩
   ·rw [hplace j hj] at hu
    cases hb' : H'.get j with
    | none =>
     exfalso
     have key : ∀ (H : Heap) (i : Nat),xk i H = true → ∀ j,i ≤ j → j < i + H.length → H.get j ≠ none := by
      intro H
      induction H with
      | nil => intro i _ j h1 h2; simp at h2; omega
      | cons y r ih =>
       intro i hk j h1 h2
       obtain ⟨k,b⟩ := y
       simp only [xk,Bool.and_eq_true,decide_eq_true_eq] at hk
       obtain ⟨rfl,hk⟩ := hk
       simp only [Heap.get]
       split
       ·simp
       ·exact ih (k + 1) hk j (by omega) (by simp only [List.length_cons] at h2; omega)
     exact key H' 0 hk j (Nat.zero_le _) (by omega) hb'
    | some b' =>
     rw [hget hb'] at hx
     cases hx
     rw [Blk.ym] at hu
     rcases he.plnew j b' z hb' hu with h | ⟨i,x,q1,q2⟩
     ·exact .inl h
     ·obtain ⟨β,b1,r1,r2,r3⟩ := live0 q1 q2
      exact .inr ⟨β,b1,r2,r3⟩
   ·rw [h2] at hx
    rw [hpl2 γ x (hnotL γ h1) hx] at hu
    exact .inr ⟨γ,x,hx,hu⟩
  ·refine he.same b hb fun i x hx hux => ?_
   obtain ⟨β,b1,q1,q2,q3⟩ := live0 hx hux
   exact hn β b1 q2 q3
 have conn : ∀ γ c,H'.get γ = some c → (qf (xu (backTo L nx) H') H).get (backTo L nx γ) = some (c.ren (backTo L nx)) ∧ q00 ι ι' L nx H'.length (backTo L nx γ) = ι' γ :=
  fun γ c h => ⟨hget h,hplace γ (by have := (q2o H' 0 hk h).2; omega)⟩
 have lt' : ∀ {j : Nat} {b : Blk},H'.get j = some b → j < H'.length := fun h => by have := (q2o H' 0 hk h).2; omega
 have split : ∀ {γ b},(qf (xu (backTo L nx) H') H).get γ = some b → (∃ j b',γ = backTo L nx j ∧ H'.get j = some b' ∧ b = b'.ren (backTo L nx)) ∨ (γ ∉ L ∧ H.get γ = some b) := by
  intro γ b h
  rcases hcase γ with ⟨j,rfl,hj⟩ | ⟨h1,h2⟩
  ·cases hb' : H'.get j with
   | some b' =>
    rw [hget hb'] at h
    cases h
    exact .inl ⟨j,b',rfl,hb',rfl⟩
   | none =>
    exfalso
    have key : ∀ (H : Heap) (i : Nat),xk i H = true → ∀ j,i ≤ j → j < i + H.length → H.get j ≠ none := by
     intro H
     induction H with
     | nil => intro i _ j h1 h2; simp at h2; omega
     | cons y r ih =>
      intro i hk j h1 h2
      obtain ⟨k,b⟩ := y
      simp only [xk,Bool.and_eq_true,decide_eq_true_eq] at hk
      obtain ⟨rfl,hk⟩ := hk
      simp only [Heap.get]
      split
      ·simp
      ·exact ih (k + 1) hk j (by omega) (by simp only [List.length_cons] at h2; omega)
    exact key H' 0 hk j (Nat.zero_le _) (by omega) hb'
  ·rw [h2] at h
   exact .inr ⟨hnotL γ h1,h⟩
 have cross : ∀ {j b' γ b z},H'.get j = some b' → b'.foot (ι' j) z → γ ∉ L → H.get γ = some b → b.foot (ι γ) z → False := by
  intro j b' γ b z h1 u1 hL h2 u2
  rcases he.plnew j b' z h1 u1 with h | ⟨i,x,q1,q2⟩
  ·have := (hi.blk γ b h2).mf u2
   omega
  ·obtain ⟨β,b1,r1,r2,r3⟩ := live0 q1 q2
   exact hL (hi.inj β γ b1 b z r2 h2 r3 u2 ▸ r1)
 refine ⟨⟨fun γ b h => ?_,fun γ γ' b b' z h h' u u' => ?_,hi'.im,fun γ b z h hu => ?_,hi'.glb,hi'.gim⟩,hev,fun {r v} hr => q0l _ hr fun γ _ c hc => conn γ c hc,fun γ b h => ?_⟩
 ·rcases split h with ⟨j,b',rfl,hb',rfl⟩ | ⟨hL,hb⟩
  ·exact (hi'.blk j b' hb').ren _ (hplace j (lt' hb')) fun γ _ c hc => conn γ c hc
  ·exact (hi.blk γ b hb).mono hi hev (fun hu => ⟨hpl2 γ b hL hb,fun x hx => hsame γ b x hL hb hx⟩)
 ·rcases split h with ⟨j,c,rfl,hc,rfl⟩ | ⟨hL,hb⟩
  ·rcases split h' with ⟨j',c',rfl,hc',rfl⟩ | ⟨hL',hb'⟩
   ·rw [hplace _ (lt' hc),Blk.ym] at u
    rw [hplace _ (lt' hc'),Blk.ym] at u'
    rw [hi'.inj j j' c c' z hc hc' u u']
   ·rw [hplace _ (lt' hc),Blk.ym] at u
    rw [hpl2 γ' b' hL' hb'] at u'
    exact (cross hc u hL' hb' u').elim
  ·rcases split h' with ⟨j',c',rfl,hc',rfl⟩ | ⟨hL',hb'⟩
   ·rw [hplace _ (lt' hc'),Blk.ym] at u'
    rw [hpl2 γ b hL hb] at u
    exact (cross hc' u' hL hb u).elim
   ·rw [hpl2 γ b hL hb] at u
    rw [hpl2 γ' b' hL' hb'] at u'
    exact hi.inj γ γ' b b' z hb hb' u u'
 ·rcases split h with ⟨j,c,rfl,hc,rfl⟩ | ⟨hL,hb⟩
  ·rw [hplace _ (lt' hc),Blk.ym] at hu
   exact hi'.nim j c z hc hu
  ·rw [hpl2 γ b hL hb] at hu
   intro hIm
   rcases he.imnew _ hIm with h | h | ⟨i,x,q1,q2⟩
   ·exact hi.nim γ b z hb hu h
   ·have := (hi.blk γ b hb).mf hu
    omega
   ·obtain ⟨β,b1,r1,r2,r3⟩ := live0 q1 q2
    exact hL (hi.inj β γ b1 b z r2 hb r3 hu ▸ r1)
 ·rcases split h with ⟨j,c,rfl,hc,rfl⟩ | ⟨hL,hb⟩
  ·have h2 := (q2o H' 0 hk hc).2
   by_cases hj : j < L.length
   ·have a1 : L[j]? = some L[j] := by simp [hj]
    rw [g1 a1]
    obtain ⟨b1,hb1,_⟩ := hs.has _ (List.mem_of_getElem? a1)
    exact (hnx _ b1 hb1).imp (fun h => by omega) id
   ·rw [g2 (by omega)]
    exact .inl (by omega)
  ·exact (hnx γ b hb).imp (fun h => by omega) id
end
end Go.Gm
set_option linter.unusedSectionVars false
namespace Go.Gm
open Go
def mi [Globs] (P : Program) (f : FuncId) (args : List AV) (H : Heap) (r : AV) (H' : Heap) : Prop :=
 ∀ (w : World) (ι : Plc) (Im : Nat → Prop) (vs : List Value),qa w H ι Im → args.length = vs.length → (∀ (i : Nat) x v,args[i]? = some x → vs[i]? = some v → RA w H ι Im x v) →
  Calls P f ⟨vs⟩ w fun e w' => ∃ v ι' Im',e = .returned v ∧ qa w' H' ι' Im' ∧ Evo w H ι Im w' H' ι' Im' ∧ RA w' H' ι' Im' r v
def enters (P : Program) (f : FuncId) : Prop := ∃ fn,P.funcs[f]? = some fn ∧ (fn.name == "runtime.NumGoroutine") = false ∧ fn.body.isSome = true
structure SoundCall [Globs] (P : Program) (O : qw) : Prop where
 call : ∀ f args H r H',O.call f args H = some (r,H') → enters P f ∧ mi P f args H r H'
section
variable [Globs] {P : Program} {w : World} {H : Heap} {ι : Plc} {Im : Nat → Prop}
theorem z9k {f : FuncId} (h : enters P f) (args : Array Value) : (callFunc f args).run P w = .ok (.enter f args) w := by
 obtain ⟨fn,h1,h2,h3⟩ := h
 unfold callFunc
 have h3' : fn.body.isNone = false := by cases hb : fn.body <;> simp [hb] at h3 ⊢
 simp only [Sem.run_bind,run_program,Result.andThen_ok,h1,h2,Bool.false_eq_true,if_false,h3',Sem.run_pure]
theorem q9q {O : qw} (hO : SoundCall P O) (hi : qa w H ι Im) {nx : Nat} {X : Nat → Prop} (hnx : Bd X H nx) {f : FuncId} {args : List AV} {vs : List Value}
  (hl : args.length = vs.length) (hR : ∀ (i : Nat) x v,args[i]? = some x → vs[i]? = some v → RA w H ι Im x v) {e : Eff} (hr : ve O f args H nx = some e) (hX : ∀ γ,X γ → e.2.2 ≤ γ) :
  enters P f ∧ Calls P f ⟨vs⟩ w fun en w' => ∃ v ι' Im',en = .returned v ∧ qa w' (qf e.2.1 H) ι' Im' ∧ Evo w H ι Im w' (qf e.2.1 H) ι' Im' ∧ RA w' (qf e.2.1 H) ι' Im' e.1 v ∧
   nx ≤ e.2.2 ∧ Bd X (qf e.2.1 H) e.2.2 := by
 unfold ve at hr
 split at hr
 ·cases hr
 rename_i L H0 hsub
 split at hr
 ·cases hr
 rename_i v H' hcall
 split at hr <;> cases hr
 rename_i hk
 obtain ⟨hs,hroots,_⟩ := q5n List.nodup_nil hsub
 obtain ⟨hent,hok⟩ := hO.call f _ H0 v H' hcall
 refine ⟨hent, ?_⟩
 have := hok w (kg ι L) Im vs (hs.hinv hi) (by rw [pq,hl]) (fun i x v h1 h2 => by
  rw [yx] at h1
  simp only [Option.map_eq_some_iff] at h1
  obtain ⟨y,hy,rfl⟩ := h1
  exact q0l _ (hR i y v hy h2) fun β hβ b hb => hs.conn (hroots β (jv hy hβ)) b hb)
 refine this.mono fun en w' ⟨u,ι',Im',h1,h2,h3,h4⟩ => ?_
 obtain ⟨b1,b2,b3,b4⟩ := z0q hs hi hnx h2 h3 hk hX
 exact ⟨u,_,Im',h1,b1,b2,b3 h4,Nat.le_add_right _ _,b4⟩
theorem Act.q4h (a : Act) (d : Option Tmp) (v : Value) (t : Nat) : (a.put d v).tmps.getD t undef = if d = some t ∧ t < a.tmps.size then v else a.tmps.getD t undef := by
 cases d with
 | none => simp [Act.put]
 | some d =>
  simp only [Act.put,Option.some.injEq]
  by_cases h : d = t
  ·subst h
   by_cases h2 : d < a.tmps.size
   ·simp [h2,Array.getD]
   ·simp [h2,Array.getD]
  ·rw [if_neg (fun h' => h h'.1)]
   simp only [Array.getD,Array.size_setIfInBounds]
   split
   ·rw [Array.getInternal_eq_getElem,Array.getInternal_eq_getElem,Array.getElem_setIfInBounds_ne]
    exact h
   ·rfl
theorem Act.q5w (a : Act) (d : Option Tmp) (v : Value) : (a.put d v).tmps.size = a.tmps.size := by
 cases d <;> simp [Act.put]
theorem Act.put_defers (a : Act) (d : Option Tmp) (v : Value) : (a.put d v).defers = a.defers := by
 cases d <;> rfl
theorem q1p (d : Option Tmp) (v : AV) (E : Env) (t : Nat) : (zz d v E).get t = if d = some t then v else E.get t := by
 cases d with
 | none => simp [zz]
 | some d => simp [zz,Env.get]
theorem q5o {a : Act} {E : Env} {nt : Nat} (hE : ∀ t,RA w H ι Im (E.get t) (a.tmps.getD t undef)) (hsz : nt ≤ a.tmps.size) {d : Option Tmp} (hd : ∀ t,d = some t → t < nt)
  {x : AV} {v : Value} (hx : RA w H ι Im x v) : ∀ t,RA w H ι Im ((zz d x E).get t) ((a.put d v).tmps.getD t undef) := by
 intro t
 rw [q1p,Act.q4h]
 by_cases h : d = some t
 ·rw [if_pos h,if_pos ⟨h,Nat.lt_of_lt_of_le (hd t h) hsz⟩]
  exact hx
 ·rw [if_neg h,if_neg (fun h' => h h'.1)]
  exact hE t
theorem qa0 : RA w H ι Im (.tup []) Go.undef := .tup [] [] rfl (by simp)
def q39 (nt : Nat) (ops : List Oper) : Prop := ∀ o ∈ ops,∀ t,o.dst = some t → t < nt
def After (w : World) (H : Heap) (ι : Plc) (Im : Nat → Prop) (nt : Nat) (s : St) (a : Act) (w' : World) : Prop :=
 ∃ ι' Im',Inv w' a s ι' Im' nt ∧ Evo w H ι Im w' s.heap ι' Im'
theorem After.from {w1 : World} {H1 : Heap} {ι1 : Plc} {Im1 : Nat → Prop} {nt : Nat} {s : St} {a : Act} {w' : World} (h : After w1 H1 ι1 Im1 nt s a w') (he : Evo w H ι Im w1 H1 ι1 Im1) :
  After w H ι Im nt s a w' :=
 let ⟨ι',Im',h1,h2⟩ := h
 ⟨ι',Im',h1,he.trans h2⟩
theorem qbs {a : Act} {o : Oper} {t : TypeId} {z : Operand} (hoo : o.op = .box t z) {u : Value} {w' : World} (h : (Instr.box t (a.eval z)).run P w = .ok u w') :
  (execOp a.eval o).run P w = .ok (.value u) w' := by
 unfold execOp
 simp only [hoo]
 simp [h]
theorem qa9 {G : GP} {O : qw} (hG : jd P G) (hO : SoundCall P O) {a : Act} {E : Env} {nx : Nat} (hi : qa w H ι Im) (henv : ∀ t,RA w H ι Im (E.get t) (a.tmps.getD t undef))
  {X : Nat → Prop} (hnx : Bd X H nx) (o : Oper) {x : AV} {ws : List (Nat × Blk)} {nx' : Nat} (hop : aop G O o.op E H nx = some (x,ws,nx')) (hX : ∀ γ,X γ → nx' ≤ γ)
  (next : Act → World → Prop) (Q : Exit → Act → World → Prop)
  (fin : ∀ (u : Value) (w' : World) (ι' : Plc) (Im' : Nat → Prop),qa w' (qf ws H) ι' Im' → Evo w H ι Im w' (qf ws H) ι' Im' → RA w' (qf ws H) ι' Im' x u →
   Bd X (qf ws H) nx' → next (a.put o.dst u) w') :
  o.wp P a w next Q := by
 unfold Oper.wp
 cases hc : q3l o.op with
 | false =>
  obtain ⟨u,w',h1,ι',h2,h3,h4,h5,h6⟩ := zc8 hG hi hnx henv O o hc hop hX
  rcases h1 with h1 | ⟨h1,rfl⟩
  ·rw [h1]
   exact fin _ _ _ _ h2 h3 h4 h6
  ·rw [h1]
   exact fin _ _ _ _ h2 h3 h4 h6
 | true =>
  by_cases hbx : ∃ t z,o.op = .box t z
  ·obtain ⟨t,z,hoo⟩ := hbx
   rw [hoo] at hop
   unfold aop at hop
   simp only at hop
   split at hop
   rotate_left
   ·cases hop
   rename_i hs
   unfold q5a at hop
   split at hop
   ·split at hop <;> cases hop
    rename_i l hl
    obtain ⟨u,w',Im',h1,h2,h3,h4⟩ := qik (P := P) (t := t) hi (mh henv z) hs hl
    rw [qbs hoo h1]
    exact fin _ _ _ _ h2 h3 h4 hnx
   ·cases hop
    obtain ⟨u,w',h1,ι',h2,h3,h4,h5,h6⟩ := z0v (P := P) (t := t) hi hnx (bf hX) (mh henv z) hs
    rw [qbs hoo h1]
    exact fin _ _ _ _ h2 h3 h4 h6
  obtain ⟨fo,args,tys,hoo⟩ : ∃ fo args tys,o.op = .call { callee := .value fo,args := args,argTypes := tys } := by
   cases ho : o.op <;> simp [q3l,ho] at hc
   ·exact absurd ⟨_,_,ho⟩ hbx
   rename_i c
   obtain ⟨callee,args,tys⟩ := c
   cases callee <;> simp at hc
   exact ⟨_,_,_,rfl⟩
  rw [hoo] at hop
  have hargs : args.map a.eval = ⟨args.toList.map a.eval⟩ := by apply Array.ext'; simp
  have hval : ∀ (f : FuncId) (first cap : Array Value),a.eval fo = .func (.func f) first cap → enters P f →
    (execOp a.eval o).run P w = .ok (.enter f (first ++ args.map a.eval ++ cap)) w := by
   intro f first cap hf hent
   unfold execOp
   simp only [hoo,resolve,hf,Deferred.ofValue,Sem.run_bind,Sem.run_pure,Result.andThen_ok,invoke,z9k hent]
  have hfo := mh henv fo
  have hlist := q9h henv args.toList
  unfold aop at hop
  simp only at hop
  have finish : ∀ (f : FuncId) (vs : List Value) (e : Eff),(x,ws,nx') = e → (Calls P f ⟨vs⟩ w fun en w' => ∃ v ι' Im',en = .returned v ∧ qa w' (qf e.2.1 H) ι' Im' ∧ Evo w H ι Im w' (qf e.2.1 H) ι' Im' ∧ RA w' (qf e.2.1 H) ι' Im' e.1 v ∧
    nx ≤ e.2.2 ∧ Bd X (qf e.2.1 H) e.2.2) → o.upon P a next Q (.ok (.enter f ⟨vs⟩) w) := by
   intro f vs e he hcall
   subst he
   show Calls P f ⟨vs⟩ w _
   refine hcall.mono fun en w' ⟨v,ι',Im',q1,q2,q3,q4,q5,q6⟩ => ?_
   subst q1
   exact fin _ _ _ _ q2 q3 q4 q6
  split at hop
  ·rename_i f hf
   rw [hf] at hfo
   have hp := hfo.zo
   generalize hv : a.eval fo = vf at hp
   cases hp
   obtain ⟨hent,hcall⟩ := q9q hO hi hnx (vs := args.toList.map a.eval) (by simp) hlist hop hX
   rw [hval f #[] #[] hv hent,hargs]
   have : (#[] ++ (⟨args.toList.map a.eval⟩ : Array Value) ++ #[]) = ⟨args.toList.map a.eval⟩ := by simp
   rw [this]
   exact finish f _ _ rfl hcall
  ·rename_i f fa fb hf
   rw [hf] at hfo
   generalize hv : a.eval fo = vf at hfo
   cases hfo with
   | clo _ _ _ va vb hla hlb ha hb =>
    obtain ⟨hent,hcall⟩ := q9q hO hi hnx (vs := va ++ args.toList.map a.eval ++ vb) (by simp [hla,hlb]) (fun i z v h1 h2 => by
     rw [List.getElem?_append] at h1 h2
     have hlen : (fa ++ args.toList.map (ev E)).length = (va ++ args.toList.map a.eval).length := by simp [hla]
     rw [← hlen] at h2
     split at h1
     ·rename_i hc1
      rw [if_pos hc1] at h2
      rw [List.getElem?_append] at h1 h2
      rw [← hla] at h2
      split at h1
      ·rename_i hc2
       rw [if_pos hc2] at h2
       exact ha i z v h1 h2
      ·rename_i hc2
       rw [if_neg hc2] at h2
       exact hlist _ z v h1 h2
     ·rename_i hc1
      rw [if_neg hc1] at h2
      exact hb _ z v h1 h2) hop hX
    rw [hval f _ _ hv hent,hargs]
    have : ((⟨va⟩ : Array Value) ++ (⟨args.toList.map a.eval⟩ : Array Value) ++ (⟨vb⟩ : Array Value)) = ⟨va ++ args.toList.map a.eval ++ vb⟩ := by simp
    rw [this]
    exact finish f _ _ rfl hcall
  ·cases hop
theorem qh6 {G : GP} {O : qw} (hG : jd P G) (hO : SoundCall P O) {nt : Nat} {a : Act} {s s' : St} (h : Inv w a s ι Im nt) (o : Oper) (hd : ∀ t,o.dst = some t → t < nt)
  (hr : q0c G O o s = some s') (next : Act → World → Prop) (Q : Exit → Act → World → Prop) (hn : ∀ a' w',After w s.heap ι Im nt s' a' w' → next a' w') :
  o.wp P a w next Q := by
 unfold q0c at hr
 split at hr <;> cases hr
 rename_i x ws nx' hop
 refine qa9 hG hO h.heap h.env (X := fun _ => False) (fun β b hb => .inl (h.nx β b hb)) o hop (fun _ h => h.elim) next Q fun u w' ι' Im' h1 h2 h3 h4 => ?_
 refine hn _ _ ⟨ι',Im',⟨h1, ?_,fun β b hb => (h4 β b hb).resolve_right id,by rw [Act.q5w]; exact h.size,by rw [Act.put_defers]; exact h.defers⟩,h2⟩
 exact q5o (fun t => (h.env t).mono h.heap h2) h.size hd h3
theorem After.post {nt : Nat} {s : St} {a : Act} {w' : World} (h : After w H ι Im nt s a w') (l : List Cmd) : After w H ι Im nt (zh l s) a w' := by
 obtain ⟨ι1,Im1,h1,e1⟩ := h
 obtain ⟨ι2,Im2,h2,e2⟩ := q5c l h1
 exact ⟨ι2,Im2,h2,e1.trans e2⟩
end
end Go.Gm
set_option linter.unusedSectionVars false
namespace Go.Gm
open Go
section
variable [Globs] {P : Program} {w : World} {H : Heap} {ι : Plc} {Im : Nat → Prop}
theorem q6a {ops : Array Oper} {a : Act} {E : Env} (hE : ∀ t,RA w H ι Im (E.get t) (a.tmps.getD t undef)) {o : Oper} {b : Bool} (h : guardOf ops.toList o E = some b) :
  Region.wanted o (yielded ops a.tmps) = b := by
 unfold guardOf at h
 unfold Region.wanted
 split at h
 ·rename_i hg
  rw [hg]
  cases h
  rfl
 ·rename_i j want hg
  rw [hg]
  simp only
  split at h
  ·rename_i oj hoj
   have hoj' : ops[j]? = some oj := by rw [← Array.getElem?_toList]; exact hoj
   split at h
   ·rename_i d hd
    have hyd : yielded ops a.tmps j = match a.tmps[d]? with | some (.bool b) => some b | _ => none := by
     simp only [yielded,hoj',Option.bind_some,hd]
     rfl
    rw [hyd]
    have hr := hE d
    have hgd : a.tmps.getD d undef = (a.tmps[d]?).getD undef := by
     simp [Array.getD,getElem?_def]
     split <;> simp [*]
    rw [hgd] at hr
    split at h
    ·rename_i b0 hb0
     cases h
     rw [hb0] at hr
     have hp := hr.zo
     cases ht : a.tmps[d]? with
     | none => rw [ht] at hp; cases hp
     | some v =>
      rw [ht] at hp
      simp only [Option.getD_some] at hp
      cases hp
      simp only
      cases b0 <;> cases want <;> rfl
    ·rename_i hb0
     cases h
     rw [hb0] at hr
     cases ht : a.tmps[d]? with
     | none => rfl
     | some v =>
      rw [ht] at hr
      simp only [Option.getD_some] at hr
      cases hr with
      | tup _ vs => rfl
    ·cases h
   ·rename_i hd
    cases h
    have : yielded ops a.tmps j = none := by simp [yielded,hoj',hd]
    rw [this]
    rfl
  ·rename_i hoj
   cases h
   have hoj' : ops[j]? = none := by rw [← Array.getElem?_toList]; exact hoj
   have : yielded ops a.tmps j = none := by simp [yielded,hoj']
   rw [this]
   rfl
theorem zl0 {a : Act} {s : St} {nt : Nat} (h : Inv w a s ι Im nt) (d : Option Tmp) (hd : ∀ t,d = some t → t < nt) :
  Inv w (a.put d undef) { s with env := zz d (.tup []) s.env } ι Im nt where
 heap := h.heap
 env := q5o h.env h.size hd qa0
 nx := h.nx
 size := by rw [Act.q5w]; exact h.size
 defers := by rw [Act.put_defers]; exact h.defers
theorem q6p {G : GP} {O : qw} (hG : jd P G) (hO : SoundCall P O) {nt : Nat} (ops : Array Oper) (hd : q39 nt ops.toList) (Q : Exit → Act → World → Prop) :
  ∀ (rest : List Oper) (k : Nat),ops.toList.drop k = rest → ∀ {w : World} {ι : Plc} {Im : Nat → Prop} {a : Act} {s s' : St},Inv w a s ι Im nt → vg G O ops.toList rest s = some s' →
   (∀ a' w',After w s.heap ι Im nt s' a' w' → Q .normal a' w') → wpOps P ops Q (List.range' k rest.length) a w
 | [],k,_,w,ι,Im,a,s,s',h,hr,hq => by
  cases hr
  exact hq a w ⟨ι,Im,h,Evo.refl _ _ _ _⟩
 | o :: rest,k,hrest,w,ι,Im,a,s,s',h,hr,hq => by
  have hk : ops.toList[k]? = some o := by
   have := congrArg (fun l => l[0]?) hrest
   simpa using this
  have hk' : ops[k]? = some o := by rw [← Array.getElem?_toList]; exact hk
  have hrest' : ops.toList.drop (k + 1) = rest := by
   have := congrArg (fun l => l.drop 1) hrest
   simpa [List.drop_drop] using this
  have hdo : ∀ t,o.dst = some t → t < nt := hd o (List.mem_of_getElem? hk)
  simp only [List.length_cons,List.range'_succ,wpOps,hk']
  simp only [vg] at hr
  split at hr
  ·rename_i hg
   rw [q6a h.env hg,if_pos rfl]
   obtain ⟨Im1,h1,e1⟩ := q2h (needs G o.op s.env) h
   split at hr
   rotate_left
   ·cases hr
   rename_i s1 hs1
   refine .inl (qh6 hG hO h1 o hdo hs1 _ _ fun a' w' haft => ?_)
   obtain ⟨ι2,Im2,h2,e2⟩ := haft
   exact q6p hG hO ops hd Q rest (k + 1) hrest' h2 hr fun a'' w'' h3 => hq a'' w'' (h3.from (e1.trans e2))
  ·rename_i hg
   rw [q6a h.env hg,if_neg (by simp)]
   exact q6p hG hO ops hd Q rest (k + 1) hrest' (zl0 h o.dst hdo) hr fun a'' w'' h3 => hq a'' w'' h3
  ·cases hr
theorem za9 {G : GP} {O : qw} (hG : jd P G) (hO : SoundCall P O) {nt : Nat} (id : Nat) (ops : Array Oper) (hd : q39 nt ops.toList)
  {a : Act} {s s' : St} (h : Inv w a s ι Im nt) (hr : vg G O ops.toList ops.toList s = some s') (Q : Exit → Act → World → Prop)
  (hq : ∀ a' w',After w s.heap ι Im nt s' a' w' → Q .normal a' w') : (Code.region id ops false).wp P Q a w := by
 refine wp_region ?_
 have := q6p hG hO ops hd Q ops.toList 0 (by simp) h hr hq
 rw [List.range_eq_range']
 simpa using this
end
end Go.Gm
namespace Go.Gm
open Go
def agree (L : List Nat) (H H' : Heap) : Prop := ∀ γ ∈ L,H'.get γ = H.get γ
section
variable {H H' : Heap}
theorem agree.app {A B : List Nat} (h : agree (A ++ B) H H') : agree A H H' ∧ agree B H H' :=
 ⟨fun γ hγ => h γ (by simp [hγ]),fun γ hγ => h γ (by simp [hγ])⟩
theorem qzi {ti : TI} {a : AV} (h : agree a.refs H H') : ni ti a H' = ni ti a H := by
 cases a <;> simp only [ni]
 ·rename_i p; cases p <;> rfl
 ·rename_i β o; rw [h β (by simp [AV.refs])]
 ·rename_i β v i o; rw [h β (by simp [AV.refs])]
theorem zjd {ti : TI} {a v : AV} (h : agree a.refs H H') : q02 ti a v H' = q02 ti a v H := by
 cases a <;> simp only [q02]
 ·rename_i β o; rw [h β (by simp [AV.refs])]
 ·rename_i β v i o; rw [h β (by simp [AV.refs])]
theorem q5p {v : AV} (h : agree v.refs H H') : j3 v H' = j3 v H := by
 cases v with
 | pv p => cases p <;> first | rfl | (rename_i b _ _; cases b <;> rfl)
 | row β ver off n => simp only [j3]; rw [h β (by simp [AV.refs])]
 | _ => rfl
theorem qbm {v : AV} (h : agree v.refs H H') : bu v H' = bu v H := by
 cases v with
 | row β ver off n => simp only [bu]; rw [h β (by simp [AV.refs])]
 | _ => rfl
theorem zef {te : TI} {s x : AV} {nx : Nat} (h1 : agree s.refs H H') (h2 : agree x.refs H H') : gq te s x H' nx = gq te s x H nx := by
 unfold gq
 rw [qbm h2]
 cases s with
 | row β ver off n => simp only; rw [h1 β (by simp [AV.refs])]
 | pv p => cases p <;> first | rfl | (rename_i b _ _; cases b <;> rfl)
 | _ => rfl
theorem za5 {te : TI} {s x : AV} {nx : Nat} (h1 : agree s.refs H H') (h2 : agree x.refs H H') : jk te s x H' nx = jk te s x H nx := by
 unfold jk
 rw [q5p h2,zef h1 h2]
 cases s with
 | row β ver off n => simp only; rw [h1 β (by simp [AV.refs])]
 | pv p => cases p <;> first | rfl | (rename_i b _ _; cases b <;> rfl)
 | _ => rfl
theorem zjb {te : TI} {s x : AV} {nx : Nat} (h1 : agree s.refs H H') (h2 : agree x.refs H H') : tu te s x H' nx = tu te s x H nx := by
 unfold tu
 rw [q5p h2]
 cases s with
 | row β ver off n => simp only; rw [h1 β (by simp [AV.refs])]
 | pv p => cases p <;> first | rfl | (rename_i b _ _; cases b <;> rfl)
 | _ => rfl
theorem qug {td : TD} {esz : TypeId → Option TI} {x i : AV} (h : agree x.refs H H') : q2i td esz x i H' = q2i td esz x i H := by
 unfold q2i
 cases x with
 | row β ver off n =>
  simp only
  rw [h β (by simp [AV.refs])]
 | pv p => cases p <;> first | rfl | (rename_i b _ _; cases b <;> rfl)
 | _ => rfl
theorem zqz {td : TD} {esz : TypeId → Option TI} {ρ : Operand → AV} {x : AV} {lo hi mx : Option Operand} (h : agree x.refs H H') : bq td esz ρ x lo hi mx H' = bq td esz ρ x lo hi mx H := by
 unfold bq
 cases x with
 | row β ver off n =>
  simp only
  rw [h β (by simp [AV.refs])]
 | pv p => cases p <;> first | rfl | (rename_i b _ _; cases b <;> rfl)
 | _ => rfl
theorem q92 {td : TD} {v : AV} (h : agree v.refs H H') : xc td v H' = xc td v H := by
 unfold xc
 cases v with
 | row β ver off n =>
  simp only
  rw [h β (by simp [AV.refs])]
 | pv p => cases p <;> first | rfl | (rename_i b _ _; cases b <;> rfl)
 | _ => rfl
theorem zt3 {esz : TypeId → Option TI} {ti : TI} {x y : AV} (h1 : agree x.refs H H') (h2 : agree y.refs H H') : aEq esz ti x y H' = aEq esz ti x y H := by
 unfold aEq
 split
 ·rfl
 ·rfl
 ·rw [q92 h1,q92 h2]
theorem zfo {esz : TypeId → Option TI} {op : BinOp} {ti : TI} {x y : AV} (h1 : agree x.refs H H') (h2 : agree y.refs H H') : q1o esz op ti x y H' = q1o esz op ti x y H := by
 have e : aEq esz ti x y H' = aEq esz ti x y H := zt3 h1 h2
 unfold q1o
 split
 ·rfl
 ·rfl
 ·split
  ·rfl
  ·rfl
  ·rw [e]
theorem qkk {src dst : TD} {dte : TypeId → Option TI} {x : AV} {nx : Nat} (h : agree x.refs H H') : q0e src dst dte x H' nx = q0e src dst dte x H nx := by
 have e : j3 x H' = j3 x H := q5p h
 unfold q0e
 split <;> first | rfl | (rw [e])
theorem z4c {G : GP} {t : TypeId} {x : AV} {nx : Nat} (h : agree x.refs H H') : q03 G t x H' nx = q03 G t x H nx := by
 unfold q03
 cases x with
 | row β ver off n => simp only [h β (by simp [AV.refs])]
 | _ => rfl
theorem zt1 {tk te : TI} {m k : AV} {ok : Bool} (h : agree m.refs H H') : q2k tk te m k ok H' = q2k tk te m k ok H := by
 cases m <;> first | rfl | (cases k <;> first | rfl | (simp only [q2k]; rw [h _ (by simp [AV.refs])]))
theorem zid {tk : TI} {m k v : AV} (h : agree m.refs H H') : q1m tk m k v H' = q1m tk m k v H := by
 cases m <;> first | rfl | (cases k <;> first | rfl | (simp only [q1m]; rw [h _ (by simp [AV.refs])]))
theorem qgt {m : AV} {k : PV} (h : agree m.refs H H') : q1n m k H' = q1n m k H := by
 cases m with
 | map β => simp only [q1n]; rw [h β (by simp [AV.refs])]
 | pv p => cases p <;> first | rfl | (rename_i b _ _; cases b <;> rfl)
 | _ => rfl
theorem qwu {tk te : TI} {m k : AV} {ok : Bool} (h : agree m.refs H H') : q0v tk te m k ok H' = q0v tk te m k ok H := by
 cases k with
 | pv p => simp only [q0v,qgt h]
 | _ => rfl
theorem qbv {tk : TI} {m k : AV} {v : PV} (h : agree m.refs H H') : gu tk m k v H' = gu tk m k v H := by
 cases m <;> first | rfl | (cases k <;> first | rfl | (simp only [gu]; rw [h _ (by simp [AV.refs])]))
theorem zd5 {tk te : TI} {m k : AV} (h : agree m.refs H H') : mg tk te m k H' = mg tk te m k H := by
 cases m <;> first | rfl | (cases k <;> first | rfl | (simp only [mg]; rw [h _ (by simp [AV.refs])]))
theorem zcp {m st : AV} {v : PV} (h : agree m.refs H H') : ug m st v H' = ug m st v H := by
 cases m <;> first | rfl | (cases st <;> first | (rename_i p; cases p <;> first | rfl | (simp only [ug]; rw [h _ (by simp [AV.refs])])) | rfl | (simp only [ug]; rw [h _ (by simp [AV.refs])]))
theorem qdb {tk : TI} {m k : AV} (h : agree m.refs H H') : ng tk m k H' = ng tk m k H := by
 cases m <;> first | rfl | (cases k <;> first | rfl | (simp only [ng]; rw [h _ (by simp [AV.refs])])) | (rename_i p; cases p <;> first | rfl | (cases k <;> rfl))
theorem zoe {x : AV} (h : agree x.refs H H') : q1g x H' = q1g x H := by
 cases x with
 | row β ver off n => simp only [q1g]; rw [h β (by simp [AV.refs])]
 | map β => simp only [q1g]; rw [h β (by simp [AV.refs])]
 | pv p => cases p <;> first | rfl | (rename_i b _ _; cases b <;> rfl)
 | _ => rfl
theorem ztl {e : TypeId} {te : TI} {s x : AV} {nx : Nat} (h1 : agree s.refs H H') (h2 : agree x.refs H H') : wu e te s x H' nx = wu e te s x H nx := by
 unfold wu
 cases s with
 | row β ver off n =>
  simp only
  rw [h1 β (by simp [AV.refs]),q5p h2]
 | _ => rfl
theorem qg3 {te : TI} {s x : AV} {nx : Nat} (h1 : agree s.refs H H') (h2 : agree x.refs H H') : u7 te s x H' nx = u7 te s x H nx := by
 unfold u7
 rw [qbm h2]
 cases s with
 | row β ver off n =>
  simp only
  rw [h1 β (by simp [AV.refs])]
 | _ => rfl
theorem z5m {x : AV} {nx : Nat} (h : agree x.refs H H') : q1b x H' nx = q1b x H nx := by
 unfold q1b
 cases x with
 | row β ver off n => simp only; rw [h β (by simp [AV.refs])]
 | _ => rfl
theorem qzw {el : TypeId} {p x : AV} {nx : Nat} (h : agree p.refs H H') : q0n el p x H' nx = q0n el p x H nx := by
 unfold q0n
 split
 ·rfl
 ·rename_i β ver n hn
  simp only [h β (by simp [AV.refs])]
 ·rfl
theorem qw3 {G : GP} {b : Builtin} {tys : List TypeId} {args : List AV} {nx : Nat} (h : agree (AV.refs.refsL args) H H') : p9 G b tys args H' nx = p9 G b tys args H nx := by
 unfold p9
 split
 ·have h1 := (agree.app h).1
  simp only [zoe h1]
 ·have h1 := (agree.app h).1
  simp only [z5m h1]
 ·have h1 := (agree.app h).1
  simp only [qzw h1]
 ·rfl
 ·rfl
 ·rename_i s x
  have h1 : agree s.refs H H' := fun γ hγ => h γ (by simp [AV.refs.refsL,hγ])
  have h2 : agree x.refs H H' := fun γ hγ => h γ (by simp [AV.refs.refsL,hγ])
  simp only [za5 h1 h2,ztl h1 h2,qg3 h1 h2]
 ·rename_i s x
  have h1 : agree s.refs H H' := fun γ hγ => h γ (by simp [AV.refs.refsL,hγ])
  have h2 : agree x.refs H H' := fun γ hγ => h γ (by simp [AV.refs.refsL,hγ])
  simp only [zjb h1 h2]
 ·rename_i m k
  have h1 : agree m.refs H H' := fun γ hγ => h γ (by simp [AV.refs.refsL,hγ])
  simp only [qdb h1]
 ·rfl
theorem q7q : ∀ (n : Nat) (r d : List Nat),agree (reach H n r d) H H' → reach H' n r d = reach H n r d
 | 0,_,_,_ => rfl
 | n + 1,[],d,_ => rfl
 | n + 1,β :: r,d,h => by
  simp only [reach] at h ⊢
  by_cases c : u6 d β = true
  ·rw [if_pos c] at h ⊢
   rw [if_pos c]
   exact q7q n r d h
  ·rw [if_neg c] at h ⊢
   rw [if_neg c]
   have hin : β ∈ reach H n (r ++ (jh H β).refs) (d ++ [β]) := by
    have key : ∀ (n : Nat) (r d : List Nat) (x : Nat),x ∈ d → x ∈ reach H n r d := by
     intro n
     induction n with
     | zero => intro r d x hx; exact hx
     | succ n ih =>
      intro r d x hx
      cases r with
      | nil => exact hx
      | cons β r =>
       simp only [reach]
       split
       ·exact ih _ _ _ hx
       ·exact ih _ _ _ (by simp [hx])
    exact key _ _ _ _ (by simp)
   have hb : jh H' β = jh H β := by simp only [jh,h β hin]
   rw [hb]
   exact q7q n _ _ h
theorem q8f {L : List Nat} : ∀ (l : List Nat),agree l H H' → closedIn H' L l = closedIn H L l
 | [],_ => rfl
 | β :: r,h => by
  simp only [closedIn]
  rw [h β (by simp),q8f r fun γ hγ => h γ (by simp [hγ])]
theorem q9b {g : Nat → Nat} : ∀ (i : Nat) (l : List Nat),agree l H H' → pick H' g i l = pick H g i l
 | _,[],_ => rfl
 | i,β :: r,h => by
  simp only [pick]
  rw [q9b (i + 1) r fun γ hγ => h γ (by simp [hγ])]
  have : jh H' β = jh H β := by simp only [jh,h β (by simp)]
  rw [this]
theorem z3v {roots : List Nat} (h : agree (reach H 400 roots []) H H') : gp H' [] roots = gp H [] roots := by
 cases roots with
 | nil => rfl
 | cons β r =>
  have h' : agree (reach H 400 ((β :: r) ++ ([] : List Nat).flatMap fun β => (jh H β).refs) []) H H' := by simpa using h
  have e := q7q 400 _ _ h'
  simp only [List.flatMap_nil] at e h'
  simp only [gp,List.flatMap_nil,e,q8f _ h',q9b 0 _ h']
theorem q8s {O : qw} {f : FuncId} {args : List AV} {nx : Nat} (h : agree (reach H 400 (AV.refs.refsL args) []) H H') : ve O f args H' nx = ve O f args H nx := by
 unfold ve
 rw [z3v h]
theorem q9m {ps : List (Nat × Operand)} {E E' : Env} (h : ∀ x ∈ ps.map (·.2),ev E' x = ev E x) : ∀ x ∈ ps,ev E' x.2 = ev E x.2 := fun x hx => h x.2 (List.mem_map.2 ⟨x,hx,rfl⟩)
theorem q8c {place : Nat → Option (Nat × Nat)} {E E' : Env} : ∀ (l : List (Nat × Operand)) (c : List AV),(∀ x ∈ l,ev E' x.2 = ev E x.2) → uo place (ev E') l c = uo place (ev E) l c
 | [],_,_ => rfl
 | (i,x) :: r,c,h => by
  have hx : ev E' x = ev E x := h (i,x) (by simp)
  simp only [uo,hx]
  split
  ·split
   ·exact q8c r _ fun y hy => h y (by simp [hy])
   ·rfl
  ·rfl
theorem q8v {size : Nat} {E E' : Env} : ∀ (l : List (Nat × Operand)) (c : List (List PV)),(∀ x ∈ l,ev E' x.2 = ev E x.2) → uu size (ev E') l c = uu size (ev E) l c
 | [],_,_ => rfl
 | (i,x) :: r,c,h => by
  have hx : ev E' x = ev E x := h (i,x) (by simp)
  simp only [uu,hx]
  split
  ·split
   ·exact q8v r _ fun y hy => h y (by simp [hy])
   ·rfl
  ·rfl
theorem q9i {size : Nat} {E E' : Env} : ∀ (l : List (Nat × Operand)) (c : List (List AV)),(∀ x ∈ l,ev E' x.2 = ev E x.2) → q08 size (ev E') l c = q08 size (ev E) l c
 | [],_,_ => rfl
 | (i,x) :: r,c,h => by
  have hx : ev E' x = ev E x := h (i,x) (by simp)
  simp only [q08,hx]
  split
  ·exact q9i r _ fun y hy => h y (by simp [hy])
  ·rfl
theorem q7o {E E' : Env} (l : List Operand) (h : ∀ x ∈ l,ev E' x = ev E x) : l.map (ev E') = l.map (ev E) := List.map_congr_left h
theorem z9b {G : GP} {O : qw} {o : Op} {E E' : Env} {nx : Nat} (hE : ∀ x ∈ o.operands,ev E' x = ev E x) (hH : agree (touched o E H) H H') : aop G O o E' H' nx = aop G O o E H nx := by
 cases o with
 | move x => simp only [aop,hE x (by simp [Op.operands])]
 | assign x => simp only [aop,hE x (by simp [Op.operands])]
 | pick c a b => simp only [aop,hE c (by simp [Op.operands]),hE a (by simp [Op.operands]),hE b (by simp [Op.operands])]
 | alloc t => rfl
 | box t x => simp only [aop,hE x (by simp [Op.operands])]
 | build t ps =>
  have h := q9m (ps := ps.toList) (E := E) (E' := E') (fun x hx => hE x (by simpa [Op.operands] using hx))
  simp only [aop,q3f,q8c _ _ h]
 | buildSlice t n ps =>
  have h := q9m (ps := ps.toList) (E := E) (E' := E') (fun x hx => hE x (by simpa [Op.operands] using hx))
  simp only [aop,q8v _ _ h,q9i _ _ h]
 | load t a => simp only [aop,hE a (by simp [Op.operands]),qzi hH]
 | store t a x => simp only [aop,hE a (by simp [Op.operands]),hE x (by simp [Op.operands]),zjd hH]
 | nilCheck x => simp only [aop,hE x (by simp [Op.operands])]
 | binOp op t x y z =>
  obtain ⟨h1,h2⟩ := agree.app hH
  simp only [aop,hE x (by simp [Op.operands]),hE y (by simp [Op.operands]),zfo h1 h2]
 | unOp op t x => simp only [aop,hE x (by simp [Op.operands])]
 | convert s d x => simp only [aop,hE x (by simp [Op.operands]),qkk hH,z4c hH]
 | makeFunc fn a b =>
  cases fn with
  | func f =>
   have h1 := q7o a.toList (E := E) (E' := E') (fun x hx => hE x (by simp [Op.operands] at hx ⊢; exact .inl hx))
   have h2 := q7o b.toList (E := E) (E' := E') (fun x hx => hE x (by simp [Op.operands] at hx ⊢; exact .inr hx))
   simp only [aop]
   generalize a.toList = la at h1
   generalize b.toList = lb at h2
   cases la <;> cases lb <;> first | rfl | (simp only [h1,h2])
  | _ => rfl
 | makeMap t r => cases r <;> rfl
 | makeSlice t l c => simp only [aop,hE l (by simp [Op.operands]),hE c (by simp [Op.operands])]
 | slice t x lo hi mx =>
  have hx := hE x (by simp [Op.operands])
  have h1 : ∀ d,zi (ev E') d lo = zi (ev E) d lo := fun d => by cases lo with | none => rfl | some y => simp only [zi,hE y (by simp [Op.operands])]
  have h2 : ∀ d,zi (ev E') d hi = zi (ev E) d hi := fun d => by cases hi with | none => rfl | some y => simp only [zi,hE y (by simp [Op.operands])]
  have h3 : ∀ d,zi (ev E') d mx = zi (ev E) d mx := fun d => by cases mx with | none => rfl | some y => simp only [zi,hE y (by simp [Op.operands])]
  have key : ∀ td esz H,bq td esz (ev E') (ev E x) lo hi mx H = bq td esz (ev E) (ev E x) lo hi mx H := by
   intro td esz H
   unfold bq
   simp only [h1,h2,h3]
  simp only [aop,hx,key,zqz hH]
 | fieldAddr t x f => simp only [aop,hE x (by simp [Op.operands])]
 | field t x f => simp only [aop,hE x (by simp [Op.operands])]
 | indexAddr t x i => simp only [aop,hE x (by simp [Op.operands]),hE i (by simp [Op.operands]),qug hH]
 | index t x i => simp only [aop,hE x (by simp [Op.operands]),hE i (by simp [Op.operands])]
 | lookup t m k ok => simp only [aop,hE m (by simp [Op.operands]),hE k (by simp [Op.operands]),qwu hH,zt1 hH]
 | mapUpdate t m k x => simp only [aop,q4b,hE m (by simp [Op.operands]),hE k (by simp [Op.operands]),hE x (by simp [Op.operands]),qbv hH,zid hH]
 | insert t m k x => simp only [aop,hE m (by simp [Op.operands]),hE k (by simp [Op.operands]),hE x (by simp [Op.operands]),qbv hH]
 | mapEntry t m k => simp only [aop,hE m (by simp [Op.operands]),hE k (by simp [Op.operands]),zd5 hH]
 | entryStore t m st x => simp only [aop,hE m (by simp [Op.operands]),hE st (by simp [Op.operands]),hE x (by simp [Op.operands]),zcp hH]
 | extract t i => simp only [aop,hE t (by simp [Op.operands])]
 | call c =>
  obtain ⟨callee,args,tys⟩ := c
  have ha := q7o args.toList (E := E) (E' := E') (fun x hx => hE x (by simp [Op.operands,Call.operands]; right; simpa using hx))
  cases callee with
  | builtin b => simp only [aop,ha,qw3 hH]
  | value f =>
   have hf := hE f (by simp [Op.operands,Call.operands])
   simp only [aop,hf,ha]
   simp only [touched] at hH
   split
   ·rename_i g hg
    rw [hg] at hH
    exact q8s hH
   ·rename_i g a b hg
    rw [hg] at hH
    exact q8s hH
   ·rfl
  | _ => rfl
 | _ => rfl
end
end Go.Gm
namespace Go.Gm
open Go
structure Rc where
 E : Env
 H : Heap
 nx : Nat
 on : Bool
 v : AV
 ws : List (Nat × Blk)
 nx' : Nat
 rd : List Nat
def Rc.keys (c : Rc) : List Nat := c.ws.map (·.1)
mutual
theorem PV.same_eq : ∀ {x y : PV},PV.same x y = true → x = y := by
 intro x y h
 cases x <;> cases y <;> first | (simp [PV.same] at h; done) | (simp only [PV.same,Bool.and_eq_true,beq_iff_eq,decide_eq_true_eq] at h)
 all_goals first | rfl | (rw [h]; done) | (rw [h.1,h.2]; done) | (rw [PV.q0o h]; done) | (rw [h.1.1,h.1.2,PV.q1x h.2]; done)
theorem PV.q0o : ∀ {x y : List PV},PV.jq x y = true → x = y := by
 intro x y h
 cases x <;> cases y <;> first | (simp [PV.jq] at h; done) | rfl | skip
 simp only [PV.jq,Bool.and_eq_true] at h
 rw [PV.same_eq h.1,PV.q0o h.2]
theorem PV.q1x : ∀ {x y : List (List PV)},PV.w9 x y = true → x = y := by
 intro x y h
 cases x <;> cases y <;> first | (simp [PV.w9] at h; done) | rfl | skip
 simp only [PV.w9,Bool.and_eq_true] at h
 rw [PV.q0o h.1,PV.q1x h.2]
end
theorem AV.same_eq {x y : AV} (h : AV.same x y = true) : x = y := by
 cases x <;> cases y <;> first | (simp [AV.same] at h; done) | rfl | (simp only [AV.same,Bool.and_eq_true,decide_eq_true_eq] at h)
 all_goals first | (rw [PV.same_eq h]; done) | (obtain ⟨⟨⟨h1,h2⟩,h3⟩,h4⟩ := h; subst h1 h2 h3 h4; rfl) | (obtain ⟨h1,h2⟩ := h; subst h1 h2; rfl) | (subst h; rfl)
theorem AV.q0o : ∀ {x y : List AV},AV.jq x y = true → x = y
 | [],[],_ => rfl
 | [],_ :: _,h => by simp [AV.jq] at h
 | _ :: _,[],h => by simp [AV.jq] at h
 | _ :: _,_ :: _,h => by
  simp only [AV.jq,Bool.and_eq_true] at h
  rw [AV.same_eq h.1,AV.q0o h.2]
theorem AV.q1x : ∀ {x y : List (List AV)},AV.w9 x y = true → x = y
 | [],[],_ => rfl
 | [],_ :: _,h => by simp [AV.w9] at h
 | _ :: _,[],h => by simp [AV.w9] at h
 | _ :: _,_ :: _,h => by
  simp only [AV.w9,Bool.and_eq_true] at h
  rw [AV.q0o h.1,AV.q1x h.2]
theorem Blk.same_eq {x y : Blk} (h : Blk.same x y = true) : x = y := by
 cases x <;> cases y <;> first | (simp [Blk.same] at h; done) | rfl | (simp only [Blk.same,Bool.and_eq_true,decide_eq_true_eq,beq_iff_eq] at h)
 all_goals first | (rw [AV.q0o h]; done) | (rw [h.1,AV.q0o h.2]; done) | (rw [h.1,AV.q1x h.2]; done) | (rw [h.1.1,h.1.2,PV.q1x h.2]; done) | (rw [h.1.1.1,h.1.1.2,h.1.2,PV.q1x h.2]; done)
theorem qai {H : Heap} {β : Nat} {b : Blk} (h : leftAs H β b = true) : H.get β = some b := by
 unfold leftAs at h
 split at h
 ·rename_i c hc
  rw [hc,Blk.same_eq h]
 ·cases h
theorem q6f (rd : List Nat) : ∀ (ws : List (Nat × Blk)) (H : Heap) (x : Nat × Blk),x ∈ trim rd H ws → x ∈ ws
 | [],H,x,h => by simp [trim] at h
 | (β,b) :: r,H,x,h => by
  rw [trim] at h
  split at h
  ·exact List.mem_cons_of_mem _ (q6f rd r H x h)
  ·rcases List.mem_cons.1 h with rfl | h
   ·exact List.mem_cons_self
   ·exact List.mem_cons_of_mem _ (q6f rd r _ x h)
theorem q7e (rd : List Nat) : ∀ (ws : List (Nat × Blk)) (H : Heap) (γ : Nat),γ ∈ ws.map (·.1) → γ ∈ (trim rd H ws).map (·.1) ∨ ∃ b,H.get γ = some b
 | [],H,γ,h => by simp at h
 | (β,b) :: r,H,γ,h => by
  rw [trim]
  simp only [List.map_cons,List.mem_cons] at h
  split
  ·rename_i hc
   simp only [Bool.and_eq_true] at hc
   rcases h with rfl | h
   ·exact .inr ⟨_,qai hc.2⟩
   ·exact q7e rd r H γ h
  ·rcases h with rfl | h
   ·exact .inl (by simp)
   ·rcases q7e rd r (H.put β b) γ h with h | ⟨c,h⟩
    ·exact .inl (by simp [h])
    ·rw [Heap.get_put] at h
     split at h
     ·rename_i e
      exact .inl (by simp [e])
     ·exact .inr ⟨c,h⟩
theorem q58 : ∀ (ws : List (Nat × Blk)) (H H' : Heap) (γ : Nat),γ ∈ ws.map (·.1) → (qf ws H).get γ = (qf ws H').get γ
 | [],_,_,_,h => by simp at h
 | (i,b) :: r,H,H',γ,h => by
  simp only [qf]
  by_cases hr : γ ∈ r.map (·.1)
  ·exact q58 r _ _ γ hr
  ·have hi : γ = i := by
    simp only [List.map_cons,List.mem_cons] at h
    exact h.resolve_right hr
   have hne : ∀ x ∈ r,x.1 ≠ γ := fun x hx e => hr (by rw [← e]; exact List.mem_map.2 ⟨x,hx,rfl⟩)
   rw [yf r _ γ hne,yf r _ γ hne,Heap.get_put,Heap.get_put,if_pos hi,if_pos hi]
theorem q6x (rd : List Nat) : ∀ (ws : List (Nat × Blk)) (H H' : Heap),agree rd H H' → ∀ γ,(qf (trim rd H ws) H').get γ = (qf ws H').get γ
 | [],_,_,_,_ => rfl
 | (β,b) :: r,H,H',h,γ => by
  rw [trim]
  split
  ·rename_i hc
   simp only [Bool.and_eq_true] at hc
   have h1 := qai hc.2
   have h2 : H'.get β = some b := by rw [h β ((q4a rd β).1 hc.1),h1]
   rw [q6x rd r H H' h γ]
   simp only [qf]
   by_cases hr : γ ∈ r.map (·.1)
   ·exact q58 r _ _ γ hr
   ·have hne : ∀ x ∈ r,x.1 ≠ γ := fun x hx e => hr (by rw [← e]; exact List.mem_map.2 ⟨x,hx,rfl⟩)
    rw [yf r _ γ hne,yf r _ γ hne,Heap.get_put]
    split
    ·rename_i e
     rw [e,h2]
    ·rfl
  ·simp only [qf]
   refine q6x rd r (H.put β b) (H'.put β b) (fun x hx => ?_) γ
   rw [Heap.get_put,Heap.get_put,h x hx]
theorem zdr {tm : Bool} {rd : List Nat} {ws : List (Nat × Blk)} {H H' : Heap} (h : agree rd H H') (γ : Nat) : (qf (mq tm rd H ws) H').get γ = (qf ws H').get γ := by
 cases tm
 ·rfl
 ·exact q6x rd ws H H' h γ
theorem qhe {tm : Bool} {rd : List Nat} {ws : List (Nat × Blk)} {H : Heap} {x : Nat × Blk} (h : x ∈ mq tm rd H ws) : x ∈ ws := by
 cases tm
 ·exact h
 ·exact q6f rd ws H x h
theorem zne {tm : Bool} {rd : List Nat} {ws : List (Nat × Blk)} {H : Heap} {γ : Nat} (h : γ ∈ ws.map (·.1)) : γ ∈ (mq tm rd H ws).map (·.1) ∨ ∃ b,H.get γ = some b := by
 cases tm
 ·exact .inl h
 ·exact q7e rd ws H γ h
def p8 (G : GP) (O : qw) (all : List Oper) (tm : Bool) : List Oper → List Rc → St → St → Prop
 | [],[],s,s' => s' = s
 | o :: r,c :: cs,s,s' => c.E = s.env ∧ c.H = s.heap ∧ c.nx = s.nx ∧ guardOf all o s.env = some c.on ∧
   (c.on = true → (∃ wf,aop G O o.op s.env s.heap s.nx = some (c.v,wf,c.nx') ∧ c.ws = mq tm c.rd s.heap wf) ∧ c.rd = touched o.op s.env s.heap) ∧
   (c.on = false → c.v = .tup [] ∧ c.ws = [] ∧ c.nx' = s.nx ∧ c.rd = []) ∧ p8 G O all tm r cs ⟨zz o.dst c.v s.env,qf c.ws s.heap,c.nx'⟩ s'
 | _,_,_,_ => False
def q2t : Nat → List Rc → List (Nat × List Nat × List Nat) → List (Nat × List Nat × List Nat)
 | _,[],log => log
 | i,c :: cs,log => q2t (i + 1) cs (if c.on = true then (i,c.rd,c.keys) :: log else log)
theorem q75 {G : GP} {O : qw} (all : List Oper) {tm : Bool} : ∀ {l : List Oper} {i : Nat} {s s' : St} {log : List (Nat × List Nat × List Nat)},ku G O all tm i l s log = some s' →
  ∃ cs,p8 G O all tm l cs s s' ∧ uw (kr [] all) (q2t i cs log) = true
 | [],i,s,s',log,h => by
  simp only [ku] at h
  split at h <;> cases h
  rename_i hc
  exact ⟨[],rfl,hc⟩
 | o :: r,i,s,s',log,h => by
  simp only [ku] at h
  split at h
  ·rename_i hg
   split at h
   ·rename_i v ws nx hop
    obtain ⟨cs,h1,h2⟩ := q75 all h
    exact ⟨⟨s.env,s.heap,s.nx,true,v,mq tm (touched o.op s.env s.heap) s.heap ws,nx,touched o.op s.env s.heap⟩ :: cs,⟨rfl,rfl,rfl,hg,fun _ => ⟨⟨ws,hop,rfl⟩,rfl⟩,(fun h => by cases h),h1⟩,h2⟩
   ·cases h
  ·rename_i hg
   obtain ⟨cs,h1,h2⟩ := q75 all h
   exact ⟨⟨s.env,s.heap,s.nx,false,.tup [],[],s.nx,[]⟩ :: cs,⟨rfl,rfl,rfl,hg,(fun h => by cases h),fun _ => ⟨rfl,rfl,rfl,rfl⟩,h1⟩,h2⟩
  ·cases h
theorem p8.len {G : GP} {O : qw} {all : List Oper} {tm : Bool} : ∀ {l : List Oper} {cs : List Rc} {s s' : St},p8 G O all tm l cs s s' → cs.length = l.length
 | [],[],_,_,_ => rfl
 | [],_ :: _,_,_,h => h.elim
 | _ :: _,[],_,_,h => h.elim
 | _ :: r,_ :: cs,_,_,h => by simp [p8.len h.2.2.2.2.2.2]
theorem q5i : ∀ {l L : List Nat},disj l L = true → ∀ x ∈ l,x ∉ L
 | [],L,_,x,hx => by simp at hx
 | y :: r,L,h,x,hx => by
  simp only [disj,Bool.and_eq_true,Bool.not_eq_true'] at h
  rcases List.mem_cons.1 hx with rfl | hx
  ·intro hc
   rw [(q4a L x).2 hc] at h
   simp at h
  ·exact q5i h.2 x hx
def Apart (a b : Rc) : Prop := (∀ x ∈ a.keys,x ∉ b.rd) ∧ (∀ x ∈ a.keys,x ∉ b.keys) ∧ ∀ x ∈ a.rd,x ∉ b.keys
theorem qby {ms : List Nat} {j : Nat} {rd wr : List Nat} : ∀ {l : List (Nat × List Nat × List Nat)},q52 ms j rd wr l = true → ∀ e ∈ l,ordered ms e.1 j = true ∨ (disj e.2.2 rd = true ∧ disj e.2.2 wr = true ∧ disj e.2.1 wr = true)
 | [],_,e,he => by simp at he
 | (i,rdi,wri) :: r,h,e,he => by
  simp only [q52,Bool.and_eq_true,Bool.or_eq_true] at h
  rcases List.mem_cons.1 he with rfl | he
  ·rcases h.1 with h1 | ⟨⟨h1,h2⟩,h3⟩
   ·exact .inl h1
   ·exact .inr ⟨h1,h2,h3⟩
  ·exact qby h.2 e he
theorem qbx {ms : List Nat} : ∀ (cs : List Rc) (i : Nat) (log : List (Nat × List Nat × List Nat)),uw ms (q2t i cs log) = true →
  uw ms log = true ∧ ∀ (b : Nat) (cb : Rc),cs[b]? = some cb → cb.on = true →
   (∀ e ∈ log,ordered ms e.1 (i + b) = true ∨ (disj e.2.2 cb.rd = true ∧ disj e.2.2 cb.keys = true ∧ disj e.2.1 cb.keys = true)) ∧
   ∀ (a : Nat) (ca : Rc),a < b → cs[a]? = some ca → ca.on = true → ordered ms (i + a) (i + b) = true ∨ Apart ca cb
 | [],i,log,h => ⟨h,by simp⟩
 | c :: cs,i,log,h => by
  simp only [q2t] at h
  obtain ⟨h1,h2⟩ := qbx cs (i + 1) _ h
  have hlog : uw ms log = true := by
   split at h1
   ·simp only [uw,Bool.and_eq_true] at h1
    exact h1.2
   ·exact h1
  refine ⟨hlog,fun b cb hb hon => ?_⟩
  cases b with
  | zero =>
   simp only [List.getElem?_cons_zero,Option.some.injEq] at hb
   subst hb
   rw [if_pos hon] at h1
   simp only [uw,Bool.and_eq_true] at h1
   exact ⟨fun e he => qby h1.1 e he,fun a ca ha => by omega⟩
  | succ b =>
   simp only [List.getElem?_cons_succ] at hb
   obtain ⟨k1,k2⟩ := h2 b cb hb hon
   rw [show i + 1 + b = i + (b + 1) from by omega] at k1 k2
   refine ⟨fun e he => k1 e (by split <;> simp [he]),fun a ca ha hca hcon => ?_⟩
   cases a with
   | zero =>
    simp only [List.getElem?_cons_zero,Option.some.injEq] at hca
    subst hca
    rcases k1 (i,c.rd,c.keys) (by rw [if_pos hcon]; simp) with h | ⟨q1,q2,q3⟩
    ·exact .inl h
    ·exact .inr ⟨q5i q1,q5i q2,q5i q3⟩
   | succ a =>
    simp only [List.getElem?_cons_succ] at hca
    have := k2 a ca (by omega) hca hcon
    rwa [show i + 1 + a = i + (a + 1) from by omega] at this
theorem qr2 {ms : List Nat} {o : Oper} {i : Nat} (h : (q4u ms o).testBit i = true) : ∃ e ∈ o.after,Region.binds .any e = true ∧ (i = e.on ∨ (ms.getD e.on 0).testBit i = true) := by
 have key : ∀ (l : List Edge) (m : Nat),(l.foldl (fun m e => if Region.binds .any e = true then m ||| (1 <<< e.on) ||| ms.getD e.on 0 else m) m).testBit i = true →
   m.testBit i = true ∨ ∃ e ∈ l,Region.binds .any e = true ∧ (i = e.on ∨ (ms.getD e.on 0).testBit i = true) := by
  intro l
  induction l with
  | nil => intro m h; exact .inl h
  | cons e l ih =>
   intro m h
   simp only [List.foldl_cons] at h
   rcases ih _ h with h | ⟨e',h1,h2,h3⟩
   ·split at h
    ·rename_i hb
     rw [Nat.testBit_or,Nat.testBit_or,Nat.one_shiftLeft,Nat.testBit_two_pow] at h
     simp only [Bool.or_eq_true,decide_eq_true_eq] at h
     rcases h with (h | h) | h
     ·exact .inl h
     ·exact .inr ⟨e,by simp,hb,.inl h.symm⟩
     ·exact .inr ⟨e,by simp,hb,.inr h⟩
    ·exact .inl h
   ·exact .inr ⟨e',by simp [h1],h2,h3⟩
 rcases key o.after.toList 0 h with h | ⟨e,h1,h2⟩
 ·simp at h
 ·exact ⟨e,by simpa using h1,h2⟩
theorem q7d : ∀ (os : List Oper) (ms : List Nat) (k : Nat),k < ms.length → (kr ms os).getD k 0 = ms.getD k 0
 | [],ms,k,_ => rfl
 | o :: r,ms,k,h => by
  simp only [kr]
  rw [q7d r _ k (by simp; omega)]
  simp [List.getElem?_append_left h]
theorem q8t : ∀ (os : List Oper) (ms : List Nat) (j : Nat) (o : Oper),os[j]? = some o → ∃ ms' : List Nat,ms'.length = ms.length + j ∧ (kr ms os).getD (ms.length + j) 0 = q4u ms' o ∧
  ∀ k,k < ms.length + j → ms'.getD k 0 = (kr ms os).getD k 0
 | [],ms,j,o,h => by simp at h
 | o' :: r,ms,j,o,h => by
  simp only [kr]
  cases j with
  | zero =>
   simp only [List.getElem?_cons_zero,Option.some.injEq] at h
   subst h
   refine ⟨ms,by simp, ?_,fun k hk => ?_⟩
   ·rw [q7d r _ _ (by simp)]
    simp
   ·rw [q7d r _ k (by simp; omega)]
    simp at hk
    simp [List.getElem?_append_left hk]
  | succ j =>
   simp only [List.getElem?_cons_succ] at h
   obtain ⟨ms',h1,h2,h3⟩ := q8t r (ms ++ [q4u ms o']) j o h
   simp only [List.length_append,List.length_singleton] at h1 h2 h3
   rw [show ms.length + 1 + j = ms.length + (j + 1) from by omega] at h1 h2 h3
   exact ⟨ms',h1,h2,h3⟩
def q7p (os : List Oper) : Bool := os.zipIdx.all fun x => x.1.after.toList.all fun e => !Region.binds .any e || decide (e.on < x.2)
def qa4 (os : List Oper) (ms : List Nat) : Bool := (List.range os.length).all fun j => (List.range j).all fun i => ordered ms i j || match os[i]?,os[j]? with
 | some x,some y => x.apart os.toArray y
 | _,_ => true
def q2x (os : List Oper) : Bool := q7p os && qa4 os (kr [] os)
theorem qal {os : List Oper} (h : q7p os = true) {j : Nat} {o : Oper} (ho : os[j]? = some o) {e : Edge} (he : e ∈ o.after) (hb : Region.binds .any e = true) : e.on < j := by
 have h1 := List.all_eq_true.1 h (o,j) (by rw [List.mem_zipIdx_iff_getElem?]; exact ho)
 have h2 := List.all_eq_true.1 h1 e (by simpa using he)
 simpa [hb] using h2
theorem apart_spec {os : List Oper} {ms : List Nat} (h : qa4 os ms = true) {i j : Nat} {x y : Oper} (hij : i < j) (hx : os[i]? = some x) (hy : os[j]? = some y) : ordered ms i j = true ∨ x.apart os.toArray y = true := by
 have hj : j < os.length := (List.getElem?_eq_some_iff.1 hy).1
 have h1 := List.all_eq_true.1 (List.all_eq_true.1 h j (by simpa using hj)) i (by simpa using hij)
 simpa [hx,hy] using h1
def Closed (os : List Oper) (D : Nat → Bool) : Prop := ∀ j o,os[j]? = some o → D j = true → ∀ e ∈ o.after,Region.binds .any e = true → D e.on = true
theorem qaf {os : List Oper} (hf : q7p os = true) {D : Nat → Bool} (hD : Closed os D) : ∀ (j : Nat) (o : Oper),os[j]? = some o →
  (∀ e ∈ o.after,Region.binds .any e = true → D e.on = true) → ∀ i,ordered (kr [] os) i j = true → D i = true := by
 intro j
 induction j using Nat.strongRecOn with
 | _ j ih =>
  intro o ho hpre i hi
  obtain ⟨ms',h1,h2,h3⟩ := q8t os [] j o ho
  simp only [List.length_nil,Nat.zero_add] at h1 h2 h3
  unfold ordered at hi
  rw [h2] at hi
  obtain ⟨e,e1,e2,e3⟩ := qr2 hi
  have hlt := qal hf ho e1 e2
  have hDe := hpre e e1 e2
  rcases e3 with rfl | e3
  ·exact hDe
  ·rw [h3 _ hlt] at e3
   have hel : e.on < os.length := Nat.lt_trans hlt (List.getElem?_eq_some_iff.1 ho).1
   exact ih e.on hlt os[e.on] (List.getElem?_eq_getElem hel) (fun e' he' hb' => hD e.on _ (List.getElem?_eq_getElem hel) hDe e' he' hb') i e3
def j4 : List Oper → List Rc → Nat → (Nat → Bool) → Env → Env
 | o :: os,c :: cs,i,D,E => j4 os cs (i + 1) D (if D i = true then zz o.dst c.v E else E)
 | _,_,_,_,E => E
def zn : List Rc → Nat → (Nat → Bool) → Heap → Heap
 | c :: cs,i,D,H => zn cs (i + 1) D (if D i = true then qf c.ws H else H)
 | [],_,_,H => H
theorem q4f {t : Nat} {D D' : Nat → Bool} : ∀ (os : List Oper) (cs : List Rc) (i : Nat) (E E' : Env),(∀ k o,os[k]? = some o → o.dst = some t → D (i + k) = D' (i + k)) → E.get t = E'.get t →
  (j4 os cs i D E).get t = (j4 os cs i D' E').get t
 | [],_,_,_,_,_,h => by simpa [j4] using h
 | _ :: _,[],_,_,_,_,h => by simpa [j4] using h
 | o :: os,c :: cs,i,E,E',hD,h => by
  simp only [j4]
  refine q4f os cs (i + 1) _ _ (fun k o' ho' hd' => ?_) ?_
  ·have := hD (k + 1) o' (by simpa using ho') hd'
   rwa [show i + 1 + k = i + (k + 1) from by omega]
  ·by_cases hd : o.dst = some t
   ·have := hD 0 o rfl hd
    simp only [Nat.add_zero] at this
    rw [this]
    split
    ·rw [q1p,q1p,if_pos hd,if_pos hd]
    ·exact h
   ·have e1 : (if D i = true then zz o.dst c.v E else E).get t = E.get t := by
     split
     ·rw [q1p,if_neg hd]
     ·rfl
    have e2 : (if D' i = true then zz o.dst c.v E' else E').get t = E'.get t := by
     split
     ·rw [q1p,if_neg hd]
     ·rfl
    rw [e1,e2,h]
theorem q4w : ∀ (os : List Oper) (cs : List Rc) (i : Nat) (D : Nat → Bool) (E : Env),(∀ k,i ≤ k → D k = false) → j4 os cs i D E = E
 | [],_,_,_,_,_ => rfl
 | _ :: _,[],_,_,_,_ => rfl
 | o :: os,c :: cs,i,D,E,h => by
  simp only [j4,h i (Nat.le_refl _),Bool.false_eq_true,if_false]
  exact q4w os cs (i + 1) D E fun k hk => h k (by omega)
theorem q2d : ∀ (cs : List Rc) (i : Nat) (D : Nat → Bool) (H : Heap),(∀ k,i ≤ k → D k = false) → zn cs i D H = H
 | [],_,_,_,_ => rfl
 | c :: cs,i,D,H,h => by
  simp only [zn,h i (Nat.le_refl _),Bool.false_eq_true,if_false]
  exact q2d cs (i + 1) D H fun k hk => h k (by omega)
theorem qat {t : Nat} {D : Nat → Bool} : ∀ (os : List Oper) (cs : List Rc) (i : Nat) (E : Env) (j : Nat) (o : Oper) (c : Rc),os[j]? = some o → cs[j]? = some c → o.dst = some t → D (i + j) = true →
  (∀ k o',j < k → os[k]? = some o' → o'.dst = some t → D (i + k) = false) → (j4 os cs i D E).get t = c.v
 | [],_,_,_,j,o,c,ho,_,_,_,_ => by simp at ho
 | _ :: _,[],_,_,j,o,c,_,hc,_,_,_ => by simp at hc
 | o' :: os,c' :: cs,i,E,j,o,c,ho,hc,hd,hD,hl => by
  simp only [j4]
  cases j with
  | zero =>
   simp only [List.getElem?_cons_zero,Option.some.injEq] at ho hc
   subst ho hc
   simp only [Nat.add_zero] at hD
   rw [hD]
   simp only [if_true]
   rw [q4f (D' := fun _ => false) os cs (i + 1) _ (zz o'.dst c'.v E) (fun k o2 h2 hd2 => ?_) rfl,q4w _ _ _ _ _ (fun _ _ => rfl),q1p,if_pos hd]
   have := hl (k + 1) o2 (by omega) (by simpa using h2) hd2
   rwa [show i + 1 + k = i + (k + 1) from by omega]
  | succ j =>
   simp only [List.getElem?_cons_succ] at ho hc
   refine qat os cs (i + 1) _ j o c ho hc hd (by rwa [show i + 1 + j = i + (j + 1) from by omega]) fun k o2 hk h2 hd2 => ?_
   have := hl (k + 1) o2 (by omega) (by simpa using h2) hd2
   rwa [show i + 1 + k = i + (k + 1) from by omega]
theorem qio (ws : List (Nat × Blk)) {H H' : Heap} {γ : Nat} (h : H.get γ = H'.get γ) : (qf ws H).get γ = (qf ws H').get γ := by
 by_cases hr : γ ∈ ws.map (·.1)
 ·exact q58 ws H H' γ hr
 ·have hne : ∀ x ∈ ws,x.1 ≠ γ := fun x hx e => hr (by rw [← e]; exact List.mem_map.2 ⟨x,hx,rfl⟩)
  rw [yf ws _ γ hne,yf ws _ γ hne,h]
theorem q31 {γ : Nat} {D D' : Nat → Bool} : ∀ (cs : List Rc) (i : Nat) (H H' : Heap),(∀ k c,cs[k]? = some c → γ ∈ c.keys → D (i + k) = D' (i + k)) → H.get γ = H'.get γ →
  (zn cs i D H).get γ = (zn cs i D' H').get γ
 | [],_,_,_,_,h => by simpa [zn] using h
 | c :: cs,i,H,H',hD,h => by
  simp only [zn]
  refine q31 cs (i + 1) _ _ (fun k c' hc' hk' => ?_) ?_
  ·have := hD (k + 1) c' (by simpa using hc') hk'
   rwa [show i + 1 + k = i + (k + 1) from by omega]
  ·by_cases hd : γ ∈ c.keys
   ·have := hD 0 c rfl hd
    simp only [Nat.add_zero] at this
    rw [this]
    split
    ·exact qio _ h
    ·exact h
   ·have hne : ∀ x ∈ c.ws,x.1 ≠ γ := fun x hx e => hd (by rw [← e]; exact List.mem_map.2 ⟨x,hx,rfl⟩)
    have e1 : (if D i = true then qf c.ws H else H).get γ = H.get γ := by
     split
     ·exact yf _ _ _ hne
     ·rfl
    have e2 : (if D' i = true then qf c.ws H' else H').get γ = H'.get γ := by
     split
     ·exact yf _ _ _ hne
     ·rfl
    rw [e1,e2,h]
theorem qcr {γ : Nat} {D : Nat → Bool} : ∀ (cs : List Rc) (i : Nat) (H : Heap) (j : Nat) (c : Rc),cs[j]? = some c → γ ∈ c.keys → D (i + j) = true →
  (∀ k c',j < k → cs[k]? = some c' → γ ∈ c'.keys → D (i + k) = false) → ∀ H',(zn cs i D H).get γ = (qf c.ws H').get γ
 | [],_,_,j,c,hc,_,_,_,_ => by simp at hc
 | c' :: cs,i,H,j,c,hc,hd,hD,hl,H' => by
  simp only [zn]
  cases j with
  | zero =>
   simp only [List.getElem?_cons_zero,Option.some.injEq] at hc
   subst hc
   simp only [Nat.add_zero] at hD
   rw [hD]
   simp only [if_true]
   rw [q31 (D' := fun _ => false) cs (i + 1) _ (qf c'.ws H) (fun k c2 h2 hd2 => ?_) rfl,q2d _ _ _ _ (fun _ _ => rfl)]
   ·exact q58 _ _ _ _ hd
   ·have := hl (k + 1) c2 (by omega) (by simpa using h2) hd2
    rwa [show i + 1 + k = i + (k + 1) from by omega]
  | succ j =>
   simp only [List.getElem?_cons_succ] at hc
   refine qcr cs (i + 1) _ j c hc hd (by rwa [show i + 1 + j = i + (j + 1) from by omega]) (fun k c2 hk h2 hd2 => ?_) H'
   have := hl (k + 1) c2 (by omega) (by simpa using h2) hd2
   rwa [show i + 1 + k = i + (k + 1) from by omega]
end Go.Gm
namespace Go.Gm
open Go
def zt (H : Heap) (nx : Nat) (e : Eff) : Prop :=
 (∀ β b,H.get β = some b → β < nx) → nx ≤ e.2.2 ∧ (∀ x ∈ e.2.1,x.1 < e.2.2) ∧ ∀ γ,nx ≤ γ → γ < e.2.2 → γ ∈ e.2.1.map (·.1)
section
variable {H : Heap} {nx : Nat}
theorem keys_nil (v : AV) : zt H nx (v,[],nx) := fun _ => ⟨Nat.le_refl _,by simp,fun γ h1 h2 => by simp at h2; omega⟩
theorem q0g (v : AV) (b : Blk) : zt H nx (v,[(nx,b)],nx + 1) := fun _ => ⟨Nat.le_succ _,by simp,fun γ h1 h2 => by simp at h2 ⊢; omega⟩
theorem q0h (v : AV) {β : Nat} {b b' : Blk} (h : H.get β = some b) : zt H nx (v,[(β,b')],nx) := fun hn => ⟨Nat.le_refl _,by simpa using hn β b h,fun γ h1 h2 => by simp at h2; omega⟩
theorem q1d {v : Option AV} {e : Eff} (h : xz v nx = some e) : zt H nx e := by
 unfold xz at h
 split at h <;> cases h
 exact keys_nil _
theorem q93 {v : Option PV} {e : Eff} (h : q14 v nx = some e) : zt H nx e := by
 unfold q14 at h
 split at h <;> cases h
 exact keys_nil _
def mo (H : Heap) (ws : List (Nat × Blk)) : Prop := ws = [] ∨ ∃ β b b',H.get β = some b ∧ ws = [(β,b')]
theorem q7t {ws : List (Nat × Blk)} (v : AV) (h : mo H ws) : zt H nx (v,ws,nx) := by
 rcases h with rfl | ⟨β,b,b',hb,rfl⟩
 ·exact keys_nil _
 ·exact q0h _ hb
theorem q3j {ws : Option (List (Nat × Blk))} {e : Eff} (h : wo ws nx = some e) (hw : ∀ l,ws = some l → mo H l) : zt H nx e := by
 unfold wo at h
 split at h <;> cases h
 exact q7t _ (hw _ rfl)
theorem qbz {sz β ver i o size : Nat} {vs : List AV} {es : List (List AV)} {l : List (Nat × Blk)} {b : Blk} (hb : H.get β = some b) (h : q1s sz β ver i o size vs es = some l) : mo H l := by
 unfold q1s at h
 split at h
 ·split at h
  ·split at h <;> cases h
   exact .inr ⟨_,_,_,hb,rfl⟩
  ·cases h
 ·cases h
theorem qt3 {β ver i o size : Nat} {v : AV} {ds : List Nat} {es : List PV} {foc : Option (Nat × Nat × Nat)} {l : List (Nat × Blk)} {b : Blk} (hb : H.get β = some b) (h : q44 β ver i o size v ds es foc = some l) : mo H l := by
 unfold q44 at h
 split at h
 ·split at h <;> cases h
  exact .inr ⟨_,_,_,hb,rfl⟩
 ·cases h
theorem qha {ti : TI} {a v : AV} {l : List (Nat × Blk)} (h : q02 ti a v H = some l) : mo H l := by
 unfold q02 at h
 split at h
 rotate_left
 ·cases h
 split at h
 ·split at h
  ·rename_i hb
   split at h <;> cases h
   exact .inr ⟨_,_,_,hb,rfl⟩
  ·rename_i hb
   split at h <;> cases h
   exact .inr ⟨_,_,_,hb,rfl⟩
  ·cases h
 ·split at h
  ·split at h
   ·rename_i hb
    split at h
    ·split at h
     ·split at h <;> cases h
      exact .inr ⟨_,_,_,hb,rfl⟩
     ·cases h
    ·cases h
   ·rename_i hb
    exact qbz hb h
   ·cases h
  ·split at h
   ·rename_i hb
    exact qbz hb h
   ·rename_i hb
    exact qt3 hb h
   ·cases h
 ·cases h
theorem zq5 {tk : TI} {m k v : AV} {l : List (Nat × Blk)} (h : q1m tk m k v H = some l) : mo H l := by
 unfold q1m at h
 split at h
 ·split at h
  ·split at h
   ·rename_i hb
    split at h <;> cases h <;> exact .inr ⟨_,_,_,hb,rfl⟩
   ·cases h
  ·cases h
 ·cases h
theorem qu6 {G : GP} {t : TypeId} {m k x : AV} {e : Eff} (h : q4b G t m k x H nx = some e) : zt H nx e := by
 unfold q4b at h
 split at h
 ·split at h
  ·exact q3j h fun l hl => zq5 hl
  ·cases h
 ·cases h
theorem z0l {G : GP} {t : TypeId} {x : AV} {e : Eff} (h : q03 G t x H nx = some e) : zt H nx e := by
 unfold q03 at h
 split at h
 ·split at h
  ·split at h <;> cases h
   exact keys_nil _
  ·cases h
 ·cases h
theorem qap {tk : TI} {m k : AV} {v : PV} {l : List (Nat × Blk)} (h : gu tk m k v H = some l) : mo H l := by
 unfold gu at h
 split at h
 ·split at h
  ·split at h
   ·rename_i hb
    split at h <;> cases h <;> exact .inr ⟨_,_,_,hb,rfl⟩
   ·cases h
  ·cases h
 ·cases h
theorem qez {tk te : TI} {m k : AV} {v : AV} {l : List (Nat × Blk)} (h : mg tk te m k H = some (v,l)) : mo H l := by
 unfold mg at h
 split at h
 ·split at h
  ·split at h
   ·rename_i hb
    split at h <;> cases h <;> exact .inr ⟨_,_,_,hb,rfl⟩
   ·cases h
  ·cases h
 ·cases h
theorem zje {m st : AV} {v : PV} {l : List (Nat × Blk)} (h : ug m st v H = some l) : mo H l := by
 unfold ug at h
 split at h
 ·split at h
  ·rename_i hb
   split at h <;> cases h
   exact .inr ⟨_,_,_,hb,rfl⟩
  ·cases h
 ·cases h
theorem qyh {tk : TI} {m k : AV} {l : List (Nat × Blk)} (h : ng tk m k H = some l) : mo H l := by
 unfold ng at h
 split at h
 ·split at h <;> cases h
  exact .inl rfl
 ·split at h
  ·split at h
   ·rename_i hb
    split at h <;> cases h <;> exact .inr ⟨_,_,_,hb,rfl⟩
   ·cases h
  ·cases h
 ·cases h
theorem q9l {te : TI} {s : AV} {src : List (List PV)} {e : Eff} (h : jr te s src nx nx (nx + 1) = some e) : zt H nx e := by
 unfold jr at h
 split at h
 ·cases h; exact keys_nil _
 ·split at h <;> cases h
  exact q0g _ _
theorem qu9 {te : TI} {s : AV} {src : List (List PV)} {β : Nat} {b : Blk} {e : Eff} (hb : H.get β = some b) (h : jr te s src β nx nx = some e) : zt H nx e := by
 unfold jr at h
 split at h
 ·cases h; exact keys_nil _
 ·split at h <;> cases h
  exact q0h _ hb
theorem qdv {te : TI} {src : List (List AV)} {e : Eff} (h : q0m te src nx (nx + 1) = some e) : zt H nx e := by
 unfold q0m at h
 split at h
 ·cases h
 ·split at h <;> cases h
  exact q0g _ _
theorem qv4 {te : TI} {src : List (List AV)} {β : Nat} {b : Blk} {e : Eff} (hb : H.get β = some b) (h : q0m te src β nx = some e) : zt H nx e := by
 unfold q0m at h
 split at h
 ·cases h
 ·split at h <;> cases h
  exact q0h _ hb
theorem ziz {te : TI} {s x : AV} {e : Eff} (h : gq te s x H nx = some e) : zt H nx e := by
 unfold gq at h
 split at h
 ·cases h
 split at h
 rotate_left
 ·cases h
 split at h
 ·exact qdv h
 ·split at h
  ·rename_i hb
   split at h
   ·exact qv4 hb h
   ·cases h
  ·rename_i hb
   split at h <;> cases h
   exact q0h _ hb
  ·cases h
 ·cases h
theorem qwe {te : TI} {s x : AV} {e : Eff} (h : jk te s x H nx = some e) : zt H nx e := by
 unfold jk at h
 split at h
 ·exact ziz h
 split at h
 rotate_left
 ·cases h
 split at h
 ·exact q9l h
 ·exact q9l h
 ·split at h
  ·rename_i hb
   split at h
   ·exact qu9 hb h
   ·cases h
  ·rename_i hb
   split at h
   ·split at h <;> cases h <;> exact q0h _ hb
   ·cases h
  ·cases h
 ·cases h
theorem qx3 {te : TI} {s x : AV} {e : Eff} (h : tu te s x H nx = some e) : zt H nx e := by
 unfold tu at h
 split at h
 ·cases h
 split at h
 ·split at h
  ·rename_i hb
   split at h <;> cases h
   exact q0h _ hb
  ·cases h
 ·cases h
theorem zd8 {src dst : TD} {dte : TypeId → Option TI} {x : AV} {e : Eff} (h : q0e src dst dte x H nx = some e) : zt H nx e := by
 unfold q0e at h
 split at h
 ·cases h; exact keys_nil _
 ·cases h; exact keys_nil _
 ·split at h
  ·split at h
   ·split at h
    ·split at h
     ·split at h <;> cases h
      exact keys_nil _
     ·cases h
    ·cases h
   ·cases h
  ·cases h
 ·split at h
  ·split at h
   ·cases h; exact q0g _ _
   ·cases h
  ·cases h
 ·cases h
theorem z9n {e0 : TypeId} {te : TI} {s x : AV} {e : Eff} (h : wu e0 te s x H nx = some e) : zt H nx e := by
 unfold wu at h
 split at h
 rotate_left
 ·cases h
 split at h
 rotate_left
 ·cases h
 rename_i hb
 split at h
 rotate_left
 ·cases h
 split at h
 rotate_left
 ·cases h
 split at h <;> cases h
 ·exact keys_nil _
 ·exact q0h _ hb
theorem z06 {te : TI} {s x : AV} {e : Eff} (h : u7 te s x H nx = some e) : zt H nx e := by
 unfold u7 at h
 split at h
 rotate_left
 ·cases h
 split at h
 rotate_left
 ·cases h
 split at h
 rotate_left
 ·cases h
 rename_i hb
 split at h <;> cases h
 exact q0h _ hb
theorem qc8 {e0 : TypeId} {te : TI} {s x : AV} {e : Eff} (h : orT (jk te s x H nx) (orT (wu e0 te s x H nx) (u7 te s x H nx)) = some e) : zt H nx e := by
 cases ha : jk te s x H nx with
 | some r =>
  rw [ha] at h
  cases h
  exact qwe ha
 | none =>
  rw [ha] at h
  cases hb : wu e0 te s x H nx with
  | some r =>
   rw [hb] at h
   cases h
   exact z9n hb
  | none =>
   rw [hb] at h
   exact z06 h
theorem qkw {x : AV} {e : Eff} (h : q1b x H nx = some e) : zt H nx e := by
 unfold q1b at h
 split at h
 rotate_left
 ·cases h
 split at h
 rotate_left
 ·cases h
 split at h
 rotate_left
 ·cases h
 split at h
 ·cases h; exact keys_nil _
 ·split at h <;> cases h
  exact keys_nil _
theorem qoq {el : TypeId} {p x : AV} {e : Eff} (h : q0n el p x H nx = some e) : zt H nx e := by
 unfold q0n at h
 split at h
 ·cases h; exact keys_nil _
 ·split at h
  rotate_left
  ·cases h
  rename_i hb
  split at h
  rotate_left
  ·cases h
  split at h <;> cases h
  exact q0h _ hb
 ·cases h
theorem znu {G : GP} {t : TypeId} {ti : TI} {e : Eff} (h : q41 G t ti nx = some e) : zt H nx e := by
 unfold q41 at h
 split at h
 rotate_left
 ·cases h
 split at h
 rotate_left
 ·cases h
 split at h <;> cases h
 exact fun _ => ⟨Nat.le_add_right _ _,by simp,fun γ h1 h2 => by simp at h2 ⊢; omega⟩
theorem qok {G : GP} {b : Builtin} {tys : List TypeId} {args : List AV} {e : Eff} (h : p9 G b tys args H nx = some e) : zt H nx e := by
 unfold p9 at h
 split at h
 ·split at h
  ·split at h
   ·split at h <;> cases h
    exact keys_nil _
   ·cases h
  ·cases h
 ·exact qkw h
 ·split at h
  rotate_left
  ·cases h
  split at h
  rotate_left
  ·cases h
  split at h
  rotate_left
  ·cases h
  split at h
  rotate_left
  ·cases h
  exact qoq h
 ·split at h <;> cases h
  exact keys_nil _
 ·split at h <;> cases h
  exact keys_nil _
 ·split at h
  ·split at h
   ·split at h
    ·exact qc8 h
    ·cases h
   ·split at h
    ·exact qc8 h
    ·cases h
   ·cases h
  ·cases h
 ·split at h
  ·split at h
   ·split at h
    ·exact qx3 h
    ·cases h
   ·cases h
  ·cases h
 ·split at h
  ·split at h
   ·split at h
    ·split at h <;> cases h
     rename_i hd
     exact q7t _ (qyh hd)
    ·cases h
   ·cases h
  ·cases h
 ·cases h
theorem qb9 (g : Nat → Nat) : ∀ (H : Heap) (i j : Nat),xk i H = true → i ≤ j → j < i + H.length → g j ∈ (xu g H).map (·.1)
 | [],i,j,_,h1,h2 => by simp at h2; omega
 | (k,b) :: r,i,j,hk,h1,h2 => by
  simp only [xk,Bool.and_eq_true,decide_eq_true_eq] at hk
  obtain ⟨rfl,hk⟩ := hk
  simp only [xu,List.map_cons,List.mem_cons]
  by_cases h : j = k
  ·exact .inl (by rw [h])
  ·exact .inr (qb9 g r (k + 1) j hk (by omega) (by simp only [List.length_cons] at h2; omega))
theorem q8j {O : qw} {f : FuncId} {args : List AV} {e : Eff} (h : ve O f args H nx = some e) : zt H nx e := by
 unfold ve at h
 split at h
 ·cases h
 rename_i L H0 hsub
 split at h
 ·cases h
 rename_i v H' hcall
 split at h <;> cases h
 rename_i hk
 intro hn
 obtain ⟨hs,_,_⟩ := q5n List.nodup_nil hsub
 refine ⟨Nat.le_add_right _ _,fun x hx => ?_,fun γ h1 h2 => ?_⟩
 ·obtain ⟨j,_,q2,q3⟩ := q5x _ H' 0 hk x hx
  rw [q3]
  by_cases hj : j < L.length
  ·have a1 : L[j]? = some L[j] := by simp [hj]
   obtain ⟨b1,hb1,_⟩ := hs.has _ (List.mem_of_getElem? a1)
   have := hn _ b1 hb1
   have e1 : backTo L nx j = L[j] := by simp [backTo,a1]
   simp only [e1]
   omega
  ·have e1 : backTo L nx j = nx + (j - L.length) := by simp [backTo,List.getElem?_eq_none (by omega : L.length ≤ j)]
   simp only [e1]
   omega
 ·simp only at h2
  have := qb9 (backTo L nx) H' 0 (L.length + (γ - nx)) hk (Nat.zero_le _) (by omega)
  have e1 : backTo L nx (L.length + (γ - nx)) = γ := by
   simp [backTo,List.getElem?_eq_none (by omega : L.length ≤ L.length + (γ - nx))]
   omega
  rwa [e1] at this
theorem z0f {G : GP} {O : qw} {o : Op} {E : Env} {e : Eff} (h : aop G O o E H nx = some e) : zt H nx e := by
 cases o with
 | move x => cases h; exact keys_nil _
 | assign x => cases h; exact keys_nil _
 | pick c a b =>
  simp only [aop] at h
  split at h <;> cases h
  exact keys_nil _
 | alloc t =>
  simp only [aop] at h
  split at h
  rotate_left
  ·cases h
  split at h
  ·exact znu h
  ·cases h
   exact q0g _ _
 | box t x =>
  simp only [aop] at h
  split at h
  ·unfold q5a at h
   split at h
   ·split at h <;> cases h
    exact keys_nil _
   ·cases h
    exact q0g _ _
  ·cases h
 | build t ps =>
  simp only [aop] at h
  split at h
  ·exact q1d h
  ·cases h
 | buildSlice t n ps =>
  simp only [aop] at h
  split at h
  ·split at h
   ·split at h
    ·split at h
     ·split at h
      ·split at h <;> cases h
       exact q0g _ _
      ·split at h <;> cases h
       exact q0g _ _
     ·cases h
    ·cases h
   ·cases h
  ·cases h
 | load t a =>
  simp only [aop] at h
  split at h
  ·exact q1d h
  ·cases h
 | store t a x =>
  simp only [aop] at h
  split at h
  ·exact q3j h fun l hl => qha hl
  ·cases h
 | nilCheck x =>
  simp only [aop] at h
  split at h <;> cases h <;> exact keys_nil _
 | binOp op t x y z =>
  simp only [aop] at h
  split at h
  ·exact q93 h
  ·cases h
 | unOp op t x => exact q93 h
 | convert s d x =>
  simp only [aop] at h
  split at h
  ·exact z0l h
  split at h
  ·exact zd8 h
  ·cases h
 | makeFunc fn a b =>
  cases fn with
  | func f => cases h; exact keys_nil _
  | _ => cases h
 | makeMap t r =>
  cases r with
  | none =>
   simp only [aop] at h
   split at h <;> cases h <;> exact q0g _ _
  | some _ => cases h
 | makeSlice t l c =>
  simp only [aop] at h
  split at h
  ·unfold q2u at h
   split at h
   ·split at h
    ·split at h <;> cases h
     exact q0g _ _
    ·cases h
   ·cases h
  ·cases h
 | slice t x lo hi mx =>
  simp only [aop] at h
  split at h
  ·exact q1d h
  ·cases h
 | fieldAddr t x f =>
  simp only [aop] at h
  split at h
  ·exact q1d h
  ·cases h
 | field t x f =>
  simp only [aop] at h
  split at h
  ·split at h
   ·split at h
    ·split at h
     ·exact q1d h
     ·cases h
    ·cases h
   ·cases h
  ·cases h
 | indexAddr t x i =>
  simp only [aop] at h
  split at h
  ·exact q1d h
  ·cases h
 | index t x i =>
  simp only [aop] at h
  split at h
  ·split at h
   ·split at h <;> cases h
    exact keys_nil _
   ·split at h
    ·split at h
     ·exact q1d h
     ·cases h
    ·cases h
   ·cases h
  ·cases h
 | lookup t m k ok =>
  simp only [aop] at h
  split at h
  ·exact q1d h
  ·cases h
 | mapUpdate t m k x =>
  simp only [aop] at h
  split at h
  ·exact qu6 h
  split at h
  ·split at h
   ·exact q3j h fun l hl => qap hl
   ·cases h
  ·cases h
 | insert t m k x =>
  simp only [aop] at h
  split at h
  ·split at h
   ·exact q3j h fun l hl => qap hl
   ·cases h
  ·cases h
 | mapEntry t m k =>
  simp only [aop] at h
  split at h
  ·split at h <;> cases h
   rename_i he
   exact q7t _ (qez he)
  ·cases h
 | entryStore t m st x =>
  simp only [aop] at h
  split at h
  ·exact q3j h fun l hl => zje hl
  ·cases h
 | extract t i =>
  simp only [aop] at h
  split at h
  ·split at h <;> cases h
   exact keys_nil _
  ·cases h
 | call c =>
  obtain ⟨callee,args,tys⟩ := c
  cases callee with
  | builtin b => exact qok h
  | value f =>
   simp only [aop] at h
   split at h
   ·exact q8j h
   ·exact q8j h
   ·cases h
  | _ => cases h
 | _ => cases h
end
end Go.Gm
set_option linter.unusedSectionVars false
namespace Go.Gm
open Go
def Ex.q3m : Ex → Exit
 | .normal => .normal
 | .ret => .ret
 | .exit id => .exit id
structure jl (k : Nat) (w : World) (H : Heap) (ι : Plc) (Im : Nat → Prop) (w' : World) (H' : Heap) (ι' : Plc) (Im' : Nat → Prop) : Prop where
 comp : ∀ β b,β < k → H.get β = some b → ∃ b',H'.get β = some b' ∧ qo b b' (ι β) (ι' β)
 im : ∀ b,Im b → Im' b
 imnew : ∀ b,Im' b → Im b ∨ w.heap.size ≤ b ∨ ∃ β x,H.get β = some x ∧ x.foot (ι β) b
 plnew : ∀ β x z,H'.get β = some x → x.foot (ι' β) z → w.heap.size ≤ z ∨ ∃ β0 x0,H.get β0 = some x0 ∧ x0.foot (ι β0) z
 same : ∀ b,b < w.heap.size → (∀ β x,H.get β = some x → ¬ x.foot (ι β) b) → w'.heap[b]? = w.heap[b]?
 size : w.heap.size ≤ w'.heap.size
 io : w'.os = w.os ∧ w'.output = w.output
theorem Evo.toK {w w' : World} {H H' : Heap} {ι ι' : Plc} {Im Im' : Nat → Prop} (h : Evo w H ι Im w' H' ι' Im') (k : Nat) : jl k w H ι Im w' H' ι' Im' :=
 ⟨fun β b _ hb => h.comp β b hb,h.im,h.imnew,h.plnew,h.same,h.size,h.io⟩
theorem jl.full {k : Nat} {w w' : World} {H H' : Heap} {ι ι' : Plc} {Im Im' : Nat → Prop} (h : jl k w H ι Im w' H' ι' Im') (hk : ∀ β b,H.get β = some b → β < k) : Evo w H ι Im w' H' ι' Im' :=
 ⟨fun β b hb => h.comp β b (hk β b hb) hb,h.im,h.imnew,h.plnew,h.same,h.size,h.io⟩
theorem jl.trans {k : Nat} {w w1 w2 : World} {H H1 H2 : Heap} {ι ι1 ι2 : Plc} {Im Im1 Im2 : Nat → Prop}
  (h1 : jl k w H ι Im w1 H1 ι1 Im1) (h2 : jl k w1 H1 ι1 Im1 w2 H2 ι2 Im2) : jl k w H ι Im w2 H2 ι2 Im2 where
 comp := fun β b hk h => by
  obtain ⟨b1,g1,c1⟩ := h1.comp β b hk h
  obtain ⟨b2,g2,c2⟩ := h2.comp β b1 hk g1
  exact ⟨b2,g2,q9w c1 c2⟩
 im := fun b h => h2.im b (h1.im b h)
 imnew := fun b h => by
  rcases h2.imnew b h with h | h | ⟨β,x,hx,hu⟩
  ·exact h1.imnew b h
  ·exact .inr (.inl (Nat.le_trans h1.size h))
  ·rcases h1.plnew β x b hx hu with h | ⟨β0,x0,g,hu0⟩
   ·exact .inr (.inl h)
   ·exact .inr (.inr ⟨β0,x0,g,hu0⟩)
 plnew := fun β x z h hu => by
  rcases h2.plnew β x z h hu with h | ⟨β0,x0,g,hu0⟩
  ·exact .inl (Nat.le_trans h1.size h)
  ·exact h1.plnew β0 x0 z g hu0
 same := fun b hb hn => by
  have e1 := h1.same b hb hn
  have e2 := h2.same b (Nat.lt_of_lt_of_le hb h1.size) (fun β x hx hu => by
   rcases h1.plnew β x b hx hu with h | ⟨β0,x0,g,hu0⟩
   ·omega
   ·exact hn β0 x0 g hu0)
  exact e2.trans e1
 size := Nat.le_trans h1.size h2.size
 io := ⟨h2.io.1.trans h1.io.1,h2.io.2.trans h1.io.2⟩
def q1r [Globs] (k : Nat) (w : World) (H : Heap) (ι : Plc) (Im : Nat → Prop) (nt : Nat) (s : St) (a : Act) (w' : World) : Prop :=
 ∃ ι' Im',Inv w' a s ι' Im' nt ∧ jl k w H ι Im w' s.heap ι' Im'
theorem q1r.from [Globs] {k : Nat} {w : World} {H : Heap} {ι : Plc} {Im : Nat → Prop} {w1 : World} {H1 : Heap} {ι1 : Plc} {Im1 : Nat → Prop} {nt : Nat} {s : St} {a : Act} {w' : World} (h : q1r k w1 H1 ι1 Im1 nt s a w') (he : jl k w H ι Im w1 H1 ι1 Im1) :
  q1r k w H ι Im nt s a w' :=
 let ⟨ι',Im',h1,h2⟩ := h
 ⟨ι',Im',h1,he.trans h2⟩
def qag [Globs] (P : Program) (G : GP) (f : FuncId) (id : Nat) (s : St) (ex : Ex) (s' : St) : Prop :=
 ∀ fi c,G.fn f = some fi → zg fi.body id = some c → (∀ i,ex = .exit i → i ≠ id) ∧ ∃ n,∀ (w : World) (ι : Plc) (Im : Nat → Prop) (a : Act),Inv w a s ι Im fi.nt →
  Code.rounds P c (fun e a' w' => e = (match ex with | .exit i => Exit.exit i | .ret => .ret | .normal => .exit id) ∧ q1r (s.nx - (G.spec f id).off) w s.heap ι Im fi.nt s' a' w') n a w
structure Sound [Globs] (P : Program) (G : GP) (O : qw) : Prop extends SoundCall P O where
 loop : ∀ f id s ex s',O.loop f id s = some (ex,s') → qag P G f id s ex s'
def qcp (nt : Nat) (ops : List Oper) : Bool := ops.all fun o => match o.dst with | some d => decide (d < nt) | none => true
theorem qcb {nt : Nat} {ops : List Oper} (h : qcp nt ops = true) : q39 nt ops := by
 intro o ho t ht
 have := List.all_eq_true.1 h o ho
 rw [ht] at this
 simpa using this
section
variable [Globs] {P : Program} {w : World} {H : Heap} {ι : Plc} {Im : Nat → Prop}
theorem q9k : ∀ (E : Env) (l : List Nat) (t : Nat),(restrict E l).get t = if t ∈ l then E.get t else .undef
 | E,[],t => by simp [restrict,Env.get]
 | E,x :: r,t => by
  simp only [restrict,Env.get,q9k E r t,List.mem_cons]
  by_cases h : x = t
  ·subst h; simp
  ·simp [h,Ne.symm h]
theorem q7v {a : Act} {E : Env} (hE : ∀ t,RA w H ι Im (E.get t) (a.tmps.getD t undef)) (l : List Nat) : ∀ t,RA w H ι Im ((restrict E l).get t) (a.tmps.getD t undef) := by
 intro t
 rw [q9k]
 split
 ·exact hE t
 ·exact .undef _
theorem q5b {a : Act} {s : St} {nt : Nat} (h : Inv w a s ι Im nt) (l : List Nat) : Inv w a { s with env := restrict s.env l } ι Im nt :=
 ⟨h.heap,q7v h.env l,h.nx,h.size,h.defers⟩
theorem ko (n : Nat) : ∀ (H : Heap) (γ : Nat),(Heap.upto n H).get γ = if γ < n then H.get γ else none
 | [],γ => by simp [Heap.upto,Heap.get]
 | (i,b) :: r,γ => by
  simp only [Heap.upto]
  split
  ·rename_i h
   simp only [Heap.get,ko n r γ]
   by_cases e : i = γ
   ·subst e; simp [h]
   ·simp [e]
  ·rename_i h
   rw [ko n r γ]
   simp only [Heap.get]
   by_cases e : i = γ
   ·subst e; simp [h]
   ·simp [e]
theorem q6d (n : Nat) : ∀ (l : List Nat),q0q n l = true ↔ ∀ x ∈ l,x < n
 | [] => by simp [q0q]
 | x :: r => by simp [q0q,q6d n r]
theorem q23 {H' : Heap} {x : AV} {v : Value} (hx : RA w H ι Im x v) (hg : ∀ β ∈ x.refs,∀ b,H.get β = some b → H'.get β = some b) : RA w H' ι Im x v := by
 induction hx with
 | undef v => exact .undef v
 | pv p v h => exact .pv p v h
 | ptr β o c hb hk => exact .ptr β o c (hg β (by simp [AV.refs]) _ hb) hk
 | eptr β ver i o b1 o1 b hb hver h => exact .eptr β ver i o b1 o1 b (hg β (by simp [AV.refs]) _ hb) hver h
 | row β ver off n v b ho hb hk hver h => exact .row β ver off n v b ho (hg β (by simp [AV.refs]) _ hb) hk hver h
 | rptr c o b off vs him hc hf h => exact .rptr c o b off vs him hc hf h
 | zsl a => exact .zsl a
 | map β es clock hb => exact .map β es clock (hg β (by simp [AV.refs]) _ hb)
 | qj β es clock hb => exact .qj β es clock (hg β (by simp [AV.refs]) _ hb)
 | clo f a b va vb hla hlb _ _ iha ihb =>
  exact .clo f a b va vb hla hlb (fun i x v h1 h2 => iha i x v h1 h2 fun β hβ => hg β (by simp only [AV.refs,List.mem_append]; exact .inl (jv h1 hβ)))
   (fun i x v h1 h2 => ihb i x v h1 h2 fun β hβ => hg β (by simp only [AV.refs,List.mem_append]; exact .inr (jv h1 hβ)))
 | agg c vs hl hf _ ih => exact .agg c vs hl hf fun i x v h1 h2 => ih i x v h1 h2 fun β hβ => hg β (by simp only [AV.refs]; exact jv h1 hβ)
 | tup c vs hl _ ih => exact .tup c vs hl fun i x v h1 h2 => ih i x v h1 h2 fun β hβ => hg β (by simp only [AV.refs]; exact jv h1 hβ)
theorem qah : ∀ {E : Env} {n : Nat},Env.below n E = true → ∀ t,∀ β ∈ (E.get t).refs,β < n
 | [],n,_,t,β,h => by simp [Env.get,AV.refs] at h
 | (i,v) :: r,n,hb,t,β,h => by
  simp only [Env.below,Bool.and_eq_true] at hb
  simp only [Env.get] at h
  split at h
  ·exact (q6d n _).1 hb.1 β h
  ·exact qah hb.2 t β h
theorem qco : ∀ {H : Heap} {n : Nat},Heap.below n H = true → ∀ {γ : Nat} {b : Blk},H.get γ = some b → ∀ β ∈ b.refs,β < n
 | [],n,_,γ,b,h => by simp [Heap.get] at h
 | (i,c) :: r,n,hb,γ,b,h => by
  simp only [Heap.below,Bool.and_eq_true] at hb
  simp only [Heap.get] at h
  split at h
  ·cases h
   exact fun β hβ => (q6d n _).1 hb.1 β hβ
  ·exact qco hb.2 h
theorem z3w (hi : qa w H ι Im) (n : Nat) (hb : Heap.below n (Heap.upto n H) = true) : qa w (Heap.upto n H) ι Im where
 glb := hi.glb
 gim := hi.gim
 blk := fun γ b h => by
  rw [ko] at h
  split at h
  rotate_left
  ·cases h
  rename_i hlt
  have h0 := hi.blk γ b h
  have hrefs : ∀ β ∈ b.refs,β < n := qco hb (γ := γ) (by rw [ko,if_pos hlt]; exact h)
  cases b with
  | box c =>
   obtain ⟨vs,elem,fz,q1,q2,q3,q4,q5⟩ := h0
   refine ⟨vs,elem,fz,q1,q2,q3,q4,fun i x v a b => q23 (q5 i x v a b) fun β hβ b' hb' => ?_⟩
   rw [ko,if_pos (hrefs β (by simp only [Blk.refs]; exact jv a hβ))]
   exact hb'
  | row isnil sz es => cases isnil <;> exact h0
  | map es clock => exact h0
  | za e isnil sz es => cases isnil <;> exact h0
  | ql sz es =>
   obtain ⟨vs,elem,fz,q1,q2,q3,q4,q5,q6,q7,q8⟩ := h0
   refine ⟨vs,elem,fz,q1,q2,q3,q4,q5,q6,q7,fun i e j x a b => ?_⟩
   obtain ⟨v,k1,k2⟩ := q8 i e j x a b
   refine ⟨v,k1,q23 k2 fun β hβ b' hb' => ?_⟩
   rw [ko,if_pos (hrefs β (by
    simp only [Blk.refs,List.mem_flatMap]
    exact ⟨e,List.mem_of_getElem? a,jv b hβ⟩))]
   exact hb'
  | z8 t c =>
   obtain ⟨vs,fz,q1,q2,q3,q4,q5⟩ := h0
   refine ⟨vs,fz,q1,q2,q3,q4,fun i x v a b => q23 (q5 i x v a b) fun β hβ b' hb' => ?_⟩
   rw [ko,if_pos (hrefs β (by simp only [Blk.refs]; exact jv a hβ))]
   exact hb'
  | qj es clock =>
   obtain ⟨ents,q1,q2,q3⟩ := h0
   refine ⟨ents,q1,q2,fun i k x born e a b => ?_⟩
   obtain ⟨k1,k2,k3⟩ := q3 i k x born e a b
   refine ⟨k1,q23 k2 fun β hβ b' hb' => ?_,k3⟩
   rw [ko,if_pos (hrefs β (by
    simp only [Blk.refs,List.mem_flatMap]
    exact ⟨_,List.mem_of_getElem? a,hβ⟩))]
   exact hb'
  | qh isnil ds es foc =>
   cases isnil with
   | true => exact h0
   | false =>
    obtain ⟨vs,elem,fz,q1,q2,q3,q4,q5,q6,q7,q8,q9⟩ := h0
    refine ⟨vs,elem,fz,q1,q2,q3,q4,q5,q6,q7,q8,fun i p k a b => ?_⟩
    obtain ⟨v,k1,k2,k3⟩ := q9 i p k a b
    refine ⟨v,k1,k2,fun γ' ver hf => ⟨(k3 γ' ver hf).1,q23 (k3 γ' ver hf).2 fun δ hδ c hc => ?_⟩⟩
    simp only [AV.refs,List.mem_singleton] at hδ
    subst hδ
    rw [ko,if_pos (hrefs _ (by simp [Blk.refs,hf]))]
    exact hc
  | dead => trivial
 inj := fun γ γ' b b' z h h' u u' => by
  rw [ko] at h h'
  split at h
  rotate_left
  ·cases h
  split at h'
  rotate_left
  ·cases h'
  exact hi.inj γ γ' b b' z h h' u u'
 im := hi.im
 nim := fun γ b z h hu => by
  rw [ko] at h
  split at h
  ·exact hi.nim γ b z h hu
  ·cases h
theorem q9e {a : Act} {nt : Nat} {s0 s s' : St} {w0 : World} {ι0 : Plc} {Im0 : Nat → Prop} (h : Inv w a s ι Im nt)
  (hn0 : ∀ β b,s0.heap.get β = some b → β < s0.nx) (he : Evo w0 s0.heap ι0 Im0 w s.heap ι Im) (l : List Nat) (hr : narrow l s0.nx s = some s') :
  Inv w a s' ι Im nt ∧ Evo w0 s0.heap ι0 Im0 w s'.heap ι Im := by
 unfold narrow at hr
 simp only at hr
 split at hr <;> cases hr
 rename_i hc
 simp only [Bool.and_eq_true] at hc
 refine ⟨⟨z3w h.heap _ hc.2,fun t => ?_,fun β b hb => ?_,h.size,h.defers⟩,⟨fun β b hb => ?_,he.im,he.imnew,fun γ x z hx hu => ?_,he.same,he.size,he.io⟩⟩
 ·refine q23 (q7v h.env l t) fun β hβ b hb => ?_
  rw [ko,if_pos (qah hc.1 t β hβ)]
  exact hb
 ·simp only [ko] at hb
  split at hb
  ·assumption
  ·cases hb
 ·obtain ⟨b',q1,q2⟩ := he.comp β b hb
  exact ⟨b',by simp only [ko]; rw [if_pos (hn0 β b hb)]; exact q1,q2⟩
 ·simp only [ko] at hx
  split at hx
  ·exact he.plnew γ x z hx hu
  ·cases hx
theorem qw8 {a : Act} {nt : Nat} {s0 s : St} {w0 : World} {ι0 : Plc} {Im0 : Nat → Prop} (h : Inv w a s ι Im nt)
  (hn0 : ∀ β b,s0.heap.get β = some b → β < s0.nx) (he : Evo w0 s0.heap ι0 Im0 w s.heap ι Im) (l : List Nat) :
  Inv w a (q2l l s0.nx s) ι Im nt ∧ Evo w0 s0.heap ι0 Im0 w (q2l l s0.nx s).heap ι Im := by
 unfold q2l
 split
 ·rename_i s' hs'
  exact q9e h hn0 he l hs'
 ·exact ⟨q5b h l,he⟩
theorem qbb (g : Nat → Nat) : ∀ (E : Env) (t : Nat),(q2g g E).get t = (E.get t).ren g
 | [],t => by simp [q2g,Env.get,AV.ren]
 | (i,v) :: r,t => by
  simp only [q2g,Env.get]
  split
  ·rfl
  ·exact qbb g r t
theorem qac : ∀ {E : Env} {t β : Nat},β ∈ (E.get t).refs → β ∈ q3a E
 | [],t,β,h => by simp [Env.get,AV.refs] at h
 | (i,v) :: r,t,β,h => by
  simp only [Env.get] at h
  simp only [q3a,List.mem_append]
  split at h
  ·exact .inl h
  ·exact .inr (qac h)
theorem q9u (m : Nat) (r : List Nat) {β : Nat} (h : β < m) : (List.range m ++ r)[β]? = some β := by
 rw [List.getElem?_append_left (by simpa using h)]
 simp [h]
theorem q62 {a : Act} {nt : Nat} {s s' : St} (h : Inv w a s ι Im nt) (l : List Nat) (n : Nat) (hr : canon l n s = some s') :
  ∃ ι',Inv w a s' ι' Im nt ∧ jl n w s.heap ι Im w s'.heap ι' Im := by
 unfold canon at hr
 split at hr <;> cases hr
 rename_i L H' hsub
 obtain ⟨hs,hroots,rr,hL⟩ := q5n List.nodup_range hsub
 refine ⟨kg ι L,⟨hs.hinv h.heap,fun t => ?_,fun β b hb => ?_,h.size,h.defers⟩,⟨fun β b hk hb => ?_,fun _ h => h,fun _ h => .inl h,fun γ x z hx hu => ?_,fun _ _ _ => rfl,Nat.le_refl _,⟨rfl,rfl⟩⟩⟩
 ·rw [qbb]
  exact q0l _ (q7v h.env l t) fun β hβ b hb => hs.conn (hroots β (qac hβ)) b hb
 ·obtain ⟨γ,b0,q1,_⟩ := hs.inv (ι := ι) hb
  have := (List.getElem?_eq_some_iff.1 q1).1
  show β < H'.length
  rw [hs.len]
  exact this
 ·have hl : L[β]? = some β := by rw [hL]; exact q9u n rr hk
  refine ⟨b.ren (pos L),by rw [hs.look,hl]; simp [hb], ?_⟩
  have : kg ι L β = ι β := by simp [kg,hl]
  rw [this]
  exact qb3 (pos L) (gz b (ι β))
 ·obtain ⟨β,b0,h1,h2,rfl,h4⟩ := hs.inv (ι := ι) hx
  rw [Blk.ym,h4] at hu
  exact .inr ⟨β,b0,h2,hu⟩
theorem qcd : ∀ (E : Env) (n : Nat) (x : AV) (t : Nat),(setEnv E n x).get t = if t = n then x else E.get t
 | [],n,x,t => by
  simp only [setEnv,Env.get]
  by_cases h : n = t
  ·simp [h]
  ·simp [h,Ne.symm h]
 | (i,v) :: r,n,x,t => by
  simp only [setEnv]
  split
  ·rename_i h
   subst h
   simp only [Env.get]
   by_cases h2 : i = t
   ·simp [h2]
   ·simp [h2,Ne.symm h2]
  ·rename_i h
   simp only [Env.get,qcd r n x t]
   by_cases h2 : i = t
   ·subst h2; simp [h]
   ·simp [h2]
theorem q82 (hi : qa w H ι Im) {nx : Nat} (hnx : ∀ β b,H.get β = some b → β < nx) :
  qa w (H.put nx (.row true 0 [])) (qg ι nx ⟨0,0,[]⟩) Im ∧ Evo w H ι Im w (H.put nx (.row true 0 [])) (qg ι nx ⟨0,0,[]⟩) Im := by
 have hf := q7j (X := fun _ => False) (fun β b h => .inl (hnx β b h)) id
 exact qa.put (hno := q2r hf) hi nx (.row true 0 []) ⟨0,0,[]⟩ (fun x hx => by rw [hf] at hx; cases hx) ⟨Nat.le_refl _,rfl,rfl⟩ (fun _ _ _ => rfl) (fun h => by cases h) (fun _ => rfl)
theorem qay {H' : Heap} {nx : Nat} (hg : H'.get nx = some (.row true 0 [])) (ι' : Plc) : RA w H' ι' Im (.row nx 0 0 0) (.slice none 0 0) :=
 .row nx 0 0 0 _ _ rfl hg (fun _ => ⟨_,_,_,rfl⟩) (fun _ _ _ e => by cases e; exact Nat.le_refl _) fun _ _ _ e _ => by cases e; exact ⟨Nat.le_refl _,by simp⟩
theorem q9y {sz : Nat} {v : Value} (h : RA w H ι Im (.pv (.sl true sz [])) v) : v = .slice none 0 0 := by
 have := h.zo
 cases this
 rfl
theorem q3e {a : Act} {nt : Nat} : ∀ (l : List Nat) {ι : Plc} {s : St},Inv w a s ι Im nt →
  ∃ ι',Inv w a (zq l s) ι' Im nt ∧ Evo w s.heap ι Im w (zq l s).heap ι' Im
 | [],ι,s,h => ⟨ι,h,Evo.refl _ _ _ _⟩
 | t :: r,ι,s,h => by
  simp only [zq]
  split
  ·rename_i sz ht
   obtain ⟨h1,e1⟩ := q82 h.heap h.nx
   have hv : a.tmps.getD t undef = .slice none 0 0 := q9y (ht ▸ h.env t)
   have hinv : Inv w a { env := setEnv s.env t (.row s.nx 0 0 0),heap := Heap.put s.heap s.nx (.row true 0 []),nx := s.nx + 1 } (qg ι s.nx ⟨0,0,[]⟩) Im nt := by
    refine ⟨h1,fun t' => ?_,fun β b hb => ?_,h.size,h.defers⟩
    ·simp only [qcd]
     split
     ·rename_i e
      subst e
      rw [hv]
      exact qay (by simp [Heap.get_put]) _
     ·exact (h.env t').mono h.heap e1
    ·simp only [Heap.get_put] at hb
     split at hb
     ·rename_i e; subst e; exact Nat.lt_succ_self _
     ·have := h.nx β b hb; exact Nat.lt_succ_of_lt this
   obtain ⟨ι',h2,e2⟩ := q3e r hinv
   exact ⟨ι',h2,e1.trans e2⟩
  ·exact q3e r h
theorem q2j {a : Act} {nt : Nat} : ∀ (l : List (Nat × Nat)) {ι : Plc} {s : St},Inv w a s ι Im nt →
  ∃ ι',Inv w a (zl l s) ι' Im nt ∧ Evo w s.heap ι Im w (zl l s).heap ι' Im
 | [],ι,s,h => ⟨ι,h,Evo.refl _ _ _ _⟩
 | (t,k) :: r,ι,s,h => by
  simp only [zl]
  split
  rotate_left
  ·exact q2j r h
  rename_i β o ht
  split
  rotate_left
  ·exact q2j r h
  rename_i c hb
  split
  rotate_left
  ·exact q2j r h
  rename_i sz hc
  obtain ⟨h1,e1⟩ := q82 h.heap h.nx
  have hβ : β ≠ s.nx := fun e => by have := h.nx β _ hb; omega
  have hb1 : (Heap.put s.heap s.nx (.row true 0 [])).get β = some (.box c) := by simp [Heap.get_put,hβ,hb]
  obtain ⟨h2,e2⟩ := qa.put (hno := noO hb1 rfl) (w' := w) h1 β (.box (c.set (o + k) (.row s.nx 0 0 0))) (qg ι s.nx ⟨0,0,[]⟩ β) (fun x hx => by rw [hb1] at hx; cases hx; rfl) ⟨Nat.le_refl _,rfl,rfl⟩ (fun _ _ _ => rfl)
   (fun _ => .inr ⟨_,hb1,rfl,rfl⟩) (fun he => by
    obtain ⟨vs,elem,fz,q1,q2,q3,q4,q5⟩ := h1.box hb1
    refine ⟨vs,elem,fz,by simpa using q1,q2,by simpa using q3,fun x hx => ?_,fun i x v hx hv => ?_⟩
    ·rcases List.mem_or_eq_of_mem_set hx with hx | rfl
     ·exact q4 x hx
     ·rfl
    ·rw [List.getElem?_set] at hx
     split at hx
     ·rename_i e
      subst e
      split at hx <;> cases hx
      have := q5 (o + k) _ v hc hv
      rw [q9y this]
      refine qay ?_ _
      simp [Heap.get_put,Ne.symm hβ]
     ·exact (q5 i x v hx hv).mono h1 he)
  have hinv : Inv w a { env := s.env,heap := Heap.put (Heap.put s.heap s.nx (.row true 0 [])) β (.box (c.set (o + k) (.row s.nx 0 0 0))),nx := s.nx + 1 } (qg (qg ι s.nx ⟨0,0,[]⟩) β (qg ι s.nx ⟨0,0,[]⟩ β)) Im nt := by
   refine ⟨h2,fun t' => (h.env t').mono h.heap (e1.trans e2),fun γ b hγ => ?_,h.size,h.defers⟩
   simp only [Heap.get_put] at hγ
   split at hγ
   ·rename_i e; subst e; have := h.nx γ _ hb; exact Nat.lt_succ_of_lt this
   ·split at hγ
    ·rename_i e; subst e; exact Nat.lt_succ_self _
    ·have := h.nx γ b hγ; exact Nat.lt_succ_of_lt this
  obtain ⟨ι',h3,e3⟩ := q2j r hinv
  exact ⟨ι',h3,(e1.trans e2).trans e3⟩
theorem zl3 {a : Act} {nt : Nat} {s : St} (sp : xy) (h : Inv w a s ι Im nt) :
  ∃ ι' Im',Inv w a (enter sp s) ι' Im' nt ∧ Evo w s.heap ι Im w (enter sp s).heap ι' Im' := by
 unfold enter
 obtain ⟨ι1,h1,e1⟩ := q3e sp.zq h
 obtain ⟨ι2,h2,e2⟩ := q2j sp.zl h1
 obtain ⟨Im3,h3,e3⟩ := q2h (yw (zl sp.zl (zq sp.zq s)).env (zl sp.zl (zq sp.zq s)).heap sp.freeze) h2
 exact ⟨ι2,Im3,q5b h3 sp.live,(e1.trans e2).trans e3⟩
theorem jl.less {k k' : Nat} {w w' : World} {H H' : Heap} {ι ι' : Plc} {Im Im' : Nat → Prop} (h : jl k w H ι Im w' H' ι' Im') (hk : k' ≤ k) : jl k' w H ι Im w' H' ι' Im' :=
 ⟨fun β b h1 h2 => h.comp β b (by omega) h2,h.im,h.imnew,h.plnew,h.same,h.size,h.io⟩
theorem q1r.less [Globs] {k k' : Nat} {w : World} {H : Heap} {ι : Plc} {Im : Nat → Prop} {nt : Nat} {s : St} {a : Act} {w' : World} (h : q1r k w H ι Im nt s a w') (hk : k' ≤ k) : q1r k' w H ι Im nt s a w' :=
 let ⟨ι',Im',h1,h2⟩ := h
 ⟨ι',Im',h1,h2.less hk⟩
theorem qqf {a : Act} {nt : Nat} {s s1 : St} (sp : xy) (h : Inv w a s ι Im nt) (hr : yu sp s = some s1) :
  ∃ ι' Im',Inv w a s1 ι' Im' nt ∧ jl (s1.nx - sp.off) w s.heap ι Im w s1.heap ι' Im' ∧ (∀ β b,s.heap.get β = some b → β < s1.nx - sp.off) := by
 obtain ⟨ι1,Im1,h1,e1⟩ := zl3 sp h
 have plain : s1 = enter sp s → sp.off = 0 → ∃ ι' Im',Inv w a s1 ι' Im' nt ∧ jl (s1.nx - sp.off) w s.heap ι Im w s1.heap ι' Im' ∧ (∀ β b,s.heap.get β = some b → β < s1.nx - sp.off) := by
  rintro rfl h0
  refine ⟨ι1,Im1,h1,e1.toK _,fun β b hb => ?_⟩
  obtain ⟨b',q1,_⟩ := e1.comp β b hb
  have := h1.nx β b' q1
  omega
 unfold yu at hr
 split at hr
 ·rename_i hg
  cases hr
  exact plain rfl (by simp [xy.off,hg])
 rename_i hg
 have hoff : sp.off = sp.own := by simp [xy.off,hg]
 split at hr
 ·rename_i h0
  cases hr
  exact plain rfl (by omega)
 ·rename_i k h0
  split at hr
  rotate_left
  ·cases hr
  rename_i s2 hs2
  split at hr <;> cases hr
  rename_i hn
  obtain ⟨ι2,h2,e2⟩ := q62 h1 sp.live s.nx hs2
  have : s1.nx - sp.off = s.nx := by omega
  rw [this]
  exact ⟨ι2,Im1,h2,(e1.toK _).trans e2,h.nx⟩
theorem zch {a : Act} {nt : Nat} {s0 s s' : St} {w0 : World} {ι0 : Plc} {Im0 : Nat → Prop} (sp : xy) (h : Inv w a s ι Im nt)
  (hn0 : ∀ β b,s0.heap.get β = some b → β < s0.nx) (he : Evo w0 s0.heap ι0 Im0 w s.heap ι Im) (hr : again sp s0.nx s = some s') :
  ∃ ι',Inv w a s' ι' Im nt ∧ jl (s0.nx - sp.off) w0 s0.heap ι0 Im0 w s'.heap ι' Im ∧ s0.nx - sp.off ≤ s'.nx - sp.off := by
 unfold again at hr
 split at hr
 ·rename_i hg
  unfold kept at hr
  split at hr <;> cases hr
  rename_i hn
  obtain ⟨ι1,h1,e1⟩ := q3e sp.zq h
  obtain ⟨ι2,h2,e2⟩ := q2j sp.zl h1
  exact ⟨ι2,q5b h2 sp.live,((he.trans e1).trans e2).toK _,Nat.sub_le_sub_right hn _⟩
 rename_i hg
 have hoff : sp.off = sp.own := by simp [xy.off,hg]
 split at hr
 ·rename_i h0
  obtain ⟨h2,e2⟩ := q9e h hn0 he _ hr
  refine ⟨ι,h2,e2.toK _, ?_⟩
  unfold narrow at hr
  simp only at hr
  split at hr <;> cases hr
  exact Nat.le_refl _
 ·rename_i k h0
  split at hr
  rotate_left
  ·cases hr
  rename_i s2 hs2
  split at hr <;> cases hr
  rename_i hn
  obtain ⟨ι1,h1,e1⟩ := q3e sp.zq h
  obtain ⟨ι2,h2,e2⟩ := q2j sp.zl h1
  obtain ⟨ι3,h3,e3⟩ := q62 h2 sp.live _ hs2
  rw [hoff,h0]
  exact ⟨ι3,h3,(((he.trans e1).trans e2).toK _).trans e3,by omega⟩
theorem q77 {a : Act} {nt : Nat} {s0 s s' : St} {w0 : World} {ι0 : Plc} {Im0 : Nat → Prop} (sp : xy) (h : Inv w a s ι Im nt)
  (hn0 : ∀ β b,s0.heap.get β = some b → β < s0.nx) (he : Evo w0 s0.heap ι0 Im0 w s.heap ι Im) (hr : leave sp s0.nx s = some s') :
  ∃ ι',Inv w a s' ι' Im nt ∧ jl (s0.nx - sp.off) w0 s0.heap ι0 Im0 w s'.heap ι' Im := by
 unfold leave at hr
 split at hr
 ·cases hr
  exact ⟨ι,q5b h sp.out,he.toK _⟩
 rename_i hg
 have hoff : sp.off = sp.own := by simp [xy.off,hg]
 split at hr
 ·cases hr
  obtain ⟨h2,e2⟩ := qw8 h hn0 he sp.out
  exact ⟨ι,h2,e2.toK _⟩
 ·rename_i k h0
  obtain ⟨ι3,h3,e3⟩ := q62 h sp.out _ hr
  rw [hoff,h0]
  exact ⟨ι3,h3,(he.toK _).trans e3⟩
theorem q7a {ex ex' : Ex} {o : Option St} {s : St} (h : left ex o = some (ex',s)) : o = some s ∧ ex' = ex := by
 unfold left at h
 split at h <;> cases h
 exact ⟨rfl,rfl⟩
end
end Go.Gm
set_option linter.unusedSectionVars false
namespace Go.Gm
open Go
section
variable [Globs] {P : Program} {w : World} {H : Heap} {ι : Plc} {Im : Nat → Prop}
theorem RA.ext {H' : Heap} (h : ∀ γ,H'.get γ = H.get γ) {x : AV} {v : Value} (hx : RA w H ι Im x v) : RA w H' ι Im x v :=
 q23 hx fun β _ b hb => by rw [h]; exact hb
theorem qa.ext {H' : Heap} (h : ∀ γ,H'.get γ = H.get γ) (hi : qa w H ι Im) : qa w H' ι Im where
 glb := hi.glb
 gim := hi.gim
 blk := fun β b hb => by
  rw [h] at hb
  have h0 := hi.blk β b hb
  cases b with
  | box c =>
   obtain ⟨vs,elem,fz,q1,q2,q3,q4,q5⟩ := h0
   exact ⟨vs,elem,fz,q1,q2,q3,q4,fun i x v a b => (q5 i x v a b).ext h⟩
  | row isnil sz es => cases isnil <;> exact h0
  | map es clock => exact h0
  | za e isnil sz es => cases isnil <;> exact h0
  | ql sz es =>
   obtain ⟨vs,elem,fz,q1,q2,q3,q4,q5,q6,q7,q8⟩ := h0
   exact ⟨vs,elem,fz,q1,q2,q3,q4,q5,q6,q7,fun i e j x a b => (q8 i e j x a b).imp fun v k => ⟨k.1,k.2.ext h⟩⟩
  | z8 t c =>
   obtain ⟨vs,fz,q1,q2,q3,q4,q5⟩ := h0
   exact ⟨vs,fz,q1,q2,q3,q4,fun i x v a b => (q5 i x v a b).ext h⟩
  | qj es clock =>
   obtain ⟨ents,q1,q2,q3⟩ := h0
   exact ⟨ents,q1,q2,fun i k x born e a b => let ⟨k1,k2,k3⟩ := q3 i k x born e a b; ⟨k1,k2.ext h,k3⟩⟩
  | qh isnil ds es foc =>
   cases isnil with
   | true => exact h0
   | false =>
    obtain ⟨vs,elem,fz,q1,q2,q3,q4,q5,q6,q7,q8,q9⟩ := h0
    refine ⟨vs,elem,fz,q1,q2,q3,q4,q5,q6,q7,q8,fun i p k a b => ?_⟩
    obtain ⟨v,k1,k2,k3⟩ := q9 i p k a b
    exact ⟨v,k1,k2,fun γ' ver hf => ⟨(k3 γ' ver hf).1,(k3 γ' ver hf).2.ext h⟩⟩
  | dead => trivial
 inj := fun β β' b b' z h1 h2 => hi.inj β β' b b' z (by rw [← h]; exact h1) (by rw [← h]; exact h2)
 im := hi.im
 nim := fun β b z hb => hi.nim β b z (by rw [← h]; exact hb)
theorem Evo.ext {w0 : World} {H0 H' : Heap} {ι0 : Plc} {Im0 : Nat → Prop} (h : ∀ γ,H'.get γ = H.get γ) (he : Evo w0 H0 ι0 Im0 w H ι Im) : Evo w0 H0 ι0 Im0 w H' ι Im where
 comp := fun β b hb => by
  obtain ⟨b',q1,q2⟩ := he.comp β b hb
  exact ⟨b',by rw [h]; exact q1,q2⟩
 im := he.im
 imnew := he.imnew
 plnew := fun β x z hx => he.plnew β x z (by rw [← h]; exact hx)
 same := he.same
 size := he.size
 io := he.io
structure At (G : GP) (O : qw) (all : List Oper) (tm : Bool) (os : List Oper) (cs : List Rc) (i : Nat) (s : St) (j : Nat) (o : Oper) (c : Rc) : Prop where
 env : c.E = j4 os cs i (fun k => decide (k < i + j)) s.env
 heap : c.H = zn cs i (fun k => decide (k < i + j)) s.heap
 guard : guardOf all o c.E = some c.on
 on : c.on = true → (∃ wf,aop G O o.op c.E c.H c.nx = some (c.v,wf,c.nx') ∧ c.ws = mq tm c.rd c.H wf) ∧ c.rd = touched o.op c.E c.H
 off : c.on = false → c.v = .tup [] ∧ c.ws = [] ∧ c.nx' = c.nx ∧ c.rd = []
 nx : s.nx ≤ c.nx
 bd : ∀ β b,c.H.get β = some b → β < c.nx
 nx' : c.nx ≤ c.nx'
 keys : (∀ x ∈ c.keys,x < c.nx') ∧ ∀ γ,c.nx ≤ γ → γ < c.nx' → γ ∈ c.keys
theorem zsq : ∀ (ws : List (Nat × Blk)) {H : Heap} {γ : Nat} {b : Blk},(qf ws H).get γ = some b → γ ∈ ws.map (·.1) ∨ H.get γ = some b
 | ws,H,γ,b,h => by
  by_cases hr : γ ∈ ws.map (·.1)
  ·exact .inl hr
  ·have hne : ∀ x ∈ ws,x.1 ≠ γ := fun x hx e => hr (by rw [← e]; exact List.mem_map.2 ⟨x,hx,rfl⟩)
   rw [yf ws _ γ hne] at h
   exact .inr h
theorem qbn {G : GP} {O : qw} {all : List Oper} {tm : Bool} {o : Oper} {r : List Oper} {c : Rc} {cs : List Rc} {s s' : St} (h : p8 G O all tm (o :: r) (c :: cs) s s') (hb : ∀ β b,s.heap.get β = some b → β < s.nx) :
  s.nx ≤ c.nx' ∧ (∀ x ∈ c.keys,x < c.nx') ∧ (∀ γ,s.nx ≤ γ → γ < c.nx' → γ ∈ c.keys) ∧ ∀ β b,(qf c.ws s.heap).get β = some b → β < c.nx' := by
 obtain ⟨_,_,_,_,h5,h6,_⟩ := h
 have key : s.nx ≤ c.nx' ∧ (∀ x ∈ c.ws,x.1 < c.nx') ∧ ∀ γ,s.nx ≤ γ → γ < c.nx' → γ ∈ c.ws.map (·.1) := by
  cases hon : c.on with
  | true =>
   obtain ⟨⟨wf,h8,h9⟩,_⟩ := h5 hon
   obtain ⟨g1,g2,g3⟩ := z0f h8 hb
   rw [h9]
   refine ⟨g1,fun x hx => g2 x (qhe hx),fun γ a b => ?_⟩
   rcases zne (tm := tm) (rd := c.rd) (H := s.heap) (g3 γ a b) with h | ⟨b',h⟩
   ·exact h
   ·have := hb γ b' h
    omega
  | false =>
   obtain ⟨_,e2,e3,_⟩ := h6 hon
   rw [e2,e3]
   exact ⟨Nat.le_refl _,by simp,fun γ a b => by omega⟩
 obtain ⟨k1,k2,k3⟩ := key
 refine ⟨k1,fun x hx => ?_,k3,fun β b hβ => ?_⟩
 ·obtain ⟨y,hy,rfl⟩ := List.mem_map.1 hx
  exact k2 y hy
 ·rcases zsq _ hβ with h | h
  ·obtain ⟨y,hy,rfl⟩ := List.mem_map.1 h
   exact k2 y hy
  ·have := hb β b h
   omega
theorem q54 {G : GP} {O : qw} {all : List Oper} {tm : Bool} : ∀ {os : List Oper} {cs : List Rc} {s s' : St},p8 G O all tm os cs s s' → (∀ β b,s.heap.get β = some b → β < s.nx) → ∀ (i j : Nat) (o : Oper) (c : Rc),os[j]? = some o → cs[j]? = some c →
  At G O all tm os cs i s j o c
 | [],_,_,_,_,_,_,_,_,_,ho,_ => by simp at ho
 | _ :: _,[],_,_,h,_,_,_,_,_,_,_ => h.elim
 | o' :: os,c' :: cs,s,s',h,hb,i,j,o,c,ho,hc => by
  obtain ⟨k1,k2,k3,k4⟩ := qbn h hb
  obtain ⟨h1,h2,h3,h4,h5,h6,h7⟩ := h
  cases j with
  | zero =>
   simp only [List.getElem?_cons_zero,Option.some.injEq] at ho hc
   subst ho hc
   refine ⟨?_, ?_,by rw [h1]; exact h4,by rw [h1,h2,h3]; exact h5,by rw [h3]; exact h6,by rw [h3]; exact Nat.le_refl _,by rw [h2,h3]; exact hb,by rw [h3]; exact k1,k2,by rw [h3]; exact k3⟩
   ·rw [q4w _ _ _ _ _ fun k hk => by simpa using hk,h1]
   ·rw [q2d _ _ _ _ fun k hk => by simpa using hk,h2]
  | succ j =>
   simp only [List.getElem?_cons_succ] at ho hc
   have := q54 h7 k4 (i + 1) j o c ho hc
   have e : (fun k => decide (k < i + (j + 1))) = fun k => decide (k < i + 1 + j) := by funext k; rw [show i + (j + 1) = i + 1 + j from by omega]
   refine ⟨?_, ?_,this.guard,this.on,this.off,Nat.le_trans k1 this.nx,this.bd,this.nx',this.keys⟩
   ·rw [this.env,e]
    simp only [j4]
    rw [if_pos (by simp; omega)]
   ·rw [this.heap,e]
    simp only [zn]
    rw [if_pos (by simp; omega)]
theorem q67 {G : GP} {O : qw} {all : List Oper} {tm : Bool} : ∀ {os : List Oper} {cs : List Rc} {s s' : St},p8 G O all tm os cs s s' → (∀ β b,s.heap.get β = some b → β < s.nx) → ∀ (i : Nat),
  s'.env = j4 os cs i (fun _ => true) s.env ∧ s'.heap = zn cs i (fun _ => true) s.heap ∧ s.nx ≤ s'.nx ∧ (∀ β b,s'.heap.get β = some b → β < s'.nx) ∧
   (∀ (j : Nat) (c : Rc),cs[j]? = some c → s.nx ≤ c.nx ∧ c.nx' ≤ s'.nx) ∧ ∀ (a b : Nat) (ca cb : Rc),a < b → cs[a]? = some ca → cs[b]? = some cb → ca.nx' ≤ cb.nx
 | [],[],s,s',h,hb,i => by
  have h' : s' = s := h
  subst h'
  exact ⟨rfl,rfl,Nat.le_refl _,hb,by simp,by simp⟩
 | [],_ :: _,_,_,h,_,_ => h.elim
 | _ :: _,[],_,_,h,_,_ => h.elim
 | o :: os,c :: cs,s,s',h,hb,i => by
  obtain ⟨k1,k2,k3,k4⟩ := qbn h hb
  obtain ⟨h1,h2,h3,h4,h5,h6,h7⟩ := h
  obtain ⟨q1,q2,q3,q4,q5,q6⟩ := q67 h7 k4 (i + 1)
  refine ⟨?_, ?_,Nat.le_trans k1 q3,q4,fun j c' hc' => ?_,fun a b ca cb hab ha hb' => ?_⟩
  ·rw [q1]; simp [j4]
  ·rw [q2]; simp [zn]
  ·cases j with
   | zero =>
    simp only [List.getElem?_cons_zero,Option.some.injEq] at hc'
    subst hc'
    exact ⟨by rw [h3]; exact Nat.le_refl _,q3⟩
   | succ j =>
    simp only [List.getElem?_cons_succ] at hc'
    obtain ⟨r1,r2⟩ := q5 j c' hc'
    simp only at r1
    exact ⟨Nat.le_trans k1 r1,r2⟩
  ·cases b with
   | zero => omega
   | succ b =>
    simp only [List.getElem?_cons_succ] at hb'
    cases a with
    | zero =>
     simp only [List.getElem?_cons_zero,Option.some.injEq] at ha
     subst ha
     exact (q5 b cb hb').1
    | succ a =>
     simp only [List.getElem?_cons_succ] at ha
     exact q6 a b ca cb (by omega) ha hb'
def q2n (nt : Nat) (os : List Oper) (cs : List Rc) (s : St) (w0 : World) (ι0 : Plc) (Im0 : Nat → Prop) (D : Nat → Bool) (a : Act) (w : World) : Prop :=
 ∃ ι Im,qa w (zn cs 0 D s.heap) ι Im ∧ (∀ t,RA w (zn cs 0 D s.heap) ι Im ((j4 os cs 0 D s.env).get t) (a.tmps.getD t undef)) ∧ nt ≤ a.tmps.size ∧ a.defers = [] ∧
  Evo w0 s.heap ι0 Im0 w (zn cs 0 D s.heap) ι Im
def jf (D : Nat → Bool) (j : Nat) : Nat → Bool := fun k => decide (k = j) || D k
theorem zbw {ops : Array Oper} {o : Oper} {E E' : Env} (h : ∀ t ∈ o.looksAt ops,E'.get t = E.get t) : (∀ x ∈ o.op.operands,ev E' x = ev E x) ∧ guardOf ops.toList o E' = guardOf ops.toList o E := by
 constructor
 ·intro x hx
  cases x with
  | tmp t =>
   refine h t ?_
   unfold Oper.looksAt
   refine List.mem_append_left _ (List.mem_filterMap.2 ⟨.tmp t,by simpa using hx,rfl⟩)
  | _ => rfl
 ·unfold guardOf
  cases hg : o.guard with
  | none => rfl
  | some g =>
   obtain ⟨j,want⟩ := g
   simp only
   cases hj : ops.toList[j]? with
   | none => rfl
   | some oj =>
    simp only
    cases hd : oj.dst with
    | none => rfl
    | some d =>
     simp only
     rw [h d]
     unfold Oper.looksAt
     refine List.mem_append_right _ ?_
     rw [hg]
     have : ops[j]? = some oj := by rw [← Array.getElem?_toList]; exact hj
     simp [this,hd]
theorem step_ok {G : GP} {O : qw} (hG : jd P G) (hO : SoundCall P O) {nt : Nat} {ops : Array Oper} (hd : q39 nt ops.toList) (hdr : q2x ops.toList = true) {cs : List Rc} {s s' : St} {tm : Bool}
  (hch : p8 G O ops.toList tm ops.toList cs s s') (hbd : ∀ β b,s.heap.get β = some b → β < s.nx) (hcl : uw (kr [] ops.toList) (q2t 0 cs []) = true)
  {w0 : World} {ι0 : Plc} {Im0 : Nat → Prop} {D : Nat → Bool} (hD : Closed ops.toList D) {j : Nat} {o : Oper} (ho : ops.toList[j]? = some o) (hj : D j = false)
  (hpre : ∀ e ∈ o.after,Region.binds .any e = true → D e.on = true) {a : Act} {w : World} (h : q2n nt ops.toList cs s w0 ι0 Im0 D a w) (Q : Exit → Act → World → Prop) :
  wpOp P ops Q j (q2n nt ops.toList cs s w0 ι0 Im0 (jf D j)) a w := by
 simp only [q2x,Bool.and_eq_true] at hdr
 obtain ⟨hfwd,hapart⟩ := hdr
 have hlen := hch.len
 have hjl : j < cs.length := by rw [hlen]; exact (List.getElem?_eq_some_iff.1 ho).1
 obtain ⟨c,hc⟩ : ∃ c,cs[j]? = some c := ⟨_,List.getElem?_eq_getElem hjl⟩
 have hat := q54 hch hbd 0 j o c ho hc
 obtain ⟨_,_,_,_,hnxs,hnxp⟩ := q67 hch hbd 0
 have hord := (qbx cs 0 [] hcl).2
 have ahead : ∀ i,ordered (kr [] ops.toList) i j = true → D i = true := qaf hfwd hD j o ho hpre
 have behind : ∀ k,k < ops.toList.length → ordered (kr [] ops.toList) j k = true → D k = false := fun k hk hjk => by
  cases hDk : D k with
  | false => rfl
  | true =>
   have := qaf hfwd hD k ops.toList[k] (List.getElem?_eq_getElem hk) (fun e he hb => hD k _ (List.getElem?_eq_getElem hk) hDk e he hb) j hjk
   rw [hj] at this
   cases this
 have harr : ops.toList.toArray = ops := by simp
 have hlook : ∀ t ∈ o.looksAt ops,(j4 ops.toList cs 0 D s.env).get t = c.E.get t := by
  intro t ht
  rw [hat.env]
  refine q4f _ _ _ _ _ (fun k ok hk hdk => ?_) rfl
  simp only [Nat.zero_add]
  have hkl := (List.getElem?_eq_some_iff.1 hk).1
  rcases Nat.lt_trichotomy k j with hlt | rfl | hgt
  ·rw [decide_eq_true hlt]
   rcases apart_spec hapart hlt hk ho with h1 | h1
   ·exact ahead k h1
   ·rw [harr] at h1
    exact absurd ht ((Oper.apart_spec h1).1 t hdk)
  ·simpa using hj
  ·rw [decide_eq_false (by omega)]
   rcases apart_spec hapart hgt ho hk with h1 | h1
   ·exact behind k hkl h1
   ·rw [harr] at h1
    exact absurd ht ((Oper.apart_spec h1).2.2 t hdk)
 obtain ⟨hevs,hguard⟩ := zbw hlook
 obtain ⟨ι,Im,hi,henv,hsz,hdef,hevo⟩ := h
 have hlater : ∀ (k : Nat) (ck : Rc),cs[k]? = some ck → D k = true → j < k → c.on = true → ck.on = true → Apart c ck := fun k ck hk hDk hjk h1 h2 => by
  rcases (hord k ck hk h2).2 j c hjk hc h1 with h3 | h3
  ·simp only [Nat.zero_add] at h3
   have := behind k (by rw [← hlen]; exact (List.getElem?_eq_some_iff.1 hk).1) h3
   rw [hDk] at this
   cases this
  ·exact h3
 have hearlier : ∀ (k : Nat) (ck : Rc),cs[k]? = some ck → D k = false → k < j → c.on = true → ck.on = true → Apart ck c := fun k ck hk hDk hjk h1 h2 => by
  rcases (hord j c hc h1).2 k ck hjk hk h2 with h3 | h3
  ·simp only [Nat.zero_add] at h3
   rw [ahead k h3] at hDk
   cases hDk
  ·exact h3
 have hoffkeys : ∀ (k : Nat) (ck : Rc),cs[k]? = some ck → ck.on = false → ck.keys = [] := fun k ck hk hoff => by
  have hkl : k < ops.toList.length := by rw [← hlen]; exact (List.getElem?_eq_some_iff.1 hk).1
  have := (q54 hch hbd 0 k _ ck (List.getElem?_eq_getElem hkl) hk).off hoff
  unfold Rc.keys
  rw [this.2.1]
  rfl
 have henv' : ∀ t,(j4 ops.toList cs 0 (jf D j) s.env).get t = (zz o.dst c.v (j4 ops.toList cs 0 D s.env)).get t := by
  intro t
  rw [q1p]
  by_cases hdt : o.dst = some t
  ·rw [if_pos hdt]
   refine qat _ _ _ _ j o c ho hc hdt (by simp [jf]) fun k ok hk hok hdk => ?_
   simp only [Nat.zero_add,jf]
   rw [decide_eq_false (by omega),Bool.false_or]
   rcases apart_spec hapart hk ho hok with h1 | h1
   ·exact behind k (List.getElem?_eq_some_iff.1 hok).1 h1
   ·rw [harr] at h1
    exact absurd hdk ((Oper.apart_spec h1).2.1 t hdt)
  ·rw [if_neg hdt]
   refine q4f _ _ _ _ _ (fun k ok hk hdk => ?_) rfl
   simp only [Nat.zero_add,jf]
   have : k ≠ j := fun e => by subst e; rw [ho] at hk; cases hk; exact hdt hdk
   simp [this]
 have hheap' : ∀ γ,(zn cs 0 (jf D j) s.heap).get γ = (qf c.ws (zn cs 0 D s.heap)).get γ := by
  intro γ
  by_cases hk : γ ∈ c.keys
  ·refine qcr cs 0 s.heap j c hc hk (by simp [jf]) (fun k ck hjk hck hkk => ?_) _
   simp only [Nat.zero_add,jf]
   rw [decide_eq_false (by omega),Bool.false_or]
   cases hDk : D k with
   | false => rfl
   | true =>
    exfalso
    have hon : c.on = true := by
     cases h1 : c.on with
     | true => rfl
     | false => rw [hoffkeys j c hc h1] at hk; simp at hk
    have hon2 : ck.on = true := by
     cases h1 : ck.on with
     | true => rfl
     | false => rw [hoffkeys k ck hck h1] at hkk; simp at hkk
    exact (hlater k ck hck hDk hjk hon hon2).2.1 γ hk hkk
  ·have hne : ∀ x ∈ c.ws,x.1 ≠ γ := fun x hx e => hk (by rw [← e]; exact List.mem_map.2 ⟨x,hx,rfl⟩)
   rw [yf _ _ _ hne]
   refine q31 _ _ _ _ (fun k ck hck hkk => ?_) rfl
   simp only [Nat.zero_add,jf]
   have : k ≠ j := fun e => by subst e; rw [hc] at hck; cases hck; exact hk hkk
   simp [this]
 have ho' : ops[j]? = some o := by rw [← Array.getElem?_toList]; exact ho
 have hdo : ∀ t,o.dst = some t → t < nt := hd o (List.mem_of_getElem? ho)
 unfold wpOp
 rw [ho']
 simp only
 have hgd : guardOf ops.toList o (j4 ops.toList cs 0 D s.env) = some c.on := by rw [hguard]; exact hat.guard
 rw [q6a henv hgd]
 cases hon : c.on with
 | false =>
  rw [if_neg (by simp)]
  obtain ⟨e1,e2,e3,e4⟩ := hat.off hon
  have hh : ∀ γ,(zn cs 0 (jf D j) s.heap).get γ = (zn cs 0 D s.heap).get γ := fun γ => by rw [hheap' γ,e2]; rfl
  refine ⟨ι,Im,hi.ext hh,fun t => ?_,by rw [Act.q5w]; exact hsz,by rw [Act.put_defers]; exact hdef,hevo.ext hh⟩
  rw [henv' t,e1]
  exact (q5o henv hsz hdo qa0 t).ext hh
 | true =>
  rw [if_pos rfl]
  refine .inl ?_
  obtain ⟨⟨wf,e1,e1'⟩,e2⟩ := hat.on hon
  have hag : agree (touched o.op c.E c.H) c.H (zn cs 0 D s.heap) := by
   intro γ hγ
   rw [hat.heap]
   refine q31 _ _ _ _ (fun k ck hck hkk => ?_) rfl
   simp only [Nat.zero_add]
   have hon2 : ck.on = true := by
    cases h1 : ck.on with
    | true => rfl
    | false => rw [hoffkeys k ck hck h1] at hkk; simp at hkk
   rcases Nat.lt_trichotomy k j with hlt | rfl | hgt
   ·rw [decide_eq_true hlt]
    cases hDk : D k with
    | true => rfl
    | false => exact absurd (e2 ▸ hγ) ((hearlier k ck hck hDk hlt hon hon2).1 γ hkk)
   ·simpa using hj
   ·rw [decide_eq_false (by omega)]
    cases hDk : D k with
    | false => rfl
    | true => exact absurd hkk ((hlater k ck hck hDk hgt hon hon2).2.2 γ (e2 ▸ hγ))
  have hop : aop G O o.op (j4 ops.toList cs 0 D s.env) (zn cs 0 D s.heap) c.nx = some (c.v,wf,c.nx') := by
   rw [z9b hevs hag]
   exact e1
  have hheap2 : ∀ γ,(zn cs 0 (jf D j) s.heap).get γ = (qf wf (zn cs 0 D s.heap)).get γ := fun γ => by
   rw [hheap' γ,e1']
   exact zdr (by rw [e2]; exact hag) γ
  have hX : Bd (fun γ => c.nx' ≤ γ) (zn cs 0 D s.heap) c.nx := by
   intro β b hb
   by_cases h1 : β < c.nx
   ·exact .inl h1
   by_cases h2 : c.nx' ≤ β
   ·exact .inr h2
   exfalso
   have hin : β ∈ c.keys := hat.keys.2 β (by omega) (by omega)
   have hnone : (zn cs 0 D s.heap).get β = s.heap.get β := by
    rw [q31 (D' := fun _ => false) cs 0 s.heap s.heap (fun k ck hck hkk => ?_) rfl,q2d _ _ _ _ fun _ _ => rfl]
    simp only [Nat.zero_add]
    cases hDk : D k with
    | false => rfl
    | true =>
     exfalso
     have hkl : k < ops.toList.length := by rw [← hlen]; exact (List.getElem?_eq_some_iff.1 hck).1
     have hatk := q54 hch hbd 0 k _ ck (List.getElem?_eq_getElem hkl) hck
     have hon2 : ck.on = true := by
      cases h1 : ck.on with
      | true => rfl
      | false => rw [hoffkeys k ck hck h1] at hkk; simp at hkk
     rcases Nat.lt_trichotomy k j with hlt | rfl | hgt
     ·have h3 := hatk.keys.1 β hkk
      have h4 := hnxp k j ck c hlt hck hc
      omega
     ·rw [hj] at hDk; cases hDk
     ·exact (hlater k ck hck hDk hgt hon hon2).2.1 β hin hkk
   rw [hnone] at hb
   have h3 := hbd β b hb
   have h4 := hat.nx
   omega
  refine qa9 hG hO hi henv hX o hop (fun γ h => h) _ Q fun u w' ι' Im' q1 q2 q3 q4 => ?_
  refine ⟨ι',Im',q1.ext hheap2,fun t => ?_,by rw [Act.q5w]; exact hsz,by rw [Act.put_defers]; exact hdef,(hevo.trans q2).ext hheap2⟩
  rw [henv' t]
  exact (q5o (fun t => (henv t).mono hi q2) hsz hdo q3 t).ext hheap2
theorem q86 {p p' : Nat → Bool} {j : Nat} : ∀ (l : List Nat),(∀ x,p' x = true → p x = true) → j ∈ l → p j = true → p' j = false → (l.filter p').length < (l.filter p).length
 | [],_,hj,_,_ => by simp at hj
 | x :: r,hp,hj,h1,h2 => by
  have hle : ∀ (l : List Nat),(l.filter p').length ≤ (l.filter p).length := by
   intro l
   induction l with
   | nil => simp
   | cons y r ih =>
    simp only [List.filter_cons]
    cases h : p' y with
    | true => rw [hp y h]; simp; exact ih
    | false =>
     cases p y <;> simp <;> omega
  simp only [List.filter_cons]
  rcases List.mem_cons.1 hj with rfl | hj
  ·rw [h1,h2]
   have := hle r
   simp
   omega
  ·have ih := q86 r hp hj h1 h2
   cases h : p' x with
   | true => rw [hp x h]; simp; exact ih
   | false => cases p x <;> simp <;> omega
theorem any_ok {G : GP} {O : qw} (hG : jd P G) (hO : SoundCall P O) {nt : Nat} {ops : Array Oper} (hd : q39 nt ops.toList) (hdr : q2x ops.toList = true) {cs : List Rc} {s s' : St} {tm : Bool}
  (hch : p8 G O ops.toList tm ops.toList cs s s') (hbd : ∀ β b,s.heap.get β = some b → β < s.nx) (hcl : uw (kr [] ops.toList) (q2t 0 cs []) = true)
  {w0 : World} {ι0 : Plc} {Im0 : Nat → Prop} (Q : Exit → Act → World → Prop) (hq : ∀ a w,q2n nt ops.toList cs s w0 ι0 Im0 (fun _ => true) a w → Q .normal a w) :
  ∀ (fuel : Nat) (listed : Array Bool) (a : Act) (w : World),listed.size = ops.size → Closed ops.toList (fun k => listed.getD k false) →
   ((List.range ops.size).filter fun k => !listed.getD k false).length ≤ fuel → q2n nt ops.toList cs s w0 ι0 Im0 (fun k => listed.getD k false) a w → wpAny P .any ops Q fuel listed a w := by
 have hfull : ∀ (D : Nat → Bool) (a : Act) (w : World),(∀ k,k < ops.size → D k = true) → q2n nt ops.toList cs s w0 ι0 Im0 D a w → q2n nt ops.toList cs s w0 ι0 Im0 (fun _ => true) a w := by
  intro D a w hD ⟨ι,Im,h1,h2,h3,h4,h5⟩
  have hh : ∀ γ,(zn cs 0 (fun _ => true) s.heap).get γ = (zn cs 0 D s.heap).get γ := fun γ =>
   q31 _ _ _ _ (fun k ck hck _ => by
    have : k < ops.size := by have := hch.len; have := (List.getElem?_eq_some_iff.1 hck).1; simp at *; omega
    simp [hD k this]) rfl
  refine ⟨ι,Im,h1.ext hh,fun t => ?_,h3,h4,h5.ext hh⟩
  rw [q4f (D' := D) _ _ _ _ s.env (fun k ok hok _ => by
    have : k < ops.size := by have := (List.getElem?_eq_some_iff.1 hok).1; simpa using this
    simp [hD k this]) rfl]
  exact (h2 t).ext hh
 intro fuel
 induction fuel with
 | zero =>
  intro listed a w hsz hcld hf h
  have hall : ∀ k,k < ops.size → listed.getD k false = true := by
   intro k hk
   have h0 : ((List.range ops.size).filter fun k => !listed.getD k false) = [] := List.length_eq_zero_iff.1 (by omega)
   have := List.filter_eq_nil_iff.1 h0 k (by simpa using hk)
   simpa using this
  refine ⟨?_,hq a w (hfull _ a w hall h)⟩
  cases hr : Region.ready .any ops listed with
  | nil => rfl
  | cons i r =>
   exfalso
   have hi : i ∈ Region.ready .any ops listed := by rw [hr]; simp
   obtain ⟨h1,o,ho,_⟩ := mem_ready.1 hi
   have hlt : i < ops.size := (Array.getElem?_eq_some_iff.1 ho).1
   have h2 := hall i hlt
   simp [hsz,hlt] at h1 h2
   rw [h1] at h2
   cases h2
 | succ fuel ih =>
  intro listed a w hsz hcld hf h
  refine ⟨fun hr => ?_,fun i hi => ?_⟩
  ·refine hq a w (hfull _ a w ?_ h)
   intro k
   induction k using Nat.strongRecOn with
   | _ k ihk =>
    intro hk
    cases hD : listed.getD k false with
    | true => rfl
    | false =>
     exfalso
     have hkl : k < ops.toList.length := by simpa using hk
     have hmem : k ∈ Region.ready .any ops listed := by
      refine mem_ready.2 ⟨?_,ops[k],by simp [hk],fun e he hb => ?_⟩
      ·simp [hsz,hk] at hD ⊢
       exact hD
      ·have hlt := qal (by simp only [q2x,Bool.and_eq_true] at hdr; exact hdr.1) (List.getElem?_eq_getElem hkl) (by simpa using he) hb
       exact ihk e.on hlt (by omega)
     rw [hr] at hmem
     simp at hmem
  ·obtain ⟨h1,o,ho,h2⟩ := mem_ready.1 hi
   have hlt : i < ops.size := (Array.getElem?_eq_some_iff.1 ho).1
   have ho' : ops.toList[i]? = some o := by rw [Array.getElem?_toList]; exact ho
   have hDi : listed.getD i false = false := by
    simp [hsz,hlt] at h1 ⊢
    exact h1
   have hset : (fun k => (listed.setIfInBounds i true).getD k false) = jf (fun k => listed.getD k false) i := by
    funext k
    simp only [jf]
    by_cases hk : k = i
    ·subst hk
     simp [hsz,hlt]
    ·simp [hk,Array.getElem?_setIfInBounds_ne (Ne.symm hk)]
   refine wpOp_mono (fun a' w' h' => ?_) (step_ok hG hO hd hdr hch hbd hcl hcld ho' hDi h2 h Q)
   refine ih (listed.setIfInBounds i true) a' w' (by simpa using hsz) ?_ ?_ (by rw [hset]; exact h')
   ·rw [hset]
    intro j oj hoj hDj e he hb
    simp only [jf,Bool.or_eq_true,decide_eq_true_eq] at hDj ⊢
    rcases hDj with rfl | hDj
    ·rw [ho'] at hoj
     cases hoj
     exact .inr (h2 e he hb)
    ·exact .inr (hcld j oj hoj hDj e he hb)
   ·have := q86 (p := fun k => !listed.getD k false) (p' := fun k => !(listed.setIfInBounds i true).getD k false) (j := i) (List.range ops.size) (fun x hx => ?_) (by simpa using hlt) (by simpa using hDi) ?_
    ·omega
    ·have hx' : (listed.setIfInBounds i true).getD x false = jf (fun k => listed.getD k false) i x := congrFun hset x
     rw [hx'] at hx
     simp only [jf,Bool.not_eq_true',Bool.or_eq_false_iff] at hx
     simp only [hx.2,Bool.not_false]
    ·have hx' : (listed.setIfInBounds i true).getD i false = jf (fun k => listed.getD k false) i i := congrFun hset i
     rw [hx']
     simp [jf]
theorem qut {G : GP} {O : qw} (hm : P.follows .mixedOrders = true) (hG : jd P G) (hO : SoundCall P O) {nt : Nat} (id : Nat) (ops : Array Oper) (hd : q39 nt ops.toList) (hdr : q2x ops.toList = true)
  {a : Act} {s s' : St} (h : Inv w a s ι Im nt) {tm : Bool} (hr : ku G O ops.toList tm 0 ops.toList s [] = some s') (Q : Exit → Act → World → Prop)
  (hq : ∀ a' w',After w s.heap ι Im nt s' a' w' → Q .normal a' w') : (Code.region id ops true).wp P Q a w := by
 obtain ⟨cs,hch,hcl⟩ := q75 ops.toList hr
 obtain ⟨q1,q2,q3,q4,_,_⟩ := q67 hch h.nx 0
 refine wp_region_any hm ?_
 have hheap0 : ({ w with drawn := w.drawn + 1 } : World).heap = w.heap := rfl
 have hnone : (fun k => (Array.replicate ops.size false).getD k false) = fun _ => false := by
  funext k
  simp [Array.getElem?_replicate]
  split <;> rfl
 refine any_ok hG hO hd hdr hch h.nx hcl (w0 := w) (ι0 := ι) (Im0 := Im) Q (fun a' w' h' => ?_) ops.size _ a _ (by simp) ?_ ?_ ?_
 ·obtain ⟨ι',Im',p1,p2,p3,p4,p5⟩ := h'
  rw [← q2] at p1 p2 p5
  rw [← q1] at p2
  exact hq a' w' ⟨ι',Im',⟨p1,p2,q4,p3,p4⟩,p5⟩
 ·rw [hnone]
  intro j o _ hj
  cases hj
 ·have := List.length_filter_le (fun k => !(Array.replicate ops.size false).getD k false) (List.range ops.size)
  simpa using this
 ·rw [hnone]
  refine ⟨ι,Im, ?_,fun t => ?_,h.size,h.defers, ?_⟩
  ·rw [q2d _ _ _ _ fun _ _ => rfl]
   exact h.heap.zw hheap0 ⟨rfl,rfl⟩
  ·rw [q2d _ _ _ _ fun _ _ => rfl,q4w _ _ _ _ _ fun _ _ => rfl]
   exact (h.env t).zw hheap0 ⟨rfl,rfl⟩ h.heap
  ·rw [q2d _ _ _ _ fun _ _ => rfl]
   exact Evo.zw hheap0 ⟨rfl,rfl⟩
end
end Go.Gm
set_option linter.unusedSectionVars false
namespace Go.Gm
open Go
def jb : Code → List Nat
 | .seq a b => jb a ++ jb b
 | .block id (.loop c) => id :: jb c
 | .block _ c => jb c
 | .cond _ a b => jb a ++ jb b
 | .loop c => jb c
 | _ => []
def occ (id : Nat) (b : Code) : Code → Prop
 | .seq x y => occ id b x ∨ occ id b y
 | .block i (.loop c) => (i = id ∧ c = b) ∨ occ id b c
 | .block _ c => occ id b c
 | .cond _ x y => occ id b x ∨ occ id b y
 | .loop c => occ id b c
 | _ => False
theorem q6w {id : Nat} {b : Code} : ∀ {c : Code},occ id b c → id ∈ jb c := by
 intro c
 fun_induction jb c with
 | case1 x y ihx ihy =>
  intro h
  simp only [occ] at h
  simp only [List.mem_append]
  exact h.imp ihx ihy
 | case2 i c ih =>
  intro h
  simp only [occ] at h
  rcases h with ⟨rfl,_⟩ | h
  ·simp
  ·simp [ih h]
 | case3 i c hc ih =>
  intro h
  refine ih ?_
  cases c <;> first | exact absurd rfl (hc _) | exact h
 | case4 o x y ihx ihy =>
  intro h
  simp only [occ] at h
  simp only [List.mem_append]
  exact h.imp ihx ihy
 | case5 c ih =>
  intro h
  exact ih (by simpa only [occ] using h)
 | case6 c h1 h2 h3 h4 h5 =>
  intro h
  cases c <;> simp_all [occ]
theorem qa6 {id : Nat} : ∀ {c : Code},id ∉ jb c → zg c id = none := by
 intro c
 fun_induction jb c with
 | case1 x y ihx ihy =>
  intro h
  simp only [List.mem_append,not_or] at h
  simp [zg,ihx h.1,ihy h.2]
 | case2 i c ih =>
  intro h
  simp only [List.mem_cons,not_or] at h
  simp [zg,ih h.2,Ne.symm h.1]
 | case3 i c hc ih =>
  intro h
  have := ih h
  cases c <;> first | exact absurd rfl (hc _) | exact this
 | case4 o x y ihx ihy =>
  intro h
  simp only [List.mem_append,not_or] at h
  simp [zg,ihx h.1,ihy h.2]
 | case5 c ih =>
  intro h
  simpa only [zg] using ih h
 | case6 c h1 h2 h3 h4 h5 =>
  intro h
  cases c <;> simp_all [zg]
theorem qn4 {id : Nat} {b : Code} : ∀ {c : Code},(jb c).Nodup → occ id b c → zg c id = some b := by
 intro c
 fun_induction jb c with
 | case1 x y ihx ihy =>
  intro hn h
  rw [List.nodup_append] at hn
  simp only [occ] at h
  simp only [zg]
  rcases h with h | h
  ·rw [ihx hn.1 h]
  ·have h1 : id ∉ jb x := fun hx => hn.2.2 id hx id (q6w h) rfl
   rw [qa6 h1]
   exact ihy hn.2.1 h
 | case2 i c ih =>
  intro hn h
  rw [List.nodup_cons] at hn
  simp only [occ] at h
  simp only [zg]
  rcases h with ⟨rfl,rfl⟩ | h
  ·simp
  ·have : i ≠ id := fun e => hn.1 (e ▸ q6w h)
   rw [if_neg this]
   exact ih hn.2 h
 | case3 i c hc ih =>
  intro hn h
  cases c <;> first | exact absurd rfl (hc _) | exact ih hn h
 | case4 o x y ihx ihy =>
  intro hn h
  rw [List.nodup_append] at hn
  simp only [occ] at h
  simp only [zg]
  rcases h with h | h
  ·rw [ihx hn.1 h]
  ·have h1 : id ∉ jb x := fun hx => hn.2.2 id hx id (q6w h) rfl
   rw [qa6 h1]
   exact ihy hn.2.1 h
 | case5 c ih =>
  intro hn h
  simpa only [zg] using ih hn (by simpa only [occ] using h)
 | case6 c h1 h2 h3 h4 h5 =>
  intro hn h
  cases c <;> simp_all [occ]
def xq (nt : Nat) : Code → Bool
 | .region _ ops d => qcp nt ops.toList && (!d || q2x ops.toList)
 | .seq a b => xq nt a && xq nt b
 | .cond _ a b => xq nt a && xq nt b
 | .block _ c => xq nt c
 | .loop c => xq nt c
 | _ => true
section
variable [Globs] {P : Program} {w : World} {H : Heap} {ι : Plc} {Im : Nat → Prop}
theorem qbd {G : GP} {O : qw} (hm : P.follows .mixedOrders = true) (hG : jd P G) (hO : Sound P G O) (f : FuncId) (fi : FI) (hfi : G.fn f = some fi) (hnd : (jb fi.body).Nodup) :
  ∀ (c : Code),xq fi.nt c = true → (∀ id b,occ id b c → occ id b fi.body) → ∀ {w : World} {ι : Plc} {Im : Nat → Prop} {a : Act} {s s' : St} {ex : Ex},Inv w a s ι Im fi.nt →
   exec G O f c s = some (ex,s') → c.wp P (fun e a' w' => e = ex.q3m ∧ After w s.heap ι Im fi.nt s' a' w') a w := by
 intro c
 induction c with
 | skip =>
  intro _ _ w ι Im a s s' ex h hr
  simp only [exec,Option.some.injEq,Prod.mk.injEq] at hr
  obtain ⟨rfl,rfl⟩ := hr
  exact wp_skip ⟨rfl,ι,Im,h,Evo.refl _ _ _ _⟩
 | region id ops d =>
  intro hok _ w ι Im a s s' ex h hr
  simp only [xq,Bool.and_eq_true] at hok
  cases d with
  | false =>
   simp only [exec] at hr
   split at hr <;> cases hr
   rename_i hs
   obtain ⟨ι1,Im1,h1,e1⟩ := q5c (G.cmd f (2 * id)) h
   exact za9 hG hO.toSoundCall id ops (qcb hok.1) h1 hs _ fun a' w' haft => ⟨rfl,(haft.from e1).post _⟩
  | true =>
   simp only [exec] at hr
   split at hr <;> cases hr
   rename_i hs
   obtain ⟨ι0,Im0,h0,e0⟩ := q5c (G.cmd f (2 * id)) h
   obtain ⟨Im1,h1,e1⟩ := q2h (yw (zh (G.cmd f (2 * id)) s).env (zh (G.cmd f (2 * id)) s).heap (G.pre f id)) h0
   exact qut hm hG hO.toSoundCall id ops (qcb hok.1) (by simpa using hok.2) h1 hs _ fun a' w' haft => ⟨rfl,(haft.from (e0.trans e1)).post _⟩
 | seq x y ihx ihy =>
  intro hok hocc w ι Im a s s' ex h hr
  simp only [xq,Bool.and_eq_true] at hok
  simp only [exec] at hr
  refine wp_seq ?_
  split at hr
  ·rename_i s1 hs1
   refine wp_mono (ihx hok.1 (fun id b ho => hocc id b (by simp only [occ]; exact .inl ho)) h hs1) fun e a1 w1 ⟨he,ι1,Im1,h1,e1⟩ => ?_
   subst he
   refine wp_mono (ihy hok.2 (fun id b ho => hocc id b (by simp only [occ]; exact .inr ho)) h1 hr) fun e a2 w2 ⟨he,haft⟩ => ⟨he,haft.from e1⟩
  ·rename_i s1 hs1
   cases hr
   refine wp_mono (ihx hok.1 (fun id b ho => hocc id b (by simp only [occ]; exact .inl ho)) h hs1) fun e a1 w1 ⟨he,haft⟩ => ?_
   subst he
   exact ⟨rfl,haft⟩
  ·rename_i i s1 hs1
   cases hr
   refine wp_mono (ihx hok.1 (fun id b ho => hocc id b (by simp only [occ]; exact .inl ho)) h hs1) fun e a1 w1 ⟨he,haft⟩ => ?_
   subst he
   exact ⟨rfl,haft⟩
  ·cases hr
 | cond o x y ihx ihy =>
  intro hok hocc w ι Im a s s' ex h hr
  simp only [xq,Bool.and_eq_true] at hok
  simp only [exec] at hr
  split at hr
  rotate_left
  ·cases hr
  rename_i b hb
  have hv := mh h.env o
  rw [hb] at hv
  have hp := hv.zo
  generalize hvo : a.eval o = vo at hp
  cases hp
  refine wp_cond hvo ?_
  cases b with
  | true => exact ihx hok.1 (fun id b ho => hocc id b (by simp only [occ]; exact .inl ho)) h hr
  | false => exact ihy hok.2 (fun id b ho => hocc id b (by simp only [occ]; exact .inr ho)) h hr
 | block id c ih =>
  intro hok hocc w ι Im a s s' ex h hr
  simp only [xq] at hok
  refine wp_block ?_
  by_cases hl : ∃ b,c = .loop b
  ·obtain ⟨b,rfl⟩ := hl
   simp only [exec] at hr
   split at hr
   rotate_left
   ·cases hr
   rename_i s1 hs1
   obtain ⟨ι1,Im1,h1,e1,hlt⟩ := qqf (G.spec f id) h hs1
   have hfl := qn4 hnd (hocc id b (by simp [occ]))
   obtain ⟨hne,n,hwp⟩ := hO.loop f id _ ex s' hr fi b hfi hfl
   refine wp_mono (wp_loop_rounds n (hwp w ι1 Im1 a h1)) fun e a' w' ⟨he,haft⟩ => ?_
   have haft' : After w s.heap ι Im fi.nt s' a' w' := by
    obtain ⟨ι2,Im2,k1,k2⟩ := haft.from e1
    exact ⟨ι2,Im2,k1,k2.full hlt⟩
   cases ex with
   | normal =>
    simp only at he
    subst he
    simp only [Exit.inBlock,if_true]
    exact ⟨rfl,haft'⟩
   | ret =>
    simp only at he
    subst he
    exact ⟨rfl,haft'⟩
   | exit i =>
    simp only at he
    subst he
    simp only [Exit.inBlock,hne i rfl,if_false]
    exact ⟨rfl,haft'⟩
  ·have hex : exec G O f (.block id c) s = match exec G O f c s with
    | some (.exit i,s') => if i = id then some (.normal,s') else some (.exit i,s')
    | some (.normal,s') => some (.normal,s')
    | some (.ret,s') => some (.ret,s')
    | none => none := by
    cases c <;> first | rfl | exact absurd ⟨_,rfl⟩ hl
   rw [hex] at hr
   have hocc' : ∀ id b,occ id b c → occ id b fi.body := fun i b ho => hocc i b (by
    cases c <;> first | exact absurd ⟨_,rfl⟩ hl | (simp only [occ]; exact ho))
   split at hr
   ·rename_i i s1 hs1
    refine wp_mono (ih hok hocc' h hs1) fun e a' w' ⟨he,haft⟩ => ?_
    subst he
    by_cases hi : i = id
    ·rw [if_pos hi] at hr
     cases hr
     simp only [Ex.q3m,Exit.inBlock,if_pos hi]
     exact ⟨trivial,haft⟩
    ·rw [if_neg hi] at hr
     cases hr
     simp only [Ex.q3m,Exit.inBlock,if_neg hi]
     exact ⟨trivial,haft⟩
   ·rename_i s1 hs1
    cases hr
    refine wp_mono (ih hok hocc' h hs1) fun e a' w' ⟨he,haft⟩ => ?_
    subst he
    exact ⟨rfl,haft⟩
   ·rename_i s1 hs1
    cases hr
    refine wp_mono (ih hok hocc' h hs1) fun e a' w' ⟨he,haft⟩ => ?_
    subst he
    exact ⟨rfl,haft⟩
   ·cases hr
 | exit id =>
  intro _ _ w ι Im a s s' ex h hr
  simp only [exec,Option.some.injEq,Prod.mk.injEq] at hr
  obtain ⟨rfl,rfl⟩ := hr
  exact wp_exit ⟨rfl,ι,Im,h,Evo.refl _ _ _ _⟩
 | ret =>
  intro _ _ w ι Im a s s' ex h hr
  simp only [exec,Option.some.injEq,Prod.mk.injEq] at hr
  obtain ⟨rfl,rfl⟩ := hr
  exact wp_ret ⟨rfl,ι,Im,h,Evo.refl _ _ _ _⟩
 | _ => intro _ _ w ι Im a s s' ex h hr; simp [exec] at hr
end
end Go.Gm
set_option linter.unusedSectionVars false
namespace Go.Gm
open Go
theorem q9f {i id : Nat} {c : Code} (h : ∀ b,c ≠ .loop b) : zg (.block i c) id = zg c id := by
 cases c <;> first | rfl | exact absurd rfl (h _)
theorem ziu {nt : Nat} {id : Nat} {b : Code} : ∀ {c : Code},xq nt c = true → zg c id = some b → xq nt b = true := by
 intro c
 induction c with
 | seq x y ihx ihy =>
  intro h hf
  simp only [xq,Bool.and_eq_true] at h
  simp only [zg] at hf
  split at hf
  ·rename_i c0 hx
   cases hf
   exact ihx h.1 hx
  ·exact ihy h.2 hf
 | block i c ih =>
  intro h hf
  by_cases hl : ∃ x,c = .loop x
  ·obtain ⟨x,rfl⟩ := hl
   simp only [xq] at h ih
   simp only [zg] at hf ih
   split at hf
   ·cases hf; exact h
   ·exact ih h hf
  ·rw [q9f fun x e => hl ⟨x,e⟩] at hf
   exact ih (by simpa only [xq] using h) hf
 | cond o x y ihx ihy =>
  intro h hf
  simp only [xq,Bool.and_eq_true] at h
  simp only [zg] at hf
  split at hf
  ·rename_i c0 hx
   cases hf
   exact ihx h.1 hx
  ·exact ihy h.2 hf
 | loop c ih =>
  intro h hf
  simp only [xq] at h
  simp only [zg] at hf
  exact ih h hf
 | _ => intro h hf; simp [zg] at hf
theorem qp7 {id : Nat} {b : Code} : ∀ {c : Code},zg c id = some b → ∀ i x,occ i x b → occ i x c := by
 intro c
 induction c with
 | seq x y ihx ihy =>
  intro hf i z hz
  simp only [zg] at hf
  simp only [occ]
  split at hf
  ·rename_i c0 hx
   cases hf
   exact .inl (ihx hx i z hz)
  ·exact .inr (ihy hf i z hz)
 | block j c ih =>
  intro hf i z hz
  by_cases hl : ∃ x,c = .loop x
  ·obtain ⟨x,rfl⟩ := hl
   simp only [zg] at hf ih
   simp only [occ] at ih ⊢
   split at hf
   ·cases hf; exact .inr hz
   ·exact .inr (ih hf i z hz)
  ·rw [q9f fun x e => hl ⟨x,e⟩] at hf
   have := ih hf i z hz
   cases c <;> first | exact absurd ⟨_,rfl⟩ hl | exact this
 | cond o x y ihx ihy =>
  intro hf i z hz
  simp only [zg] at hf
  simp only [occ]
  split at hf
  ·rename_i c0 hx
   cases hf
   exact .inl (ihx hx i z hz)
  ·exact .inr (ihy hf i z hz)
 | loop c ih =>
  intro hf i z hz
  simp only [zg] at hf
  simp only [occ]
  exact ih hf i z hz
 | _ => intro hf; simp [zg] at hf
structure q34 (P : Program) (G : GP) : Prop where
 fn : ∀ f fi,G.fn f = some fi → ∃ fn,P.funcs[f]? = some fn ∧ (fn.name == "runtime.NumGoroutine") = false ∧ fn.body = some fi.body ∧ fn.ntmps = fi.nt ∧ fn.results.toList = fi.results ∧
  xq fi.nt fi.body = true ∧ (jb fi.body).Nodup
section
variable [Globs] {P : Program} {w : World} {H : Heap} {ι : Plc} {Im : Nat → Prop}
theorem qn0 {G : GP} {O : qw} (hm : P.follows .mixedOrders = true) (hG : jd P G) (hF : q34 P G) (hO : Sound P G O) {f : FuncId} {id : Nat} {s s' : St} {ex : Ex}
  (hr : uf G O f id s = some (ex,s')) : qag P G f id s ex s' := by
 intro fi c hfi hc
 obtain ⟨fn,_,_,_,_,_,hok,hnd⟩ := hF.fn f fi hfi
 have hbody : ∀ {w : World} {ι : Plc} {Im : Nat → Prop} {a : Act} {s s' : St} {ex : Ex},Inv w a s ι Im fi.nt → exec G O f c s = some (ex,s') →
   c.wp P (fun e a' w' => e = ex.q3m ∧ After w s.heap ι Im fi.nt s' a' w') a w :=
  fun h hr => qbd hm hG hO f fi hfi hnd c (ziu hok hc) (qp7 hc) h hr
 unfold uf at hr
 rw [hfi] at hr
 simp only [hc] at hr
 split at hr
 ·rename_i s1 hs1
  split at hr
  rotate_left
  ·cases hr
  rename_i s2 hs2
  obtain ⟨hne,n,hn⟩ := hO.loop f id s2 ex s' hr fi c hfi hc
  refine ⟨hne,n + 1,fun w ι Im a h => ?_⟩
  rw [rounds_succ]
  refine wp_mono (hbody h hs1) fun e a' w' ⟨he,ι1,Im1,h1,e1⟩ => ?_
  subst he
  obtain ⟨Im2,h1,e2⟩ := q2h (yw s1.env s1.heap (G.spec f id).freeze) h1
  obtain ⟨ι2,h2,e2,hnx⟩ := zch (G.spec f id) h1 h.nx (e1.trans e2) hs2
  have hmono : ∀ (n : Nat) {Q Q' : Exit → Act → World → Prop} {a : Act} {w : World},(∀ e a w,Q e a w → Q' e a w) → Code.rounds P c Q n a w → Code.rounds P c Q' n a w := by
   intro n
   induction n with
   | zero => intro Q Q' a w _ h; exact h
   | succ n ih =>
    intro Q Q' a w hq h
    rw [rounds_succ] at h ⊢
    refine wp_mono h fun e a w he => ?_
    cases e <;> first | exact ih hq he | exact hq _ _ _ he
  exact hmono n (fun e a w ⟨q1,q2⟩ => ⟨q1,(q2.less hnx).from e2⟩) (hn _ _ _ _ h2)
 ·rename_i i s1 hs1
  by_cases hi : i = id
  ·rw [if_pos hi] at hr
   obtain ⟨hleft,rfl⟩ := q7a hr
   refine ⟨fun i h => (by cases h),1,fun w ι Im a h => ?_⟩
   rw [rounds_succ]
   refine wp_mono (hbody h hs1) fun e a' w' ⟨he,ι1,Im1,h1,e1⟩ => ?_
   subst he
   obtain ⟨ι2,h2,e2⟩ := q77 (G.spec f id) h1 h.nx e1 hleft
   exact ⟨by rw [← hi]; rfl,_,_,h2,e2⟩
  ·rw [if_neg hi] at hr
   obtain ⟨hleft,rfl⟩ := q7a hr
   refine ⟨fun j h => (by cases h; exact hi),1,fun w ι Im a h => ?_⟩
   rw [rounds_succ]
   refine wp_mono (hbody h hs1) fun e a' w' ⟨he,ι1,Im1,h1,e1⟩ => ?_
   subst he
   obtain ⟨ι2,h2,e2⟩ := q77 (G.spec f id) h1 h.nx e1 hleft
   exact ⟨rfl,_,_,h2,e2⟩
 ·rename_i s1 hs1
  obtain ⟨hleft,rfl⟩ := q7a hr
  refine ⟨fun i h => (by cases h),1,fun w ι Im a h => ?_⟩
  rw [rounds_succ]
  refine wp_mono (hbody h hs1) fun e a' w' ⟨he,ι1,Im1,h1,e1⟩ => ?_
  subst he
  obtain ⟨ι2,h2,e2⟩ := q77 (G.spec f id) h1 h.nx e1 hleft
  exact ⟨rfl,_,_,h2,e2⟩
 ·cases hr
theorem zii {ti : TI} {x r : AV} {v : Value} (hx : RA w H ι Im x v) (hr : ni ti x H = some r) : ∃ a,v = .pointer (some a) := by
 unfold ni at hr
 split at hr
 ·cases hx; exact ⟨_,rfl⟩
 ·cases hx; exact ⟨_,rfl⟩
 ·cases hx; exact ⟨_,rfl⟩
 ·cases hx with | pv _ _ h => cases h; exact ⟨_,rfl⟩
 ·cases hr
def q2p (tmps : Array Value) : ResultVar → Sem Value
 | .tmp t => pure (tmps.getD t undef)
 | .cell a t => do loadVar t (← asAddr (tmps.getD a undef))
theorem zl2 (fn : Func) (tmps : Array Value) : results fn tmps = (do
  let vs ← fn.results.mapM (q2p tmps)
  pure (if h : vs.size = 1 then vs[0] else .tuple vs)) := by
 unfold results
 rfl
theorem qsv {G : GP} (hG : jd P G) {a : Act} {s : St} {nt : Nat} (h : Inv w a s ι Im nt) {rv : ResultVar} {x : AV} (hr : q35 G s rv = some x) :
  ∃ v,(q2p a.tmps rv).run P w = .ok v w ∧ RA w s.heap ι Im x v := by
 cases rv with
 | tmp t =>
  simp only [q35,Option.some.injEq] at hr
  subst hr
  exact ⟨_,by simp only [q2p,Sem.run_pure],h.env t⟩
 | cell b t =>
  simp only [q35] at hr
  split at hr
  rotate_left
  ·cases hr
  rename_i ti hti
  obtain ⟨ad,had⟩ := zii (h.env b) hr
  obtain ⟨u,h1,h2⟩ := qb5 (hG t ti hti) h.heap (h.env b) hr
  refine ⟨u, ?_,h2⟩
  rw [had] at h1
  simp only [Instr.loadAt,Instr.sureAddr,pure_bind] at h1
  simp only [q2p,had,asAddr,pure_bind]
  exact h1
theorem qa1 {G : GP} (hG : jd P G) {a : Act} {s : St} {nt : Nat} (h : Inv w a s ι Im nt) : ∀ {rs : List ResultVar} {xs : List AV},gm G s rs = some xs →
  ∃ vs : List Value,(rs.mapM (q2p a.tmps)).run P w = .ok vs w ∧ xs.length = vs.length ∧ ∀ (i : Nat) x v,xs[i]? = some x → vs[i]? = some v → RA w s.heap ι Im x v
 | [],xs,hr => by
  simp only [gm,Option.some.injEq] at hr
  subst hr
  exact ⟨[],by simp,rfl,by simp⟩
 | r :: l,xs,hr => by
  simp only [gm] at hr
  split at hr
  rotate_left
  ·cases hr
  rename_i v vs h1 h2
  cases hr
  obtain ⟨u,q1,q2⟩ := qsv hG h h1
  obtain ⟨us,q3,q4,q5⟩ := qa1 hG h h2
  refine ⟨u :: us, ?_,by simp [q4],fun i x v hx hv => ?_⟩
  ·rw [List.mapM_cons]
   simp only [Sem.run_bind,q1,q3,Result.andThen_ok,Sem.run_pure]
  ·cases i with
   | zero => simp at hx hv; subst hx; subst hv; exact q2
   | succ i => simp at hx hv; exact q5 i x v hx hv
theorem qlu {G : GP} (hG : jd P G) {fn : Func} {a : Act} {s : St} {nt : Nat} (h : Inv w a s ι Im nt) {xs : List AV} (hr : gm G s fn.results.toList = some xs) :
  ∃ v,(results fn a.tmps).run P w = .ok v w ∧ RA w s.heap ι Im (q13 xs) v := by
 obtain ⟨vs,h1,h2,h3⟩ := qa1 hG h hr
 rw [zl2,Array.mapM_eq_mapM_toList]
 have h1' : (Functor.map List.toArray (fn.results.toList.mapM (q2p a.tmps)) : Sem (Array Value)).run P w = .ok vs.toArray w := by
  rw [map_eq_pure_bind,Sem.run_bind,h1,Result.andThen_ok,Sem.run_pure]
 rw [Sem.run_bind,h1',Result.andThen_ok,Sem.run_pure]
 refine ⟨_,rfl, ?_⟩
 split
 ·rename_i hs
  obtain ⟨v,rfl⟩ : ∃ v,vs = [v] := by
   cases vs with
   | nil => simp at hs
   | cons v r => cases r with
    | nil => exact ⟨v,rfl⟩
    | cons _ _ => simp at hs
  obtain ⟨x,rfl⟩ : ∃ x,xs = [x] := by
   cases xs with
   | nil => simp at h2
   | cons v r => cases r with
    | nil => exact ⟨v,rfl⟩
    | cons _ _ => simp at h2
  exact h3 0 x v rfl rfl
 ·rename_i hs
  have : q13 xs = .tup xs := by
   unfold q13
   split
   ·exfalso
    apply hs
    simpa using h2.symm
   ·rfl
  rw [this]
  exact .tup xs vs h2 h3
theorem qbk : ∀ {args : List AV} {vs : List Value} (k : Nat),args.length = vs.length → (∀ (i : Nat) x v,args[i]? = some x → vs[i]? = some v → RA w H ι Im x v) →
  ∀ t,(wz k args).get t = .undef ∨ ∃ i x v,t = k + i ∧ args[i]? = some x ∧ vs[i]? = some v ∧ (wz k args).get t = x
 | [],vs,k,_,_,t => .inl rfl
 | x :: r,[],k,h,_,t => by simp at h
 | x :: r,v :: us,k,hl,h,t => by
  simp only [wz,Env.get]
  split
  ·rename_i e
   exact .inr ⟨0,x,v,by omega,rfl,rfl,rfl⟩
  ·rcases qbk (args := r) (vs := us) (k + 1) (by simpa using hl) (fun i x v h1 h2 => h (i + 1) x v (by simpa using h1) (by simpa using h2)) t with g | ⟨i,y,u,e,g1,g2,g3⟩
   ·exact .inl g
   ·exact .inr ⟨i + 1,y,u,by omega,by simpa using g1,by simpa using g2,g3⟩
theorem zba {x : AV} {v : Value} (h : RA w H ι Im x v) : RA w H ι Im (unz x) v := by
 cases h with
 | zsl a =>
  exact .pv _ _ (.sl 0 [] a.block a.off 0 (fun _ => undef) (fun h => absurd rfl h) (by simp) (by simp) (by simp) (by simp) (by simp) a.spot (fun h => absurd rfl h))
 | undef v => exact .undef v
 | pv p v h => exact .pv p v h
 | ptr β o c hb hk => exact .ptr β o c hb hk
 | eptr β ver i o b1 o1 b hb hver h => exact .eptr β ver i o b1 o1 b hb hver h
 | row β ver off n v b ho hb hk hver h => exact .row β ver off n v b ho hb hk hver h
 | rptr c o b off vs him hc hf h => exact .rptr c o b off vs him hc hf h
 | map β es clock hb => exact .map β es clock hb
 | qj β es clock hb => exact .qj β es clock hb
 | clo f a b va vb hla hlb ha hb => exact .clo f a b va vb hla hlb ha hb
 | agg c vs hl hf h => exact .agg c vs hl hf h
 | tup c vs hl h => exact .tup c vs hl h
theorem qdj {w0 : World} {H0 : Heap} {ι0 : Plc} {Im0 : Nat → Prop} {L : List Nat} {H' : Heap} (hs : q06 H L H') (he : Evo w0 H0 ι0 Im0 w H ι Im) {m : Nat} {r : List Nat} (hL : L = List.range m ++ r)
  (hm : ∀ β b,H0.get β = some b → β < m) : Evo w0 H0 ι0 Im0 w H' (kg ι L) Im where
 comp := fun β b hb => by
  obtain ⟨b',q1,q2⟩ := he.comp β b hb
  have hl : L[β]? = some β := by rw [hL]; exact q9u m r (hm β b hb)
  refine ⟨b'.ren (pos L),by rw [hs.look,hl]; simp [q1], ?_⟩
  have : kg ι L β = ι β := by simp [kg,hl]
  rw [this]
  exact qb3 _ q2
 im := he.im
 imnew := he.imnew
 plnew := fun γ x z hx hu => by
  obtain ⟨β,b0,h1,h2,rfl,h4⟩ := hs.inv (ι := ι) hx
  rw [Blk.ym,h4] at hu
  exact he.plnew β b0 z h2 hu
 same := he.same
 size := he.size
 io := he.io
theorem qzf {w0 : World} {H0 : Heap} {ι0 : Plc} {Im0 : Nat → Prop} {a : Act} {s : St} {nt : Nat} (h : Inv w a s ι Im nt) {x : AV} {u : Value} (hx : RA w s.heap ι Im x u)
  (he : Evo w0 H0 ι0 Im0 w s.heap ι Im) {m : Nat} (hm : ∀ β b,H0.get β = some b → β < m) {keep : Bool} {r : AV} {H' : Heap} (hr : finish m keep x s = some (r,H')) :
  ∃ ι' Im',qa w H' ι' Im' ∧ Evo w0 H0 ι0 Im0 w H' ι' Im' ∧ RA w H' ι' Im' r u := by
 have hinv : Inv w ⟨#[u],[]⟩ { s with env := [(0,x)] } ι Im 0 := by
  refine ⟨h.heap,fun t => ?_,h.nx,Nat.zero_le _,rfl⟩
  cases t with
  | zero => simpa [Env.get] using hx
  | succ t => simp only [Env.get]; rw [if_neg (by omega)]; exact .undef _
 have key : ∀ {s1 : St} {Im1 : Nat → Prop},Inv w ⟨#[u],[]⟩ s1 ι Im1 0 → Evo w s.heap ι Im w s1.heap ι Im1 → (match gp s1.heap (List.range m) (unz (s1.env.get 0)).refs with
   | some (L,H) => some ((unz (s1.env.get 0)).ren (pos L),H)
   | none => none) = some (r,H') → ∃ ι' Im',qa w H' ι' Im' ∧ Evo w0 H0 ι0 Im0 w H' ι' Im' ∧ RA w H' ι' Im' r u := by
  intro s1 Im1 h1 e1 hr
  split at hr <;> cases hr
  rename_i L hsub
  obtain ⟨hs,hroots,rr,hL⟩ := q5n List.nodup_range hsub
  refine ⟨kg ι L,Im1,hs.hinv h1.heap,qdj hs (he.trans e1) hL hm, ?_⟩
  have hv := zba (h1.env 0)
  simp only [Array.getD] at hv
  exact q0l _ hv fun β hβ b hb => hs.conn (hroots β hβ) b hb
 unfold finish at hr
 cases keep with
 | true =>
  simp only [if_true] at hr
  exact key hinv (Evo.refl _ _ _ _) hr
 | false =>
  simp only [Bool.false_eq_true,if_false] at hr
  obtain ⟨Im1,h1,e1⟩ := q2h x.rows hinv
  exact key h1 e1 hr
theorem qrc {G : GP} {O : qw} (hm : P.follows .mixedOrders = true) (hG : jd P G) (hF : q34 P G) (hO : Sound P G O) {f : FuncId} {args : List AV} {H : Heap} {r : AV} {H' : Heap}
  (hr : uy G O f args H = some (r,H')) : enters P f ∧ mi P f args H r H' := by
 unfold uy at hr
 split at hr
 ·cases hr
 rename_i fi hfi
 obtain ⟨fn,g1,g2,g3,g4,g5,hok,hnd⟩ := hF.fn f fi hfi
 refine ⟨⟨fn,g1,g2,by rw [g3]; rfl⟩,fun w ι Im vs hi hl hR => ?_⟩
 split at hr
 rotate_left
 ·cases hr
 rename_i hk
 have hlt : ∀ β b,H.get β = some b → β < H.length := fun β b hb => by
  have := (q2o H 0 hk hb).2
  omega
 have hinv : Inv w { tmps := (⟨vs⟩ : Array Value) ++ Array.replicate (fn.ntmps - (⟨vs⟩ : Array Value).size) undef,defers := [] } ⟨wz 0 args,H,H.length⟩ ι Im fi.nt := by
  refine ⟨hi,fun t => ?_,hlt, ?_,rfl⟩
  ·simp only
   rcases qbk 0 hl hR t with h | ⟨i,x,v,e,h1,h2,h3⟩
   ·rw [h]; exact .undef _
   ·rw [h3]
    have : t = i := by omega
    subst this
    have ht : t < vs.length := (List.getElem?_eq_some_iff.1 h2).1
    have : (((⟨vs⟩ : Array Value) ++ Array.replicate (fn.ntmps - (⟨vs⟩ : Array Value).size) undef).getD t undef) = v := by
     rw [Array.getD_eq_getD_getElem?,Array.getElem?_append_left (by simpa using ht)]
     simp only [List.getElem?_toArray,h2,Option.getD_some]
    rw [this]
    exact hR t x v h1 h2
  ·simp only [Array.size_append,Array.size_replicate]
   omega
 have hwp : ∀ {s s' : St} {ex : Ex} {w : World} {ι : Plc} {Im : Nat → Prop} {a : Act},Inv w a s ι Im fi.nt → exec G O f fi.body s = some (ex,s') →
   fi.body.wp P (fun e a' w' => e = ex.q3m ∧ After w s.heap ι Im fi.nt s' a' w') a w :=
  fun h hr => qbd hm hG hO f fi hfi hnd fi.body hok (fun _ _ h => h) h hr
 have close : ∀ {s : St} {ex : Ex},exec G O f fi.body ⟨wz 0 args,H,H.length⟩ = some (ex,s) → (ex = .normal ∨ ex = .ret) → (match gm G (zh (G.cmd f 999999) s) fi.results with
   | some vs => finish H.length (G.keep f) (q13 vs) (zh (G.cmd f 999999) s)
   | none => none) = some (r,H') → Calls P f ⟨vs⟩ w fun e w' => ∃ v ι' Im',e = .returned v ∧ qa w' H' ι' Im' ∧ Evo w H ι Im w' H' ι' Im' ∧ RA w' H' ι' Im' r v := by
  intro s ex hs hex hr
  split at hr
  rotate_left
  ·cases hr
  rename_i xs hxs
  refine calls_of_wp g1 g3 (wp_mono (hwp hinv hs) fun e a' w' ⟨he,haft⟩ => ?_)
  obtain ⟨ι1,Im1,h1,e1⟩ := haft.post (G.cmd f 999999)
  subst he
  rw [← g5] at hxs
  obtain ⟨v,q1,q2⟩ := qlu hG h1 hxs
  obtain ⟨ι2,Im2,k1,k2,k3⟩ := qzf h1 q2 e1 hlt hr
  rcases hex with rfl | rfl
  ·exact ⟨h1.defers,v,q1,v,ι2,Im2,rfl,k1,k2,k3⟩
  ·exact ⟨h1.defers,v,q1,v,ι2,Im2,rfl,k1,k2,k3⟩
 split at hr
 ·cases hr
 ·rename_i ex s hne hs
  refine close hs ?_ hr
  cases ex with
  | normal => exact .inl rfl
  | ret => exact .inr rfl
  | exit i => exact absurd rfl (hne i)
 ·cases hr
def q5l [Globs] (P : Program) (S : Special) : Prop := ∀ f g,S.call f = some g → ∀ args H r H',g args H = some (r,H') → enters P f ∧ mi P f args H r H'
theorem q91 [Globs] {G : GP} {S : Special} (hm : P.follows .mixedOrders = true) (hG : jd P G) (hF : q34 P G) (hS : q5l P S) : ∀ n,Sound P G (orc G S n)
 | 0 => ⟨⟨fun _ _ _ _ _ h => by simp [orc] at h⟩,fun _ _ _ _ _ h => by simp [orc] at h⟩
 | n + 1 => by
  have ih := q91 hm hG hF hS n
  refine ⟨⟨fun f args H r H' h => ?_⟩,fun f id s ex s' h => ?_⟩
  ·simp only [orc] at h
   split at h
   ·rename_i g hg
    exact hS f g hg args H r H' h
   ·exact qrc hm hG hF ih h
  ·simp only [orc] at h
   exact qn0 hm hG hF ih h
end
end Go.Gm
set_option linter.unusedSectionVars false
namespace Go.Gm
open Go
def Ends (p : Nat → Prop) : Prop := ∃ n,∀ m,n ≤ m → p m
theorem Ends.and {p q : Nat → Prop} (h1 : Ends p) (h2 : Ends q) : Ends fun m => p m ∧ q m :=
 let ⟨a,ha⟩ := h1
 let ⟨b,hb⟩ := h2
 ⟨max a b,fun m hm => ⟨ha m (by omega),hb m (by omega)⟩⟩
theorem Ends.mono {p q : Nat → Prop} (h : ∀ m,p m → q m) (h1 : Ends p) : Ends q :=
 let ⟨a,ha⟩ := h1
 ⟨a,fun m hm => h m (ha m hm)⟩
theorem Ends.of {p : Prop} (h : p) : Ends fun _ => p := ⟨0,fun _ _ => h⟩
theorem Ends.now {p : Nat → Prop} (h : Ends p) : ∃ n,p n := let ⟨a,ha⟩ := h; ⟨a,ha a (Nat.le_refl _)⟩
open Classical in
noncomputable def limit {α : Type} (F : Nat → Option α) : Option α :=
 if h : ∃ r,Ends fun m => F m = some r then some h.choose else none
theorem q0j {α : Type} {F : Nat → Option α} {r : α} : limit F = some r ↔ Ends fun m => F m = some r := by
 unfold limit
 constructor
 ·intro h
  split at h
  ·rename_i hx
   cases h
   exact hx.choose_spec
  ·cases h
 ·intro h
  have hx : ∃ r,Ends fun m => F m = some r := ⟨r,h⟩
  rw [dif_pos hx]
  obtain ⟨n,h1,h2⟩ := (h.and hx.choose_spec).now
  rw [h1] at h2
  exact h2.symm
noncomputable def omega (G : GP) (S : Special) : qw :=
 ⟨fun f args H => limit fun n => (orc G S n).call f args H,fun f id s => limit fun n => (orc G S n).loop f id s⟩
section
variable {G : GP} {S : Special}
variable {O : qw} {F : Nat → qw}
structure uj (O : qw) (F : Nat → qw) : Prop where
 call : ∀ f args H r,O.call f args H = some r → Ends fun m => (F m).call f args H = some r
 loop : ∀ f id s r,O.loop f id s = some r → Ends fun m => (F m).loop f id s = some r
theorem qb6 (hA : uj O F) {f : FuncId} {args : List AV} {H : Heap} {nx : Nat} {e : Eff} (h : ve O f args H nx = some e) : Ends fun m => ve (F m) f args H nx = some e := by
 unfold ve at h ⊢
 split at h
 ·cases h
 rename_i L H0 hs
 split at h
 ·cases h
 rename_i v H' hc
 refine (hA.call _ _ _ _ hc).mono fun m hm => ?_
 rw [hm]
 exact h
theorem qbp (hA : uj O F) {o : Op} {E : Env} {H : Heap} {nx : Nat} {e : Eff} (h : aop G O o E H nx = some e) : Ends fun m => aop G (F m) o E H nx = some e := by
 cases o with
 | call c =>
  obtain ⟨callee,args,tys⟩ := c
  cases callee with
  | value fo =>
   unfold aop at h ⊢
   simp only at h ⊢
   split at h
   ·exact qb6 hA h
   ·exact qb6 hA h
   ·cases h
  | _ => exact Ends.of h
 | makeFunc fn a b => cases fn <;> exact Ends.of h
 | makeMap t r => cases r <;> exact Ends.of h
 | _ => exact Ends.of h
theorem zfn (hA : uj O F) {o : Oper} {s s' : St} (h : q0c G O o s = some s') : Ends fun m => q0c G (F m) o s = some s' := by
 unfold q0c at h ⊢
 split at h
 ·rename_i v ws nx hop
  refine (qbp hA hop).mono fun m hm => ?_
  rw [hm]
  exact h
 ·cases h
theorem q6u (hA : uj O F) (all : List Oper) : ∀ {l : List Oper} {s s' : St},vg G O all l s = some s' → Ends fun m => vg G (F m) all l s = some s'
 | [],s,s',h => Ends.of h
 | o :: r,s,s',h => by
  simp only [vg] at h ⊢
  split at h
  ·split at h
   ·rename_i s1 hs1
    refine ((zfn hA hs1).and (q6u hA all h)).mono fun m ⟨h1,h2⟩ => ?_
    simp only [h1,h2]
   ·cases h
  ·exact q6u hA all h
  ·cases h
theorem q6n (hA : uj O F) (all : List Oper) {tm : Bool} : ∀ {l : List Oper} {i : Nat} {s s' : St} {log : List (Nat × List Nat × List Nat)},ku G O all tm i l s log = some s' → Ends fun m => ku G (F m) all tm i l s log = some s'
 | [],i,s,s',log,h => Ends.of h
 | o :: r,i,s,s',log,h => by
  simp only [ku] at h ⊢
  split at h
  ·split at h
   ·rename_i v ws nx hop
    refine ((qbp hA hop).and (q6n hA all h)).mono fun m ⟨h1,h2⟩ => ?_
    rw [h1]
    exact h2
   ·cases h
  ·exact q6n hA all h
  ·cases h
theorem q57 (hA : uj O F) {f : FuncId} : ∀ {c : Code} {s : St} {r : Ex × St},exec G O f c s = some r → Ends fun m => exec G (F m) f c s = some r := by
 intro c
 induction c with
 | region id ops d =>
  intro s r h
  cases d with
  | false =>
   simp only [exec] at h ⊢
   split at h <;> cases h
   rename_i s1 hs1
   refine (q6u hA _ hs1).mono fun m hm => ?_
   rw [hm]
  | true =>
   simp only [exec] at h ⊢
   split at h <;> cases h
   rename_i s1 hs1
   refine (q6n hA _ hs1).mono fun m hm => ?_
   rw [hm]
 | seq x y ihx ihy =>
  intro s r h
  simp only [exec] at h ⊢
  split at h
  ·rename_i s1 hs1
   refine ((ihx hs1).and (ihy h)).mono fun m ⟨h1,h2⟩ => ?_
   rw [h1]
   exact h2
  ·rename_i s1 hs1
   refine (ihx hs1).mono fun m h1 => ?_
   rw [h1]
   exact h
  ·rename_i i s1 hs1
   refine (ihx hs1).mono fun m h1 => ?_
   rw [h1]
   exact h
  ·cases h
 | cond o x y ihx ihy =>
  intro s r h
  simp only [exec] at h ⊢
  split at h
  ·rename_i b hb
   cases b with
   | true => exact ihx h
   | false => exact ihy h
  ·cases h
 | block id c ih =>
  intro s r h
  by_cases hl : ∃ b,c = .loop b
  ·obtain ⟨b,rfl⟩ := hl
   simp only [exec] at h ⊢
   split at h
   ·exact hA.loop _ _ _ _ h
   ·cases h
  ·have hex : ∀ O,exec G O f (.block id c) s = match exec G O f c s with
    | some (.exit i,s') => if i = id then some (.normal,s') else some (.exit i,s')
    | some (.normal,s') => some (.normal,s')
    | some (.ret,s') => some (.ret,s')
    | none => none := by
    intro O
    cases c <;> first | rfl | exact absurd ⟨_,rfl⟩ hl
   simp only [hex] at h ⊢
   split at h
   ·rename_i i s1 hs1
    refine (ih hs1).mono fun m h1 => ?_
    rw [h1]
    exact h
   ·rename_i s1 hs1
    refine (ih hs1).mono fun m h1 => ?_
    rw [h1]
    exact h
   ·rename_i s1 hs1
    refine (ih hs1).mono fun m h1 => ?_
    rw [h1]
    exact h
   ·cases h
 | skip => intro s r h; exact Ends.of h
 | exit id => intro s r h; exact Ends.of h
 | ret => intro s r h; exact Ends.of h
 | _ => intro s r h; simp [exec] at h
theorem q6v (hA : uj O F) {f : FuncId} {id : Nat} {s : St} {r : Ex × St} (h : uf G O f id s = some r) : Ends fun m => uf G (F m) f id s = some r := by
 unfold uf at h ⊢
 split at h
 ·cases h
 rename_i fi hfi
 split at h
 ·cases h
 rename_i c hc
 split at h
 ·rename_i s1 hs1
  split at h
  ·rename_i s2 hs2
   refine ((q57 hA hs1).and (hA.loop _ _ _ _ h)).mono fun m ⟨h1,h2⟩ => ?_
   simp only [h1,hs2,h2]
  ·cases h
 ·rename_i i s1 hs1
  refine (q57 hA hs1).mono fun m h1 => ?_
  simp only [h1]
  exact h
 ·rename_i s1 hs1
  refine (q57 hA hs1).mono fun m h1 => ?_
  simp only [h1]
  exact h
 ·cases h
theorem q7c (hA : uj O F) {f : FuncId} {args : List AV} {H : Heap} {r : AV × Heap} (h : uy G O f args H = some r) : Ends fun m => uy G (F m) f args H = some r := by
 unfold uy at h ⊢
 split at h
 ·cases h
 rename_i fi hfi
 split at h
 rotate_left
 ·cases h
 rename_i hk
 simp only [hk,if_true]
 split at h
 ·cases h
 ·rename_i ex s hne hs
  refine (q57 hA hs).mono fun m h1 => ?_
  rw [h1]
  cases ex with
  | exit i => exact absurd rfl (hne i)
  | _ => exact h
 ·cases h
theorem qb0 : uj (omega G S) (orc G S) := ⟨fun _ _ _ _ h => q0j.1 h,fun _ _ _ _ h => q0j.1 h⟩
theorem q6b : ∀ n,uj (orc G S n) fun _ => orc G S (n + 1)
 | 0 => ⟨fun _ _ _ _ h => by simp [orc] at h,fun _ _ _ _ h => by simp [orc] at h⟩
 | n + 1 => by
  have ih := q6b n
  refine ⟨fun f args H r h => ?_,fun f id s r h => ?_⟩
  ·rw [orc] at h ⊢
   simp only at h ⊢
   split at h
   ·exact Ends.of h
   ·exact q7c ih h
  ·rw [orc] at h ⊢
   simp only at h ⊢
   exact q6v ih h
theorem xe {n : Nat} {f : FuncId} {args : List AV} {H : Heap} {r : AV × Heap} (h : (orc G S n).call f args H = some r) : (omega G S).call f args H = some r := by
 refine q0j.2 ⟨n,fun m hm => ?_⟩
 obtain ⟨k,rfl⟩ := Nat.exists_eq_add_of_le hm
 induction k with
 | zero => exact h
 | succ k ih =>
  obtain ⟨_,h2⟩ := ((q6b (n + k)).call f args H r (ih (by omega))).now
  exact h2
theorem zbl {f : FuncId} {args : List AV} {H : Heap} {r : AV × Heap} (hs : S.call f = none) (h : uy G (omega G S) f args H = some r) : (omega G S).call f args H = some r := by
 refine q0j.2 ?_
 obtain ⟨n,hn⟩ := q7c qb0 h
 refine ⟨n + 1,fun m hm => ?_⟩
 obtain ⟨k,rfl⟩ : ∃ k,m = k + 1 := ⟨m - 1,by omega⟩
 simp only [orc,hs]
 exact hn k (by omega)
theorem zkj {f : FuncId} {id : Nat} {s : St} {r : Ex × St} (h : uf G (omega G S) f id s = some r) : (omega G S).loop f id s = some r := by
 refine q0j.2 ?_
 obtain ⟨n,hn⟩ := q6v qb0 h
 refine ⟨n + 1,fun m hm => ?_⟩
 obtain ⟨k,rfl⟩ : ∃ k,m = k + 1 := ⟨m - 1,by omega⟩
 simp only [orc]
 exact hn k (by omega)
theorem qo8 [Globs] {P : Program} (hm : P.follows .mixedOrders = true) (hG : jd P G) (hF : q34 P G) (hS : q5l P S) {f : FuncId} {args : List AV} {H : Heap} {r : AV} {H' : Heap}
  (h : (omega G S).call f args H = some (r,H')) : mi P f args H r H' := by
 obtain ⟨n,hn⟩ := (q0j.1 h).now
 exact ((q91 hm hG hF hS n).call f args H r H' hn).2
theorem ql0 {n : Nat} {f : FuncId} {id : Nat} {s : St} {r : Ex × St} (h : (orc G S n).loop f id s = some r) : (omega G S).loop f id s = some r := by
 refine q0j.2 ⟨n,fun m hm => ?_⟩
 obtain ⟨k,rfl⟩ := Nat.exists_eq_add_of_le hm
 induction k with
 | zero => exact h
 | succ k ih =>
  obtain ⟨_,h2⟩ := ((q6b (n + k)).loop f id s r (ih (by omega))).now
  exact h2
theorem q97 (n : Nat) : uj (orc G S n) fun _ => omega G S :=
 ⟨fun _ _ _ _ h => Ends.of (xe h),fun _ _ _ _ h => Ends.of (ql0 h)⟩
theorem zew (f : FuncId) (id : Nat) (s : St) : (omega G S).loop f id s = uf G (omega G S) f id s := by
 cases h : uf G (omega G S) f id s with
 | some r => exact zkj h
 | none =>
  cases h2 : (omega G S).loop f id s with
  | none => rfl
  | some r =>
   obtain ⟨n,hn⟩ := q0j.1 h2
   have h3 := hn (n + 1) (by omega)
   simp only [orc] at h3
   obtain ⟨_,h4⟩ := (q6v (q97 n) h3).now
   rw [h] at h4
   cases h4
theorem qxh {f : FuncId} (hs : S.call f = none) (args : List AV) (H : Heap) : (omega G S).call f args H = uy G (omega G S) f args H := by
 cases h : uy G (omega G S) f args H with
 | some r => exact zbl hs h
 | none =>
  cases h2 : (omega G S).call f args H with
  | none => rfl
  | some r =>
   obtain ⟨n,hn⟩ := q0j.1 h2
   have h3 := hn (n + 1) (by omega)
   simp only [orc,hs] at h3
   obtain ⟨_,h4⟩ := (q7c (q97 n) h3).now
   rw [h] at h4
   cases h4
end
end Go.Gm
set_option linter.unusedSectionVars false
namespace Go.Gm
open Go
def q6l (P : Program) (f : FuncId) : Option FI :=
 match P.funcs[f]? with
 | some fn => match fn.body with
  | some b => if fn.name ≠ "runtime.NumGoroutine" ∧ xq fn.ntmps b = true ∧ (jb b).Nodup then some ⟨fn.ntmps,fn.results.toList,b⟩ else none
  | none => none
 | none => none
theorem qfv {P : Program} {f : FuncId} {fi : FI} (h : q6l P f = some fi) : ∃ fn,P.funcs[f]? = some fn ∧ (fn.name == "runtime.NumGoroutine") = false ∧ fn.body = some fi.body ∧ fn.ntmps = fi.nt ∧
  fn.results.toList = fi.results ∧ xq fi.nt fi.body = true ∧ (jb fi.body).Nodup := by
 unfold q6l at h
 split at h <;> try cases h
 rename_i fn hfn
 split at h <;> try cases h
 rename_i b hb
 split at h <;> try cases h
 rename_i hc
 exact ⟨fn,hfn,by simpa using hc.1,hb,rfl,rfl,hc.2.1,hc.2.2⟩
def q7i (P : Program) (spec : FuncId → Nat → xy) (owned keep : FuncId → Bool) (pre : FuncId → Nat → List Nat) (frz mrf : TypeId → Bool) (cmd : FuncId → Nat → List Cmd) : GP := ⟨q6k P,q6l P,spec,owned,keep,pre,frz,mrf,cmd⟩
theorem qjg {P : Program} {spec : FuncId → Nat → xy} {owned keep : FuncId → Bool} {pre : FuncId → Nat → List Nat} {frz mrf : TypeId → Bool} {cmd : FuncId → Nat → List Cmd} : jd P (q7i P spec owned keep pre frz mrf cmd) := fun _ _ h => qy3 h
theorem zj7 {P : Program} {spec : FuncId → Nat → xy} {owned keep : FuncId → Bool} {pre : FuncId → Nat → List Nat} {frz mrf : TypeId → Bool} {cmd : FuncId → Nat → List Cmd} : q34 P (q7i P spec owned keep pre frz mrf cmd) := ⟨fun _ _ h => qfv h⟩
def q3c (w : World) (b : Nat) : Prop := b < w.heap.size
theorem zp2 [Globs] (w : World) (ι : Plc) (hg : Globs.ok w ∧ ∀ b,Globs.on b → b < w.heap.size) : qa w [] ι (q3c w) where
 glb := hg.1
 gim := hg.2
 blk := fun _ _ h => by cases h
 inj := fun _ _ _ _ _ h => by cases h
 im := fun _ h => h
 nim := fun _ _ _ h => by cases h
def RPs (w : World) (c : List PV) (cs : List Value) : Prop :=
 c.length = cs.length ∧ (∀ p ∈ c,p.flat = true) ∧ ∀ (i : Nat) p v,c[i]? = some p → cs[i]? = some v → RP w (q3c w) p v
theorem RPs.append {w : World} {c c' : List PV} {cs cs' : List Value} (h : RPs w c cs) (h' : RPs w c' cs') : RPs w (c ++ c') (cs ++ cs') := by
 obtain ⟨a1,a2,a3⟩ := h
 obtain ⟨b1,b2,b3⟩ := h'
 refine ⟨by simp [a1,b1],fun p hp => ?_,fun i p v h1 h2 => ?_⟩
 ·rcases List.mem_append.1 hp with hp | hp
  ·exact a2 p hp
  ·exact b2 p hp
 ·by_cases hi : i < c.length
  ·rw [List.getElem?_append_left hi] at h1
   rw [List.getElem?_append_left (a1 ▸ hi)] at h2
   exact a3 i p v h1 h2
  ·rw [List.getElem?_append_right (by omega)] at h1
   rw [List.getElem?_append_right (by omega)] at h2
   exact b3 _ p v h1 (a1 ▸ h2)
theorem RPs.one {w : World} {p : PV} {v : Value} (hf : p.flat = true) (h : RP w (q3c w) p v) : RPs w [p] [v] := by
 refine ⟨rfl,by simpa using hf,fun i q u h1 h2 => ?_⟩
 cases i with
 | zero => simp at h1 h2; subst h1; subst h2; exact h
 | succ i => simp at h1
theorem RPs.nil {w : World} : RPs w [] [] := ⟨rfl,by simp,by simp⟩
def Reads {α : Type} (P : Program) (t : TypeId) (e : α → List PV) (ok : α → Prop) (n : Nat) : Prop :=
 ∀ (H : Type) (enc : TypeId × Value → H) (w : World) (base : Nat) (spare : Nat → Bool) (held : Bool) (fuel : Nat) (cs : List Value) (x : DataW H × List MemPlace),fuel ≤ n →
  DataW.trod enc P w base spare held fuel t cs = some x → ∃ a : α,ok a ∧ (e a).length = P.cellsOf t ∧ RPs w (e a) cs
section
variable {P : Program}
theorem Reads.int {t : TypeId} {k : IntKind} (ht : P.underlying t = some (.int k)) (hc : P.cellsOf t = 1) (n : Nat) : Reads P t (fun x : Int => [PV.int k x]) (fun x => (Lit.int k x).wf = true) n := by
 intro H enc w base spare held fuel cs x _ h
 obtain ⟨a,rfl,_,hw⟩ := DataW.trod_int ht h
 exact ⟨a,hw,by simp [hc],.one rfl (.int k a)⟩
theorem Reads.bool {t : TypeId} (ht : P.underlying t = some .bool) (hc : P.cellsOf t = 1) (n : Nat) : Reads P t (fun x : Bool => [PV.bool x]) (fun _ => True) n := by
 intro H enc w base spare held fuel cs x _ h
 obtain ⟨a,rfl,_⟩ := DataW.trod_bool ht h
 exact ⟨a,trivial,by simp [hc],.one rfl (.bool a)⟩
theorem Reads.str {t : TypeId} (ht : P.underlying t = some .string) (hc : P.cellsOf t = 1) (n : Nat) : Reads P t (fun x : List UInt8 => [PV.str x]) (fun x => x.length ≤ maxLen) n := by
 intro H enc w base spare held fuel cs x _ h
 obtain ⟨a,rfl,_,hl⟩ := DataW.trod_string ht h
 exact ⟨a.data.toList,by simpa using hl,by simp [hc],.one rfl (.str _)⟩
theorem Reads.map {α β : Type} {t : TypeId} {e : α → List PV} {ok : α → Prop} {e' : β → List PV} {ok' : β → Prop} {n : Nat} (h : Reads P t e ok n) (f : α → β)
  (hf : ∀ a,ok a → ok' (f a) ∧ e' (f a) = e a) : Reads P t e' ok' n := by
 intro H enc w base spare held fuel cs x hn hx
 obtain ⟨a,h1,h2,h3⟩ := h H enc w base spare held fuel cs x hn hx
 obtain ⟨g1,g2⟩ := hf a h1
 exact ⟨f a,g1,by rw [g2]; exact h2,by rw [g2]; exact h3⟩
theorem Reads.mono {α : Type} {t : TypeId} {e : α → List PV} {ok : α → Prop} {n m : Nat} (h : Reads P t e ok n) (hm : m ≤ n) : Reads P t e ok m :=
 fun H enc w base spare held fuel cs x hn hx => h H enc w base spare held fuel cs x (Nat.le_trans hn hm) hx
def slP (isnil : Bool) (sz : Nat) (es : List (List PV)) : PV := .sl (isnil && es.isEmpty) (szc sz es) es
theorem z2i {α : Type} {f : Nat → Option α} : ∀ {n : Nat} {l : List α},(List.range n).mapM f = some l → l.length = n ∧ ∀ i,i < n → f i = l[i]? := by
 intro n l h
 have key : ∀ (k : Nat) (m : Nat) (l : List α),(List.range' k m).mapM f = some l → l.length = m ∧ ∀ i,i < m → f (k + i) = l[i]? := by
  intro k m
  induction m generalizing k with
  | zero => intro l h; simp at h; subst h; exact ⟨rfl,fun i hi => by omega⟩
  | succ m ih =>
   intro l h
   rw [List.range'_succ,List.mapM_cons] at h
   simp only [Option.bind_eq_bind,Option.bind_eq_some_iff,Option.pure_def,Option.some.injEq] at h
   obtain ⟨a,ha,r,hr,rfl⟩ := h
   obtain ⟨h1,h2⟩ := ih (k + 1) r hr
   refine ⟨by simp [h1],fun i hi => ?_⟩
   cases i with
   | zero => simpa using ha
   | succ i =>
    have := h2 i (by omega)
    rw [show k + (i + 1) = k + 1 + i from by omega,this]
    simp
 have := key 0 n l (by rwa [← List.range_eq_range'])
 simpa using this
theorem q7r {w : World} {base : Nat} {a : Addr} {n : Nat} {cs : List Value} (h : w.cells? base a n = some cs) : cs.length = n ∧ ∀ i,i < n → w.cell? (a.add i) = cs[i]? := by
 unfold World.cells? at h
 split at h
 ·exact z2i h
 ·cases h
theorem zs8 {w : World} {a : Addr} {v : Value} (h : w.cell? a = some v) : a.block < w.heap.size ∧ a.spot = none := by
 unfold World.cell? at h
 split at h
 ·rename_i c t f hb
  refine ⟨?_, ?_⟩
  ·rw [Array.getElem?_eq_some_iff] at hb
   exact hb.1
  ·split at h
   ·cases h
   ·rename_i hs
    cases hsp : a.spot with
    | none => rfl
    | some s => simp [hsp] at hs
 ·cases h
theorem zcz {α β : Type} {p : Nat → α → β → Prop} : ∀ (l : List β),(∀ i b,l[i]? = some b → ∃ a,p i a b) → ∃ r : List α,r.length = l.length ∧ ∀ (i : Nat) a b,r[i]? = some a → l[i]? = some b → p i a b := by
 intro l
 induction l generalizing p with
 | nil => intro _; exact ⟨[],rfl,by simp⟩
 | cons b l ih =>
  intro h
  obtain ⟨a,ha⟩ := h 0 b rfl
  obtain ⟨r,h1,h2⟩ := ih (p := fun i => p (i + 1)) (fun i b' hb => h (i + 1) b' (by simpa using hb))
  refine ⟨a :: r,by simp [h1],fun i x y hx hy => ?_⟩
  cases i with
  | zero => simp at hx hy; subst hx; subst hy; exact ha
  | succ i => exact h2 i x y (by simpa using hx) (by simpa using hy)
theorem Reads.slice {α : Type} {t el : TypeId} {sz : Nat} {e : α → List PV} {ok : α → Prop} {n : Nat} (ht : P.underlying t = some (.slice el)) (hc : P.cellsOf t = 1) (hsz : P.cellsOf el = sz) (hpos : 0 < sz)
  (h : Reads P el e ok n) : Reads P t (fun x : Bool × List α => [slP x.1 sz (x.2.map e)]) (fun x => x.2.length ≤ maxLen ∧ ∀ a ∈ x.2,ok a) (n + 1) := by
 intro H enc w base spare held fuel cs x hn hx
 rcases DataW.trod_slice ht hx with ⟨rfl,_⟩ | ⟨a,len,cap,elems,rest,m,rfl,rfl,_,hb,hlc,hcm,hel,hget,_,_⟩
 ·exact ⟨(true,[]),⟨by simp,by simp⟩,by simp [hc],.one rfl (.nilsl 0)⟩
 ·rw [hsz] at hget
  obtain ⟨r,hr1,hr2⟩ := zcz (p := fun i (y : α × List Value) (_ : DataW H × List MemPlace) => w.cells? base (a.add (i * sz)) sz = some y.2 ∧ ok y.1 ∧ (e y.1).length = sz ∧ RPs w (e y.1) y.2) elems (fun i b hib => by
   have hi : i < len := hel ▸ (List.getElem?_eq_some_iff.1 hib).1
   have g := hget i hi
   rw [hib,Option.bind_eq_some_iff] at g
   obtain ⟨cs,g1,g2⟩ := g
   obtain ⟨y,k1,k2,k3⟩ := h H enc w base spare held m cs b (by omega) g2
   exact ⟨(y,cs),g1,k1,by rw [← hsz]; exact k2,k3⟩)
  have hr3 : ∀ (i : Nat) y,r[i]? = some y → w.cells? base (a.add (i * sz)) sz = some y.2 ∧ ok y.1 ∧ (e y.1).length = sz ∧ RPs w (e y.1) y.2 := by
   intro i y hy
   have hi : i < elems.length := hr1 ▸ (List.getElem?_eq_some_iff.1 hy).1
   exact hr2 i y elems[i] hy (by simp [hi])
  have hrl : r.length = len := by rw [hr1,hel]
  have hplain : r ≠ [] → a.block < w.heap.size ∧ a.spot = none := by
   intro hne
   obtain ⟨y,r',rfl⟩ := List.exists_cons_of_ne_nil hne
   obtain ⟨g1,_⟩ := hr3 0 y rfl
   obtain ⟨c1,c2⟩ := q7r g1
   have := c2 0 hpos
   rw [show a.add (0 * sz) = a from by simp [Addr.add],show a.add 0 = a from by simp [Addr.add]] at this
   have hlt : 0 < y.2.length := by omega
   rw [List.getElem?_eq_getElem hlt] at this
   exact zs8 this
  refine ⟨(false,r.map (·.1)),⟨by simp [hrl]; omega,fun z hz => ?_⟩,by simp [hc], ?_⟩
  ·obtain ⟨y,hy,rfl⟩ := List.mem_map.1 hz
   obtain ⟨i,hi⟩ := List.getElem?_of_mem hy
   exact (hr3 i y hi).2.1
  ·refine .one rfl ?_
   simp only [slP,Bool.false_and,List.map_map]
   show RP _ _ (q38 false sz _) _
   obtain ⟨ab,ao,asp⟩ := a
   have hlen : (r.map ((fun x => e x) ∘ fun x => x.1)).length = len := by simp [hrl]
   rw [← hlen]
   have hmap : ∀ (i : Nat) l,(r.map ((fun x => e x) ∘ fun x => x.1))[i]? = some l → ∃ y,r[i]? = some y ∧ l = e y.1 := by
    intro i l hl
    simp only [List.getElem?_map,Option.map_eq_some_iff,Function.comp] at hl
    obtain ⟨y,h1,h2⟩ := hl
    exact ⟨y,h1,h2.symm⟩
   have hcell : ∀ (i : Nat) y,r[i]? = some y → ∀ j,j < sz → w.cell? ⟨ab,ao + (i * sz + j),none⟩ = y.2[j]? := by
    intro i y hy j hj
    obtain ⟨g1,_⟩ := hr3 i y hy
    obtain ⟨c1,c2⟩ := q7r g1
    have hsp := (hplain (fun h0 => by rw [h0] at hy; simp at hy)).2
    simp only at hsp
    subst hsp
    rw [← c2 j hj]
    congr 1
    unfold Addr.add
    by_cases h1 : i * sz = 0 <;> by_cases h2 : j = 0 <;> simp [h1,h2] <;> omega
   refine RP.mk ?_
   refine .sl sz _ ab ao cap (fun k => (r[k / sz]?.bind fun y => y.2[k % sz]?).getD undef) (fun hne => (hplain (fun h0 => hne (by rw [h0]; rfl))).1) (by rw [List.length_map,hrl]; exact hlc) (fun l hl => ?_) (fun i hi => ?_) (fun i l j p h1 h2 => ?_) (fun i l j p h1 h2 => ?_) asp
    (fun hne => (hplain (fun h0 => hne (by rw [h0]; rfl))).2)
   ·obtain ⟨i,hi⟩ := List.getElem?_of_mem hl
    obtain ⟨y,hy,rfl⟩ := hmap i l hi
    exact (hr3 i y hy).2.2.1
   ·rw [hlen] at hi
    have hq : i / sz < len := Nat.div_lt_of_lt_mul (by rw [Nat.mul_comm]; exact hi)
    have hm := Nat.mod_lt i hpos
    have hq' : i / sz < r.length := by omega
    have hy : r[i / sz]? = some r[i / sz] := List.getElem?_eq_getElem hq'
    have g := hcell (i / sz) _ hy (i % sz) hm
    rw [show i / sz * sz + i % sz = i from by rw [Nat.mul_comm]; exact Nat.div_add_mod i sz] at g
    rw [g,hy]
    simp only [Option.bind_some]
    obtain ⟨g1,_,g3,g4⟩ := hr3 _ _ hy
    obtain ⟨c1,_⟩ := q7r g1
    have : i % sz < (r[i / sz]).2.length := by omega
    rw [List.getElem?_eq_getElem this]
    rfl
   ·obtain ⟨y,hy,rfl⟩ := hmap i l h1
    exact (hr3 i y hy).2.2.2.2.1 p (List.mem_of_getElem? h2)
   ·obtain ⟨y,hy,rfl⟩ := hmap i l h1
    obtain ⟨g1,_,g3,g4,g5,g6⟩ := hr3 i y hy
    have hj : j < sz := g3 ▸ (List.getElem?_eq_some_iff.1 h2).1
    have e1 : (i * sz + j) / sz = i := by rw [Nat.mul_comm,Nat.mul_add_div hpos,Nat.div_eq_of_lt hj,Nat.add_zero]
    have e2 : (i * sz + j) % sz = j := by rw [Nat.mul_comm,Nat.mul_add_mod,Nat.mod_eq_of_lt hj]
    have hjl : j < y.2.length := by rw [← g4]; omega
    simp only [e1,e2,hy,Option.bind_some,List.getElem?_eq_getElem hjl,Option.getD_some]
    exact g6 j p _ h2 (List.getElem?_eq_getElem hjl)
def uk {α : Type} (P : Program) (fs : List Field) (e : α → List PV) (ok : α → Prop) (n off : Nat) : Prop :=
 ∀ (H : Type) (enc : TypeId × Value → H) (w : World) (base : Nat) (spare : Nat → Bool) (held : Bool) (fuel : Nat) (cs : List Value),fuel ≤ n → off ≤ cs.length →
  (∀ f ∈ fs,∃ x,DataW.trod enc P w base spare held fuel f.type ((cs.drop f.offset).take (P.cellsOf f.type)) = some x) →
  ∃ (a : α) (m : Nat),ok a ∧ (e a).length = m ∧ off + m ≤ cs.length ∧ RPs w (e a) ((cs.drop off).take m)
theorem uk.nil (n off : Nat) : uk P [] (fun _ : Unit => []) (fun _ => True) n off := by
 intro H enc w base spare held fuel cs _ ho _
 exact ⟨(),0,trivial,rfl,by simpa using ho,by simpa using RPs.nil⟩
theorem uk.cons {α β : Type} {f : Field} {fs : List Field} {e1 : α → List PV} {ok1 : α → Prop} {e2 : β → List PV} {ok2 : β → Prop} {n off c : Nat} (ho : f.offset = off) (hc : P.cellsOf f.type = c)
  (h1 : Reads P f.type e1 ok1 n) (h2 : uk P fs e2 ok2 n (off + c)) : uk P (f :: fs) (fun x : α × β => e1 x.1 ++ e2 x.2) (fun x => ok1 x.1 ∧ ok2 x.2) n off := by
 intro H enc w base spare held fuel cs hn hoff hall
 obtain ⟨x,hx⟩ := hall f (by simp)
 rw [hc,ho] at hx
 obtain ⟨a,a1,a2,a3⟩ := h1 H enc w base spare held fuel _ x hn hx
 rw [hc] at a2
 have hl := a3.1
 rw [a2,List.length_take,List.length_drop] at hl
 have hfit : off + c ≤ cs.length := by omega
 obtain ⟨b,m,b1,b2,b3,b4⟩ := h2 H enc w base spare held fuel cs hn hfit (fun f' hf' => hall f' (by simp [hf']))
 refine ⟨(a,b),c + m,⟨a1,b1⟩,by simp [a2,b2],by omega, ?_⟩
 have := a3.append b4
 rwa [show (cs.drop off).take c ++ (cs.drop (off + c)).take m = (cs.drop off).take (c + m) from by rw [List.take_add,List.drop_drop]] at this
theorem Reads.struct {α : Type} {t : TypeId} {fs : Array Field} {e : α → List PV} {ok : α → Prop} {n c : Nat} (ht : P.underlying t = some (.struct fs)) (hc : P.cellsOf t = c) (hlen : ∀ a,(e a).length = c)
  (h : uk P fs.toList e ok n 0) : Reads P t e ok (n + 1) := by
 intro H enc w base spare held fuel cs x hn hx
 obtain ⟨xs,m,rfl,_,hl,hxl,hf⟩ := DataW.trod_struct ht hx
 obtain ⟨a,k,h1,h2,h3,h4⟩ := h H enc w base spare held m cs (by omega) (Nat.zero_le _) (fun f hfm => by
  obtain ⟨i,hi⟩ := List.getElem?_of_mem hfm
  have hi' : fs[i]? = some f := by rw [← Array.getElem?_toList]; exact hi
  have hlt : i < xs.length := by
   rw [hxl]
   exact (Array.getElem?_eq_some_iff.1 hi').1
  exact ⟨xs[i],by rw [hf i f hi',List.getElem?_eq_getElem hlt]⟩)
 have : k = c := by rw [← h2]; exact hlen a
 subst this
 refine ⟨a,h1,by rw [h2,hc], ?_⟩
 rwa [List.drop_zero,List.take_of_length_le (by rw [hl,hc]; exact Nat.le_refl _)] at h4
end
end Go.Gm
set_option linter.unusedSectionVars false
namespace Go.Gm
open Go Go.ChangeShapes Go.WideShapes Go.RowKit
theorem qcm {H : Type} {enc : TypeId × Value → H} {P : Program} (hl : laidOutB P = true) {W W' : World} {sp' : Nat → Bool} :
  ∀ {ts : List TypeId} {vs : List Value} {ds : List (DataW H)} {ps : List MemPlace},(∀ t ∈ ts,P.readableRec t = true ∧ t < P.types.size) →
  DataW.TrodAll enc P W 0 (fun _ => true) true ts vs ds ps → (∀ p ∈ ps,W.sameAt W' p) → (∀ p ∈ ps,sp' p.block = true) → DataW.TrodAll enc P W' 0 sp' true ts vs ds ps
 | [],vs,ds,ps,_,h,_,_ => by
  obtain ⟨rfl,rfl,rfl⟩ := trodAll_nil h
  exact trodAll_mk0
 | t :: ts,vs,ds,ps,hr,h,hs,hp => by
  obtain ⟨v,vs',d,ds',p,q,rfl,rfl,rfl,h1,h2⟩ := trodAll_cons h
  have := hr t (by simp)
  exact trodAll_cons_mk (WideElems.Trod_stays hl this.1 this.2 h1 (fun x hx => hs x (by simp [hx])) (fun x hx => hp x (by simp [hx])))
   (qcm hl (fun t ht => hr t (by simp [ht])) h2 (fun x hx => hs x (by simp [hx])) (fun x hx => hp x (by simp [hx])))
theorem qbw {H : Type} {enc : TypeId × Value → H} {P : Program} {w : World} {base : Nat} {spare : Nat → Bool} {held : Bool} :
  ∀ {ts : List TypeId} {vs : List Value} {ds : List (DataW H)} {ps : List MemPlace},DataW.TrodAll enc P w base spare held ts vs ds ps → ts.length = vs.length ∧ ds.length = ts.length
 | [],vs,ds,ps,h => by
  obtain ⟨rfl,rfl,rfl⟩ := trodAll_nil h
  exact ⟨rfl,rfl⟩
 | t :: ts,vs,ds,ps,h => by
  obtain ⟨v,vs',d,ds',p,q,rfl,rfl,rfl,h1,h2⟩ := trodAll_cons h
  obtain ⟨a,b⟩ := qbw h2
  exact ⟨by simp [a],by simp [b]⟩
def q0b {α : Type} (P : Program) (t : TypeId) (e : α → PV) (ok : α → Prop) : Prop :=
 ∀ (H : Type) (enc : TypeId × Value → H) (w : World) (base base' : Nat) (spare : Nat → Bool) (held : Bool) (v : Value) (d : DataW H) (ps : List MemPlace),Value.okWide P w .any base' t v →
  DataW.Trod enc P w base spare held t v d ps → ∃ a : α,ok a ∧ RP w (q3c w) (e a) v
theorem q0b.struct {α : Type} {P : Program} {t : TypeId} {fs : Array Field} {e : α → List PV} {ok : α → Prop} (ht : P.underlying t = some (.struct fs)) (h : ∀ n,Reads P t e ok n) : q0b P t (fun a => .agg (e a)) ok := by
 intro H enc w base base' spare held v d ps hok ⟨fuel,hv⟩
 simp only [Value.okWide,ht] at hok
 obtain ⟨cs,rfl,_,_⟩ := hok
 obtain ⟨a,h1,h2,h3⟩ := h fuel H enc w base spare held fuel _ _ (Nat.le_refl _) hv
 refine ⟨a,h1, ?_⟩
 obtain ⟨l⟩ := cs
 exact .agg _ _ h3.1 h3.2.1 h3.2.2
def qae : TypeDesc → Bool
 | .bool | .int _ | .string | .slice _ => true
 | _ => false
theorem q0b.one {α : Type} {P : Program} {t : TypeId} {td : TypeDesc} {e : α → PV} {ok : α → Prop} (ht : P.underlying t = some td) (hd : qae td = true) (h : ∀ n,Reads P t (fun a => [e a]) ok n) : q0b P t e ok := by
 intro H enc w base base' spare held v d ps hok ⟨fuel,hv⟩
 obtain ⟨a,h1,h2,h3⟩ := h fuel H enc w base spare held fuel _ _ (Nat.le_refl _) hv
 refine ⟨a,h1, ?_⟩
 have hc : v.cells = #[v] := by
  simp only [Value.okWide,ht] at hok
  cases td <;> simp [qae] at hd <;> simp only [Cell.okWide,ht] at hok <;> cases v <;> simp_all [Cell.ok,Value.cells]
 exact h3.2.2 0 _ v rfl (by rw [hc]; rfl)
def kz {β : Type} (P : Program) (ts : List TypeId) (e : β → List PV) (ok : β → Prop) : Prop :=
 ∀ (H : Type) (enc : TypeId × Value → H) (w : World) (base base' : Nat) (spare : Nat → Bool) (held : Bool) (vs : List Value) (ds : List (DataW H)) (ps : List MemPlace),
  (∀ (j : Nat) t v,ts[j]? = some t → vs[j]? = some v → Value.okWide P w .any base' t v) → DataW.TrodAll enc P w base spare held ts vs ds ps →
  ∃ b : β,ok b ∧ (e b).length = vs.length ∧ ∀ (i : Nat) p v,(e b)[i]? = some p → vs[i]? = some v → RP w (q3c w) p v
theorem kz.nil {P : Program} : kz P [] (fun _ : Unit => []) (fun _ => True) := by
 intro H enc w base base' spare held vs ds ps _ h
 obtain ⟨rfl,rfl,rfl⟩ := trodAll_nil h
 exact ⟨(),trivial,rfl,by simp⟩
theorem kz.cons {α β : Type} {P : Program} {t : TypeId} {ts : List TypeId} {e1 : α → PV} {ok1 : α → Prop} {e2 : β → List PV} {ok2 : β → Prop} (h1 : q0b P t e1 ok1) (h2 : kz P ts e2 ok2) :
  kz P (t :: ts) (fun x : α × β => e1 x.1 :: e2 x.2) (fun x => ok1 x.1 ∧ ok2 x.2) := by
 intro H enc w base base' spare held vs ds ps hok h
 obtain ⟨v,vs',d,ds',p,q,rfl,rfl,rfl,r1,r2⟩ := trodAll_cons h
 obtain ⟨a,a1,a2⟩ := h1 H enc w base base' spare held v d p (hok 0 t v rfl rfl) r1
 obtain ⟨b,b1,b2,b3⟩ := h2 H enc w base base' spare held vs' ds' q (fun j t v x y => hok (j + 1) t v (by simpa using x) (by simpa using y)) r2
 refine ⟨(a,b),⟨a1,b1⟩,by simp [b2],fun i x y hx hy => ?_⟩
 cases i with
 | zero => simp at hx hy; subst hx; subst hy; exact a2
 | succ i => exact b3 i x y (by simpa using hx) (by simpa using hy)
theorem kz.weaken {β : Type} {P : Program} {ts : List TypeId} {e : β → List PV} {ok : β → Prop} (h : kz P ts e ok) : kz P ts e fun _ => True := by
 intro H enc w base base' spare held vs ds ps hok hh
 obtain ⟨b,_,h2,h3⟩ := h H enc w base base' spare held vs ds ps hok hh
 exact ⟨b,trivial,h2,h3⟩
theorem zf6 [Globs] {P : Program} {G : GP} {S : Special} (hm : P.follows .mixedOrders = true) (hG : jd P G) (hF : q34 P G) (hS : q5l P S) (hl : laidOutB P = true)
  {f : FuncId} {fn : Func} {tb : TypeId} (hres : fn.resultTypes = #[tb]) (htb : P.underlying tb = some .bool) {s : ChangeSpec} (hvars : s.vars = [])
  (hread : ∀ t ∈ fn.params.toList,P.readableRec t = true ∧ t < P.types.size)
  (hspec : ∀ (H : Type) (ds : List (DataW H)),ds.length = fn.params.toList.length → s.fn H ds = { results := [.lit (.bool true)],args := ds })
  {β : Type} {e : β → List PV} {ok : β → Prop} (hargs : kz P fn.params.toList e ok)
  (hcall : ∀ b,ok b → ∃ H',(omega G S).call f ((e b).map .pv) [] = some (.pv (.bool true),H'))
  {H : Type} {enc : TypeId × Value → H} {W : World} {base : Nat} {args : Array Value} {ds gs : List (DataW H)} {before : List MemPlace}
  (hval : ∀ (j : Nat) t v,fn.params[j]? = some t → args[j]? = some v → Value.okWide P W .any base t v)
  (hW : DataW.Whole enc P fn.params.toList s.vars false W args.toList ds gs before) (hgl : Globs.ok W ∧ ∀ b,Globs.on b → b < W.heap.size) :
  Calls P f args W fun e W' => ∃ v,e = .returned v ∧ s.post enc P fn false true false false W args v W' := by
 have hW' := hW
 obtain ⟨p,q,hA,hV,rfl,hfz,hnd⟩ := hW
 obtain ⟨vs⟩ := args
 rw [hvars] at hV
 obtain ⟨rfl,rfl⟩ := trodVars_none hV
 obtain ⟨hl1,hl2⟩ := qbw hA
 obtain ⟨b,b1,b2,b3⟩ := hargs H enc W 0 base _ _ vs ds p (fun j t v h1 h2 => hval j t v (by rw [← Array.getElem?_toList]; exact h1) (by rw [← Array.getElem?_toList]; exact h2)) hA
 obtain ⟨H',hc⟩ := hcall b b1
 have hok := qo8 hm hG hF hS hc W (fun _ => ⟨0,0,[]⟩) (q3c W) vs (zp2 W _ hgl) (by simpa using b2) (fun i x v h1 h2 => by
  simp only [List.getElem?_map,Option.map_eq_some_iff] at h1
  obtain ⟨y,hy,rfl⟩ := h1
  exact .pv _ _ (b3 i y v hy h2))
 refine hok.mono fun en W' ⟨v,ι',Im',h1,h2,h3,h4⟩ => ?_
 subst h1
 have hv : v = .bool true := by
  have := h4.zo
  cases this
  rfl
 subst hv
 have hheap : ∀ k,k < W.heap.size → W'.heap[k]? = W.heap[k]? := fun k hk => h3.same k hk fun β x hx => by cases hx
 have hlt : ∀ x ∈ p,x.block < W.heap.size := fun x hx => hW'.lt x (by simp [hx])
 have hsame : ∀ x ∈ p,W.sameAt W' x := fun x hx => by
  cases x with
  | cell b o => exact World.cell?_of_block (w := W) (hheap b (hlt _ hx))
  | map b => exact hheap b (hlt _ hx)
 refine ⟨_,rfl,ds,[],p ++ [],[],p,[],hW', ?_, ?_, ?_, ?_,fun h => by cases h⟩
 ·rw [List.append_nil,hspec H ds hl2,hres]
  exact trodAll_cons_mk (shut_bool htb true) trodAll_mk0
 ·rw [List.append_nil,hspec H ds hl2]
  exact qcm hl hread hA hsame (fun x hx => by simpa using hlt x hx)
 ·rw [hvars]
  rw [List.append_nil,hspec H ds hl2]
  rfl
 ·refine ⟨h3.io.1,h3.io.2,fun i hi => ?_⟩
  rw [hheap i hi]
  split <;> simp_all
end Go.Gm
namespace Go.Gm
open Go
structure q0i (b : Bool) : Prop where
 h : b = true
inductive Fr where
 | code (c : Code)
 | upto (id : Nat)
 | zh (l : List Cmd)
def cont (G : GP) (O : qw) (f : FuncId) : List Fr → Ex × St → Option (Ex × St)
 | [],x => some x
 | .upto id :: r,(.exit i,s) => if i = id then cont G O f r (.normal,s) else cont G O f r (.exit i,s)
 | .upto _ :: r,(.normal,s) => cont G O f r (.normal,s)
 | .upto _ :: r,(.ret,s) => cont G O f r (.ret,s)
 | .zh l :: r,(.normal,s) => cont G O f r (.normal,Gm.zh l s)
 | .zh _ :: r,(.exit i,s) => cont G O f r (.exit i,s)
 | .zh _ :: r,(.ret,s) => cont G O f r (.ret,s)
 | .code c :: r,(.normal,s) => match exec G O f c s with
  | some x => cont G O f r x
  | none => none
 | .code _ :: r,(.exit i,s) => cont G O f r (.exit i,s)
 | .code _ :: r,(.ret,s) => cont G O f r (.ret,s)
def ui (G : GP) (O : qw) (f : FuncId) (all l : List Oper) (s : St) (r : List Fr) : Option (Ex × St) :=
 match vg G O all l s with
 | some s' => cont G O f r (.normal,s')
 | none => none
def yg (G : GP) (O : qw) (f : FuncId) (all : List Oper) (tm : Bool) (i : Nat) (l : List Oper) (s : St) (log : List (Nat × List Nat × List Nat)) (r : List Fr) : Option (Ex × St) :=
 match ku G O all tm i l s log with
 | some s' => cont G O f r (.normal,s')
 | none => none
def q7l (G : GP) (O : qw) (f : FuncId) (all l : List Oper) (d : Option Tmp) (E : Env) (H : Heap) (r : List Fr) : Option Eff → Option (Ex × St)
 | some (v,ws,nx) => ui G O f all l ⟨zz d v E,qf ws H,nx⟩ r
 | none => none
def qct (G : GP) (O : qw) (f : FuncId) (all : List Oper) (tm : Bool) (i : Nat) (l : List Oper) (d : Option Tmp) (E : Env) (H : Heap) (rd : List Nat) (log : List (Nat × List Nat × List Nat)) (r : List Fr) : Option Eff → Option (Ex × St)
 | some (v,ws,nx) => yg G O f all tm i l ⟨zz d v E,qf (mq tm rd H ws) H,nx⟩ ((i - 1,rd,(mq tm rd H ws).map (·.1)) :: log) r
 | none => none
section
variable {G : GP} {O : qw} {f : FuncId}
theorem q8b (c : Code) (s : St) : exec G O f c s = cont G O f [.code c] (.normal,s) := by
 simp only [cont]
 split <;> simp_all
theorem zah (x : Ex × St) : cont G O f [] x = some x := rfl
theorem zqh (id : Nat) (r : List Fr) (s : St) : cont G O f (.upto id :: r) (.normal,s) = cont G O f r (.normal,s) := rfl
theorem qfs (id : Nat) (r : List Fr) (s : St) : cont G O f (.upto id :: r) (.ret,s) = cont G O f r (.ret,s) := rfl
theorem zme (id i : Nat) (r : List Fr) (s : St) : cont G O f (.upto id :: r) (.exit i,s) = if i = id then cont G O f r (.normal,s) else cont G O f r (.exit i,s) := rfl
theorem qly (c : Code) (r : List Fr) (s : St) : cont G O f (.code c :: r) (.ret,s) = cont G O f r (.ret,s) := rfl
theorem zsx (c : Code) (i : Nat) (r : List Fr) (s : St) : cont G O f (.code c :: r) (.exit i,s) = cont G O f r (.exit i,s) := rfl
theorem qzl (r : List Fr) (s : St) : cont G O f (.code .skip :: r) (.normal,s) = cont G O f r (.normal,s) := rfl
theorem z9a (r : List Fr) (s : St) : cont G O f (.code .ret :: r) (.normal,s) = cont G O f r (.ret,s) := rfl
theorem qma (i : Nat) (r : List Fr) (s : St) : cont G O f (.code (.exit i) :: r) (.normal,s) = cont G O f r (.exit i,s) := rfl
theorem zof (a b : Code) (r : List Fr) (s : St) : cont G O f (.code (.seq a b) :: r) (.normal,s) = cont G O f (.code a :: .code b :: r) (.normal,s) := by
 simp only [cont,exec]
 cases exec G O f a s with
 | none => rfl
 | some x =>
  obtain ⟨e,s'⟩ := x
  cases e <;> rfl
theorem qxu (c : Operand) (t e : Code) (r : List Fr) (s : St) : cont G O f (.code (.cond c t e) :: r) (.normal,s) = match ev s.env c with
  | .pv (.bool b) => if b = true then cont G O f (.code t :: r) (.normal,s) else cont G O f (.code e :: r) (.normal,s)
  | _ => none := by
 simp only [cont,exec]
 cases ev s.env c with
 | pv p => cases p with
  | bool b => cases b <;> rfl
  | _ => rfl
 | _ => rfl
def qaw : Code → Bool
 | .loop _ => true
 | _ => false
theorem q1t (id : Nat) (c : Code) (r : List Fr) (s : St) (hl : qaw c = false) : cont G O f (.code (.block id c) :: r) (.normal,s) = cont G O f (.code c :: .upto id :: r) (.normal,s) := by
 have hex : exec G O f (.block id c) s = match exec G O f c s with
   | some (.exit i,s') => if i = id then some (.normal,s') else some (.exit i,s')
   | some (.normal,s') => some (.normal,s')
   | some (.ret,s') => some (.ret,s')
   | none => none := by
  cases c <;> first | rfl | (simp [qaw] at hl)
 simp only [cont,hex]
 cases exec G O f c s with
 | none => rfl
 | some x =>
  obtain ⟨e,s'⟩ := x
  cases e with
  | exit i =>
   by_cases h : i = id <;> simp [cont,h]
  | _ => rfl
theorem qsw (id : Nat) (a b : Code) (r : List Fr) (s : St) : cont G O f (.code (.block id (.seq a b)) :: r) (.normal,s) = cont G O f (.code (.seq a b) :: .upto id :: r) (.normal,s) := q1t _ _ _ _ rfl
theorem z9t (id i : Nat) (a : Code) (r : List Fr) (s : St) : cont G O f (.code (.block id (.block i a)) :: r) (.normal,s) = cont G O f (.code (.block i a) :: .upto id :: r) (.normal,s) := q1t _ _ _ _ rfl
theorem qlq (id : Nat) (c : Operand) (a b : Code) (r : List Fr) (s : St) : cont G O f (.code (.block id (.cond c a b)) :: r) (.normal,s) = cont G O f (.code (.cond c a b) :: .upto id :: r) (.normal,s) := q1t _ _ _ _ rfl
theorem zg3 (id i : Nat) (a : Array Oper) (d : Bool) (r : List Fr) (s : St) : cont G O f (.code (.block id (.region i a d)) :: r) (.normal,s) = cont G O f (.code (.region i a d) :: .upto id :: r) (.normal,s) := q1t _ _ _ _ rfl
theorem qjs (id i : Nat) (r : List Fr) (s : St) : cont G O f (.code (.block id (.exit i)) :: r) (.normal,s) = cont G O f (.code (.exit i) :: .upto id :: r) (.normal,s) := q1t _ _ _ _ rfl
theorem qny (id : Nat) (r : List Fr) (s : St) : cont G O f (.code (.block id .skip) :: r) (.normal,s) = cont G O f r (.normal,s) := by rw [q1t _ _ _ _ rfl]; rfl
theorem z8o (id : Nat) (r : List Fr) (s : St) : cont G O f (.code (.block id .ret) :: r) (.normal,s) = cont G O f r (.ret,s) := by rw [q1t _ _ _ _ rfl]; rfl
def q70 (G : GP) (O : qw) (f : FuncId) (id : Nat) (r : List Fr) : Option St → Option (Ex × St)
 | some s => match O.loop f id s with
  | some x => cont G O f r x
  | none => none
 | none => none
theorem qsf (id : Nat) (c : Code) (r : List Fr) (s : St) : cont G O f (.code (.block id (.loop c)) :: r) (.normal,s) = q70 G O f id r (yu (G.spec f id) s) := by
 simp only [cont,exec,q70]
 cases yu (G.spec f id) s with
 | none => rfl
 | some s1 => rfl
theorem qi2 (id : Nat) (r : List Fr) (s : St) : q70 G O f id r (some s) = match O.loop f id s with
  | some x => cont G O f r x
  | none => none := rfl
theorem qsu (l o p q r s) : yu ⟨l,o,p,q,r,0⟩ s = some (enter ⟨l,o,p,q,r,0⟩ s) := rfl
theorem zlz (l o p q r n s) : again ⟨l,o,p,q,r,0⟩ n s = narrow l n s := rfl
theorem zb3 (l o p q r n s) : leave ⟨l,o,p,q,r,0⟩ n s = some (q2l o n s) := rfl
def sized (n : Nat) : Option St → Option St
 | some s1 => if s1.nx = n then some s1 else none
 | none => none
theorem zow (n : Nat) (E H k) : sized n (some ⟨E,H,k⟩) = if k = n then some ⟨E,H,k⟩ else none := rfl
theorem zbh (l o p q r s) : yu ⟨l,o,p,q,r,1⟩ s = sized (s.nx + 1) (canon l s.nx (enter ⟨l,o,p,q,r,1⟩ s)) := rfl
theorem z5y (l o p q r s) : yu ⟨l,o,p,q,r,2⟩ s = sized (s.nx + 2) (canon l s.nx (enter ⟨l,o,p,q,r,2⟩ s)) := rfl
theorem qjh (l o p q r s) : yu ⟨l,o,p,q,r,3⟩ s = sized (s.nx + 3) (canon l s.nx (enter ⟨l,o,p,q,r,3⟩ s)) := rfl
theorem qiw (l o p q r s) : yu ⟨l,o,p,q,r,4⟩ s = sized (s.nx + 4) (canon l s.nx (enter ⟨l,o,p,q,r,4⟩ s)) := rfl
theorem qli (l o p q r n s) : again ⟨l,o,p,q,r,1⟩ n s = sized n (canon l (n - 1) (zl q (zq p s))) := rfl
theorem zh2 (l o p q r n s) : again ⟨l,o,p,q,r,2⟩ n s = sized n (canon l (n - 2) (zl q (zq p s))) := rfl
theorem zt0 (l o p q r n s) : again ⟨l,o,p,q,r,3⟩ n s = sized n (canon l (n - 3) (zl q (zq p s))) := rfl
theorem zfq (l o p q r n s) : again ⟨l,o,p,q,r,4⟩ n s = sized n (canon l (n - 4) (zl q (zq p s))) := rfl
theorem zhy (l o p q r n s) : leave ⟨l,o,p,q,r,1⟩ n s = canon o (n - 1) s := rfl
theorem z00 (l o p q r n s) : leave ⟨l,o,p,q,r,2⟩ n s = canon o (n - 2) s := rfl
theorem z2s (l o p q r n s) : leave ⟨l,o,p,q,r,3⟩ n s = canon o (n - 3) s := rfl
theorem ze8 (l o p q r n s) : leave ⟨l,o,p,q,r,4⟩ n s = canon o (n - 4) s := rfl
theorem z4o (l o p q r s) : yu ⟨l,o,p,q,r,1000⟩ s = some (enter ⟨l,o,p,q,r,1000⟩ s) := by unfold yu; rw [if_pos rfl]
def qaa (l : List Nat) (n : Nat) (s : St) : Option St := if n ≤ s.nx then some { s with env := restrict s.env l } else none
theorem zru (l : List Nat) (n E H k) : qaa l n ⟨E,H,k⟩ = if n ≤ k then some ⟨restrict E l,H,k⟩ else none := rfl
theorem qwt (l o p q r n s) : again ⟨l,o,p,q,r,1000⟩ n s = qaa l n (zl q (zq p s)) := by unfold again; rw [if_pos rfl]; rfl
theorem zgt (l o p q r n E H k) : leave ⟨l,o,p,q,r,1000⟩ n ⟨E,H,k⟩ = some ⟨restrict E o,H,k⟩ := by unfold leave; rw [if_pos rfl]
theorem z4d (r : List Fr) (s : St) : cont G O f (.zh [] :: r) (.normal,s) = cont G O f r (.normal,s) := rfl
theorem qs7 (c : Cmd) (l : List Cmd) (r : List Fr) (s : St) : cont G O f (.zh (c :: l) :: r) (.normal,s) = cont G O f (.zh l :: r) (.normal,nk c s) := rfl
theorem zok (id : Nat) (ops : Array Oper) (r : List Fr) (s : St) : cont G O f (.code (.region id ops false) :: r) (.normal,s) = ui G O f ops.toList ops.toList (zh (G.cmd f (2 * id)) s) (.zh (G.cmd f (2 * id + 1)) :: r) := by
 simp only [cont,exec,ui]
 cases vg G O ops.toList ops.toList (zh (G.cmd f (2 * id)) s) <;> rfl
theorem qkc (id : Nat) (ops : Array Oper) (r : List Fr) (s : St) : cont G O f (.code (.region id ops true) :: r) (.normal,s) = yg G O f ops.toList (q0x (G.pre f id)) 0 ops.toList (q50 G f id (zh (G.cmd f (2 * id)) s)) [] (.zh (G.cmd f (2 * id + 1)) :: r) := by
 simp only [cont,exec,yg]
 cases ku G O ops.toList (q0x (G.pre f id)) 0 ops.toList (q50 G f id (zh (G.cmd f (2 * id)) s)) [] <;> rfl
theorem qhx (f : FuncId) (id : Nat) (E : Env) (H : Heap) (nx : Nat) : q50 G f id ⟨E,H,nx⟩ = freezes (yw E H (G.pre f id)) ⟨E,H,nx⟩ := rfl
theorem qkn (all : List Oper) (s : St) (r : List Fr) : ui G O f all [] s r = cont G O f r (.normal,s) := rfl
theorem qpe (all : List Oper) (d : Option Tmp) (o : Op) (ty : TypeId) (ps : String) (af : Array Edge) (l : List Oper) (E : Env) (H : Heap) (nx : Nat) (r : List Fr) :
  ui G O f all (⟨d,o,ty,ps,af,none⟩ :: l) ⟨E,H,nx⟩ r = match freezes (needs G o E) ⟨E,H,nx⟩ with
   | ⟨E',H',n'⟩ => q7l G O f all l d E' H' r (aop G O o E' H' n') := by
 simp only [ui,vg,guardOf,q0c]
 generalize freezes (needs G o E) ⟨E,H,nx⟩ = s
 obtain ⟨E',H',n'⟩ := s
 simp only
 cases aop G O o E' H' n' with
 | none => rfl
 | some e => obtain ⟨v,ws,k⟩ := e; rfl
theorem z5f (all : List Oper) (d : Option Tmp) (o : Op) (ty : TypeId) (ps : String) (af : Array Edge) (g : Nat × Bool) (l : List Oper) (E : Env) (H : Heap) (nx : Nat) (r : List Fr) :
  ui G O f all (⟨d,o,ty,ps,af,some g⟩ :: l) ⟨E,H,nx⟩ r = match guardOf all ⟨d,o,ty,ps,af,some g⟩ E with
   | some b => if b = true then ui G O f all (⟨d,o,ty,ps,af,none⟩ :: l) ⟨E,H,nx⟩ r else ui G O f all l ⟨zz d (.tup []) E,H,nx⟩ r
   | none => none := by
 simp only [ui,vg]
 cases guardOf all ⟨d,o,ty,ps,af,some g⟩ E with
 | none => rfl
 | some b => cases b <;> simp [guardOf,q0c]
theorem qfl (all : List Oper) (d : Option Tmp) (o : Op) (ty : TypeId) (ps : String) (af : Array Edge) (j : Nat) (w : Bool) (E : Env) :
  guardOf all ⟨d,o,ty,ps,af,some (j,w)⟩ E = match all[j]? with
   | some oj => match oj.dst with
    | some d => match E.get d with
     | .pv (.bool b) => some (b == w)
     | .tup [] => some false
     | _ => none
    | none => some false
   | none => some false := rfl
theorem z4l (all : List Oper) (tm : Bool) (i : Nat) (s : St) (log : List (Nat × List Nat × List Nat)) (r : List Fr) (h : q0i (uw (kr [] all) log)) : yg G O f all tm i [] s log r = cont G O f r (.normal,s) := by
 simp only [yg,ku,h.h,if_true]
theorem z2f (all : List Oper) (tm : Bool) (i : Nat) (d : Option Tmp) (o : Op) (ty : TypeId) (ps : String) (af : Array Edge) (l : List Oper) (E : Env) (H : Heap) (nx : Nat) (log : List (Nat × List Nat × List Nat)) (r : List Fr) :
  yg G O f all tm i (⟨d,o,ty,ps,af,none⟩ :: l) ⟨E,H,nx⟩ log r = qct G O f all tm (i + 1) l d E H (touched o E H) log r (aop G O o E H nx) := by
 simp only [yg,ku,guardOf]
 cases aop G O o E H nx with
 | none => rfl
 | some e => obtain ⟨v,ws,k⟩ := e; rfl
theorem qdw (all : List Oper) (tm : Bool) (i : Nat) (d : Option Tmp) (o : Op) (ty : TypeId) (ps : String) (af : Array Edge) (g : Nat × Bool) (l : List Oper) (E : Env) (H : Heap) (nx : Nat) (log : List (Nat × List Nat × List Nat)) (r : List Fr) :
  yg G O f all tm i (⟨d,o,ty,ps,af,some g⟩ :: l) ⟨E,H,nx⟩ log r = match guardOf all ⟨d,o,ty,ps,af,some g⟩ E with
   | some b => if b = true then yg G O f all tm i (⟨d,o,ty,ps,af,none⟩ :: l) ⟨E,H,nx⟩ log r else yg G O f all tm (i + 1) l ⟨zz d (.tup []) E,H,nx⟩ log r
   | none => none := by
 simp only [yg,ku]
 cases guardOf all ⟨d,o,ty,ps,af,some g⟩ E with
 | none => rfl
 | some b => cases b <;> simp [guardOf,q0c]
theorem z1g (all l : List Oper) (d : Option Tmp) (E : Env) (H : Heap) (r : List Fr) (v : AV) (ws : List (Nat × Blk)) (nx : Nat) :
  q7l G O f all l d E H r (some (v,ws,nx)) = ui G O f all l ⟨zz d v E,qf ws H,nx⟩ r := rfl
theorem z7x (all l : List Oper) (d : Option Tmp) (E : Env) (H : Heap) (r : List Fr) : q7l G O f all l d E H r none = none := rfl
theorem z1l (all : List Oper) (i : Nat) (l : List Oper) (d : Option Tmp) (E : Env) (H : Heap) (rd : List Nat) (log : List (Nat × List Nat × List Nat)) (r : List Fr) (v : AV) (ws : List (Nat × Blk)) (nx : Nat) :
  qct G O f all false (i + 1) l d E H rd log r (some (v,ws,nx)) = yg G O f all false (i + 1) l ⟨zz d v E,qf ws H,nx⟩ ((i,rd,ws.map (·.1)) :: log) r := rfl
theorem zb9 (l : List Nat) (h : q0x l = false) : q0x l = false := h
theorem z3e : (true == true) = true := rfl
theorem zm0 : (false == false) = true := rfl
theorem zpo : (false == true) = false := rfl
theorem zsm : (true == false) = false := rfl
def roundEnd (G : GP) (O : qw) (f : FuncId) (id n : Nat) : Option (Ex × St) → Option (Ex × St)
 | some (.normal,s') => match again (G.spec f id) n (freezes (yw s'.env s'.heap (G.spec f id).freeze) s') with
  | some s'' => O.loop f id s''
  | none => none
 | some (.exit i,s') => if i = id then left .normal (leave (G.spec f id) n s') else left (.exit i) (leave (G.spec f id) n s')
 | some (.ret,s') => left .ret (leave (G.spec f id) n s')
 | none => none
theorem qe7 (id n : Nat) (s : St) : roundEnd G O f id n (some (.normal,s)) = match again (G.spec f id) n (freezes (yw s.env s.heap (G.spec f id).freeze) s) with | some s'' => O.loop f id s'' | none => none := rfl
theorem z6d (id n i : Nat) (s : St) : roundEnd G O f id n (some (.exit i,s)) = if i = id then left .normal (leave (G.spec f id) n s) else left (.exit i) (leave (G.spec f id) n s) := rfl
theorem qqn (id n : Nat) (s : St) : roundEnd G O f id n (some (.ret,s)) = left .ret (leave (G.spec f id) n s) := rfl
theorem qjm (ex : Ex) (s : St) : left ex (some s) = some (ex,s) := rfl
theorem zql {fi : FI} (hfi : G.fn f = some fi) {id : Nat} {c : Code} (hc : zg fi.body id = some c) (s : St) :
  uf G O f id s = roundEnd G O f id s.nx (cont G O f [.code c] (.normal,s)) := by
 unfold uf
 rw [hfi]
 simp only [hc,q8b]
 cases cont G O f [.code c] (.normal,s) with
 | none => rfl
 | some x => obtain ⟨e,s'⟩ := x; cases e <;> rfl
def fnE (G : GP) (f : FuncId) (m : Nat) (res : List ResultVar) (s : St) : Option (AV × Heap) :=
 match gm G s res with
 | some vs => finish m (G.keep f) (q13 vs) s
 | none => none
def q3d (G : GP) (f : FuncId) (m : Nat) (res : List ResultVar) : Option (Ex × St) → Option (AV × Heap)
 | some (.exit _,_) => none
 | some (_,s) => fnE G f m res (zh (G.cmd f 999999) s)
 | none => none
theorem z0g (m : Nat) (res : List ResultVar) (s : St) : q3d G f m res (some (.normal,s)) = fnE G f m res (zh (G.cmd f 999999) s) := rfl
theorem z4p (m : Nat) (res : List ResultVar) (s : St) : q3d G f m res (some (.ret,s)) = fnE G f m res (zh (G.cmd f 999999) s) := rfl
theorem qko (m : Nat) (res : List ResultVar) (E : Env) (H : Heap) (nx : Nat) : fnE G f m res ⟨E,H,nx⟩ = match gm G ⟨E,H,nx⟩ res with | some vs => finish m (G.keep f) (q13 vs) ⟨E,H,nx⟩ | none => none := rfl
theorem z4x {fi : FI} (hfi : G.fn f = some fi) {H : Heap} (hk : xk 0 H = true) (args : List AV) :
  uy G O f args H = q3d G f H.length fi.results (cont G O f [.code fi.body] (.normal,⟨wz 0 args,H,H.length⟩)) := by
 unfold uy
 rw [hfi]
 simp only [hk,if_true,q8b]
 cases cont G O f [.code fi.body] (.normal,⟨wz 0 args,H,H.length⟩) with
 | none => rfl
 | some x => obtain ⟨e,s'⟩ := x; cases e <;> rfl
theorem qwj {S : Special} {nt : Nat} {ob : Option Code} {ra : Array ResultVar} (hs : S.call f = none) (hfi : G.fn f = some ⟨nt,ra.toList,ob.get!⟩) {c : Code} (hc : ob = some c) {rs : List ResultVar} (hr : ra = ⟨rs⟩) {H : Heap}
  (hk : xk 0 H = true) {args : List AV} {r : Option (AV × Heap)}
  (h : q3d G f H.length rs (cont G (omega G S) f [.code c] (.normal,⟨wz 0 args,H,H.length⟩)) = r) : (omega G S).call f args H = r := by
 subst hc hr
 rw [qxh hs,z4x hfi hk]
 exact h
theorem qec {S : Special} {fi : FI} (hfi : G.fn f = some fi) {id : Nat} {c : Code} (hc : zg fi.body id = some c) {s : St} {r : Option (Ex × St)}
  (h : roundEnd G (omega G S) f id s.nx (cont G (omega G S) f [.code c] (.normal,s)) = r) : (omega G S).loop f id s = r := by
 rw [zew,zql hfi hc]
 exact h
end
end Go.Gm
set_option linter.unusedSectionVars false
namespace Go.Gm
open Go Go.RowKit Go.Maps
set_option maxRecDepth 10000
def q40 : List (PV × PV × Nat) → Option (List Int)
 | [] => some []
 | (.int .i64 k,_,_) :: r => match q40 r with
  | some l => some (k :: l)
  | none => none
 | _ => none
def q26 (x : Int) : List Int → List Int
 | [] => [x]
 | y :: r => if x ≤ y then x :: y :: r else y :: q26 x r
def xg : List Int → List Int
 | [] => []
 | x :: r => q26 x (xg r)
theorem q6g (x : Int) : ∀ l,(q26 x l).Perm (x :: l)
 | [] => .refl _
 | y :: r => by
  simp only [q26]
  split
  ·exact .refl _
  ·exact ((q6g x r).cons y).trans (.swap x y r)
theorem q6o : ∀ l,(xg l).Perm l
 | [] => .refl _
 | x :: r => (q6g x _).trans ((q6o r).cons x)
theorem q9d (x : Int) : ∀ l,l.Pairwise (· ≤ ·) → (q26 x l).Pairwise (· ≤ ·)
 | [],_ => by simp [q26]
 | y :: r,h => by
  simp only [q26]
  rw [List.pairwise_cons] at h
  split
  ·rename_i hxy
   refine List.pairwise_cons.2 ⟨fun z hz => ?_,List.pairwise_cons.2 h⟩
   rcases List.mem_cons.1 hz with rfl | hz
   ·exact hxy
   ·exact Int.le_trans hxy (h.1 z hz)
  ·rename_i hxy
   refine List.pairwise_cons.2 ⟨fun z hz => ?_,q9d x r h.2⟩
   rcases List.mem_cons.1 ((q6g x r).mem_iff.1 hz) with rfl | hz
   ·omega
   ·exact h.1 z hz
theorem qbj : ∀ l,(xg l).Pairwise (· ≤ ·)
 | [] => .nil
 | x :: r => q9d x _ (qbj r)
theorem qo3 (l l' : List Int) (h : l'.Perm l) : l'.mergeSort (fun x y => decide (x ≤ y)) = xg l := by
 have tr : ∀ a b c : Int,decide (a ≤ b) = true → decide (b ≤ c) = true → decide (a ≤ c) = true := fun a b c h1 h2 => by simp only [decide_eq_true_eq] at *; exact Int.le_trans h1 h2
 have to : ∀ a b : Int,(decide (a ≤ b) || decide (b ≤ a)) = true := fun a b => by simp only [Bool.or_eq_true,decide_eq_true_eq]; exact Int.le_total a b
 refine List.Perm.eq_of_pairwise (le := fun a b => a ≤ b) (fun a b _ _ h1 h2 => Int.le_antisymm h1 h2) ?_ (qbj l) (((List.mergeSort_perm l' _).trans h).trans (q6o l).symm)
 have := List.pairwise_mergeSort tr to l'
 exact this.imp fun h => by simpa using h
def q90 (ks : List Int) (st : List Nat) (clock : Nat) : Bool :=
 decide ks.Nodup && ks.all (fun k => decide (-9223372036854775808 ≤ k) && decide (k ≤ 9223372036854775807)) && decide st.Nodup && st.all (fun b => decide (b < clock)) && decide (ks.length ≤ 1099511627776)
def q04 : List (PV × PV × Nat) → List Nat
 | [] => []
 | e :: r => e.2.2 :: q04 r
def q5m (fk : FuncId) (args : List AV) (H : Heap) : Option (AV × Heap) :=
 match args,H with
 | [.clo g [] [.ptr 0 0]],[(0,.box [.map 1]),(1,.map es clock)] => match q40 es with
  | some ks => if g = fk ∧ q90 ks (q04 es) clock = true then some (.row 2 (xg ks).length 0 (xg ks).length,[(0,.box [.map 1]),(1,.map es clock),(2,.row (xg ks).isEmpty (szc 1 (xg ks)) ((xg ks).map fun k => [.int .i64 k]))]) else none
  | none => none
 | _,_ => none
theorem q89 : ∀ {es : List (PV × PV × Nat)} {ks : List Int},q40 es = some ks → ks.length = es.length ∧ ∀ (i : Nat) (k x : PV) (b : Nat),es[i]? = some (k,x,b) → ∃ n,ks[i]? = some n ∧ k = .int .i64 n
 | [],ks,h => by cases h; exact ⟨rfl,by simp⟩
 | (p,v,b) :: r,ks,h => by
  cases p with
  | int kd k =>
   cases kd <;> simp only [q40] at h <;> try cases h
   split at h
   ·rename_i l hl
    cases h
    obtain ⟨h1,h2⟩ := q89 hl
    refine ⟨by simp [h1],fun i k' x b' hi => ?_⟩
    cases i with
    | zero => simp at hi; obtain ⟨rfl,_⟩ := hi; exact ⟨k,rfl,rfl⟩
    | succ i => simpa using h2 i k' x b' (by simpa using hi)
   ·cases h
  | _ => simp [q40] at h
theorem q7x : ∀ es,q04 es = es.map (·.2.2)
 | [] => rfl
 | e :: r => by simp [q04,q7x r]
theorem q8q {H : Type} (x : Lit × DataW H) : ∀ l,(DataW.insert x l).Perm (x :: l)
 | [] => .refl _
 | y :: r => by
  simp only [DataW.insert]
  split
  ·exact .refl _
  ·exact ((q8q x r).cons y).trans (.swap x y r)
theorem q68 {H : Type} : ∀ l : List (Lit × DataW H),(l.foldr DataW.insert []).Perm l
 | [] => .refl _
 | x :: r => (q8q x _).trans ((q68 r).cons x)
theorem qa.below [Globs] {w w' : World} {H : Heap} {ι : Plc} {Im : Nat → Prop} (hi : qa w H ι Im) (hb : Below w.heap.size w w') :
    qa w' H ι (fun b => Im b ∨ (w.heap.size ≤ b ∧ b < w'.heap.size)) ∧ Evo w H ι Im w' H ι (fun b => Im b ∨ (w.heap.size ≤ b ∧ b < w'.heap.size)) := by
  have he : Evo w H ι Im w' H ι (fun b => Im b ∨ (w.heap.size ≤ b ∧ b < w'.heap.size)) := {
    comp := fun β b h => ⟨b,h,gz b _⟩
    im := fun _ h => .inl h
    imnew := fun b h => h.elim .inl fun h => .inr (.inl h.1)
    plnew := fun β x z h hu => .inr ⟨β,x,h,hu⟩
    same := fun b h _ => hb.block b h
    size := hb.size
    io := ⟨hb.os,hb.output⟩ }
  have hlt : ∀ β b z,H.get β = some b → b.foot (ι β) z → z < w.heap.size := fun β b z hB hu => (hi.blk β b hB).mf hu
  refine ⟨⟨fun β b hB => ?_,hi.inj,fun b h => ?_,fun β b z hB hu h => ?_,Globs.go hi.glb hi.gim fun b hb => he.kept hi b hb,fun b hb => .inl (hi.gim b hb)⟩,he⟩
  · exact (hi.blk β b hB).mono hi he fun hu => ⟨rfl,fun x hx => hb.block _ (hlt β b x hB hx)⟩
  · rcases h with h | h
    · exact Nat.lt_of_lt_of_le (hi.im b h) hb.size
    · exact h.2
  · rcases h with h | h
    · exact hi.nim β b z hB hu h
    · have := hlt β b z hB hu
      omega
theorem q9a [Globs] {P : Program} {fs fk : FuncId} {kt : TypeId} (hkt : P.underlying kt = some (.int .i64)) (hen : enters P fs)
  (hcall : ∀ (l b nn : Nat) (D0 : DataW Unit) (w : World),l < w.heap.size → w.cell? ⟨l,0,none⟩ = some (.map (some b)) → w.ownsMap P kt (fun _ => some (.nil,[])) b nn D0 → Maps.size D0 ≤ maxLen → Maps.size D0 * 8 ≤ 140737488355328 →
   Calls P fs #[.func (.func fk) #[] #[.pointer (some ⟨l,0,none⟩)]] w fun e w' => ∃ (v : Value) (ss : List Int),e = .returned v ∧ ss.Perm (intKeys D0) ∧ w'.ownsRow w.heap.size kt 1 v ss.length ((ss.mergeSort (fun x y => decide (x ≤ y))).map encZ) ∧ (v = .slice none 0 0 ↔ ss = []) ∧ Below w.heap.size w w')
  {args : List AV} {H : Heap} {r : AV} {H' : Heap} (h : q5m fk args H = some (r,H')) : enters P fs ∧ mi P fs args H r H' := by
 refine ⟨hen, ?_⟩
 unfold q5m at h
 split at h
 ·rename_i g es clock
  split at h
  ·rename_i ks hks
   split at h
   ·rename_i hc
    obtain ⟨rfl,hfit⟩ := hc
    cases h
    intro w ι Im vs hi hl ha
    obtain ⟨v0,rfl⟩ : ∃ v0,vs = [v0] := by
     match vs,hl with
     | [v0],_ => exact ⟨v0,rfl⟩
    have h0 := ha 0 _ _ rfl rfl
    cases h0 with
    | clo _ _ _ va vb hla hlb hA hB =>
    have : va = [] := by cases va with | nil => rfl | cons => simp at hla
    subst this
    obtain ⟨p0,rfl⟩ : ∃ p0,vb = [p0] := by
     match vb,hlb with
     | [p0],_ => exact ⟨p0,rfl⟩
    have hp := hB 0 _ _ rfl rfl
    cases hp with
    | ptr _ _ c hbox =>
    have hb0 := hi.blk 0 (.box [.map 1]) rfl
    obtain ⟨cv,elem,fz,q1,q2,q3,q4,q5⟩ := hb0
    obtain ⟨m0,hm0⟩ : ∃ m0,cv[0]? = some m0 := ⟨cv[0]'(by rw [← q3]; simp),by simp⟩
    have hmr := q5 0 _ _ rfl hm0
    cases hmr with
    | map _ _ _ _ =>
    obtain ⟨ents,g1,g2,g3⟩ := hi.blk 1 (.map es clock) rfl
    obtain ⟨k1,k2⟩ := q89 hks
    simp only [q90,Bool.and_eq_true,decide_eq_true_eq,List.all_eq_true] at hfit
    obtain ⟨⟨⟨⟨f1,f2⟩,f3⟩,f4⟩,f5⟩ := hfit
    have hbw : ∀ β b,Heap.get [(0,Blk.box [AV.map 1]),(1,Blk.map es clock)] β = some b → b.used = true → (ι β).b < w.heap.size := fun β b hB hu => (hi.blk β b hB).lt hu
    have hent : ∀ (i : Nat) e,ents[i]? = some e → ∃ n,ks[i]? = some n ∧ e.key = encZ n ∧ e.born = (q04 es)[i]?.getD 0 ∧ i < es.length := by
     intro i e he
     have hlt : i < es.length := g2 ▸ (List.getElem?_eq_some_iff.1 he).1
     obtain ⟨pk,pv,pb,hes⟩ : ∃ a b c,es[i]? = some (a,b,c) := ⟨es[i].1,es[i].2.1,es[i].2.2,by simp [hlt]⟩
     obtain ⟨n,hn,rfl⟩ := k2 i _ _ _ hes
     obtain ⟨r1,r2,r3⟩ := g3 i _ _ _ e hes he
     refine ⟨n,hn, ?_,by rw [q7x]; simp [hes,r3],hlt⟩
     have := r1
     generalize e.key = kk at this
     cases this
     rfl
    have hkeys : ents.map (·.key) = ks.map encZ := by
     apply List.ext_getElem?
     intro i
     cases he : ents[i]? with
     | none =>
      have h1 : ents.length ≤ i := by simpa using he
      have h2 : ks.length ≤ i := by omega
      simp [he,h2]
     | some e =>
      obtain ⟨n,hn,hk,_⟩ := hent i e he
      simp [he,hn,hk]
    have hborn : ents.map (·.born) = q04 es := by
     apply List.ext_getElem?
     intro i
     have hsl : (q04 es).length = es.length := by rw [q7x]; simp
     cases he : ents[i]? with
     | none =>
      have h1 : ents.length ≤ i := by simpa using he
      have h2 : (q04 es).length ≤ i := by omega
      simp [he,h2]
     | some e =>
      obtain ⟨n,_,_,hb,hlt⟩ := hent i e he
      have : i < (q04 es).length := by omega
      simp [he,hb,this]
    have hrd : ∀ (i : Nat) e,ents[i]? = some e → ∃ n,ks[i]? = some n ∧ WideElems.rd P kt (fun _ => some ((.nil : DataW Unit),[])) e = some (.int .i64 n,.nil) := by
     intro i e he
     obtain ⟨n,hn,hk,_⟩ := hent i e he
     refine ⟨n,hn, ?_⟩
     obtain ⟨b1,b2⟩ := f2 n (List.mem_of_getElem? hn)
     have hw : (Lit.int .i64 n).wf = true := by simp [Lit.wf,IntKind.min,IntKind.max,IntKind.signed,IntKind.bits]; omega
     simp [WideElems.rd,hk,encZ,keyOf,hkt,mapKey,hw]
    let R : Value → Option (DataW Unit × List MemPlace) := fun _ => some (.nil,[])
    have hgl : (ents.map (WideElems.rg P kt R)).map (fun p => intOf p.1) = ks := by
     apply List.ext_getElem?
     intro i
     cases he : ents[i]? with
     | none =>
      have h1 : ents.length ≤ i := by simpa using he
      have h2 : ks.length ≤ i := by omega
      simp [he,h2]
     | some e =>
      obtain ⟨n,hn,hk⟩ := hrd i e he
      simp [he,hn,WideElems.rg,R,hk,intOf]
    let D0 : DataW Unit := .map ((ents.map (WideElems.rg P kt R)).foldr DataW.insert [])
    have hown : w.ownsMap P kt R (ι 1).b ents.length D0 := by
     refine ⟨⟨ents⟩,clock,g1,⟨?_,⟨fun x hx => ?_, ?_, ?_⟩,fun x hx => ?_⟩,Nat.le_refl _,rfl⟩
     ·show ents.length ≤ maxLen
      simp only [maxLen]
      omega
     ·apply f4
      rw [← hborn]
      exact List.mem_map_of_mem hx
     ·show (ents.map (·.born)).Nodup
      rw [hborn]
      exact f3
     ·show (ents.map (·.key)).Nodup
      rw [hkeys]
      exact List.pairwise_map.2 (f1.imp fun hne he => hne (encZ_inj he))
     ·obtain ⟨i,hi'⟩ := List.getElem?_of_mem hx
      obtain ⟨n,_,hr⟩ := hrd i x hi'
      exact ⟨_,hr⟩
    have hperm : (intKeys D0).Perm ks := by
     have := (q68 (ents.map (WideElems.rg P kt R))).map (fun p => intOf p.1)
     rw [hgl] at this
     exact this
    have hsz : Maps.size D0 = ks.length := by
     have := (q68 (ents.map (WideElems.rg P kt R))).length_eq
     show ((ents.map (WideElems.rg P kt R)).foldr DataW.insert []).length = _
     rw [this]
     simp
     omega
    have hcell : w.cell? ⟨(ι 0).b,0,none⟩ = some (.map (some (ι 1).b)) := by
     simp [World.cell?,q1,hm0]
    refine (hcall (ι 0).b (ι 1).b ents.length D0 w (hbw 0 _ rfl rfl) hcell hown (by rw [hsz]; simp only [maxLen]; omega) (by rw [hsz]; omega)).mono ?_
    rintro e w' ⟨v,ss,rfl,hS,hrow,hnil,hb⟩
    have hss := hS.trans hperm
    rw [qo3 ks ss hss] at hrow
    obtain ⟨w1,w2⟩ := hrow
    have hlen : (xg ks).length = ss.length := ((q6o ks).trans hss.symm).length_eq
    rcases w2 with ⟨rfl,hz⟩ | ⟨g0,cap,cur,rfl,c1,c2,c3,c4,c5,c6⟩
    ·have e2 : xg ks = [] := List.length_eq_zero_iff.1 (by omega)
     rw [e2]
     obtain ⟨hI,hE⟩ := qa.put (hno := q2r rfl) hi (w' := w') 2 (.row true 0 []) ⟨0,0,[]⟩ (fun x hx => by cases hx) ⟨hb.size,hb.os,hb.output⟩ (fun b h _ => hb.block b h) (fun h => by cases h) (fun _ => rfl)
     refine ⟨_,_,_,rfl,hI,hE, ?_⟩
     exact .row 2 0 0 0 _ (.row true 0 []) rfl rfl (fun _ => ⟨_,_,_,rfl⟩) (fun _ _ _ e => by cases e; exact Nat.le_refl _) (fun _ _ _ e _ => by cases e; exact ⟨Nat.le_refl _,rfl⟩)
    ·have hne : ss ≠ [] := fun e => by
      have := hnil.2 e
      cases this
     have e1 : (xg ks).isEmpty = false := by
      cases hs : xg ks with
      | nil => rw [hs] at hlen; exact absurd (List.length_eq_zero_iff.1 hlen.symm) hne
      | cons => rfl
     have e2 : szc 1 (xg ks) = 1 := by
      cases hs : xg ks with
      | nil => rw [hs] at hlen; exact absurd (List.length_eq_zero_iff.1 hlen.symm) hne
      | cons => rfl
     rw [e1,e2]
     have hcur : ∀ (i : Nat) (n : Int),(xg ks)[i]? = some n → cur[i]? = some (encZ n) := by
      intro i n hn
      have h1 : i < (xg ks).length := (List.getElem?_eq_some_iff.1 hn).1
      have h2 : (cur.toList.take (ss.length * 1))[i]? = some (encZ n) := by rw [c6]; simp [hn]
      rw [List.getElem?_take_of_lt (by omega)] at h2
      rw [← Array.getElem?_toList]
      exact h2
     have hml : ((xg ks).map fun k => [PV.int .i64 k]).length = (xg ks).length := List.length_map _
     obtain ⟨hI,hE⟩ := qa.put (hno := q2r rfl) hi (w' := w') 2 (.row false 1 ((xg ks).map fun k => [PV.int .i64 k])) ⟨g0,cap,[]⟩ (fun x hx => by cases hx) ⟨hb.size,hb.os,hb.output⟩ (fun b h _ => hb.block b h) (fun _ => .inl c1) (fun _ => by
      refine ⟨cur,kt,(0,0),by simpa using c2,jo _,by simpa using c5,by omega,by rw [hml]; simpa using (by omega : (xg ks).length ≤ cap),fun e he => ?_,fun i e j p h1 h2 => ?_,fun i e j p h1 h2 => ?_⟩
      ·obtain ⟨k,_,rfl⟩ := List.mem_map.1 he
       rfl
      ·simp only [List.getElem?_map,Option.map_eq_some_iff] at h1
       obtain ⟨n,hn,rfl⟩ := h1
       cases j with
       | zero => simp at h2; subst h2; rfl
       | succ j => simp at h2
      ·simp only [List.getElem?_map,Option.map_eq_some_iff] at h1
       obtain ⟨n,hn,rfl⟩ := h1
       cases j with
       | zero =>
        simp at h2
        subst h2
        exact ⟨encZ n,by simpa using hcur i n hn,.int .i64 n⟩
       | succ j => simp at h2)
     refine ⟨_,_,_,rfl,hI,hE, ?_⟩
     refine .row 2 _ 0 _ _ (.row false 1 ((xg ks).map fun k => [PV.int .i64 k])) rfl rfl (fun _ => ⟨_,_,_,rfl⟩) (fun _ _ _ e => by cases e; rw [hml]; exact Nat.le_refl _) (fun _ _ _ e _ => ?_)
     cases e
     refine ⟨by rw [hml]; omega, ?_⟩
     simp only [Bool.false_eq_true,if_false]
     exact ⟨⟨g0,0,none⟩,by rw [hlen]; simp,rfl,by simp,fun _ => by simp⟩
   ·cases h
  ·cases h
 ·cases h
end Go.Gm
set_option linter.unusedSectionVars false
namespace Go.Gm
open Go Go.RowKit Go.Sort
def q5t (args : List AV) (H : Heap) : Option (AV × Heap) :=
 match args with
 | [.pv (.int .i64 n)] => if -9223372036854775808 ≤ n ∧ n ≤ 9223372036854775807 then some (.pv (.str (Lib.itoa n)),H) else none
 | _ => none
theorem qsm (w : World) (k : Nat) (os : Array Obj) : Below w.heap.size w (grow (w.drewN k) os) :=
 ⟨rfl,rfl,rfl,by simp [grow,World.drewN],fun i hi => by simp only [grow,World.drewN]; rw [Array.getElem?_append_left hi]⟩
theorem qgv [Globs] {P : Program} {fi : FuncId} (hen : enters P fi)
  (hcall : ∀ (n : Int),-9223372036854775808 ≤ n → n ≤ 9223372036854775807 → ∀ w : World,Globs.ok w →
   Calls P fi #[.int .i64 n] w fun e w' => e = .returned (.string ⟨(Lib.itoa n).toArray⟩) ∧ ∃ k os,w' = grow (w.drewN k) os)
  {args : List AV} {H : Heap} {r : AV} {H' : Heap} (h : q5t args H = some (r,H')) : enters P fi ∧ mi P fi args H r H' := by
 refine ⟨hen, ?_⟩
 unfold q5t at h
 split at h
 ·rename_i n
  split at h
  ·rename_i hc
   cases h
   intro w ι Im vs hi hl ha
   obtain ⟨v0,rfl⟩ : ∃ v0,vs = [v0] := by
    match vs,hl with
    | [v0],_ => exact ⟨v0,rfl⟩
   have h0 := ha 0 _ _ rfl rfl
   cases h0 with
   | pv _ _ hp =>
   cases hp with
   | int =>
   refine (hcall n hc.1 hc.2 w hi.glb).mono ?_
   rintro e w' ⟨rfl,k,os,rfl⟩
   obtain ⟨hI,hE⟩ := hi.below (qsm w k os)
   exact ⟨_,_,_,rfl,hI,hE,.pv _ _ (.str _)⟩
  ·cases h
 ·cases h
end Go.Gm
set_option linter.unusedSectionVars false
namespace Go.Gm
open Go
def q5h (t : TypeId) (args : List AV) (H : Heap) : Option (AV × Heap) :=
 match args with
 | [.ptr β 0] => match H.get β with
  | some (.z8 t' [.pv .nilptr,x]) => if t' = t then some (.tup [],Heap.put H β (.z8 t' [.ptr β 0,x])) else none
  | some (.z8 t' [.ptr β' 0,x]) => if t' = t ∧ β' = β then some (.tup [],H) else none
  | _ => none
 | _ => none
theorem qyc [Globs] {P : Program} {f : FuncId} {t : TypeId} (hen : enters P f)
  (hused : ∀ (b : Nat) (w : World),w.cell? ⟨b,0,none⟩ = some (.pointer (some ⟨b,0,none⟩)) → Calls P f #[.pointer (some ⟨b,0,none⟩)] w fun e w' => e = .returned (.tuple #[]) ∧ w' = w)
  (hfresh : ∀ (b : Nat) (w : World),w.cell? ⟨b,0,none⟩ = some (.pointer none) → w.shape? b = some (t,2) → w.frozen? ⟨b,0,none⟩ = false →
   Calls P f #[.pointer (some ⟨b,0,none⟩)] w fun e w' => e = .returned (.tuple #[]) ∧ w' = w.setCell ⟨b,0,none⟩ (.pointer (some ⟨b,0,none⟩)))
  {args : List AV} {H : Heap} {r : AV} {H' : Heap} (h : q5h t args H = some (r,H')) : enters P f ∧ mi P f args H r H' := by
 refine ⟨hen, ?_⟩
 unfold q5h at h
 split at h
 rotate_left
 ·cases h
 rename_i β
 split at h
 ·rename_i t' x hb
  split at h <;> cases h
  rename_i ht
  subst ht
  intro w ι Im vs hi hl ha
  obtain ⟨v0,rfl⟩ : ∃ v0,vs = [v0] := by
   match vs,hl with
   | [v0],_ => exact ⟨v0,rfl⟩
  have h0 := ha 0 _ _ rfl rfl
  cases h0 with
  | ptr _ _ b0 hb0 hk0 =>
  obtain ⟨cv,fz,q1,q2,q3,q4,q5⟩ := hi.z8 hb
  have hsz : cv.size = 2 := by rw [← q3]; rfl
  obtain ⟨c0,hc0⟩ : ∃ c0,cv[0]? = some c0 := ⟨cv[0]'(by omega),by simp [hsz]⟩
  have hm := q5 0 _ c0 rfl hc0
  have hm := hm.zo
  cases hm
  have hlt : (ι β).b < w.heap.size := (Array.getElem?_eq_some_iff.1 q1).1
  have hcell : w.cell? ⟨(ι β).b,0,none⟩ = some (.pointer none) := by rw [jw q1]; exact hc0
  have hsh : w.shape? (ι β).b = some (t',2) := by simp [World.shape?,q1,hsz]
  have hfz : w.frozen? ⟨(ι β).b,0,none⟩ = false := by
   have := q2.2 0 (by omega)
   simp only [World.frozen?,q1]
   simp only [Bool.and_eq_false_iff,decide_eq_false_iff_not]
   omega
  refine (hfresh _ w hcell hsh hfz).mono ?_
  rintro e w' ⟨rfl,rfl⟩
  have key := qa.put (hno := noO hb rfl) hi (w' := w.setCell ⟨(ι β).b,0,none⟩ (.pointer (some ⟨(ι β).b,0,none⟩))) β (.z8 t' [.ptr β 0,x]) (ι β) (fun y hy => by rw [hb] at hy; cases hy; rfl)
   ⟨by rw [qa7]; exact Nat.le_refl _,rfl,rfl⟩ (fun b' _ hne => qcj (fun e => hne _ hb rfl e)) (fun _ => .inr ⟨_,hb,rfl,rfl⟩) (fun he => by
    refine ⟨cv.setIfInBounds 0 (.pointer (some ⟨(ι β).b,0,none⟩)),fz,by simpa using qa5 q1,by simpa using q2,by simp [hsz],fun y hy => ?_,fun i y v hy hv => ?_⟩
    ·simp only [List.mem_cons,List.not_mem_nil,or_false] at hy
     rcases hy with rfl | rfl
     ·rfl
     ·exact q4 _ (by simp)
    ·match i with
     | 0 =>
      simp [hsz] at hy hv
      subst hy hv
      have hg : (H.put β (.z8 t' [.ptr β 0,x])).get β = some (.z8 t' [.ptr β 0,x]) := by simp [Heap.get_put]
      have := RA.ptr (w := w.setCell ⟨(ι β).b,0,none⟩ (.pointer (some ⟨(ι β).b,0,none⟩))) (ι := qg ι β (ι β)) (Im := Im) β 0 _ hg rfl
      simpa using this
     | 1 =>
      simp at hy
      subst hy
      have hv' : cv[1]? = some v := by simpa [Array.getElem?_setIfInBounds] using hv
      exact (q5 1 _ v rfl hv').mono hi he
     | i + 2 => simp at hy)
  exact ⟨_,_,_,rfl,key.1,key.2,.tup [] [] rfl (by simp)⟩
 ·rename_i t' β' x hb
  split at h <;> cases h
  rename_i hc
  obtain ⟨rfl,rfl⟩ := hc
  intro w ι Im vs hi hl ha
  obtain ⟨v0,rfl⟩ : ∃ v0,vs = [v0] := by
   match vs,hl with
   | [v0],_ => exact ⟨v0,rfl⟩
  have h0 := ha 0 _ _ rfl rfl
  cases h0 with
  | ptr _ _ b0 hb0 hk0 =>
  obtain ⟨cv,fz,q1,q2,q3,q4,q5⟩ := hi.z8 hb
  have hsz : cv.size = 2 := by rw [← q3]; rfl
  obtain ⟨c0,hc0⟩ : ∃ c0,cv[0]? = some c0 := ⟨cv[0]'(by omega),by simp [hsz]⟩
  have hm := q5 0 _ c0 rfl hc0
  cases hm with
  | ptr _ _ _ _ _ =>
  refine (hused (ι β').b w (by rw [jw q1]; exact hc0)).mono ?_
  rintro e w' ⟨rfl,rfl⟩
  exact ⟨_,_,_,rfl,hi,Evo.refl _ _ _ _,.tup [] [] rfl (by simp)⟩
 ·cases h
end Go.Gm
