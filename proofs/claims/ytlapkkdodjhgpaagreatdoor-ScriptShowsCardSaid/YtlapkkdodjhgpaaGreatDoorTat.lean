/-
  Scripts: what is shown, and the law ScriptShows, on plain data.
-/
import Derived.Test.YtlapkkdodjhgpaaGreatDoorTar
import Derived.Test.YtlapkkdodjhgpaaGreatDoorTas
set_option linter.unusedSimpArgs false
set_option linter.unusedVariables false
namespace Go.Proofs.YtlapkkdodjhgpaaGreatDoor
open Go Go.Gm
def nuB (l : List Int) : Bytes := l.flatMap zg
theorem q8o (x : Int) (l : List Int) : nuB (x :: l) = zg x ++ nuB l := by simp [nuB]
def opB (l : List T.Op) : Bytes := l.flatMap fun o => za o ++ [10]
theorem q58 (o : T.Op) (l : List T.Op) : opB (o :: l) = (za o ++ [10]) ++ opB l := by simp [opB]
theorem q7d {n : Int} (h : inU n) : inI n := by
 obtain ⟨h1,h2⟩ := h
 exact ⟨by omega,by omega⟩
theorem qdw {n : Int} (h : inU n) : IntKind.i64.wrap n = n := by
 obtain ⟨h1,h2⟩ := h
 exact jh
theorem yf {c : Prop} [Decidable c] {a b : Bytes} {m : Nat} (ha : a.length ≤ m) (hb : b.length ≤ m) : (if c then a else b).length ≤ m := by
 split
 ·exact ha
 ·exact hb
theorem z0d {o : T.Op} (h : q05 o) : (za o).length ≤ 30000000 := by
 obtain ⟨f1,f2,f3,f4,f5,f6,f7⟩ := h
 have lt := tu f3
 have ln := tu f2
 have lm := xq f1
 have l4 : ∀ l : List T.qj,(∀ e ∈ l,inI e.span.frm ∧ inI e.span.to ∧ e.text.length ≤ 100000) → (edB l).length ≤ l.length * 200000 := by
  intro l
  induction l with
  | nil => intro _; simp [edB]
  | cons e l ih =>
   intro hh
   obtain ⟨a1,a2,a3⟩ := hh e (by simp)
   have b1 := xq a1
   have b2 := xq a2
   have b3 := tu a3
   have := ih fun e he => hh e (by simp [he])
   rw [q4f,List.length_cons,Nat.succ_mul]
   simp only [List.length_append]
   omega
 have l5 : ∀ l : List T.Sel,(∀ e ∈ l,inI e.anchor ∧ inI e.head) → (seB l).length ≤ l.length * 200000 := by
  intro l
  induction l with
  | nil => intro _; simp [seB]
  | cons e l ih =>
   intro hh
   obtain ⟨a1,a2⟩ := hh e (by simp)
   have b1 := xq a1
   have b2 := xq a2
   have := ih fun e he => hh e (by simp [he])
   rw [q5j,List.length_cons,Nat.succ_mul]
   simp only [List.length_append]
   omega
 have e4 := l4 _ f5
 have e5 := l5 _ f7
 unfold za uf
 refine yf ?_ (yf ?_ (yf ?_ (yf ?_ (yf ?_ (yf ?_ (yf ?_ (yf ?_ (yf ?_ (yf ?_ (yf ?_ (yf ?_ (yf ?_ ?_))))))))))))
 rotate_left 5
 ·rw [List.length_append]
  have : (if o.extend = true then ([32,49] : Bytes) else [32,48]).length ≤ 2 := yf (by simp) (by simp)
  simp only [List.length_append,List.length_cons,List.length_nil]
  omega
 all_goals (try simp only [List.length_append,List.length_cons,List.length_nil])
 all_goals omega
theorem qbb (os : Sl T.Op) (ns : Sl Int) (hl : ns.l.length ≤ 1000) (hn : ∀ x ∈ ns.l,inU x) : ∀ (l : List Int) (k : Nat) (out : Bytes),ns.l.drop k = l → k ≤ ns.l.length → out.length ≤ 10 + k * 21 →
  q2j (os,ns,(ns.l.length : Int),(k : Int),out) = some (out ++ nuB l)
 | [],k,out,h,hk,ho => by
  obtain ⟨h1,h2⟩ := drop_nil h hk
  rw [q2j.eq_1,if_neg (by simp; omega)]
  simp [nuB]
 | x :: l,k,out,h,hk,ho => by
  obtain ⟨g1,g2,g3,g4⟩ := drop_cons h
  have hx := hn x (List.mem_of_getElem? g2)
  have l1 := xq (q7d hx)
  rw [q2j.eq_1,if_pos (by simp; omega),g1]
  simp only [Option.bind_eq_bind,Option.bind_some]
  rw [qdw hx,yo (q7d hx)]
  simp only [Option.bind_some]
  rw [if_pos (q72 (by omega) (by omega)),wm (by omega),qbb os ns hl hn l (k + 1) _ g4 (by omega) (by simp only [List.length_append]; omega),q8o,List.append_assoc]
theorem qas (os : Sl T.Op) (ns : Sl Int) (hl : ns.l.length ≤ 1000) (hn : ∀ x ∈ ns.l,inU x) : ∀ (l : List Int) (k : Nat) (out : Bytes),ns.l.drop k = l → k ≤ ns.l.length → out.length ≤ 10 + k * 21 →
  q20 (ns,os,out,(k : Int)) = some (out ++ nuB l)
 | [],k,out,h,hk,ho => by
  obtain ⟨h1,h2⟩ := drop_nil h hk
  rw [q20.eq_1,if_neg (by simp; omega)]
  simp [nuB]
 | x :: l,k,out,h,hk,ho => by
  obtain ⟨g1,g2,g3,g4⟩ := drop_cons h
  have hx := hn x (List.mem_of_getElem? g2)
  have l1 := xq (q7d hx)
  have hx0 : 0 ≤ x ∧ x ≤ 4294967295 := hx
  have l2 : (iT x).length + 1 = (zg x).length := by simp [zg]
  rw [q20.eq_1,if_pos (by simp; omega),if_pos (by simp only [List.length_cons,List.length_nil]; omega),g1]
  simp only [Option.bind_eq_bind,Option.bind_some]
  rw [qdw hx,q75 (by omega) (by omega),← q89 (by omega)]
  simp only [Option.bind_some]
  rw [if_pos (by simp only [List.length_append,List.length_cons,List.length_nil]; omega),wm (by omega),qas os ns hl hn l (k + 1) _ g4 (by omega) (by simp only [List.length_append,List.length_cons,List.length_nil]; omega),q8o]
  simp [zg]
def uq (l : List T.Op) : Bool := l.all zt
theorem qbf (o : T.Op) (l : List T.Op) : uq (o :: l) = (zt o && uq l) := by simp [uq]
theorem qav (os : Sl T.Op) (r1 : List UInt8) (m : Nat) (hm : m + 1 ≤ 1073741824) (hf : ∀ o ∈ os.l,q05 o) (hs : ∀ o ∈ os.l,True) : ∀ (l : List T.Op) (k : Nat) (out : Bytes),os.l.drop k = l → k ≤ os.l.length → os.l.length ≤ 100000 → out.length + (opB l).length ≤ m →
  (uq l = true → q0v (os,os,(os.l.length : Int),(k : Int),out,r1) = some (.inr (out ++ opB l))) ∧
  (uq l = false → ∃ s,q0v (os,os,(os.l.length : Int),(k : Int),out,r1) = some (.inl (⟨true,[]⟩,2,s)))
 | [],k,out,h,hk,hl,ho => by
  obtain ⟨h1,h2⟩ := drop_nil h hk
  rw [q0v.eq_1,if_neg (by simp; omega)]
  simp [opB,uq]
 | o :: l,k,out,h,hk,hl,ho => by
  obtain ⟨g1,g2,g3,g4⟩ := drop_cons h
  have hx := hf o (List.mem_of_getElem? g2)
  have ho' := ho
  rw [q58] at ho'
  simp only [List.length_append,List.length_cons,List.length_nil] at ho'
  rw [q0v.eq_1,if_pos (by simp; omega),g1]
  simp only [Option.bind_eq_bind,Option.bind_some]
  rw [za4 o hx,qbf]
  simp only [Option.bind_some]
  cases hk2 : zt o with
  | false =>
   rw [if_pos (by rfl)]
   exact ⟨fun h => (by simp at h),fun _ => ⟨_,rfl⟩⟩
  | true =>
   rw [if_neg (by simp),if_pos (q72 (by omega) (by omega)),if_pos (q72 (by simp only [List.length_append]; omega) (by omega)),wm (by omega)]
   have ih := qav os r1 m hm hf hs l (k + 1) ((out ++ za o) ++ [10]) g4 (by omega) hl (by simp only [List.length_append,List.length_cons,List.length_nil]; omega)
   refine ⟨fun h => ?_,fun h => ih.2 (by simpa using h)⟩
   rw [ih.1 (by simpa using h),q58]
   simp
theorem qc9 (os : Sl T.Op) (m : Nat) (hm : m + 1 ≤ 1073741824) (hf : ∀ o ∈ os.l,q05 o) : ∀ (l : List T.Op) (k : Nat) (out : Bytes),os.l.drop k = l → k ≤ os.l.length → os.l.length ≤ 100000 → out.length + (opB l).length ≤ m →
  (uq l = true → q17 (os,out,(k : Int)) = some (.inr (out ++ opB l))) ∧
  (uq l = false → ∃ s,q17 (os,out,(k : Int)) = some (.inl (⟨true,[]⟩,2,s)))
 | [],k,out,h,hk,hl,ho => by
  obtain ⟨h1,h2⟩ := drop_nil h hk
  rw [q17.eq_1,if_neg (by simp; omega)]
  simp [opB,uq]
 | o :: l,k,out,h,hk,hl,ho => by
  obtain ⟨g1,g2,g3,g4⟩ := drop_cons h
  have hx := hf o (List.mem_of_getElem? g2)
  have ho' := ho
  rw [q58] at ho'
  simp only [List.length_append,List.length_cons,List.length_nil] at ho'
  rw [q17.eq_1,if_pos (by simp; omega),g1]
  simp only [Option.bind_eq_bind,Option.bind_some]
  have hr := qjl o hx
  rw [qbf]
  cases hk2 : zt o with
  | false =>
   obtain ⟨r,hr⟩ := hr.2 hk2
   rw [hr]
   simp only [Option.bind_some]
   rw [if_pos (by rfl)]
   exact ⟨fun h => (by simp at h),fun _ => ⟨_,rfl⟩⟩
  | true =>
   rw [hr.1 hk2]
   simp only [Option.bind_some]
   rw [if_neg (by simp),if_pos (by simp only [List.length_append,List.length_cons,List.length_nil]; omega),wm (by omega)]
   have ih := qc9 os m hm hf l (k + 1) (out ++ (za o ++ [10])) g4 (by omega) hl (by simp only [List.length_append,List.length_cons,List.length_nil]; omega)
   refine ⟨fun h => ?_,fun h => ih.2 (by simpa using h)⟩
   rw [ih.1 (by simpa using h),q58]
   simp
theorem zwc {l : List T.Op} (h : ∀ o ∈ l,q05 o) : (opB l).length ≤ l.length * 30000001 := by
 induction l with
 | nil => simp [opB]
 | cons o l ih =>
  have h1 := z0d (h o (by simp))
  have h2 := ih fun x hx => h x (by simp [hx])
  rw [q58,List.length_cons,Nat.succ_mul]
  simp only [List.length_append,List.length_cons,List.length_nil]
  omega
theorem qca {l : List Int} (h : ∀ x ∈ l,inU x) : (nuB l).length ≤ l.length * 21 := by
 induction l with
 | nil => simp [nuB]
 | cons o l ih =>
  have h1 := xq (q7d (h o (by simp)))
  have h2 := ih fun x hx => h x (by simp [hx])
  rw [q8o,List.length_cons,Nat.succ_mul]
  simp only [List.length_append]
  omega
def q6r (ns : List Int) (os : List T.Op) : Bytes := (([100,105,99,101] ++ nuB ns) ++ [10]) ++ opB os
def q5x (ns : List Int) (os : List T.Op) : Sl UInt8 × Int :=
 if uq os = false then (⟨true,[]⟩,2) else if os.length > 1000 then (⟨true,[]⟩,7) else if (q6r ns os).length > 65536 then (⟨true,[]⟩,4) else (⟨false,q6r ns os⟩,0)
theorem z6b (ns : Sl Int) (os : Sl T.Op) (hl : ns.l.length ≤ 1000) (hn : ∀ x ∈ ns.l,inU x) (hf : ∀ o ∈ os.l,q05 o) (ho : os.l.length ≤ 100000) (hm : (opB os.l).length ≤ 1000000000) : q4m ns os = some (q5x ns.l os.l) := by
 unfold q4m
 rw [if_pos (by simp)]
 have h0 := qbb os ns hl hn ns.l 0 [100,105,99,101] rfl (by omega) (by simp)
 rw [Int.natCast_zero] at h0
 rw [h0]
 simp only [Option.bind_eq_bind,Option.bind_some]
 have hnl := qca hn
 rw [if_pos (q72 (by simp only [List.length_append,List.length_cons,List.length_nil]; omega) (by omega))]
 have h2 := qav os [10] 1010000000 (by omega) hf (fun _ _ => trivial) os.l 0 (([100,105,99,101] ++ nuB ns.l) ++ [10]) rfl (by omega) ho (by simp only [List.length_append,List.length_cons,List.length_nil]; omega)
 rw [Int.natCast_zero] at h2
 unfold q5x
 cases hk : uq os.l with
 | false =>
  obtain ⟨s,hs⟩ := h2.2 hk
  rw [hs]
  rfl
 | true =>
  rw [h2.1 hk]
  simp only [Option.bind_some]
  rw [if_neg (show ¬ (true = false) by simp)]
  by_cases h1 : os.l.length > 1000
  ·rw [if_pos (by simp; omega),if_pos h1]
  rw [if_neg (by simp; omega),if_neg h1]
  by_cases h3 : (q6r ns.l os.l).length > 65536
  ·rw [if_pos (by simp only [decide_eq_true_eq]; exact Int.ofNat_lt.2 h3),if_pos h3]
  ·rw [if_neg (by simp only [decide_eq_true_eq]; exact fun h => h3 (Int.ofNat_lt.1 h)),if_neg h3]
   rfl
theorem qsm (ns : Sl Int) (os : Sl T.Op) (hl : ns.l.length ≤ 1000) (hn : ∀ x ∈ ns.l,inU x) (hf : ∀ o ∈ os.l,q05 o) (ho : os.l.length ≤ 100000) (hm : (opB os.l).length ≤ 1000000000) : q5a ns os = some (q5x ns.l os.l) := by
 unfold q5a
 have h0 := qas os ns hl hn ns.l 0 [100,105,99,101] rfl (by omega) (by simp)
 rw [Int.natCast_zero] at h0
 rw [h0]
 simp only [Option.bind_eq_bind,Option.bind_some]
 have hnl := qca hn
 rw [if_pos (by simp only [List.length_append,List.length_cons,List.length_nil]; omega)]
 have h2 := qc9 os 1010000000 (by omega) hf os.l 0 (([100,105,99,101] ++ nuB ns.l) ++ [10]) rfl (by omega) ho (by simp only [List.length_append,List.length_cons,List.length_nil]; omega)
 rw [Int.natCast_zero] at h2
 unfold q5x
 cases hk : uq os.l with
 | false =>
  obtain ⟨s,hs⟩ := h2.2 hk
  rw [hs]
  rfl
 | true =>
  rw [h2.1 hk]
  simp only [Option.bind_some]
  rw [if_neg (show ¬ (true = false) by simp)]
  by_cases h1 : os.l.length > 1000
  ·rw [if_pos (by simp; omega),if_pos h1]
  rw [if_neg (by simp; omega),if_neg h1]
  by_cases h3 : (q6r ns.l os.l).length > 65536
  ·rw [if_pos (by simp only [decide_eq_true_eq]; exact Int.ofNat_lt.2 h3),if_pos h3]
  ·rw [if_neg (by simp only [decide_eq_true_eq]; exact fun h => h3 (Int.ofNat_lt.1 h)),if_neg h3]
   rfl
end Go.Proofs.YtlapkkdodjhgpaaGreatDoor
