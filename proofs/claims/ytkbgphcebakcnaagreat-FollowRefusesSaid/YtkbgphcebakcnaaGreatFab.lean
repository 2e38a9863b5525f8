/-
  The machine, part b.
-/
import Derived.Test.YtkbgphcebakcnaaGreatFaa
import Derived.Orders
set_option linter.unusedSimpArgs false
set_option linter.unusedVariables false
namespace Go.Gm
open Go
section
variable {P : Program} {w : World} {H : Heap} {ι : Plc} {Im : Nat → Prop}
theorem qbe (a : Addr) : ∀ (n i : Nat) (acc cs : Array Value),(loadCellsFrom a i n acc).run P w = .ok cs w →
  ∃ l : List Value,l.length = n ∧ cs.toList = acc.toList ++ l ∧ ∀ m,m ≤ n → (loadCellsFrom a i m acc).run P w = .ok ⟨acc.toList ++ l.take m⟩ w
 | 0,i,acc,cs,h => by
  simp only [loadCellsFrom,Sem.run_pure,Result.ok.injEq,and_true] at h
  subst h
  refine ⟨[],rfl,by simp,fun m hm => ?_⟩
  have : m = 0 := by omega
  subst this
  simp [loadCellsFrom]
 | n + 1,i,acc,cs,h => by
  obtain ⟨v,hv⟩ : ∃ v,(load (a.add i)).run P w = .ok v w := by
   simp only [loadCellsFrom,Sem.run_bind] at h
   rw [run_load] at h ⊢
   split at h
   ·exact ⟨_,rfl⟩
   ·split at h
    ·exact ⟨_,rfl⟩
    ·cases h
  simp only [loadCellsFrom,Sem.run_bind,hv,Result.andThen_ok] at h
  obtain ⟨l,h1,h2,h3⟩ := qbe a n (i + 1) (acc.push v) cs h
  refine ⟨v :: l,by simp [h1],by simp [h2],fun m hm => ?_⟩
  cases m with
  | zero => simp [loadCellsFrom]
  | succ m =>
   have := h3 m (by omega)
   simp only [loadCellsFrom,Sem.run_bind,hv,Result.andThen_ok,this]
   simp
theorem z6s {size n k : Nat} {v : Value} {cs : Array Value} (h : (Builtin.firstCells size n v).run P w = .ok cs w) (hk : k ≤ n) (hl : cs.size = n * size) :
  (Builtin.firstCells size k v).run P w = .ok ⟨cs.toList.take (k * size)⟩ w := by
 have hks : k * size ≤ n * size := Nat.mul_le_mul_right _ hk
 cases v with
 | slice base a c =>
  cases base with
  | none =>
   simp only [Builtin.firstCells,Sem.run_pure,Result.ok.injEq,and_true] at h ⊢
   subst h
   simp
  | some ad =>
   simp only [Builtin.firstCells,loadCells] at h ⊢
   obtain ⟨l,h1,h2,h3⟩ := qbe ad (n * size) 0 #[] cs h
   rw [h3 _ hks]
   simp [h2]
 | string s =>
  simp only [Builtin.firstCells,Sem.run_pure,Result.ok.injEq,and_true] at h ⊢
  subst h
  simp at hl
  by_cases hk0 : k = 0
  ·subst hk0
   simp
  have hsz : size = 1 ∨ min n s.size = 0 := by
   rcases Nat.lt_or_ge size 2 with h | h
   ·rcases Nat.lt_or_ge size 1 with h' | h'
    ·right
     have : size = 0 := by omega
     subst this
     omega
    ·left; omega
   ·have := Nat.mul_le_mul_left n h
    right
    omega
  rcases hsz with rfl | h0
  ·apply Array.ext'
   simp [List.take_take,Nat.min_eq_left hk]
  ·have : s.size = 0 := by omega
   apply Array.ext'
   have hs : s.data.toList = [] := by
    cases s with | mk d => simpa [ByteArray.size] using this
   simp [hs]
 | _ => simp [Builtin.firstCells] at h
theorem zg.take {sz k : Nat} {es : List (List PV)} {cs : Array Value} (h : zg w Im sz es (cs[·]?)) : zg w Im sz (es.take k) ((⟨cs.toList.take (k * sz)⟩ : Array Value)[·]?) := by
 refine ⟨fun e he => h.1 e (List.mem_of_mem_take he),fun i e j p hi hj => ?_,fun i e j p hi hj => ?_⟩
 ·have hlt := (List.getElem?_eq_some_iff.1 hi).1
  simp at hlt
  rw [List.getElem?_take_of_lt (by omega)] at hi
  exact h.2.1 i e j p hi hj
 ·have hlt := (List.getElem?_eq_some_iff.1 hi).1
  simp at hlt
  rw [List.getElem?_take_of_lt (by omega)] at hi
  obtain ⟨v,h1,h2⟩ := h.2.2 i e j p hi hj
  refine ⟨v, ?_,h2⟩
  have hj' := (List.getElem?_eq_some_iff.1 hj).1
  have he := h.1 e (List.mem_of_getElem? hi)
  have : (i + 1) * sz ≤ k * sz := Nat.mul_le_mul_right _ (by omega)
  rw [Nat.succ_mul] at this
  simp only [List.getElem?_toArray]
  rw [List.getElem?_take_of_lt (by omega)]
  simpa using h1
theorem qii {ts e : TypeId} {ti te : TI} (hts : qd P ts ti) (htd : ti.td = .slice e) (hte : qd P e te) {tys : Array TypeId} (h0 : tys[0]? = some ts) (tt : TypeId)
  (hi : qa w H ι Im) {nx : Nat} {X : Nat → Prop} (hnx : Bd X H nx) {x y : AV} {vx vy : Value} (hx : RA w H ι Im x vx) (hy : RA w H ι Im y vy) {r : Eff} (hr : bu te x y H nx = some r) :
  ∃ u w',(Builtin.copy_ tys tt #[vx,vy]).run P w = .ok u w' ∧ Did X w H ι Im nx r u w' := by
 unfold bu at hr
 split at hr
 ·cases hr
 rename_i xsz src0 hsrc
 split at hr
 rotate_left
 ·cases hr
 rename_i β ver off n
 split at hr
 rotate_left
 ·cases hr
 rename_i sz es hb
 split at hr <;> cases hr
 rename_i hc
 obtain ⟨hver,hszz,hsz⟩ := hc
 subst hszz
 obtain ⟨l1,cs0,f1',f2',f3'⟩ : (Builtin.lenOf vy).run P w = .ok src0.length w ∧ ∃ cs,(Builtin.firstCells te.size src0.length vy).run P w = .ok cs w ∧ cs.size = src0.length * te.size ∧ zg w Im te.size src0 (cs[·]?) := by
  obtain ⟨a,b⟩ := q1k (P := P) hi hy hsrc
  exact ⟨a,b te.size hsz⟩
 generalize hsrc' : src0.take n = src
 have hk : src.length = min src0.length n := by rw [← hsrc']; simp [Nat.min_comm]
 have f1 := z6s f1' (show src.length ≤ src0.length by omega) f2'
 have f3 : zg w Im te.size src ((⟨cs0.toList.take (src.length * te.size)⟩ : Array Value)[·]?) := by
  have := f3'.take (k := src.length)
  have e : src0.take src.length = src := by
   rw [← hsrc',List.take_eq_take_iff]
   simp
  rwa [e] at this
 have f2 : (⟨cs0.toList.take (src.length * te.size)⟩ : Array Value).size = src.length * te.size := by
  have : src.length * te.size ≤ src0.length * te.size := Nat.mul_le_mul_right _ (by omega)
  show (cs0.toList.take _).length = _
  rw [List.length_take]
  have h2 : cs0.toList.length = src0.length * te.size := f2'
  rw [h2]
  exact Nat.min_eq_left this
 generalize (⟨cs0.toList.take (src.length * te.size)⟩ : Array Value) = cs at f1 f2 f3
 have hxx := hx
 cases hx with
 | row _ _ _ _ _ b ho hb' hk' hv hh =>
 rw [hb] at hb'
 cases hb'
 obtain ⟨h1,h2⟩ := hh _ _ _ rfl hver
 simp only [Bool.false_eq_true,if_false] at h2
 obtain ⟨a,rfl,ha1,ha2,ha3⟩ := h2
 obtain ⟨ab,ao,asp⟩ := a
 simp only at ha1 ha2 ha3
 subst ha1 ha2
 obtain ⟨vs,elem,fz,g1,g2,g3,hpos,g5,g6,g7,g8⟩ := hi.row hb
 have hsn : src.length ≤ n := by omega
 have hao : src ≠ [] → ao = off * te.size := fun hne => by
  have := List.length_pos_iff.2 hne
  exact ha3 (by omega)
 have hone : ∀ x ∈ cs.toList,zt x = true := by
  intro x hx
  obtain ⟨m,hm⟩ := List.getElem?_of_mem hx
  have hml : m < src.length * te.size := by
   have := (List.getElem?_eq_some_iff.1 hm).1
   simp at this
   omega
  have hdiv : m / te.size < src.length := Nat.div_lt_of_lt_mul (by rwa [Nat.mul_comm])
  have hmod : m % te.size < te.size := Nat.mod_lt _ hpos
  obtain ⟨e0,he0⟩ : ∃ e0,src[m / te.size]? = some e0 := ⟨src[m / te.size],by simp⟩
  have hel := f3.1 e0 (List.mem_of_getElem? he0)
  obtain ⟨p0,hp0⟩ : ∃ p0,e0[m % te.size]? = some p0 := ⟨e0[m % te.size]'(by omega),by simp⟩
  obtain ⟨v0,q1,q2⟩ := f3.2.2 _ e0 _ p0 he0 hp0
  have : m / te.size * te.size + m % te.size = m := by rw [Nat.mul_comm]; exact Nat.div_add_mod m te.size
  simp only [this] at q1
  have : x = v0 := by
   have h0 : cs[m]? = some x := by simpa using hm
   rw [h0] at q1
   exact Option.some.inj q1
  subst this
  exact q2.zt (f3.2.1 _ e0 _ p0 he0 hp0)
 have hmul : off * te.size + src.length * te.size ≤ vs.size := by
  rw [g3,← Nat.add_mul]
  exact Nat.mul_le_mul_right _ (by omega)
 have hst : ∃ w',(storeCells ⟨(ι β).b,ao,none⟩ cs.toList).run P w = Result.ok () w' ∧ (w'.heap.size = w.heap.size ∧ w'.os = w.os ∧ w'.output = w.output) ∧ (∀ b',b' ≠ (ι β).b → w'.heap[b']? = w.heap[b']?) ∧
   ∃ vs' : Array Value,w'.heap[(ι β).b]? = some (.cells vs' elem fz) ∧ vs'.size = vs.size ∧ ∀ k,vs'[k]? = if off * te.size ≤ k ∧ k < off * te.size + cs.size then cs[k - off * te.size]? else vs[k]? := by
  by_cases hs : src = []
  ·have hcs0 : cs.size = 0 := by rw [f2,hs]; simp
   have hcl : cs.toList = [] := by simpa using hcs0
   refine ⟨w,by rw [hcl]; rfl,⟨rfl,rfl,rfl⟩,fun _ _ => rfl,vs,g1,rfl,fun k => ?_⟩
   rw [if_neg (by omega)]
  ·have := hao hs
   subst this
   obtain ⟨w',q1,q2,q3,vs',q4,q5,q6⟩ := q3b (P := P) (ι β).b (off * te.size) elem fz cs.toList 0 w vs g1 g2 (by simp [f2]; omega) hone
   refine ⟨w',by simpa using q1,q2,q3,vs',q4,q5,fun k => ?_⟩
   rw [q6 k]
   simp
 obtain ⟨w',q1,q2,q3,vs',q4,q5,q6⟩ := hst
 have hrun : (Builtin.copy_ tys tt #[.slice (some ⟨(ι β).b,ao,none⟩) n ((ι β).cap - off),vy]).run P w = .ok (.int .i64 (src.length : Nat)) w' := by
  have hmin : Nat.min src0.length n = src.length := hk.symm
  unfold Builtin.copy_
  simp only [List.getElem?_toArray,List.getElem?_cons_zero,List.getElem?_cons_succ,h0,Sem.run_bind,qj (hts.slice htd),Result.andThen_ok,l1,hte.size,hmin,f1,q1,Sem.run_pure,goInt]
 have hes' : (es.take off ++ src ++ es.drop (off + src.length)).length = es.length := by
  simp; omega
 refine ⟨_,w',hrun,zi ι β (ι β), ?_⟩
 have key := qa.put hi (w' := w') β (.row false te.size (es.take off ++ src ++ es.drop (off + src.length))) (ι β)
  (fun x hx => by
   rw [hb] at hx
   cases hx
   simp only [z8]
   exact ⟨by omega,fun _ => ⟨by simp,fun _ => ⟨by simp,by simp⟩⟩⟩)
  ⟨by omega,q2.2⟩ (fun b' _ hne => q3 b' (fun e => hne _ hb rfl e.symm)) (fun _ => .inr ⟨_,hb,rfl,rfl⟩) (fun hev => by
   have hw : ∀ b,Im b → w'.heap[b]? = w.heap[b]? := fun b hb => hev.kept hi b hb
   have hget : ∀ (i : Nat) e0,(es.take off ++ src ++ es.drop (off + src.length))[i]? = some e0 →
     (off ≤ i ∧ i < off + src.length ∧ src[i - off]? = some e0) ∨ (¬ (off ≤ i ∧ i < off + src.length) ∧ es[i]? = some e0) := by
    intro i e0 h
    rw [q3x es src off i (by omega)] at h
    split at h
    ·rename_i hc
     exact .inl ⟨hc.1,hc.2,h⟩
    ·rename_i hc
     exact .inr ⟨hc,h⟩
   refine ⟨vs',elem,fz,by simpa using q4,by rw [q5]; exact g2,by simp [q5,g3],hpos,by simp only [updP_same]; omega, ?_, ?_, ?_⟩
   ·intro e0 he0
    obtain ⟨i,hi'⟩ := List.getElem?_of_mem he0
    rcases hget i e0 hi' with ⟨_,_,h⟩ | ⟨_,h⟩
    ·exact f3.1 e0 (List.mem_of_getElem? h)
    ·exact g6 e0 (List.mem_of_getElem? h)
   ·intro i e0 j p hi' hj
    rcases hget i e0 hi' with ⟨_,_,h⟩ | ⟨_,h⟩
    ·exact f3.2.1 _ e0 j p h hj
    ·exact g7 _ e0 j p h hj
   ·intro i e0 j p hi' hj
    have hj' := (List.getElem?_eq_some_iff.1 hj).1
    rw [q6]
    rcases hget i e0 hi' with ⟨k1,k2,h⟩ | ⟨k1,h⟩
    ·obtain ⟨v0,w1,w2⟩ := f3.2.2 _ e0 j p h hj
     have hel := f3.1 e0 (List.mem_of_getElem? h)
     have e1 : i * te.size + j - off * te.size = (i - off) * te.size + j := by
      have : i = off + (i - off) := by omega
      conv => lhs; rw [this,Nat.add_mul]
      omega
     have e2 : off * te.size ≤ i * te.size := Nat.mul_le_mul_right _ k1
     have e3 : (i + 1) * te.size ≤ (off + src.length) * te.size := Nat.mul_le_mul_right _ k2
     rw [Nat.succ_mul,Nat.add_mul] at e3
     rw [if_pos ⟨by omega,by rw [f2]; omega⟩,e1]
     exact ⟨v0,w1,w2.mono hev.im hw⟩
    ·obtain ⟨v0,w1,w2⟩ := g8 _ e0 j p h hj
     have hel := g6 e0 (List.mem_of_getElem? h)
     have hout : ¬ (off * te.size ≤ i * te.size + j ∧ i * te.size + j < off * te.size + cs.size) := by
      rw [f2]
      by_cases hlt : i < off
      ·have : (i + 1) * te.size ≤ off * te.size := Nat.mul_le_mul_right _ hlt
       rw [Nat.succ_mul] at this
       omega
      ·have : (off + src.length) * te.size ≤ i * te.size := Nat.mul_le_mul_right _ (by omega)
       rw [Nat.add_mul] at this
       omega
     rw [if_neg hout]
     exact ⟨v0,w1,w2.mono hev.im hw⟩)
 exact ⟨key.1,key.2,.pv _ _ (.int _ _),Nat.le_refl _,je hnx (Nat.le_refl _) (hnx β _ hb)⟩
end
end Go.Gm
namespace Go.Gm
open Go
section
variable {P : Program} {w : World} {H : Heap} {ι : Plc} {Im : Nat → Prop}
theorem q9z {a : Act} {E : Env} (hE : ∀ t,RA w H ι Im (E.get t) (a.tmps.getD t undef)) (d : Nat) (x : Option Operand) {n : Nat} (h : qy (ev E) d x = some n) :
  (x = none ∧ n = d) ∨ ∃ kd,(x.map a.eval) = some (.int kd (n : Int)) := by
 cases x with
 | none =>
  simp only [qy,Option.some.injEq] at h
  exact .inl ⟨rfl,h.symm⟩
 | some x =>
  simp only [qy] at h
  obtain ⟨kd,hk⟩ := q5n (uj hE x) h
  exact .inr ⟨kd,by simp [hk]⟩
theorem run_sliceBound {kd : IntKind} {n y : Nat} (h : n ≤ y) (code : BoundsCode) : (Instr.sliceBound (.int kd (n : Int)) y code).run P w = .ok n w := by
 unfold Instr.sliceBound asIntOf
 have : (n : Int) ≤ (y : Int) := by omega
 simp [this]
theorem q2f (isSlice : Bool) {a : Act} {E : Env} (hE : ∀ t,RA w H ι Im (E.get t) (a.tmps.getD t undef)) (lo hi mx : Option Operand) (len cap : Nat) {l h m : Nat}
  (hl : qy (ev E) 0 lo = some l) (hh : qy (ev E) len hi = some h) (hm : qy (ev E) cap mx = some m) (h1 : l ≤ h) (h2 : h ≤ m) (h3 : m ≤ cap)
  (hmx : mx ≠ none → hi ≠ none) :
  (Instr.sliceBounds isSlice len cap (lo.map a.eval) (hi.map a.eval) (mx.map a.eval)).run P w = .ok (l,h,m) w := by
 have e1 := q9z hE 0 lo hl
 have e2 := q9z hE len hi hh
 have e3 := q9z hE cap mx hm
 unfold Instr.sliceBounds
 rcases e3 with ⟨rfl,rfl⟩ | ⟨k3,e3⟩
 ·rcases e2 with ⟨rfl,rfl⟩ | ⟨k2,e2⟩
  ·rcases e1 with ⟨rfl,rfl⟩ | ⟨k1,e1⟩
   ·simp
   ·simp only [e1,Option.map_none,Sem.run_bind,Sem.run_pure,Result.andThen_ok,run_sliceBound h1]
  ·rcases e1 with ⟨rfl,rfl⟩ | ⟨k1,e1⟩
   ·simp only [e2,Option.map_none,Sem.run_bind,Sem.run_pure,Result.andThen_ok,run_sliceBound h2]
   ·simp only [e1,e2,Option.map_none,Sem.run_bind,Sem.run_pure,Result.andThen_ok,run_sliceBound h1,run_sliceBound h2]
 ·rcases e2 with ⟨rfl,rfl⟩ | ⟨k2,e2⟩
  ·have : mx ≠ none := by
    intro e
    subst e
    cases e3
   exact absurd rfl (hmx this)
  ·rcases e1 with ⟨rfl,rfl⟩ | ⟨k1,e1⟩
   ·simp only [e2,e3,Option.map_none,Sem.run_bind,Sem.run_pure,Result.andThen_ok,run_sliceBound h2,run_sliceBound h3]
   ·simp only [e1,e2,e3,Sem.run_bind,Sem.run_pure,Result.andThen_ok,run_sliceBound h1,run_sliceBound h2,run_sliceBound h3]
theorem qxk (s : List UInt8) (l h : Nat) : (ByteArray.mk ⟨s⟩).extract l h = ⟨⟨(s.take h).drop l⟩⟩ := by
 apply ByteArray.ext
 apply Array.ext'
 simp [List.extract_eq_take_drop,List.drop_take]
theorem zft {G : TypeId → Option TI} (hG : ∀ t ti,G t = some ti → qd P t ti) {t : TypeId} {ti : TI} (ht : qd P t ti) (hi' : qa w H ι Im)
  {a : Act} {E : Env} (hE : ∀ t,RA w H ι Im (E.get t) (a.tmps.getD t undef)) {x : AV} {v : Value} (hx : RA w H ι Im x v) (lo hi mx : Option Operand)
  {r : AV} (hr : gp ti.td G (ev E) x lo hi mx H = some r) :
  ∃ u,(Instr.sliceAt t v (lo.map a.eval) (hi.map a.eval) (mx.map a.eval)).run P w = .ok u w ∧ RA w H ι Im r u := by
 unfold gp at hr
 split at hr
 ·cases hr
 rename_i hmx0
 have hmx : mx ≠ none → hi ≠ none := by
  intro h1 h2
  subst h2
  cases mx with
  | none => exact h1 rfl
  | some _ => exact hmx0 ⟨rfl,rfl⟩
 split at hr
 ·rename_i htd
  have hu := ht.string htd
  split at hr
  rotate_left
  ·cases hr
  rename_i s
  split at hr
  ·cases hr
  rename_i hmn
  have hmn' : mx = none := by cases mx <;> simp_all
  subst hmn'
  split at hr
  rotate_left
  ·cases hr
  rename_i l h hl hh
  split at hr <;> cases hr
  rename_i hc
  cases hx with
  | pv _ _ hp => cases hp with
   | str =>
    have hb := q2f (P := P) false hE lo hi none s.length s.length hl hh rfl hc.1 hc.2 (Nat.le_refl _) (fun h => absurd rfl h)
    refine ⟨.string ((ByteArray.mk ⟨s⟩).extract l h), ?_,.pv _ _ (by rw [qxk]; exact .str _)⟩
    unfold Instr.sliceAt Instr.slice
    simp only [Sem.run_bind,qj hu,Result.andThen_ok]
    have hsz : (ByteArray.mk ⟨s⟩).size = s.length := rfl
    simp only [Option.map_none] at hb ⊢
    simp [hsz,hb]
 ·rename_i e htd
  have hu := ht.slice htd
  split at hr
  ·cases hr
  rename_i te hte
  have hte' := hG _ _ hte
  have run : ∀ (base : Option Addr) (len cap l h m : Nat),(Instr.sliceBounds true len cap (lo.map a.eval) (hi.map a.eval) (mx.map a.eval)).run P w = .ok (l,h,m) w →
    (Instr.sliceAt t (.slice base len cap) (lo.map a.eval) (hi.map a.eval) (mx.map a.eval)).run P w = .ok (.slice (if m = l then base else base.map (·.add (l * te.size))) (h - l) (m - l)) w := by
   intro base len cap l h m hb
   unfold Instr.sliceAt Instr.slice
   simp only [Sem.run_bind,qj hu,Result.andThen_ok,hb,hte'.size,Sem.run_pure]
  split at hr
  ·rename_i isnil sz es
   split at hr
   rotate_left
   ·cases hr
   rename_i l h m hl hh hm
   split at hr
   rotate_left
   ·cases hr
   rename_i hc
   obtain ⟨c1,c2,c3,c4⟩ := hc
   cases hx with
   | pv _ _ hp => cases hp with
    | nilsl =>
     have hm0 : m = 0 := by simpa using c3
     subst hm0
     have hh0 : h = 0 := by omega
     subst hh0
     have hl0 : l = 0 := by omega
     subst hl0
     have hb := q2f (P := P) true hE lo hi mx 0 0 hl (by simpa using hh) (by simpa using hm) (Nat.le_refl _) (Nat.le_refl _) (Nat.le_refl _) hmx
     simp at hr
     subst hr
     refine ⟨_,run none 0 0 0 0 0 hb, ?_⟩
     simp
     exact .pv _ _ (.nilsl 0)
    | sl _ _ b off cap vs him hcap hsz hcell hf hrp sp hsp =>
     have hm' : ∃ m',qy (ev E) cap mx = some m' ∧ ((mx = none ∧ m' = cap) ∨ (mx ≠ none ∧ m' = m)) := by
      cases mx with
      | none => exact ⟨cap,rfl,.inl ⟨rfl,rfl⟩⟩
      | some y => exact ⟨m,hm,.inr ⟨by simp,rfl⟩⟩
     obtain ⟨m',hm',hmm⟩ := hm'
     have hhm : h ≤ m' ∧ m' ≤ cap := by
      rcases hmm with ⟨rfl,rfl⟩ | ⟨_,rfl⟩
      ·simp only [qy,Option.some.injEq] at hm
       omega
      ·omega
     have hb := q2f (P := P) true hE lo hi mx es.length cap hl hh hm' c1 hhm.1 hhm.2 hmx
     refine ⟨_,run (some ⟨b,off,sp⟩) es.length cap l h m' hb, ?_⟩
     split at hr
     ·rename_i hz
      cases hr
      obtain ⟨z1,z2,_⟩ := hz
      rcases hmm with ⟨rfl,_⟩ | ⟨_,rfl⟩
      ·cases z1
      ·have e1 : h - l = 0 := by omega
       have e2 : m' - l = 0 := by omega
       rw [if_pos z2.symm,e1,e2]
       exact .zsl _
     ·cases hr
      by_cases hes : es = []
      ·subst hes
       simp only [List.length_nil,Nat.le_zero_eq] at c3
       have hh0 : h = 0 := by omega
       have hl0 : l = 0 := by omega
       subst hh0
       subst hl0
       have hz : RP w Im (.sl false sz (([] : List (List PV)).take 0 |>.drop 0)) (.slice (some ⟨b,off,sp⟩) (0 - 0) (m' - 0)) :=
        .sl sz [] b off (m' - 0) (fun _ => undef) (fun h => absurd rfl h) (Nat.zero_le _) (by simp) (fun i hlt => by simp at hlt) (by simp) (by simp) sp (fun h => absurd rfl h)
       have ha : (⟨b,off,sp⟩ : Addr).add (0 * te.size) = ⟨b,off,sp⟩ := by simp [Addr.add]
       split
       ·exact .pv _ _ hz.mk
       ·simp only [Option.map_some,ha]
        exact .pv _ _ hz.mk
      obtain rfl := hsp hes
      have hlen : ((es.take h).drop l).length = h - l := by simp; omega
      have key : ∀ (a0 : Nat),(l < h → a0 = off + l * sz) → RP w Im (.sl false sz ((es.take h).drop l)) (.slice (some ⟨b,a0,none⟩) (h - l) (m' - l)) := by
       intro a0 ha0
       rw [← hlen]
       have hget : ∀ (i : Nat) e0,((es.take h).drop l)[i]? = some e0 → l + i < h ∧ es[l + i]? = some e0 := by
        intro i e0 hi0
        have h1 := (List.getElem?_eq_some_iff.1 hi0).1
        rw [List.getElem?_drop,List.getElem?_take_of_lt (by omega)] at hi0
        exact ⟨by omega,hi0⟩
       refine .sl sz _ b a0 (m' - l) (fun i => vs (l * sz + i)) (fun hne => him (fun h0 => hne (by rw [h0]; simp))) (by omega) (fun e0 he0 => hsz e0 (List.mem_of_mem_take (List.mem_of_mem_drop he0))) (fun i hlt => ?_) (fun i e0 j p q1 q2 => hf _ e0 j p (hget i e0 q1).2 q2) (fun i e0 j p q1 q2 => ?_) none (fun _ => rfl)
       ·rw [hlen] at hlt
        have hne : l < h := by
         rcases Nat.lt_or_ge l h with h0 | h0
         ·exact h0
         ·have : h - l = 0 := by omega
          rw [this] at hlt
          simp at hlt
        rw [ha0 hne,Nat.add_assoc]
        refine hcell _ ?_
        have e1 : (l + (h - l)) * sz ≤ es.length * sz := Nat.mul_le_mul_right _ (by omega)
        rw [Nat.add_mul] at e1
        omega
       ·obtain ⟨_,g⟩ := hget i e0 q1
        have := hrp (l + i) e0 j p g q2
        rw [Nat.add_mul] at this
        rwa [← Nat.add_assoc]
      by_cases hml : m' = l
      ·rw [if_pos hml]
       exact .pv _ _ (key off (fun h0 => by omega)).mk
      ·rw [if_neg hml]
       simp only [Option.map_some,add_plain]
       refine .pv _ _ (RP.mk (key _ (fun h0 => ?_)))
       rcases c4 with rfl | c4
       ·rfl
       ·subst c4
        simp at c3
        omega
  ·rename_i β ver off n
   split at hr
   rotate_left
   ·cases hr
   rename_i isnil sz es hb
   split at hr
   rotate_left
   ·cases hr
   rename_i l h m hl hh hm
   split at hr
   rotate_left
   ·cases hr
   rename_i hc
   obtain ⟨hver,c1,c2,c3,c4⟩ := hc
   have hxx := hx
   cases hx with
   | row _ _ _ _ _ b ho hb' hk hv hh' =>
   rw [hb] at hb'
   cases hb'
   obtain ⟨h1,h2⟩ := hh' _ _ _ rfl hver
   cases hn : isnil
   ·subst hn
    simp only [Bool.false_eq_true,if_false] at h2 hr
    obtain ⟨a0,rfl,ha1,ha2,ha3⟩ := h2
    obtain ⟨ab,ao,asp⟩ := a0
    simp only at ha1 ha2 ha3
    subst ha1 ha2
    have hte0 : sz = te.size := by
     rcases c4 with h | h
     ·exact h
     ·cases h
    obtain ⟨vs,elem,fz,g1,g2,g3,g4,g5,_⟩ := hi'.row hb
    have hm' : ∃ m',qy (ev E) ((ι β).cap - off) mx = some m' ∧ ((mx = none ∧ m' = (ι β).cap - off) ∨ (mx ≠ none ∧ m' = m)) := by
     cases mx with
     | none => exact ⟨_,rfl,.inl ⟨rfl,rfl⟩⟩
     | some y => exact ⟨m,hm,.inr ⟨by simp,rfl⟩⟩
    obtain ⟨m',hm',hmm⟩ := hm'
    have hhm : h ≤ m' ∧ m' ≤ (ι β).cap - off := by
     rcases hmm with ⟨rfl,rfl⟩ | ⟨_,rfl⟩
     ·simp only [qy,Option.some.injEq] at hm
      omega
     ·omega
    have hbd := q2f (P := P) true hE lo hi mx n ((ι β).cap - off) hl hh hm' c1 hhm.1 hhm.2 hmx
    refine ⟨_,run _ n _ l h m' hbd, ?_⟩
    split at hr
    ·split at hr <;> cases hr
     rename_i hz hlm
     rcases hmm with ⟨rfl,_⟩ | ⟨_,rfl⟩
     ·cases hz
     ·have e1 : h - l = 0 := by omega
      have e2 : m' - l = 0 := by omega
      rw [if_pos hlm.symm,e1,e2]
      exact .zsl _
    ·rename_i hz
     cases hr
     rcases hmm with ⟨rfl,rfl⟩ | ⟨hne,_⟩
     rotate_left
     ·cases mx with
      | none => exact absurd rfl hne
      | some _ => exact absurd rfl hz
     refine .row β ver (off + l) (h - l) _ _ (by split <;> rfl) hb hk hv fun isnil sz' es' e hv' => ?_
     cases e
     refine ⟨by omega, ?_⟩
     simp only [Bool.false_eq_true,if_false]
     by_cases hml : (ι β).cap - off = l
     ·rw [if_pos hml]
      exact ⟨⟨(ι β).b,ao,none⟩,by rw [Nat.sub_sub],rfl,rfl,fun h0 => by omega⟩
     ·rw [if_neg hml]
      refine ⟨⟨(ι β).b,ao + l * te.size,none⟩,by simp only [Option.map_some,add_plain]; rw [Nat.sub_sub],rfl,rfl,fun h0 => ?_⟩
      have := ha3 (by omega)
      subst this
      rw [hte0,Nat.add_mul]
   ·subst hn
    simp only [if_true] at h2 hr
    cases hr
    subst h2
    have hes : es = [] := hi'.blk β _ hb
    subst hes
    have hn0 : n = 0 := by simp at h1; omega
    subst hn0
    have hm0 : m = 0 := by omega
    subst hm0
    have hh0 : h = 0 := by omega
    subst hh0
    have hl0 : l = 0 := by omega
    subst hl0
    have hbd := q2f (P := P) true hE lo hi mx 0 0 hl hh hm (Nat.le_refl _) (Nat.le_refl _) (Nat.le_refl _) hmx
    refine ⟨_,run none 0 0 0 0 0 hbd, ?_⟩
    simpa using hxx
  ·split at hr <;> cases hr
   rename_i hl hh hm
   cases hx with
   | zsl a =>
    have hbd := q2f (P := P) true hE lo hi mx 0 0 hl hh hm (Nat.le_refl _) (Nat.le_refl _) (Nat.le_refl _) hmx
    refine ⟨_,run (some a) 0 0 0 0 0 hbd, ?_⟩
    simp
    exact .zsl _
  ·cases hr
 ·cases hr
end
end Go.Gm
namespace Go.Gm
open Go
section
variable {P : Program} {w : World} {H : Heap} {ι : Plc} {Im : Nat → Prop}
theorem RA.qia {β ver off n : Nat} {v : Value} (hx : RA w H ι Im (.row β ver off n) v) {isnil : Bool} {sz : Nat} {es : List (List PV)}
  (hb : H.get β = some (.row isnil sz es)) (hv : ver = es.length) : off + n ≤ es.length ∧
    if isnil = true then v = .slice none 0 0
    else ∃ a,v = .slice (some a) n ((ι β).cap - off) ∧ a.spot = none ∧ a.block = (ι β).b ∧ (off < (ι β).cap → a.off = off * sz) := by
 cases hx with
 | row _ _ _ _ _ b ho hb' hk hv' hh' =>
  rw [hb] at hb'
  cases hb'
  exact hh' _ _ _ rfl hv
theorem RA.q9y (hi : qa w H ι Im) {β ver off n : Nat} {v : Value} (hx : RA w H ι Im (.row β ver off n) v) {isnil : Bool} {sz : Nat} {es : List (List PV)}
  (hb : H.get β = some (.row isnil sz es)) (hv : ver = es.length) : ∃ a c,v = .slice a n c ∧ a.isNone = isnil := by
 obtain ⟨h1,h2⟩ := hx.qia hb hv
 cases isnil
 ·simp only [Bool.false_eq_true,if_false] at h2
  obtain ⟨a,rfl,_⟩ := h2
  exact ⟨_,_,rfl,rfl⟩
 ·simp only [if_true] at h2
  subst h2
  have hes : es = [] := hi.blk β _ hb
  subst hes
  have : n = 0 := by simp at h1; omega
  subst this
  exact ⟨_,_,rfl,rfl⟩
theorem RA.qvx {β ver off n : Nat} {v : Value} (hx : RA w H ι Im (.row β ver off n) v) {sz : Nat} {es : List (List AV)}
  (hb : H.get β = some (.qi sz es)) (hv : ver = es.length) : ∃ a c,v = .slice a n c := by
 cases hx with
 | row _ _ _ _ _ b ho hb' hk hver h =>
  rw [hb] at hb'
  cases hb'
  obtain ⟨h1,h2⟩ := h _ _ _ rfl hv
  simp only [Bool.false_eq_true,if_false] at h2
  obtain ⟨a,rfl,_⟩ := h2
  exact ⟨_,_,rfl⟩
theorem qn2 {t : TypeId} {ti : TI} (ht : qd P t ti) (hi : qa w H ι Im) {x : AV} {v : Value} (hx : RA w H ι Im x v) (tt : TypeId) {n : Nat} (htd : ng ti.td x = true) (hr : q09 x H = some n) :
  (Builtin.len_ #[t] tt #[v]).run P w = .ok (.int .i64 n) w := by
 unfold q09 at hr
 unfold Builtin.len_
 simp only [List.getElem?_toArray,List.getElem?_cons_zero,Sem.run_bind]
 split at hr
 ·rename_i s
  cases hr
  cases hx with
  | pv _ _ h => cases h with
   | str =>
    have htd' : ti.td = .string := by
     cases h : ti.td <;> simp [ng,h] at htd ⊢
    simp only [qj (ht.string htd'),Result.andThen_ok,goInt]
    rfl
 ·rename_i isnil sz es
  cases hr
  have htd' : ∃ e,ti.td = .slice e := by
   cases h : ti.td <;> simp [ng,h] at htd ⊢
  obtain ⟨e,htd'⟩ := htd'
  simp only [qj (ht.slice htd'),Result.andThen_ok]
  cases hx with
  | pv _ _ h => cases h <;> rfl
 ·cases hr
  have htd' : ∃ k e,ti.td = .map k e := by
   cases h : ti.td <;> simp [ng,h] at htd ⊢
  obtain ⟨k,e,htd'⟩ := htd'
  simp only [qj (ht.map htd'),Result.andThen_ok]
  cases hx with
  | pv _ _ h => cases h; rfl
 ·cases hr
  have htd' : ∃ e,ti.td = .slice e := by
   cases h : ti.td <;> simp [ng,h] at htd ⊢
  obtain ⟨e,htd'⟩ := htd'
  simp only [qj (ht.slice htd'),Result.andThen_ok]
  cases hx with
  | zsl a => rfl
 ·rename_i β ver off m
  have htd' : ∃ e,ti.td = .slice e := by
   cases h : ti.td <;> simp [ng,h] at htd ⊢
  obtain ⟨e,htd'⟩ := htd'
  simp only [qj (ht.slice htd'),Result.andThen_ok]
  split at hr
  ·rename_i isnil sz es hb
   split at hr <;> cases hr
   rename_i hver
   obtain ⟨a,c,rfl,_⟩ := hx.q9y hi hb hver
   rfl
  ·rename_i sz es hb
   split at hr <;> cases hr
   rename_i hver
   obtain ⟨a,c,rfl⟩ := hx.qvx hb hver
   rfl
  ·cases hr
 ·rename_i β
  split at hr <;> cases hr
  rename_i es clock hb
  have htd' : ∃ k e,ti.td = .map k e := by
   cases h : ti.td <;> simp [ng,h] at htd ⊢
  obtain ⟨k,e,htd'⟩ := htd'
  simp only [qj (ht.map htd'),Result.andThen_ok]
  cases hx with
  | map _ es' clock' hb' =>
   obtain ⟨ents,h1,h2,h3⟩ := hi.blk β _ hb
   have : (getObj (ι β).b).run P w = .ok (.map ⟨ents⟩ clock) w := by
    simp [getObj,Sem.run,h1]
   simp only [Sem.run_bind,this,Result.andThen_ok]
   simp [goInt,h2]
 ·cases hr
theorem z3m {op : BinOp} {k : IntKind} {x y : Int} {p : PV} (hop : op ≠ .shl ∧ op ≠ .shr) (t : TypeId) (hr : q67 op k x y = some p) :
  ∃ u,(binOp op t (.int k x) (.int k y)).run P w = .ok u w ∧ RP w Im p u := by
 unfold q67 at hr
 cases op <;> simp only [reduceCtorEq] at hr
 case add => cases hr; exact ⟨.int k (k.wrap (x + y)),by simp [binOp,Op.intArith],.int _ _⟩
 case sub => cases hr; exact ⟨.int k (k.wrap (x - y)),by simp [binOp,Op.intArith],.int _ _⟩
 case mul => cases hr; exact ⟨.int k (k.wrap (x * y)),by simp [binOp,Op.intArith],.int _ _⟩
 case quo => split at hr <;> cases hr; rename_i h0; exact ⟨.int k (k.wrap (x.tdiv y)),by simp [binOp,Op.intDiv,h0],.int _ _⟩
 case rem => split at hr <;> cases hr; rename_i h0; exact ⟨.int k (x.tmod y),by simp [binOp,Op.intDiv,h0],.int _ _⟩
 case eql => cases hr; exact ⟨.bool (x == y),by simp [binOp,Op.intCmp],.bool _⟩
 case neq => cases hr; exact ⟨.bool (x != y),by simp [binOp,Op.intCmp],.bool _⟩
 case lss => cases hr; exact ⟨.bool (decide (x < y)),by simp [binOp,Op.intCmp],.bool _⟩
 case leq => cases hr; exact ⟨.bool (decide (x ≤ y)),by simp [binOp,Op.intCmp],.bool _⟩
 case gtr => cases hr; exact ⟨.bool (decide (x > y)),by simp [binOp,Op.intCmp],.bool _⟩
 case geq => cases hr; exact ⟨.bool (decide (x ≥ y)),by simp [binOp,Op.intCmp],.bool _⟩
 case and => cases hr; exact ⟨_,by simp [binOp,Op.intBits],.int _ _⟩
 case or => cases hr; exact ⟨_,by simp [binOp,Op.intBits],.int _ _⟩
 case xor => cases hr; exact ⟨_,by simp [binOp,Op.intBits],.int _ _⟩
 case andNot => cases hr; exact ⟨_,by simp [binOp,Op.intBits],.int _ _⟩
theorem bytesLess_eq : ∀ a b : List UInt8,Op.bytesLess a b = jk a b
 | [],[] => rfl
 | _ :: _,[] => rfl
 | [],_ :: _ => rfl
 | a :: x,b :: y => by simp [Op.bytesLess,jk,bytesLess_eq x y]
theorem qs1 {op : BinOp} {x y : List UInt8} {p : PV} (t : TypeId) (hr : q7a op x y = some p) :
  ∃ u,(binOp op t (.string ⟨⟨x⟩⟩) (.string ⟨⟨y⟩⟩)).run P w = .ok u w ∧ RP w Im p u := by
 unfold q7a at hr
 cases op <;> simp only [reduceCtorEq] at hr
 case add =>
  split at hr <;> cases hr
  rename_i hl
  refine ⟨.string ⟨⟨x ++ y⟩⟩, ?_,.str _⟩
  have h2 : (ByteArray.mk ⟨x⟩ ++ ByteArray.mk ⟨y⟩ : ByteArray) = ⟨⟨x ++ y⟩⟩ := by
   apply ByteArray.ext
   apply Array.ext'
   simp
  simp [binOp,Op.stringOp,h2]
  show (x.length : Int) + (y.length : Int) ≤ _
  omega
 case eql => cases hr; exact ⟨.bool (x == y),by simp [binOp,Op.stringOp],.bool _⟩
 case neq => cases hr; exact ⟨.bool (!(x == y)),by simp [binOp,Op.stringOp],.bool _⟩
 case lss => cases hr; exact ⟨.bool (jk x y),by simp [binOp,Op.stringOp,bytesLess_eq],.bool _⟩
 case leq => cases hr; exact ⟨.bool (jk x y || x == y),by simp [binOp,Op.stringOp,bytesLess_eq],.bool _⟩
 case gtr => cases hr; exact ⟨.bool (!(jk x y || x == y)),by simp [binOp,Op.stringOp,bytesLess_eq],.bool _⟩
 case geq => cases hr; exact ⟨.bool (!jk x y),by simp [binOp,Op.stringOp,bytesLess_eq],.bool _⟩
theorem zbl {op : UnOp} {x : AV} {v : Value} (hx : RA w H ι Im x v) {p : PV} (hr : aUn op x = some p) : ∃ u,(Op.unary op v).run P w = .ok u w ∧ RP w Im p u := by
 unfold aUn at hr
 split at hr <;> cases hr
 ·cases hx with
  | pv _ _ h => cases h; exact ⟨_,by simp [Op.unary],.bool _⟩
 ·cases hx with
  | pv _ _ h => cases h; exact ⟨_,by simp [Op.unary,Op.intArith],.int _ _⟩
theorem qdz (isMax : Bool) (k : IntKind) : ∀ (l : List AV) (a : Int) (vs : List Value),l.length = vs.length → (∀ (i : Nat) x v,l[i]? = some x → vs[i]? = some v → RA w H ι Im x v) →
  ∀ {p : PV},q19 isMax k a l = some p → ∃ u,(vs.foldlM (if isMax then Builtin.max2 else Builtin.min2) (.int k a)).run P w = .ok u w ∧ RP w Im p u
 | [],a,vs,hl,_,p,h => by
  have : vs = [] := by simpa using hl.symm
  subst this
  cases h
  exact ⟨.int k a,by simp,.int _ _⟩
 | x :: r,a,vs,hl,hR,p,h => by
  cases vs with
  | nil => simp at hl
  | cons v vr =>
   have hx := hR 0 x v (by simp) (by simp)
   cases x with
   | pv p0 => cases p0 with
    | int k' b =>
     simp only [q19] at h
     cases hx with
     | pv _ _ hp => cases hp with
      | int =>
       obtain ⟨u,g1,g2⟩ := qdz isMax k r _ vr (by simpa using hl) (fun i x v h1 h2 => hR (i + 1) x v (by simpa using h1) (by simpa using h2)) h
       refine ⟨u, ?_,g2⟩
       cases isMax
       ·simp only [Bool.false_eq_true,if_false,List.foldlM_cons,Sem.run_bind,Builtin.min2,Sem.run_pure,Result.andThen_ok] at g1 ⊢
        exact g1
       ·simp only [if_true,List.foldlM_cons,Sem.run_bind,Builtin.max2,Sem.run_pure,Result.andThen_ok] at g1 ⊢
        exact g1
    | _ => simp [q19] at h
   | _ => simp [q19] at h
theorem qd.ptr {t : TypeId} {ti : TI} (ht : qd P t ti) (h : ti.td = .ptr) : ∃ e,P.underlying t = some (.pointer e) := by
 obtain ⟨d,h1,h2⟩ := ht.und
 rw [h] at h2
 cases d <;> simp [wo] at h2
 exact ⟨_,h1⟩
theorem qd.func {t : TypeId} {ti : TI} (ht : qd P t ti) (h : ti.td = .func) : ∃ a b c,P.underlying t = some (.func a b c) := by
 obtain ⟨d,h1,h2⟩ := ht.und
 rw [h] at h2
 cases d <;> simp [wo] at h2
 exact ⟨_,_,_,h1⟩
theorem qdp {G : TypeId → Option TI} (hG : ∀ t ti,G t = some ti → qd P t ti) (d : Nat) (xs ys : Array Value) : ∀ (fs : List Field) (i : Nat) (a b : List PV),
  q5l i fs = true → fitAll G (fs.map fun f => (f.offset,P.cellsOf f.type,f.type)) a = true →
  (∀ (j : Nat) p v,a[j]? = some p → xs[i + j]? = some v → RP w Im p v) → (∀ (j : Nat) p v,b[j]? = some p → ys[i + j]? = some v → RP w Im p v) →
  i + a.length ≤ xs.size → i + b.length ≤ ys.size → ∀ {r : Bool},j3 a b = some r → (Op.eqFields (d + 1) xs ys fs).run P w = .ok r w
 | [],i,a,b,_,hl,_,_,_,_,r,h => by
  cases a with
  | cons p a => simp [fitAll] at hl
  | nil =>
  cases b <;> simp [j3] at h
  subst h
  simp [Op.eqFields]
 | f :: fs,i,a,b,hp,hl,ha,hb,hxs,hys,r,h => by
  simp only [q5l,Bool.and_eq_true,bne_iff_ne,ne_eq,beq_iff_eq] at hp
  obtain ⟨⟨hn,hoff⟩,hp⟩ := hp
  cases a with
  | nil => simp [fitAll] at hl
  | cons p a =>
  simp only [List.map_cons,fitAll,Bool.and_eq_true] at hl
  obtain ⟨hty,hl⟩ := hl
  split at hty
  rotate_left
  ·cases hty
  rename_i tif htif
  have htf := hG _ _ htif
  cases b with
  | nil => cases p <;> simp [j3] at h
  | cons q b =>
  simp only [List.length_cons] at hxs hys
  obtain ⟨x,hx⟩ : ∃ x,xs[i]? = some x := ⟨xs[i]'(by omega),by simp⟩
  obtain ⟨y,hy⟩ : ∃ y,ys[i]? = some y := ⟨ys[i]'(by omega),by simp⟩
  have hpx := ha 0 p x (by simp) (by simpa using hx)
  have hqy := hb 0 q y (by simp) (by simpa using hy)
  have rest : ∀ {t : Bool},j3 a b = some t → (Op.eqFields (d + 1) xs ys fs).run P w = .ok t w := fun ht =>
   qdp hG d xs ys fs (i + 1) a b hp hl (fun j p v h1 h2 => ha (j + 1) p v (by simpa using h1) (by rwa [show i + (j + 1) = i + 1 + j from by omega]))
    (fun j p v h1 h2 => hb (j + 1) p v (by simpa using h1) (by rwa [show i + (j + 1) = i + 1 + j from by omega])) (by omega) (by omega) ht
  have hagg : tif.isAgg = false := by
   unfold TI.isAgg
   cases htd : tif.td <;> simp [zb,htd] at hty ⊢
  have part1 : ∀ (cs : Array Value) (v : Value),cs[i]? = some v → (part f.type cs f.offset).run P w = .ok v w := by
   intro cs v hv
   unfold part
   simp only [hoff,Sem.run_bind,htf.isAgg,hagg,Result.andThen_ok,Bool.false_eq_true,if_false,hv,Sem.run_pure]
  have step : ∀ (t u : Bool),(Op.equalIn (d + 1) f.type x y).run P w = .ok t w → j3 a b = some u → (Op.eqFields (d + 1) xs ys (f :: fs)).run P w = .ok (t && u) w := by
   intro t u h1 h2
   simp only [Op.eqFields,hn,not_false_eq_true,ne_eq,if_true,Sem.run_bind,part1 xs x hx,part1 ys y hy,Result.andThen_ok,h1]
   cases t
   ·simp
   ·simp [rest h2]
  cases p with
  | int k n => cases q with
   | int k' n' =>
    simp only [j3] at h
    split at h
    rotate_left
    ·cases h
    rename_i hk
    subst hk
    split at h <;> cases h
    rename_i t ht
    refine step _ _ ?_ ht
    cases hpx; cases hqy
    obtain ⟨k0,htd⟩ : ∃ k0,tif.td = .int k0 := by cases htd : tif.td <;> simp [zb,htd] at hty ⊢
    exact run_equalIn_int w d f.type k k0 n n' (htf.int htd)
   | _ => simp [j3] at h
  | str s => cases q with
   | str s' =>
    simp only [j3] at h
    split at h <;> cases h
    rename_i t ht
    refine step _ _ ?_ ht
    cases hpx; cases hqy
    have htd : tif.td = .string := by cases htd : tif.td <;> simp [zb,htd] at hty ⊢
    have := run_equalIn_string w d f.type ⟨⟨s⟩⟩ ⟨⟨s'⟩⟩ (htf.string htd)
    simpa using this
   | _ => simp [j3] at h
  | bool x1 => cases q with
   | bool x2 =>
    simp only [j3] at h
    split at h <;> cases h
    rename_i t ht
    refine step _ _ ?_ ht
    cases hpx; cases hqy
    have htd : tif.td = .bool := by cases htd : tif.td <;> simp [zb,htd] at hty ⊢
    exact run_equalIn_bool' w d f.type x1 x2 (htf.bool htd)
   | _ => simp [j3] at h
  | _ => simp [j3] at h
def q1x : Value → Bool
 | .bool _ | .agg _ | .slice _ _ _ | .pointer _ | .map _ | .func _ _ _ | .nilFunc => true
 | _ => false
theorem binOp_eql {t : TypeId} {x y : Value} (h : q1x x = true) : (binOp .eql t x y).run P w = ((Op.equal t x y).run P w).andThen fun b w' => .ok (.bool b) w' := by
 cases x <;> simp [q1x] at h <;> simp [binOp]
theorem binOp_neq {t : TypeId} {x y : Value} (h : q1x x = true) : (binOp .neq t x y).run P w = ((Op.equal t x y).run P w).andThen fun b w' => .ok (.bool (!b)) w' := by
 cases x <;> simp [q1x] at h <;> simp [binOp]
theorem qax (d : Nat) {t e : TypeId} (hu : P.underlying t = some (.slice e)) (a : Option Addr) (n c n' c' : Nat) :
  (Op.equalIn (d + 1) t (.slice a n c) (.slice none n' c')).run P w = .ok a.isNone w ∧ (Op.equalIn (d + 1) t (.slice none n' c') (.slice a n c)).run P w = .ok a.isNone w := by
 cases a <;> simp [Op.equalIn,qj hu]
theorem qeg (d : Nat) {t e : TypeId} (hu : P.underlying t = some (.pointer e)) (a : Option Addr) :
  (Op.equalIn (d + 1) t (.pointer a) (.pointer none)).run P w = .ok a.isNone w ∧ (Op.equalIn (d + 1) t (.pointer none) (.pointer a)).run P w = .ok a.isNone w := by
 cases a <;> simp [Op.equalIn,qj hu]
theorem qeh (d : Nat) {t k e : TypeId} (hu : P.underlying t = some (.map k e)) (a : Option Nat) :
  (Op.equalIn (d + 1) t (.map a) (.map none)).run P w = .ok a.isNone w ∧ (Op.equalIn (d + 1) t (.map none) (.map a)).run P w = .ok a.isNone w := by
 cases a <;> simp [Op.equalIn,qj hu]
theorem q8p (d : Nat) {t : TypeId} {p1 p2 p3} (hu : P.underlying t = some (.func p1 p2 p3)) (f : Fn) (a b : Array Value) :
  (Op.equalIn (d + 1) t (.func f a b) .nilFunc).run P w = .ok false w ∧ (Op.equalIn (d + 1) t .nilFunc (.func f a b)).run P w = .ok false w ∧
  (Op.equalIn (d + 1) t .nilFunc .nilFunc).run P w = .ok true w := by
 simp [Op.equalIn,qj hu]
theorem qcd {G : TypeId → Option TI} (hG : ∀ t ti,G t = some ti → qd P t ti) {t : TypeId} {ti : TI} (ht : qd P t ti) (hi : qa w H ι Im) {x y : AV} {vx vy : Value}
  (hx : RA w H ι Im x vx) (hy : RA w H ι Im y vy) (ox oy : Operand) {r : Bool} (hr : aEq G ti x y H = some r) :
  (eqGuard .eql t ox oy vx vy).run P w = .ok () w ∧ (eqGuard .neq t ox oy vx vy).run P w = .ok () w ∧ (Op.equal t vx vy).run P w = .ok r w ∧ q1x vx = true := by
 have plainGuard : ∀ (vx vy : Value),(∀ c d,¬ (vx = .agg c ∧ vy = .agg d)) → ¬ (vx = .nilIface ∧ vy = .nilIface) → ∀ op,(eqGuard op t ox oy vx vy).run P w = .ok () w := by
  intro vx vy h1 h2 op
  unfold eqGuard
  cases vx <;> cases vy <;> simp_all
 unfold aEq at hr
 split at hr
 ·rename_i htd
  split at hr <;> cases hr
  rename_i b1 b2
  cases hx with | pv _ _ hx => cases hy with | pv _ _ hy =>
  cases hx; cases hy
  refine ⟨plainGuard _ _ (by simp) (by simp) _,plainGuard _ _ (by simp) (by simp) _, ?_⟩
  exact ⟨run_equalIn_bool' w 9999 t b1 b2 (ht.bool htd),rfl⟩
 ·rename_i fs htd
  obtain ⟨fields,hu,rfl⟩ := ht.struct htd
  split at hr
  rotate_left
  ·cases hr
  rename_i a b
  split at hr
  rotate_left
  ·cases hr
  rename_i hc
  obtain ⟨heq,hfit⟩ := hc
  have hek := ht.eqk
  rw [heq] at hek
  have hek := hek.symm
  unfold q98 at hek
  rw [hu] at hek
  simp only [Bool.and_eq_true,Bool.not_eq_true'] at hek
  obtain ⟨⟨e1,e2⟩,e3⟩ := hek
  cases hx with | pv _ _ hx => cases hy with | pv _ _ hy =>
  cases hx with | agg _ xs hlx _ hxx => cases hy with | agg _ ys hly _ hyy =>
  refine ⟨run_eqGuard_agg w .eql t ox oy _ _ e2,run_eqGuard_agg w .neq t ox oy _ _ e2, ?_,rfl⟩
  have hfo : P.underlying t = some (.struct (P.fieldsOf t)) := by simp [Program.fieldsOf,hu]
  have hfe : P.fieldsOf t = fields := by simp [Program.fieldsOf,hu]
  have := run_equalIn_struct w 9999 t ⟨xs⟩ ⟨ys⟩ hfo e1
  unfold Op.equal
  show (Op.equalIn (9999 + 1) t _ _).run P w = _
  rw [this,hfe]
  exact qdp hG 9998 ⟨xs⟩ ⟨ys⟩ fields.toList 0 a b e3 hfit (fun j p v h1 h2 => hxx j p v h1 (by simpa using h2)) (fun j p v h1 h2 => hyy j p v h1 (by simpa using h2))
   (by simp [hlx]) (by simp [hly]) hr
 ·rename_i td hnb hns
  have nilOf : ∀ {z : AV} {vz : Value},RA w H ι Im z vz → ∀ {q : Bool},zq ti.td z H = some q →
    (∃ e,ti.td = .slice e ∧ ∃ a n c,vz = .slice a n c ∧ a.isNone = q) ∨ (ti.td = .ptr ∧ ∃ a,vz = .pointer a ∧ a.isNone = q) ∨
    ((∃ k e,ti.td = .map k e) ∧ ∃ a,vz = .map a ∧ a.isNone = q) ∨ (ti.td = .func ∧ ((vz = .nilFunc ∧ q = true) ∨ ∃ f a b,vz = .func f a b ∧ q = false)) := by
   intro z vz hz q hq
   unfold zq at hq
   split at hq
   ·rename_i htd
    refine .inr (.inl ⟨htd, ?_⟩)
    split at hq <;> cases hq
    ·cases hz with | pv _ _ h => cases h; exact ⟨_,rfl,rfl⟩
    ·cases hz; exact ⟨_,rfl,rfl⟩
    ·cases hz; exact ⟨_,rfl,rfl⟩
    ·cases hz; exact ⟨_,rfl,rfl⟩
    ·cases hz with | pv _ _ h => cases h; exact ⟨_,rfl,rfl⟩
   ·rename_i e htd
    refine .inl ⟨e,htd, ?_⟩
    split at hq
    ·cases hq
     cases hz with | pv _ _ h =>
     cases h
     ·exact ⟨_,_,_,rfl,rfl⟩
     ·exact ⟨_,_,_,rfl,rfl⟩
    ·cases hq
     cases hz; exact ⟨_,_,_,rfl,rfl⟩
    ·rename_i β ver off n
     split at hq
     rotate_left
     ·cases hq
     rename_i isnil sz es hb
     split at hq <;> cases hq
     rename_i hv
     obtain ⟨a,c,rfl,hn⟩ := hz.q9y hi hb hv
     exact ⟨_,_,_,rfl,hn⟩
    ·cases hq
   ·rename_i k e htd
    refine .inr (.inr (.inl ⟨⟨k,e,htd⟩, ?_⟩))
    split at hq <;> cases hq
    ·cases hz with | pv _ _ h => cases h; exact ⟨_,rfl,rfl⟩
    ·cases hz; exact ⟨_,rfl,rfl⟩
   ·rename_i htd
    refine .inr (.inr (.inr ⟨htd, ?_⟩))
    split at hq <;> cases hq
    ·cases hz with | pv _ _ h => cases h; exact .inl ⟨rfl,rfl⟩
    ·cases hz with | pv _ _ h => cases h; exact .inr ⟨_,_,_,rfl,rfl⟩
    ·cases hz; exact .inr ⟨_,_,_,rfl,rfl⟩
   ·cases hq
  have isNil : ∀ {z : AV} {vz : Value},RA w H ι Im z vz → q4v ti.td z = true → zq ti.td z H = some true := by
   intro z vz hz h
   unfold q4v at h
   split at h <;> rename_i h1 <;> first | (rw [h1]; rfl) | cases h
  have main : ∀ {z z' : AV} {vz vz' : Value},RA w H ι Im z vz → RA w H ι Im z' vz' → zq ti.td z H = some r → zq ti.td z' H = some true →
    (∀ c d,¬ (vz = .agg c ∧ vz' = .agg d)) ∧ (∀ c d,¬ (vz' = .agg c ∧ vz = .agg d)) ∧ ¬ (vz = .nilIface ∧ vz' = .nilIface) ∧ ¬ (vz' = .nilIface ∧ vz = .nilIface) ∧
    (Op.equal t vz vz').run P w = .ok r w ∧ (Op.equal t vz' vz).run P w = .ok r w ∧ q1x vz = true ∧ q1x vz' = true := by
   intro z z' vz vz' hz hz' h1 h2
   have g1 := nilOf hz h1
   have g2 := nilOf hz' h2
   unfold Op.equal
   rcases g1 with ⟨e,htd,a,n,c,rfl,hn⟩ | ⟨htd,a,rfl,hn⟩ | ⟨⟨k,e,htd⟩,a,rfl,hn⟩ | ⟨htd,g1⟩
   ·rcases g2 with ⟨e',htd',a',n',c',rfl,hn'⟩ | ⟨htd',_⟩ | ⟨⟨k',e',htd'⟩,_⟩ | ⟨htd',_⟩
    rotate_left
    ·rw [htd] at htd'; cases htd'
    ·rw [htd] at htd'; cases htd'
    ·rw [htd] at htd'; cases htd'
    have : a' = none := by simpa using hn'
    subst this hn
    exact ⟨by simp,by simp,by simp,by simp,(qax 9999 (ht.slice htd) a n c n' c').1,(qax 9999 (ht.slice htd) a n c n' c').2,rfl,rfl⟩
   ·obtain ⟨e,hu⟩ := ht.ptr htd
    rcases g2 with ⟨e',htd',_⟩ | ⟨htd',a',rfl,hn'⟩ | ⟨⟨k',e',htd'⟩,_⟩ | ⟨htd',_⟩
    ·rw [htd] at htd'; cases htd'
    rotate_left
    ·rw [htd] at htd'; cases htd'
    ·rw [htd] at htd'; cases htd'
    have : a' = none := by simpa using hn'
    subst this hn
    exact ⟨by simp,by simp,by simp,by simp,(qeg 9999 hu a).1,(qeg 9999 hu a).2,rfl,rfl⟩
   ·rcases g2 with ⟨e',htd',_⟩ | ⟨htd',_⟩ | ⟨⟨k',e',htd'⟩,a',rfl,hn'⟩ | ⟨htd',_⟩
    ·rw [htd] at htd'; cases htd'
    ·rw [htd] at htd'; cases htd'
    rotate_left
    ·rw [htd] at htd'; cases htd'
    have : a' = none := by simpa using hn'
    subst this hn
    exact ⟨by simp,by simp,by simp,by simp,(qeh 9999 (ht.map htd) a).1,(qeh 9999 (ht.map htd) a).2,rfl,rfl⟩
   ·obtain ⟨p1,p2,p3,hu⟩ := ht.func htd
    rcases g2 with ⟨e',htd',_⟩ | ⟨htd',_⟩ | ⟨⟨k',e',htd'⟩,_⟩ | ⟨htd',g2⟩
    ·rw [htd] at htd'; cases htd'
    ·rw [htd] at htd'; cases htd'
    ·rw [htd] at htd'; cases htd'
    rcases g2 with ⟨rfl,_⟩ | ⟨_,_,_,_,h⟩
    rotate_left
    ·cases h
    rcases g1 with ⟨rfl,rfl⟩ | ⟨f,a,b,rfl,rfl⟩
    ·have := (q8p (P := P) (w := w) 9999 hu (.func 0) #[] #[]).2.2
     exact ⟨by simp,by simp,by simp,by simp,this,this,rfl,rfl⟩
    ·exact ⟨by simp,by simp,by simp,by simp,(q8p 9999 hu f a b).1,(q8p 9999 hu f a b).2.1,rfl,rfl⟩
  split at hr
  ·rename_i hn
   obtain ⟨m1,m2,m3,m4,m5,m6,m7,m8⟩ := main hx hy hr (isNil hy hn)
   exact ⟨plainGuard _ _ m1 m3 _,plainGuard _ _ m1 m3 _,m5,m7⟩
  ·split at hr
   ·rename_i hn
    obtain ⟨m1,m2,m3,m4,m5,m6,m7,m8⟩ := main hy hx hr (isNil hx hn)
    exact ⟨plainGuard _ _ m2 m4 _,plainGuard _ _ m2 m4 _,m6,m8⟩
   ·cases hr
theorem qff {G : TypeId → Option TI} (hG : ∀ t ti,G t = some ti → qd P t ti) {t : TypeId} {ti : TI} (ht : qd P t ti) (hi : qa w H ι Im) {x y : AV} {vx vy : Value}
  (hx : RA w H ι Im x vx) (hy : RA w H ι Im y vy) (op : BinOp) (ox oy : Operand) {p : PV} (hr : q1i G op ti x y H = some p) :
  ∃ u,(eqGuard op t ox oy vx vy).run P w = .ok () w ∧ (binOp op t vx vy).run P w = .ok u w ∧ RP w Im p u := by
 have intGuard : ∀ (k k' : IntKind) (a b : Int) (op : BinOp),(eqGuard op t ox oy (.int k a) (.int k' b)).run P w = .ok () w := by
  intro k k' a b op
  unfold eqGuard
  cases op <;> simp
 have strGuard : ∀ (a b : ByteArray) (op : BinOp),(eqGuard op t ox oy (.string a) (.string b)).run P w = .ok () w := by
  intro a b op
  unfold eqGuard
  cases op <;> simp
 unfold q1i at hr
 split at hr
 ·split at hr
  rotate_left
  ·cases hr
  rename_i k a k' b
  split at hr <;> cases hr
  rename_i h0
  cases hx with | pv _ _ hx => cases hy with | pv _ _ hy =>
  cases hx; cases hy
  have : ¬ b < 0 := by omega
  exact ⟨_,intGuard _ _ _ _ _,by simp [binOp,Op.shift,this],.int _ _⟩
 ·split at hr
  rotate_left
  ·cases hr
  rename_i k a k' b
  split at hr <;> cases hr
  rename_i h0
  cases hx with | pv _ _ hx => cases hy with | pv _ _ hy =>
  cases hx; cases hy
  have : ¬ b < 0 := by omega
  exact ⟨_,intGuard _ _ _ _ _,by simp [binOp,Op.shift,this],.int _ _⟩
 ·rename_i h1 h2
  split at hr
  ·rename_i k a k' b
   split at hr
   rotate_left
   ·cases hr
   rename_i hk
   subst hk
   cases hx with | pv _ _ hx => cases hy with | pv _ _ hy =>
   cases hx; cases hy
   obtain ⟨u,g1,g2⟩ := z3m (P := P) (w := w) (Im := Im) ⟨h1,h2⟩ t hr
   exact ⟨u,intGuard _ _ _ _ _,g1,g2⟩
  ·cases hx with | pv _ _ hx => cases hy with | pv _ _ hy =>
   cases hx; cases hy
   obtain ⟨u,g1,g2⟩ := qs1 (P := P) (w := w) (Im := Im) t hr
   exact ⟨u,strGuard _ _ _,g1,g2⟩
  ·rename_i x y hni hns
   split at hr
   ·split at hr <;> cases hr
    rename_i b hb
    obtain ⟨g1,g2,g3,g4⟩ := qcd hG ht hi hx hy ox oy hb
    exact ⟨.bool b,g1,by rw [binOp_eql g4,g3]; rfl,.bool _⟩
   ·split at hr <;> cases hr
    rename_i b hb
    obtain ⟨g1,g2,g3,g4⟩ := qcd hG ht hi hx hy ox oy hb
    exact ⟨.bool (!b),g2,by rw [binOp_neq g4,g3]; rfl,.bool _⟩
   ·cases hr
end
end Go.Gm
namespace Go.Gm
open Go
section
variable {P : Program} {w : World} {H : Heap} {ι : Plc} {Im : Nat → Prop}
theorem RA.zm {p : PV} {v : Value} (h : RA w H ι Im (.pv p) v) : RP w Im p v := by
 cases h
 assumption
theorem qdx : ∀ (es : List (List PV)) (l : List UInt8),bytesOf es = some l → ∀ (cs : Nat → Option Value) (k : Nat),(∀ (i : Nat) e (j : Nat) p,es[i]? = some e → e[j]? = some p → ∃ v,cs (k + i) = some v ∧ RP w Im p v ∧ j = 0) →
  es.length = l.length ∧ ∀ i,i < es.length → ∃ n : Int,cs (k + i) = some (.int .u8 n) ∧ l[i]? = some (UInt8.ofNat n.toNat)
 | [],l,h,cs,k,_ => by
  simp only [bytesOf,Option.some.injEq] at h
  subst h
  simp
 | e :: r,l,h,cs,k,hc => by
  unfold bytesOf at h
  split at h
  ·cases ‹_ :: _ = []›
  ·rename_i n r' heq
   obtain ⟨rfl,rfl⟩ : e = [.int .u8 n] ∧ r = r' := by simpa using heq
   split at h <;> cases h
   rename_i l' hl
   obtain ⟨h1,h2⟩ := qdx r l' hl cs (k + 1) (fun i e j p a b => by
    have := hc (i + 1) e j p (by simpa using a) b
    rwa [show k + (i + 1) = k + 1 + i from by omega] at this)
   refine ⟨by simp [h1],fun i hi => ?_⟩
   cases i with
   | zero =>
    obtain ⟨v,g1,g2,_⟩ := hc 0 [.int .u8 n] 0 (.int .u8 n) (by simp) (by simp)
    cases g2
    exact ⟨n,g1,by simp⟩
   | succ i =>
    simp only [List.length_cons] at hi
    obtain ⟨n',g1,g2⟩ := h2 i (by omega)
    exact ⟨n',by rwa [show k + (i + 1) = k + 1 + i from by omega],by simpa using g2⟩
  ·cases h
theorem qba (g : Value → ByteArray → Sem (ForInStep ByteArray)) (hg : ∀ n s,g (.int .u8 n) s = pure (.yield (s.push (UInt8.ofNat n.toNat)))) :
  ∀ (l : List Value) (acc : ByteArray) (out : List UInt8),l.length = out.length →
  (∀ (i : Nat) v b,l[i]? = some v → out[i]? = some b → ∃ n : Int,v = .int .u8 n ∧ b = UInt8.ofNat n.toNat) →
  (forIn l acc g).run P w = .ok ⟨⟨acc.data.toList ++ out⟩⟩ w
 | [],acc,out,hl,_ => by
  have : out = [] := by simpa using hl.symm
  subst this
  simp
 | v :: r,acc,out,hl,h => by
  cases out with
  | nil => simp at hl
  | cons b out =>
   obtain ⟨n,rfl,rfl⟩ := h 0 v b (by simp) (by simp)
   have ih := qba g hg r (acc.push (UInt8.ofNat n.toNat)) out (by simpa using hl) (fun i v b h1 h2 => h (i + 1) v b (by simpa using h1) (by simpa using h2))
   simp only [List.forIn_cons,hg,Sem.run_bind,Sem.run_pure,Result.andThen_ok,ih]
   simp
theorem qgm {src dst : TypeId} {d1 : TypeDesc} {k : IntKind} (h1 : P.underlying src = some d1) (h2 : P.underlying dst = some (.int k)) (kd : IntKind) (n : Int) :
  (convert src dst (.int kd n)).run P w = .ok (.int k (k.wrap n)) w := by
 unfold convert
 simp only [Sem.run_bind,qj h1,qj h2,Result.andThen_ok]
 rfl
theorem qxe {src dst : TypeId} {d1 : TypeDesc} (h1 : P.underlying src = some d1) (h2 : P.underlying dst = some .string) (s : ByteArray) :
  (convert src dst (.string s)).run P w = .ok (.string s) w := by
 unfold convert
 simp only [Sem.run_bind,qj h1,qj h2,Result.andThen_ok]
 rfl
theorem z9d {src dst e : TypeId} (h1 : P.underlying src = some (.slice e)) (h2 : P.underlying dst = some .string) (h3 : P.underlying e = some (.int .u8)) (a : Option Addr) (n c : Nat) :
  (convert src dst (.slice a n c)).run P w = (Conv.bytesToString (.slice a n c)).run P w := by
 unfold convert
 simp only [Sem.run_bind,qj h1,qj h2,Result.andThen_ok,qj h3]
theorem z18 {src dst e : TypeId} {d1 : TypeDesc} (h1 : P.underlying src = some d1) (h2 : P.underlying dst = some (.slice e)) (h3 : P.underlying e = some (.int .u8)) (s : ByteArray) :
  (convert src dst (.string s)).run P w = (Conv.stringToBytes e s).run P w := by
 unfold convert
 simp only [Sem.run_bind,qj h1,qj h2,Result.andThen_ok,qj h3]
theorem qd.q2n {t : TypeId} {ti : TI} (ht : qd P t ti) : ∃ d,P.underlying t = some d := by
 obtain ⟨d,h,_⟩ := ht.und
 exact ⟨d,h⟩
theorem zf8 {G : TypeId → Option TI} (hG : ∀ t ti,G t = some ti → qd P t ti) {src dst : TypeId} {ts td : TI} (hs : qd P src ts) (hd : qd P dst td)
  (hi : qa w H ι Im) {nx : Nat} {X : Nat → Prop} (hnx : Bd X H nx) {x : AV} {v : Value} (hx : RA w H ι Im x v) {r : Eff} (hr : nu ts.td td.td G x H nx = some r) (hX : ∀ γ,X γ → r.2.2 ≤ γ) :
  ∃ u w',(convert src dst v).run P w = .ok u w' ∧ Did X w H ι Im nx r u w' := by
 obtain ⟨d1,hu1⟩ := hs.q2n
 unfold nu at hr
 split at hr
 ·rename_i k kd n htd
  cases hr
  have h := hx.zm
  cases h
  exact ⟨.int k (k.wrap n),w,qgm hu1 (hd.int htd) _ _,Did.pure hi hnx (.pv _ _ (.int _ _))⟩
 ·rename_i s htd
  cases hr
  have h := hx.zm
  cases h
  exact ⟨_,w,qxe hu1 (hd.string htd) _,Did.pure hi hnx (.pv _ _ (.str _))⟩
 ·rename_i e hns htd1 htd2
  split at hr
  rotate_left
  ·cases hr
  rename_i te hte
  have hte' := hG _ _ hte
  split at hr
  rotate_left
  ·cases hr
  rename_i htde
  split at hr
  rotate_left
  ·cases hr
  rename_i xsz es hsrc
  split at hr
  rotate_left
  ·cases hr
  rename_i hx1
  split at hr <;> cases hr
  rename_i l hl
  have hsl : ∃ a n c,v = .slice a n c := by
   unfold xh at hsrc
   split at hsrc
   ·have h := hx.zm
    cases h <;> exact ⟨_,_,_,rfl⟩
   ·cases hx; exact ⟨_,_,_,rfl⟩
   ·rename_i β ver off n
    split at hsrc
    rotate_left
    ·cases hsrc
    rename_i isnil sz es' hb
    split at hsrc
    rotate_left
    ·cases hsrc
    rename_i hv
    obtain ⟨a,c,h,_⟩ := hx.q9y hi hb hv
    exact ⟨_,_,_,h⟩
   ·rename_i s
    exact absurd rfl (by first | exact hns _ | exact htd1 _ | exact htd2 _ | skip)
   ·cases hsrc
  obtain ⟨a,n,c,rfl⟩ := hsl
  obtain ⟨l1,l2⟩ := q1k (P := P) hi hx hsrc
  obtain ⟨cs,f1,f2,f3⟩ := l2 1 hx1
  have hn : n = es.length := by
   simp [Builtin.lenOf] at l1
   exact l1
  subst hn
  obtain ⟨k1,k2⟩ := qdx (w := w) (Im := Im) es l hl (fun i => cs[i]?) 0 (fun i e j p q1 q2 => by
   obtain ⟨v0,g1,g2⟩ := f3.2.2 i e j p q1 q2
   have h1 := f3.1 e (List.mem_of_getElem? q1)
   have h2 := (List.getElem?_eq_some_iff.1 q2).1
   have : j = 0 := by omega
   subst this
   exact ⟨v0,by simpa using g1,g2,rfl⟩)
  refine ⟨.string ⟨⟨l⟩⟩,w, ?_,Did.pure hi hnx (.pv _ _ (.str _))⟩
  rw [z9d (hs.slice ‹_›) (hd.string ‹_›) (hte'.int htde)]
  unfold Conv.bytesToString
  cases a with
  | none =>
   have hcs : cs = #[] := by
    simp [Builtin.firstCells] at f1
    first | exact f1.symm | exact f1
   subst hcs
   have : es = [] := by
    have : es.length = 0 := by simpa using f2.symm
    simpa using this
   subst this
   have : l = [] := by simpa using k1.symm
   subst this
   rfl
  | some a =>
   have hld : (loadCells a es.length).run P w = .ok cs w := by simpa [Builtin.firstCells] using f1
   have hcs : cs.toList.length = l.length := by simp; omega
   have := fun g hg => qba (P := P) (w := w) g hg cs.toList ByteArray.empty l hcs (fun i v b q1 q2 => by
    have hil : i < es.length := by
     have := (List.getElem?_eq_some_iff.1 q1).1
     omega
    obtain ⟨m,g1,g2⟩ := k2 i hil
    have q1' : cs[i]? = some v := by simpa using q1
    simp only [Nat.zero_add,q1'] at g1
    rw [q2] at g2
    exact ⟨m,Option.some.inj g1,Option.some.inj g2⟩)
   simp only [Sem.run_bind,hld,Result.andThen_ok]
   rw [← Array.forIn_toList,this _ (fun n s => rfl)]
   rfl
 ·rename_i e s htd
  split at hr
  rotate_left
  ·cases hr
  rename_i te hte
  have hte' := hG _ _ hte
  split at hr <;> cases hr
  rename_i htde
  have h := hx.zm
  cases h
  let cap : Nat := Question.cut (.appendCap s.length 0 e) (w.tape w.drawn (.appendCap s.length 0 e))
  have hcap : s.length ≤ cap := by simp [cap,Question.cut]
  let cs : Array Value := (⟨s⟩ : Array UInt8).map (fun b => Value.int .u8 b.toNat) ++ Array.replicate (cap - s.length) (.int .u8 0)
  have hsz : cs.size = cap := by simp [cs]; omega
  refine ⟨.slice (some ⟨w.heap.size,0,none⟩) s.length cap, { za w with heap := w.heap.push (.cells cs e (cs.size,cs.size + 1)) }, ?_, ?_⟩
  ·rw [z18 hu1 (hd.slice htd) (hte'.int htde)]
   unfold Conv.stringToBytes
   have hch : (choose (Question.appendCap (ByteArray.mk ⟨s⟩).size 0 e)).run P w = .ok cap (za w) := by
    have : (ByteArray.mk ⟨s⟩).size = s.length := rfl
    rw [this]
    simp [choose,Sem.run,Question.forced,cap,za]
   have hmark : (markStringish ⟨w.heap.size,0,none⟩).run P { za w with heap := w.heap.push (.cells cs e) } = .ok () { za w with heap := w.heap.push (.cells cs e (cs.size,cs.size + 1)) } := by
    unfold markStringish
    have h1 : (World.shape? { za w with heap := w.heap.push (.cells cs e) } w.heap.size) = some (e,cs.size) := by simp [World.shape?]
    simp only [Sem.run_bind,run_shape,Result.andThen_ok,h1,run_freeze]
    simp [World.freeze,za]
    apply Array.ext
    ·simp
    ·intro i h1 h2
     simp at h1
     simp only [Array.getElem_modify,Array.getElem_push]
     split
     ·rename_i h; subst h; simp
     ·rename_i h; simp [show i < w.heap.size from by omega]
   have e1 : (ByteArray.mk ⟨s⟩).size = s.length := rfl
   simp only [Sem.run_bind,hch,Result.andThen_ok,newRow,run_newObj,Sem.run_pure]
   have e2 : (za w).heap = w.heap := rfl
   simp only [e2,e1]
   have := hmark
   simp only [cs,e1] at this ⊢
   rw [this]
   rfl
  ·have := q6i hi hnx (mi hX) 1 (s.map fun b => [PV.int .u8 b.toNat]) cs e (cs.size,cs.size + 1) cap { za w with heap := w.heap.push (.cells cs e (cs.size,cs.size + 1)) } rfl ⟨rfl,rfl⟩
    (fun i hi' h => by simp at h; omega) (by omega) (by simp [hsz]) (by simpa using hcap) (by
     refine ⟨fun e0 he0 => ?_,fun i e0 j p q1 q2 => ?_,fun i e0 j p q1 q2 => ?_⟩
     ·simp only [List.mem_map] at he0
      obtain ⟨b,_,rfl⟩ := he0
      rfl
     ·simp only [List.getElem?_map,Option.map_eq_some_iff] at q1
      obtain ⟨b,_,rfl⟩ := q1
      cases j with
      | zero => simp at q2; subst q2; rfl
      | succ j => simp at q2
     ·simp only [List.getElem?_map,Option.map_eq_some_iff] at q1
      obtain ⟨b,hb,rfl⟩ := q1
      cases j with
      | zero =>
       simp at q2
       subst q2
       refine ⟨.int .u8 b.toNat, ?_,.int _ _⟩
       have hil := (List.getElem?_eq_some_iff.1 hb).1
       simp only [cs]
       rw [Array.getElem?_append_left (by simp; omega)]
       simp [hb]
      | succ j => simp at q2)
   simpa using this
 ·cases hr
end
end Go.Gm
namespace Go.Gm
open Go
section
variable {P : Program} {w : World} {H : Heap} {ι : Plc} {Im : Nat → Prop}
def xn (w : World) (Im : Nat → Prop) (es : List (PV × PV × Nat)) (ents : List MapEntry) : Prop :=
 es.length = ents.length ∧ ∀ (i : Nat) (k x : PV) (born : Nat) e,es[i]? = some (k,x,born) → ents[i]? = some e → RP w Im k e.key ∧ RP w Im x e.val ∧ e.born = born
theorem xn.mono {w' : World} {Im' : Nat → Prop} (hi : ∀ b,Im b → Im' b) (hw : ∀ b,Im b → w'.heap[b]? = w.heap[b]?) {es : List (PV × PV × Nat)} {ents : List MapEntry}
  (h : xn w Im es ents) : xn w' Im' es ents :=
 ⟨h.1,fun i k x born e a b => let ⟨g1,g2,g3⟩ := h.2 i k x born e a b; ⟨g1.mono hi hw,g2.mono hi hw,g3⟩⟩
theorem xn.tail {x : PV × PV × Nat} {es : List (PV × PV × Nat)} {e : MapEntry} {ents : List MapEntry} (h : xn w Im (x :: es) (e :: ents)) : xn w Im es ents :=
 ⟨by simpa using h.1,fun i k y born e' a b => h.2 (i + 1) k y born e' (by simpa using a) (by simpa using b)⟩
theorem qai (a b : List UInt8) : ((⟨⟨a⟩⟩ : ByteArray) == ⟨⟨b⟩⟩) = (a == b) := by
 have := beq_toListBytes ⟨⟨a⟩⟩ ⟨⟨b⟩⟩
 simpa using this
theorem za9 {t : TypeId} {tk : TI} (ht : qd P t tk) {k : PV} (hk : zb tk.td k = true) {d : TypeDesc} (hd : P.underlying t = some d) {k' : PV} {vk vk' : Value}
  (h1 : RP w Im k vk) (h2 : RP w Im k' vk') {b : Bool} (hb : q6o k k' = some b) : Instr.sameNow d vk vk' = some b ∧ (b = true → vk = vk') := by
 have key : ∀ td,tk.td = td → zb td k = true → _ := fun td e h => (⟨e,h⟩ : tk.td = td ∧ zb td k = true)
 cases k <;> cases k' <;> simp only [q6o,reduceCtorEq] at hb
 ·rename_i a b'
  cases hb
  cases h1; cases h2
  have htd : tk.td = .bool := by cases htd : tk.td <;> simp [zb,htd] at hk ⊢
  rw [ht.bool htd] at hd
  cases hd
  exact ⟨rfl,fun h => by simpa using h⟩
 ·rename_i kd a kd' b'
  split at hb <;> cases hb
  rename_i hkk
  subst hkk
  cases h1; cases h2
  obtain ⟨k0,htd⟩ : ∃ k0,tk.td = .int k0 := by cases htd : tk.td <;> simp [zb,htd] at hk ⊢
  rw [ht.int htd] at hd
  cases hd
  exact ⟨by simp [Instr.sameNow],fun h => by simpa using h⟩
 ·rename_i a b'
  cases hb
  cases h1; cases h2
  have htd : tk.td = .string := by cases htd : tk.td <;> simp [zb,htd] at hk ⊢
  rw [ht.string htd] at hd
  cases hd
  refine ⟨?_,fun h => ?_⟩
  ·simp only [Instr.sameNow,qai]
  ·have : a = b' := by simpa using h
   rw [this]
theorem q0n {t : TypeId} {tk : TI} (ht : qd P t tk) {k : PV} (hk : zb tk.td k = true) {d : TypeDesc} (hd : P.underlying t = some d) {vk : Value} (h1 : RP w Im k vk) :
  ∀ (es : List (PV × PV × Nat)) (ents : List MapEntry) (i : Nat),xn w Im es ents → ∀ {r : Option (Nat × PV × Nat)},findKey k es i = some r →
   (r = none ∧ Instr.findNow d vk ents i = some none) ∨
   ∃ j x born e,r = some (i + j,x,born) ∧ Instr.findNow d vk ents i = some (some (i + j,e.val)) ∧ ents[j]? = some e ∧ RP w Im x e.val ∧ e.born = born ∧ e.key = vk
 | [],ents,i,hE,r,h => by
  have : ents = [] := by simpa using hE.1.symm
  subst this
  cases h
  exact .inl ⟨rfl,rfl⟩
 | (k',x,born) :: es,[],i,hE,r,h => by
  have := hE.1
  simp at this
 | (k',x,born) :: es,e :: ents,i,hE,r,h => by
  obtain ⟨g1,g2,g3⟩ := hE.2 0 k' x born e (by simp) (by simp)
  unfold findKey at h
  cases hq : q6o k k' with
  | none => simp [hq] at h
  | some b =>
   obtain ⟨s1,s2⟩ := za9 ht hk hd h1 g1 hq
   cases b with
   | true =>
    simp only [hq,Option.some.injEq] at h
    subst h
    refine .inr ⟨0,x,born,e,rfl, ?_,rfl,g2,g3,(s2 rfl).symm⟩
    simp [Instr.findNow,s1]
   | false =>
    simp only [hq] at h
    rcases q0n ht hk hd h1 es ents (i + 1) hE.tail h with ⟨rfl,q⟩ | ⟨j,x',born',e',rfl,q1,q2,q3,q4,q5⟩
    ·exact .inl ⟨rfl,by simp [Instr.findNow,s1,q]⟩
    ·refine .inr ⟨j + 1,x',born',e',by rw [Nat.add_assoc,Nat.add_comm 1 j], ?_,by simpa using q2,q3,q4,q5⟩
     simp only [Instr.findNow,s1,q1]
     rw [Nat.add_assoc,Nat.add_comm 1 j]
theorem run_checkKey {t : TypeId} {tk : TI} (ht : qd P t tk) {k : PV} (hk : zb tk.td k = true) (empty : Bool) (vk : Value) : (Instr.checkKey empty 10000 t vk).run P w = .ok () w := by
 have gen : ∀ n,(Instr.checkKey empty (n + 1) t vk).run P w = .ok () w := by
  intro n
  unfold Instr.checkKey
  have : P.underlying t = some .bool ∨ P.underlying t = some .string ∨ ∃ k0,P.underlying t = some (.int k0) := by
   cases htd : tk.td <;> simp [zb,htd] at hk
   ·exact .inl (ht.bool htd)
   ·exact .inr (.inr ⟨_,ht.int htd⟩)
   ·exact .inr (.inl (ht.string htd))
  rcases this with h | h | ⟨k0,h⟩ <;> simp [qj h]
 exact gen 9999
theorem run_findKey {t : TypeId} {tk : TI} (ht : qd P t tk) {d : TypeDesc} (hd : P.underlying t = some d) (vk : Value) (ents : List MapEntry) {r : Option (Nat × Value)}
  (h : Instr.findNow d vk ents 0 = some r) : (Instr.findKey t vk ents).run P w = .ok r w := by
 unfold Instr.findKey
 simp [qj hd,h]
theorem qa.map {β : Nat} {es : List (PV × PV × Nat)} {clock : Nat} (hi : qa w H ι Im) (hb : H.get β = some (.map es clock)) :
  ∃ ents : List MapEntry,w.heap[(ι β).b]? = some (.map ⟨ents⟩ clock) ∧ xn w Im es ents := hi.blk β _ hb
theorem q2s {b : Nat} {ents : List MapEntry} {clock : Nat} (h : w.heap[b]? = some (.map ⟨ents⟩ clock)) : (getObj b).run P w = .ok (.map ⟨ents⟩ clock) w := by
 simp [getObj,Sem.run,h]
theorem q0g {b : Nat} {ents : List MapEntry} {clock : Nat} (h : w.heap[b]? = some (.map ⟨ents⟩ clock)) (o : Obj) :
  (setObj b o).run P w = .ok () { w with heap := w.heap.setIfInBounds b o } := by
 simp [setObj,Sem.run,h]
theorem q1y (hi : qa w H ι Im) {nx : Nat} {X : Nat → Prop} (hnx : Bd X H nx) {β : Nat} {es es' : List (PV × PV × Nat)} {clock clock' : Nat} {ents' : List MapEntry}
  (hb : H.get β = some (.map es clock)) (h : xn w Im es' ents') {r : AV} {u : Value} (hru : ∀ w' H' ι',qa w' H' ι' Im → Evo w H ι Im w' H' ι' Im → RA w' H' ι' Im r u) :
  Did X w H ι Im nx (r,[(β,.map es' clock')],nx) u { w with heap := w.heap.setIfInBounds (ι β).b (.map ⟨ents'⟩ clock') } := by
 obtain ⟨ents,h1,h2⟩ := hi.map hb
 have hlt := (hi.blk β _ hb).lt rfl
 have key := qa.put hi (w' := { w with heap := w.heap.setIfInBounds (ι β).b (.map ⟨ents'⟩ clock') }) β (.map es' clock') (ι β)
  (fun x hx => by rw [hb] at hx; cases hx; rfl) ⟨by simp,rfl,rfl⟩
  (fun b' _ hne => by
   have : (ι β).b ≠ b' := hne _ hb rfl
   simp [Array.getElem?_setIfInBounds,this])
  (fun _ => .inr ⟨_,hb,rfl,rfl⟩) (fun he => by
   have hw : ∀ b,Im b → _ := fun b hb => he.kept hi b hb
   exact ⟨ents',by simp [hlt],h.mono he.im hw⟩)
 exact ⟨_,key.1,key.2,hru _ _ _ key.1 key.2,Nat.le_refl _,je hnx (Nat.le_refl _) (hnx β _ hb)⟩
theorem qd9 {t : TypeId} {ti : TI} (ht : qd P t ti) : ∃ z,(zeroValue t).run P w = .ok z w ∧ RP w Im (kg ti) z := by
 obtain ⟨z,h1,h2,h3,h4⟩ := q2g (w := w) (Im := Im) ht
 refine ⟨z,h1, ?_⟩
 unfold kg
 have hagg : ti.isAgg = ti.td.isAgg := by
  unfold TI.isAgg TD.isAgg
  cases ti.td <;> rfl
 rw [hagg,← h4]
 cases z with
 | agg cs =>
  simp only [q52,if_true]
  exact .agg ti.zero cs.toList (by simpa [Value.cells] using h2) ht.flat (fun i p v a b => h3 i p v a (by simpa [Value.cells] using b))
 | _ =>
  simp only [q52,Bool.false_eq_true,if_false,Value.cells] at h2 h3 ⊢
  cases hz : ti.zero with
  | nil => rw [hz] at h2; simp at h2
  | cons p r =>
   rw [hz] at h3
   exact h3 0 p _ (by simp) (by simp)
theorem qa9 {t : TypeId} {tk : TI} (ht : qd P t tk) (hi : qa w H ι Im) {m : AV} {vm vk : Value} (hm : RA w H ι Im m vm) {k : PV} (hk : zb tk.td k = true) (h1 : RP w Im k vk)
  {r : Option (Nat × PV × Nat)} (hr : q17 m k H = some r) :
  (vm = .map none ∧ r = none) ∨ ∃ b ents clock,vm = .map (some b) ∧ w.heap[b]? = some (.map ⟨ents⟩ clock) ∧
   ((r = none ∧ (Instr.findKey t vk ents).run P w = .ok none w) ∨ ∃ j x born u,r = some (j,x,born) ∧ (Instr.findKey t vk ents).run P w = .ok (some (j,u)) w ∧ RP w Im x u) := by
 obtain ⟨d,hd⟩ := ht.q2n
 unfold q17 at hr
 split at hr
 ·cases hr
  have h := hm.zm
  cases h
  exact .inl ⟨rfl,rfl⟩
 ·rename_i β
  split at hr
  rotate_left
  ·cases hr
  rename_i es clock hb
  cases hm
  obtain ⟨ents,g1,g2⟩ := hi.map hb
  refine .inr ⟨_,ents,clock,rfl,g1, ?_⟩
  rcases q0n ht hk hd h1 es ents 0 g2 hr with ⟨rfl,q⟩ | ⟨j,x,born,e,rfl,q1,q2,q3,q4,q5⟩
  ·exact .inl ⟨rfl,run_findKey ht hd vk ents q⟩
  ·exact .inr ⟨_,x,born,e.val,rfl,run_findKey ht hd vk ents q1,q3⟩
 ·cases hr
theorem qok {t k0 e0 : TypeId} {ti tk te : TI} (ht : qd P t ti) (htd : ti.td = .map k0 e0) (hk : qd P k0 tk) (he : qd P e0 te) (hi : qa w H ι Im) {m k : AV} {vm vk : Value}
  (hm : RA w H ι Im m vm) (hkv : RA w H ι Im k vk) {ok : Bool} {r : AV} (hr : q0m tk te m k ok H = some r) :
  ∃ u,(Instr.lookup t vm vk ok).run P w = .ok u w ∧ RA w H ι Im r u := by
 unfold q0m at hr
 split at hr
 rotate_left
 ·cases hr
 rename_i k
 split at hr
 rotate_left
 ·cases hr
 rename_i hfit
 have hkp := hkv.zm
 obtain ⟨z,hz1,hz2⟩ := qd9 (w := w) (Im := Im) he
 have pair : ∀ (p : PV) (v : Value) (b : Bool),RP w Im p v → RA w H ι Im (if ok = true then .tup [.pv p,.pv (.bool b)] else .pv p) (if ok = true then .tuple #[v,.bool b] else v) := by
  intro p v b h
  cases ok
  ·exact .pv _ _ h
  ·refine .tup _ [v,.bool b] rfl fun i x u h1 h2 => ?_
   match i with
   | 0 => simp at h1 h2; subst h1 h2; exact .pv _ _ h
   | 1 => simp at h1 h2; subst h1 h2; exact .pv _ _ (.bool _)
   | i + 2 => simp at h1
 unfold Instr.lookup
 simp only [Sem.run_bind,qj (ht.map htd),Result.andThen_ok]
 split at hr
 ·rename_i j v born hf
  cases hr
  rcases qa9 hk hi hm hfit hkp hf with ⟨_,h⟩ | ⟨b,ents,clock,rfl,g1,g2⟩
  ·cases h
  rcases g2 with ⟨h,_⟩ | ⟨j',x,born',u,h,g3,g4⟩
  ·cases h
  cases h
  refine ⟨_, ?_,pair v u true g4⟩
  simp only [q2s g1,Sem.run_bind,Result.andThen_ok,Sem.run_pure,run_checkKey hk hfit,g3]
 ·rename_i hf
  cases hr
  rcases qa9 hk hi hm hfit hkp hf with ⟨rfl,_⟩ | ⟨b,ents,clock,rfl,g1,g2⟩
  ·refine ⟨_, ?_,pair _ z false hz2⟩
   have : (Instr.findKey k0 vk ([] : List MapEntry)).run P w = .ok none w := by
    obtain ⟨d,hd⟩ := hk.q2n
    exact run_findKey hk hd vk [] rfl
   simp only [Sem.run_bind,Result.andThen_ok,Sem.run_pure,run_checkKey hk hfit,this,hz1]
  ·rcases g2 with ⟨_,g3⟩ | ⟨j',x,born',u,h,_⟩
   rotate_left
   ·cases h
   refine ⟨_, ?_,pair _ z false hz2⟩
   simp only [q2s g1,Sem.run_bind,Result.andThen_ok,Sem.run_pure,run_checkKey hk hfit,g3,hz1]
 ·cases hr
end
end Go.Gm
namespace Go.Gm
open Go
section
variable {P : Program} {w : World} {H : Heap} {ι : Plc} {Im : Nat → Prop}
theorem xn.set {es : List (PV × PV × Nat)} {ents : List MapEntry} (h : xn w Im es ents) (i : Nat) {k x : PV} {born : Nat} {e : MapEntry}
  (hk : RP w Im k e.key) (hx : RP w Im x e.val) (hb : e.born = born) : xn w Im (es.set i (k,x,born)) (ents.set i e) := by
 refine ⟨by simp [h.1],fun j k' x' born' e' h1 h2 => ?_⟩
 rw [List.getElem?_set] at h1 h2
 by_cases hij : i = j
 ·subst hij
  rw [if_pos rfl] at h1 h2
  split at h1 <;> cases h1
  split at h2 <;> cases h2
  exact ⟨hk,hx,hb⟩
 ·rw [if_neg hij] at h1 h2
  exact h.2 j k' x' born' e' h1 h2
theorem xn.push {es : List (PV × PV × Nat)} {ents : List MapEntry} (h : xn w Im es ents) {k x : PV} {born : Nat} {e : MapEntry}
  (hk : RP w Im k e.key) (hx : RP w Im x e.val) (hb : e.born = born) : xn w Im (es ++ [(k,x,born)]) (ents ++ [e]) := by
 refine ⟨by simp [h.1],fun j k' x' born' e' h1 h2 => ?_⟩
 rw [List.getElem?_append] at h1 h2
 rw [← h.1] at h2
 by_cases hj : j < es.length
 ·rw [if_pos hj] at h1 h2
  exact h.2 j k' x' born' e' h1 h2
 ·rw [if_neg hj] at h1 h2
  cases hd : j - es.length with
  | zero =>
   rw [hd] at h1 h2
   simp at h1 h2
   obtain ⟨rfl,rfl,rfl⟩ := h1
   subst h2
   exact ⟨hk,hx,hb⟩
  | succ n => rw [hd] at h1; simp at h1
theorem xn.erase {es : List (PV × PV × Nat)} {ents : List MapEntry} (h : xn w Im es ents) (i : Nat) : xn w Im (es.eraseIdx i) (ents.eraseIdx i) := by
 refine ⟨by simp [List.length_eraseIdx,h.1],fun j k' x' born' e' h1 h2 => ?_⟩
 rw [List.getElem?_eraseIdx] at h1 h2
 split at h1
 ·rename_i hc
  rw [if_pos hc] at h2
  exact h.2 _ k' x' born' e' h1 h2
 ·rename_i hc
  rw [if_neg hc] at h2
  exact h.2 _ k' x' born' e' h1 h2
theorem modify_eq_set {l : List MapEntry} {i : Nat} {e : MapEntry} (h : l[i]? = some e) (f : MapEntry → MapEntry) : (⟨l⟩ : Array MapEntry).modify i f = ⟨l.set i (f e)⟩ := by
 obtain ⟨hlt,he⟩ := List.getElem?_eq_some_iff.1 h
 apply Array.ext'
 simp only [Array.toList_modify]
 apply List.ext_getElem?
 intro j
 rw [List.getElem?_modify,List.getElem?_set]
 by_cases hij : i = j
 ·subst hij
  simp [hlt,he]
 ·simp [hij]
theorem qxb {k : PV} {tk : TI} (hk : zb tk.td k = true) {v : Value} (h : RP w Im k v) : Instr.sameBits 10000 v v = true := by
 cases h <;> simp [zb] at hk
 ·simp [Instr.sameBits]
 ·simp [Instr.sameBits]
 ·simp [Instr.sameBits,qai]
 all_goals (cases htd : tk.td <;> simp [htd] at hk)
theorem qbc {k : PV} {tk : TI} (hk : zb tk.td k = true) {v : Value} (h : RP w Im k v) : (Instr.keyThatStays v v).run P w = .ok v w := by
 unfold Instr.keyThatStays
 simp [qxb hk h]
theorem qbu {t k0 e0 : TypeId} {ti tk : TI} (ht : qd P t ti) (htd : ti.td = .map k0 e0) (hk : qd P k0 tk) (hi : qa w H ι Im)
  {nx : Nat} {X : Nat → Prop} (hnx : Bd X H nx) {m k : AV} {x : PV} {vm vk vx : Value}
  (hm : RA w H ι Im m vm) (hkv : RA w H ι Im k vk) (hx : RP w Im x vx) {ws : List (Nat × Blk)} (hr : yo tk m k x H = some ws) :
  ∃ w',(Instr.mapUpdate t vm vk vx).run P w = .ok () w' ∧ Did X w H ι Im nx (.tup [],ws,nx) undef w' := by
 have hundef : ∀ w' H' ι',qa w' H' ι' Im → Evo w H ι Im w' H' ι' Im → RA w' H' ι' Im (.tup []) undef := fun _ _ _ _ _ => .tup [] [] rfl (by simp)
 obtain ⟨d,hd⟩ := hk.q2n
 unfold yo at hr
 split at hr
 rotate_left
 ·cases hr
 rename_i β k
 split at hr
 rotate_left
 ·cases hr
 rename_i hfit
 split at hr
 rotate_left
 ·cases hr
 rename_i es clock hb
 have hkp := hkv.zm
 cases hm
 obtain ⟨ents,g1,g2⟩ := hi.map hb
 unfold Instr.mapUpdate
 simp only [Sem.run_bind,qj (ht.map htd),Result.andThen_ok,q2s g1,run_checkKey hk hfit]
 split at hr
 ·rename_i j y born hf
  cases hr
  rcases q0n hk hfit hd hkp es ents 0 g2 hf with ⟨h,_⟩ | ⟨j',x',born',e,h,q1,q2,q3,q4,q5⟩
  ·cases h
  rw [Nat.zero_add] at h q1
  cases h
  have hkey : ((ents[j]?.map (·.key)).getD vk) = vk := by rw [q2]; simp [q5]
  refine ⟨_, ?_,q1y hi hnx hb (g2.set j (k := k) (x := x) (born := born) (e := { e with key := vk,val := vx }) hkp hx q4) hundef⟩
  simp only [run_findKey hk hd vk ents q1,Result.andThen_ok,Sem.run_bind]
  have hk2 : ((Array.mk ents)[j]?.map (·.key)).getD vk = vk := by simpa using hkey
  rw [hk2,qbc hfit hkp]
  simp only [Result.andThen_ok,modify_eq_set q2,q0g g1]
 ·rename_i hf
  cases hr
  rcases q0n hk hfit hd hkp es ents 0 g2 hf with ⟨_,q1⟩ | ⟨j',x',born',e,h,_⟩
  rotate_left
  ·cases h
  refine ⟨_, ?_,q1y hi hnx hb (g2.push (k := k) (x := x) (born := clock) (e := { key := vk,val := vx,born := clock }) hkp hx rfl) hundef⟩
  simp only [run_findKey hk hd vk ents q1,Result.andThen_ok,q0g g1]
  simp
 ·cases hr
theorem z7k {t k0 e0 : TypeId} {ti tk te : TI} (ht : qd P t ti) (htd : ti.td = .map k0 e0) (hk : qd P k0 tk) (he : qd P e0 te) (hi : qa w H ι Im)
  {nx : Nat} {X : Nat → Prop} (hnx : Bd X H nx) {m k : AV} {vm vk : Value}
  (hm : RA w H ι Im m vm) (hkv : RA w H ι Im k vk) {r : AV} {ws : List (Nat × Blk)} (hr : uw tk te m k H = some (r,ws)) :
  ∃ u w',(Instr.mapEntry t vm vk).run P w = .ok u w' ∧ Did X w H ι Im nx (r,ws,nx) u w' := by
 obtain ⟨d,hd⟩ := hk.q2n
 unfold uw at hr
 split at hr
 rotate_left
 ·cases hr
 rename_i β k
 split at hr
 rotate_left
 ·cases hr
 rename_i hfit
 split at hr
 rotate_left
 ·cases hr
 rename_i es clock hb
 have hkp := hkv.zm
 cases hm
 obtain ⟨ents,g1,g2⟩ := hi.map hb
 have pair : ∀ (p : PV) (v : Value) (n : Nat),RP w Im p v → ∀ w' H' ι',qa w' H' ι' Im → Evo w H ι Im w' H' ι' Im →
   RA w' H' ι' Im (.tup [.pv p,.pv (.int .i64 n)]) (.tuple #[v,.int .i64 n]) := by
  intro p v n h w' H' ι' _ hev
  refine .tup _ [v,.int .i64 n] rfl fun i x u h1 h2 => ?_
  match i with
  | 0 => simp at h1 h2; subst h1 h2; exact .pv _ _ (h.mono hev.im fun b hb => hev.kept hi b hb)
  | 1 => simp at h1 h2; subst h1 h2; exact .pv _ _ (.int _ _)
  | i + 2 => simp at h1
 unfold Instr.mapEntry
 simp only [Sem.run_bind,qj (ht.map htd),Result.andThen_ok,q2s g1,run_checkKey hk hfit]
 split at hr
 ·rename_i j y born hf
  cases hr
  rcases q0n hk hfit hd hkp es ents 0 g2 hf with ⟨h,_⟩ | ⟨j',x',born',e,h,q1,q2,q3,q4,q5⟩
  ·cases h
  rw [Nat.zero_add] at h q1
  cases h
  have hkey : ((ents[j]?.map (·.key)).getD vk) = vk := by rw [q2]; simp [q5]
  refine ⟨.tuple #[e.val,.int .i64 born],_, ?_,q1y hi hnx hb (g2.set j (k := k) (x := y) (born := born) (e := { e with key := vk }) hkp q3 q4) (pair y e.val born q3)⟩
  simp only [run_findKey hk hd vk ents q1,Result.andThen_ok,Sem.run_bind]
  have hk2 : ((Array.mk ents)[j]?.map (·.key)).getD vk = vk := by simpa using hkey
  rw [hk2,qbc hfit hkp]
  simp only [Result.andThen_ok,modify_eq_set q2,q0g g1,Sem.run_pure]
  have hb2 : ((Array.mk ents)[j]?.map fun x => (x.born : Int)).getD 0 = born := by simp [q2,q4]
  rw [hb2]
  rfl
 ·rename_i hf
  cases hr
  rcases q0n hk hfit hd hkp es ents 0 g2 hf with ⟨_,q1⟩ | ⟨j',x',born',e,h,_⟩
  rotate_left
  ·cases h
  obtain ⟨z,hz1,hz2⟩ := qd9 (w := w) (Im := Im) he
  refine ⟨.tuple #[z,.int .i64 clock],_, ?_,q1y hi hnx hb (g2.push (k := k) (x := kg te) (born := clock) (e := { key := vk,val := z,born := clock }) hkp hz2 rfl) (pair _ z clock hz2)⟩
  simp only [run_findKey hk hd vk ents q1,Result.andThen_ok,hz1,q0g g1,Sem.run_bind,Sem.run_pure]
  simp [goInt]
 ·cases hr
theorem qbt {born : Int} : ∀ (es : List (PV × PV × Nat)) (ents : List MapEntry) (i : Nat),xn w Im es ents → ∀ {j : Nat} {k : PV} {b : Nat},q4n born es i = some (j,k,b) →
  ∃ m e,j = i + m ∧ ents.findIdx? (fun e => (e.born : Int) == born) = some m ∧ ents[m]? = some e ∧ RP w Im k e.key ∧ e.born = b
 | [],_,_,_,_,_,_,h => by cases h
 | (k',x,b') :: es,[],_,hE,_,_,_,_ => by have := hE.1; simp at this
 | (k',x,b') :: es,e :: ents,i,hE,j,k,b,h => by
  obtain ⟨g1,g2,g3⟩ := hE.2 0 k' x b' e (by simp) (by simp)
  unfold q4n at h
  split at h
  ·rename_i hb
   cases h
   refine ⟨0,e,rfl, ?_,rfl,g1,g3⟩
   rw [List.findIdx?_cons,g3,hb]
   simp
  ·rename_i hb
   obtain ⟨m,e',rfl,q1,q2,q3,q4⟩ := qbt es ents (i + 1) hE.tail h
   refine ⟨m + 1,e',by omega, ?_,by simpa using q2,q3,q4⟩
   have : ((e.born : Int) == born) = false := by rw [g3]; simpa using hb
   rw [List.findIdx?_cons,this,q1]
   simp
theorem qi6 (t : TypeId) (hi : qa w H ι Im) {nx : Nat} {X : Nat → Prop} (hnx : Bd X H nx) {m st : AV} {x : PV} {vm vs vx : Value}
  (hm : RA w H ι Im m vm) (hsv : RA w H ι Im st vs) (hx : RP w Im x vx) {ws : List (Nat × Blk)} (hr : yl m st x H = some ws) :
  ∃ w',(Instr.entryStore t vm vs vx).run P w = .ok () w' ∧ Did X w H ι Im nx (.tup [],ws,nx) undef w' := by
 have hundef : ∀ w' H' ι',qa w' H' ι' Im → Evo w H ι Im w' H' ι' Im → RA w' H' ι' Im (.tup []) undef := fun _ _ _ _ _ => .tup [] [] rfl (by simp)
 unfold yl at hr
 split at hr
 rotate_left
 ·cases hr
 rename_i β kd born
 split at hr
 rotate_left
 ·cases hr
 rename_i es clock hb
 split at hr <;> cases hr
 rename_i j k b hf
 have h := hsv.zm
 cases h
 cases hm
 obtain ⟨ents,g1,g2⟩ := hi.map hb
 obtain ⟨m,e,h0,q1,q2,q3,q4⟩ := qbt es ents 0 g2 hf
 rw [Nat.zero_add] at h0
 subst h0
 refine ⟨_, ?_,q1y hi hnx hb (g2.set j (k := k) (x := x) (born := b) (e := { e with val := vx }) q3 hx q4) hundef⟩
 unfold Instr.entryStore
 have hint : (asInt (.int kd born)).run P w = .ok born w := by simp [asInt,asIntOf]
 have hfi : (Array.mk ents).findIdx? (fun e => (e.born : Int) == born) = some j := by simpa using q1
 simp only [Sem.run_bind,q2s g1,Result.andThen_ok,hint,hfi,modify_eq_set q2,q0g g1]
theorem zfk {t k0 e0 : TypeId} {ti tk : TI} (ht : qd P t ti) (htd : ti.td = .map k0 e0) (hk : qd P k0 tk) (hi : qa w H ι Im)
  {nx : Nat} {X : Nat → Prop} (hnx : Bd X H nx) (tys : Array TypeId) (hty : tys[0]? = some t) (tt : TypeId) {m k : AV} {vm vk : Value}
  (hm : RA w H ι Im m vm) (hkv : RA w H ι Im k vk) {ws : List (Nat × Blk)} (hr : uk tk m k H = some ws) :
  ∃ w',(Builtin.delete_ tys tt #[vm,vk]).run P w = .ok undef w' ∧ Did X w H ι Im nx (.tup [],ws,nx) undef w' := by
 have hundef : ∀ w' H' ι',qa w' H' ι' Im → Evo w H ι Im w' H' ι' Im → RA w' H' ι' Im (.tup []) undef := fun _ _ _ _ _ => .tup [] [] rfl (by simp)
 obtain ⟨d,hd⟩ := hk.q2n
 unfold Builtin.delete_
 simp only [hty,List.getElem?_toArray,List.getElem?_cons_zero,List.getElem?_cons_succ,Sem.run_bind,qj (ht.map htd),Result.andThen_ok]
 unfold uk at hr
 split at hr
 ·rename_i k
  split at hr <;> cases hr
  rename_i hfit
  have h := hm.zm
  cases h
  refine ⟨w, ?_,Did.pure hi hnx (hundef _ _ _ hi (Evo.refl _ _ _ _))⟩
  simp only [Sem.run_bind,run_checkKey hk hfit,Result.andThen_ok,Sem.run_pure]
  rfl
 ·rename_i β k
  split at hr
  rotate_left
  ·cases hr
  rename_i hfit
  split at hr
  rotate_left
  ·cases hr
  rename_i es clock hb
  have hkp := hkv.zm
  cases hm
  obtain ⟨ents,g1,g2⟩ := hi.map hb
  simp only [Sem.run_bind,q2s g1,Result.andThen_ok,run_checkKey hk hfit]
  split at hr
  ·rename_i j y born hf
   cases hr
   rcases q0n hk hfit hd hkp es ents 0 g2 hf with ⟨h,_⟩ | ⟨j',x',born',e,h,q1,q2,q3,q4,q5⟩
   ·cases h
   rw [Nat.zero_add] at h q1
   cases h
   refine ⟨_, ?_,q1y hi hnx hb (g2.erase j) hundef⟩
   simp only [Sem.run_bind,run_findKey hk hd vk ents q1,Result.andThen_ok,q0g g1,Sem.run_pure]
   have : (Array.mk ents).eraseIdxIfInBounds j = ⟨ents.eraseIdx j⟩ := by
    obtain ⟨hlt,_⟩ := List.getElem?_eq_some_iff.1 q2
    simp [Array.eraseIdxIfInBounds,hlt]
   simp only [Sem.run_bind,this,q0g g1,Result.andThen_ok,Sem.run_pure]
   rfl
  ·rename_i hf
   cases hr
   rcases q0n hk hfit hd hkp es ents 0 g2 hf with ⟨_,q1⟩ | ⟨j',x',born',e,h,_⟩
   rotate_left
   ·cases h
   refine ⟨_, ?_,q1y hi hnx hb g2 hundef⟩
   simp only [Sem.run_bind,run_findKey hk hd vk ents q1,Result.andThen_ok,q0g g1,Sem.run_pure]
   rfl
  ·cases hr
 ·cases hr
theorem z8f (t : TypeId) (hi : qa w H ι Im) {nx : Nat} {X : Nat → Prop} (hnx : Bd X H nx) (hX : ¬ X nx) :
  ∃ u w',(Instr.makeMap t none).run P w = .ok u w' ∧ Did X w H ι Im nx (.map nx,[(nx,.map [] 0)],nx + 1) u w' := by
 refine ⟨.map (some w.heap.size), { w with heap := w.heap.push (.map #[] 0) },by simp [Instr.makeMap], ?_⟩
 obtain ⟨ι',h0,h1,h2⟩ := qa.new hi hnx hX { w with heap := w.heap.push (.map #[] 0) } (.map [] 0) (.map #[] 0) 0 rfl ⟨rfl,rfl⟩ (fun ι' hp he => by
  exact ⟨[],by simp [hp],rfl,by simp⟩)
 refine ⟨ι',h1,h2, ?_,by simp,je hnx (by simp) (.inl (by simp))⟩
 have hg : (qf [(nx,Blk.map [] 0)] H).get nx = some (.map [] 0) := by simp [qf,Heap.get_put]
 have := RA.map (w := { w with heap := w.heap.push (.map #[] 0) }) (ι := ι') (Im := Im) nx [] 0 hg
 rw [h0] at this
 exact this
end
end Go.Gm
namespace Go.Gm
open Go
section
variable {P : Program} {w : World} {H : Heap} {ι : Plc} {Im : Nat → Prop}
def xk (P : Program) (G : GP) : Prop := ∀ t ti,G.ti t = some ti → qd P t ti
def qo (X : Nat → Prop) (r : Result Next) (w : World) (H : Heap) (ι : Plc) (Im : Nat → Prop) (nx : Nat) (e : Eff) : Prop :=
 ∃ u w',(r = .ok (.value u) w' ∨ (r = .ok .skip w' ∧ u = undef)) ∧ Did X w H ι Im nx e u w'
theorem qo.val {X : Nat → Prop} {s : Sem Value} {u : Value} {w' : World} {nx : Nat} {e : Eff} (h : s.run P w = .ok u w') (hd : Did X w H ι Im nx e u w') :
  qo X ((do pure (.value (← s)) : Sem Next).run P w) w H ι Im nx e :=
 ⟨u,w',.inl (by simp [h]),hd⟩
theorem qo.skip {X : Nat → Prop} {s : Sem Unit} {w' : World} {nx : Nat} {e : Eff} (h : s.run P w = .ok () w') (hd : Did X w H ι Im nx e undef w') :
  qo X ((do s; pure .skip : Sem Next).run P w) w H ι Im nx e :=
 ⟨undef,w',.inr ⟨by simp [h],rfl⟩,hd⟩
theorem qo.now {X : Nat → Prop} {u : Value} {nx : Nat} {e : Eff} (hd : Did X w H ι Im nx e u w) : qo X ((pure (.value u) : Sem Next).run P w) w H ι Im nx e :=
 ⟨u,w,.inl rfl,hd⟩
def q57 : Op → Bool
 | .call { callee := .value _,.. } => true
 | .box _ _ => true
 | _ => false
theorem Did.puts {β : Nat} {b b' : Blk} {nx : Nat} {X : Nat → Prop} (hnx : Bd X H nx) (hb : H.get β = some b) {w' : World} {ι' : Plc} (h1 : qa w' (qf [(β,b')] H) ι' Im)
  (h2 : Evo w H ι Im w' (qf [(β,b')] H) ι' Im) : Did X w H ι Im nx (.tup [],[(β,b')],nx) undef w' :=
 ⟨ι',h1,h2,.tup [] [] rfl (by simp),Nat.le_refl _,je hnx (Nat.le_refl _) (hnx β _ hb)⟩
theorem q74 {G : GP} {t : TypeId} {tk te : TI} (h : q0v G t = some (tk,te)) : ∃ ti k e,G.ti t = some ti ∧ ti.td = .map k e ∧ G.ti k = some tk ∧ G.ti e = some te := by
 unfold q0v at h
 split at h
 rotate_left
 ·cases h
 rename_i ti hti
 split at h
 rotate_left
 ·cases h
 rename_i k e htd
 split at h <;> cases h
 rename_i hk he
 exact ⟨ti,k,e,hti,htd,hk,he⟩
theorem qea {a : Act} {E : Env} (hE : ∀ t,RA w H ι Im (E.get t) (a.tmps.getD t undef)) : ∀ (l : List Operand) (i : Nat) z v,(l.map (ev E))[i]? = some z → (l.map a.eval)[i]? = some v → RA w H ι Im z v := by
 intro l i z v h1 h2
 simp only [List.getElem?_map,Option.map_eq_some_iff] at h1 h2
 obtain ⟨o1,q1,rfl⟩ := h1
 obtain ⟨o2,q2,rfl⟩ := h2
 rw [q1] at q2
 cases q2
 exact uj hE o1
theorem qcn {isMax : Bool} {l : List AV} {vs : List Value} (hl : l.length = vs.length) (hR : ∀ (i : Nat) x v,l[i]? = some x → vs[i]? = some v → RA w H ι Im x v)
  {p : PV} (h : q58 isMax l = some p) (tys : Array TypeId) (tt : TypeId) :
  ∃ u,(if isMax then Builtin.max_ tys tt ⟨vs⟩ else Builtin.min_ tys tt ⟨vs⟩).run P w = .ok u w ∧ RP w Im p u := by
 unfold q58 at h
 split at h
 rotate_left
 ·rename_i a b
  split at h <;> cases h
  rename_i hm
  obtain ⟨v,u,rfl⟩ : ∃ v u,vs = [v,u] := by
   match vs,hl with
   | [v,u],_ => exact ⟨v,u,rfl⟩
  have hx := (hR 0 (.pv (.str a)) v (by simp) (by simp)).zm
  have hy := (hR 1 (.pv (.str b)) u (by simp) (by simp)).zm
  cases hx
  cases hy
  refine ⟨.string ⟨⟨if jk a b = true then b else a⟩⟩, ?_,.str _⟩
  rw [if_pos hm]
  cases hc : jk a b <;> simp [Builtin.max_,Builtin.max2,Op.stringOp,asBool,bytesLess_eq,hc]
 ·cases h
 rename_i k a r
 cases vs with
 | nil => simp at hl
 | cons v vr =>
  have hx := (hR 0 (.pv (.int k a)) v (by simp) (by simp)).zm
  cases hx
  obtain ⟨u,g1,g2⟩ := qdz (P := P) isMax k r a vr (by simpa using hl) (fun i x v h1 h2 => hR (i + 1) x v (by simpa using h1) (by simpa using h2)) h
  refine ⟨u, ?_,g2⟩
  cases isMax
  ·exact g1
  ·exact g1
theorem z98 {G : GP} (hG : xk P G) (hi : qa w H ι Im) {nx : Nat} {X : Nat → Prop} (hnx : Bd X H nx) (b : Builtin) (tys : Array TypeId) (tt : TypeId) (consts : Array Bool)
  {l : List AV} {vs : List Value} (hl : l.length = vs.length) (hR : ∀ (i : Nat) x v,l[i]? = some x → vs[i]? = some v → RA w H ι Im x v) {e : Eff} (hr : p9 G b tys.toList l H nx = some e) (hX : ∀ γ,X γ → e.2.2 ≤ γ) :
  qo X ((builtin b tys tt consts ⟨vs⟩).run P w) w H ι Im nx e := by
 unfold p9 at hr
 unfold builtin
 split at hr
 ·rename_i t r x hty
  split at hr
  rotate_left
  ·cases hr
  rename_i ti hti
  split at hr
  rotate_left
  ·cases hr
  rename_i htd
  split at hr <;> cases hr
  rename_i n hn
  match vs,hl with
  | [v],_ =>
   have h1 := qn2 (hG _ _ hti) hi (hR 0 x v (by simp) (by simp)) tt htd hn
   refine qo.val (s := Builtin.len_ tys tt #[v]) (u := .int .i64 n) (w' := w) ?_ (Did.pure hi hnx (.pv _ _ (.int _ _)))
   have h0 : tys[0]? = some t := by rw [← Array.getElem?_toList,hty]; rfl
   unfold Builtin.len_ at h1 ⊢
   simp only [List.getElem?_toArray,List.getElem?_cons_zero,h0] at h1 ⊢
   exact h1
 ·split at hr <;> cases hr
  rename_i p hp
  obtain ⟨u,h1,h2⟩ := qcn (P := P) hl hR hp tys tt
  exact qo.val (s := Builtin.max_ tys tt ⟨vs⟩) h1 (Did.pure hi hnx (.pv _ _ h2))
 ·split at hr <;> cases hr
  rename_i p hp
  obtain ⟨u,h1,h2⟩ := qcn (P := P) hl hR hp tys tt
  exact qo.val (s := Builtin.min_ tys tt ⟨vs⟩) h1 (Did.pure hi hnx (.pv _ _ h2))
 ·rename_i ts tx r s x hty
  match vs,hl with
  | [vs,vx],_ =>
   have key : ∀ {e te tix ti},G.ti ts = some ti → ti.td = .slice e → G.ti e = some te → G.ti tx = some tix → ((∃ e',tix.td = .slice e') ∨ tix.td = .string) → ∀ {ef},jd te s x H nx = some ef → (∀ γ,X γ → ef.2.2 ≤ γ) →
     qo X ((do pure (.value (← Builtin.append_ tys tt #[vs,vx])) : Sem Next).run P w) w H ι Im nx ef := by
    intro e te tix ti h1 h2 h3 h4 h5 ef h6 hX
    obtain ⟨u,w',g1,g2⟩ := qth (hG _ _ h1) h2 (hG _ _ h3) (hG _ _ h4) h5 tt hi hnx (hR 0 s vs (by simp) (by simp)) (hR 1 x vx (by simp) (by simp)) h6 hX
    refine qo.val (u := u) (w' := w') ?_ g2
    have q0 : tys[0]? = some ts := by rw [← Array.getElem?_toList,hty]; rfl
    have q1 : tys[1]? = some tx := by rw [← Array.getElem?_toList,hty]; rfl
    unfold Builtin.append_ at g1 ⊢
    simp only [List.getElem?_toArray,List.getElem?_cons_zero,List.getElem?_cons_succ,q0,q1] at g1 ⊢
    exact g1
   split at hr
   rotate_left
   ·cases hr
   rename_i ti tix h1 h2
   split at hr
   ·rename_i e e' h3 h4
    split at hr
    rotate_left
    ·cases hr
    rename_i te h5
    exact key h1 h3 h5 h2 (.inl ⟨_,h4⟩) hr hX
   ·rename_i e h3 h4
    split at hr
    rotate_left
    ·cases hr
    rename_i te h5
    exact key h1 h3 h5 h2 (.inr h4) hr hX
   ·cases hr
 ·rename_i ts r s x hty
  match vs,hl with
  | [vs,vx],_ =>
   split at hr
   rotate_left
   ·cases hr
   rename_i ti h1
   split at hr
   rotate_left
   ·cases hr
   rename_i e0 h2
   split at hr
   rotate_left
   ·cases hr
   rename_i te h3
   have q0 : tys[0]? = some ts := by rw [← Array.getElem?_toList,hty]; rfl
   obtain ⟨u,w',g1,g2⟩ := qii (hG _ _ h1) h2 (hG _ _ h3) q0 tt hi hnx (hR 0 s vs (by simp) (by simp)) (hR 1 x vx (by simp) (by simp)) hr
   exact qo.val (s := Builtin.copy_ tys tt #[vs,vx]) g1 g2
 ·rename_i tm r m k hty
  match vs,hl with
  | [vm,vk],_ =>
   split at hr
   rotate_left
   ·cases hr
   rename_i ti h1
   split at hr
   rotate_left
   ·cases hr
   rename_i k0 e0 h2
   split at hr
   rotate_left
   ·cases hr
   rename_i tk h3
   split at hr <;> cases hr
   rename_i ws hws
   have q0 : tys[0]? = some tm := by rw [← Array.getElem?_toList,hty]; rfl
   obtain ⟨w',g1,g2⟩ := zfk (hG _ _ h1) h2 (hG _ _ h3) hi hnx tys q0 tt (hR 0 m vm (by simp) (by simp)) (hR 1 k vk (by simp) (by simp)) hws
   exact qo.val (s := Builtin.delete_ tys tt #[vm,vk]) g1 g2
 ·cases hr
theorem zbk {G : GP} (hG : xk P G) (hi : qa w H ι Im) {nx : Nat} {X : Nat → Prop} (hnx : Bd X H nx)
  {a : Act} {E : Env} (hE : ∀ t,RA w H ι Im (E.get t) (a.tmps.getD t undef)) (O : ql) (o : Oper) (hcall : q57 o.op = false) {e : Eff} (hr : aop G O o.op E H nx = some e) (hX : ∀ γ,X γ → e.2.2 ≤ γ) :
  qo X ((execOp a.eval o).run P w) w H ι Im nx e := by
 have hev := fun x => uj hE x
 unfold execOp
 generalize o.type = otype
 generalize o.op = op at hr hcall
 unfold aop at hr
 split at hr
 case h_1 x => cases hr; exact qo.now (Did.pure hi hnx (hev x))
 case h_2 x => cases hr; exact qo.now (Did.pure hi hnx (hev x))
 case h_3 c x y =>
  split at hr <;> cases hr
  rename_i t hc
  have h := hev c
  rw [hc] at h
  have h := h.zm
  generalize hv : a.eval c = vc at h
  cases h
  refine ⟨if t then a.eval x else a.eval y,w,.inl (by simp [hv,asBool]),Did.pure hi hnx ?_⟩
  cases t
  ·exact hev y
  ·exact hev x
 case h_4 t =>
  split at hr <;> cases hr
  rename_i ti hti
  obtain ⟨u,w',h1,h2⟩ := zei (hG _ _ hti) hi hnx (mi hX)
  exact qo.val h1 h2
 case h_5 t x => simp [q57] at hcall
 case h_6 t parts =>
  split at hr
  rotate_left
  ·cases hr
  rename_i ti hti
  unfold xe at hr
  split at hr <;> cases hr
  rename_i v hv
  obtain ⟨u,h1,h2⟩ := zfl hG (hG _ _ hti) hE parts hv
  exact qo.val h1 (Did.pure hi hnx h2)
 case h_7 t len parts =>
  split at hr
  rotate_left
  ·cases hr
  rename_i ti hti
  split at hr
  rotate_left
  ·cases hr
  rename_i el htd
  split at hr
  rotate_left
  ·cases hr
  rename_i te hte
  split at hr
  rotate_left
  ·cases hr
  rename_i hc
  split at hr
  ·split at hr <;> cases hr
   rename_i es hes
   obtain ⟨u,w',h1,h2⟩ := qyx hG (hG _ _ hti) htd hte hi hnx (mi hX) hE len parts hc.1 hc.2 hes
   exact qo.val h1 h2
  ·split at hr <;> cases hr
   rename_i es hes
   obtain ⟨u,w',h1,h2⟩ := zfz hG (hG _ _ hti) htd hte hi hnx (mi hX) hE len parts hc.1 hc.2 hes
   exact qo.val h1 h2
 case h_8 t x =>
  split at hr
  rotate_left
  ·cases hr
  rename_i ti hti
  unfold xe at hr
  split at hr <;> cases hr
  rename_i v hv
  obtain ⟨u,h1,h2⟩ := qdl (hG _ _ hti) hi (hev x) hv
  exact qo.val h1 (Did.pure hi hnx h2)
 case h_9 t x y =>
  split at hr
  rotate_left
  ·cases hr
  rename_i ti hti
  unfold kv at hr
  split at hr <;> cases hr
  rename_i ws hws
  obtain ⟨w',ι',h1,h2,h3,β,b,b',rfl,hb⟩ := qpt (hG _ _ hti) hi (hev x) (hev y) hws
  exact qo.skip h1 (Did.puts hnx hb h2 h3)
 case h_10 x =>
  split at hr <;> cases hr
  all_goals
   rename_i hx
   have h := hev x
   rw [hx] at h
   generalize hv : a.eval x = vx at h
   refine ⟨vx,w,.inl ?_,Did.pure hi hnx h⟩
  ·cases h; simp [hv]
  ·cases h; simp [hv]
  ·have h := h.zm; cases h; simp [hv]
  ·cases h; simp [hv]
  ·have h := h.zm; cases h; simp [hv]
  ·cases h; simp [hv]
 case h_11 op t x y yt =>
  split at hr
  rotate_left
  ·cases hr
  rename_i ti hti
  unfold q0j at hr
  split at hr <;> cases hr
  rename_i p hp
  obtain ⟨u,h1,h2,h3⟩ := qff hG (hG _ _ hti) hi (hev x) (hev y) op x y hp
  exact qo.val (s := do eqGuard op t x y (a.eval x) (a.eval y); binOp op t (a.eval x) (a.eval y)) (by simp [h1,h2]) (Did.pure hi hnx (.pv _ _ h3))
 case h_12 op t x =>
  unfold q0j at hr
  split at hr <;> cases hr
  rename_i p hp
  obtain ⟨u,h1,h2⟩ := zbl (P := P) (hev x) hp
  exact qo.val h1 (Did.pure hi hnx (.pv _ _ h2))
 case h_13 s d x =>
  split at hr
  rotate_left
  ·cases hr
  rename_i ts td hts htd
  obtain ⟨u,w',h1,h2⟩ := zf8 hG (hG _ _ hts) (hG _ _ htd) hi hnx (hev x) hr hX
  exact qo.val h1 h2
 case h_14 f x y =>
  cases hr
  refine qo.val (s := Instr.makeFunc (.func f) (x.map a.eval) (y.map a.eval)) (w' := w) rfl (Did.pure hi hnx ?_)
  have listR : ∀ (l : List Operand) (i : Nat) z v,(l.map (ev E))[i]? = some z → (l.map a.eval)[i]? = some v → RA w H ι Im z v := by
   intro l i z v h1 h2
   simp only [List.getElem?_map,Option.map_eq_some_iff] at h1 h2
   obtain ⟨o1,q1,rfl⟩ := h1
   obtain ⟨o2,q2,rfl⟩ := h2
   rw [q1] at q2
   cases q2
   exact hev o1
  have hx : x.map a.eval = ⟨x.toList.map a.eval⟩ := by apply Array.ext'; simp
  have hy : y.map a.eval = ⟨y.toList.map a.eval⟩ := by apply Array.ext'; simp
  rw [hx,hy]
  split
  ·rename_i h1 h2
   rw [h1,h2]
   exact .pv _ _ (.fn f)
  ·exact .clo f _ _ _ _ (by simp) (by simp) (listR _) (listR _)
 case h_15 t =>
  cases hr
  obtain ⟨u,w',h1,h2⟩ := z8f (P := P) t hi hnx (mi hX)
  exact qo.val h1 h2
 case h_16 t x lo hi' mx =>
  split at hr
  rotate_left
  ·cases hr
  rename_i ti hti
  unfold xe at hr
  split at hr <;> cases hr
  rename_i v hv
  obtain ⟨u,h1,h2⟩ := zft hG (hG _ _ hti) hi hE (hev x) lo hi' mx hv
  exact qo.val h1 (Did.pure hi hnx h2)
 case h_17 t x f =>
  split at hr
  rotate_left
  ·cases hr
  rename_i ti hti
  unfold xe at hr
  split at hr <;> cases hr
  rename_i v hv
  obtain ⟨u,h1,h2⟩ := qhc (hG _ _ hti) (hev x) hv
  exact qo.val h1 (Did.pure hi hnx h2)
 case h_18 t x f =>
  split at hr
  rotate_left
  ·cases hr
  rename_i ti hti
  split at hr
  rotate_left
  ·cases hr
  rename_i fs htd
  split at hr
  rotate_left
  ·cases hr
  rename_i off sz tf hf
  split at hr
  rotate_left
  ·cases hr
  rename_i tif htif
  unfold xe at hr
  split at hr <;> cases hr
  rename_i v hv
  obtain ⟨fields,hu,rfl⟩ := (hG _ _ hti).struct htd
  simp only [List.getElem?_map,Option.map_eq_some_iff] at hf
  obtain ⟨fd,hf,hfe⟩ := hf
  simp only [Prod.mk.injEq] at hfe
  obtain ⟨rfl,rfl,rfl⟩ := hfe
  have hfa : fields[f]? = some fd := by rw [← hf]; simp
  obtain ⟨cs,u,h0,h1,h2⟩ := qa4 (hG _ _ htif) (hev x) hv
  refine qo.val (s := Instr.field t (a.eval x) f) (u := u) (w' := w) ?_ (Did.pure hi hnx h2)
  unfold Instr.field
  simp only [Sem.run_bind,qj hu,Result.andThen_ok,hfa,h0,asAgg,Sem.run_pure,h1]
 case h_19 t x i =>
  split at hr
  rotate_left
  ·cases hr
  rename_i ti hti
  unfold xe at hr
  split at hr <;> cases hr
  rename_i v hv
  obtain ⟨u,h1,h2⟩ := quy hG (hG _ _ hti) hi (hev x) (hev i) hv
  exact qo.val h1 (Did.pure hi hnx h2)
 case h_20 t x i =>
  split at hr
  rotate_left
  ·cases hr
  rename_i ti hti
  split at hr
  ·rename_i s k htd hx hk
   split at hr <;> cases hr
   rename_i b hb
   obtain ⟨kd,hk'⟩ := q5n (hev i) hk
   have h := hev x
   rw [hx] at h
   have h := h.zm
   generalize hv : a.eval x = vx at h
   cases h
   refine qo.val (s := Instr.index t (a.eval x) (a.eval i)) (u := .int .u8 b.toNat) (w' := w) ?_ (Did.pure hi hnx (.pv _ _ (.int _ _)))
   have hbb : (ByteArray.mk ⟨s⟩)[k]? = some b := by
    obtain ⟨hlt,he⟩ := List.getElem?_eq_some_iff.1 hb
    have : k < (ByteArray.mk ⟨s⟩).size := hlt
    rw [getElem?_pos (ByteArray.mk ⟨s⟩) k this]
    exact congrArg some he
   unfold Instr.index
   simp [hv,hk',asIntOf,qj ((hG _ _ hti).string htd),hbb]
  ·rename_i len el k htd hk
   split at hr
   rotate_left
   ·cases hr
   rename_i hkl
   split at hr
   rotate_left
   ·cases hr
   rename_i te hte
   unfold xe at hr
   split at hr <;> cases hr
   rename_i r hrr
   obtain ⟨kd,hk'⟩ := q5n (hev i) hk
   obtain ⟨cs,u,h0,h1,h2⟩ := qa4 (hG _ _ hte) (hev x) hrr
   refine qo.val (s := Instr.index t (a.eval x) (a.eval i)) (u := u) (w' := w) ?_ (Did.pure hi hnx h2)
   unfold Instr.index
   simp [hk',asIntOf,qj ((hG _ _ hti).array htd),hkl,(hG _ _ hte).size,h0,h1]
  ·cases hr
 case h_21 t m k ok =>
  split at hr
  rotate_left
  ·cases hr
  rename_i tk te hmt
  unfold xe at hr
  split at hr <;> cases hr
  rename_i v hv
  obtain ⟨ti,k0,e0,q1,q2,q3,q4⟩ := q74 hmt
  obtain ⟨u,h1,h2⟩ := qok (hG _ _ q1) q2 (hG _ _ q3) (hG _ _ q4) hi (hev m) (hev k) hv
  exact qo.val h1 (Did.pure hi hnx h2)
 case h_22 t m k x =>
  split at hr
  rotate_left
  ·cases hr
  rename_i tk te p hmt hp
  split at hr
  rotate_left
  ·cases hr
  unfold kv at hr
  split at hr <;> cases hr
  rename_i ws hws
  obtain ⟨ti,k0,e0,q1,q2,q3,q4⟩ := q74 hmt
  obtain ⟨w',h1,h2⟩ := qbu (hG _ _ q1) q2 (hG _ _ q3) hi hnx (hev m) (hev k) (q7b (hev x) hp) hws
  exact qo.skip h1 h2
 case h_23 t m k x =>
  split at hr
  rotate_left
  ·cases hr
  rename_i tk te p hmt hp
  split at hr
  rotate_left
  ·cases hr
  unfold kv at hr
  split at hr <;> cases hr
  rename_i ws hws
  obtain ⟨ti,k0,e0,q1,q2,q3,q4⟩ := q74 hmt
  obtain ⟨w',h1,h2⟩ := qbu (hG _ _ q1) q2 (hG _ _ q3) hi hnx (hev m) (hev k) (q7b (hev x) hp) hws
  exact qo.skip h1 h2
 case h_24 t m k =>
  split at hr
  rotate_left
  ·cases hr
  rename_i tk te hmt
  split at hr <;> cases hr
  rename_i v ws hws
  obtain ⟨ti,k0,e0,q1,q2,q3,q4⟩ := q74 hmt
  obtain ⟨u,w',h1,h2⟩ := z7k (hG _ _ q1) q2 (hG _ _ q3) (hG _ _ q4) hi hnx (hev m) (hev k) hws
  exact qo.val h1 h2
 case h_25 t m st x =>
  split at hr
  rotate_left
  ·cases hr
  rename_i p hp
  unfold kv at hr
  split at hr <;> cases hr
  rename_i ws hws
  obtain ⟨w',h1,h2⟩ := qi6 (P := P) t hi hnx (hev m) (hev st) (q7b (hev x) hp) hws
  exact qo.skip h1 h2
 case h_26 x i =>
  split at hr
  rotate_left
  ·cases hr
  rename_i l hl
  split at hr <;> cases hr
  rename_i v hv
  have h := hev x
  rw [hl] at h
  generalize hvx : a.eval x = vx at h
  cases h with
  | tup _ vs hlen hR =>
   obtain ⟨u,hu⟩ : ∃ u,vs[i]? = some u := ⟨vs[i]'(by rw [← hlen]; exact (List.getElem?_eq_some_iff.1 hv).1),by simp⟩
   refine ⟨u,w,.inl ?_,Did.pure hi hnx (hR i v u hv hu)⟩
   have : (⟨vs⟩ : Array Value)[i]? = some u := by simpa using hu
   simp [hvx,Instr.extract,this]
 case h_27 b args tys =>
  have hrun : (do let d ← resolve a.eval { callee := .builtin b,args := args,argTypes := tys } otype; invoke d.target d.args : Sem Next).run P w =
    (builtin b tys otype (args.map fun | .const _ => true | _ => false) ⟨args.toList.map a.eval⟩).run P w := by
   have : args.map a.eval = ⟨args.toList.map a.eval⟩ := by apply Array.ext'; simp
   simp only [resolve,Sem.run_bind,Sem.run_pure,Result.andThen_ok,invoke,this]
   rfl
  show qo X ((do let d ← resolve a.eval { callee := .builtin b,args := args,argTypes := tys } otype; invoke d.target d.args : Sem Next).run P w) w H ι Im nx e
  rw [hrun]
  exact z98 hG hi hnx b tys otype _ (by simp) (qea hE args.toList) hr hX
 case h_28 => simp [q57] at hcall
 case h_29 t x y =>
  split at hr
  rotate_left
  ·cases hr
  rename_i ti hti
  have hX' : ∀ γ,X γ → nx + 1 ≤ γ := by
   unfold q31 at hr
   split at hr
   rotate_left
   ·cases hr
   split at hr
   rotate_left
   ·cases hr
   split at hr <;> cases hr
   exact hX
  obtain ⟨u,w',h1,h2⟩ := qwo hG (hG _ _ hti) hi hnx hX' (hev x) (hev y) hr
  exact qo.val h1 h2
 case h_30 => cases hr
end
end Go.Gm
namespace Go.Gm
open Go
section
variable {P : Program} {w : World} {H : Heap} {ι : Plc} {Im : Nat → Prop}
theorem q4y (β : Nat) (isnil : Bool) (sz : Nat) (es : List (List PV)) : ∀ (l : List AV) (i : Nat),(AV.thaw.thawL β isnil sz es l)[i]? = (l[i]?).map (AV.thaw β isnil sz es)
 | [],i => by simp [AV.thaw.thawL]
 | x :: r,i => by
  cases i with
  | zero => simp [AV.thaw.thawL]
  | succ i => simp [AV.thaw.thawL,q4y β isnil sz es r i]
theorem q62 (β : Nat) (isnil : Bool) (sz : Nat) (es : List (List PV)) : ∀ (l : List AV),(AV.thaw.thawL β isnil sz es l).length = l.length
 | [] => rfl
 | x :: r => by simp [AV.thaw.thawL,q62 β isnil sz es r]
theorem qmf (β : Nat) (isnil : Bool) (sz : Nat) (es : List (List PV)) {x : AV} (h : x.flat = true) : (x.thaw β isnil sz es).flat = true := by
 cases x <;> simp [AV.flat] at h <;> simp only [AV.thaw]
 ·exact h
 ·rfl
 ·rfl
 ·rfl
 ·split <;> rfl
 ·rfl
 ·rfl
 ·rfl
theorem q9l (β : Nat) (isnil : Bool) (sz : Nat) (es : List (List PV)) {l : List AV} (h : ∀ x ∈ l,x.flat = true) : ∀ x ∈ AV.thaw.thawL β isnil sz es l,x.flat = true := by
 intro x hx
 obtain ⟨i,hi⟩ := List.getElem?_of_mem hx
 rw [q4y] at hi
 simp only [Option.map_eq_some_iff] at hi
 obtain ⟨y,hy,rfl⟩ := hi
 exact qmf β isnil sz es (h y (List.mem_of_getElem? hy))
theorem qch (β : Nat) (isnil : Bool) (sz : Nat) (es : List (List PV)) : ∀ (H : Heap) (γ : Nat),
  Heap.get (H.map fun (i,b) => (i,b.thaw β isnil sz es)) γ = (H.get γ).map (Blk.thaw β isnil sz es)
 | [],γ => rfl
 | (i,b) :: r,γ => by
  simp only [List.map_cons,Heap.get]
  split
  ·rfl
  ·exact qch β isnil sz es r γ
theorem Blk.q9r (β : Nat) (isnil : Bool) (sz : Nat) (es : List (List PV)) (b : Blk) : (b.thaw β isnil sz es).used = b.used := by
 cases b <;> rfl
def nk (β : Nat) (isnil : Bool) (sz : Nat) (es : List (List PV)) (H : Heap) : Heap := Heap.put (H.map fun (i,b) => (i,b.thaw β isnil sz es)) β .dead
theorem jl (β : Nat) (isnil : Bool) (sz : Nat) (es : List (List PV)) (H : Heap) (γ : Nat) :
  (nk β isnil sz es H).get γ = if γ = β then some .dead else (H.get γ).map (Blk.thaw β isnil sz es) := by
 unfold nk
 rw [Heap.get_put,qch]
def yx (ι : Plc) (β : Nat) (isnil : Bool) (Im : Nat → Prop) : Nat → Prop := fun b => Im b ∨ (isnil = false ∧ b = (ι β).b)
theorem qpj (hi : qa w H ι Im) {β : Nat} {isnil : Bool} {sz : Nat} {es : List (List PV)} (hb : H.get β = some (.row isnil sz es)) {off n : Nat} {v : Value}
  (h1 : off + n ≤ es.length) (h2 : if isnil = true then v = .slice none 0 0 else ∃ a,v = .slice (some a) n ((ι β).cap - off) ∧ a.spot = none ∧ a.block = (ι β).b ∧ (off < (ι β).cap → a.off = off * sz)) :
  RP w (yx ι β isnil Im) (q30 isnil sz ((es.drop off).take n)) v := by
 refine RP.mk ?_
 cases isnil
 ·simp only [Bool.false_eq_true,if_false] at h2
  obtain ⟨a,rfl,ha1,ha2,ha3⟩ := h2
  obtain ⟨ab,ao,asp⟩ := a
  simp only at ha1 ha2 ha3
  subst ha1 ha2
  obtain ⟨vs,elem,fz,g1,g2,g3,g4,g5,g6,g7,g8⟩ := hi.row hb
  have hlen : ((es.drop off).take n).length = n := by simp; omega
  have hget : ∀ (i : Nat) e,((es.drop off).take n)[i]? = some e → i < n ∧ es[off + i]? = some e := by
   intro i e hie
   have := (List.getElem?_eq_some_iff.1 hie).1
   have hin : i < n := by omega
   rw [List.getElem?_take_of_lt hin,List.getElem?_drop] at hie
   exact ⟨hin,hie⟩
  have hm : ∀ b,Im b → yx ι β false Im b := fun b h => .inl h
  have key := RP.sl (w := w) (Im := yx ι β false Im) sz ((es.drop off).take n) (ι β).b ao ((ι β).cap - off) (fun i => (vs[off * sz + i]?).getD undef)
   (fun _ => .inr ⟨rfl,rfl⟩) (by omega) (fun e he => g6 e (List.mem_of_mem_drop (List.mem_of_mem_take he))) (fun i hlt => by
    rw [hlen] at hlt
    have hn : 0 < n := by
     rcases Nat.eq_zero_or_pos n with h | h
     ·subst h; simp at hlt
     ·exact h
    have := ha3 (by omega)
    subst this
    rw [q29 g1]
    have e1 : (off + n) * sz ≤ (ι β).cap * sz := Nat.mul_le_mul_right _ (by omega)
    rw [Nat.add_mul] at e1
    have : off * sz + i < vs.size := by omega
    simp [this])
   (fun i e j p q1 q2 => g7 _ e j p (hget i e q1).2 q2) (fun i e j p q1 q2 => by
    obtain ⟨_,hie⟩ := hget i e q1
    obtain ⟨v,k1,k2⟩ := g8 _ e j p hie q2
    have e1 : off * sz + (i * sz + j) = (off + i) * sz + j := by rw [Nat.add_mul]; omega
    simp only [e1,k1,Option.getD_some]
    exact k2.mono hm fun _ _ => rfl) none (fun _ => rfl)
  rw [hlen] at key
  exact key
 ·simp only [if_true] at h2
  subst h2
  have hes : es = [] := hi.blk β _ hb
  subst hes
  have : (([] : List (List PV)).drop off).take n = [] := by simp
  rw [this]
  exact .nilsl sz
theorem q4i (β : Nat) (isnil : Bool) (sz : Nat) (es : List (List PV)) (b : Blk) : (b.thaw β isnil sz es).sh = b.sh := by
 cases b <;> simp [Blk.thaw,Blk.sh]
theorem q8h (hi : qa w H ι Im) {β : Nat} {isnil : Bool} {sz : Nat} {es : List (List PV)} (hb : H.get β = some (.row isnil sz es)) {x : AV} {v : Value} (hx : RA w H ι Im x v) :
  RA w (nk β isnil sz es H) ι (yx ι β isnil Im) (x.thaw β isnil sz es) v := by
 have hm : ∀ b,Im b → yx ι β isnil Im b := fun b h => .inl h
 have hw : ∀ b,Im b → w.heap[b]? = w.heap[b]? := fun _ _ => rfl
 have rowStay : ∀ (β' ver off n : Nat) (v : Value) (b : Blk),zt v = true → H.get β' = some b → (b ≠ .dead → ∃ isnil sz l,b.sh = some (isnil,sz,l)) → (∀ isnil sz l,b.sh = some (isnil,sz,l) → ver ≤ l) →
   (∀ isnil sz l,b.sh = some (isnil,sz,l) → ver = l → off + n ≤ l ∧
    if isnil = true then v = .slice none 0 0
    else ∃ a,v = .slice (some a) n ((ι β').cap - off) ∧ a.spot = none ∧ a.block = (ι β').b ∧ (off < (ι β').cap → a.off = off * sz)) →
   RA w (nk β isnil sz es H) ι (yx ι β isnil Im) (.row β' ver off n) v := by
  intro β' ver off n v b ho hb' hk hv h
  by_cases he : β' = β
  ·subst he
   exact .row β' ver off n v .dead ho (by simp [jl]) (fun h => absurd rfl h) (fun _ _ _ e => by cases e) (fun _ _ _ e => by cases e)
  ·refine .row β' ver off n v (b.thaw β isnil sz es) ho (by simp [jl,he,hb']) (fun h => ?_) (fun isnil' sz' es' e => ?_) (fun isnil' sz' es' e => ?_)
   ·rw [q4i]
    exact hk (fun e => h (by rw [e]; rfl))
   ·rw [q4i] at e
    exact hv _ _ _ e
   ·rw [q4i] at e
    exact h _ _ _ e
 have tL : ∀ (c : List AV) (vs : List Value),c.length = vs.length → (∀ (i : Nat) x v,c[i]? = some x → vs[i]? = some v → RA w (nk β isnil sz es H) ι (yx ι β isnil Im) (x.thaw β isnil sz es) v) →
   (AV.thaw.thawL β isnil sz es c).length = vs.length ∧ ∀ (i : Nat) x v,(AV.thaw.thawL β isnil sz es c)[i]? = some x → vs[i]? = some v → RA w (nk β isnil sz es H) ι (yx ι β isnil Im) x v := by
  intro c vs hl h
  refine ⟨by rw [q62,hl],fun i x v h1 h2 => ?_⟩
  rw [q4y] at h1
  simp only [Option.map_eq_some_iff] at h1
  obtain ⟨y,hy,rfl⟩ := h1
  exact h i y v hy h2
 induction hx with
 | undef v => exact .undef v
 | pv p v h => exact .pv p v (h.mono hm hw)
 | ptr β' o c hb' =>
  have hne : β' ≠ β := by intro e; subst e; rw [hb] at hb'; cases hb'
  exact .ptr β' o (AV.thaw.thawL β isnil sz es c) (by simp [jl,hne,hb',Blk.thaw])
 | eptr β' ver i o b1 o1 b hb' hver h =>
  by_cases he : β' = β
  ·subst he
   exact .eptr β' ver i o b1 o1 .dead (by simp [jl]) (fun _ _ _ e => by cases e) (fun _ _ _ e => by cases e)
  ·refine .eptr β' ver i o b1 o1 (b.thaw β isnil sz es) (by simp [jl,he,hb']) (fun isnil' sz' es' e => ?_) (fun isnil' sz' es' e => ?_)
   ·rw [q4i] at e
    exact hver _ _ _ e
   ·rw [q4i] at e
    exact h _ _ _ e
 | row β' ver off n v b ho hb' hk hver h =>
  simp only [AV.thaw]
  split
  ·rename_i hc
   obtain ⟨rfl,hv⟩ := hc
   rw [hb] at hb'
   cases hb'
   obtain ⟨h1,h2⟩ := h _ _ _ rfl hv
   exact .pv _ _ (qpj hi hb h1 h2)
  ·exact rowStay β' ver off n v b ho hb' hk hver h
 | rptr c o b off vs him hc hf h => exact .rptr c o b off vs (hm b him) hc hf fun i p hp => (h i p hp).mono hm hw
 | zsl a => exact .zsl a
 | map β' es' clock hb' =>
  have hne : β' ≠ β := by intro e; subst e; rw [hb] at hb'; cases hb'
  exact .map β' es' clock (by simp [jl,hne,hb',Blk.thaw])
 | clo f a b va vb hla hlb _ _ iha ihb =>
  obtain ⟨q1,q2⟩ := tL a va hla iha
  obtain ⟨q3,q4⟩ := tL b vb hlb ihb
  exact .clo f _ _ va vb q1 q3 q2 q4
 | agg c vs hl hf _ ih =>
  obtain ⟨q1,q2⟩ := tL c vs hl ih
  exact q4a q1 (q9l β isnil sz es hf) q2
 | tup c vs hl _ ih =>
  obtain ⟨q1,q2⟩ := tL c vs hl ih
  exact .tup _ vs q1 q2
theorem z7w (hi : qa w H ι Im) {β : Nat} {isnil : Bool} {sz : Nat} {es : List (List PV)} (hb : H.get β = some (.row isnil sz es)) :
  qa w (nk β isnil sz es H) ι (yx ι β isnil Im) ∧ Evo w H ι Im w (nk β isnil sz es H) ι (yx ι β isnil Im) := by
 have hm : ∀ b,Im b → yx ι β isnil Im b := fun b h => .inl h
 have hw : ∀ b,Im b → w.heap[b]? = w.heap[b]? := fun _ _ => rfl
 have hused : isnil = false → (Blk.row isnil sz es).used = true := fun h => by simp [Blk.used,h]
 refine ⟨⟨fun γ b hγ => ?_,fun γ γ' b b' h1 h2 u1 u2 e => ?_,fun b h => ?_,fun γ b hγ hu h => ?_⟩,⟨fun γ b hγ => ?_,hm,fun b h => ?_,fun γ x hγ hu => ?_,fun _ _ _ => rfl,Nat.le_refl _,rfl,rfl⟩⟩
 ·rw [jl] at hγ
  split at hγ
  ·cases hγ; trivial
  ·simp only [Option.map_eq_some_iff] at hγ
   obtain ⟨b0,hb0,rfl⟩ := hγ
   have h0 := hi.blk γ b0 hb0
   cases b0 with
   | box c =>
    obtain ⟨vs,elem,fz,q1,q2,q3,q4,q5⟩ := h0
    refine ⟨vs,elem,fz,q1,q2,by rw [q62,q3],q9l β isnil sz es q4,fun i x v a b => ?_⟩
    rw [q4y] at a
    simp only [Option.map_eq_some_iff] at a
    obtain ⟨y,hy,rfl⟩ := a
    exact q8h hi hb (q5 i y v hy b)
   | row isnil' sz' es' =>
    cases isnil' with
    | true => exact h0
    | false =>
     obtain ⟨vs,elem,fz,q1,q2,q3,q4,q5,q6,q7,q8⟩ := h0
     refine ⟨vs,elem,fz,q1,q2,q3,q4,q5,q6,q7,fun i e j p a b => ?_⟩
     obtain ⟨v,k1,k2⟩ := q8 i e j p a b
     exact ⟨v,k1,k2.mono hm hw⟩
   | map es' clock =>
    obtain ⟨ents,q1,q2,q3⟩ := h0
    refine ⟨ents,q1,q2,fun i k x born e a b => ?_⟩
    obtain ⟨k1,k2,k3⟩ := q3 i k x born e a b
    exact ⟨k1.mono hm hw,k2.mono hm hw,k3⟩
   | qi sz' es' =>
    obtain ⟨vs,elem,fz,q1,q2,q3,q4,q5,q6,q7,q8⟩ := h0
    have get : ∀ (i : Nat) e (j : Nat) x,(es'.map (AV.thaw.thawL β isnil sz es))[i]? = some e → e[j]? = some x → ∃ e0 y,es'[i]? = some e0 ∧ e0[j]? = some y ∧ x = y.thaw β isnil sz es ∧ e = AV.thaw.thawL β isnil sz es e0 := by
     intro i e j x h1 h2
     rw [List.getElem?_map,Option.map_eq_some_iff] at h1
     obtain ⟨e0,h1,rfl⟩ := h1
     rw [q4y,Option.map_eq_some_iff] at h2
     obtain ⟨y,h2,rfl⟩ := h2
     exact ⟨e0,y,h1,h2,rfl,rfl⟩
    refine ⟨vs,elem,fz,q1,q2,q3,q4,by simpa using q5,fun e he => ?_,fun i e j x a b => ?_,fun i e j x a b => ?_⟩
    ·obtain ⟨e0,h0,rfl⟩ := List.mem_map.1 he
     rw [q62]
     exact q6 e0 h0
    ·obtain ⟨e0,y,h1,h2,rfl,rfl⟩ := get i e j x a b
     have hf : ∀ x ∈ e0,x.flat = true := fun x hx => by
      obtain ⟨j',hj'⟩ := List.getElem?_of_mem hx
      exact q7 i e0 j' x h1 hj'
     exact q9l β isnil sz es hf _ (List.mem_of_getElem? b)
    ·obtain ⟨e0,y,h1,h2,rfl,rfl⟩ := get i e j x a b
     obtain ⟨v,k1,k2⟩ := q8 i e0 j y h1 h2
     exact ⟨v,k1,q8h hi hb k2⟩
   | dead => trivial
 ·rw [jl] at h1 h2
  split at h1
  ·cases h1; cases u1
  split at h2
  ·cases h2; cases u2
  simp only [Option.map_eq_some_iff] at h1 h2
  obtain ⟨b0,hb0,rfl⟩ := h1
  obtain ⟨b1,hb1,rfl⟩ := h2
  rw [Blk.q9r] at u1 u2
  exact hi.inj γ γ' b0 b1 hb0 hb1 u1 u2 e
 ·rcases h with h | ⟨hn,rfl⟩
  ·exact hi.im b h
  ·exact (hi.blk β _ hb).lt (hused hn)
 ·rw [jl] at hγ
  split at hγ
  ·cases hγ; cases hu
  rename_i hne
  simp only [Option.map_eq_some_iff] at hγ
  obtain ⟨b0,hb0,rfl⟩ := hγ
  rw [Blk.q9r] at hu
  rcases h with h | ⟨hn,h⟩
  ·exact hi.nim γ b0 hb0 hu h
  ·exact hne (hi.inj γ β b0 _ hb0 hb hu (hused hn) h)
 ·by_cases he : γ = β
  ·subst he
   rw [hb] at hγ
   cases hγ
   exact ⟨.dead,by simp [jl],trivial⟩
  ·refine ⟨b.thaw β isnil sz es,by simp [jl,he,hγ], ?_⟩
   cases b <;> simp [Blk.thaw,z8]
 ·rcases h with h | ⟨hn,rfl⟩
  ·exact .inl h
  ·exact .inr (.inr ⟨β,_,hb,hused hn,rfl⟩)
 ·rw [jl] at hγ
  split at hγ
  ·cases hγ; cases hu
  simp only [Option.map_eq_some_iff] at hγ
  obtain ⟨b0,hb0,rfl⟩ := hγ
  rw [Blk.q9r] at hu
  exact .inr ⟨γ,b0,hb0,hu,rfl⟩
structure Inv (w : World) (a : Act) (s : St) (ι : Plc) (Im : Nat → Prop) (nt : Nat) : Prop where
 heap : qa w s.heap ι Im
 env : ∀ t,RA w s.heap ι Im (s.env.get t) (a.tmps.getD t undef)
 nx : ∀ β b,s.heap.get β = some b → β < s.nx
 size : nt ≤ a.tmps.size
 defers : a.defers = []
theorem qaw (f : AV → AV) (hf : f .undef = .undef) : ∀ (E : Env) (t : Nat),Env.get (E.map fun (t,v) => (t,f v)) t = f (E.get t)
 | [],t => by simp [Env.get,hf]
 | (i,v) :: r,t => by
  simp only [List.map_cons,Env.get]
  split
  ·rfl
  ·exact qaw f hf r t
theorem qwq {a : Act} {s : St} {nt : Nat} (h : Inv w a s ι Im nt) (β : Nat) :
  ∃ Im',Inv w a (freeze β s) ι Im' nt ∧ Evo w s.heap ι Im w (freeze β s).heap ι Im' := by
 unfold freeze
 split
 ·rename_i isnil sz es hb
  obtain ⟨h1,h2⟩ := z7w h.heap hb
  refine ⟨_,⟨h1,fun t => ?_,fun γ b hγ => ?_,h.size,h.defers⟩,h2⟩
  ·show RA w _ ι _ (Env.get (s.env.map fun (t,v) => (t,v.thaw β isnil sz es)) t) _
   rw [qaw _ rfl]
   exact q8h h.heap hb (h.env t)
  ·have hγ' : (nk β isnil sz es s.heap).get γ = some b := hγ
   rw [jl] at hγ'
   split at hγ'
   ·rename_i e
    subst e
    exact h.nx γ _ hb
   ·simp only [Option.map_eq_some_iff] at hγ'
    obtain ⟨b0,hb0,_⟩ := hγ'
    exact h.nx γ b0 hb0
 ·exact ⟨Im,h,Evo.refl _ _ _ _⟩
theorem q3t {a : Act} {nt : Nat} : ∀ (l : List Nat) {s : St} {Im : Nat → Prop},Inv w a s ι Im nt →
  ∃ Im',Inv w a (freezes l s) ι Im' nt ∧ Evo w s.heap ι Im w (freezes l s).heap ι Im'
 | [],s,Im,h => ⟨Im,h,Evo.refl _ _ _ _⟩
 | β :: r,s,Im,h => by
  obtain ⟨Im1,h1,e1⟩ := qwq h β
  obtain ⟨Im2,h2,e2⟩ := q3t r h1
  exact ⟨Im2,h2,e1.trans e2⟩
end
end Go.Gm
namespace Go.Gm
open Go
section
variable {P : Program} {w : World} {H : Heap} {ι : Plc} {Im : Nat → Prop}
theorem uq (g : Nat → Nat) : ∀ (l : List AV) (i : Nat),(AV.ren.renL g l)[i]? = (l[i]?).map (AV.ren g)
 | [],i => by simp [AV.ren.renL]
 | x :: r,i => by
  cases i with
  | zero => simp [AV.ren.renL]
  | succ i => simp [AV.ren.renL,uq g r i]
theorem q0h (g : Nat → Nat) : ∀ (l : List AV),(AV.ren.renL g l).length = l.length
 | [] => rfl
 | x :: r => by simp [AV.ren.renL,q0h g r]
theorem q7n (g : Nat → Nat) {x : AV} (h : x.flat = true) : (x.ren g).flat = true := by
 cases x <;> simp [AV.flat] at h <;> first | rfl | exact h
theorem jh {β : Nat} : ∀ {l : List AV} {i : Nat} {x : AV},l[i]? = some x → β ∈ x.refs → β ∈ AV.refs.refsL l
 | [],i,x,h,_ => by simp at h
 | y :: r,i,x,h,hβ => by
  simp only [AV.refs.refsL,List.mem_append]
  cases i with
  | zero => simp at h; subst h; exact .inl hβ
  | succ i => exact .inr (jh (by simpa using h) hβ)
theorem q3c (g : Nat → Nat) (b : Blk) : (b.ren g).sh = b.sh := by
 cases b <;> simp [Blk.ren,Blk.sh]
theorem qu1 {x y : Blk} {p q : Pl} (g : Nat → Nat) (h : z8 x y p q) : z8 x (y.ren g) p q := by
 cases x <;> cases y <;> first | exact h | simpa [Blk.ren,z8] using h
theorem q2k {H' : Heap} {ι' : Plc} (g : Nat → Nat) {x : AV} {v : Value} (hx : RA w H ι Im x v)
  (hg : ∀ β ∈ x.refs,∀ b,H.get β = some b → H'.get (g β) = some (b.ren g) ∧ (ι' (g β)) = ι β) : RA w H' ι' Im (x.ren g) v := by
 induction hx with
 | undef v => exact .undef v
 | pv p v h => exact .pv p v h
 | ptr β o c hb =>
  obtain ⟨h1,h2⟩ := hg β (by simp [AV.refs]) _ hb
  rw [← h2]
  exact .ptr (g β) o _ h1
 | eptr β ver i o b1 o1 b hb hver h =>
  obtain ⟨h1,h2⟩ := hg β (by simp [AV.refs]) _ hb
  refine .eptr (g β) ver i o b1 o1 _ h1 (fun isnil sz es e => ?_) (fun isnil sz es e => ?_)
  ·rw [q3c] at e
   exact hver _ _ _ e
  ·rw [q3c] at e
   rw [h2]
   exact h _ _ _ e
 | row β ver off n v b ho hb hk hver h =>
  obtain ⟨h1,h2⟩ := hg β (by simp [AV.refs]) _ hb
  refine .row (g β) ver off n v _ ho h1 (fun h0 => ?_) (fun isnil sz es e => ?_) (fun isnil sz es e => ?_)
  ·rw [q3c]
   exact hk (fun e => h0 (by rw [e]; rfl))
  ·rw [q3c] at e
   exact hver _ _ _ e
  ·rw [q3c] at e
   rw [h2]
   exact h _ _ _ e
 | rptr c o b off vs him hc hf h => exact .rptr c o b off vs him hc hf h
 | zsl a => exact .zsl a
 | map β es clock hb =>
  obtain ⟨h1,h2⟩ := hg β (by simp [AV.refs]) _ hb
  rw [← h2]
  exact .map (g β) es clock h1
 | clo f a b va vb hla hlb _ _ iha ihb =>
  refine .clo f _ _ va vb (by rw [q0h,hla]) (by rw [q0h,hlb]) (fun i x v h1 h2 => ?_) (fun i x v h1 h2 => ?_)
  ·rw [uq] at h1
   simp only [Option.map_eq_some_iff] at h1
   obtain ⟨y,hy,rfl⟩ := h1
   exact iha i y v hy h2 fun β hβ => hg β (by simp only [AV.refs,List.mem_append]; exact .inl (jh hy hβ))
  ·rw [uq] at h1
   simp only [Option.map_eq_some_iff] at h1
   obtain ⟨y,hy,rfl⟩ := h1
   exact ihb i y v hy h2 fun β hβ => hg β (by simp only [AV.refs,List.mem_append]; exact .inr (jh hy hβ))
 | agg c vs hl hf _ ih =>
  refine .agg _ vs (by rw [q0h,hl]) (fun x hx => ?_) (fun i x v h1 h2 => ?_)
  ·obtain ⟨i,hi⟩ := List.getElem?_of_mem hx
   rw [uq] at hi
   simp only [Option.map_eq_some_iff] at hi
   obtain ⟨y,hy,rfl⟩ := hi
   exact q7n g (hf y (List.mem_of_getElem? hy))
  ·rw [uq] at h1
   simp only [Option.map_eq_some_iff] at h1
   obtain ⟨y,hy,rfl⟩ := h1
   exact ih i y v hy h2 fun β hβ => hg β (by simp only [AV.refs]; exact jh hy hβ)
 | tup c vs hl _ ih =>
  refine .tup _ vs (by rw [q0h,hl]) (fun i x v h1 h2 => ?_)
  rw [uq] at h1
  simp only [Option.map_eq_some_iff] at h1
  obtain ⟨y,hy,rfl⟩ := h1
  exact ih i y v hy h2 fun β hβ => hg β (by simp only [AV.refs]; exact jh hy hβ)
theorem Blk.uo (g : Nat → Nat) (b : Blk) : (b.ren g).used = b.used := by
 cases b <;> rfl
theorem yj.ren {H' : Heap} {ι' : Plc} (g : Nat → Nat) {β β' : Nat} {b : Blk} (h : yj w H ι Im β b) (hp : ι' β' = ι β)
  (hg : ∀ γ ∈ b.refs,∀ c,H.get γ = some c → H'.get (g γ) = some (c.ren g) ∧ (ι' (g γ)) = ι γ) : yj w H' ι' Im β' (b.ren g) := by
 cases b with
 | box c =>
  obtain ⟨vs,elem,fz,q1,q2,q3,q4,q5⟩ := h
  refine ⟨vs,elem,fz,by rw [hp]; exact q1,q2,by rw [q0h,q3],fun x hx => ?_,fun i x v a b => ?_⟩
  ·obtain ⟨i,hi⟩ := List.getElem?_of_mem hx
   rw [uq] at hi
   simp only [Option.map_eq_some_iff] at hi
   obtain ⟨y,hy,rfl⟩ := hi
   exact q7n g (q4 y (List.mem_of_getElem? hy))
  ·rw [uq] at a
   simp only [Option.map_eq_some_iff] at a
   obtain ⟨y,hy,rfl⟩ := a
   exact q2k g (q5 i y v hy b) fun γ hγ => hg γ (by simp only [Blk.refs]; exact jh hy hγ)
 | row isnil sz es =>
  cases isnil with
  | true => exact h
  | false =>
   obtain ⟨vs,elem,fz,q1,q2,q3,q4,q5,q6,q7,q8⟩ := h
   exact ⟨vs,elem,fz,by rw [hp]; exact q1,q2,by rw [hp]; exact q3,q4,by rw [hp]; exact q5,q6,q7,q8⟩
 | map es clock =>
  obtain ⟨ents,q1,q2,q3⟩ := h
  exact ⟨ents,by rw [hp]; exact q1,q2,q3⟩
 | qi sz es =>
  obtain ⟨vs,elem,fz,q1,q2,q3,q4,q5,q6,q7,q8⟩ := h
  have get : ∀ (i : Nat) e (j : Nat) x,(es.map (AV.ren.renL g))[i]? = some e → e[j]? = some x → ∃ e0 y,es[i]? = some e0 ∧ e0[j]? = some y ∧ x = y.ren g := by
   intro i e j x h1 h2
   rw [List.getElem?_map,Option.map_eq_some_iff] at h1
   obtain ⟨e0,h1,rfl⟩ := h1
   rw [uq,Option.map_eq_some_iff] at h2
   obtain ⟨y,h2,rfl⟩ := h2
   exact ⟨e0,y,h1,h2,rfl⟩
  refine ⟨vs,elem,fz,by rw [hp]; exact q1,q2,by rw [hp]; exact q3,q4,by rw [hp]; simpa using q5,fun e he => ?_,fun i e j x a b => ?_,fun i e j x a b => ?_⟩
  ·obtain ⟨e0,h0,rfl⟩ := List.mem_map.1 he
   rw [q0h]
   exact q6 e0 h0
  ·obtain ⟨e0,y,h1,h2,rfl⟩ := get i e j x a b
   exact q7n g (q7 i e0 j y h1 h2)
  ·obtain ⟨e0,y,h1,h2,rfl⟩ := get i e j x a b
   obtain ⟨v,k1,k2⟩ := q8 i e0 j y h1 h2
   exact ⟨v,k1,q2k g k2 fun γ hγ => hg γ (by
    simp only [Blk.refs,List.mem_flatMap]
    exact ⟨e0,List.mem_of_getElem? h1,jh h2 hγ⟩)⟩
 | dead => trivial
theorem q61 : ∀ (L : List Nat) (x : Nat),um L x = true ↔ x ∈ L
 | [],x => by simp [um]
 | β :: r,x => by
  simp only [um,List.mem_cons]
  split
  ·rename_i h; subst h; simp
  ·rename_i h
   rw [q61 r x]
   constructor
   ·exact .inr
   ·rintro (h2 | h2)
    ·exact absurd h2.symm h
    ·exact h2
theorem q7g : ∀ (l L : List Nat),nz l L = true ↔ ∀ x ∈ l,x ∈ L
 | [],L => by simp [nz]
 | x :: r,L => by simp [nz,q61,q7g r L]
theorem q4o : ∀ (L : List Nat) (x : Nat),x ∈ L → L[pos L x]? = some x
 | [],x,h => by cases h
 | β :: r,x,h => by
  simp only [pos]
  split
  ·rename_i e; simp [e]
  ·rename_i e
   have : x ∈ r := by
    rcases List.mem_cons.1 h with h | h
    ·exact absurd h.symm e
    ·exact h
   simpa using q4o r x this
theorem qbx {L : List Nat} {x : Nat} (h : x ∈ L) : pos L x < L.length := (List.getElem?_eq_some_iff.1 (q4o L x h)).1
theorem q3v : ∀ {L : List Nat},L.Nodup → ∀ {i : Nat} {x : Nat},L[i]? = some x → pos L x = i
 | [],_,i,x,h => by simp at h
 | β :: r,hn,i,x,h => by
  obtain ⟨h1,h2⟩ := List.nodup_cons.1 hn
  cases i with
  | zero => simp at h; simp [pos,h]
  | succ i =>
   simp at h
   have hx : x ∈ r := List.mem_of_getElem? h
   have hne : β ≠ x := fun e => h1 (e ▸ hx)
   simp [pos,hne,q3v h2 h]
theorem q8z (H : Heap) : ∀ (n : Nat) (todo d : List Nat),d.Nodup → (reach H n todo d).Nodup ∧ ∃ r,reach H n todo d = d ++ r
 | 0,todo,d,h => ⟨h,[],by simp [reach]⟩
 | n + 1,[],d,h => ⟨h,[],by simp [reach]⟩
 | n + 1,β :: r,d,h => by
  simp only [reach]
  split
  ·exact q8z H n r d h
  ·rename_i hm
   have hm' : β ∉ d := fun h => hm ((q61 d β).2 h)
   obtain ⟨h1,r',h2⟩ := q8z H n (r ++ (xq H β).refs) (d ++ [β]) (by
    rw [List.nodup_append]
    exact ⟨h,by simp,by
     intro a ha b hb e
     simp at hb
     subst hb e
     exact hm' ha⟩)
   exact ⟨h1,β :: r',by rw [h2]; simp⟩
theorem qb7 (H : Heap) (g : Nat → Nat) : ∀ (i : Nat) (L : List Nat) (j : Nat),(pick H g i L).get j = if i ≤ j ∧ j < i + L.length then (L[j - i]?).map fun β => (xq H β).ren g else none
 | i,[],j => by
  simp [pick,Heap.get]
 | i,β :: r,j => by
  simp only [pick,Heap.get,qb7 H g (i + 1) r j,List.length_cons]
  by_cases h : i = j
  ·subst h; simp
  ·rw [if_neg h]
   by_cases h2 : i + 1 ≤ j ∧ j < i + 1 + r.length
   ·rw [if_pos h2,if_pos (by omega)]
    obtain ⟨m,rfl⟩ : ∃ m,j = i + 1 + m := ⟨j - (i + 1),by omega⟩
    rw [show i + 1 + m - (i + 1) = m from by omega,show i + 1 + m - i = m + 1 from by omega]
    simp
   ·rw [if_neg h2,if_neg (by omega)]
theorem qdk (H : Heap) (g : Nat → Nat) : ∀ (i : Nat) (L : List Nat),(pick H g i L).length = L.length
 | _,[] => rfl
 | i,β :: r => by simp [pick,qdk H g (i + 1) r]
theorem qb4 (H : Heap) (L : List Nat) : ∀ (l : List Nat),closedIn H L l = true → ∀ β ∈ l,∃ b,H.get β = some b ∧ ∀ γ ∈ b.refs,γ ∈ L
 | [],_,β,h => by cases h
 | x :: r,h,β,hβ => by
  simp only [closedIn,Bool.and_eq_true] at h
  rcases List.mem_cons.1 hβ with rfl | hβ
  ·cases hb : H.get β with
   | none => rw [hb] at h; simp at h
   | some b =>
    rw [hb] at h
    exact ⟨b,rfl,(q7g _ _).1 h.1⟩
  ·exact qb4 H L r h.2 β hβ
structure mf (H : Heap) (L : List Nat) (H0 : Heap) : Prop where
 nodup : L.Nodup
 look : ∀ j,H0.get j = (L[j]?).bind fun β => (H.get β).map (Blk.ren (pos L))
 has : ∀ β ∈ L,∃ b,H.get β = some b ∧ ∀ γ ∈ b.refs,γ ∈ L
 len : H0.length = L.length
theorem q6w {d roots : List Nat} (hd : d.Nodup) {L : List Nat} {H0 : Heap} (h : yz H d roots = some (L,H0)) :
  mf H L H0 ∧ (∀ β ∈ roots,β ∈ L) ∧ ∃ r,L = d ++ r := by
 unfold yz at h
 split at h
 ·cases h
  exact ⟨⟨List.nodup_nil,fun j => by simp [Heap.get],by simp,rfl⟩,by simp,[],rfl⟩
 ·simp only at h
  split at h <;> cases h
  rename_i hc
  simp only [Bool.and_eq_true] at hc
  obtain ⟨h1,h2⟩ := q8z H 400 (roots ++ d.flatMap fun β => (xq H β).refs) d hd
  have hs := qb4 H _ _ hc.2
  refine ⟨⟨h1,fun j => ?_,hs,qdk _ _ _ _⟩,(q7g _ _).1 hc.1,h2⟩
  rw [qb7]
  simp only [Nat.zero_le,true_and,Nat.zero_add,Nat.sub_zero]
  generalize reach H 400 _ d = L at *
  by_cases hj : j < L.length
  ·rw [if_pos hj]
   have : L[j]? = some L[j] := by simp [hj]
   rw [this]
   obtain ⟨b,hb,_⟩ := hs L[j] (by simp)
   simp [xq,hb]
  ·rw [if_neg hj,List.getElem?_eq_none (by omega)]
   rfl
def jb (ι : Plc) (L : List Nat) : Plc := fun i => match L[i]? with | some β => ι β | none => ⟨0,0⟩
theorem mf.conn {L : List Nat} {H0 : Heap} (h : mf H L H0) {β : Nat} (hβ : β ∈ L) : ∀ b,H.get β = some b → H0.get (pos L β) = some (b.ren (pos L)) ∧ jb ι L (pos L β) = ι β := by
 intro b hb
 have := q4o L β hβ
 rw [h.look,this]
 simp [hb,jb,this]
theorem mf.inv {L : List Nat} {H0 : Heap} (h : mf H L H0) {j : Nat} {b : Blk} (hj : H0.get j = some b) : ∃ β b0,L[j]? = some β ∧ H.get β = some b0 ∧ b = b0.ren (pos L) ∧ jb ι L j = ι β := by
 rw [h.look] at hj
 cases hL : L[j]? with
 | none => rw [hL] at hj; cases hj
 | some β =>
  rw [hL] at hj
  simp only [Option.bind_some,Option.map_eq_some_iff] at hj
  obtain ⟨b0,hb0,rfl⟩ := hj
  exact ⟨β,b0,rfl,hb0,rfl,by simp [jb,hL]⟩
theorem mf.hinv {L : List Nat} {H0 : Heap} (h : mf H L H0) (hi : qa w H ι Im) : qa w H0 (jb ι L) Im where
 blk := fun j b hj => by
  obtain ⟨β,b0,h1,h2,rfl,h4⟩ := h.inv (ι := ι) hj
  refine (hi.blk β b0 h2).ren (pos L) h4 fun γ hγ => ?_
  obtain ⟨b1,q1,q2⟩ := h.has β (List.mem_of_getElem? h1)
  rw [h2] at q1
  cases q1
  exact h.conn (q2 γ hγ)
 inj := fun i j b c hi' hj' ub uc e => by
  obtain ⟨β,b0,h1,h2,rfl,h4⟩ := h.inv (ι := ι) hi'
  obtain ⟨γ,c0,k1,k2,rfl,k4⟩ := h.inv (ι := ι) hj'
  rw [Blk.uo] at ub uc
  rw [h4,k4] at e
  have := hi.inj β γ b0 c0 h2 k2 ub uc e
  subst this
  rw [← q3v h.nodup h1,← q3v h.nodup k1]
 im := hi.im
 nim := fun j b hj hu => by
  obtain ⟨β,b0,h1,h2,rfl,h4⟩ := h.inv (ι := ι) hj
  rw [Blk.uo] at hu
  rw [h4]
  exact hi.nim β b0 h2 hu
end
end Go.Gm
namespace Go.Gm
open Go
section
variable {P : Program} {w w' : World} {H H0 H' : Heap} {ι ι' : Plc} {Im Im' : Nat → Prop} {L : List Nat} {nx : Nat}
theorem u6 : ∀ (ws : List (Nat × Blk)) (H : Heap) (γ : Nat),(∀ x ∈ ws,x.1 ≠ γ) → (qf ws H).get γ = H.get γ
 | [],H,γ,_ => rfl
 | (i,b) :: r,H,γ,h => by
  simp only [qf]
  rw [u6 r _ γ fun x hx => h x (by simp [hx]),Heap.get_put]
  rw [if_neg (fun e => h (i,b) (by simp) e.symm)]
theorem q6v (g : Nat → Nat) : ∀ (H : Heap) (i : Nat),zw i H = true → ∀ x ∈ xc g H,∃ j,i ≤ j ∧ j < i + H.length ∧ x.1 = g j
 | [],i,_,x,h => by simp [xc] at h
 | (k,b) :: r,i,hk,x,h => by
  simp only [zw,Bool.and_eq_true,decide_eq_true_eq] at hk
  obtain ⟨rfl,hk⟩ := hk
  simp only [xc,List.mem_cons] at h
  rcases h with rfl | h
  ·exact ⟨k,Nat.le_refl _,by simp,rfl⟩
  ·obtain ⟨j,h1,h2,h3⟩ := q6v g r (k + 1) hk x h
   exact ⟨j,by omega,by simp only [List.length_cons]; omega,h3⟩
theorem q2h : ∀ (H : Heap) (i : Nat),zw i H = true → ∀ {j : Nat} {b : Blk},H.get j = some b → i ≤ j ∧ j < i + H.length
 | [],i,_,j,b,h => by simp [Heap.get] at h
 | (k,b0) :: r,i,hk,j,b,h => by
  simp only [zw,Bool.and_eq_true,decide_eq_true_eq] at hk
  obtain ⟨rfl,hk⟩ := hk
  simp only [Heap.get] at h
  split at h
  ·rename_i e; subst e; simp
  ·have := q2h r (k + 1) hk h
   simp only [List.length_cons]
   omega
theorem qb8 (g : Nat → Nat) : ∀ (H' H : Heap) (i : Nat),zw i H' = true → (∀ j k,i ≤ j → j < i + H'.length → i ≤ k → k < i + H'.length → g j = g k → j = k) →
  ∀ {j : Nat} {b : Blk},H'.get j = some b → (qf (xc g H') H).get (g j) = some (b.ren g)
 | [],H,i,_,_,j,b,h => by simp [Heap.get] at h
 | (k,b0) :: r,H,i,hk,hg,j,b,h => by
  simp only [zw,Bool.and_eq_true,decide_eq_true_eq] at hk
  obtain ⟨rfl,hk⟩ := hk
  simp only [Heap.get] at h
  simp only [xc,qf]
  split at h
  ·rename_i e
   subst e
   cases h
   rw [u6 _ _ _ fun x hx => ?_,Heap.get_put,if_pos rfl]
   obtain ⟨m,h1,h2,h3⟩ := q6v g r (k + 1) hk x hx
   rw [h3]
   intro e
   have := hg m k (by omega) (by simp only [List.length_cons]; omega) (Nat.le_refl _) (by simp) e
   omega
  ·exact qb8 g r _ (k + 1) hk (fun j' k' a1 a2 a3 a4 e => hg j' k' (by omega) (by simp only [List.length_cons]; omega) (by omega) (by simp only [List.length_cons]; omega) e) h
theorem zav {x y : Blk} {p q : Pl} {f g : Nat → Nat} (h : z8 (x.ren f) y p q) : z8 x (y.ren g) p q := by
 cases x <;> cases y <;> (revert h; simp [z8,Blk.ren])
def mh (ι ι' : Plc) (L : List Nat) (nx n : Nat) : Plc := fun γ => if γ ∈ L then ι' (pos L γ) else if nx ≤ γ ∧ γ < nx + (n - L.length) then ι' (L.length + (γ - nx)) else ι γ
theorem qnz (hs : mf H L H0) (hi : qa w H ι Im) {X : Nat → Prop} (hnx : Bd X H nx)
  (hi' : qa w' H' ι' Im') (he : Evo w H0 (jb ι L) Im w' H' ι' Im') (hk : zw 0 H' = true) (hX : ∀ γ,X γ → nx + (H'.length - L.length) ≤ γ) :
  qa w' (qf (xc (backTo L nx) H') H) (mh ι ι' L nx H'.length) Im' ∧ Evo w H ι Im w' (qf (xc (backTo L nx) H') H) (mh ι ι' L nx H'.length) Im' ∧
   (∀ {r : AV} {v : Value},RA w' H' ι' Im' r v → RA w' (qf (xc (backTo L nx) H') H) (mh ι ι' L nx H'.length) Im' (r.ren (backTo L nx)) v) ∧
   Bd X (qf (xc (backTo L nx) H') H) (nx + (H'.length - L.length)) := by
 have hLlt : ∀ β ∈ L,β < nx ∨ nx + (H'.length - L.length) ≤ β := fun β hβ => by
  obtain ⟨b,hb,_⟩ := hs.has β hβ
  exact (hnx β b hb).imp id (hX β)
 have g1 : ∀ {j β : Nat},L[j]? = some β → backTo L nx j = β := fun h => by simp [backTo,h]
 have g2 : ∀ {j : Nat},L.length ≤ j → backTo L nx j = nx + (j - L.length) := fun h => by simp [backTo,List.getElem?_eq_none h]
 have ginj : ∀ j k,j < H'.length → k < H'.length → backTo L nx j = backTo L nx k → j = k := by
  intro j k hjl hkl e
  by_cases hj : j < L.length <;> by_cases hkk : k < L.length
  ·have a1 : L[j]? = some L[j] := by simp [hj]
   have a2 : L[k]? = some L[k] := by simp [hkk]
   rw [g1 a1,g1 a2] at e
   rw [← q3v hs.nodup a1,← q3v hs.nodup a2,e]
  ·have a1 : L[j]? = some L[j] := by simp [hj]
   rw [g1 a1,g2 (by omega)] at e
   have := hLlt _ (List.mem_of_getElem? a1)
   omega
  ·have a2 : L[k]? = some L[k] := by simp [hkk]
   rw [g1 a2,g2 (by omega)] at e
   have := hLlt _ (List.mem_of_getElem? a2)
   omega
  ·rw [g2 (by omega),g2 (by omega)] at e
   omega
 have hget : ∀ {j : Nat} {b : Blk},H'.get j = some b → (qf (xc (backTo L nx) H') H).get (backTo L nx j) = some (b.ren (backTo L nx)) :=
  fun h => qb8 _ H' H 0 hk (fun j k _ hjl _ hkl e => ginj j k (by omega) (by omega) e) h
 have hplace : ∀ j,j < H'.length → mh ι ι' L nx H'.length (backTo L nx j) = ι' j := by
  intro j hjl
  unfold mh
  by_cases hj : j < L.length
  ·have a1 : L[j]? = some L[j] := by simp [hj]
   rw [g1 a1,if_pos (List.mem_of_getElem? a1),q3v hs.nodup a1]
  ·rw [g2 (by omega),if_neg (fun h => by have := hLlt _ h; omega),if_pos (by omega)]
   congr 1
   omega
 have hlen : L.length ≤ H'.length := by
  rcases Nat.eq_zero_or_pos L.length with h | h
  ·omega
  ·have a1 : L[L.length - 1]? = some L[L.length - 1] := by simp [h]
   obtain ⟨b,hb,_⟩ := hs.has _ (List.mem_of_getElem? a1)
   have h0 : H0.get (L.length - 1) = some (b.ren (pos L)) := by rw [hs.look,a1]; simp [hb]
   obtain ⟨b',hb',_⟩ := he.comp _ _ h0
   have := (q2h H' 0 hk hb').2
   omega
 have hcase : ∀ γ,(∃ j,γ = backTo L nx j ∧ j < H'.length) ∨ ((∀ j,j < H'.length → γ ≠ backTo L nx j) ∧ (qf (xc (backTo L nx) H') H).get γ = H.get γ) := by
  intro γ
  by_cases h : ∃ j,j < H'.length ∧ γ = backTo L nx j
  ·obtain ⟨j,h1,h2⟩ := h
   exact .inl ⟨j,h2,h1⟩
  ·refine .inr ⟨fun j hj e => h ⟨j,hj,e⟩,u6 _ _ _ fun x hx e => ?_⟩
   obtain ⟨j,_,h2,h3⟩ := q6v _ H' 0 hk x hx
   exact h ⟨j,by omega,by rw [← e,h3]⟩
 have hnotL : ∀ γ,(∀ j,j < H'.length → γ ≠ backTo L nx j) → γ ∉ L := by
  intro γ h hL
  have := q4o L γ hL
  exact h (pos L γ) (Nat.lt_of_lt_of_le (qbx hL) hlen) (g1 this).symm
 have hpl2 : ∀ γ b,γ ∉ L → H.get γ = some b → mh ι ι' L nx H'.length γ = ι γ := by
  intro γ b h hb
  have := (hnx γ b hb).imp id (hX γ)
  unfold mh
  rw [if_neg h,if_neg (by omega)]
 have live0 : ∀ {i : Nat} {x : Blk},H0.get i = some x → x.used = true → ∃ β b,β ∈ L ∧ H.get β = some b ∧ b.used = true ∧ (jb ι L i) = ι β := by
  intro i x h hu
  obtain ⟨β,b0,h1,h2,rfl,h4⟩ := hs.inv (ι := ι) h
  rw [Blk.uo] at hu
  exact ⟨β,b0,List.mem_of_getElem? h1,h2,hu,h4⟩
 have hsame : ∀ γ b,γ ∉ L → H.get γ = some b → b.used = true → w'.heap[(ι γ).b]? = w.heap[(ι γ).b]? := by
  intro γ b hL hb hu
  refine he.same _ ((hi.blk γ b hb).lt hu) fun i x hx hux e => ?_
  obtain ⟨β,b1,q1,q2,q3,q4⟩ := live0 hx hux
  rw [q4] at e
  exact hL (hi.inj β γ b1 b q2 hb q3 hu e ▸ q1)
 have hev : Evo w H ι Im w' (qf (xc (backTo L nx) H') H) (mh ι ι' L nx H'.length) Im' := by
  refine ⟨fun β b hb => ?_,he.im,fun b h => ?_,fun γ x hx hu => ?_,fun b hb hn => ?_,he.size,he.io⟩
  ·by_cases hL : β ∈ L
   ·obtain ⟨q1,q2⟩ := hs.conn (ι := ι) hL b hb
    obtain ⟨b',q3,q4⟩ := he.comp _ _ q1
    have q5 := hget q3
    have e : backTo L nx (pos L β) = β := g1 (q4o L β hL)
    rw [e] at q5
    refine ⟨_,q5, ?_⟩
    have := hplace (pos L β) (Nat.lt_of_lt_of_le (qbx hL) hlen)
    rw [e] at this
    rw [this,← q2]
    exact zav q4
   ·rcases hcase β with ⟨j,e,hj⟩ | ⟨h1,h2⟩
    ·exfalso
     by_cases hjl : j < L.length
     ·have a1 : L[j]? = some L[j] := by simp [hjl]
      rw [g1 a1] at e
      exact hL (e ▸ List.mem_of_getElem? a1)
     ·rw [g2 (by omega)] at e
      have := (hnx β b hb).imp id (hX β)
      omega
    ·exact ⟨b,by rw [h2,hb],by rw [hpl2 β b hL hb]; exact q1r _ _⟩
  ·rcases he.imnew b h with h | h | ⟨i,x,h1,h2,h3⟩
   ·exact .inl h
   ·exact .inr (.inl h)
   ·obtain ⟨β,b1,q1,q2,q3,q4⟩ := live0 h1 h2
    exact .inr (.inr ⟨β,b1,q2,q3,by rw [← q4]; exact h3⟩)
  ·rcases hcase γ with ⟨j,rfl,hj⟩ | ⟨h1,h2⟩
   ·rw [hplace j hj]
    cases hb' : H'.get j with
    | none =>
     exfalso
     have key : ∀ (H : Heap) (i : Nat),zw i H = true → ∀ j,i ≤ j → j < i + H.length → H.get j ≠ none := by
      intro H
      induction H with
      | nil => intro i _ j h1 h2; simp at h2; omega
      | cons y r ih =>
       intro i hk j h1 h2
       obtain ⟨k,b⟩ := y
       simp only [zw,Bool.and_eq_true,decide_eq_true_eq] at hk
       obtain ⟨rfl,hk⟩ := hk
       simp only [Heap.get]
       split
       ·simp
       ·exact ih (k + 1) hk j (by omega) (by simp only [List.length_cons] at h2; omega)
     exact key H' 0 hk j (Nat.zero_le _) (by omega) hb'
    | some b' =>
     rw [hget hb'] at hx
     cases hx
     rw [Blk.uo] at hu
     rcases he.plnew j b' hb' hu with h | ⟨i,x,q1,q2,q3⟩
     ·exact .inl h
     ·obtain ⟨β,b1,r1,r2,r3,r4⟩ := live0 q1 q2
      exact .inr ⟨β,b1,r2,r3,by rw [← r4]; exact q3⟩
   ·rw [h2] at hx
    exact .inr ⟨γ,x,hx,hu,by rw [hpl2 γ x (hnotL γ h1) hx]⟩
  ·refine he.same b hb fun i x hx hux e => ?_
   obtain ⟨β,b1,q1,q2,q3,q4⟩ := live0 hx hux
   exact hn β b1 q2 q3 (by rw [← q4]; exact e)
 have conn : ∀ γ c,H'.get γ = some c → (qf (xc (backTo L nx) H') H).get (backTo L nx γ) = some (c.ren (backTo L nx)) ∧ mh ι ι' L nx H'.length (backTo L nx γ) = ι' γ :=
  fun γ c h => ⟨hget h,hplace γ (by have := (q2h H' 0 hk h).2; omega)⟩
 have lt' : ∀ {j : Nat} {b : Blk},H'.get j = some b → j < H'.length := fun h => by have := (q2h H' 0 hk h).2; omega
 have split : ∀ {γ b},(qf (xc (backTo L nx) H') H).get γ = some b → (∃ j b',γ = backTo L nx j ∧ H'.get j = some b' ∧ b = b'.ren (backTo L nx)) ∨ (γ ∉ L ∧ H.get γ = some b) := by
  intro γ b h
  rcases hcase γ with ⟨j,rfl,hj⟩ | ⟨h1,h2⟩
  ·cases hb' : H'.get j with
   | some b' =>
    rw [hget hb'] at h
    cases h
    exact .inl ⟨j,b',rfl,hb',rfl⟩
   | none =>
    exfalso
    have key : ∀ (H : Heap) (i : Nat),zw i H = true → ∀ j,i ≤ j → j < i + H.length → H.get j ≠ none := by
     intro H
     induction H with
     | nil => intro i _ j h1 h2; simp at h2; omega
     | cons y r ih =>
      intro i hk j h1 h2
      obtain ⟨k,b⟩ := y
      simp only [zw,Bool.and_eq_true,decide_eq_true_eq] at hk
      obtain ⟨rfl,hk⟩ := hk
      simp only [Heap.get]
      split
      ·simp
      ·exact ih (k + 1) hk j (by omega) (by simp only [List.length_cons] at h2; omega)
    exact key H' 0 hk j (Nat.zero_le _) (by omega) hb'
  ·rw [h2] at h
   exact .inr ⟨hnotL γ h1,h⟩
 have cross : ∀ {j b' γ b},H'.get j = some b' → b'.used = true → γ ∉ L → H.get γ = some b → b.used = true → (ι' j).b ≠ (ι γ).b := by
  intro j b' γ b h1 u1 hL h2 u2 e
  rcases he.plnew j b' h1 u1 with h | ⟨i,x,q1,q2,q3⟩
  ·have := (hi.blk γ b h2).lt u2
   omega
  ·obtain ⟨β,b1,r1,r2,r3,r4⟩ := live0 q1 q2
   rw [r4] at q3
   exact hL (hi.inj β γ b1 b r2 h2 r3 u2 (q3.trans e) ▸ r1)
 refine ⟨⟨fun γ b h => ?_,fun γ γ' b b' h h' u u' e => ?_,hi'.im,fun γ b h hu => ?_⟩,hev,fun {r v} hr => q2k _ hr fun γ _ c hc => conn γ c hc,fun γ b h => ?_⟩
 ·rcases split h with ⟨j,b',rfl,hb',rfl⟩ | ⟨hL,hb⟩
  ·exact (hi'.blk j b' hb').ren _ (hplace j (lt' hb')) fun γ _ c hc => conn γ c hc
  ·exact (hi.blk γ b hb).mono hi hev fun hu => ⟨hpl2 γ b hL hb,hsame γ b hL hb hu⟩
 ·rcases split h with ⟨j,c,rfl,hc,rfl⟩ | ⟨hL,hb⟩
  ·rcases split h' with ⟨j',c',rfl,hc',rfl⟩ | ⟨hL',hb'⟩
   ·rw [hplace _ (lt' hc),hplace _ (lt' hc')] at e
    rw [Blk.uo] at u u'
    rw [hi'.inj j j' c c' hc hc' u u' e]
   ·rw [hplace _ (lt' hc),hpl2 γ' b' hL' hb'] at e
    rw [Blk.uo] at u
    exact absurd e (cross hc u hL' hb' u')
  ·rcases split h' with ⟨j',c',rfl,hc',rfl⟩ | ⟨hL',hb'⟩
   ·rw [hplace _ (lt' hc'),hpl2 γ b hL hb] at e
    rw [Blk.uo] at u'
    exact absurd e.symm (cross hc' u' hL hb u)
   ·rw [hpl2 γ b hL hb,hpl2 γ' b' hL' hb'] at e
    exact hi.inj γ γ' b b' hb hb' u u' e
 ·rcases split h with ⟨j,c,rfl,hc,rfl⟩ | ⟨hL,hb⟩
  ·rw [hplace _ (lt' hc)]
   rw [Blk.uo] at hu
   exact hi'.nim j c hc hu
  ·rw [hpl2 γ b hL hb]
   intro hIm
   rcases he.imnew _ hIm with h | h | ⟨i,x,q1,q2,q3⟩
   ·exact hi.nim γ b hb hu h
   ·have := (hi.blk γ b hb).lt hu
    omega
   ·obtain ⟨β,b1,r1,r2,r3,r4⟩ := live0 q1 q2
    rw [r4] at q3
    exact hL (hi.inj β γ b1 b r2 hb r3 hu q3 ▸ r1)
 ·rcases split h with ⟨j,c,rfl,hc,rfl⟩ | ⟨hL,hb⟩
  ·have h2 := (q2h H' 0 hk hc).2
   by_cases hj : j < L.length
   ·have a1 : L[j]? = some L[j] := by simp [hj]
    rw [g1 a1]
    obtain ⟨b1,hb1,_⟩ := hs.has _ (List.mem_of_getElem? a1)
    exact (hnx _ b1 hb1).imp (fun h => by omega) id
   ·rw [g2 (by omega)]
    exact .inl (by omega)
  ·exact (hnx γ b hb).imp (fun h => by omega) id
end
end Go.Gm
namespace Go.Gm
open Go
def q5b (P : Program) (f : FuncId) (args : List AV) (H : Heap) (r : AV) (H' : Heap) : Prop :=
 ∀ (w : World) (ι : Plc) (Im : Nat → Prop) (vs : List Value),qa w H ι Im → args.length = vs.length → (∀ (i : Nat) x v,args[i]? = some x → vs[i]? = some v → RA w H ι Im x v) →
  Calls P f ⟨vs⟩ w fun e w' => ∃ v ι' Im',e = .returned v ∧ qa w' H' ι' Im' ∧ Evo w H ι Im w' H' ι' Im' ∧ RA w' H' ι' Im' r v
def enters (P : Program) (f : FuncId) : Prop := ∃ fn,P.funcs[f]? = some fn ∧ (fn.name == "runtime.NumGoroutine") = false ∧ fn.body.isSome = true
structure SoundCall (P : Program) (O : ql) : Prop where
 call : ∀ f args H r H',O.call f args H = some (r,H') → enters P f ∧ q5b P f args H r H'
section
variable {P : Program} {w : World} {H : Heap} {ι : Plc} {Im : Nat → Prop}
theorem qv0 {f : FuncId} (h : enters P f) (args : Array Value) : (callFunc f args).run P w = .ok (.enter f args) w := by
 obtain ⟨fn,h1,h2,h3⟩ := h
 unfold callFunc
 have h3' : fn.body.isNone = false := by cases hb : fn.body <;> simp [hb] at h3 ⊢
 simp only [Sem.run_bind,run_program,Result.andThen_ok,h1,h2,Bool.false_eq_true,if_false,h3',Sem.run_pure]
theorem qe0 {O : ql} (hO : SoundCall P O) (hi : qa w H ι Im) {nx : Nat} {X : Nat → Prop} (hnx : Bd X H nx) {f : FuncId} {args : List AV} {vs : List Value}
  (hl : args.length = vs.length) (hR : ∀ (i : Nat) x v,args[i]? = some x → vs[i]? = some v → RA w H ι Im x v) {e : Eff} (hr : jq O f args H nx = some e) (hX : ∀ γ,X γ → e.2.2 ≤ γ) :
  enters P f ∧ Calls P f ⟨vs⟩ w fun en w' => ∃ v ι' Im',en = .returned v ∧ qa w' (qf e.2.1 H) ι' Im' ∧ Evo w H ι Im w' (qf e.2.1 H) ι' Im' ∧ RA w' (qf e.2.1 H) ι' Im' e.1 v ∧
   nx ≤ e.2.2 ∧ Bd X (qf e.2.1 H) e.2.2 := by
 unfold jq at hr
 split at hr
 ·cases hr
 rename_i L H0 hsub
 split at hr
 ·cases hr
 rename_i v H' hcall
 split at hr <;> cases hr
 rename_i hk
 obtain ⟨hs,hroots,_⟩ := q6w List.nodup_nil hsub
 obtain ⟨hent,hok⟩ := hO.call f _ H0 v H' hcall
 refine ⟨hent, ?_⟩
 have := hok w (jb ι L) Im vs (hs.hinv hi) (by rw [q0h,hl]) (fun i x v h1 h2 => by
  rw [uq] at h1
  simp only [Option.map_eq_some_iff] at h1
  obtain ⟨y,hy,rfl⟩ := h1
  exact q2k _ (hR i y v hy h2) fun β hβ b hb => hs.conn (hroots β (jh hy hβ)) b hb)
 refine this.mono fun en w' ⟨u,ι',Im',h1,h2,h3,h4⟩ => ?_
 obtain ⟨b1,b2,b3,b4⟩ := qnz hs hi hnx h2 h3 hk hX
 exact ⟨u,_,Im',h1,b1,b2,b3 h4,Nat.le_add_right _ _,b4⟩
theorem Act.qpk (a : Act) (d : Option Tmp) (v : Value) (t : Nat) : (a.put d v).tmps.getD t undef = if d = some t ∧ t < a.tmps.size then v else a.tmps.getD t undef := by
 cases d with
 | none => simp [Act.put]
 | some d =>
  simp only [Act.put,Option.some.injEq]
  by_cases h : d = t
  ·subst h
   by_cases h2 : d < a.tmps.size
   ·simp [h2,Array.getD]
   ·simp [h2,Array.getD]
  ·rw [if_neg (fun h' => h h'.1)]
   simp only [Array.getD,Array.size_setIfInBounds]
   split
   ·rw [Array.getInternal_eq_getElem,Array.getInternal_eq_getElem,Array.getElem_setIfInBounds_ne]
    exact h
   ·rfl
theorem Act.q76 (a : Act) (d : Option Tmp) (v : Value) : (a.put d v).tmps.size = a.tmps.size := by
 cases d <;> simp [Act.put]
theorem Act.put_defers (a : Act) (d : Option Tmp) (v : Value) : (a.put d v).defers = a.defers := by
 cases d <;> rfl
theorem q0w (d : Option Tmp) (v : AV) (E : Env) (t : Nat) : (zn d v E).get t = if d = some t then v else E.get t := by
 cases d with
 | none => simp [zn]
 | some d => simp [zn,Env.get]
theorem q5j {a : Act} {E : Env} {nt : Nat} (hE : ∀ t,RA w H ι Im (E.get t) (a.tmps.getD t undef)) (hsz : nt ≤ a.tmps.size) {d : Option Tmp} (hd : ∀ t,d = some t → t < nt)
  {x : AV} {v : Value} (hx : RA w H ι Im x v) : ∀ t,RA w H ι Im ((zn d x E).get t) ((a.put d v).tmps.getD t undef) := by
 intro t
 rw [q0w,Act.qpk]
 by_cases h : d = some t
 ·rw [if_pos h,if_pos ⟨h,Nat.lt_of_lt_of_le (hd t h) hsz⟩]
  exact hx
 ·rw [if_neg h,if_neg (fun h' => h h'.1)]
  exact hE t
theorem qa6 : RA w H ι Im (.tup []) Go.undef := .tup [] [] rfl (by simp)
def q35 (nt : Nat) (ops : List Oper) : Prop := ∀ o ∈ ops,∀ t,o.dst = some t → t < nt
def After (w : World) (H : Heap) (ι : Plc) (Im : Nat → Prop) (nt : Nat) (s : St) (a : Act) (w' : World) : Prop :=
 ∃ ι' Im',Inv w' a s ι' Im' nt ∧ Evo w H ι Im w' s.heap ι' Im'
theorem After.from {w1 : World} {H1 : Heap} {ι1 : Plc} {Im1 : Nat → Prop} {nt : Nat} {s : St} {a : Act} {w' : World} (h : After w1 H1 ι1 Im1 nt s a w') (he : Evo w H ι Im w1 H1 ι1 Im1) :
  After w H ι Im nt s a w' :=
 let ⟨ι',Im',h1,h2⟩ := h
 ⟨ι',Im',h1,he.trans h2⟩
theorem qcb {a : Act} {o : Oper} {t : TypeId} {z : Operand} (hoo : o.op = .box t z) {u : Value} {w' : World} (h : (Instr.box t (a.eval z)).run P w = .ok u w') :
  (execOp a.eval o).run P w = .ok (.value u) w' := by
 unfold execOp
 simp only [hoo]
 simp [h]
theorem qcu {G : GP} {O : ql} (hG : xk P G) (hO : SoundCall P O) {a : Act} {E : Env} {nx : Nat} (hi : qa w H ι Im) (henv : ∀ t,RA w H ι Im (E.get t) (a.tmps.getD t undef))
  {X : Nat → Prop} (hnx : Bd X H nx) (o : Oper) {x : AV} {ws : List (Nat × Blk)} {nx' : Nat} (hop : aop G O o.op E H nx = some (x,ws,nx')) (hX : ∀ γ,X γ → nx' ≤ γ)
  (next : Act → World → Prop) (Q : Exit → Act → World → Prop)
  (fin : ∀ (u : Value) (w' : World) (ι' : Plc) (Im' : Nat → Prop),qa w' (qf ws H) ι' Im' → Evo w H ι Im w' (qf ws H) ι' Im' → RA w' (qf ws H) ι' Im' x u →
   Bd X (qf ws H) nx' → next (a.put o.dst u) w') :
  o.wp P a w next Q := by
 unfold Oper.wp
 cases hc : q57 o.op with
 | false =>
  obtain ⟨u,w',h1,ι',h2,h3,h4,h5,h6⟩ := zbk hG hi hnx henv O o hc hop hX
  rcases h1 with h1 | ⟨h1,rfl⟩
  ·rw [h1]
   exact fin _ _ _ _ h2 h3 h4 h6
  ·rw [h1]
   exact fin _ _ _ _ h2 h3 h4 h6
 | true =>
  by_cases hbx : ∃ t z,o.op = .box t z
  ·obtain ⟨t,z,hoo⟩ := hbx
   rw [hoo] at hop
   unfold aop at hop
   simp only at hop
   split at hop
   rotate_left
   ·cases hop
   rename_i hs
   unfold q78 at hop
   split at hop
   ·split at hop <;> cases hop
    rename_i l hl
    obtain ⟨u,w',Im',h1,h2,h3,h4⟩ := qrd (P := P) (t := t) hi (uj henv z) hs hl
    rw [qcb hoo h1]
    exact fin _ _ _ _ h2 h3 h4 hnx
   ·cases hop
    obtain ⟨u,w',h1,ι',h2,h3,h4,h5,h6⟩ := qog (P := P) (t := t) hi hnx (mi hX) (uj henv z) hs
    rw [qcb hoo h1]
    exact fin _ _ _ _ h2 h3 h4 h6
  obtain ⟨fo,args,tys,hoo⟩ : ∃ fo args tys,o.op = .call { callee := .value fo,args := args,argTypes := tys } := by
   cases ho : o.op <;> simp [q57,ho] at hc
   ·exact absurd ⟨_,_,ho⟩ hbx
   rename_i c
   obtain ⟨callee,args,tys⟩ := c
   cases callee <;> simp at hc
   exact ⟨_,_,_,rfl⟩
  rw [hoo] at hop
  have hargs : args.map a.eval = ⟨args.toList.map a.eval⟩ := by apply Array.ext'; simp
  have hval : ∀ (f : FuncId) (first cap : Array Value),a.eval fo = .func (.func f) first cap → enters P f →
    (execOp a.eval o).run P w = .ok (.enter f (first ++ args.map a.eval ++ cap)) w := by
   intro f first cap hf hent
   unfold execOp
   simp only [hoo,resolve,hf,Deferred.ofValue,Sem.run_bind,Sem.run_pure,Result.andThen_ok,invoke,qv0 hent]
  have hfo := uj henv fo
  have hlist := qea henv args.toList
  unfold aop at hop
  simp only at hop
  have finish : ∀ (f : FuncId) (vs : List Value) (e : Eff),(x,ws,nx') = e → (Calls P f ⟨vs⟩ w fun en w' => ∃ v ι' Im',en = .returned v ∧ qa w' (qf e.2.1 H) ι' Im' ∧ Evo w H ι Im w' (qf e.2.1 H) ι' Im' ∧ RA w' (qf e.2.1 H) ι' Im' e.1 v ∧
    nx ≤ e.2.2 ∧ Bd X (qf e.2.1 H) e.2.2) → o.upon P a next Q (.ok (.enter f ⟨vs⟩) w) := by
   intro f vs e he hcall
   subst he
   show Calls P f ⟨vs⟩ w _
   refine hcall.mono fun en w' ⟨v,ι',Im',q1,q2,q3,q4,q5,q6⟩ => ?_
   subst q1
   exact fin _ _ _ _ q2 q3 q4 q6
  split at hop
  ·rename_i f hf
   rw [hf] at hfo
   have hp := hfo.zm
   generalize hv : a.eval fo = vf at hp
   cases hp
   obtain ⟨hent,hcall⟩ := qe0 hO hi hnx (vs := args.toList.map a.eval) (by simp) hlist hop hX
   rw [hval f #[] #[] hv hent,hargs]
   have : (#[] ++ (⟨args.toList.map a.eval⟩ : Array Value) ++ #[]) = ⟨args.toList.map a.eval⟩ := by simp
   rw [this]
   exact finish f _ _ rfl hcall
  ·rename_i f fa fb hf
   rw [hf] at hfo
   generalize hv : a.eval fo = vf at hfo
   cases hfo with
   | clo _ _ _ va vb hla hlb ha hb =>
    obtain ⟨hent,hcall⟩ := qe0 hO hi hnx (vs := va ++ args.toList.map a.eval ++ vb) (by simp [hla,hlb]) (fun i z v h1 h2 => by
     rw [List.getElem?_append] at h1 h2
     have hlen : (fa ++ args.toList.map (ev E)).length = (va ++ args.toList.map a.eval).length := by simp [hla]
     rw [← hlen] at h2
     split at h1
     ·rename_i hc1
      rw [if_pos hc1] at h2
      rw [List.getElem?_append] at h1 h2
      rw [← hla] at h2
      split at h1
      ·rename_i hc2
       rw [if_pos hc2] at h2
       exact ha i z v h1 h2
      ·rename_i hc2
       rw [if_neg hc2] at h2
       exact hlist _ z v h1 h2
     ·rename_i hc1
      rw [if_neg hc1] at h2
      exact hb _ z v h1 h2) hop hX
    rw [hval f _ _ hv hent,hargs]
    have : ((⟨va⟩ : Array Value) ++ (⟨args.toList.map a.eval⟩ : Array Value) ++ (⟨vb⟩ : Array Value)) = ⟨va ++ args.toList.map a.eval ++ vb⟩ := by simp
    rw [this]
    exact finish f _ _ rfl hcall
  ·cases hop
theorem z0s {G : GP} {O : ql} (hG : xk P G) (hO : SoundCall P O) {nt : Nat} {a : Act} {s s' : St} (h : Inv w a s ι Im nt) (o : Oper) (hd : ∀ t,o.dst = some t → t < nt)
  (hr : pg G O o s = some s') (next : Act → World → Prop) (Q : Exit → Act → World → Prop) (hn : ∀ a' w',After w s.heap ι Im nt s' a' w' → next a' w') :
  o.wp P a w next Q := by
 unfold pg at hr
 split at hr <;> cases hr
 rename_i x ws nx' hop
 refine qcu hG hO h.heap h.env (X := fun _ => False) (fun β b hb => .inl (h.nx β b hb)) o hop (fun _ h => h.elim) next Q fun u w' ι' Im' h1 h2 h3 h4 => ?_
 refine hn _ _ ⟨ι',Im',⟨h1, ?_,fun β b hb => (h4 β b hb).resolve_right id,by rw [Act.q76]; exact h.size,by rw [Act.put_defers]; exact h.defers⟩,h2⟩
 exact q5j (fun t => (h.env t).mono h.heap h2) h.size hd h3
end
end Go.Gm
namespace Go.Gm
open Go
section
variable {P : Program} {w : World} {H : Heap} {ι : Plc} {Im : Nat → Prop}
theorem q7y {ops : Array Oper} {a : Act} {E : Env} (hE : ∀ t,RA w H ι Im (E.get t) (a.tmps.getD t undef)) {o : Oper} {b : Bool} (h : guardOf ops.toList o E = some b) :
  Region.wanted o (yielded ops a.tmps) = b := by
 unfold guardOf at h
 unfold Region.wanted
 split at h
 ·rename_i hg
  rw [hg]
  cases h
  rfl
 ·rename_i j want hg
  rw [hg]
  simp only
  split at h
  ·rename_i oj hoj
   have hoj' : ops[j]? = some oj := by rw [← Array.getElem?_toList]; exact hoj
   split at h
   ·rename_i d hd
    have hyd : yielded ops a.tmps j = match a.tmps[d]? with | some (.bool b) => some b | _ => none := by
     simp only [yielded,hoj',Option.bind_some,hd]
     rfl
    rw [hyd]
    have hr := hE d
    have hgd : a.tmps.getD d undef = (a.tmps[d]?).getD undef := by
     simp [Array.getD,getElem?_def]
     split <;> simp [*]
    rw [hgd] at hr
    split at h
    ·rename_i b0 hb0
     cases h
     rw [hb0] at hr
     have hp := hr.zm
     cases ht : a.tmps[d]? with
     | none => rw [ht] at hp; cases hp
     | some v =>
      rw [ht] at hp
      simp only [Option.getD_some] at hp
      cases hp
      simp only
      cases b0 <;> cases want <;> rfl
    ·rename_i hb0
     cases h
     rw [hb0] at hr
     cases ht : a.tmps[d]? with
     | none => rfl
     | some v =>
      rw [ht] at hr
      simp only [Option.getD_some] at hr
      cases hr with
      | tup _ vs => rfl
    ·cases h
   ·rename_i hd
    cases h
    have : yielded ops a.tmps j = none := by simp [yielded,hoj',hd]
    rw [this]
    rfl
  ·rename_i hoj
   cases h
   have hoj' : ops[j]? = none := by rw [← Array.getElem?_toList]; exact hoj
   have : yielded ops a.tmps j = none := by simp [yielded,hoj']
   rw [this]
   rfl
theorem qo2 {a : Act} {s : St} {nt : Nat} (h : Inv w a s ι Im nt) (d : Option Tmp) (hd : ∀ t,d = some t → t < nt) :
  Inv w (a.put d undef) { s with env := zn d (.tup []) s.env } ι Im nt where
 heap := h.heap
 env := q5j h.env h.size hd qa6
 nx := h.nx
 size := by rw [Act.q76]; exact h.size
 defers := by rw [Act.put_defers]; exact h.defers
theorem q9i {G : GP} {O : ql} (hG : xk P G) (hO : SoundCall P O) {nt : Nat} (ops : Array Oper) (hd : q35 nt ops.toList) (Q : Exit → Act → World → Prop) :
  ∀ (rest : List Oper) (k : Nat),ops.toList.drop k = rest → ∀ {w : World} {ι : Plc} {Im : Nat → Prop} {a : Act} {s s' : St},Inv w a s ι Im nt → jo G O ops.toList rest s = some s' →
   (∀ a' w',After w s.heap ι Im nt s' a' w' → Q .normal a' w') → wpOps P ops Q (List.range' k rest.length) a w
 | [],k,_,w,ι,Im,a,s,s',h,hr,hq => by
  cases hr
  exact hq a w ⟨ι,Im,h,Evo.refl _ _ _ _⟩
 | o :: rest,k,hrest,w,ι,Im,a,s,s',h,hr,hq => by
  have hk : ops.toList[k]? = some o := by
   have := congrArg (fun l => l[0]?) hrest
   simpa using this
  have hk' : ops[k]? = some o := by rw [← Array.getElem?_toList]; exact hk
  have hrest' : ops.toList.drop (k + 1) = rest := by
   have := congrArg (fun l => l.drop 1) hrest
   simpa [List.drop_drop] using this
  have hdo : ∀ t,o.dst = some t → t < nt := hd o (List.mem_of_getElem? hk)
  simp only [List.length_cons,List.range'_succ,wpOps,hk']
  simp only [jo] at hr
  split at hr
  ·rename_i hg
   rw [q7y h.env hg,if_pos rfl]
   obtain ⟨Im1,h1,e1⟩ := q3t (needs G o.op s.env) h
   split at hr
   rotate_left
   ·cases hr
   rename_i s1 hs1
   refine .inl (z0s hG hO h1 o hdo hs1 _ _ fun a' w' haft => ?_)
   obtain ⟨ι2,Im2,h2,e2⟩ := haft
   exact q9i hG hO ops hd Q rest (k + 1) hrest' h2 hr fun a'' w'' h3 => hq a'' w'' (h3.from (e1.trans e2))
  ·rename_i hg
   rw [q7y h.env hg,if_neg (by simp)]
   exact q9i hG hO ops hd Q rest (k + 1) hrest' (qo2 h o.dst hdo) hr fun a'' w'' h3 => hq a'' w'' h3
  ·cases hr
theorem qfn {G : GP} {O : ql} (hG : xk P G) (hO : SoundCall P O) {nt : Nat} (id : Nat) (ops : Array Oper) (hd : q35 nt ops.toList)
  {a : Act} {s s' : St} (h : Inv w a s ι Im nt) (hr : jo G O ops.toList ops.toList s = some s') (Q : Exit → Act → World → Prop)
  (hq : ∀ a' w',After w s.heap ι Im nt s' a' w' → Q .normal a' w') : (Code.region id ops false).wp P Q a w := by
 refine wp_region ?_
 have := q9i hG hO ops hd Q ops.toList 0 (by simp) h hr hq
 rw [List.range_eq_range']
 simpa using this
end
end Go.Gm
namespace Go.Gm
open Go
def agree (L : List Nat) (H H' : Heap) : Prop := ∀ γ ∈ L,H'.get γ = H.get γ
section
variable {H H' : Heap}
theorem agree.app {A B : List Nat} (h : agree (A ++ B) H H') : agree A H H' ∧ agree B H H' :=
 ⟨fun γ hγ => h γ (by simp [hγ]),fun γ hγ => h γ (by simp [hγ])⟩
theorem zdb {ti : TI} {a : AV} (h : agree a.refs H H') : uu ti a H' = uu ti a H := by
 cases a <;> simp only [uu]
 ·rename_i p; cases p <;> rfl
 ·rename_i β o; rw [h β (by simp [AV.refs])]
 ·rename_i β v i o; rw [h β (by simp [AV.refs])]
theorem qlv {ti : TI} {a v : AV} (h : agree a.refs H H') : pq ti a v H' = pq ti a v H := by
 cases a <;> simp only [pq]
 ·rename_i β o; rw [h β (by simp [AV.refs])]
 ·rename_i β v i o; rw [h β (by simp [AV.refs])]
theorem q9q {v : AV} (h : agree v.refs H H') : xh v H' = xh v H := by
 cases v with
 | pv p => cases p <;> first | rfl | (rename_i b _ _; cases b <;> rfl)
 | row β ver off n => simp only [xh]; rw [h β (by simp [AV.refs])]
 | _ => rfl
theorem qi1 {v : AV} (h : agree v.refs H H') : mq v H' = mq v H := by
 cases v with
 | row β ver off n => simp only [mq]; rw [h β (by simp [AV.refs])]
 | _ => rfl
theorem zel {te : TI} {s x : AV} {nx : Nat} (h1 : agree s.refs H H') (h2 : agree x.refs H H') : wz te s x H' nx = wz te s x H nx := by
 unfold wz
 rw [qi1 h2]
 cases s with
 | row β ver off n => simp only; rw [h1 β (by simp [AV.refs])]
 | pv p => cases p <;> first | rfl | (rename_i b _ _; cases b <;> rfl)
 | _ => rfl
theorem qf8 {te : TI} {s x : AV} {nx : Nat} (h1 : agree s.refs H H') (h2 : agree x.refs H H') : jd te s x H' nx = jd te s x H nx := by
 unfold jd
 rw [q9q h2,zel h1 h2]
 cases s with
 | row β ver off n => simp only; rw [h1 β (by simp [AV.refs])]
 | pv p => cases p <;> first | rfl | (rename_i b _ _; cases b <;> rfl)
 | _ => rfl
theorem qjf {te : TI} {s x : AV} {nx : Nat} (h1 : agree s.refs H H') (h2 : agree x.refs H H') : bu te s x H' nx = bu te s x H nx := by
 unfold bu
 rw [q9q h2]
 cases s with
 | row β ver off n => simp only; rw [h1 β (by simp [AV.refs])]
 | pv p => cases p <;> first | rfl | (rename_i b _ _; cases b <;> rfl)
 | _ => rfl
theorem qzu {td : TD} {esz : TypeId → Option TI} {x i : AV} (h : agree x.refs H H') : q0u td esz x i H' = q0u td esz x i H := by
 unfold q0u
 cases x with
 | row β ver off n =>
  simp only
  rw [h β (by simp [AV.refs])]
 | pv p => cases p <;> first | rfl | (rename_i b _ _; cases b <;> rfl)
 | _ => rfl
theorem qqd {td : TD} {esz : TypeId → Option TI} {ρ : Operand → AV} {x : AV} {lo hi mx : Option Operand} (h : agree x.refs H H') : gp td esz ρ x lo hi mx H' = gp td esz ρ x lo hi mx H := by
 unfold gp
 cases x with
 | row β ver off n =>
  simp only
  rw [h β (by simp [AV.refs])]
 | pv p => cases p <;> first | rfl | (rename_i b _ _; cases b <;> rfl)
 | _ => rfl
theorem qbq {td : TD} {v : AV} (h : agree v.refs H H') : zq td v H' = zq td v H := by
 unfold zq
 cases v with
 | row β ver off n =>
  simp only
  rw [h β (by simp [AV.refs])]
 | pv p => cases p <;> first | rfl | (rename_i b _ _; cases b <;> rfl)
 | _ => rfl
theorem qlo {esz : TypeId → Option TI} {ti : TI} {x y : AV} (h1 : agree x.refs H H') (h2 : agree y.refs H H') : aEq esz ti x y H' = aEq esz ti x y H := by
 unfold aEq
 split
 ·rfl
 ·rfl
 ·rw [qbq h1,qbq h2]
theorem qle {esz : TypeId → Option TI} {op : BinOp} {ti : TI} {x y : AV} (h1 : agree x.refs H H') (h2 : agree y.refs H H') : q1i esz op ti x y H' = q1i esz op ti x y H := by
 have e : aEq esz ti x y H' = aEq esz ti x y H := qlo h1 h2
 unfold q1i
 split
 ·rfl
 ·rfl
 ·split
  ·rfl
  ·rfl
  ·rw [e]
theorem zdg {src dst : TD} {dte : TypeId → Option TI} {x : AV} {nx : Nat} (h : agree x.refs H H') : nu src dst dte x H' nx = nu src dst dte x H nx := by
 have e : xh x H' = xh x H := q9q h
 unfold nu
 split <;> first | rfl | (rw [e])
theorem zf9 {m : AV} {k : PV} (h : agree m.refs H H') : q17 m k H' = q17 m k H := by
 cases m with
 | map β => simp only [q17]; rw [h β (by simp [AV.refs])]
 | pv p => cases p <;> first | rfl | (rename_i b _ _; cases b <;> rfl)
 | _ => rfl
theorem z7f {tk te : TI} {m k : AV} {ok : Bool} (h : agree m.refs H H') : q0m tk te m k ok H' = q0m tk te m k ok H := by
 cases k with
 | pv p => simp only [q0m,zf9 h]
 | _ => rfl
theorem qew {tk : TI} {m k : AV} {v : PV} (h : agree m.refs H H') : yo tk m k v H' = yo tk m k v H := by
 cases m <;> first | rfl | (cases k <;> first | rfl | (simp only [yo]; rw [h _ (by simp [AV.refs])]))
theorem qo7 {tk te : TI} {m k : AV} (h : agree m.refs H H') : uw tk te m k H' = uw tk te m k H := by
 cases m <;> first | rfl | (cases k <;> first | rfl | (simp only [uw]; rw [h _ (by simp [AV.refs])]))
theorem zfi {m st : AV} {v : PV} (h : agree m.refs H H') : yl m st v H' = yl m st v H := by
 cases m <;> first | rfl | (cases st <;> first | (rename_i p; cases p <;> first | rfl | (simp only [yl]; rw [h _ (by simp [AV.refs])])) | rfl | (simp only [yl]; rw [h _ (by simp [AV.refs])]))
theorem z0n {tk : TI} {m k : AV} (h : agree m.refs H H') : uk tk m k H' = uk tk m k H := by
 cases m <;> first | rfl | (cases k <;> first | rfl | (simp only [uk]; rw [h _ (by simp [AV.refs])])) | (rename_i p; cases p <;> first | rfl | (cases k <;> rfl))
theorem qzs {x : AV} (h : agree x.refs H H') : q09 x H' = q09 x H := by
 cases x with
 | row β ver off n => simp only [q09]; rw [h β (by simp [AV.refs])]
 | map β => simp only [q09]; rw [h β (by simp [AV.refs])]
 | pv p => cases p <;> first | rfl | (rename_i b _ _; cases b <;> rfl)
 | _ => rfl
theorem qh1 {G : GP} {b : Builtin} {tys : List TypeId} {args : List AV} {nx : Nat} (h : agree (AV.refs.refsL args) H H') : p9 G b tys args H' nx = p9 G b tys args H nx := by
 unfold p9
 split
 ·have h1 := (agree.app h).1
  simp only [qzs h1]
 ·rfl
 ·rfl
 ·rename_i s x
  have h1 : agree s.refs H H' := fun γ hγ => h γ (by simp [AV.refs.refsL,hγ])
  have h2 : agree x.refs H H' := fun γ hγ => h γ (by simp [AV.refs.refsL,hγ])
  simp only [qf8 h1 h2]
 ·rename_i s x
  have h1 : agree s.refs H H' := fun γ hγ => h γ (by simp [AV.refs.refsL,hγ])
  have h2 : agree x.refs H H' := fun γ hγ => h γ (by simp [AV.refs.refsL,hγ])
  simp only [qjf h1 h2]
 ·rename_i m k
  have h1 : agree m.refs H H' := fun γ hγ => h γ (by simp [AV.refs.refsL,hγ])
  simp only [z0n h1]
 ·rfl
theorem q7x : ∀ (n : Nat) (r d : List Nat),agree (reach H n r d) H H' → reach H' n r d = reach H n r d
 | 0,_,_,_ => rfl
 | n + 1,[],d,_ => rfl
 | n + 1,β :: r,d,h => by
  simp only [reach] at h ⊢
  by_cases c : um d β = true
  ·rw [if_pos c] at h ⊢
   rw [if_pos c]
   exact q7x n r d h
  ·rw [if_neg c] at h ⊢
   rw [if_neg c]
   have hin : β ∈ reach H n (r ++ (xq H β).refs) (d ++ [β]) := by
    have key : ∀ (n : Nat) (r d : List Nat) (x : Nat),x ∈ d → x ∈ reach H n r d := by
     intro n
     induction n with
     | zero => intro r d x hx; exact hx
     | succ n ih =>
      intro r d x hx
      cases r with
      | nil => exact hx
      | cons β r =>
       simp only [reach]
       split
       ·exact ih _ _ _ hx
       ·exact ih _ _ _ (by simp [hx])
    exact key _ _ _ _ (by simp)
   have hb : xq H' β = xq H β := by simp only [xq,h β hin]
   rw [hb]
   exact q7x n _ _ h
theorem qbd {L : List Nat} : ∀ (l : List Nat),agree l H H' → closedIn H' L l = closedIn H L l
 | [],_ => rfl
 | β :: r,h => by
  simp only [closedIn]
  rw [h β (by simp),qbd r fun γ hγ => h γ (by simp [hγ])]
theorem qbj {g : Nat → Nat} : ∀ (i : Nat) (l : List Nat),agree l H H' → pick H' g i l = pick H g i l
 | _,[],_ => rfl
 | i,β :: r,h => by
  simp only [pick]
  rw [qbj (i + 1) r fun γ hγ => h γ (by simp [hγ])]
  have : xq H' β = xq H β := by simp only [xq,h β (by simp)]
  rw [this]
theorem qx5 {roots : List Nat} (h : agree (reach H 400 roots []) H H') : yz H' [] roots = yz H [] roots := by
 cases roots with
 | nil => rfl
 | cons β r =>
  have h' : agree (reach H 400 ((β :: r) ++ ([] : List Nat).flatMap fun β => (xq H β).refs) []) H H' := by simpa using h
  have e := q7x 400 _ _ h'
  simp only [List.flatMap_nil] at e h'
  simp only [yz,List.flatMap_nil,e,qbd _ h',qbj 0 _ h']
theorem qed {O : ql} {f : FuncId} {args : List AV} {nx : Nat} (h : agree (reach H 400 (AV.refs.refsL args) []) H H') : jq O f args H' nx = jq O f args H nx := by
 unfold jq
 rw [qx5 h]
theorem qcc {ps : List (Nat × Operand)} {E E' : Env} (h : ∀ x ∈ ps.map (·.2),ev E' x = ev E x) : ∀ x ∈ ps,ev E' x.2 = ev E x.2 := fun x hx => h x.2 (List.mem_map.2 ⟨x,hx,rfl⟩)
theorem qao {place : Nat → Option (Nat × Nat)} {E E' : Env} : ∀ (l : List (Nat × Operand)) (c : List AV),(∀ x ∈ l,ev E' x.2 = ev E x.2) → yc place (ev E') l c = yc place (ev E) l c
 | [],_,_ => rfl
 | (i,x) :: r,c,h => by
  have hx : ev E' x = ev E x := h (i,x) (by simp)
  simp only [yc,hx]
  split
  ·split
   ·exact qao r _ fun y hy => h y (by simp [hy])
   ·rfl
  ·rfl
theorem qdg {size : Nat} {E E' : Env} : ∀ (l : List (Nat × Operand)) (c : List (List PV)),(∀ x ∈ l,ev E' x.2 = ev E x.2) → ug size (ev E') l c = ug size (ev E) l c
 | [],_,_ => rfl
 | (i,x) :: r,c,h => by
  have hx : ev E' x = ev E x := h (i,x) (by simp)
  simp only [ug,hx]
  split
  ·split
   ·exact qdg r _ fun y hy => h y (by simp [hy])
   ·rfl
  ·rfl
theorem qdb {size : Nat} {E E' : Env} : ∀ (l : List (Nat × Operand)) (c : List (List AV)),(∀ x ∈ l,ev E' x.2 = ev E x.2) → bf size (ev E') l c = bf size (ev E) l c
 | [],_,_ => rfl
 | (i,x) :: r,c,h => by
  have hx : ev E' x = ev E x := h (i,x) (by simp)
  simp only [bf,hx]
  split
  ·exact qdb r _ fun y hy => h y (by simp [hy])
  ·rfl
theorem q8d {E E' : Env} (l : List Operand) (h : ∀ x ∈ l,ev E' x = ev E x) : l.map (ev E') = l.map (ev E) := List.map_congr_left h
theorem za2 {G : GP} {O : ql} {o : Op} {E E' : Env} {nx : Nat} (hE : ∀ x ∈ o.operands,ev E' x = ev E x) (hH : agree (touched o E H) H H') : aop G O o E' H' nx = aop G O o E H nx := by
 cases o with
 | move x => simp only [aop,hE x (by simp [Op.operands])]
 | assign x => simp only [aop,hE x (by simp [Op.operands])]
 | pick c a b => simp only [aop,hE c (by simp [Op.operands]),hE a (by simp [Op.operands]),hE b (by simp [Op.operands])]
 | alloc t => rfl
 | box t x => simp only [aop,hE x (by simp [Op.operands])]
 | build t ps =>
  have h := qcc (ps := ps.toList) (E := E) (E' := E') (fun x hx => hE x (by simpa [Op.operands] using hx))
  simp only [aop,q45,qao _ _ h]
 | buildSlice t n ps =>
  have h := qcc (ps := ps.toList) (E := E) (E' := E') (fun x hx => hE x (by simpa [Op.operands] using hx))
  simp only [aop,qdg _ _ h,qdb _ _ h]
 | load t a => simp only [aop,hE a (by simp [Op.operands]),zdb hH]
 | store t a x => simp only [aop,hE a (by simp [Op.operands]),hE x (by simp [Op.operands]),qlv hH]
 | nilCheck x => simp only [aop,hE x (by simp [Op.operands])]
 | binOp op t x y z =>
  obtain ⟨h1,h2⟩ := agree.app hH
  simp only [aop,hE x (by simp [Op.operands]),hE y (by simp [Op.operands]),qle h1 h2]
 | unOp op t x => simp only [aop,hE x (by simp [Op.operands])]
 | convert s d x => simp only [aop,hE x (by simp [Op.operands]),zdg hH]
 | makeFunc fn a b =>
  cases fn with
  | func f =>
   have h1 := q8d a.toList (E := E) (E' := E') (fun x hx => hE x (by simp [Op.operands] at hx ⊢; exact .inl hx))
   have h2 := q8d b.toList (E := E) (E' := E') (fun x hx => hE x (by simp [Op.operands] at hx ⊢; exact .inr hx))
   simp only [aop]
   generalize a.toList = la at h1
   generalize b.toList = lb at h2
   cases la <;> cases lb <;> first | rfl | (simp only [h1,h2])
  | _ => rfl
 | makeMap t r => cases r <;> rfl
 | makeSlice t l c => simp only [aop,hE l (by simp [Op.operands]),hE c (by simp [Op.operands])]
 | slice t x lo hi mx =>
  have hx := hE x (by simp [Op.operands])
  have h1 : ∀ d,qy (ev E') d lo = qy (ev E) d lo := fun d => by cases lo with | none => rfl | some y => simp only [qy,hE y (by simp [Op.operands])]
  have h2 : ∀ d,qy (ev E') d hi = qy (ev E) d hi := fun d => by cases hi with | none => rfl | some y => simp only [qy,hE y (by simp [Op.operands])]
  have h3 : ∀ d,qy (ev E') d mx = qy (ev E) d mx := fun d => by cases mx with | none => rfl | some y => simp only [qy,hE y (by simp [Op.operands])]
  have key : ∀ td esz H,gp td esz (ev E') (ev E x) lo hi mx H = gp td esz (ev E) (ev E x) lo hi mx H := by
   intro td esz H
   unfold gp
   simp only [h1,h2,h3]
  simp only [aop,hx,key,qqd hH]
 | fieldAddr t x f => simp only [aop,hE x (by simp [Op.operands])]
 | field t x f => simp only [aop,hE x (by simp [Op.operands])]
 | indexAddr t x i => simp only [aop,hE x (by simp [Op.operands]),hE i (by simp [Op.operands]),qzu hH]
 | index t x i => simp only [aop,hE x (by simp [Op.operands]),hE i (by simp [Op.operands])]
 | lookup t m k ok => simp only [aop,hE m (by simp [Op.operands]),hE k (by simp [Op.operands]),z7f hH]
 | mapUpdate t m k x => simp only [aop,hE m (by simp [Op.operands]),hE k (by simp [Op.operands]),hE x (by simp [Op.operands]),qew hH]
 | insert t m k x => simp only [aop,hE m (by simp [Op.operands]),hE k (by simp [Op.operands]),hE x (by simp [Op.operands]),qew hH]
 | mapEntry t m k => simp only [aop,hE m (by simp [Op.operands]),hE k (by simp [Op.operands]),qo7 hH]
 | entryStore t m st x => simp only [aop,hE m (by simp [Op.operands]),hE st (by simp [Op.operands]),hE x (by simp [Op.operands]),zfi hH]
 | extract t i => simp only [aop,hE t (by simp [Op.operands])]
 | call c =>
  obtain ⟨callee,args,tys⟩ := c
  have ha := q8d args.toList (E := E) (E' := E') (fun x hx => hE x (by simp [Op.operands,Call.operands]; right; simpa using hx))
  cases callee with
  | builtin b => simp only [aop,ha,qh1 hH]
  | value f =>
   have hf := hE f (by simp [Op.operands,Call.operands])
   simp only [aop,hf,ha]
   simp only [touched] at hH
   split
   ·rename_i g hg
    rw [hg] at hH
    exact qed hH
   ·rename_i g a b hg
    rw [hg] at hH
    exact qed hH
   ·rfl
  | _ => rfl
 | _ => rfl
end
end Go.Gm
namespace Go.Gm
open Go
structure Rc where
 E : Env
 H : Heap
 nx : Nat
 on : Bool
 v : AV
 ws : List (Nat × Blk)
 nx' : Nat
 rd : List Nat
def Rc.keys (c : Rc) : List Nat := c.ws.map (·.1)
def uy (G : GP) (O : ql) (all : List Oper) : List Oper → List Rc → St → St → Prop
 | [],[],s,s' => s' = s
 | o :: r,c :: cs,s,s' => c.E = s.env ∧ c.H = s.heap ∧ c.nx = s.nx ∧ guardOf all o s.env = some c.on ∧
   (c.on = true → aop G O o.op s.env s.heap s.nx = some (c.v,c.ws,c.nx') ∧ c.rd = touched o.op s.env s.heap) ∧
   (c.on = false → c.v = .tup [] ∧ c.ws = [] ∧ c.nx' = s.nx ∧ c.rd = []) ∧ uy G O all r cs ⟨zn o.dst c.v s.env,qf c.ws s.heap,c.nx'⟩ s'
 | _,_,_,_ => False
def q3h : Nat → List Rc → List (Nat × List Nat × List Nat) → List (Nat × List Nat × List Nat)
 | _,[],log => log
 | i,c :: cs,log => q3h (i + 1) cs (if c.on = true then (i,c.rd,c.keys) :: log else log)
theorem q7u {G : GP} {O : ql} (all : List Oper) : ∀ {l : List Oper} {i : Nat} {s s' : St} {log : List (Nat × List Nat × List Nat)},jc G O all i l s log = some s' →
  ∃ cs,uy G O all l cs s s' ∧ vg (ja [] all) (q3h i cs log) = true
 | [],i,s,s',log,h => by
  simp only [jc] at h
  split at h <;> cases h
  rename_i hc
  exact ⟨[],rfl,hc⟩
 | o :: r,i,s,s',log,h => by
  simp only [jc] at h
  split at h
  ·rename_i hg
   split at h
   ·rename_i v ws nx hop
    obtain ⟨cs,h1,h2⟩ := q7u all h
    exact ⟨⟨s.env,s.heap,s.nx,true,v,ws,nx,touched o.op s.env s.heap⟩ :: cs,⟨rfl,rfl,rfl,hg,fun _ => ⟨hop,rfl⟩,(fun h => by cases h),h1⟩,h2⟩
   ·cases h
  ·rename_i hg
   obtain ⟨cs,h1,h2⟩ := q7u all h
   exact ⟨⟨s.env,s.heap,s.nx,false,.tup [],[],s.nx,[]⟩ :: cs,⟨rfl,rfl,rfl,hg,(fun h => by cases h),fun _ => ⟨rfl,rfl,rfl,rfl⟩,h1⟩,h2⟩
  ·cases h
theorem uy.len {G : GP} {O : ql} {all : List Oper} : ∀ {l : List Oper} {cs : List Rc} {s s' : St},uy G O all l cs s s' → cs.length = l.length
 | [],[],_,_,_ => rfl
 | [],_ :: _,_,_,h => h.elim
 | _ :: _,[],_,_,h => h.elim
 | _ :: r,_ :: cs,_,_,h => by simp [uy.len h.2.2.2.2.2.2]
theorem q5o : ∀ {l L : List Nat},kr l L = true → ∀ x ∈ l,x ∉ L
 | [],L,_,x,hx => by simp at hx
 | y :: r,L,h,x,hx => by
  simp only [kr,Bool.and_eq_true,Bool.not_eq_true'] at h
  rcases List.mem_cons.1 hx with rfl | hx
  ·intro hc
   rw [(q61 L x).2 hc] at h
   simp at h
  ·exact q5o h.2 x hx
def Apart (a b : Rc) : Prop := (∀ x ∈ a.keys,x ∉ b.rd) ∧ (∀ x ∈ a.keys,x ∉ b.keys) ∧ ∀ x ∈ a.rd,x ∉ b.keys
theorem qby {ms : List Nat} {j : Nat} {rd wr : List Nat} : ∀ {l : List (Nat × List Nat × List Nat)},q69 ms j rd wr l = true → ∀ e ∈ l,ordered ms e.1 j = true ∨ (kr e.2.2 rd = true ∧ kr e.2.2 wr = true ∧ kr e.2.1 wr = true)
 | [],_,e,he => by simp at he
 | (i,rdi,wri) :: r,h,e,he => by
  simp only [q69,Bool.and_eq_true,Bool.or_eq_true] at h
  rcases List.mem_cons.1 he with rfl | he
  ·rcases h.1 with h1 | ⟨⟨h1,h2⟩,h3⟩
   ·exact .inl h1
   ·exact .inr ⟨h1,h2,h3⟩
  ·exact qby h.2 e he
theorem qd5 {ms : List Nat} : ∀ (cs : List Rc) (i : Nat) (log : List (Nat × List Nat × List Nat)),vg ms (q3h i cs log) = true →
  vg ms log = true ∧ ∀ (b : Nat) (cb : Rc),cs[b]? = some cb → cb.on = true →
   (∀ e ∈ log,ordered ms e.1 (i + b) = true ∨ (kr e.2.2 cb.rd = true ∧ kr e.2.2 cb.keys = true ∧ kr e.2.1 cb.keys = true)) ∧
   ∀ (a : Nat) (ca : Rc),a < b → cs[a]? = some ca → ca.on = true → ordered ms (i + a) (i + b) = true ∨ Apart ca cb
 | [],i,log,h => ⟨h,by simp⟩
 | c :: cs,i,log,h => by
  simp only [q3h] at h
  obtain ⟨h1,h2⟩ := qd5 cs (i + 1) _ h
  have hlog : vg ms log = true := by
   split at h1
   ·simp only [vg,Bool.and_eq_true] at h1
    exact h1.2
   ·exact h1
  refine ⟨hlog,fun b cb hb hon => ?_⟩
  cases b with
  | zero =>
   simp only [List.getElem?_cons_zero,Option.some.injEq] at hb
   subst hb
   rw [if_pos hon] at h1
   simp only [vg,Bool.and_eq_true] at h1
   exact ⟨fun e he => qby h1.1 e he,fun a ca ha => by omega⟩
  | succ b =>
   simp only [List.getElem?_cons_succ] at hb
   obtain ⟨k1,k2⟩ := h2 b cb hb hon
   rw [show i + 1 + b = i + (b + 1) from by omega] at k1 k2
   refine ⟨fun e he => k1 e (by split <;> simp [he]),fun a ca ha hca hcon => ?_⟩
   cases a with
   | zero =>
    simp only [List.getElem?_cons_zero,Option.some.injEq] at hca
    subst hca
    rcases k1 (i,c.rd,c.keys) (by rw [if_pos hcon]; simp) with h | ⟨q1,q2,q3⟩
    ·exact .inl h
    ·exact .inr ⟨q5o q1,q5o q2,q5o q3⟩
   | succ a =>
    simp only [List.getElem?_cons_succ] at hca
    have := k2 a ca (by omega) hca hcon
    rwa [show i + 1 + a = i + (a + 1) from by omega] at this
theorem z2n {ms : List Nat} {o : Oper} {i : Nat} (h : (q6e ms o).testBit i = true) : ∃ e ∈ o.after,Region.binds .any e = true ∧ (i = e.on ∨ (ms.getD e.on 0).testBit i = true) := by
 have key : ∀ (l : List Edge) (m : Nat),(l.foldl (fun m e => if Region.binds .any e = true then m ||| (1 <<< e.on) ||| ms.getD e.on 0 else m) m).testBit i = true →
   m.testBit i = true ∨ ∃ e ∈ l,Region.binds .any e = true ∧ (i = e.on ∨ (ms.getD e.on 0).testBit i = true) := by
  intro l
  induction l with
  | nil => intro m h; exact .inl h
  | cons e l ih =>
   intro m h
   simp only [List.foldl_cons] at h
   rcases ih _ h with h | ⟨e',h1,h2,h3⟩
   ·split at h
    ·rename_i hb
     rw [Nat.testBit_or,Nat.testBit_or,Nat.one_shiftLeft,Nat.testBit_two_pow] at h
     simp only [Bool.or_eq_true,decide_eq_true_eq] at h
     rcases h with (h | h) | h
     ·exact .inl h
     ·exact .inr ⟨e,by simp,hb,.inl h.symm⟩
     ·exact .inr ⟨e,by simp,hb,.inr h⟩
    ·exact .inl h
   ·exact .inr ⟨e',by simp [h1],h2,h3⟩
 rcases key o.after.toList 0 h with h | ⟨e,h1,h2⟩
 ·simp at h
 ·exact ⟨e,by simpa using h1,h2⟩
theorem q7p : ∀ (os : List Oper) (ms : List Nat) (k : Nat),k < ms.length → (ja ms os).getD k 0 = ms.getD k 0
 | [],ms,k,_ => rfl
 | o :: r,ms,k,h => by
  simp only [ja]
  rw [q7p r _ k (by simp; omega)]
  simp [List.getElem?_append_left h]
theorem qc9 : ∀ (os : List Oper) (ms : List Nat) (j : Nat) (o : Oper),os[j]? = some o → ∃ ms' : List Nat,ms'.length = ms.length + j ∧ (ja ms os).getD (ms.length + j) 0 = q6e ms' o ∧
  ∀ k,k < ms.length + j → ms'.getD k 0 = (ja ms os).getD k 0
 | [],ms,j,o,h => by simp at h
 | o' :: r,ms,j,o,h => by
  simp only [ja]
  cases j with
  | zero =>
   simp only [List.getElem?_cons_zero,Option.some.injEq] at h
   subst h
   refine ⟨ms,by simp, ?_,fun k hk => ?_⟩
   ·rw [q7p r _ _ (by simp)]
    simp
   ·rw [q7p r _ k (by simp; omega)]
    simp at hk
    simp [List.getElem?_append_left hk]
  | succ j =>
   simp only [List.getElem?_cons_succ] at h
   obtain ⟨ms',h1,h2,h3⟩ := qc9 r (ms ++ [q6e ms o']) j o h
   simp only [List.length_append,List.length_singleton] at h1 h2 h3
   rw [show ms.length + 1 + j = ms.length + (j + 1) from by omega] at h1 h2 h3
   exact ⟨ms',h1,h2,h3⟩
def q9s (os : List Oper) : Bool := os.zipIdx.all fun x => x.1.after.toList.all fun e => !Region.binds .any e || decide (e.on < x.2)
def qdr (os : List Oper) (ms : List Nat) : Bool := (List.range os.length).all fun j => (List.range j).all fun i => ordered ms i j || match os[i]?,os[j]? with
 | some x,some y => x.apart os.toArray y
 | _,_ => true
def q42 (os : List Oper) : Bool := q9s os && qdr os (ja [] os)
theorem qe2 {os : List Oper} (h : q9s os = true) {j : Nat} {o : Oper} (ho : os[j]? = some o) {e : Edge} (he : e ∈ o.after) (hb : Region.binds .any e = true) : e.on < j := by
 have h1 := List.all_eq_true.1 h (o,j) (by rw [List.mem_zipIdx_iff_getElem?]; exact ho)
 have h2 := List.all_eq_true.1 h1 e (by simpa using he)
 simpa [hb] using h2
theorem apart_spec {os : List Oper} {ms : List Nat} (h : qdr os ms = true) {i j : Nat} {x y : Oper} (hij : i < j) (hx : os[i]? = some x) (hy : os[j]? = some y) : ordered ms i j = true ∨ x.apart os.toArray y = true := by
 have hj : j < os.length := (List.getElem?_eq_some_iff.1 hy).1
 have h1 := List.all_eq_true.1 (List.all_eq_true.1 h j (by simpa using hj)) i (by simpa using hij)
 simpa [hx,hy] using h1
def Closed (os : List Oper) (D : Nat → Bool) : Prop := ∀ j o,os[j]? = some o → D j = true → ∀ e ∈ o.after,Region.binds .any e = true → D e.on = true
theorem qbz {os : List Oper} (hf : q9s os = true) {D : Nat → Bool} (hD : Closed os D) : ∀ (j : Nat) (o : Oper),os[j]? = some o →
  (∀ e ∈ o.after,Region.binds .any e = true → D e.on = true) → ∀ i,ordered (ja [] os) i j = true → D i = true := by
 intro j
 induction j using Nat.strongRecOn with
 | _ j ih =>
  intro o ho hpre i hi
  obtain ⟨ms',h1,h2,h3⟩ := qc9 os [] j o ho
  simp only [List.length_nil,Nat.zero_add] at h1 h2 h3
  unfold ordered at hi
  rw [h2] at hi
  obtain ⟨e,e1,e2,e3⟩ := z2n hi
  have hlt := qe2 hf ho e1 e2
  have hDe := hpre e e1 e2
  rcases e3 with rfl | e3
  ·exact hDe
  ·rw [h3 _ hlt] at e3
   have hel : e.on < os.length := Nat.lt_trans hlt (List.getElem?_eq_some_iff.1 ho).1
   exact ih e.on hlt os[e.on] (List.getElem?_eq_getElem hel) (fun e' he' hb' => hD e.on _ (List.getElem?_eq_getElem hel) hDe e' he' hb') i e3
def xg : List Oper → List Rc → Nat → (Nat → Bool) → Env → Env
 | o :: os,c :: cs,i,D,E => xg os cs (i + 1) D (if D i = true then zn o.dst c.v E else E)
 | _,_,_,_,E => E
def zh : List Rc → Nat → (Nat → Bool) → Heap → Heap
 | c :: cs,i,D,H => zh cs (i + 1) D (if D i = true then qf c.ws H else H)
 | [],_,_,H => H
theorem q4s {t : Nat} {D D' : Nat → Bool} : ∀ (os : List Oper) (cs : List Rc) (i : Nat) (E E' : Env),(∀ k o,os[k]? = some o → o.dst = some t → D (i + k) = D' (i + k)) → E.get t = E'.get t →
  (xg os cs i D E).get t = (xg os cs i D' E').get t
 | [],_,_,_,_,_,h => by simpa [xg] using h
 | _ :: _,[],_,_,_,_,h => by simpa [xg] using h
 | o :: os,c :: cs,i,E,E',hD,h => by
  simp only [xg]
  refine q4s os cs (i + 1) _ _ (fun k o' ho' hd' => ?_) ?_
  ·have := hD (k + 1) o' (by simpa using ho') hd'
   rwa [show i + 1 + k = i + (k + 1) from by omega]
  ·by_cases hd : o.dst = some t
   ·have := hD 0 o rfl hd
    simp only [Nat.add_zero] at this
    rw [this]
    split
    ·rw [q0w,q0w,if_pos hd,if_pos hd]
    ·exact h
   ·have e1 : (if D i = true then zn o.dst c.v E else E).get t = E.get t := by
     split
     ·rw [q0w,if_neg hd]
     ·rfl
    have e2 : (if D' i = true then zn o.dst c.v E' else E').get t = E'.get t := by
     split
     ·rw [q0w,if_neg hd]
     ·rfl
    rw [e1,e2,h]
theorem q5p : ∀ (os : List Oper) (cs : List Rc) (i : Nat) (D : Nat → Bool) (E : Env),(∀ k,i ≤ k → D k = false) → xg os cs i D E = E
 | [],_,_,_,_,_ => rfl
 | _ :: _,[],_,_,_,_ => rfl
 | o :: os,c :: cs,i,D,E,h => by
  simp only [xg,h i (Nat.le_refl _),Bool.false_eq_true,if_false]
  exact q5p os cs (i + 1) D E fun k hk => h k (by omega)
theorem q14 : ∀ (cs : List Rc) (i : Nat) (D : Nat → Bool) (H : Heap),(∀ k,i ≤ k → D k = false) → zh cs i D H = H
 | [],_,_,_,_ => rfl
 | c :: cs,i,D,H,h => by
  simp only [zh,h i (Nat.le_refl _),Bool.false_eq_true,if_false]
  exact q14 cs (i + 1) D H fun k hk => h k (by omega)
theorem qaf {t : Nat} {D : Nat → Bool} : ∀ (os : List Oper) (cs : List Rc) (i : Nat) (E : Env) (j : Nat) (o : Oper) (c : Rc),os[j]? = some o → cs[j]? = some c → o.dst = some t → D (i + j) = true →
  (∀ k o',j < k → os[k]? = some o' → o'.dst = some t → D (i + k) = false) → (xg os cs i D E).get t = c.v
 | [],_,_,_,j,o,c,ho,_,_,_,_ => by simp at ho
 | _ :: _,[],_,_,j,o,c,_,hc,_,_,_ => by simp at hc
 | o' :: os,c' :: cs,i,E,j,o,c,ho,hc,hd,hD,hl => by
  simp only [xg]
  cases j with
  | zero =>
   simp only [List.getElem?_cons_zero,Option.some.injEq] at ho hc
   subst ho hc
   simp only [Nat.add_zero] at hD
   rw [hD]
   simp only [if_true]
   rw [q4s (D' := fun _ => false) os cs (i + 1) _ (zn o'.dst c'.v E) (fun k o2 h2 hd2 => ?_) rfl,q5p _ _ _ _ _ (fun _ _ => rfl),q0w,if_pos hd]
   have := hl (k + 1) o2 (by omega) (by simpa using h2) hd2
   rwa [show i + 1 + k = i + (k + 1) from by omega]
  | succ j =>
   simp only [List.getElem?_cons_succ] at ho hc
   refine qaf os cs (i + 1) _ j o c ho hc hd (by rwa [show i + 1 + j = i + (j + 1) from by omega]) fun k o2 hk h2 hd2 => ?_
   have := hl (k + 1) o2 (by omega) (by simpa using h2) hd2
   rwa [show i + 1 + k = i + (k + 1) from by omega]
theorem q8w : ∀ (ws : List (Nat × Blk)) (H H' : Heap) (γ : Nat),γ ∈ ws.map (·.1) → (qf ws H).get γ = (qf ws H').get γ
 | [],_,_,_,h => by simp at h
 | (i,b) :: r,H,H',γ,h => by
  simp only [qf]
  by_cases hr : γ ∈ r.map (·.1)
  ·exact q8w r _ _ γ hr
  ·have hi : γ = i := by
    simp only [List.map_cons,List.mem_cons] at h
    exact h.resolve_right hr
   have hne : ∀ x ∈ r,x.1 ≠ γ := fun x hx e => hr (by rw [← e]; exact List.mem_map.2 ⟨x,hx,rfl⟩)
   rw [u6 r _ γ hne,u6 r _ γ hne,Heap.get_put,Heap.get_put,if_pos hi,if_pos hi]
theorem zet (ws : List (Nat × Blk)) {H H' : Heap} {γ : Nat} (h : H.get γ = H'.get γ) : (qf ws H).get γ = (qf ws H').get γ := by
 by_cases hr : γ ∈ ws.map (·.1)
 ·exact q8w ws H H' γ hr
 ·have hne : ∀ x ∈ ws,x.1 ≠ γ := fun x hx e => hr (by rw [← e]; exact List.mem_map.2 ⟨x,hx,rfl⟩)
  rw [u6 ws _ γ hne,u6 ws _ γ hne,h]
theorem q2x {γ : Nat} {D D' : Nat → Bool} : ∀ (cs : List Rc) (i : Nat) (H H' : Heap),(∀ k c,cs[k]? = some c → γ ∈ c.keys → D (i + k) = D' (i + k)) → H.get γ = H'.get γ →
  (zh cs i D H).get γ = (zh cs i D' H').get γ
 | [],_,_,_,_,h => by simpa [zh] using h
 | c :: cs,i,H,H',hD,h => by
  simp only [zh]
  refine q2x cs (i + 1) _ _ (fun k c' hc' hk' => ?_) ?_
  ·have := hD (k + 1) c' (by simpa using hc') hk'
   rwa [show i + 1 + k = i + (k + 1) from by omega]
  ·by_cases hd : γ ∈ c.keys
   ·have := hD 0 c rfl hd
    simp only [Nat.add_zero] at this
    rw [this]
    split
    ·exact zet _ h
    ·exact h
   ·have hne : ∀ x ∈ c.ws,x.1 ≠ γ := fun x hx e => hd (by rw [← e]; exact List.mem_map.2 ⟨x,hx,rfl⟩)
    have e1 : (if D i = true then qf c.ws H else H).get γ = H.get γ := by
     split
     ·exact u6 _ _ _ hne
     ·rfl
    have e2 : (if D' i = true then qf c.ws H' else H').get γ = H'.get γ := by
     split
     ·exact u6 _ _ _ hne
     ·rfl
    rw [e1,e2,h]
theorem qdi {γ : Nat} {D : Nat → Bool} : ∀ (cs : List Rc) (i : Nat) (H : Heap) (j : Nat) (c : Rc),cs[j]? = some c → γ ∈ c.keys → D (i + j) = true →
  (∀ k c',j < k → cs[k]? = some c' → γ ∈ c'.keys → D (i + k) = false) → ∀ H',(zh cs i D H).get γ = (qf c.ws H').get γ
 | [],_,_,j,c,hc,_,_,_,_ => by simp at hc
 | c' :: cs,i,H,j,c,hc,hd,hD,hl,H' => by
  simp only [zh]
  cases j with
  | zero =>
   simp only [List.getElem?_cons_zero,Option.some.injEq] at hc
   subst hc
   simp only [Nat.add_zero] at hD
   rw [hD]
   simp only [if_true]
   rw [q2x (D' := fun _ => false) cs (i + 1) _ (qf c'.ws H) (fun k c2 h2 hd2 => ?_) rfl,q14 _ _ _ _ (fun _ _ => rfl)]
   ·exact q8w _ _ _ _ hd
   ·have := hl (k + 1) c2 (by omega) (by simpa using h2) hd2
    rwa [show i + 1 + k = i + (k + 1) from by omega]
  | succ j =>
   simp only [List.getElem?_cons_succ] at hc
   refine qdi cs (i + 1) _ j c hc hd (by rwa [show i + 1 + j = i + (j + 1) from by omega]) (fun k c2 hk h2 hd2 => ?_) H'
   have := hl (k + 1) c2 (by omega) (by simpa using h2) hd2
   rwa [show i + 1 + k = i + (k + 1) from by omega]
end Go.Gm
