/-
  The machine, part b.
-/
import Derived.Test.YtllckneefjgafaaGreatDoorVaa
import Derived.JoinedOf
import Derived.Lib.UnsafeStr
import GoSem.ClaimGoes
set_option linter.unusedSimpArgs false
set_option linter.unusedVariables false
set_option linter.unusedSectionVars false
namespace Go.Gm
open Go
section
variable [Globs] {P : Program} {w : World} {H : Heap} {ι : Plc} {Im : Nat → Prop}
theorem qcf (a : Addr) : ∀ (n i : Nat) (acc cs : Array Value),(loadCellsFrom a i n acc).run P w = .ok cs w →
  ∃ l : List Value,l.length = n ∧ cs.toList = acc.toList ++ l ∧ ∀ m,m ≤ n → (loadCellsFrom a i m acc).run P w = .ok ⟨acc.toList ++ l.take m⟩ w
 | 0,i,acc,cs,h => by
  simp only [loadCellsFrom,Sem.run_pure,Result.ok.injEq,and_true] at h
  subst h
  refine ⟨[],rfl,by simp,fun m hm => ?_⟩
  have : m = 0 := by omega
  subst this
  simp [loadCellsFrom]
 | n + 1,i,acc,cs,h => by
  obtain ⟨v,hv⟩ : ∃ v,(load (a.add i)).run P w = .ok v w := by
   simp only [loadCellsFrom,Sem.run_bind] at h
   rw [run_load] at h ⊢
   split at h
   ·exact ⟨_,rfl⟩
   ·split at h
    ·exact ⟨_,rfl⟩
    ·cases h
  simp only [loadCellsFrom,Sem.run_bind,hv,Result.andThen_ok] at h
  obtain ⟨l,h1,h2,h3⟩ := qcf a n (i + 1) (acc.push v) cs h
  refine ⟨v :: l,by simp [h1],by simp [h2],fun m hm => ?_⟩
  cases m with
  | zero => simp [loadCellsFrom]
  | succ m =>
   have := h3 m (by omega)
   simp only [loadCellsFrom,Sem.run_bind,hv,Result.andThen_ok,this]
   simp
theorem qiy {size n k : Nat} {v : Value} {cs : Array Value} (h : (Builtin.firstCells size n v).run P w = .ok cs w) (hk : k ≤ n) (hl : cs.size = n * size) :
  (Builtin.firstCells size k v).run P w = .ok ⟨cs.toList.take (k * size)⟩ w := by
 have hks : k * size ≤ n * size := Nat.mul_le_mul_right _ hk
 cases v with
 | slice base a c =>
  cases base with
  | none =>
   simp only [Builtin.firstCells,Sem.run_pure,Result.ok.injEq,and_true] at h ⊢
   subst h
   simp
  | some ad =>
   simp only [Builtin.firstCells,loadCells] at h ⊢
   obtain ⟨l,h1,h2,h3⟩ := qcf ad (n * size) 0 #[] cs h
   rw [h3 _ hks]
   simp [h2]
 | string s =>
  simp only [Builtin.firstCells,Sem.run_pure,Result.ok.injEq,and_true] at h ⊢
  subst h
  simp at hl
  by_cases hk0 : k = 0
  ·subst hk0
   simp
  have hsz : size = 1 ∨ min n s.size = 0 := by
   rcases Nat.lt_or_ge size 2 with h | h
   ·rcases Nat.lt_or_ge size 1 with h' | h'
    ·right
     have : size = 0 := by omega
     subst this
     omega
    ·left; omega
   ·have := Nat.mul_le_mul_left n h
    right
    omega
  rcases hsz with rfl | h0
  ·apply Array.ext'
   simp [List.take_take,Nat.min_eq_left hk]
  ·have : s.size = 0 := by omega
   apply Array.ext'
   have hs : s.data.toList = [] := by
    cases s with | mk d => simpa [ByteArray.size] using this
   simp [hs]
 | _ => simp [Builtin.firstCells] at h
theorem zk.take {sz k : Nat} {es : List (List PV)} {cs : Array Value} (h : zk w Im sz es (cs[·]?)) : zk w Im sz (es.take k) ((⟨cs.toList.take (k * sz)⟩ : Array Value)[·]?) := by
 refine ⟨fun e he => h.1 e (List.mem_of_mem_take he),fun i e j p hi hj => ?_,fun i e j p hi hj => ?_⟩
 ·have hlt := (List.getElem?_eq_some_iff.1 hi).1
  simp at hlt
  rw [List.getElem?_take_of_lt (by omega)] at hi
  exact h.2.1 i e j p hi hj
 ·have hlt := (List.getElem?_eq_some_iff.1 hi).1
  simp at hlt
  rw [List.getElem?_take_of_lt (by omega)] at hi
  obtain ⟨v,h1,h2⟩ := h.2.2 i e j p hi hj
  refine ⟨v, ?_,h2⟩
  have hj' := (List.getElem?_eq_some_iff.1 hj).1
  have he := h.1 e (List.mem_of_getElem? hi)
  have : (i + 1) * sz ≤ k * sz := Nat.mul_le_mul_right _ (by omega)
  rw [Nat.succ_mul] at this
  simp only [List.getElem?_toArray]
  rw [List.getElem?_take_of_lt (by omega)]
  simpa using h1
theorem z5i {ts e : TypeId} {ti te : TI} (hts : qb P ts ti) (htd : ti.td = .slice e) (hte : qb P e te) {tys : Array TypeId} (h0 : tys[0]? = some ts) (tt : TypeId)
  (hi : qa w H ι Im) {nx : Nat} {X : Nat → Prop} (hnx : Bd X H nx) {x y : AV} {vx vy : Value} (hx : RA w H ι Im x vx) (hy : RA w H ι Im y vy) {r : Eff} (hr : tu te x y H nx = some r) :
  ∃ u w',(Builtin.copy_ tys tt #[vx,vy]).run P w = .ok u w' ∧ Did X w H ι Im nx r u w' := by
 unfold tu at hr
 split at hr
 ·cases hr
 rename_i xsz src0 hsrc
 split at hr
 rotate_left
 ·cases hr
 rename_i β ver off n
 split at hr
 rotate_left
 ·cases hr
 rename_i sz es hb
 split at hr <;> cases hr
 rename_i hc
 obtain ⟨hver,hszz,hsz⟩ := hc
 subst hszz
 obtain ⟨l1,cs0,f1',f2',f3'⟩ : (Builtin.lenOf vy).run P w = .ok src0.length w ∧ ∃ cs,(Builtin.firstCells te.size src0.length vy).run P w = .ok cs w ∧ cs.size = src0.length * te.size ∧ zk w Im te.size src0 (cs[·]?) := by
  obtain ⟨a,b⟩ := q05 (P := P) hi hy hsrc
  exact ⟨a,b te.size hsz⟩
 generalize hsrc' : src0.take n = src
 have hk : src.length = min src0.length n := by rw [← hsrc']; simp [Nat.min_comm]
 have f1 := qiy f1' (show src.length ≤ src0.length by omega) f2'
 have f3 : zk w Im te.size src ((⟨cs0.toList.take (src.length * te.size)⟩ : Array Value)[·]?) := by
  have := f3'.take (k := src.length)
  have e : src0.take src.length = src := by
   rw [← hsrc',List.take_eq_take_iff]
   simp
  rwa [e] at this
 have f2 : (⟨cs0.toList.take (src.length * te.size)⟩ : Array Value).size = src.length * te.size := by
  have : src.length * te.size ≤ src0.length * te.size := Nat.mul_le_mul_right _ (by omega)
  show (cs0.toList.take _).length = _
  rw [List.length_take]
  have h2 : cs0.toList.length = src0.length * te.size := f2'
  rw [h2]
  exact Nat.min_eq_left this
 generalize (⟨cs0.toList.take (src.length * te.size)⟩ : Array Value) = cs at f1 f2 f3
 have hxx := hx
 cases hx with
 | row _ _ _ _ _ b ho hb' hk' hv hh =>
 rw [hb] at hb'
 cases hb'
 obtain ⟨h1,h2⟩ := hh _ _ _ rfl hver
 simp only [Bool.false_eq_true,if_false] at h2
 obtain ⟨a,rfl,ha1,ha2,ha3⟩ := h2
 obtain ⟨ab,ao,asp⟩ := a
 simp only at ha1 ha2 ha3
 subst ha1 ha2
 obtain ⟨vs,elem,fz,g1,g2,g3,hpos,g5,g6,g7,g8⟩ := hi.row hb
 have hsn : src.length ≤ n := by omega
 have hao : src ≠ [] → ao = off * te.size := fun hne => by
  have := List.length_pos_iff.2 hne
  exact ha3 (by omega)
 have hone : ∀ x ∈ cs.toList,zm x = true := by
  intro x hx
  obtain ⟨m,hm⟩ := List.getElem?_of_mem hx
  have hml : m < src.length * te.size := by
   have := (List.getElem?_eq_some_iff.1 hm).1
   simp at this
   omega
  have hdiv : m / te.size < src.length := Nat.div_lt_of_lt_mul (by rwa [Nat.mul_comm])
  have hmod : m % te.size < te.size := Nat.mod_lt _ hpos
  obtain ⟨e0,he0⟩ : ∃ e0,src[m / te.size]? = some e0 := ⟨src[m / te.size],by simp⟩
  have hel := f3.1 e0 (List.mem_of_getElem? he0)
  obtain ⟨p0,hp0⟩ : ∃ p0,e0[m % te.size]? = some p0 := ⟨e0[m % te.size]'(by omega),by simp⟩
  obtain ⟨v0,q1,q2⟩ := f3.2.2 _ e0 _ p0 he0 hp0
  have : m / te.size * te.size + m % te.size = m := by rw [Nat.mul_comm]; exact Nat.div_add_mod m te.size
  simp only [this] at q1
  have : x = v0 := by
   have h0 : cs[m]? = some x := by simpa using hm
   rw [h0] at q1
   exact Option.some.inj q1
  subst this
  exact q2.zm (f3.2.1 _ e0 _ p0 he0 hp0)
 have hmul : off * te.size + src.length * te.size ≤ vs.size := by
  rw [g3,← Nat.add_mul]
  exact Nat.mul_le_mul_right _ (by omega)
 have hst : ∃ w',(storeCells ⟨(ι β).b,ao,none⟩ cs.toList).run P w = Result.ok () w' ∧ (w'.heap.size = w.heap.size ∧ w'.os = w.os ∧ w'.output = w.output) ∧ (∀ b',b' ≠ (ι β).b → w'.heap[b']? = w.heap[b']?) ∧
   ∃ vs' : Array Value,w'.heap[(ι β).b]? = some (.cells vs' elem fz) ∧ vs'.size = vs.size ∧ ∀ k,vs'[k]? = if off * te.size ≤ k ∧ k < off * te.size + cs.size then cs[k - off * te.size]? else vs[k]? := by
  by_cases hs : src = []
  ·have hcs0 : cs.size = 0 := by rw [f2,hs]; simp
   have hcl : cs.toList = [] := by simpa using hcs0
   refine ⟨w,by rw [hcl]; rfl,⟨rfl,rfl,rfl⟩,fun _ _ => rfl,vs,g1,rfl,fun k => ?_⟩
   rw [if_neg (by omega)]
  ·have := hao hs
   subst this
   obtain ⟨w',q1,q2,q3,vs',q4,q5,q6⟩ := uz (P := P) (ι β).b (off * te.size) elem fz cs.toList 0 w vs g1 g2 (by simp [f2]; omega) hone
   refine ⟨w',by simpa using q1,q2,q3,vs',q4,q5,fun k => ?_⟩
   rw [q6 k]
   simp
 obtain ⟨w',q1,q2,q3,vs',q4,q5,q6⟩ := hst
 have hrun : (Builtin.copy_ tys tt #[.slice (some ⟨(ι β).b,ao,none⟩) n ((ι β).cap - off),vy]).run P w = .ok (.int .i64 (src.length : Nat)) w' := by
  have hmin : Nat.min src0.length n = src.length := hk.symm
  unfold Builtin.copy_
  simp only [List.getElem?_toArray,List.getElem?_cons_zero,List.getElem?_cons_succ,h0,Sem.run_bind,qi (hts.slice htd),Result.andThen_ok,l1,hte.size,hmin,f1,q1,Sem.run_pure,goInt]
 have hes' : (es.take off ++ src ++ es.drop (off + src.length)).length = es.length := by
  simp; omega
 refine ⟨_,w',hrun,qg ι β (ι β), ?_⟩
 have key := qa.put (hno := noO hb rfl) hi (w' := w') β (.row false te.size (es.take off ++ src ++ es.drop (off + src.length))) (ι β)
  (fun x hx => by
   rw [hb] at hx
   cases hx
   simp only [qo,Blk.sh]
   exact ⟨by omega,fun _ => ⟨by simp,fun _ => ⟨by simp,Pl.q3r _⟩⟩⟩)
  ⟨by omega,q2.2⟩ (fun b' _ hne => q3 b' (fun e => hne _ hb rfl e.symm)) (fun _ => .inr ⟨_,hb,rfl,rfl⟩) (fun hev => by
   have hw : ∀ b,Im b → w'.heap[b]? = w.heap[b]? := fun b hb => hev.kept hi b hb
   have hget : ∀ (i : Nat) e0,(es.take off ++ src ++ es.drop (off + src.length))[i]? = some e0 →
     (off ≤ i ∧ i < off + src.length ∧ src[i - off]? = some e0) ∨ (¬ (off ≤ i ∧ i < off + src.length) ∧ es[i]? = some e0) := by
    intro i e0 h
    rw [q0d es src off i (by omega)] at h
    split at h
    ·rename_i hc
     exact .inl ⟨hc.1,hc.2,h⟩
    ·rename_i hc
     exact .inr ⟨hc,h⟩
   refine ⟨vs',elem,fz,by simpa using q4,by rw [q5]; exact g2,by simp [q5,g3],hpos,by simp only [updP_same]; omega, ?_, ?_, ?_⟩
   ·intro e0 he0
    obtain ⟨i,hi'⟩ := List.getElem?_of_mem he0
    rcases hget i e0 hi' with ⟨_,_,h⟩ | ⟨_,h⟩
    ·exact f3.1 e0 (List.mem_of_getElem? h)
    ·exact g6 e0 (List.mem_of_getElem? h)
   ·intro i e0 j p hi' hj
    rcases hget i e0 hi' with ⟨_,_,h⟩ | ⟨_,h⟩
    ·exact f3.2.1 _ e0 j p h hj
    ·exact g7 _ e0 j p h hj
   ·intro i e0 j p hi' hj
    have hj' := (List.getElem?_eq_some_iff.1 hj).1
    rw [q6]
    rcases hget i e0 hi' with ⟨k1,k2,h⟩ | ⟨k1,h⟩
    ·obtain ⟨v0,w1,w2⟩ := f3.2.2 _ e0 j p h hj
     have hel := f3.1 e0 (List.mem_of_getElem? h)
     have e1 : i * te.size + j - off * te.size = (i - off) * te.size + j := by
      have : i = off + (i - off) := by omega
      conv => lhs; rw [this,Nat.add_mul]
      omega
     have e2 : off * te.size ≤ i * te.size := Nat.mul_le_mul_right _ k1
     have e3 : (i + 1) * te.size ≤ (off + src.length) * te.size := Nat.mul_le_mul_right _ k2
     rw [Nat.succ_mul,Nat.add_mul] at e3
     rw [if_pos ⟨by omega,by rw [f2]; omega⟩,e1]
     exact ⟨v0,w1,w2.mono hev.im hw⟩
    ·obtain ⟨v0,w1,w2⟩ := g8 _ e0 j p h hj
     have hel := g6 e0 (List.mem_of_getElem? h)
     have hout : ¬ (off * te.size ≤ i * te.size + j ∧ i * te.size + j < off * te.size + cs.size) := by
      rw [f2]
      by_cases hlt : i < off
      ·have : (i + 1) * te.size ≤ off * te.size := Nat.mul_le_mul_right _ hlt
       rw [Nat.succ_mul] at this
       omega
      ·have : (off + src.length) * te.size ≤ i * te.size := Nat.mul_le_mul_right _ (by omega)
       rw [Nat.add_mul] at this
       omega
     rw [if_neg hout]
     exact ⟨v0,w1,w2.mono hev.im hw⟩)
 exact ⟨key.1,key.2,.pv _ _ (.int _ _),Nat.le_refl _,zu hnx (Nat.le_refl _) (hnx β _ hb)⟩
end
end Go.Gm
set_option linter.unusedSectionVars false
namespace Go.Gm
open Go
section
variable [Globs] {P : Program} {w : World} {H : Heap} {ι : Plc} {Im : Nat → Prop}
theorem q7g {a : Act} {E : Env} (hE : ∀ t,RA w H ι Im (E.get t) (a.tmps.getD t undef)) (d : Nat) (x : Option Operand) {n : Nat} (h : zi (ev E) d x = some n) :
  (x = none ∧ n = d) ∨ ∃ kd,(x.map a.eval) = some (.int kd (n : Int)) := by
 cases x with
 | none =>
  simp only [zi,Option.some.injEq] at h
  exact .inl ⟨rfl,h.symm⟩
 | some x =>
  simp only [zi] at h
  obtain ⟨kd,hk⟩ := q2s (mh hE x) h
  exact .inr ⟨kd,by simp [hk]⟩
theorem run_sliceBound {kd : IntKind} {n y : Nat} (h : n ≤ y) (code : BoundsCode) : (Instr.sliceBound (.int kd (n : Int)) y code).run P w = .ok n w := by
 unfold Instr.sliceBound asIntOf
 have : (n : Int) ≤ (y : Int) := by omega
 simp [this]
theorem q2w (isSlice : Bool) {a : Act} {E : Env} (hE : ∀ t,RA w H ι Im (E.get t) (a.tmps.getD t undef)) (lo hi mx : Option Operand) (len cap : Nat) {l h m : Nat}
  (hl : zi (ev E) 0 lo = some l) (hh : zi (ev E) len hi = some h) (hm : zi (ev E) cap mx = some m) (h1 : l ≤ h) (h2 : h ≤ m) (h3 : m ≤ cap)
  (hmx : mx ≠ none → hi ≠ none) :
  (Instr.sliceBounds isSlice len cap (lo.map a.eval) (hi.map a.eval) (mx.map a.eval)).run P w = .ok (l,h,m) w := by
 have e1 := q7g hE 0 lo hl
 have e2 := q7g hE len hi hh
 have e3 := q7g hE cap mx hm
 unfold Instr.sliceBounds
 rcases e3 with ⟨rfl,rfl⟩ | ⟨k3,e3⟩
 ·rcases e2 with ⟨rfl,rfl⟩ | ⟨k2,e2⟩
  ·rcases e1 with ⟨rfl,rfl⟩ | ⟨k1,e1⟩
   ·simp
   ·simp only [e1,Option.map_none,Sem.run_bind,Sem.run_pure,Result.andThen_ok,run_sliceBound h1]
  ·rcases e1 with ⟨rfl,rfl⟩ | ⟨k1,e1⟩
   ·simp only [e2,Option.map_none,Sem.run_bind,Sem.run_pure,Result.andThen_ok,run_sliceBound h2]
   ·simp only [e1,e2,Option.map_none,Sem.run_bind,Sem.run_pure,Result.andThen_ok,run_sliceBound h1,run_sliceBound h2]
 ·rcases e2 with ⟨rfl,rfl⟩ | ⟨k2,e2⟩
  ·have : mx ≠ none := by
    intro e
    subst e
    cases e3
   exact absurd rfl (hmx this)
  ·rcases e1 with ⟨rfl,rfl⟩ | ⟨k1,e1⟩
   ·simp only [e2,e3,Option.map_none,Sem.run_bind,Sem.run_pure,Result.andThen_ok,run_sliceBound h2,run_sliceBound h3]
   ·simp only [e1,e2,e3,Sem.run_bind,Sem.run_pure,Result.andThen_ok,run_sliceBound h1,run_sliceBound h2,run_sliceBound h3]
theorem qsg (s : List UInt8) (l h : Nat) : (ByteArray.mk ⟨s⟩).extract l h = ⟨⟨(s.take h).drop l⟩⟩ := by
 apply ByteArray.ext
 apply Array.ext'
 simp [List.extract_eq_take_drop,List.drop_take]
theorem zaq {b : Blk} {x : Bool × Nat × Nat} (h : b.slv = some x) : b.sh = some x := by
 unfold Blk.slv at h
 split at h
 ·exact h
 ·exact h
 ·cases h
theorem qt6 (hi : qa w H ι Im) {β : Nat} {b : Blk} {sz k : Nat} (hb : H.get β = some b) (hs : b.slv = some (false,sz,k)) : k ≤ (ι β).cap := by
 unfold Blk.slv at hs
 split at hs
 ·cases hs
  obtain ⟨vs,elem,fz,g1,g2,g3,g4,g5,_⟩ := hi.row hb
  exact g5
 ·cases hs
  obtain ⟨vs,elem,fz,h1,h2,h3,h4,_⟩ := hi.qh hb
  exact h4
 ·cases hs
theorem zoq {β : Nat} {b : Blk} {sz k : Nat} (h : j6 w H ι Im β b) (hs : b.slv = some (true,sz,k)) : k = 0 := by
 unfold Blk.slv at hs
 split at hs
 ·cases hs
  have : _ = [] := h
  rw [this]
  rfl
 ·cases hs
  obtain ⟨h1,_⟩ := h
  rw [h1]
  rfl
 ·cases hs
theorem zi1 {G : TypeId → Option TI} (hG : ∀ t ti,G t = some ti → qb P t ti) {t : TypeId} {ti : TI} (ht : qb P t ti) (hi' : qa w H ι Im)
  {a : Act} {E : Env} (hE : ∀ t,RA w H ι Im (E.get t) (a.tmps.getD t undef)) {x : AV} {v : Value} (hx : RA w H ι Im x v) (lo hi mx : Option Operand)
  {r : AV} (hr : bq ti.td G (ev E) x lo hi mx H = some r) :
  ∃ u,(Instr.sliceAt t v (lo.map a.eval) (hi.map a.eval) (mx.map a.eval)).run P w = .ok u w ∧ RA w H ι Im r u := by
 unfold bq at hr
 split at hr
 ·cases hr
 rename_i hmx0
 have hmx : mx ≠ none → hi ≠ none := by
  intro h1 h2
  subst h2
  cases mx with
  | none => exact h1 rfl
  | some _ => exact hmx0 ⟨rfl,rfl⟩
 split at hr
 ·rename_i htd
  have hu := ht.string htd
  split at hr
  rotate_left
  ·cases hr
  rename_i s
  split at hr
  ·cases hr
  rename_i hmn
  have hmn' : mx = none := by cases mx <;> simp_all
  subst hmn'
  split at hr
  rotate_left
  ·cases hr
  rename_i l h hl hh
  split at hr <;> cases hr
  rename_i hc
  cases hx with
  | pv _ _ hp => cases hp with
   | str =>
    have hb := q2w (P := P) false hE lo hi none s.length s.length hl hh rfl hc.1 hc.2 (Nat.le_refl _) (fun h => absurd rfl h)
    refine ⟨.string ((ByteArray.mk ⟨s⟩).extract l h), ?_,.pv _ _ (by rw [qsg]; exact .str _)⟩
    unfold Instr.sliceAt Instr.slice
    simp only [Sem.run_bind,qi hu,Result.andThen_ok]
    have hsz : (ByteArray.mk ⟨s⟩).size = s.length := rfl
    simp only [Option.map_none] at hb ⊢
    simp [hsz,hb]
 ·rename_i e htd
  have hu := ht.slice htd
  split at hr
  ·cases hr
  rename_i te hte
  have hte' := hG _ _ hte
  have run : ∀ (base : Option Addr) (len cap l h m : Nat),(Instr.sliceBounds true len cap (lo.map a.eval) (hi.map a.eval) (mx.map a.eval)).run P w = .ok (l,h,m) w →
    (Instr.sliceAt t (.slice base len cap) (lo.map a.eval) (hi.map a.eval) (mx.map a.eval)).run P w = .ok (.slice (if m = l then base else base.map (·.add (l * te.size))) (h - l) (m - l)) w := by
   intro base len cap l h m hb
   unfold Instr.sliceAt Instr.slice
   simp only [Sem.run_bind,qi hu,Result.andThen_ok,hb,hte'.size,Sem.run_pure]
  split at hr
  ·rename_i isnil sz es
   split at hr
   rotate_left
   ·cases hr
   rename_i l h m hl hh hm
   split at hr
   rotate_left
   ·cases hr
   rename_i hc
   obtain ⟨c1,c2,c3,c4⟩ := hc
   cases hx with
   | pv _ _ hp => cases hp with
    | nilsl =>
     have hm0 : m = 0 := by simpa using c3
     subst hm0
     have hh0 : h = 0 := by omega
     subst hh0
     have hl0 : l = 0 := by omega
     subst hl0
     have hb := q2w (P := P) true hE lo hi mx 0 0 hl (by simpa using hh) (by simpa using hm) (Nat.le_refl _) (Nat.le_refl _) (Nat.le_refl _) hmx
     simp at hr
     subst hr
     refine ⟨_,run none 0 0 0 0 0 hb, ?_⟩
     simp
     exact .pv _ _ (.nilsl 0)
    | sl _ _ b off cap vs him hcap hsz hcell hf hrp sp hsp =>
     have hm' : ∃ m',zi (ev E) cap mx = some m' ∧ ((mx = none ∧ m' = cap) ∨ (mx ≠ none ∧ m' = m)) := by
      cases mx with
      | none => exact ⟨cap,rfl,.inl ⟨rfl,rfl⟩⟩
      | some y => exact ⟨m,hm,.inr ⟨by simp,rfl⟩⟩
     obtain ⟨m',hm',hmm⟩ := hm'
     have hhm : h ≤ m' ∧ m' ≤ cap := by
      rcases hmm with ⟨rfl,rfl⟩ | ⟨_,rfl⟩
      ·simp only [zi,Option.some.injEq] at hm
       omega
      ·omega
     have hb := q2w (P := P) true hE lo hi mx es.length cap hl hh hm' c1 hhm.1 hhm.2 hmx
     refine ⟨_,run (some ⟨b,off,sp⟩) es.length cap l h m' hb, ?_⟩
     split at hr
     ·rename_i hz
      cases hr
      obtain ⟨z1,z2,_⟩ := hz
      rcases hmm with ⟨rfl,_⟩ | ⟨_,rfl⟩
      ·cases z1
      ·have e1 : h - l = 0 := by omega
       have e2 : m' - l = 0 := by omega
       rw [if_pos z2.symm,e1,e2]
       exact .zsl _
     ·cases hr
      by_cases hes : es = []
      ·subst hes
       simp only [List.length_nil,Nat.le_zero_eq] at c3
       have hh0 : h = 0 := by omega
       have hl0 : l = 0 := by omega
       subst hh0
       subst hl0
       have hz : RP w Im (.sl false sz (([] : List (List PV)).take 0 |>.drop 0)) (.slice (some ⟨b,off,sp⟩) (0 - 0) (m' - 0)) :=
        .sl sz [] b off (m' - 0) (fun _ => undef) (fun h => absurd rfl h) (Nat.zero_le _) (by simp) (fun i hlt => by simp at hlt) (by simp) (by simp) sp (fun h => absurd rfl h)
       have ha : (⟨b,off,sp⟩ : Addr).add (0 * te.size) = ⟨b,off,sp⟩ := by simp [Addr.add]
       split
       ·exact .pv _ _ hz.mk
       ·simp only [Option.map_some,ha]
        exact .pv _ _ hz.mk
      obtain rfl := hsp hes
      have hlen : ((es.take h).drop l).length = h - l := by simp; omega
      have key : ∀ (a0 : Nat),(l < h → a0 = off + l * sz) → RP w Im (.sl false sz ((es.take h).drop l)) (.slice (some ⟨b,a0,none⟩) (h - l) (m' - l)) := by
       intro a0 ha0
       rw [← hlen]
       have hget : ∀ (i : Nat) e0,((es.take h).drop l)[i]? = some e0 → l + i < h ∧ es[l + i]? = some e0 := by
        intro i e0 hi0
        have h1 := (List.getElem?_eq_some_iff.1 hi0).1
        rw [List.getElem?_drop,List.getElem?_take_of_lt (by omega)] at hi0
        exact ⟨by omega,hi0⟩
       refine .sl sz _ b a0 (m' - l) (fun i => vs (l * sz + i)) (fun hne => him (fun h0 => hne (by rw [h0]; simp))) (by omega) (fun e0 he0 => hsz e0 (List.mem_of_mem_take (List.mem_of_mem_drop he0))) (fun i hlt => ?_) (fun i e0 j p q1 q2 => hf _ e0 j p (hget i e0 q1).2 q2) (fun i e0 j p q1 q2 => ?_) none (fun _ => rfl)
       ·rw [hlen] at hlt
        have hne : l < h := by
         rcases Nat.lt_or_ge l h with h0 | h0
         ·exact h0
         ·have : h - l = 0 := by omega
          rw [this] at hlt
          simp at hlt
        rw [ha0 hne,Nat.add_assoc]
        refine hcell _ ?_
        have e1 : (l + (h - l)) * sz ≤ es.length * sz := Nat.mul_le_mul_right _ (by omega)
        rw [Nat.add_mul] at e1
        omega
       ·obtain ⟨_,g⟩ := hget i e0 q1
        have := hrp (l + i) e0 j p g q2
        rw [Nat.add_mul] at this
        rwa [← Nat.add_assoc]
      by_cases hml : m' = l
      ·rw [if_pos hml]
       exact .pv _ _ (key off (fun h0 => by omega)).mk
      ·rw [if_neg hml]
       simp only [Option.map_some,add_plain]
       refine .pv _ _ (RP.mk (key _ (fun h0 => ?_)))
       rcases c4 with rfl | c4
       ·rfl
       ·subst c4
        simp at c3
        omega
  ·rename_i β ver off n
   split at hr
   rotate_left
   ·cases hr
   rename_i blk hb
   split at hr
   rotate_left
   ·cases hr
   rename_i isnil sz k0 hsl
   split at hr
   rotate_left
   ·cases hr
   rename_i l h m hl hh hm
   split at hr
   rotate_left
   ·cases hr
   rename_i hc
   obtain ⟨hver,c1,c2,c3,c4⟩ := hc
   have hxx := hx
   cases hx with
   | row _ _ _ _ _ b ho hb' hk hv hh' =>
   rw [hb] at hb'
   cases hb'
   have hsh := zaq hsl
   obtain ⟨h1,h2⟩ := hh' _ _ _ hsh hver
   cases hn : isnil
   ·subst hn
    simp only [Bool.false_eq_true,if_false] at h2 hr
    obtain ⟨a0,rfl,ha1,ha2,ha3⟩ := h2
    obtain ⟨ab,ao,asp⟩ := a0
    simp only at ha1 ha2 ha3
    subst ha1 ha2
    have hte0 : sz = te.size := by
     rcases c4 with h | h
     ·exact h
     ·cases h
    have g5 := qt6 hi' hb hsl
    have hm' : ∃ m',zi (ev E) ((ι β).cap - off) mx = some m' ∧ ((mx = none ∧ m' = (ι β).cap - off) ∨ (mx ≠ none ∧ m' = m)) := by
     cases mx with
     | none => exact ⟨_,rfl,.inl ⟨rfl,rfl⟩⟩
     | some y => exact ⟨m,hm,.inr ⟨by simp,rfl⟩⟩
    obtain ⟨m',hm',hmm⟩ := hm'
    have hhm : h ≤ m' ∧ m' ≤ (ι β).cap - off := by
     rcases hmm with ⟨rfl,rfl⟩ | ⟨_,rfl⟩
     ·simp only [zi,Option.some.injEq] at hm
      omega
     ·omega
    have hbd := q2w (P := P) true hE lo hi mx n ((ι β).cap - off) hl hh hm' c1 hhm.1 hhm.2 hmx
    refine ⟨_,run _ n _ l h m' hbd, ?_⟩
    split at hr
    ·split at hr <;> cases hr
     rename_i hz hlm
     rcases hmm with ⟨rfl,_⟩ | ⟨_,rfl⟩
     ·cases hz
     ·have e1 : h - l = 0 := by omega
      have e2 : m' - l = 0 := by omega
      rw [if_pos hlm.symm,e1,e2]
      exact .zsl _
    ·rename_i hz
     cases hr
     rcases hmm with ⟨rfl,rfl⟩ | ⟨hne,_⟩
     rotate_left
     ·cases mx with
      | none => exact absurd rfl hne
      | some _ => exact absurd rfl hz
     refine .row β ver (off + l) (h - l) _ _ (by split <;> rfl) hb hk hv fun isnil sz' es' e hv' => ?_
     rw [hsh] at e
     cases e
     refine ⟨by omega, ?_⟩
     simp only [Bool.false_eq_true,if_false]
     by_cases hml : (ι β).cap - off = l
     ·rw [if_pos hml]
      exact ⟨⟨(ι β).b,ao,none⟩,by rw [Nat.sub_sub],rfl,rfl,fun h0 => by omega⟩
     ·rw [if_neg hml]
      refine ⟨⟨(ι β).b,ao + l * te.size,none⟩,by simp only [Option.map_some,add_plain]; rw [Nat.sub_sub],rfl,rfl,fun h0 => ?_⟩
      have := ha3 (by omega)
      subst this
      rw [hte0,Nat.add_mul]
   ·subst hn
    simp only [if_true] at h2 hr
    cases hr
    subst h2
    have hes : k0 = 0 := zoq (hi'.blk β _ hb) hsl
    subst hes
    have hn0 : n = 0 := by omega
    subst hn0
    have hm0 : m = 0 := by omega
    subst hm0
    have hh0 : h = 0 := by omega
    subst hh0
    have hl0 : l = 0 := by omega
    subst hl0
    have hbd := q2w (P := P) true hE lo hi mx 0 0 hl hh hm (Nat.le_refl _) (Nat.le_refl _) (Nat.le_refl _) hmx
    refine ⟨_,run none 0 0 0 0 0 hbd, ?_⟩
    simpa using hxx
  ·split at hr <;> cases hr
   rename_i hl hh hm
   cases hx with
   | zsl a =>
    have hbd := q2w (P := P) true hE lo hi mx 0 0 hl hh hm (Nat.le_refl _) (Nat.le_refl _) (Nat.le_refl _) hmx
    refine ⟨_,run (some a) 0 0 0 0 0 hbd, ?_⟩
    simp
    exact .zsl _
  ·cases hr
 ·cases hr
end
end Go.Gm
set_option linter.unusedSectionVars false
namespace Go.Gm
open Go
section
variable [Globs] {P : Program} {w : World} {H : Heap} {ι : Plc} {Im : Nat → Prop}
theorem RA.z3g {β ver off n : Nat} {v : Value} (hx : RA w H ι Im (.row β ver off n) v) {isnil : Bool} {sz : Nat} {es : List (List PV)}
  (hb : H.get β = some (.row isnil sz es)) (hv : ver = es.length) : off + n ≤ es.length ∧
    if isnil = true then v = .slice none 0 0
    else ∃ a,v = .slice (some a) n ((ι β).cap - off) ∧ a.spot = none ∧ a.block = (ι β).b ∧ (off < (ι β).cap → a.off = off * sz) := by
 cases hx with
 | row _ _ _ _ _ b ho hb' hk hv' hh' =>
  rw [hb] at hb'
  cases hb'
  exact hh' _ _ _ rfl hv
theorem RA.q7n (hi : qa w H ι Im) {β ver off n : Nat} {v : Value} (hx : RA w H ι Im (.row β ver off n) v) {isnil : Bool} {sz : Nat} {es : List (List PV)}
  (hb : H.get β = some (.row isnil sz es)) (hv : ver = es.length) : ∃ a c,v = .slice a n c ∧ a.isNone = isnil := by
 obtain ⟨h1,h2⟩ := hx.z3g hb hv
 cases isnil
 ·simp only [Bool.false_eq_true,if_false] at h2
  obtain ⟨a,rfl,_⟩ := h2
  exact ⟨_,_,rfl,rfl⟩
 ·simp only [if_true] at h2
  subst h2
  have hes : es = [] := hi.blk β _ hb
  subst hes
  have : n = 0 := by simp at h1; omega
  subst this
  exact ⟨_,_,rfl,rfl⟩
theorem RA.qpk {β ver off n : Nat} {v : Value} (hx : RA w H ι Im (.row β ver off n) v) {sz : Nat} {es : List (List AV)}
  (hb : H.get β = some (.ql sz es)) (hv : ver = es.length) : ∃ a c,v = .slice a n c := by
 cases hx with
 | row _ _ _ _ _ b ho hb' hk hver h =>
  rw [hb] at hb'
  cases hb'
  obtain ⟨h1,h2⟩ := h _ _ _ rfl hv
  simp only [Bool.false_eq_true,if_false] at h2
  obtain ⟨a,rfl,_⟩ := h2
  exact ⟨_,_,rfl⟩
theorem RA.qni (hi : qa w H ι Im) {β ver off n : Nat} {v : Value} (hx : RA w H ι Im (.row β ver off n) v) {e : TypeId} {isnil : Bool} {sz : Nat} {es : List (List PV)}
  (hb : H.get β = some (.za e isnil sz es)) (hv : ver = es.length) : ∃ a c,v = .slice a n c := by
 cases hx with
 | row _ _ _ _ _ b ho hb' hk hver h =>
  rw [hb] at hb'
  cases hb'
  obtain ⟨h1,h2⟩ := h _ _ _ rfl hv
  cases isnil with
  | false =>
   simp only [Bool.false_eq_true,if_false] at h2
   obtain ⟨a,rfl,_⟩ := h2
   exact ⟨_,_,rfl⟩
  | true =>
   simp only [if_true] at h2
   subst h2
   have hes : es = [] := hi.blk β _ hb
   subst hes
   have : n = 0 := by simp at h1; omega
   subst this
   exact ⟨_,_,rfl⟩
theorem RA.zre (hi : qa w H ι Im) {β ver off n : Nat} {v : Value} (hx : RA w H ι Im (.row β ver off n) v) {isnil : Bool} {ds : List Nat} {es : List PV} {foc : Option (Nat × Nat × Nat)}
  (hb : H.get β = some (.qh isnil ds es foc)) (hv : ver = es.length) : ∃ a c,v = .slice a n c := by
 cases hx with
 | row _ _ _ _ _ b ho hb' hk hver h =>
  rw [hb] at hb'
  cases hb'
  obtain ⟨h1,h2⟩ := h _ _ _ rfl hv
  cases isnil with
  | false =>
   simp only [Bool.false_eq_true,if_false] at h2
   obtain ⟨a,rfl,_⟩ := h2
   exact ⟨_,_,rfl⟩
  | true =>
   simp only [if_true] at h2
   subst h2
   have hes : es = [] := (hi.blk β _ hb).1
   subst hes
   have : n = 0 := by simp at h1; omega
   subst this
   exact ⟨_,_,rfl⟩
theorem qgn {t : TypeId} {ti : TI} (ht : qb P t ti) (hi : qa w H ι Im) {x : AV} {v : Value} (hx : RA w H ι Im x v) (tt : TypeId) {n : Nat} (htd : q0a ti.td x = true) (hr : q1g x H = some n) :
  (Builtin.len_ #[t] tt #[v]).run P w = .ok (.int .i64 n) w := by
 unfold q1g at hr
 unfold Builtin.len_
 simp only [List.getElem?_toArray,List.getElem?_cons_zero,Sem.run_bind]
 split at hr
 ·rename_i s
  cases hr
  cases hx with
  | pv _ _ h => cases h with
   | str =>
    have htd' : ti.td = .string := by
     cases h : ti.td <;> simp [q0a,h] at htd ⊢
    simp only [qi (ht.string htd'),Result.andThen_ok,goInt]
    rfl
 ·rename_i isnil sz es
  cases hr
  have htd' : ∃ e,ti.td = .slice e := by
   cases h : ti.td <;> simp [q0a,h] at htd ⊢
  obtain ⟨e,htd'⟩ := htd'
  simp only [qi (ht.slice htd'),Result.andThen_ok]
  cases hx with
  | pv _ _ h => cases h <;> rfl
 ·cases hr
  have htd' : ∃ k e,ti.td = .map k e := by
   cases h : ti.td <;> simp [q0a,h] at htd ⊢
  obtain ⟨k,e,htd'⟩ := htd'
  simp only [qi (ht.map htd'),Result.andThen_ok]
  cases hx with
  | pv _ _ h => cases h; rfl
 ·cases hr
  have htd' : ∃ e,ti.td = .slice e := by
   cases h : ti.td <;> simp [q0a,h] at htd ⊢
  obtain ⟨e,htd'⟩ := htd'
  simp only [qi (ht.slice htd'),Result.andThen_ok]
  cases hx with
  | zsl a => rfl
 ·rename_i β ver off m
  have htd' : ∃ e,ti.td = .slice e := by
   cases h : ti.td <;> simp [q0a,h] at htd ⊢
  obtain ⟨e,htd'⟩ := htd'
  simp only [qi (ht.slice htd'),Result.andThen_ok]
  split at hr
  ·rename_i isnil sz es hb
   split at hr <;> cases hr
   rename_i hver
   obtain ⟨a,c,rfl,_⟩ := hx.q7n hi hb hver
   rfl
  ·rename_i sz es hb
   split at hr <;> cases hr
   rename_i hver
   obtain ⟨a,c,rfl⟩ := hx.qpk hb hver
   rfl
  ·rename_i e' isnil sz es hb
   split at hr <;> cases hr
   rename_i hver
   obtain ⟨a,c,rfl⟩ := hx.qni hi hb hver
   rfl
  ·rename_i isnil ds es foc hb
   split at hr <;> cases hr
   rename_i hver
   obtain ⟨a,c,rfl⟩ := hx.zre hi hb hver
   rfl
  ·cases hr
 ·rename_i β
  split at hr <;> cases hr
  rename_i es clock hb
  have htd' : ∃ k e,ti.td = .map k e := by
   cases h : ti.td <;> simp [q0a,h] at htd ⊢
  obtain ⟨k,e,htd'⟩ := htd'
  simp only [qi (ht.map htd'),Result.andThen_ok]
  cases hx with
  | map _ es' clock' hb' =>
   obtain ⟨ents,h1,h2,h3⟩ := hi.blk β _ hb
   have : (getObj (ι β).b).run P w = .ok (.map ⟨ents⟩ clock) w := by
    simp [getObj,Sem.run,h1]
   simp only [Sem.run_bind,this,Result.andThen_ok]
   simp [goInt,h2]
 ·cases hr
theorem ql6 {op : BinOp} {k : IntKind} {x y : Int} {p : PV} (hop : op ≠ .shl ∧ op ≠ .shr) (t : TypeId) (hr : q60 op k x y = some p) :
  ∃ u,(binOp op t (.int k x) (.int k y)).run P w = .ok u w ∧ RP w Im p u := by
 unfold q60 at hr
 cases op <;> simp only [reduceCtorEq] at hr
 case add => cases hr; exact ⟨.int k (k.wrap (x + y)),by simp [binOp,Op.intArith],.int _ _⟩
 case sub => cases hr; exact ⟨.int k (k.wrap (x - y)),by simp [binOp,Op.intArith],.int _ _⟩
 case mul => cases hr; exact ⟨.int k (k.wrap (x * y)),by simp [binOp,Op.intArith],.int _ _⟩
 case quo => split at hr <;> cases hr; rename_i h0; exact ⟨.int k (k.wrap (x.tdiv y)),by simp [binOp,Op.intDiv,h0],.int _ _⟩
 case rem => split at hr <;> cases hr; rename_i h0; exact ⟨.int k (x.tmod y),by simp [binOp,Op.intDiv,h0],.int _ _⟩
 case eql => cases hr; exact ⟨.bool (x == y),by simp [binOp,Op.intCmp],.bool _⟩
 case neq => cases hr; exact ⟨.bool (x != y),by simp [binOp,Op.intCmp],.bool _⟩
 case lss => cases hr; exact ⟨.bool (decide (x < y)),by simp [binOp,Op.intCmp],.bool _⟩
 case leq => cases hr; exact ⟨.bool (decide (x ≤ y)),by simp [binOp,Op.intCmp],.bool _⟩
 case gtr => cases hr; exact ⟨.bool (decide (x > y)),by simp [binOp,Op.intCmp],.bool _⟩
 case geq => cases hr; exact ⟨.bool (decide (x ≥ y)),by simp [binOp,Op.intCmp],.bool _⟩
 case and => cases hr; exact ⟨_,by simp [binOp,Op.intBits],.int _ _⟩
 case or => cases hr; exact ⟨_,by simp [binOp,Op.intBits],.int _ _⟩
 case xor => cases hr; exact ⟨_,by simp [binOp,Op.intBits],.int _ _⟩
 case andNot => cases hr; exact ⟨_,by simp [binOp,Op.intBits],.int _ _⟩
theorem bytesLess_eq : ∀ a b : List UInt8,Op.bytesLess a b = wh a b
 | [],[] => rfl
 | _ :: _,[] => rfl
 | [],_ :: _ => rfl
 | a :: x,b :: y => by simp [Op.bytesLess,wh,bytesLess_eq x y]
theorem zju {op : BinOp} {x y : List UInt8} {p : PV} (t : TypeId) (hr : q5k op x y = some p) :
  ∃ u,(binOp op t (.string ⟨⟨x⟩⟩) (.string ⟨⟨y⟩⟩)).run P w = .ok u w ∧ RP w Im p u := by
 unfold q5k at hr
 cases op <;> simp only [reduceCtorEq] at hr
 case add =>
  split at hr <;> cases hr
  rename_i hl
  refine ⟨.string ⟨⟨x ++ y⟩⟩, ?_,.str _⟩
  have h2 : (ByteArray.mk ⟨x⟩ ++ ByteArray.mk ⟨y⟩ : ByteArray) = ⟨⟨x ++ y⟩⟩ := by
   apply ByteArray.ext
   apply Array.ext'
   simp
  simp [binOp,Op.stringOp,h2]
  show (x.length : Int) + (y.length : Int) ≤ _
  omega
 case eql => cases hr; exact ⟨.bool (x == y),by simp [binOp,Op.stringOp],.bool _⟩
 case neq => cases hr; exact ⟨.bool (!(x == y)),by simp [binOp,Op.stringOp],.bool _⟩
 case lss => cases hr; exact ⟨.bool (wh x y),by simp [binOp,Op.stringOp,bytesLess_eq],.bool _⟩
 case leq => cases hr; exact ⟨.bool (wh x y || x == y),by simp [binOp,Op.stringOp,bytesLess_eq],.bool _⟩
 case gtr => cases hr; exact ⟨.bool (!(wh x y || x == y)),by simp [binOp,Op.stringOp,bytesLess_eq],.bool _⟩
 case geq => cases hr; exact ⟨.bool (!wh x y),by simp [binOp,Op.stringOp,bytesLess_eq],.bool _⟩
theorem zc6 {op : UnOp} {x : AV} {v : Value} (hx : RA w H ι Im x v) {p : PV} (hr : aUn op x = some p) : ∃ u,(Op.unary op v).run P w = .ok u w ∧ RP w Im p u := by
 unfold aUn at hr
 split at hr <;> cases hr
 ·cases hx with
  | pv _ _ h => cases h; exact ⟨_,by simp [Op.unary],.bool _⟩
 ·cases hx with
  | pv _ _ h => cases h; exact ⟨_,by simp [Op.unary,Op.intArith],.int _ _⟩
theorem qbr (isMax : Bool) (k : IntKind) : ∀ (l : List AV) (a : Int) (vs : List Value),l.length = vs.length → (∀ (i : Nat) x v,l[i]? = some x → vs[i]? = some v → RA w H ι Im x v) →
  ∀ {p : PV},q29 isMax k a l = some p → ∃ u,(vs.foldlM (if isMax then Builtin.max2 else Builtin.min2) (.int k a)).run P w = .ok u w ∧ RP w Im p u
 | [],a,vs,hl,_,p,h => by
  have : vs = [] := by simpa using hl.symm
  subst this
  cases h
  exact ⟨.int k a,by simp,.int _ _⟩
 | x :: r,a,vs,hl,hR,p,h => by
  cases vs with
  | nil => simp at hl
  | cons v vr =>
   have hx := hR 0 x v (by simp) (by simp)
   cases x with
   | pv p0 => cases p0 with
    | int k' b =>
     simp only [q29] at h
     cases hx with
     | pv _ _ hp => cases hp with
      | int =>
       obtain ⟨u,g1,g2⟩ := qbr isMax k r _ vr (by simpa using hl) (fun i x v h1 h2 => hR (i + 1) x v (by simpa using h1) (by simpa using h2)) h
       refine ⟨u, ?_,g2⟩
       cases isMax
       ·simp only [Bool.false_eq_true,if_false,List.foldlM_cons,Sem.run_bind,Builtin.min2,Sem.run_pure,Result.andThen_ok] at g1 ⊢
        exact g1
       ·simp only [if_true,List.foldlM_cons,Sem.run_bind,Builtin.max2,Sem.run_pure,Result.andThen_ok] at g1 ⊢
        exact g1
    | _ => simp [q29] at h
   | _ => simp [q29] at h
theorem qb.ptr {t : TypeId} {ti : TI} (ht : qb P t ti) (h : ti.td = .ptr) : ∃ e,P.underlying t = some (.pointer e) := by
 obtain ⟨d,h1,h2⟩ := ht.und
 rw [h] at h2
 cases d <;> simp [yl] at h2
 exact ⟨_,h1⟩
theorem qb.func {t : TypeId} {ti : TI} (ht : qb P t ti) (h : ti.td = .func) : ∃ a b c,P.underlying t = some (.func a b c) := by
 obtain ⟨d,h1,h2⟩ := ht.und
 rw [h] at h2
 cases d <;> simp [yl] at h2
 exact ⟨_,_,_,h1⟩
theorem q71 {t : TypeId} {ti : TI} (ht : qb P t ti) (h : ti.isAgg = false) : P.cellsOf t = 1 := by
 rw [ht.cellsOf]
 obtain ⟨i,z,h1,h2,h3,h4,h5,h6⟩ := ht.info
 have hl := ht.len
 have hz : q1v z = false := by
  rw [h6]
  unfold TI.isAgg at h
  unfold TD.isAgg
  exact h
 have hc : z.cells = #[z] := by
  cases z <;> simp [q1v] at hz <;> rfl
 rw [hc] at h5
 have h5' : vw [z] = some ti.zero := h5
 have one : ∀ l,vw [z] = some l → l.length = 1 := by
  intro l h
  unfold vw at h
  split at h <;> cases h
  rename_i p l e1 e2
  unfold vw at e2
  cases e2
  rfl
 rw [← hl]
 exact one _ h5'
theorem q85 {G : TypeId → Option TI} (hG : ∀ t ti,G t = some ti → qb P t ti) (d : Nat) (xs ys : Array Value) : ∀ (fs : List Field) (i : Nat) (a b : List PV),
  q2q P i fs = true → q28 G (fs.map fun f => (f.offset,P.cellsOf f.type,f.type)) a = true →
  (∀ (j : Nat) p v,a[j]? = some p → xs[i + j]? = some v → RP w Im p v) → (∀ (j : Nat) p v,b[j]? = some p → ys[i + j]? = some v → RP w Im p v) →
  i + a.length ≤ xs.size → i + b.length ≤ ys.size → ∀ {r : Bool},qm a b = some r → (Op.eqFields (d + 1) xs ys fs).run P w = .ok r w
 | [],i,a,b,_,hl,_,_,_,_,r,h => by
  cases a with
  | cons p a => simp [q28] at hl
  | nil =>
  cases b <;> simp [qm] at h
  subst h
  simp [Op.eqFields]
 | f :: fs,i,a,b,hp,hl,ha,hb,hxs,hys,r,h => by
  simp only [q2q,Bool.and_eq_true,bne_iff_ne,ne_eq,beq_iff_eq] at hp
  obtain ⟨⟨hn,hoff⟩,hp⟩ := hp
  cases a with
  | nil => simp [q28] at hl
  | cons p a =>
  simp only [List.map_cons,q28,Bool.and_eq_true] at hl
  obtain ⟨hty,hl⟩ := hl
  split at hty
  rotate_left
  ·cases hty
  rename_i tif htif
  have htf := hG _ _ htif
  cases b with
  | nil => cases p <;> simp [qm] at h
  | cons q b =>
  simp only [List.length_cons] at hxs hys
  obtain ⟨x,hx⟩ : ∃ x,xs[i]? = some x := ⟨xs[i]'(by omega),by simp⟩
  obtain ⟨y,hy⟩ : ∃ y,ys[i]? = some y := ⟨ys[i]'(by omega),by simp⟩
  have hpx := ha 0 p x (by simp) (by simpa using hx)
  have hqy := hb 0 q y (by simp) (by simpa using hy)
  have hagg : tif.isAgg = false := by
   unfold TI.isAgg
   cases htd : tif.td <;> simp [zf,htd] at hty ⊢
  rw [q71 htf hagg] at hp
  have rest : ∀ {t : Bool},qm a b = some t → (Op.eqFields (d + 1) xs ys fs).run P w = .ok t w := fun ht =>
   q85 hG d xs ys fs (i + 1) a b hp hl (fun j p v h1 h2 => ha (j + 1) p v (by simpa using h1) (by rwa [show i + (j + 1) = i + 1 + j from by omega]))
    (fun j p v h1 h2 => hb (j + 1) p v (by simpa using h1) (by rwa [show i + (j + 1) = i + 1 + j from by omega])) (by omega) (by omega) ht
  have part1 : ∀ (cs : Array Value) (v : Value),cs[i]? = some v → (part f.type cs f.offset).run P w = .ok v w := by
   intro cs v hv
   unfold part
   simp only [hoff,Sem.run_bind,htf.isAgg,hagg,Result.andThen_ok,Bool.false_eq_true,if_false,hv,Sem.run_pure]
  have step : ∀ (t u : Bool),(Op.equalIn (d + 1) f.type x y).run P w = .ok t w → qm a b = some u → (Op.eqFields (d + 1) xs ys (f :: fs)).run P w = .ok (t && u) w := by
   intro t u h1 h2
   simp only [Op.eqFields,hn,not_false_eq_true,ne_eq,if_true,Sem.run_bind,part1 xs x hx,part1 ys y hy,Result.andThen_ok,h1]
   cases t
   ·simp
   ·simp [rest h2]
  cases p with
  | int k n => cases q with
   | int k' n' =>
    simp only [qm] at h
    split at h
    rotate_left
    ·cases h
    rename_i hk
    subst hk
    split at h <;> cases h
    rename_i t ht
    refine step _ _ ?_ ht
    cases hpx; cases hqy
    obtain ⟨k0,htd⟩ : ∃ k0,tif.td = .int k0 := by cases htd : tif.td <;> simp [zf,htd] at hty ⊢
    exact run_equalIn_int w d f.type k k0 n n' (htf.int htd)
   | _ => simp [qm] at h
  | str s => cases q with
   | str s' =>
    simp only [qm] at h
    split at h <;> cases h
    rename_i t ht
    refine step _ _ ?_ ht
    cases hpx; cases hqy
    have htd : tif.td = .string := by cases htd : tif.td <;> simp [zf,htd] at hty ⊢
    have := run_equalIn_string w d f.type ⟨⟨s⟩⟩ ⟨⟨s'⟩⟩ (htf.string htd)
    simpa using this
   | _ => simp [qm] at h
  | bool x1 => cases q with
   | bool x2 =>
    simp only [qm] at h
    split at h <;> cases h
    rename_i t ht
    refine step _ _ ?_ ht
    cases hpx; cases hqy
    have htd : tif.td = .bool := by cases htd : tif.td <;> simp [zf,htd] at hty ⊢
    exact run_equalIn_bool' w d f.type x1 x2 (htf.bool htd)
   | _ => simp [qm] at h
  | _ => simp [qm] at h
theorem q9j : ∀ {a b : List PV} {r : Bool},qm a b = some r → a.length = b.length
 | [],[],_,_ => rfl
 | [],_ :: _,_,h => by simp [qm] at h
 | p :: a,[],_,h => by cases p <;> simp [qm] at h
 | p :: a,q :: b,r,h => by
  have : ∃ t,qm a b = some t := by
   cases p <;> cases q <;> simp only [qm,reduceCtorEq] at h
   ·split at h <;> cases h; rename_i t ht; exact ⟨t,ht⟩
   ·split at h
    ·split at h <;> cases h; rename_i t ht; exact ⟨t,ht⟩
    ·cases h
   ·split at h <;> cases h; rename_i t ht; exact ⟨t,ht⟩
  obtain ⟨t,ht⟩ := this
  simp [q9j ht]
theorem qan : ∀ (n : Nat) (a b : List PV) (r : Bool),qm a b = some r → ∃ t u,qm (a.take n) (b.take n) = some t ∧ qm (a.drop n) (b.drop n) = some u ∧ r = (t && u)
 | 0,a,b,r,h => ⟨true,r,rfl,h,by simp⟩
 | n + 1,[],[],r,h => ⟨true,true,rfl,rfl,by simp [qm] at h; rw [h]; rfl⟩
 | n + 1,[],_ :: _,r,h => by simp [qm] at h
 | n + 1,p :: a,[],r,h => by cases p <;> simp [qm] at h
 | n + 1,p :: a,q :: b,r,h => by
  have key : ∀ (x : Bool) (s : Option Bool),(match qm a b with | some t => some (x && t) | none => none) = s → s = some r → ∃ t u,(match qm (a.take n) (b.take n) with | some t => some (x && t) | none => none) = some t ∧ qm (a.drop n) (b.drop n) = some u ∧ r = (t && u) := by
   intro x s h1 h2
   subst h1
   split at h2 <;> cases h2
   rename_i t ht
   obtain ⟨t1,u1,g1,g2,g3⟩ := qan n a b t ht
   refine ⟨x && t1,u1,by rw [g1],g2, ?_⟩
   rw [g3,Bool.and_assoc]
  cases p with
  | int k i => cases q with
   | int k' i' =>
    simp only [qm,List.take_succ_cons,List.drop_succ_cons] at h ⊢
    split at h
    ·rename_i hk
     rw [if_pos hk]
     exact key _ _ rfl h
    ·cases h
   | _ => simp [qm] at h
  | str x => cases q with
   | str y =>
    simp only [qm,List.take_succ_cons,List.drop_succ_cons] at h ⊢
    exact key _ _ rfl h
   | _ => simp [qm] at h
  | bool x => cases q with
   | bool y =>
    simp only [qm,List.take_succ_cons,List.drop_succ_cons] at h ⊢
    exact key _ _ rfl h
   | _ => simp [qm] at h
  | _ => simp [qm] at h
theorem q6i {G : TypeId → Option TI} (hG : ∀ t ti,G t = some ti → qb P t ti) (d : Nat) (xs ys : Array Value) : ∀ (fs : List Field) (i : Nat) (a b : List PV),
  q2q P i fs = true → fitAll G (fs.map fun f => (f.offset,P.cellsOf f.type,f.type)) a = true →
  (∀ (j : Nat) p v,a[j]? = some p → xs[i + j]? = some v → RP w Im p v) → (∀ (j : Nat) p v,b[j]? = some p → ys[i + j]? = some v → RP w Im p v) →
  i + a.length ≤ xs.size → i + b.length ≤ ys.size → ∀ {r : Bool},qm a b = some r → (Op.eqFields (d + 2) xs ys fs).run P w = .ok r w
 | [],i,a,b,_,hl,_,_,_,_,r,h => by
  cases a with
  | cons p a => simp [fitAll] at hl
  | nil =>
  cases b <;> simp [qm] at h
  subst h
  simp [Op.eqFields]
 | f :: fs,i,a,b,hp,hl,ha,hb,hxs,hys,r,h => by
  simp only [q2q,Bool.and_eq_true,bne_iff_ne,ne_eq,beq_iff_eq] at hp
  obtain ⟨⟨hn,hoff⟩,hp⟩ := hp
  simp only [List.map_cons,fitAll] at hl
  split at hl
  rotate_left
  ·cases hl
  rename_i tif htif
  have htf := hG _ _ htif
  have hablen := q9j h
  simp only [Bool.and_eq_true] at hl
  obtain ⟨hfield,hl⟩ := hl
  unfold q69 at hfield
  split at hfield
  ·rename_i fs' htd
   split at hfield
   rotate_left
   ·cases hfield
   rename_i hsz
   simp only [Bool.and_eq_true] at hfield
   obtain ⟨hteq,hin⟩ := hfield
   obtain ⟨fields,hu,hfs⟩ := htf.struct htd
   have hek := htf.eqk
   rw [hteq] at hek
   have hek := hek.symm
   unfold q59 at hek
   rw [hu] at hek
   simp only [Bool.and_eq_true,Bool.not_eq_true'] at hek
   obtain ⟨⟨e1,e2⟩,e3⟩ := hek
   have hcs := htf.cellsOf
   rw [hcs] at hp
   obtain ⟨t,u,q1,q2,q3⟩ := qan tif.size a b r h
   have hagg : tif.isAgg = true := by unfold TI.isAgg; rw [htd]
   have hfo : P.underlying f.type = some (.struct (P.fieldsOf f.type)) := by simp [Program.fieldsOf,hu]
   have hfe : P.fieldsOf f.type = fields := by simp [Program.fieldsOf,hu]
   have part1 : ∀ (cs : Array Value),(part f.type cs f.offset).run P w = .ok (.agg (cs.extract i (i + tif.size))) w := by
    intro cs
    unfold part
    simp only [hoff,Sem.run_bind,htf.isAgg,hagg,Result.andThen_ok,if_true,htf.size,Sem.run_pure]
   have hex : ∀ (cs : Array Value) (c : List PV),(∀ (j : Nat) p v,c[j]? = some p → cs[i + j]? = some v → RP w Im p v) → i + c.length ≤ cs.size →
     (∀ (j : Nat) p v,(c.take tif.size)[j]? = some p → (cs.extract i (i + tif.size))[0 + j]? = some v → RP w Im p v) ∧ 0 + (c.take tif.size).length ≤ (cs.extract i (i + tif.size)).size := by
    intro cs c hc hsz
    refine ⟨fun j p v h1 h2 => ?_,by simp; omega⟩
    by_cases hj : j < tif.size
    ·rw [List.getElem?_take_of_lt hj] at h1
     have hjc := (List.getElem?_eq_some_iff.1 h1).1
     refine hc j p v h1 ?_
     rw [Nat.zero_add,Array.getElem?_extract] at h2
     split at h2
     ·exact h2
     ·cases h2
    ·have := (List.getElem?_eq_some_iff.1 h1).1
     simp at this
     omega
   have hx := hex xs a ha hxs
   have hy := hex ys b hb hys
   have hsub : (Op.equalIn (d + 2) f.type (.agg (xs.extract i (i + tif.size))) (.agg (ys.extract i (i + tif.size)))).run P w = .ok t w := by
    show (Op.equalIn ((d + 1) + 1) f.type _ _).run P w = _
    rw [run_equalIn_struct w (d + 1) f.type _ _ hfo e1,hfe]
    exact q85 hG d _ _ fields.toList 0 _ _ e3 (by rw [hfs] at hin; exact hin) hx.1 hy.1 hx.2 hy.2 q1
   have rest : (Op.eqFields (d + 2) xs ys fs).run P w = .ok u w :=
    q6i hG d xs ys fs (i + tif.size) (a.drop tif.size) (b.drop tif.size) hp hl
     (fun j p v h1 h2 => ha (tif.size + j) p v (by simpa using h1) (by rwa [show i + (tif.size + j) = i + tif.size + j from by omega]))
     (fun j p v h1 h2 => hb (tif.size + j) p v (by simpa using h1) (by rwa [show i + (tif.size + j) = i + tif.size + j from by omega]))
     (by simp; omega) (by simp; omega) q2
   subst q3
   simp only [Op.eqFields,hn,not_false_eq_true,ne_eq,if_true,Sem.run_bind,part1 xs,part1 ys,Result.andThen_ok,hsub]
   cases t
   ·simp
   ·simp [rest]
  ·have hagg0 : tif.isAgg = false := by
    unfold TI.isAgg
    cases htd : tif.td <;> simp [zf,htd] at hfield ⊢
   have hs1 : tif.size = 1 := by rw [← htf.cellsOf]; exact q71 htf hagg0
   rw [hs1] at hl
   cases a with
   | nil => simp [zf] at hfield
   | cons p a =>
   simp only [List.headD_cons,List.drop_succ_cons,List.drop_zero] at hfield hl
   have hty := hfield
   cases b with
   | nil => cases p <;> simp [qm] at h
   | cons q b =>
   simp only [List.length_cons] at hxs hys
   obtain ⟨x,hx⟩ : ∃ x,xs[i]? = some x := ⟨xs[i]'(by omega),by simp⟩
   obtain ⟨y,hy⟩ : ∃ y,ys[i]? = some y := ⟨ys[i]'(by omega),by simp⟩
   have hpx := ha 0 p x (by simp) (by simpa using hx)
   have hqy := hb 0 q y (by simp) (by simpa using hy)
   have hagg : tif.isAgg = false := by
    unfold TI.isAgg
    cases htd : tif.td <;> simp [zf,htd] at hty ⊢
   rw [q71 htf hagg] at hp
   have rest : ∀ {t : Bool},qm a b = some t → (Op.eqFields (d + 2) xs ys fs).run P w = .ok t w := fun ht =>
    q6i hG d xs ys fs (i + 1) a b hp hl (fun j p v h1 h2 => ha (j + 1) p v (by simpa using h1) (by rwa [show i + (j + 1) = i + 1 + j from by omega]))
     (fun j p v h1 h2 => hb (j + 1) p v (by simpa using h1) (by rwa [show i + (j + 1) = i + 1 + j from by omega])) (by omega) (by omega) ht
   have part1 : ∀ (cs : Array Value) (v : Value),cs[i]? = some v → (part f.type cs f.offset).run P w = .ok v w := by
    intro cs v hv
    unfold part
    simp only [hoff,Sem.run_bind,htf.isAgg,hagg,Result.andThen_ok,Bool.false_eq_true,if_false,hv,Sem.run_pure]
   have step : ∀ (t u : Bool),(Op.equalIn (d + 2) f.type x y).run P w = .ok t w → qm a b = some u → (Op.eqFields (d + 2) xs ys (f :: fs)).run P w = .ok (t && u) w := by
    intro t u h1 h2
    simp only [Op.eqFields,hn,not_false_eq_true,ne_eq,if_true,Sem.run_bind,part1 xs x hx,part1 ys y hy,Result.andThen_ok,h1]
    cases t
    ·simp
    ·simp [rest h2]
   cases p with
   | int k n => cases q with
    | int k' n' =>
     simp only [qm] at h
     split at h
     rotate_left
     ·cases h
     rename_i hk
     subst hk
     split at h <;> cases h
     rename_i t ht
     refine step _ _ ?_ ht
     cases hpx; cases hqy
     obtain ⟨k0,htd⟩ : ∃ k0,tif.td = .int k0 := by cases htd : tif.td <;> simp [zf,htd] at hty ⊢
     exact run_equalIn_int w (d + 1) f.type k k0 n n' (htf.int htd)
    | _ => simp [qm] at h
   | str s => cases q with
    | str s' =>
     simp only [qm] at h
     split at h <;> cases h
     rename_i t ht
     refine step _ _ ?_ ht
     cases hpx; cases hqy
     have htd : tif.td = .string := by cases htd : tif.td <;> simp [zf,htd] at hty ⊢
     have := run_equalIn_string w (d + 1) f.type ⟨⟨s⟩⟩ ⟨⟨s'⟩⟩ (htf.string htd)
     simpa using this
    | _ => simp [qm] at h
   | bool x1 => cases q with
    | bool x2 =>
     simp only [qm] at h
     split at h <;> cases h
     rename_i t ht
     refine step _ _ ?_ ht
     cases hpx; cases hqy
     have htd : tif.td = .bool := by cases htd : tif.td <;> simp [zf,htd] at hty ⊢
     exact run_equalIn_bool' w (d + 1) f.type x1 x2 (htf.bool htd)
    | _ => simp [qm] at h
   | _ => simp [qm] at h
def q20 : Value → Bool
 | .bool _ | .agg _ | .slice _ _ _ | .pointer _ | .map _ | .func _ _ _ | .nilFunc => true
 | _ => false
theorem binOp_eql {t : TypeId} {x y : Value} (h : q20 x = true) : (binOp .eql t x y).run P w = ((Op.equal t x y).run P w).andThen fun b w' => .ok (.bool b) w' := by
 cases x <;> simp [q20] at h <;> simp [binOp]
theorem binOp_neq {t : TypeId} {x y : Value} (h : q20 x = true) : (binOp .neq t x y).run P w = ((Op.equal t x y).run P w).andThen fun b w' => .ok (.bool (!b)) w' := by
 cases x <;> simp [q20] at h <;> simp [binOp]
theorem qcu (d : Nat) {t e : TypeId} (hu : P.underlying t = some (.slice e)) (a : Option Addr) (n c n' c' : Nat) :
  (Op.equalIn (d + 1) t (.slice a n c) (.slice none n' c')).run P w = .ok a.isNone w ∧ (Op.equalIn (d + 1) t (.slice none n' c') (.slice a n c)).run P w = .ok a.isNone w := by
 cases a <;> simp [Op.equalIn,qi hu]
theorem qa8 (d : Nat) {t e : TypeId} (hu : P.underlying t = some (.pointer e)) (a : Option Addr) :
  (Op.equalIn (d + 1) t (.pointer a) (.pointer none)).run P w = .ok a.isNone w ∧ (Op.equalIn (d + 1) t (.pointer none) (.pointer a)).run P w = .ok a.isNone w := by
 cases a <;> simp [Op.equalIn,qi hu]
theorem q8x (d : Nat) {t k e : TypeId} (hu : P.underlying t = some (.map k e)) (a : Option Nat) :
  (Op.equalIn (d + 1) t (.map a) (.map none)).run P w = .ok a.isNone w ∧ (Op.equalIn (d + 1) t (.map none) (.map a)).run P w = .ok a.isNone w := by
 cases a <;> simp [Op.equalIn,qi hu]
theorem q7b (d : Nat) {t : TypeId} {p1 p2 p3} (hu : P.underlying t = some (.func p1 p2 p3)) (f : Fn) (a b : Array Value) :
  (Op.equalIn (d + 1) t (.func f a b) .nilFunc).run P w = .ok false w ∧ (Op.equalIn (d + 1) t .nilFunc (.func f a b)).run P w = .ok false w ∧
  (Op.equalIn (d + 1) t .nilFunc .nilFunc).run P w = .ok true w := by
 simp [Op.equalIn,qi hu]
theorem q8k {G : TypeId → Option TI} (hG : ∀ t ti,G t = some ti → qb P t ti) {t : TypeId} {ti : TI} (ht : qb P t ti) (hi : qa w H ι Im) {x y : AV} {vx vy : Value}
  (hx : RA w H ι Im x vx) (hy : RA w H ι Im y vy) (ox oy : Operand) {r : Bool} (hr : aEq G ti x y H = some r) :
  (eqGuard .eql t ox oy vx vy).run P w = .ok () w ∧ (eqGuard .neq t ox oy vx vy).run P w = .ok () w ∧ (Op.equal t vx vy).run P w = .ok r w ∧ q20 vx = true := by
 have plainGuard : ∀ (vx vy : Value),(∀ c d,¬ (vx = .agg c ∧ vy = .agg d)) → ¬ (vx = .nilIface ∧ vy = .nilIface) → ∀ op,(eqGuard op t ox oy vx vy).run P w = .ok () w := by
  intro vx vy h1 h2 op
  unfold eqGuard
  cases vx <;> cases vy <;> simp_all
 unfold aEq at hr
 split at hr
 ·rename_i htd
  split at hr <;> cases hr
  rename_i b1 b2
  cases hx with | pv _ _ hx => cases hy with | pv _ _ hy =>
  cases hx; cases hy
  refine ⟨plainGuard _ _ (by simp) (by simp) _,plainGuard _ _ (by simp) (by simp) _, ?_⟩
  exact ⟨run_equalIn_bool' w 9999 t b1 b2 (ht.bool htd),rfl⟩
 ·rename_i fs htd
  obtain ⟨fields,hu,rfl⟩ := ht.struct htd
  split at hr
  rotate_left
  ·cases hr
  rename_i a b
  split at hr
  rotate_left
  ·cases hr
  rename_i hc
  obtain ⟨heq,hfit⟩ := hc
  have hek := ht.eqk
  rw [heq] at hek
  have hek := hek.symm
  unfold q59 at hek
  rw [hu] at hek
  simp only [Bool.and_eq_true,Bool.not_eq_true'] at hek
  obtain ⟨⟨e1,e2⟩,e3⟩ := hek
  cases hx with | pv _ _ hx => cases hy with | pv _ _ hy =>
  cases hx with | agg _ xs hlx _ hxx => cases hy with | agg _ ys hly _ hyy =>
  refine ⟨run_eqGuard_agg w .eql t ox oy _ _ e2,run_eqGuard_agg w .neq t ox oy _ _ e2, ?_,rfl⟩
  have hfo : P.underlying t = some (.struct (P.fieldsOf t)) := by simp [Program.fieldsOf,hu]
  have hfe : P.fieldsOf t = fields := by simp [Program.fieldsOf,hu]
  have := run_equalIn_struct w 9999 t ⟨xs⟩ ⟨ys⟩ hfo e1
  unfold Op.equal
  show (Op.equalIn (9999 + 1) t _ _).run P w = _
  rw [this,hfe]
  exact q6i hG 9997 ⟨xs⟩ ⟨ys⟩ fields.toList 0 a b e3 hfit (fun j p v h1 h2 => hxx j p v h1 (by simpa using h2)) (fun j p v h1 h2 => hyy j p v h1 (by simpa using h2))
   (by simp [hlx]) (by simp [hly]) hr
 ·rename_i td hnb hns
  have nilOf : ∀ {z : AV} {vz : Value},RA w H ι Im z vz → ∀ {q : Bool},xc ti.td z H = some q →
    (∃ e,ti.td = .slice e ∧ ∃ a n c,vz = .slice a n c ∧ a.isNone = q) ∨ (ti.td = .ptr ∧ ∃ a,vz = .pointer a ∧ a.isNone = q) ∨
    ((∃ k e,ti.td = .map k e) ∧ ∃ a,vz = .map a ∧ a.isNone = q) ∨ (ti.td = .func ∧ ((vz = .nilFunc ∧ q = true) ∨ ∃ f a b,vz = .func f a b ∧ q = false)) := by
   intro z vz hz q hq
   unfold xc at hq
   split at hq
   ·rename_i htd
    refine .inr (.inl ⟨htd, ?_⟩)
    split at hq <;> cases hq
    ·cases hz with | pv _ _ h => cases h; exact ⟨_,rfl,rfl⟩
    ·cases hz; exact ⟨_,rfl,rfl⟩
    ·cases hz; exact ⟨_,rfl,rfl⟩
    ·cases hz; exact ⟨_,rfl,rfl⟩
    ·cases hz with | pv _ _ h => cases h; exact ⟨_,rfl,rfl⟩
   ·rename_i e htd
    refine .inl ⟨e,htd, ?_⟩
    split at hq
    ·cases hq
     cases hz with | pv _ _ h =>
     cases h
     ·exact ⟨_,_,_,rfl,rfl⟩
     ·exact ⟨_,_,_,rfl,rfl⟩
    ·cases hq
     cases hz; exact ⟨_,_,_,rfl,rfl⟩
    ·rename_i β ver off n
     split at hq
     rotate_left
     ·cases hq
     rename_i isnil sz es hb
     split at hq <;> cases hq
     rename_i hv
     obtain ⟨a,c,rfl,hn⟩ := hz.q7n hi hb hv
     exact ⟨_,_,_,rfl,hn⟩
    ·cases hq
   ·rename_i k e htd
    refine .inr (.inr (.inl ⟨⟨k,e,htd⟩, ?_⟩))
    split at hq <;> cases hq
    ·cases hz with | pv _ _ h => cases h; exact ⟨_,rfl,rfl⟩
    ·cases hz; exact ⟨_,rfl,rfl⟩
   ·rename_i htd
    refine .inr (.inr (.inr ⟨htd, ?_⟩))
    split at hq <;> cases hq
    ·cases hz with | pv _ _ h => cases h; exact .inl ⟨rfl,rfl⟩
    ·cases hz with | pv _ _ h => cases h; exact .inr ⟨_,_,_,rfl,rfl⟩
    ·cases hz; exact .inr ⟨_,_,_,rfl,rfl⟩
   ·cases hq
  have isNil : ∀ {z : AV} {vz : Value},RA w H ι Im z vz → q3w ti.td z = true → xc ti.td z H = some true := by
   intro z vz hz h
   unfold q3w at h
   split at h <;> rename_i h1 <;> first | (rw [h1]; rfl) | cases h
  have main : ∀ {z z' : AV} {vz vz' : Value},RA w H ι Im z vz → RA w H ι Im z' vz' → xc ti.td z H = some r → xc ti.td z' H = some true →
    (∀ c d,¬ (vz = .agg c ∧ vz' = .agg d)) ∧ (∀ c d,¬ (vz' = .agg c ∧ vz = .agg d)) ∧ ¬ (vz = .nilIface ∧ vz' = .nilIface) ∧ ¬ (vz' = .nilIface ∧ vz = .nilIface) ∧
    (Op.equal t vz vz').run P w = .ok r w ∧ (Op.equal t vz' vz).run P w = .ok r w ∧ q20 vz = true ∧ q20 vz' = true := by
   intro z z' vz vz' hz hz' h1 h2
   have g1 := nilOf hz h1
   have g2 := nilOf hz' h2
   unfold Op.equal
   rcases g1 with ⟨e,htd,a,n,c,rfl,hn⟩ | ⟨htd,a,rfl,hn⟩ | ⟨⟨k,e,htd⟩,a,rfl,hn⟩ | ⟨htd,g1⟩
   ·rcases g2 with ⟨e',htd',a',n',c',rfl,hn'⟩ | ⟨htd',_⟩ | ⟨⟨k',e',htd'⟩,_⟩ | ⟨htd',_⟩
    rotate_left
    ·rw [htd] at htd'; cases htd'
    ·rw [htd] at htd'; cases htd'
    ·rw [htd] at htd'; cases htd'
    have : a' = none := by simpa using hn'
    subst this hn
    exact ⟨by simp,by simp,by simp,by simp,(qcu 9999 (ht.slice htd) a n c n' c').1,(qcu 9999 (ht.slice htd) a n c n' c').2,rfl,rfl⟩
   ·obtain ⟨e,hu⟩ := ht.ptr htd
    rcases g2 with ⟨e',htd',_⟩ | ⟨htd',a',rfl,hn'⟩ | ⟨⟨k',e',htd'⟩,_⟩ | ⟨htd',_⟩
    ·rw [htd] at htd'; cases htd'
    rotate_left
    ·rw [htd] at htd'; cases htd'
    ·rw [htd] at htd'; cases htd'
    have : a' = none := by simpa using hn'
    subst this hn
    exact ⟨by simp,by simp,by simp,by simp,(qa8 9999 hu a).1,(qa8 9999 hu a).2,rfl,rfl⟩
   ·rcases g2 with ⟨e',htd',_⟩ | ⟨htd',_⟩ | ⟨⟨k',e',htd'⟩,a',rfl,hn'⟩ | ⟨htd',_⟩
    ·rw [htd] at htd'; cases htd'
    ·rw [htd] at htd'; cases htd'
    rotate_left
    ·rw [htd] at htd'; cases htd'
    have : a' = none := by simpa using hn'
    subst this hn
    exact ⟨by simp,by simp,by simp,by simp,(q8x 9999 (ht.map htd) a).1,(q8x 9999 (ht.map htd) a).2,rfl,rfl⟩
   ·obtain ⟨p1,p2,p3,hu⟩ := ht.func htd
    rcases g2 with ⟨e',htd',_⟩ | ⟨htd',_⟩ | ⟨⟨k',e',htd'⟩,_⟩ | ⟨htd',g2⟩
    ·rw [htd] at htd'; cases htd'
    ·rw [htd] at htd'; cases htd'
    ·rw [htd] at htd'; cases htd'
    rcases g2 with ⟨rfl,_⟩ | ⟨_,_,_,_,h⟩
    rotate_left
    ·cases h
    rcases g1 with ⟨rfl,rfl⟩ | ⟨f,a,b,rfl,rfl⟩
    ·have := (q7b (P := P) (w := w) 9999 hu (.func 0) #[] #[]).2.2
     exact ⟨by simp,by simp,by simp,by simp,this,this,rfl,rfl⟩
    ·exact ⟨by simp,by simp,by simp,by simp,(q7b 9999 hu f a b).1,(q7b 9999 hu f a b).2.1,rfl,rfl⟩
  split at hr
  ·rename_i hn
   obtain ⟨m1,m2,m3,m4,m5,m6,m7,m8⟩ := main hx hy hr (isNil hy hn)
   exact ⟨plainGuard _ _ m1 m3 _,plainGuard _ _ m1 m3 _,m5,m7⟩
  ·split at hr
   ·rename_i hn
    obtain ⟨m1,m2,m3,m4,m5,m6,m7,m8⟩ := main hy hx hr (isNil hx hn)
    exact ⟨plainGuard _ _ m2 m4 _,plainGuard _ _ m2 m4 _,m6,m8⟩
   ·cases hr
theorem zgp {G : TypeId → Option TI} (hG : ∀ t ti,G t = some ti → qb P t ti) {t : TypeId} {ti : TI} (ht : qb P t ti) (hi : qa w H ι Im) {x y : AV} {vx vy : Value}
  (hx : RA w H ι Im x vx) (hy : RA w H ι Im y vy) (op : BinOp) (ox oy : Operand) {p : PV} (hr : q1o G op ti x y H = some p) :
  ∃ u,(eqGuard op t ox oy vx vy).run P w = .ok () w ∧ (binOp op t vx vy).run P w = .ok u w ∧ RP w Im p u := by
 have intGuard : ∀ (k k' : IntKind) (a b : Int) (op : BinOp),(eqGuard op t ox oy (.int k a) (.int k' b)).run P w = .ok () w := by
  intro k k' a b op
  unfold eqGuard
  cases op <;> simp
 have strGuard : ∀ (a b : ByteArray) (op : BinOp),(eqGuard op t ox oy (.string a) (.string b)).run P w = .ok () w := by
  intro a b op
  unfold eqGuard
  cases op <;> simp
 unfold q1o at hr
 split at hr
 ·split at hr
  rotate_left
  ·cases hr
  rename_i k a k' b
  split at hr <;> cases hr
  rename_i h0
  cases hx with | pv _ _ hx => cases hy with | pv _ _ hy =>
  cases hx; cases hy
  have : ¬ b < 0 := by omega
  exact ⟨_,intGuard _ _ _ _ _,by simp [binOp,Op.shift,this],.int _ _⟩
 ·split at hr
  rotate_left
  ·cases hr
  rename_i k a k' b
  split at hr <;> cases hr
  rename_i h0
  cases hx with | pv _ _ hx => cases hy with | pv _ _ hy =>
  cases hx; cases hy
  have : ¬ b < 0 := by omega
  exact ⟨_,intGuard _ _ _ _ _,by simp [binOp,Op.shift,this],.int _ _⟩
 ·rename_i h1 h2
  split at hr
  ·rename_i k a k' b
   split at hr
   rotate_left
   ·cases hr
   rename_i hk
   subst hk
   cases hx with | pv _ _ hx => cases hy with | pv _ _ hy =>
   cases hx; cases hy
   obtain ⟨u,g1,g2⟩ := ql6 (P := P) (w := w) (Im := Im) ⟨h1,h2⟩ t hr
   exact ⟨u,intGuard _ _ _ _ _,g1,g2⟩
  ·cases hx with | pv _ _ hx => cases hy with | pv _ _ hy =>
   cases hx; cases hy
   obtain ⟨u,g1,g2⟩ := zju (P := P) (w := w) (Im := Im) t hr
   exact ⟨u,strGuard _ _ _,g1,g2⟩
  ·rename_i x y hni hns
   split at hr
   ·split at hr <;> cases hr
    rename_i b hb
    obtain ⟨g1,g2,g3,g4⟩ := q8k hG ht hi hx hy ox oy hb
    exact ⟨.bool b,g1,by rw [binOp_eql g4,g3]; rfl,.bool _⟩
   ·split at hr <;> cases hr
    rename_i b hb
    obtain ⟨g1,g2,g3,g4⟩ := q8k hG ht hi hx hy ox oy hb
    exact ⟨.bool (!b),g2,by rw [binOp_neq g4,g3]; rfl,.bool _⟩
   ·cases hr
end
end Go.Gm
set_option linter.unusedSectionVars false
namespace Go.Gm
open Go
section
variable [Globs] {P : Program} {w : World} {H : Heap} {ι : Plc} {Im : Nat → Prop}
theorem RA.zo {p : PV} {v : Value} (h : RA w H ι Im (.pv p) v) : RP w Im p v := by
 cases h
 assumption
theorem q9v : ∀ (es : List (List PV)) (l : List UInt8),bytesOf es = some l → ∀ (cs : Nat → Option Value) (k : Nat),(∀ (i : Nat) e (j : Nat) p,es[i]? = some e → e[j]? = some p → ∃ v,cs (k + i) = some v ∧ RP w Im p v ∧ j = 0) →
  es.length = l.length ∧ ∀ i,i < es.length → ∃ n : Int,cs (k + i) = some (.int .u8 n) ∧ l[i]? = some (UInt8.ofNat n.toNat)
 | [],l,h,cs,k,_ => by
  simp only [bytesOf,Option.some.injEq] at h
  subst h
  simp
 | e :: r,l,h,cs,k,hc => by
  unfold bytesOf at h
  split at h
  ·cases ‹_ :: _ = []›
  ·rename_i n r' heq
   obtain ⟨rfl,rfl⟩ : e = [.int .u8 n] ∧ r = r' := by simpa using heq
   split at h <;> cases h
   rename_i l' hl
   obtain ⟨h1,h2⟩ := q9v r l' hl cs (k + 1) (fun i e j p a b => by
    have := hc (i + 1) e j p (by simpa using a) b
    rwa [show k + (i + 1) = k + 1 + i from by omega] at this)
   refine ⟨by simp [h1],fun i hi => ?_⟩
   cases i with
   | zero =>
    obtain ⟨v,g1,g2,_⟩ := hc 0 [.int .u8 n] 0 (.int .u8 n) (by simp) (by simp)
    cases g2
    exact ⟨n,g1,by simp⟩
   | succ i =>
    simp only [List.length_cons] at hi
    obtain ⟨n',g1,g2⟩ := h2 i (by omega)
    exact ⟨n',by rwa [show k + (i + 1) = k + 1 + i from by omega],by simpa using g2⟩
  ·cases h
theorem qax (g : Value → ByteArray → Sem (ForInStep ByteArray)) (hg : ∀ n s,g (.int .u8 n) s = pure (.yield (s.push (UInt8.ofNat n.toNat)))) :
  ∀ (l : List Value) (acc : ByteArray) (out : List UInt8),l.length = out.length →
  (∀ (i : Nat) v b,l[i]? = some v → out[i]? = some b → ∃ n : Int,v = .int .u8 n ∧ b = UInt8.ofNat n.toNat) →
  (forIn l acc g).run P w = .ok ⟨⟨acc.data.toList ++ out⟩⟩ w
 | [],acc,out,hl,_ => by
  have : out = [] := by simpa using hl.symm
  subst this
  simp
 | v :: r,acc,out,hl,h => by
  cases out with
  | nil => simp at hl
  | cons b out =>
   obtain ⟨n,rfl,rfl⟩ := h 0 v b (by simp) (by simp)
   have ih := qax g hg r (acc.push (UInt8.ofNat n.toNat)) out (by simpa using hl) (fun i v b h1 h2 => h (i + 1) v b (by simpa using h1) (by simpa using h2))
   simp only [List.forIn_cons,hg,Sem.run_bind,Sem.run_pure,Result.andThen_ok,ih]
   simp
theorem zjr {src dst : TypeId} {d1 : TypeDesc} {k : IntKind} (h1 : P.underlying src = some d1) (h2 : P.underlying dst = some (.int k)) (kd : IntKind) (n : Int) :
  (convert src dst (.int kd n)).run P w = .ok (.int k (k.wrap n)) w := by
 unfold convert
 simp only [Sem.run_bind,qi h1,qi h2,Result.andThen_ok]
 rfl
theorem z16 {src dst : TypeId} {d1 : TypeDesc} (h1 : P.underlying src = some d1) (h2 : P.underlying dst = some .string) (s : ByteArray) :
  (convert src dst (.string s)).run P w = .ok (.string s) w := by
 unfold convert
 simp only [Sem.run_bind,qi h1,qi h2,Result.andThen_ok]
 rfl
theorem qtr {src dst e : TypeId} (h1 : P.underlying src = some (.slice e)) (h2 : P.underlying dst = some .string) (h3 : P.underlying e = some (.int .u8)) (a : Option Addr) (n c : Nat) :
  (convert src dst (.slice a n c)).run P w = (Conv.bytesToString (.slice a n c)).run P w := by
 unfold convert
 simp only [Sem.run_bind,qi h1,qi h2,Result.andThen_ok,qi h3]
theorem z6c {src dst e : TypeId} {d1 : TypeDesc} (h1 : P.underlying src = some d1) (h2 : P.underlying dst = some (.slice e)) (h3 : P.underlying e = some (.int .u8)) (s : ByteArray) :
  (convert src dst (.string s)).run P w = (Conv.stringToBytes e s).run P w := by
 unfold convert
 simp only [Sem.run_bind,qi h1,qi h2,Result.andThen_ok,qi h3]
theorem qb.q18 {t : TypeId} {ti : TI} (ht : qb P t ti) : ∃ d,P.underlying t = some d := by
 obtain ⟨d,h,_⟩ := ht.und
 exact ⟨d,h⟩
theorem ztj {G : TypeId → Option TI} (hG : ∀ t ti,G t = some ti → qb P t ti) {src dst : TypeId} {ts td : TI} (hs : qb P src ts) (hd : qb P dst td)
  (hi : qa w H ι Im) {nx : Nat} {X : Nat → Prop} (hnx : Bd X H nx) {x : AV} {v : Value} (hx : RA w H ι Im x v) {r : Eff} (hr : q0e ts.td td.td G x H nx = some r) (hX : ∀ γ,X γ → r.2.2 ≤ γ) :
  ∃ u w',(convert src dst v).run P w = .ok u w' ∧ Did X w H ι Im nx r u w' := by
 obtain ⟨d1,hu1⟩ := hs.q18
 unfold q0e at hr
 split at hr
 ·rename_i k kd n htd
  cases hr
  have h := hx.zo
  cases h
  exact ⟨.int k (k.wrap n),w,zjr hu1 (hd.int htd) _ _,Did.pure hi hnx (.pv _ _ (.int _ _))⟩
 ·rename_i s htd
  cases hr
  have h := hx.zo
  cases h
  exact ⟨_,w,z16 hu1 (hd.string htd) _,Did.pure hi hnx (.pv _ _ (.str _))⟩
 ·rename_i e hns htd1 htd2
  split at hr
  rotate_left
  ·cases hr
  rename_i te hte
  have hte' := hG _ _ hte
  split at hr
  rotate_left
  ·cases hr
  rename_i htde
  split at hr
  rotate_left
  ·cases hr
  rename_i xsz es hsrc
  split at hr
  rotate_left
  ·cases hr
  rename_i hx1
  split at hr <;> cases hr
  rename_i l hl
  have hsl : ∃ a n c,v = .slice a n c := by
   unfold j3 at hsrc
   split at hsrc
   ·have h := hx.zo
    cases h <;> exact ⟨_,_,_,rfl⟩
   ·cases hx; exact ⟨_,_,_,rfl⟩
   ·rename_i β ver off n
    split at hsrc
    rotate_left
    ·cases hsrc
    rename_i isnil sz es' hb
    split at hsrc
    rotate_left
    ·cases hsrc
    rename_i hv
    obtain ⟨a,c,h,_⟩ := hx.q7n hi hb hv
    exact ⟨_,_,_,h⟩
   ·rename_i s
    exact absurd rfl (by first | exact hns _ | exact htd1 _ | exact htd2 _ | skip)
   ·cases hsrc
  obtain ⟨a,n,c,rfl⟩ := hsl
  obtain ⟨l1,l2⟩ := q05 (P := P) hi hx hsrc
  obtain ⟨cs,f1,f2,f3⟩ := l2 1 hx1
  have hn : n = es.length := by
   simp [Builtin.lenOf] at l1
   exact l1
  subst hn
  obtain ⟨k1,k2⟩ := q9v (w := w) (Im := Im) es l hl (fun i => cs[i]?) 0 (fun i e j p q1 q2 => by
   obtain ⟨v0,g1,g2⟩ := f3.2.2 i e j p q1 q2
   have h1 := f3.1 e (List.mem_of_getElem? q1)
   have h2 := (List.getElem?_eq_some_iff.1 q2).1
   have : j = 0 := by omega
   subst this
   exact ⟨v0,by simpa using g1,g2,rfl⟩)
  refine ⟨.string ⟨⟨l⟩⟩,w, ?_,Did.pure hi hnx (.pv _ _ (.str _))⟩
  rw [qtr (hs.slice ‹_›) (hd.string ‹_›) (hte'.int htde)]
  unfold Conv.bytesToString
  cases a with
  | none =>
   have hcs : cs = #[] := by
    simp [Builtin.firstCells] at f1
    first | exact f1.symm | exact f1
   subst hcs
   have : es = [] := by
    have : es.length = 0 := by simpa using f2.symm
    simpa using this
   subst this
   have : l = [] := by simpa using k1.symm
   subst this
   rfl
  | some a =>
   have hld : (loadCells a es.length).run P w = .ok cs w := by simpa [Builtin.firstCells] using f1
   have hcs : cs.toList.length = l.length := by simp; omega
   have := fun g hg => qax (P := P) (w := w) g hg cs.toList ByteArray.empty l hcs (fun i v b q1 q2 => by
    have hil : i < es.length := by
     have := (List.getElem?_eq_some_iff.1 q1).1
     omega
    obtain ⟨m,g1,g2⟩ := k2 i hil
    have q1' : cs[i]? = some v := by simpa using q1
    simp only [Nat.zero_add,q1'] at g1
    rw [q2] at g2
    exact ⟨m,Option.some.inj g1,Option.some.inj g2⟩)
   simp only [Sem.run_bind,hld,Result.andThen_ok]
   rw [← Array.forIn_toList,this _ (fun n s => rfl)]
   rfl
 ·rename_i e s htd
  split at hr
  rotate_left
  ·cases hr
  rename_i te hte
  have hte' := hG _ _ hte
  split at hr <;> cases hr
  rename_i htde
  have h := hx.zo
  cases h
  let cap : Nat := Question.cut (.appendCap s.length 0 e) (w.tape w.drawn (.appendCap s.length 0 e))
  have hcap : s.length ≤ cap := by simp [cap,Question.cut]
  let cs : Array Value := (⟨s⟩ : Array UInt8).map (fun b => Value.int .u8 b.toNat) ++ Array.replicate (cap - s.length) (.int .u8 0)
  have hsz : cs.size = cap := by simp [cs]; omega
  refine ⟨.slice (some ⟨w.heap.size,0,none⟩) s.length cap, { qz w with heap := w.heap.push (.cells cs e (cs.size,cs.size + 1)) }, ?_, ?_⟩
  ·rw [z6c hu1 (hd.slice htd) (hte'.int htde)]
   unfold Conv.stringToBytes
   have hch : (choose (Question.appendCap (ByteArray.mk ⟨s⟩).size 0 e)).run P w = .ok cap (qz w) := by
    have : (ByteArray.mk ⟨s⟩).size = s.length := rfl
    rw [this]
    simp [choose,Sem.run,Question.forced,cap,qz]
   have hmark : (markStringish ⟨w.heap.size,0,none⟩).run P { qz w with heap := w.heap.push (.cells cs e) } = .ok () { qz w with heap := w.heap.push (.cells cs e (cs.size,cs.size + 1)) } := by
    unfold markStringish
    have h1 : (World.shape? { qz w with heap := w.heap.push (.cells cs e) } w.heap.size) = some (e,cs.size) := by simp [World.shape?]
    simp only [Sem.run_bind,run_shape,Result.andThen_ok,h1,run_freeze]
    simp [World.freeze,qz]
    apply Array.ext
    ·simp
    ·intro i h1 h2
     simp at h1
     simp only [Array.getElem_modify,Array.getElem_push]
     split
     ·rename_i h; subst h; simp
     ·rename_i h; simp [show i < w.heap.size from by omega]
   have e1 : (ByteArray.mk ⟨s⟩).size = s.length := rfl
   simp only [Sem.run_bind,hch,Result.andThen_ok,newRow,run_newObj,Sem.run_pure]
   have e2 : (qz w).heap = w.heap := rfl
   simp only [e2,e1]
   have := hmark
   simp only [cs,e1] at this ⊢
   rw [this]
   rfl
  ·have := q5q hi hnx (bf hX) 1 (s.map fun b => [PV.int .u8 b.toNat]) cs e (cs.size,cs.size + 1) cap { qz w with heap := w.heap.push (.cells cs e (cs.size,cs.size + 1)) } rfl ⟨rfl,rfl⟩
    ⟨by simp,fun i hi' h => by simp at h; omega⟩ (by omega) (by simp [hsz]) (by simpa using hcap) (by
     refine ⟨fun e0 he0 => ?_,fun i e0 j p q1 q2 => ?_,fun i e0 j p q1 q2 => ?_⟩
     ·simp only [List.mem_map] at he0
      obtain ⟨b,_,rfl⟩ := he0
      rfl
     ·simp only [List.getElem?_map,Option.map_eq_some_iff] at q1
      obtain ⟨b,_,rfl⟩ := q1
      cases j with
      | zero => simp at q2; subst q2; rfl
      | succ j => simp at q2
     ·simp only [List.getElem?_map,Option.map_eq_some_iff] at q1
      obtain ⟨b,hb,rfl⟩ := q1
      cases j with
      | zero =>
       simp at q2
       subst q2
       refine ⟨.int .u8 b.toNat, ?_,.int _ _⟩
       have hil := (List.getElem?_eq_some_iff.1 hb).1
       simp only [cs]
       rw [Array.getElem?_append_left (by simp; omega)]
       simp [hb]
      | succ j => simp at q2)
   simpa using this
 ·cases hr
theorem Heap.q4h : ∀ {H : Heap} {β : Nat} {b : Blk},H.get β = some b → H.put β b = H
 | [],_,_,h => by cases h
 | (i,v) :: r,β,b,h => by
  simp only [Heap.get] at h
  simp only [Heap.put]
  split
  ·rename_i hi
   rw [if_pos hi] at h
   cases h
   rw [hi]
  ·rename_i hi
   rw [if_neg hi] at h
   rw [Heap.q4h h]
theorem z9l {G : GP} (hG : ∀ t ti,G.ti t = some ti → qb P t ti) {t : TypeId}
  (hi : qa w H ι Im) {nx : Nat} {X : Nat → Prop} (hnx : Bd X H nx) {x : AV} {v : Value} (hx : RA w H ι Im x v) {r : Eff} (hr : q03 G t x H nx = some r) :
  ∃ u w',(convert t t v).run P w = .ok u w' ∧ Did X w H ι Im nx r u w' := by
 unfold q03 at hr
 split at hr
 rotate_left
 ·cases hr
 rename_i β ver off n
 split at hr
 rotate_left
 ·cases hr
 rename_i sz es hb
 split at hr <;> cases hr
 rename_i hc
 obtain ⟨hby,hver,hn⟩ := hc
 obtain ⟨e,ht,he⟩ : ∃ e,P.underlying t = some (.slice e) ∧ P.underlying e = some (.int .u8) := by
  unfold isBytes at hby
  split at hby
  rotate_left
  ·cases hby
  rename_i ti hti
  split at hby
  rotate_left
  ·cases hby
  rename_i e htd
  split at hby
  rotate_left
  ·cases hby
  rename_i te hte
  split at hby
  rotate_left
  ·cases hby
  rename_i htde
  exact ⟨e,(hG _ _ hti).slice htd,(hG _ _ hte).int htde⟩
 obtain ⟨vs,elem,fz,h1,h2,h3,h4,h5,h6,h7,h8⟩ := hi.row hb
 obtain ⟨o,hvv⟩ : ∃ o,v = .slice (some ⟨(ι β).b,o,none⟩) n ((ι β).cap - off) := by
  cases hx with
  | row _ _ _ _ _ b ho hb' hk hv h =>
   rw [hb] at hb'
   cases hb'
   obtain ⟨_,h⟩ := h _ _ _ rfl hver
   simp only [Bool.false_eq_true,if_false] at h
   obtain ⟨⟨b1,o1,s1⟩,rfl,rfl,hbk,_⟩ := h
   simp only at hbk
   subst hbk
   exact ⟨o1,rfl⟩
 subst hvv
 have hlt : (ι β).b < w.heap.size := (Array.getElem?_eq_some_iff.1 h1).1
 let fz' : Nat × Nat := if fz.1 == fz.2 then (vs.size,vs.size + 1) else (min fz.1 vs.size,max fz.2 (vs.size + 1))
 let w' : World := w.freeze ⟨(ι β).b,vs.size,none⟩ 1
 have hw1 : w'.heap[(ι β).b]? = some (.cells vs elem fz') := by
  obtain ⟨_,hv⟩ := Array.getElem?_eq_some_iff.1 h1
  simp [w',World.freeze,hlt,hv,Array.getElem_modify,fz']
 have hw2 : ∀ b,b ≠ (ι β).b → w'.heap[b]? = w.heap[b]? := fun b hb => by
  simp [w',World.freeze,Array.getElem?_modify,Ne.symm hb]
 have hfz : xw fz' vs.size := by
  obtain ⟨q1,q2⟩ := h2
  by_cases hq : fz.1 = fz.2
  ·have : fz' = (vs.size,vs.size + 1) := by simp [fz',hq]
   rw [this]
   exact ⟨by simp,fun i hi' h => by simp at h; omega⟩
  ·have : fz' = (min fz.1 vs.size,max fz.2 (vs.size + 1)) := by simp [fz',hq]
   rw [this]
   refine ⟨by simp only []; omega,fun i hi' h => ?_⟩
   simp only [] at h
   rcases Nat.lt_or_ge fz.1 vs.size with g | g
   ·exact q2 fz.1 g ⟨Nat.le_refl _,by omega⟩
   ·omega
 refine ⟨.slice (some ⟨(ι β).b,o,none⟩) n ((ι β).cap - off),w', ?_, ?_⟩
 ·unfold convert
  have hsh : w.shape? (ι β).b = some (elem,vs.size) := by simp [World.shape?,h1]
  simp [qi ht,qi he,markStringish,hsh,w']
 ·have key := qa.put (hno := noO hb rfl) hi (w' := w') β (.row false sz es) (ι β) (fun x hx => by rw [hb] at hx; cases hx; exact gz _ _)
   ⟨by simp [w',World.freeze],by simp [w',World.freeze]⟩ (fun b' _ hne => hw2 b' (fun e => hne _ hb rfl e.symm)) (fun _ => .inr ⟨_,hb,rfl,rfl⟩) (fun hev => by
    have hw : ∀ b,Im b → w'.heap[b]? = w.heap[b]? := fun b hb => hev.kept hi b hb
    refine ⟨vs,elem,fz',by simpa using hw1,hfz,by simpa using h3,h4,by simpa using h5,h6,h7,fun i e j p a b => ?_⟩
    obtain ⟨v,g1,g2⟩ := h8 i e j p a b
    exact ⟨v,g1,g2.mono hev.im hw⟩)
  have hput : qa w' H ι Im ∧ Evo w H ι Im w' H ι Im := by
   have e1 : qg ι β (ι β) = ι := by funext γ; by_cases h : γ = β <;> simp [qg,h]
   rw [e1,Heap.q4h hb] at key
   exact key
  exact ⟨ι,hput.1,hput.2,hx.mono hi hput.2,Nat.le_refl _,hnx⟩
end
end Go.Gm
set_option linter.unusedSectionVars false
namespace Go.Gm
open Go
section
variable [Globs] {P : Program} {w : World} {H : Heap} {ι : Plc} {Im : Nat → Prop}
theorem qa.za {β sz : Nat} {t : TypeId} {es : List (List PV)} (hi : qa w H ι Im) (hb : H.get β = some (.za t false sz es)) :
  ∃ vs fz,w.heap[(ι β).b]? = some (.cells vs t fz) ∧ xw fz vs.size ∧ vs.size = (ι β).cap * sz ∧ 0 < sz ∧
   es.length ≤ (ι β).cap ∧ (∀ e ∈ es,e.length = sz) ∧ (∀ (i : Nat) e (j : Nat) p,es[i]? = some e → e[j]? = some p → p.flat = true) ∧
   ∀ (i : Nat) e (j : Nat) p,es[i]? = some e → e[j]? = some p → ∃ v,vs[i * sz + j]? = some v ∧ RP w Im p v := hi.blk β _ hb
theorem zi2 (hi : qa w H ι Im) {β sz : Nat} {t : TypeId} {es : List (List PV)} (hb : H.get β = some (.za t false sz es)) {ao : Nat} (hao : 0 < (ι β).cap → ao = 0) {c : Nat} :
  ∃ cs,(Builtin.firstCells sz es.length (.slice (some ⟨(ι β).b,ao,none⟩) es.length c)).run P w = .ok cs w ∧ cs.size = es.length * sz ∧ zk w Im sz es (cs[·]?) := by
 by_cases hn0 : es = []
 ·subst hn0
  exact ⟨#[],by simp [Builtin.firstCells,loadCells,loadCellsFrom],by simp,by simp [zk]⟩
 obtain ⟨vs,fz,g1,g2,g3,g4,g5,g6,g7,g8⟩ := hi.za hb
 have hl : 0 < es.length := List.length_pos_iff.2 hn0
 have := hao (by omega)
 subst this
 have hmul2 : es.length * sz ≤ (ι β).cap * sz := Nat.mul_le_mul_right _ g5
 refine ⟨((List.range (es.length * sz)).map fun j => (vs[j]?).getD undef).toArray, ?_,by simp,g6,g7,fun i e j p hie hj => ?_⟩
 ·simp only [Builtin.firstCells]
  refine run_loadCells _ _ _ _ fun j hj => ?_
  rw [jw g1]
  have : j < vs.size := by omega
  simp [this]
 ·obtain ⟨v,k1,k2⟩ := g8 _ e j p hie hj
  have hj' := (List.getElem?_eq_some_iff.1 hj).1
  have he := g6 e (List.mem_of_getElem? hie)
  have hin := (List.getElem?_eq_some_iff.1 hie).1
  have : (i + 1) * sz ≤ es.length * sz := Nat.mul_le_mul_right _ hin
  rw [Nat.succ_mul] at this
  refine ⟨v, ?_,k2⟩
  simp only [List.getElem?_toArray,List.getElem?_map]
  rw [List.getElem?_range (by omega)]
  simp only [Option.map_some,k1,Option.getD_some]
theorem qeo {ts tx e : TypeId} {ti te tix : TI} (hts : qb P ts ti) (htd : ti.td = .slice e) (hte : qb P e te) (htx : qb P tx tix)
  (hx' : (∃ e',tix.td = .slice e') ∨ tix.td = .string) (tt : TypeId) (hi : qa w H ι Im) {nx : Nat} {X : Nat → Prop} (hnx : Bd X H nx)
  {x y : AV} {vx vy : Value} (hx : RA w H ι Im x vx) (hy : RA w H ι Im y vy) {r : Eff} (hr : wu e te x y H nx = some r) :
  ∃ u w',(Builtin.append_ #[ts,tx] tt #[vx,vy]).run P w = .ok u w' ∧ Did X w H ι Im nx r u w' := by
 unfold wu at hr
 split at hr
 rotate_left
 ·cases hr
 rename_i β ver off n
 split at hr
 rotate_left
 ·cases hr
 rename_i e' isnil sz es hb
 split at hr
 rotate_left
 ·cases hr
 rename_i xsz src hsrc
 split at hr
 rotate_left
 ·cases hr
 rename_i hc
 obtain ⟨rfl,hver,rfl,rfl,hsz,hpos,hroom,hnilsz⟩ := hc
 obtain ⟨l1,l2⟩ := q05 (P := P) hi hy hsrc
 obtain ⟨cs,f1,f2,f3⟩ := l2 te.size hsz
 have hxx := hx
 cases hx with
 | row _ _ _ _ _ b ho hb' hk hv hh =>
 rw [hb] at hb'
 cases hb'
 obtain ⟨h1,h2⟩ := hh _ _ _ rfl hver
 split at hr
 ·
  cases hr
  have hcl : cs.toList = [] := by
   have : cs.size = 0 := by simpa using f2
   simpa using this
  cases isnil with
  | true =>
   simp only [if_true] at h2
   subst h2
   have hes : es = [] := hi.blk β _ hb
   subst hes
   exact ⟨_,w,run_append_fits hts htd hte htx hx' tt none 0 0 0 vy l1 (Nat.le_refl _) cs f1 w (fun a ha => by cases ha) (fun _ => rfl),Did.pure hi hnx hxx⟩
  | false =>
   simp only [Bool.false_eq_true,if_false] at h2
   obtain ⟨a,rfl,ha1,ha2,ha3⟩ := h2
   have hcap := (hi.za hb).choose_spec.choose_spec.2.2.2.2.1
   exact ⟨_,w,run_append_fits hts htd hte htx hx' tt (some a) es.length ((ι β).cap - 0) 0 vy l1 (by omega) cs f1 w (fun a ha => by rw [hcl]; rfl) (fun h => by cases h),Did.pure hi hnx hxx⟩
 rename_i a0 l0
 cases hr
 have hg : (qf [(β,Blk.za e' false te.size (es ++ a0 :: l0))] H).get β = some (.za e' false te.size (es ++ a0 :: l0)) := by simp [qf,Heap.get_put]
 cases isnil with
 | true =>
  simp only [if_true] at h2
  subst h2
  have hes : es = [] := hi.blk β _ hb
  subst hes
  obtain ⟨nc,w',cs',g1,g2,g3,g4,g5⟩ := q78 hts htd hte htx hx' tt hi hy hsrc hsz (by simp) (by simpa using hroom) none
  refine ⟨_,w',g5,qg ι β ⟨w.heap.size,nc,[]⟩, ?_⟩
  simp only [List.nil_append] at hg ⊢
  have key := qa.put (hno := noO hb rfl) hi (w' := w') β (.za e' false te.size (a0 :: l0)) ⟨w.heap.size,nc,[]⟩ (fun x hx => by rw [hb] at hx; cases hx; simp [qo,Blk.sh,Pl.same])
   ⟨by rw [g2.1]; simp,g2.2⟩ (fun b' hb' _ => by rw [g2.1]; simp [Array.getElem?_push,Nat.ne_of_lt hb']) (fun _ => .inl (Nat.le_refl _)) (fun he => by
    have hk : ∀ b,Im b → w'.heap[b]? = w.heap[b]? := fun b hb => he.kept hi b hb
    obtain ⟨k1,k2,k3⟩ := g4.mono he.im hk
    exact ⟨cs',(0,0),by simp [g2],jo _,by simp [g3],hpos,by simpa using g1,k1,k2,k3⟩)
  refine ⟨key.1,key.2, ?_,Nat.le_refl _,zu hnx (Nat.le_refl _) (hnx β _ hb)⟩
  refine .row β _ 0 _ _ _ rfl hg (fun _ => ⟨_,_,_,rfl⟩) (fun _ _ _ e => by cases e; exact Nat.le_refl _) fun _ _ _ e _ => ?_
  cases e
  refine ⟨by simp, ?_⟩
  simp only [Bool.false_eq_true,if_false]
  exact ⟨⟨w.heap.size,0,none⟩,by simp,rfl,by simp,fun _ => by simp⟩
 | false =>
  have hszz : sz = te.size := by simpa using hnilsz
  subst hszz
  simp only [Bool.false_eq_true,if_false] at h2
  obtain ⟨a,rfl,ha1,ha2,ha3⟩ := h2
  obtain ⟨ab,ao,asp⟩ := a
  simp only at ha1 ha2 ha3
  subst ha1 ha2
  obtain ⟨vs,fz,g1,g2,g3,g4,g5,g6,g7,g8⟩ := hi.za hb
  have hspl : ∀ (i : Nat) e0,(es ++ a0 :: l0)[i]? = some e0 → (i < es.length ∧ es[i]? = some e0) ∨ (es.length ≤ i ∧ (a0 :: l0)[i - es.length]? = some e0) := by
   intro i e0 h
   rw [List.getElem?_append] at h
   split at h
   ·exact .inl ⟨by assumption,h⟩
   ·exact .inr ⟨by omega,h⟩
  generalize hsrcd : a0 :: l0 = src at *
  have hs : src ≠ [] := by rw [← hsrcd]; simp
  by_cases hfit : es.length + src.length ≤ (ι β).cap
  ·
   have hao : ao = 0 := by
    have := List.length_pos_iff.2 hs
    have := ha3 (by omega)
    omega
   subst hao
   have hone : ∀ x ∈ cs.toList,zm x = true := by
    intro x hx
    obtain ⟨m,hm⟩ := List.getElem?_of_mem hx
    have hml : m < src.length * te.size := by
     have := (List.getElem?_eq_some_iff.1 hm).1
     simp at this
     omega
    have hdiv : m / te.size < src.length := Nat.div_lt_of_lt_mul (by rwa [Nat.mul_comm])
    have hmod : m % te.size < te.size := Nat.mod_lt _ hpos
    obtain ⟨e0,he0⟩ : ∃ e0,src[m / te.size]? = some e0 := ⟨src[m / te.size],by simp⟩
    have hel := f3.1 e0 (List.mem_of_getElem? he0)
    obtain ⟨p0,hp0⟩ : ∃ p0,e0[m % te.size]? = some p0 := ⟨e0[m % te.size]'(by omega),by simp⟩
    obtain ⟨v0,q1,q2⟩ := f3.2.2 _ e0 _ p0 he0 hp0
    have : m / te.size * te.size + m % te.size = m := by rw [Nat.mul_comm]; exact Nat.div_add_mod m te.size
    simp only [this] at q1
    have : x = v0 := by
     have h0 : cs[m]? = some x := by simpa using hm
     rw [h0] at q1
     exact Option.some.inj q1
    subst this
    exact q2.zm (f3.2.1 _ e0 _ p0 he0 hp0)
   have hmul : es.length * te.size + src.length * te.size ≤ vs.size := by
    rw [g3,← Nat.add_mul]
    exact Nat.mul_le_mul_right _ hfit
   obtain ⟨w',q1,q2,q3,vs',q4,q5,q6⟩ := uz (P := P) (ι β).b (es.length * te.size) e' fz cs.toList 0 w vs g1 g2 (by simp [f2]; omega) hone
   have hrun := run_append_fits (w' := w') hts htd hte htx hx' tt (some ⟨(ι β).b,0,none⟩) es.length ((ι β).cap - 0) src.length vy l1 (by omega) cs f1
    (fun a ha => by cases ha; rw [add_plain,Nat.zero_add]; exact q1) (fun h => by cases h)
   refine ⟨_,w',hrun,qg ι β (ι β), ?_⟩
   have key := qa.put (hno := noO hb rfl) hi (w' := w') β (.za e' false te.size (es ++ src)) (ι β)
    (fun x hx => by
     rw [hb] at hx
     cases hx
     simp only [qo,Blk.sh]
     exact ⟨by simp,fun _ => ⟨by simp,fun _ => ⟨by simp,Pl.q3r _⟩⟩⟩)
    ⟨by omega,q2.2⟩ (fun b' _ hne => q3 b' (fun e => hne _ hb rfl e.symm)) (fun _ => .inr ⟨_,hb,rfl,rfl⟩) (fun hev => by
     have hw : ∀ b,Im b → w'.heap[b]? = w.heap[b]? := fun b hb => hev.kept hi b hb
     refine ⟨vs',fz,by simpa using q4,by rw [q5]; exact g2,by simp [q5,g3],hpos,by simp only [updP_same,List.length_append]; omega, ?_, ?_, ?_⟩
     ·intro e0 he0
      rcases List.mem_append.1 he0 with h | h
      ·exact g6 e0 h
      ·exact f3.1 e0 h
     ·intro i e0 j p hi' hj
      rcases hspl i e0 hi' with ⟨_,h⟩ | ⟨_,h⟩
      ·exact g7 _ e0 j p h hj
      ·exact f3.2.1 _ e0 j p h hj
     ·intro i e0 j p hi' hj
      have hj' := (List.getElem?_eq_some_iff.1 hj).1
      rw [q6]
      simp only [Nat.add_zero,Array.length_toList,f2]
      rcases hspl i e0 hi' with ⟨hlt,h⟩ | ⟨hge,h⟩
      ·obtain ⟨v0,w1,w2⟩ := g8 _ e0 j p h hj
       have hel := g6 e0 (List.mem_of_getElem? h)
       have : (i + 1) * te.size ≤ es.length * te.size := Nat.mul_le_mul_right _ hlt
       rw [Nat.succ_mul] at this
       rw [if_neg (by omega)]
       exact ⟨v0,w1,w2.mono hev.im hw⟩
      ·obtain ⟨v0,w1,w2⟩ := f3.2.2 _ e0 j p h hj
       have hel := f3.1 e0 (List.mem_of_getElem? h)
       have hil := (List.getElem?_eq_some_iff.1 h).1
       have e1 : i * te.size + j - es.length * te.size = (i - es.length) * te.size + j := by
        have : i = es.length + (i - es.length) := by omega
        conv => lhs; rw [this,Nat.add_mul]
        omega
       have e2 : es.length * te.size ≤ i * te.size := Nat.mul_le_mul_right _ hge
       have e3 : (i + 1) * te.size ≤ (es.length + src.length) * te.size := Nat.mul_le_mul_right _ (by omega)
       rw [Nat.succ_mul,Nat.add_mul] at e3
       rw [if_pos ⟨by omega,by omega⟩,e1]
       exact ⟨v0,by simpa using w1,w2.mono hev.im hw⟩)
   refine ⟨key.1,key.2, ?_,Nat.le_refl _,zu hnx (Nat.le_refl _) (hnx β _ hb)⟩
   refine .row β _ 0 _ _ _ rfl hg (fun _ => ⟨_,_,_,rfl⟩) (fun _ _ _ e => by cases e; exact Nat.le_refl _) fun _ _ _ e _ => ?_
   cases e
   refine ⟨by simp, ?_⟩
   simp only [Bool.false_eq_true,if_false,List.length_append]
   exact ⟨⟨(ι β).b,0,none⟩,by simp,rfl,by simp,fun _ => by simp⟩
  ·
   have hw : (qz w).heap = w.heap := rfl
   have hi' := hi.zw hw ⟨rfl,rfl⟩
   obtain ⟨old,k1,k2,k3⟩ := zi2 (P := P) hi' hb (ao := ao) (c := (ι β).cap - 0) (fun h => by simpa using ha3 h)
   obtain ⟨new,m1,m2,m3⟩ := (q05 (P := P) hi' (hy.zw hw ⟨rfl,rfl⟩ hi) hsrc).2 te.size hsz
   obtain ⟨nc,rest,r1,r2,r3⟩ := q3b (w := w) hts htd hte htx hx' tt (some ⟨(ι β).b,ao,none⟩) es.length ((ι β).cap - 0) src.length vy l1 (by omega) hroom old new k1 m1
   have hrow := zk.append (rest := rest) k3 m3 (by rw [k2])
   have hrow' := hrow.mono (w' := w) (Im' := Im) (fun _ h => h) (fun b _ => by rw [hw])
   refine ⟨_,_,r3,qg ι β ⟨w.heap.size,nc,[]⟩, ?_⟩
   have key := qa.put (hno := noO hb rfl) hi (w' := { qz w with heap := w.heap.push (.cells (old ++ new ++ rest) e') }) β (.za e' false te.size (es ++ src)) ⟨w.heap.size,nc,[]⟩
    (fun x hx => by
     rw [hb] at hx
     cases hx
     simp only [qo,Blk.sh,List.length_append]
     refine ⟨by omega,fun h => ?_⟩
     have : (ι β).cap < es.length := by omega
     omega)
    ⟨by simp,rfl,rfl⟩ (fun b' hb' _ => by simp [Array.getElem?_push,Nat.ne_of_lt hb']) (fun _ => .inl (Nat.le_refl _)) (fun he => by
     have hk : ∀ b,Im b → _ := fun b hb => he.kept hi b hb
     obtain ⟨p1,p2,p3⟩ := hrow'.mono he.im hk
     refine ⟨old ++ new ++ rest,(0,0),by simp,jo _, ?_,hpos,by simp only [updP_same,List.length_append]; omega,p1,p2,p3⟩
     simp only [updP_same,Array.size_append,k2,m2,r2,← Nat.add_mul]
     congr 1
     omega)
   refine ⟨key.1,key.2, ?_,Nat.le_refl _,zu hnx (Nat.le_refl _) (hnx β _ hb)⟩
   refine .row β _ 0 _ _ _ rfl hg (fun _ => ⟨_,_,_,rfl⟩) (fun _ _ _ e => by cases e; exact Nat.le_refl _) fun _ _ _ e _ => ?_
   cases e
   refine ⟨by simp, ?_⟩
   simp only [Bool.false_eq_true,if_false,List.length_append]
   exact ⟨⟨w.heap.size,0,none⟩,by simp,rfl,by simp,fun _ => by simp⟩
theorem q8m {motive : Array Value → Type} (p : Option Addr) (l : Value) (f : (p : Option Addr) → (l : Value) → motive #[Value.pointer p,l]) (g : (x : Array Value) → motive x) :
  Builtin.unsafeString_.match_3 motive #[.pointer p,l] f g = f p l := rfl
theorem qq2 {motive : Array Value → Type} (a : Addr) (l c : Nat) (e : (l c : Nat) → motive #[Value.slice none l c]) (f : (a : Addr) → (l c : Nat) → motive #[Value.slice (some a) l c]) (g : (x : Array Value) → motive x) :
  Builtin.unsafeSliceData_.match_1 motive #[.slice (some a) l c] e f g = f a l c := rfl
theorem zkl {x : AV} {v : Value} (hx : RA w H ι Im x v) (hi : qa w H ι Im) {nx : Nat} {X : Nat → Prop} (hnx : Bd X H nx) {r : Eff} (hr : q1b x H nx = some r) (tys : Array TypeId) (tt : TypeId) :
  ∃ u w',(Builtin.unsafeSliceData_ tys tt #[v]).run P w = .ok u w' ∧ Did X w H ι Im nx r u w' := by
 unfold q1b at hr
 split at hr
 rotate_left
 ·cases hr
 rename_i β ver off n
 split at hr
 rotate_left
 ·cases hr
 rename_i t isnil sz es hb
 split at hr
 rotate_left
 ·cases hr
 rename_i hc
 obtain ⟨hver,rfl,rfl⟩ := hc
 cases hx with
 | row _ _ _ _ _ b ho hb' hk hv hh =>
 rw [hb] at hb'
 cases hb'
 obtain ⟨h1,h2⟩ := hh _ _ _ rfl hver
 cases isnil with
 | true =>
  simp only [if_true] at hr h2
  cases hr
  subst h2
  exact ⟨.pointer none,w,rfl,Did.pure hi hnx (.pv _ _ .nilptr)⟩
 | false =>
  simp only [Bool.false_eq_true,if_false] at hr h2
  split at hr <;> cases hr
  rename_i hn
  obtain ⟨a,rfl,ha1,ha2,ha3⟩ := h2
  obtain ⟨ab,ao,asp⟩ := a
  simp only at ha1 ha2 ha3
  subst ha1 ha2
  obtain ⟨vs,fz,g1,g2,g3,g4,g5,g6,g7,g8⟩ := hi.za hb
  have hcap : (ι β).cap - 0 ≠ 0 := by omega
  have hao := ha3 (by omega)
  have hrun : (Builtin.unsafeSliceData_ tys tt #[.slice (some ⟨(ι β).b,ao,none⟩) es.length ((ι β).cap - 0)]).run P w = .ok (.pointer (some ⟨(ι β).b,ao,none⟩)) w := by
   unfold Builtin.unsafeSliceData_
   rw [qq2,if_pos hcap]
   rfl
  refine ⟨.pointer (some ⟨(ι β).b,ao,none⟩),w,hrun,Did.pure hi hnx ?_⟩
  refine .eptr β ver 0 0 _ _ _ hb (fun _ _ _ e => by cases e; exact hv _ _ _ rfl) (fun _ _ _ e _ _ => by cases e; exact ⟨rfl,by simpa using hao⟩)
theorem q98 : ∀ {es : List (List PV)} {l : List UInt8},bytesOf es = some l → es.length = l.length ∧ ∀ (i : Nat) (b : UInt8),l[i]? = some b → ∃ n : Int,es[i]? = some [.int .u8 n] ∧ b = UInt8.ofNat n.toNat
 | [],l,h => by cases h; exact ⟨rfl,by simp⟩
 | e :: r,l,h => by
  unfold bytesOf at h
  split at h
  ·rename_i h0; cases h0
  ·rename_i n r' h0
   cases h0
   split at h <;> cases h
   rename_i l' hl'
   obtain ⟨h1,h2⟩ := q98 hl'
   refine ⟨by simp [h1],fun i b hi => ?_⟩
   cases i with
   | zero => simp at hi; subst hi; exact ⟨n,rfl,rfl⟩
   | succ i => simpa using h2 i b (by simpa using hi)
  ·cases h
theorem run_loadBytes' (b0 : Nat) : ∀ (l : List UInt8) (o : Nat) (acc : ByteArray),(∀ (j : Nat) (x : UInt8),l[j]? = some x → ∃ n : Int,w.cell? ⟨b0,o + j,none⟩ = some (.int .u8 n) ∧ x = n.toNat.toUInt8) →
  (loadBytes ⟨b0,o,none⟩ acc l.length).run P w = .ok ⟨acc.data ++ l.toArray⟩ w
 | [],o,acc,_ => by simp [loadBytes]
 | x :: r,o,acc,h => by
  obtain ⟨n,h1,h2⟩ := h 0 x rfl
  have hl : (load ⟨b0,o,none⟩).run P w = .ok (.int .u8 n) w := by
   simp only [Nat.add_zero] at h1
   simp [load,Sem.run,h1]
  have ih := run_loadBytes' b0 r (o + 1) (acc.push x) (fun j y hy => by
   obtain ⟨n,a,b⟩ := h (j + 1) y (by simpa using hy)
   exact ⟨n,by rw [Nat.add_assoc,Nat.add_comm 1 j]; exact a,b⟩)
  simp only [List.length_cons,loadBytes,Sem.run_bind,hl,Result.andThen_ok,add_plain]
  rw [← h2,ih]
  simp [ByteArray.push]
theorem zc1 {tp el : TypeId} {tys : Array TypeId} (h0 : tys[0]? = some tp) {ti : TI} (ht : qb P tp ti) (hel : ti.pe = some el) (hc1 : P.cellsOf el = 1) {p x : AV} {vp vx : Value} (hp : RA w H ι Im p vp) (hx : RA w H ι Im x vx) (hi : qa w H ι Im)
  {nx : Nat} {X : Nat → Prop} (hnx : Bd X H nx) {r : Eff} (hr : q0n el p x H nx = some r) (tt : TypeId) :
  ∃ u w',(Builtin.unsafeString_ tys tt #[vp,vx]).run P w = .ok u w' ∧ Did X w H ι Im nx r u w' := by
 have hpe : P.underlying tp = some (.pointer el) := by
  have := ht.pek
  rw [hel] at this
  unfold q79 at this
  split at this <;> cases this
  assumption
 unfold q0n at hr
 split at hr
 ·rename_i hn
  cases hr
  obtain ⟨kd,rfl⟩ := q2s hx hn
  have h := hp.zo
  cases h
  refine ⟨.string ⟨#[]⟩,w, ?_,Did.pure hi hnx (.pv _ _ (.str []))⟩
  have hmax : IntKind.i64.max = 9223372036854775807 := rfl
  unfold Builtin.unsafeString_
  rw [q8m]
  simp [asInt,asIntOf,hmax,h0]
  rfl
 ·rename_i β ver n hn
  obtain ⟨kd,rfl⟩ := q2s hx hn
  split at hr
  rotate_left
  ·cases hr
  rename_i t es hb
  split at hr
  rotate_left
  ·cases hr
  rename_i hc
  obtain ⟨rfl,hver,hnl,hn0,hn62⟩ := hc
  split at hr <;> cases hr
  rename_i l hl
  obtain ⟨b1,b2⟩ := q98 hl
  have hpv : vp = .pointer (some ⟨(ι β).b,0,none⟩) := by
   cases hp with
   | eptr _ _ _ _ b' o' b hb' hv h =>
    rw [hb] at hb'
    cases hb'
    obtain ⟨rfl,rfl⟩ := h _ _ _ rfl hver rfl
    rfl
  subst hpv
  obtain ⟨vs,fz,g1,g2,g3,g4,g5,g6,g7,g8⟩ := hi.za hb
  let w' : World := w.freeze ⟨(ι β).b,0,none⟩ n
  have hlen : l.length = n := by omega
  have hcell : ∀ (j : Nat) (y : UInt8),l[j]? = some y → ∃ n : Int,w.cell? ⟨(ι β).b,0 + j,none⟩ = some (.int .u8 n) ∧ y = n.toNat.toUInt8 := by
   intro j y hy
   obtain ⟨m,q1,q2⟩ := b2 j y hy
   obtain ⟨v0,k1,k2⟩ := g8 j _ 0 _ q1 rfl
   cases k2
   exact ⟨m,by rw [jw g1,Nat.zero_add]; simpa using k1,q2⟩
  have hlb := run_loadBytes' (P := P) (w := w) (ι β).b l 0 .empty hcell
  have hsh : w.shape? (ι β).b = some (t,vs.size) := by simp [World.shape?,g1]
  have hcells : n ≤ vs.size := by rw [g3]; omega
  have hlies := Lib.liesAt_bytes (P := P) hc1 (vs.size / P.cellsOf t) n (by rw [hc1]; simpa using hcells)
  refine ⟨.string ⟨⟨l⟩⟩,w', ?_, ?_⟩
  ·have hmax : IntKind.i64.max = 9223372036854775807 := rfl
   have h63' : ¬ (9223372036854775807 : Int) < (n : Int) := by omega
   have hneg : ¬ (n : Int) < 0 := by omega
   have hne : n ≠ 0 := by omega
   rw [hlen] at hlb
   have hea : (ByteArray.mk (ByteArray.empty.data ++ l.toArray)) = ⟨⟨l⟩⟩ := by
    have : ByteArray.empty.data = #[] := rfl
    rw [this]
    simp
   rw [hea] at hlb
   unfold Builtin.unsafeString_
   rw [q8m]
   simp [asInt,asIntOf,hmax,h63',hneg,hne,h0,variablesAt,hsh,elemOf,qi hpe,hlies,hlb,w']
  ·have hw2 : ∀ b,b ≠ (ι β).b → w'.heap[b]? = w.heap[b]? := fun b hb => by
    simp only [w',World.freeze]
    split
    ·rfl
    ·simp [Array.getElem?_modify,Ne.symm hb]
   have hws : w'.heap.size = w.heap.size ∧ w'.os = w.os ∧ w'.output = w.output := by
    simp only [w',World.freeze]
    split
    ·exact ⟨rfl,rfl,rfl⟩
    ·exact ⟨by simp,rfl,rfl⟩
   have key := qa.put (hno := noO hb rfl) hi (w' := w') β .dead (ι β) (fun x hx => by rw [hb] at hx; cases hx; simp [qo,Blk.sh,Pl.same])
    ⟨by omega,hws.2⟩ (fun b' _ hne => hw2 b' (fun e => hne _ hb rfl e.symm)) (fun h => by cases h) (fun _ => trivial)
   exact ⟨_,key.1,key.2,.pv _ _ (.str l),Nat.le_refl _,zu hnx (Nat.le_refl _) (hnx β _ hb)⟩
 ·cases hr
end
end Go.Gm
set_option linter.unusedSectionVars false
namespace Go.Gm
open Go
section
variable [Globs] {P : Program} {w : World} {H : Heap} {ι : Plc} {Im : Nat → Prop}
theorem q7f {w' : World} {H' : Heap} {ι' : Plc} {β γ fv : Nat} {ds : List Nat} {es : List PV} {ks : List Sk} (hpl : (ι' β).ks = ks ++ [.leaf]) {vs' : Array Value} {elem : TypeId} {fz : Nat × Nat}
  (h1 : w'.heap[(ι' β).b]? = some (.cells vs' elem fz)) (h2 : xw fz vs'.size) (h3 : vs'.size = (ι' β).cap) (h4 : es.length + 1 ≤ (ι' β).cap) (h5 : ks.length = es.length)
  (h6 : ((ι' β).b :: ks.flatMap Sk.blocks).Nodup) (h7 : ∀ x ∈ ks.flatMap Sk.blocks,x < w'.heap.size)
  (h8 : ∀ (i : Nat) p k,es[i]? = some p → ks[i]? = some k → ∃ v,vs'[i]? = some v ∧ jg w' Im ds p v k) {v0 : Value} (h9 : vs'[es.length]? = some v0) (h10 : RA w' H' ι' Im (.row γ fv 0 fv) v0) :
  j6 w' H' ι' Im β (.qh false ds (es ++ [.sl true 0 []]) (some (es.length,γ,fv))) := by
 have hfl : (ks ++ [Sk.leaf]).flatMap Sk.blocks = ks.flatMap Sk.blocks := by simp [Sk.blocks]
 refine ⟨vs',elem,fz,h1,h2,h3,by simpa using h4,by rw [hpl]; simp [h5],by rw [hpl,hfl]; exact h6,by rw [hpl,hfl]; exact h7,fun j γ' ver hf => by cases hf; simp,fun i p k hp hk => ?_⟩
 rw [hpl] at hk
 by_cases hi : i < es.length
 ·rw [List.getElem?_append_left hi] at hp
  rw [List.getElem?_append_left (by omega)] at hk
  obtain ⟨v,k1,k2⟩ := h8 i p k hp hk
  exact ⟨v,k1,fun _ => k2,fun γ' ver hf => by cases hf; omega⟩
 ·have hi2 : i = es.length := by
   have := (List.getElem?_eq_some_iff.1 hp).1
   simp at this
   omega
  subst hi2
  refine ⟨v0,h9,fun h => absurd rfl (h _ _ _ rfl),fun γ' ver hf => ?_⟩
  cases hf
  rw [List.getElem?_append_right (by omega),h5] at hk
  simp at hk
  exact ⟨hk.symm,h10⟩
theorem zpn {ts tx e : TypeId} {ti te tix : TI} (hts : qb P ts ti) (htd : ti.td = .slice e) (hte : qb P e te) (htx : qb P tx tix)
  (hx' : (∃ e',tix.td = .slice e') ∨ tix.td = .string) (tt : TypeId) (hi : qa w H ι Im) {nx : Nat} {X : Nat → Prop} (hnx : Bd X H nx)
  {x y : AV} {vx vy : Value} (hx : RA w H ι Im x vx) (hy : RA w H ι Im y vy) {r : Eff} (hr : u7 te x y H nx = some r) :
  ∃ u w',(Builtin.append_ #[ts,tx] tt #[vx,vy]).run P w = .ok u w' ∧ Did X w H ι Im nx r u w' := by
 unfold u7 at hr
 split at hr
 rotate_left
 ·cases hr
 rename_i xsz γ fv fn hsrc
 split at hr
 rotate_left
 ·cases hr
 rename_i β ver off n
 split at hr
 rotate_left
 ·cases hr
 rename_i isnil ds es hb
 split at hr <;> cases hr
 rename_i hc
 obtain ⟨hver,rfl,rfl,rfl,hsz1,rfl,hroom⟩ := hc
 obtain ⟨l1,cs,f1,f2,f3⟩ := q21 (P := P) hi hy hsrc
 have hxx := hx
 cases hx with
 | row _ _ _ _ _ b ho hb' hk hv hh =>
 rw [hb] at hb'
 cases hb'
 obtain ⟨h1,h2⟩ := hh _ _ _ rfl hver
 have hg : ∀ y,(qf [(β,y)] H).get β = some y := fun y => by simp [qf,Heap.get_put]
 have cell0 : ∀ {w0 : World} {H0 : Heap} {ι0 : Plc} {get : Nat → Option Value},ja w0 H0 ι0 Im te.size [[AV.row γ fn 0 fn]] get → ∃ v0,get 0 = some v0 ∧ RA w0 H0 ι0 Im (.row γ fn 0 fn) v0 := by
  intro w0 H0 ι0 get hA
  have := hA.2.2 0 _ 0 _ rfl rfl
  rw [hsz1] at this
  exact this
 cases isnil with
 | true =>
  simp only [if_true] at h2
  subst h2
  have hes : es = [] := (hi.blk β _ hb).1
  subst hes
  obtain ⟨nc,w',cs',g1,g2,g3,g4,g5⟩ := q73 hts htd hte htx hx' tt hi hy hsrc (by simp) (by simpa using hroom)
  refine ⟨_,w',g5,qg ι β ⟨w.heap.size,nc,[.leaf]⟩, ?_⟩
  have key := qa.q1q hi (w' := w') β (.qh false ds ([] ++ [.sl true 0 []]) (some (0,γ,fn))) ⟨w.heap.size,nc,[.leaf]⟩ (fun x hx => by rw [hb] at hx; cases hx; simp [qo,Blk.sh])
   ⟨by rw [g2.1]; simp,g2.2⟩ (fun b' hb' _ => by rw [g2.1]; simp [Array.getElem?_push,Nat.ne_of_lt hb']) (fun z hz => by
    rcases hz.2 with h | ⟨_,h⟩
    ·exact .inl (by rw [h]; exact Nat.le_refl _)
    ·simp [Sk.blocks] at h) (fun he => by
    obtain ⟨v0,k1,k2⟩ := cell0 (g4.mono hi he)
    exact q7f (es := []) (ks := []) (vs' := cs') (elem := e) (fz := (0,0)) (by simp) (by simp [g2]) (jo _) (by simp [g3,hsz1]) (by simpa using g1) rfl (by simp) (by simp) (by simp) k1 k2)
  refine ⟨key.1,key.2, ?_,Nat.le_refl _,zu hnx (Nat.le_refl _) (hnx β _ hb)⟩
  refine .row β _ 0 _ _ _ rfl (hg _) (fun _ => ⟨_,_,_,rfl⟩) (fun _ _ _ e => by cases e; exact Nat.le_refl _) fun _ _ _ e _ => ?_
  cases e
  refine ⟨by simp, ?_⟩
  simp only [Bool.false_eq_true,if_false]
  exact ⟨⟨w.heap.size,0,none⟩,by simp,rfl,by simp,fun _ => by simp⟩
 | false =>
  simp only [Bool.false_eq_true,if_false] at h2
  obtain ⟨a,rfl,ha1,ha2,ha3⟩ := h2
  obtain ⟨ab,ao,asp⟩ := a
  simp only at ha1 ha2 ha3
  subst ha1 ha2
  obtain ⟨vs,elem,fz,g1,g2,g3,g4,g5,g6,g7,g8,g9⟩ := hi.qh hb
  obtain ⟨hn1,hn2⟩ := List.nodup_cons.1 g6
  have hown : ∀ (i : Nat) p k,es[i]? = some p → (ι β).ks[i]? = some k → ∃ v,vs[i]? = some v ∧ jg w Im ds p v k := fun i p k hp hk => by
   obtain ⟨v,k1,k2,_⟩ := g9 i p k hp hk
   exact ⟨v,k1,k2 fun _ _ _ h => by cases h⟩
  have hfoot : ∀ z,z ∈ ((ι β).ks ++ [Sk.leaf]).flatMap Sk.blocks → (Blk.qh false ds es none).foot (ι β) z := fun z hz => ⟨rfl,.inr ⟨rfl,by simpa [Sk.blocks] using hz⟩⟩
  by_cases hfit : es.length + 1 ≤ (ι β).cap
  ·have hao : ao = 0 := by
    have := ha3 (by omega)
    omega
   subst hao
   obtain ⟨v0,c1,c2⟩ := cell0 f3
   have hcs : cs.toList = [v0] := by
    have hs1 : cs.size = 1 := by rw [f2,hsz1]; rfl
    have : cs = #[v0] := by
     apply Array.ext
     ·simpa using hs1
     ·intro i h1 h2
      have : i = 0 := by omega
      subst this
      have := (Array.getElem?_eq_some_iff.1 c1).2
      simpa using this
    rw [this]
   have hone : ∀ x ∈ cs.toList,zm x = true := by
    intro x hx
    rw [hcs] at hx
    simp at hx
    subst hx
    exact c2.zm rfl
   obtain ⟨w',q1,q2,q3,vs',q4,q5,q6⟩ := uz (P := P) (ι β).b es.length elem fz cs.toList 0 w vs g1 g2 (by simp [hcs,g3]; omega) hone
   have hrun := run_append_fits (w' := w') hts htd hte htx hx' tt (some ⟨(ι β).b,0,none⟩) es.length ((ι β).cap - 0) 1 vy l1 (by omega) cs f1
    (fun a ha => by cases ha; rw [add_plain,Nat.zero_add,hsz1,Nat.mul_one]; exact q1) (fun h => by cases h)
   have hw : ∀ b,Im b → w'.heap[b]? = w.heap[b]? := fun b hb' => q3 b (fun e => hi.nim β _ b hb ⟨rfl,.inl e⟩ hb')
   refine ⟨_,w',hrun,qg ι β ⟨(ι β).b,(ι β).cap,(ι β).ks ++ [.leaf]⟩, ?_⟩
   have key := qa.q1q hi (w' := w') β (.qh false ds (es ++ [.sl true 0 []]) (some (es.length,γ,fn))) ⟨(ι β).b,(ι β).cap,(ι β).ks ++ [.leaf]⟩
    (fun x hx => by
     rw [hb] at hx
     cases hx
     simp [qo,Blk.sh])
    ⟨by omega,q2.2⟩ (fun b' _ hne => q3 b' (fun e => hne _ hb ⟨rfl,.inl e⟩)) (fun z hz => .inr ⟨_,hb,(by
     rcases hz.2 with h | ⟨_,h⟩
     ·exact ⟨rfl,.inl h⟩
     ·exact hfoot z h)⟩) (fun hev => by
     refine q7f (ks := (ι β).ks) (by simp) (by simpa using q4) (by rw [q5]; exact g2) (by simp [q5,g3]) (by simpa using hfit) g5 (by simpa using g6) (fun x hx => by rw [q2.1]; exact g7 x hx) (fun i p k hp hk => ?_) (v0 := v0) ?_ (c2.mono hi hev)
     ·obtain ⟨v,k1,k2⟩ := hown i p k hp hk
      have hil := (List.getElem?_eq_some_iff.1 hp).1
      refine ⟨v, ?_,k2.mono hev.im hw fun x hx => q3 x fun e => ?_⟩
      ·rw [q6,if_neg (by omega)]
       exact k1
      ·subst e
       exact hn1 (List.mem_flatMap.2 ⟨k,List.mem_of_getElem? hk,hx⟩)
     ·rw [q6,hcs]
      simp)
   refine ⟨key.1,key.2, ?_,Nat.le_refl _,zu hnx (Nat.le_refl _) (hnx β _ hb)⟩
   refine .row β _ 0 _ _ _ rfl (hg _) (fun _ => ⟨_,_,_,rfl⟩) (fun _ _ _ e => by cases e; simp) fun _ _ _ e _ => ?_
   cases e
   refine ⟨by simp, ?_⟩
   simp only [Bool.false_eq_true,if_false]
   exact ⟨⟨(ι β).b,0,none⟩,by simp,rfl,by simp,fun _ => by simp⟩
  ·
   have hw : (qz w).heap = w.heap := rfl
   have hi' := hi.zw hw ⟨rfl,rfl⟩
   obtain ⟨new,m1,m2,m3⟩ := (q21 (P := P) hi' (hy.zw hw ⟨rfl,rfl⟩ hi) hsrc).2
   have hold : (Builtin.firstCells te.size es.length (.slice (some ⟨(ι β).b,ao,none⟩) es.length ((ι β).cap - 0))).run P (qz w) = .ok ((List.range es.length).map fun j => (vs[j]?).getD undef).toArray (qz w) := by
    by_cases hn0 : es.length = 0
    ·rw [hn0]
     simp [Builtin.firstCells,loadCells,loadCellsFrom]
    ·have hao : ao = 0 := by
      have := ha3 (by omega)
      omega
     subst hao
     simp only [Builtin.firstCells]
     rw [hsz1,Nat.mul_one]
     refine (run_loadCells (P := P) (w := qz w) (ι β).b 0 es.length (fun j => (vs[j]?).getD undef) fun j hj => ?_)
     have : (qz w).cell? ⟨(ι β).b,0 + j,none⟩ = w.cell? ⟨(ι β).b,0 + j,none⟩ := rfl
     rw [this,jw g1]
     have : j < vs.size := by omega
     simp [this]
   obtain ⟨nc,rest,r1,r2,r3⟩ := q3b (w := w) hts htd hte htx hx' tt (some ⟨(ι β).b,ao,none⟩) es.length ((ι β).cap - 0) 1 vy l1 (by omega) (by simpa using hroom) _ new hold m1
   generalize hO : ((List.range es.length).map fun j => (vs[j]?).getD undef).toArray = old at r3
   have hos : old.size = es.length := by rw [← hO]; simp
   have hog : ∀ i,i < es.length → old[i]? = vs[i]? := fun i hlt => by
    rw [← hO]
    have : i < vs.size := by omega
    simp [List.getElem?_range hlt,this]
   obtain ⟨v0,c1,c2⟩ := cell0 (m3.mono (w' := w) (H' := H) (ι' := ι) (Im' := Im) hi' (Evo.zw (w := qz w) (w' := w) rfl ⟨rfl,rfl⟩))
   have hns : new.size = 1 := by rw [m2,hsz1]; rfl
   refine ⟨_,_,r3,qg ι β ⟨w.heap.size,nc,(ι β).ks ++ [.leaf]⟩, ?_⟩
   have hkeep : ∀ b',b' < w.heap.size → ({ qz w with heap := w.heap.push (.cells (old ++ new ++ rest) e) } : World).heap[b']? = w.heap[b']? := fun b' hb' => by simp [Array.getElem?_push,Nat.ne_of_lt hb']
   have key := qa.q1q hi (w' := { qz w with heap := w.heap.push (.cells (old ++ new ++ rest) e) }) β (.qh false ds (es ++ [.sl true 0 []]) (some (es.length,γ,fn))) ⟨w.heap.size,nc,(ι β).ks ++ [.leaf]⟩
    (fun x hx => by
     rw [hb] at hx
     cases hx
     simp [qo,Blk.sh])
    ⟨by simp,rfl,rfl⟩ (fun b' hb' _ => hkeep b' hb') (fun z hz => by
     rcases hz.2 with h | ⟨_,h⟩
     ·exact .inl (by rw [h]; exact Nat.le_refl _)
     ·exact .inr ⟨_,hb,hfoot z h⟩) (fun he => by
     refine q7f (ks := (ι β).ks) (by simp) (vs' := old ++ new ++ rest) (elem := e) (fz := (0,0)) (by simp) (jo _) ?_ (by simp only [updP_same]; omega) g5 ?_ (fun x hx => ?_) (fun i p k hp hk => ?_) (v0 := v0) ?_ (c2.mono hi he)
     ·simp only [updP_same,Array.size_append,hos,hns,r2,hsz1,Nat.mul_one]
      omega
     ·simp only [updP_same]
      exact List.nodup_cons.2 ⟨fun h => absurd (g7 _ h) (Nat.lt_irrefl _),hn2⟩
     ·have := g7 x hx
      simp
      omega
     ·obtain ⟨v,k1,k2⟩ := hown i p k hp hk
      have hil := (List.getElem?_eq_some_iff.1 hp).1
      refine ⟨v, ?_,k2.mono he.im (fun b hb' => hkeep b (hi.im b hb')) fun x hx => hkeep x (g7 x (List.mem_flatMap.2 ⟨k,List.mem_of_getElem? hk,hx⟩))⟩
      rw [Array.append_assoc,Array.getElem?_append_left (by omega),hog i hil]
      exact k1
     ·rw [Array.append_assoc,Array.getElem?_append_right (by omega),hos,Nat.sub_self,Array.getElem?_append_left (by omega)]
      exact c1)
   refine ⟨key.1,key.2, ?_,Nat.le_refl _,zu hnx (Nat.le_refl _) (hnx β _ hb)⟩
   refine .row β _ 0 _ _ _ rfl (hg _) (fun _ => ⟨_,_,_,rfl⟩) (fun _ _ _ e => by cases e; simp) fun _ _ _ e _ => ?_
   cases e
   refine ⟨by simp, ?_⟩
   simp only [Bool.false_eq_true,if_false]
   exact ⟨⟨w.heap.size,0,none⟩,by simp,rfl,by simp,fun _ => by simp⟩
end
end Go.Gm
set_option linter.unusedSectionVars false
namespace Go.Gm
open Go
section
variable [Globs] {P : Program} {w : World} {H : Heap} {ι : Plc} {Im : Nat → Prop}
def je (w : World) (Im : Nat → Prop) (es : List (PV × PV × Nat)) (ents : List MapEntry) : Prop :=
 es.length = ents.length ∧ ∀ (i : Nat) (k x : PV) (born : Nat) e,es[i]? = some (k,x,born) → ents[i]? = some e → RP w Im k e.key ∧ RP w Im x e.val ∧ e.born = born
theorem je.mono {w' : World} {Im' : Nat → Prop} (hi : ∀ b,Im b → Im' b) (hw : ∀ b,Im b → w'.heap[b]? = w.heap[b]?) {es : List (PV × PV × Nat)} {ents : List MapEntry}
  (h : je w Im es ents) : je w' Im' es ents :=
 ⟨h.1,fun i k x born e a b => let ⟨g1,g2,g3⟩ := h.2 i k x born e a b; ⟨g1.mono hi hw,g2.mono hi hw,g3⟩⟩
theorem je.tail {x : PV × PV × Nat} {es : List (PV × PV × Nat)} {e : MapEntry} {ents : List MapEntry} (h : je w Im (x :: es) (e :: ents)) : je w Im es ents :=
 ⟨by simpa using h.1,fun i k y born e' a b => h.2 (i + 1) k y born e' (by simpa using a) (by simpa using b)⟩
theorem q8h (a b : List UInt8) : ((⟨⟨a⟩⟩ : ByteArray) == ⟨⟨b⟩⟩) = (a == b) := by
 have := beq_toListBytes ⟨⟨a⟩⟩ ⟨⟨b⟩⟩
 simpa using this
theorem q9p {t : TypeId} {tk : TI} (ht : qb P t tk) {k : PV} (hk : zf tk.td k = true) {d : TypeDesc} (hd : P.underlying t = some d) {k' : PV} {vk vk' : Value}
  (h1 : RP w Im k vk) (h2 : RP w Im k' vk') {b : Bool} (hb : q33 k k' = some b) : Instr.sameNow d vk vk' = some b ∧ (b = true → vk = vk') := by
 have key : ∀ td,tk.td = td → zf td k = true → _ := fun td e h => (⟨e,h⟩ : tk.td = td ∧ zf td k = true)
 cases k <;> cases k' <;> simp only [q33,reduceCtorEq] at hb
 ·rename_i a b'
  cases hb
  cases h1; cases h2
  have htd : tk.td = .bool := by cases htd : tk.td <;> simp [zf,htd] at hk ⊢
  rw [ht.bool htd] at hd
  cases hd
  exact ⟨rfl,fun h => by simpa using h⟩
 ·rename_i kd a kd' b'
  split at hb <;> cases hb
  rename_i hkk
  subst hkk
  cases h1; cases h2
  obtain ⟨k0,htd⟩ : ∃ k0,tk.td = .int k0 := by cases htd : tk.td <;> simp [zf,htd] at hk ⊢
  rw [ht.int htd] at hd
  cases hd
  exact ⟨by simp [Instr.sameNow],fun h => by simpa using h⟩
 ·rename_i a b'
  cases hb
  cases h1; cases h2
  have htd : tk.td = .string := by cases htd : tk.td <;> simp [zf,htd] at hk ⊢
  rw [ht.string htd] at hd
  cases hd
  refine ⟨?_,fun h => ?_⟩
  ·simp only [Instr.sameNow,q8h]
  ·have : a = b' := by simpa using h
   rw [this]
theorem q11 {t : TypeId} {tk : TI} (ht : qb P t tk) {k : PV} (hk : zf tk.td k = true) {d : TypeDesc} (hd : P.underlying t = some d) {vk : Value} (h1 : RP w Im k vk) :
  ∀ (es : List (PV × PV × Nat)) (ents : List MapEntry) (i : Nat),je w Im es ents → ∀ {r : Option (Nat × PV × Nat)},findKey k es i = some r →
   (r = none ∧ Instr.findNow d vk ents i = some none) ∨
   ∃ j x born e,r = some (i + j,x,born) ∧ Instr.findNow d vk ents i = some (some (i + j,e.val)) ∧ ents[j]? = some e ∧ RP w Im x e.val ∧ e.born = born ∧ e.key = vk
 | [],ents,i,hE,r,h => by
  have : ents = [] := by simpa using hE.1.symm
  subst this
  cases h
  exact .inl ⟨rfl,rfl⟩
 | (k',x,born) :: es,[],i,hE,r,h => by
  have := hE.1
  simp at this
 | (k',x,born) :: es,e :: ents,i,hE,r,h => by
  obtain ⟨g1,g2,g3⟩ := hE.2 0 k' x born e (by simp) (by simp)
  unfold findKey at h
  cases hq : q33 k k' with
  | none => simp [hq] at h
  | some b =>
   obtain ⟨s1,s2⟩ := q9p ht hk hd h1 g1 hq
   cases b with
   | true =>
    simp only [hq,Option.some.injEq] at h
    subst h
    refine .inr ⟨0,x,born,e,rfl, ?_,rfl,g2,g3,(s2 rfl).symm⟩
    simp [Instr.findNow,s1]
   | false =>
    simp only [hq] at h
    rcases q11 ht hk hd h1 es ents (i + 1) hE.tail h with ⟨rfl,q⟩ | ⟨j,x',born',e',rfl,q1,q2,q3,q4,q5⟩
    ·exact .inl ⟨rfl,by simp [Instr.findNow,s1,q]⟩
    ·refine .inr ⟨j + 1,x',born',e',by rw [Nat.add_assoc,Nat.add_comm 1 j], ?_,by simpa using q2,q3,q4,q5⟩
     simp only [Instr.findNow,s1,q1]
     rw [Nat.add_assoc,Nat.add_comm 1 j]
theorem run_checkKey {t : TypeId} {tk : TI} (ht : qb P t tk) {k : PV} (hk : zf tk.td k = true) (empty : Bool) (vk : Value) : (Instr.checkKey empty 10000 t vk).run P w = .ok () w := by
 have gen : ∀ n,(Instr.checkKey empty (n + 1) t vk).run P w = .ok () w := by
  intro n
  unfold Instr.checkKey
  have : P.underlying t = some .bool ∨ P.underlying t = some .string ∨ ∃ k0,P.underlying t = some (.int k0) := by
   cases htd : tk.td <;> simp [zf,htd] at hk
   ·exact .inl (ht.bool htd)
   ·exact .inr (.inr ⟨_,ht.int htd⟩)
   ·exact .inr (.inl (ht.string htd))
  rcases this with h | h | ⟨k0,h⟩ <;> simp [qi h]
 exact gen 9999
theorem run_findKey {t : TypeId} {tk : TI} (ht : qb P t tk) {d : TypeDesc} (hd : P.underlying t = some d) (vk : Value) (ents : List MapEntry) {r : Option (Nat × Value)}
  (h : Instr.findNow d vk ents 0 = some r) : (Instr.findKey t vk ents).run P w = .ok r w := by
 unfold Instr.findKey
 simp [qi hd,h]
theorem qa.map {β : Nat} {es : List (PV × PV × Nat)} {clock : Nat} (hi : qa w H ι Im) (hb : H.get β = some (.map es clock)) :
  ∃ ents : List MapEntry,w.heap[(ι β).b]? = some (.map ⟨ents⟩ clock) ∧ je w Im es ents := hi.blk β _ hb
theorem q0k {b : Nat} {ents : List MapEntry} {clock : Nat} (h : w.heap[b]? = some (.map ⟨ents⟩ clock)) : (getObj b).run P w = .ok (.map ⟨ents⟩ clock) w := by
 simp [getObj,Sem.run,h]
theorem nz {b : Nat} {ents : List MapEntry} {clock : Nat} (h : w.heap[b]? = some (.map ⟨ents⟩ clock)) (o : Obj) :
  (setObj b o).run P w = .ok () { w with heap := w.heap.setIfInBounds b o } := by
 simp [setObj,Sem.run,h]
theorem q2f (hi : qa w H ι Im) {nx : Nat} {X : Nat → Prop} (hnx : Bd X H nx) {β : Nat} {es es' : List (PV × PV × Nat)} {clock clock' : Nat} {ents' : List MapEntry}
  (hb : H.get β = some (.map es clock)) (h : je w Im es' ents') {r : AV} {u : Value} (hru : ∀ w' H' ι',qa w' H' ι' Im → Evo w H ι Im w' H' ι' Im → RA w' H' ι' Im r u) :
  Did X w H ι Im nx (r,[(β,.map es' clock')],nx) u { w with heap := w.heap.setIfInBounds (ι β).b (.map ⟨ents'⟩ clock') } := by
 obtain ⟨ents,h1,h2⟩ := hi.map hb
 have hlt := (hi.blk β _ hb).lt rfl
 have key := qa.put (hno := noO hb rfl) hi (w' := { w with heap := w.heap.setIfInBounds (ι β).b (.map ⟨ents'⟩ clock') }) β (.map es' clock') (ι β)
  (fun x hx => by rw [hb] at hx; cases hx; rfl) ⟨by simp,rfl,rfl⟩
  (fun b' _ hne => by
   have : (ι β).b ≠ b' := hne _ hb rfl
   simp [Array.getElem?_setIfInBounds,this])
  (fun _ => .inr ⟨_,hb,rfl,rfl⟩) (fun he => by
   have hw : ∀ b,Im b → _ := fun b hb => he.kept hi b hb
   exact ⟨ents',by simp [hlt],h.mono he.im hw⟩)
 exact ⟨_,key.1,key.2,hru _ _ _ key.1 key.2,Nat.le_refl _,zu hnx (Nat.le_refl _) (hnx β _ hb)⟩
theorem q6r {t : TypeId} {ti : TI} (ht : qb P t ti) : ∃ z,(zeroValue t).run P w = .ok z w ∧ RP w Im (kv ti) z := by
 obtain ⟨z,h1,h2,h3,h4⟩ := q27 (w := w) (Im := Im) ht
 refine ⟨z,h1, ?_⟩
 unfold kv
 have hagg : ti.isAgg = ti.td.isAgg := by
  unfold TI.isAgg TD.isAgg
  cases ti.td <;> rfl
 rw [hagg,← h4]
 cases z with
 | agg cs =>
  simp only [q1v,if_true]
  exact .agg ti.zero cs.toList (by simpa [Value.cells] using h2) ht.flat (fun i p v a b => h3 i p v a (by simpa [Value.cells] using b))
 | _ =>
  simp only [q1v,Bool.false_eq_true,if_false,Value.cells] at h2 h3 ⊢
  cases hz : ti.zero with
  | nil => rw [hz] at h2; simp at h2
  | cons p r =>
   rw [hz] at h3
   exact h3 0 p _ (by simp) (by simp)
theorem qaq {t : TypeId} {tk : TI} (ht : qb P t tk) (hi : qa w H ι Im) {m : AV} {vm vk : Value} (hm : RA w H ι Im m vm) {k : PV} (hk : zf tk.td k = true) (h1 : RP w Im k vk)
  {r : Option (Nat × PV × Nat)} (hr : q1n m k H = some r) :
  (vm = .map none ∧ r = none) ∨ ∃ b ents clock,vm = .map (some b) ∧ w.heap[b]? = some (.map ⟨ents⟩ clock) ∧
   ((r = none ∧ (Instr.findKey t vk ents).run P w = .ok none w) ∨ ∃ j x born u,r = some (j,x,born) ∧ (Instr.findKey t vk ents).run P w = .ok (some (j,u)) w ∧ RP w Im x u) := by
 obtain ⟨d,hd⟩ := ht.q18
 unfold q1n at hr
 split at hr
 ·cases hr
  have h := hm.zo
  cases h
  exact .inl ⟨rfl,rfl⟩
 ·rename_i β
  split at hr
  rotate_left
  ·cases hr
  rename_i es clock hb
  cases hm
  obtain ⟨ents,g1,g2⟩ := hi.map hb
  refine .inr ⟨_,ents,clock,rfl,g1, ?_⟩
  rcases q11 ht hk hd h1 es ents 0 g2 hr with ⟨rfl,q⟩ | ⟨j,x,born,e,rfl,q1,q2,q3,q4,q5⟩
  ·exact .inl ⟨rfl,run_findKey ht hd vk ents q⟩
  ·exact .inr ⟨_,x,born,e.val,rfl,run_findKey ht hd vk ents q1,q3⟩
 ·cases hr
theorem qyd {t k0 e0 : TypeId} {ti tk te : TI} (ht : qb P t ti) (htd : ti.td = .map k0 e0) (hk : qb P k0 tk) (he : qb P e0 te) (hi : qa w H ι Im) {m k : AV} {vm vk : Value}
  (hm : RA w H ι Im m vm) (hkv : RA w H ι Im k vk) {ok : Bool} {r : AV} (hr : q0v tk te m k ok H = some r) :
  ∃ u,(Instr.lookup t vm vk ok).run P w = .ok u w ∧ RA w H ι Im r u := by
 unfold q0v at hr
 split at hr
 rotate_left
 ·cases hr
 rename_i k
 split at hr
 rotate_left
 ·cases hr
 rename_i hfit
 have hkp := hkv.zo
 obtain ⟨z,hz1,hz2⟩ := q6r (w := w) (Im := Im) he
 have pair : ∀ (p : PV) (v : Value) (b : Bool),RP w Im p v → RA w H ι Im (if ok = true then .tup [.pv p,.pv (.bool b)] else .pv p) (if ok = true then .tuple #[v,.bool b] else v) := by
  intro p v b h
  cases ok
  ·exact .pv _ _ h
  ·refine .tup _ [v,.bool b] rfl fun i x u h1 h2 => ?_
   match i with
   | 0 => simp at h1 h2; subst h1 h2; exact .pv _ _ h
   | 1 => simp at h1 h2; subst h1 h2; exact .pv _ _ (.bool _)
   | i + 2 => simp at h1
 unfold Instr.lookup
 simp only [Sem.run_bind,qi (ht.map htd),Result.andThen_ok]
 split at hr
 ·rename_i j v born hf
  cases hr
  rcases qaq hk hi hm hfit hkp hf with ⟨_,h⟩ | ⟨b,ents,clock,rfl,g1,g2⟩
  ·cases h
  rcases g2 with ⟨h,_⟩ | ⟨j',x,born',u,h,g3,g4⟩
  ·cases h
  cases h
  refine ⟨_, ?_,pair v u true g4⟩
  simp only [q0k g1,Sem.run_bind,Result.andThen_ok,Sem.run_pure,run_checkKey hk hfit,g3]
 ·rename_i hf
  cases hr
  rcases qaq hk hi hm hfit hkp hf with ⟨rfl,_⟩ | ⟨b,ents,clock,rfl,g1,g2⟩
  ·refine ⟨_, ?_,pair _ z false hz2⟩
   have : (Instr.findKey k0 vk ([] : List MapEntry)).run P w = .ok none w := by
    obtain ⟨d,hd⟩ := hk.q18
    exact run_findKey hk hd vk [] rfl
   simp only [Sem.run_bind,Result.andThen_ok,Sem.run_pure,run_checkKey hk hfit,this,hz1]
  ·rcases g2 with ⟨_,g3⟩ | ⟨j',x,born',u,h,_⟩
   rotate_left
   ·cases h
   refine ⟨_, ?_,pair _ z false hz2⟩
   simp only [q0k g1,Sem.run_bind,Result.andThen_ok,Sem.run_pure,run_checkKey hk hfit,g3,hz1]
 ·cases hr
end
end Go.Gm
set_option linter.unusedSectionVars false
namespace Go.Gm
open Go
section
variable [Globs] {P : Program} {w : World} {H : Heap} {ι : Plc} {Im : Nat → Prop}
theorem je.set {es : List (PV × PV × Nat)} {ents : List MapEntry} (h : je w Im es ents) (i : Nat) {k x : PV} {born : Nat} {e : MapEntry}
  (hk : RP w Im k e.key) (hx : RP w Im x e.val) (hb : e.born = born) : je w Im (es.set i (k,x,born)) (ents.set i e) := by
 refine ⟨by simp [h.1],fun j k' x' born' e' h1 h2 => ?_⟩
 rw [List.getElem?_set] at h1 h2
 by_cases hij : i = j
 ·subst hij
  rw [if_pos rfl] at h1 h2
  split at h1 <;> cases h1
  split at h2 <;> cases h2
  exact ⟨hk,hx,hb⟩
 ·rw [if_neg hij] at h1 h2
  exact h.2 j k' x' born' e' h1 h2
theorem je.push {es : List (PV × PV × Nat)} {ents : List MapEntry} (h : je w Im es ents) {k x : PV} {born : Nat} {e : MapEntry}
  (hk : RP w Im k e.key) (hx : RP w Im x e.val) (hb : e.born = born) : je w Im (es ++ [(k,x,born)]) (ents ++ [e]) := by
 refine ⟨by simp [h.1],fun j k' x' born' e' h1 h2 => ?_⟩
 rw [List.getElem?_append] at h1 h2
 rw [← h.1] at h2
 by_cases hj : j < es.length
 ·rw [if_pos hj] at h1 h2
  exact h.2 j k' x' born' e' h1 h2
 ·rw [if_neg hj] at h1 h2
  cases hd : j - es.length with
  | zero =>
   rw [hd] at h1 h2
   simp at h1 h2
   obtain ⟨rfl,rfl,rfl⟩ := h1
   subst h2
   exact ⟨hk,hx,hb⟩
  | succ n => rw [hd] at h1; simp at h1
theorem je.erase {es : List (PV × PV × Nat)} {ents : List MapEntry} (h : je w Im es ents) (i : Nat) : je w Im (es.eraseIdx i) (ents.eraseIdx i) := by
 refine ⟨by simp [List.length_eraseIdx,h.1],fun j k' x' born' e' h1 h2 => ?_⟩
 rw [List.getElem?_eraseIdx] at h1 h2
 split at h1
 ·rename_i hc
  rw [if_pos hc] at h2
  exact h.2 _ k' x' born' e' h1 h2
 ·rename_i hc
  rw [if_neg hc] at h2
  exact h.2 _ k' x' born' e' h1 h2
theorem modify_eq_set {l : List MapEntry} {i : Nat} {e : MapEntry} (h : l[i]? = some e) (f : MapEntry → MapEntry) : (⟨l⟩ : Array MapEntry).modify i f = ⟨l.set i (f e)⟩ := by
 obtain ⟨hlt,he⟩ := List.getElem?_eq_some_iff.1 h
 apply Array.ext'
 simp only [Array.toList_modify]
 apply List.ext_getElem?
 intro j
 rw [List.getElem?_modify,List.getElem?_set]
 by_cases hij : i = j
 ·subst hij
  simp [hlt,he]
 ·simp [hij]
theorem qp1 {k : PV} {tk : TI} (hk : zf tk.td k = true) {v : Value} (h : RP w Im k v) : Instr.sameBits 10000 v v = true := by
 cases h <;> simp [zf] at hk
 ·simp [Instr.sameBits]
 ·simp [Instr.sameBits]
 ·simp [Instr.sameBits,q8h]
 all_goals (cases htd : tk.td <;> simp [htd] at hk)
theorem q7y {k : PV} {tk : TI} (hk : zf tk.td k = true) {v : Value} (h : RP w Im k v) : (Instr.keyThatStays v v).run P w = .ok v w := by
 unfold Instr.keyThatStays
 simp [qp1 hk h]
theorem q8p {t k0 e0 : TypeId} {ti tk : TI} (ht : qb P t ti) (htd : ti.td = .map k0 e0) (hk : qb P k0 tk) (hi : qa w H ι Im)
  {nx : Nat} {X : Nat → Prop} (hnx : Bd X H nx) {m k : AV} {x : PV} {vm vk vx : Value}
  (hm : RA w H ι Im m vm) (hkv : RA w H ι Im k vk) (hx : RP w Im x vx) {ws : List (Nat × Blk)} (hr : gu tk m k x H = some ws) :
  ∃ w',(Instr.mapUpdate t vm vk vx).run P w = .ok () w' ∧ Did X w H ι Im nx (.tup [],ws,nx) undef w' := by
 have hundef : ∀ w' H' ι',qa w' H' ι' Im → Evo w H ι Im w' H' ι' Im → RA w' H' ι' Im (.tup []) undef := fun _ _ _ _ _ => .tup [] [] rfl (by simp)
 obtain ⟨d,hd⟩ := hk.q18
 unfold gu at hr
 split at hr
 rotate_left
 ·cases hr
 rename_i β k
 split at hr
 rotate_left
 ·cases hr
 rename_i hfit
 split at hr
 rotate_left
 ·cases hr
 rename_i es clock hb
 have hkp := hkv.zo
 cases hm
 obtain ⟨ents,g1,g2⟩ := hi.map hb
 unfold Instr.mapUpdate
 simp only [Sem.run_bind,qi (ht.map htd),Result.andThen_ok,q0k g1,run_checkKey hk hfit]
 split at hr
 ·rename_i j y born hf
  cases hr
  rcases q11 hk hfit hd hkp es ents 0 g2 hf with ⟨h,_⟩ | ⟨j',x',born',e,h,q1,q2,q3,q4,q5⟩
  ·cases h
  rw [Nat.zero_add] at h q1
  cases h
  have hkey : ((ents[j]?.map (·.key)).getD vk) = vk := by rw [q2]; simp [q5]
  refine ⟨_, ?_,q2f hi hnx hb (g2.set j (k := k) (x := x) (born := born) (e := { e with key := vk,val := vx }) hkp hx q4) hundef⟩
  simp only [run_findKey hk hd vk ents q1,Result.andThen_ok,Sem.run_bind]
  have hk2 : ((Array.mk ents)[j]?.map (·.key)).getD vk = vk := by simpa using hkey
  rw [hk2,q7y hfit hkp]
  simp only [Result.andThen_ok,modify_eq_set q2,nz g1]
 ·rename_i hf
  cases hr
  rcases q11 hk hfit hd hkp es ents 0 g2 hf with ⟨_,q1⟩ | ⟨j',x',born',e,h,_⟩
  rotate_left
  ·cases h
  refine ⟨_, ?_,q2f hi hnx hb (g2.push (k := k) (x := x) (born := clock) (e := { key := vk,val := vx,born := clock }) hkp hx rfl) hundef⟩
  simp only [run_findKey hk hd vk ents q1,Result.andThen_ok,nz g1]
  simp
 ·cases hr
theorem z9z {t k0 e0 : TypeId} {ti tk te : TI} (ht : qb P t ti) (htd : ti.td = .map k0 e0) (hk : qb P k0 tk) (he : qb P e0 te) (hi : qa w H ι Im)
  {nx : Nat} {X : Nat → Prop} (hnx : Bd X H nx) {m k : AV} {vm vk : Value}
  (hm : RA w H ι Im m vm) (hkv : RA w H ι Im k vk) {r : AV} {ws : List (Nat × Blk)} (hr : mg tk te m k H = some (r,ws)) :
  ∃ u w',(Instr.mapEntry t vm vk).run P w = .ok u w' ∧ Did X w H ι Im nx (r,ws,nx) u w' := by
 obtain ⟨d,hd⟩ := hk.q18
 unfold mg at hr
 split at hr
 rotate_left
 ·cases hr
 rename_i β k
 split at hr
 rotate_left
 ·cases hr
 rename_i hfit
 split at hr
 rotate_left
 ·cases hr
 rename_i es clock hb
 have hkp := hkv.zo
 cases hm
 obtain ⟨ents,g1,g2⟩ := hi.map hb
 have pair : ∀ (p : PV) (v : Value) (n : Nat),RP w Im p v → ∀ w' H' ι',qa w' H' ι' Im → Evo w H ι Im w' H' ι' Im →
   RA w' H' ι' Im (.tup [.pv p,.pv (.int .i64 n)]) (.tuple #[v,.int .i64 n]) := by
  intro p v n h w' H' ι' _ hev
  refine .tup _ [v,.int .i64 n] rfl fun i x u h1 h2 => ?_
  match i with
  | 0 => simp at h1 h2; subst h1 h2; exact .pv _ _ (h.mono hev.im fun b hb => hev.kept hi b hb)
  | 1 => simp at h1 h2; subst h1 h2; exact .pv _ _ (.int _ _)
  | i + 2 => simp at h1
 unfold Instr.mapEntry
 simp only [Sem.run_bind,qi (ht.map htd),Result.andThen_ok,q0k g1,run_checkKey hk hfit]
 split at hr
 ·rename_i j y born hf
  cases hr
  rcases q11 hk hfit hd hkp es ents 0 g2 hf with ⟨h,_⟩ | ⟨j',x',born',e,h,q1,q2,q3,q4,q5⟩
  ·cases h
  rw [Nat.zero_add] at h q1
  cases h
  have hkey : ((ents[j]?.map (·.key)).getD vk) = vk := by rw [q2]; simp [q5]
  refine ⟨.tuple #[e.val,.int .i64 born],_, ?_,q2f hi hnx hb (g2.set j (k := k) (x := y) (born := born) (e := { e with key := vk }) hkp q3 q4) (pair y e.val born q3)⟩
  simp only [run_findKey hk hd vk ents q1,Result.andThen_ok,Sem.run_bind]
  have hk2 : ((Array.mk ents)[j]?.map (·.key)).getD vk = vk := by simpa using hkey
  rw [hk2,q7y hfit hkp]
  simp only [Result.andThen_ok,modify_eq_set q2,nz g1,Sem.run_pure]
  have hb2 : ((Array.mk ents)[j]?.map fun x => (x.born : Int)).getD 0 = born := by simp [q2,q4]
  rw [hb2]
  rfl
 ·rename_i hf
  cases hr
  rcases q11 hk hfit hd hkp es ents 0 g2 hf with ⟨_,q1⟩ | ⟨j',x',born',e,h,_⟩
  rotate_left
  ·cases h
  obtain ⟨z,hz1,hz2⟩ := q6r (w := w) (Im := Im) he
  refine ⟨.tuple #[z,.int .i64 clock],_, ?_,q2f hi hnx hb (g2.push (k := k) (x := kv te) (born := clock) (e := { key := vk,val := z,born := clock }) hkp hz2 rfl) (pair _ z clock hz2)⟩
  simp only [run_findKey hk hd vk ents q1,Result.andThen_ok,hz1,nz g1,Sem.run_bind,Sem.run_pure]
  simp [goInt]
 ·cases hr
theorem q8z {born : Int} : ∀ (es : List (PV × PV × Nat)) (ents : List MapEntry) (i : Nat),je w Im es ents → ∀ {j : Nat} {k : PV} {b : Nat},q4d born es i = some (j,k,b) →
  ∃ m e,j = i + m ∧ ents.findIdx? (fun e => (e.born : Int) == born) = some m ∧ ents[m]? = some e ∧ RP w Im k e.key ∧ e.born = b
 | [],_,_,_,_,_,_,h => by cases h
 | (k',x,b') :: es,[],_,hE,_,_,_,_ => by have := hE.1; simp at this
 | (k',x,b') :: es,e :: ents,i,hE,j,k,b,h => by
  obtain ⟨g1,g2,g3⟩ := hE.2 0 k' x b' e (by simp) (by simp)
  unfold q4d at h
  split at h
  ·rename_i hb
   cases h
   refine ⟨0,e,rfl, ?_,rfl,g1,g3⟩
   rw [List.findIdx?_cons,g3,hb]
   simp
  ·rename_i hb
   obtain ⟨m,e',rfl,q1,q2,q3,q4⟩ := q8z es ents (i + 1) hE.tail h
   refine ⟨m + 1,e',by omega, ?_,by simpa using q2,q3,q4⟩
   have : ((e.born : Int) == born) = false := by rw [g3]; simpa using hb
   rw [List.findIdx?_cons,this,q1]
   simp
theorem zas (t : TypeId) (hi : qa w H ι Im) {nx : Nat} {X : Nat → Prop} (hnx : Bd X H nx) {m st : AV} {x : PV} {vm vs vx : Value}
  (hm : RA w H ι Im m vm) (hsv : RA w H ι Im st vs) (hx : RP w Im x vx) {ws : List (Nat × Blk)} (hr : ug m st x H = some ws) :
  ∃ w',(Instr.entryStore t vm vs vx).run P w = .ok () w' ∧ Did X w H ι Im nx (.tup [],ws,nx) undef w' := by
 have hundef : ∀ w' H' ι',qa w' H' ι' Im → Evo w H ι Im w' H' ι' Im → RA w' H' ι' Im (.tup []) undef := fun _ _ _ _ _ => .tup [] [] rfl (by simp)
 unfold ug at hr
 split at hr
 rotate_left
 ·cases hr
 rename_i β kd born
 split at hr
 rotate_left
 ·cases hr
 rename_i es clock hb
 split at hr <;> cases hr
 rename_i j k b hf
 have h := hsv.zo
 cases h
 cases hm
 obtain ⟨ents,g1,g2⟩ := hi.map hb
 obtain ⟨m,e,h0,q1,q2,q3,q4⟩ := q8z es ents 0 g2 hf
 rw [Nat.zero_add] at h0
 subst h0
 refine ⟨_, ?_,q2f hi hnx hb (g2.set j (k := k) (x := x) (born := b) (e := { e with val := vx }) q3 hx q4) hundef⟩
 unfold Instr.entryStore
 have hint : (asInt (.int kd born)).run P w = .ok born w := by simp [asInt,asIntOf]
 have hfi : (Array.mk ents).findIdx? (fun e => (e.born : Int) == born) = some j := by simpa using q1
 simp only [Sem.run_bind,q0k g1,Result.andThen_ok,hint,hfi,modify_eq_set q2,nz g1]
theorem za8 {t k0 e0 : TypeId} {ti tk : TI} (ht : qb P t ti) (htd : ti.td = .map k0 e0) (hk : qb P k0 tk) (hi : qa w H ι Im)
  {nx : Nat} {X : Nat → Prop} (hnx : Bd X H nx) (tys : Array TypeId) (hty : tys[0]? = some t) (tt : TypeId) {m k : AV} {vm vk : Value}
  (hm : RA w H ι Im m vm) (hkv : RA w H ι Im k vk) {ws : List (Nat × Blk)} (hr : ng tk m k H = some ws) :
  ∃ w',(Builtin.delete_ tys tt #[vm,vk]).run P w = .ok undef w' ∧ Did X w H ι Im nx (.tup [],ws,nx) undef w' := by
 have hundef : ∀ w' H' ι',qa w' H' ι' Im → Evo w H ι Im w' H' ι' Im → RA w' H' ι' Im (.tup []) undef := fun _ _ _ _ _ => .tup [] [] rfl (by simp)
 obtain ⟨d,hd⟩ := hk.q18
 unfold Builtin.delete_
 simp only [hty,List.getElem?_toArray,List.getElem?_cons_zero,List.getElem?_cons_succ,Sem.run_bind,qi (ht.map htd),Result.andThen_ok]
 unfold ng at hr
 split at hr
 ·rename_i k
  split at hr <;> cases hr
  rename_i hfit
  have h := hm.zo
  cases h
  refine ⟨w, ?_,Did.pure hi hnx (hundef _ _ _ hi (Evo.refl _ _ _ _))⟩
  simp only [Sem.run_bind,run_checkKey hk hfit,Result.andThen_ok,Sem.run_pure]
  rfl
 ·rename_i β k
  split at hr
  rotate_left
  ·cases hr
  rename_i hfit
  split at hr
  rotate_left
  ·cases hr
  rename_i es clock hb
  have hkp := hkv.zo
  cases hm
  obtain ⟨ents,g1,g2⟩ := hi.map hb
  simp only [Sem.run_bind,q0k g1,Result.andThen_ok,run_checkKey hk hfit]
  split at hr
  ·rename_i j y born hf
   cases hr
   rcases q11 hk hfit hd hkp es ents 0 g2 hf with ⟨h,_⟩ | ⟨j',x',born',e,h,q1,q2,q3,q4,q5⟩
   ·cases h
   rw [Nat.zero_add] at h q1
   cases h
   refine ⟨_, ?_,q2f hi hnx hb (g2.erase j) hundef⟩
   simp only [Sem.run_bind,run_findKey hk hd vk ents q1,Result.andThen_ok,nz g1,Sem.run_pure]
   have : (Array.mk ents).eraseIdxIfInBounds j = ⟨ents.eraseIdx j⟩ := by
    obtain ⟨hlt,_⟩ := List.getElem?_eq_some_iff.1 q2
    simp [Array.eraseIdxIfInBounds,hlt]
   simp only [Sem.run_bind,this,nz g1,Result.andThen_ok,Sem.run_pure]
   rfl
  ·rename_i hf
   cases hr
   rcases q11 hk hfit hd hkp es ents 0 g2 hf with ⟨_,q1⟩ | ⟨j',x',born',e,h,_⟩
   rotate_left
   ·cases h
   refine ⟨_, ?_,q2f hi hnx hb g2 hundef⟩
   simp only [Sem.run_bind,run_findKey hk hd vk ents q1,Result.andThen_ok,nz g1,Sem.run_pure]
   rfl
  ·cases hr
 ·cases hr
theorem qzp (t : TypeId) (hi : qa w H ι Im) {nx : Nat} {X : Nat → Prop} (hnx : Bd X H nx) (hX : ¬ X nx) :
  ∃ u w',(Instr.makeMap t none).run P w = .ok u w' ∧ Did X w H ι Im nx (.map nx,[(nx,.map [] 0)],nx + 1) u w' := by
 refine ⟨.map (some w.heap.size), { w with heap := w.heap.push (.map #[] 0) },by simp [Instr.makeMap], ?_⟩
 obtain ⟨ι',h0,h1,h2⟩ := qa.new hi hnx hX { w with heap := w.heap.push (.map #[] 0) } (.map [] 0) (.map #[] 0) 0 rfl ⟨rfl,rfl⟩ (fun ι' hp he => by
  exact ⟨[],by simp [hp],rfl,by simp⟩)
 refine ⟨ι',h1,h2, ?_,by simp,zu hnx (by simp) (.inl (by simp))⟩
 have hg : (qf [(nx,Blk.map [] 0)] H).get nx = some (.map [] 0) := by simp [qf,Heap.get_put]
 have := RA.map (w := { w with heap := w.heap.push (.map #[] 0) }) (ι := ι') (Im := Im) nx [] 0 hg
 rw [h0] at this
 exact this
end
end Go.Gm
set_option linter.unusedSectionVars false
namespace Go.Gm
open Go
section
variable [Globs] {P : Program} {w : World} {H : Heap} {ι : Plc} {Im : Nat → Prop}
def jy (w : World) (H : Heap) (ι : Plc) (Im : Nat → Prop) (es : List (PV × AV × Nat)) (ents : List MapEntry) : Prop :=
 es.length = ents.length ∧ ∀ (i : Nat) (k : PV) (x : AV) (born : Nat) e,es[i]? = some (k,x,born) → ents[i]? = some e → RP w Im k e.key ∧ RA w H ι Im x e.val ∧ e.born = born
theorem jy.tail {x : PV × AV × Nat} {es : List (PV × AV × Nat)} {e : MapEntry} {ents : List MapEntry} (h : jy w H ι Im (x :: es) (e :: ents)) : jy w H ι Im es ents :=
 ⟨by simpa using h.1,fun i k y born e' a b => h.2 (i + 1) k y born e' (by simpa using a) (by simpa using b)⟩
theorem jy.mono {w' : World} {H' : Heap} {ι' : Plc} {Im' : Nat → Prop} (hi : qa w H ι Im) (he : Evo w H ι Im w' H' ι' Im') {es : List (PV × AV × Nat)} {ents : List MapEntry}
  (h : jy w H ι Im es ents) : jy w' H' ι' Im' es ents :=
 ⟨h.1,fun i k x born e a b => let ⟨g1,g2,g3⟩ := h.2 i k x born e a b; ⟨g1.mono he.im (fun b hb => he.kept hi b hb),g2.mono hi he,g3⟩⟩
theorem q4g {t : TypeId} {tk : TI} (ht : qb P t tk) {k : PV} (hk : zf tk.td k = true) {d : TypeDesc} (hd : P.underlying t = some d) {vk : Value} (h1 : RP w Im k vk) :
  ∀ (es : List (PV × AV × Nat)) (ents : List MapEntry) (i : Nat),jy w H ι Im es ents → ∀ {r : Option (Nat × AV × Nat)},q4c k es i = some r →
   (r = none ∧ Instr.findNow d vk ents i = some none) ∨
   ∃ j x born e,r = some (i + j,x,born) ∧ Instr.findNow d vk ents i = some (some (i + j,e.val)) ∧ ents[j]? = some e ∧ RA w H ι Im x e.val ∧ e.born = born ∧ e.key = vk
 | [],ents,i,hE,r,h => by
  have : ents = [] := by simpa using hE.1.symm
  subst this
  cases h
  exact .inl ⟨rfl,rfl⟩
 | (k',x,born) :: es,[],i,hE,r,h => by
  have := hE.1
  simp at this
 | (k',x,born) :: es,e :: ents,i,hE,r,h => by
  obtain ⟨g1,g2,g3⟩ := hE.2 0 k' x born e (by simp) (by simp)
  unfold q4c at h
  cases hq : q33 k k' with
  | none => simp [hq] at h
  | some b =>
   obtain ⟨s1,s2⟩ := q9p ht hk hd h1 g1 hq
   cases b with
   | true =>
    simp only [hq,Option.some.injEq] at h
    subst h
    refine .inr ⟨0,x,born,e,rfl, ?_,rfl,g2,g3,(s2 rfl).symm⟩
    simp [Instr.findNow,s1]
   | false =>
    simp only [hq] at h
    rcases q4g ht hk hd h1 es ents (i + 1) hE.tail h with ⟨rfl,q⟩ | ⟨j,x',born',e',rfl,q1,q2,q3,q4,q5⟩
    ·exact .inl ⟨rfl,by simp [Instr.findNow,s1,q]⟩
    ·refine .inr ⟨j + 1,x',born',e',by rw [Nat.add_assoc,Nat.add_comm 1 j], ?_,by simpa using q2,q3,q4,q5⟩
     simp only [Instr.findNow,s1,q1]
     rw [Nat.add_assoc,Nat.add_comm 1 j]
theorem qa.qj {β : Nat} {es : List (PV × AV × Nat)} {clock : Nat} (hi : qa w H ι Im) (hb : H.get β = some (.qj es clock)) :
  ∃ ents : List MapEntry,w.heap[(ι β).b]? = some (.map ⟨ents⟩ clock) ∧ jy w H ι Im es ents := hi.blk β _ hb
theorem qbq (hi : qa w H ι Im) {nx : Nat} {X : Nat → Prop} (hnx : Bd X H nx) {β : Nat} {es es' : List (PV × AV × Nat)} {clock clock' : Nat} {ents' : List MapEntry}
  (hb : H.get β = some (.qj es clock)) (h : jy w H ι Im es' ents') {r : AV} {u : Value} (hru : ∀ w' H' ι',qa w' H' ι' Im → Evo w H ι Im w' H' ι' Im → RA w' H' ι' Im r u) :
  Did X w H ι Im nx (r,[(β,.qj es' clock')],nx) u { w with heap := w.heap.setIfInBounds (ι β).b (.map ⟨ents'⟩ clock') } := by
 obtain ⟨ents,h1,h2⟩ := hi.qj hb
 have hlt := (hi.blk β _ hb).lt rfl
 have key := qa.put (hno := noO hb rfl) hi (w' := { w with heap := w.heap.setIfInBounds (ι β).b (.map ⟨ents'⟩ clock') }) β (.qj es' clock') (ι β)
  (fun x hx => by rw [hb] at hx; cases hx; rfl) ⟨by simp,rfl,rfl⟩
  (fun b' _ hne => by
   have : (ι β).b ≠ b' := hne _ hb rfl
   simp [Array.getElem?_setIfInBounds,this])
  (fun _ => .inr ⟨_,hb,rfl,rfl⟩) (fun he => ⟨ents',by simp [hlt],h.mono hi he⟩)
 exact ⟨_,key.1,key.2,hru _ _ _ key.1 key.2,Nat.le_refl _,zu hnx (Nat.le_refl _) (hnx β _ hb)⟩
theorem qvy {t k0 e0 : TypeId} {ti tk te : TI} (ht : qb P t ti) (htd : ti.td = .map k0 e0) (hk : qb P k0 tk) (he : qb P e0 te) (hi : qa w H ι Im) {m k : AV} {vm vk : Value}
  (hm : RA w H ι Im m vm) (hkv : RA w H ι Im k vk) {ok : Bool} {r : AV} (hr : q2k tk te m k ok H = some r) :
  ∃ u,(Instr.lookup t vm vk ok).run P w = .ok u w ∧ RA w H ι Im r u := by
 unfold q2k at hr
 split at hr
 rotate_left
 ·cases hr
 rename_i β k
 split at hr
 rotate_left
 ·cases hr
 rename_i hfit
 split at hr
 rotate_left
 ·cases hr
 rename_i es clock hb
 have hkp := hkv.zo
 obtain ⟨d,hd⟩ := hk.q18
 obtain ⟨z,hz1,hz2⟩ := q6r (w := w) (Im := Im) he
 cases hm
 obtain ⟨ents,g1,g2⟩ := hi.qj hb
 have pair : ∀ (p : AV) (v : Value) (b : Bool),RA w H ι Im p v → RA w H ι Im (if ok = true then .tup [p,.pv (.bool b)] else p) (if ok = true then .tuple #[v,.bool b] else v) := by
  intro p v b h
  cases ok
  ·exact h
  ·refine .tup _ [v,.bool b] rfl fun i x u h1 h2 => ?_
   match i with
   | 0 => simp at h1 h2; subst h1 h2; exact h
   | 1 => simp at h1 h2; subst h1 h2; exact .pv _ _ (.bool _)
   | i + 2 => simp at h1
 unfold Instr.lookup
 simp only [Sem.run_bind,qi (ht.map htd),Result.andThen_ok]
 split at hr
 ·rename_i j v born hf
  cases hr
  rcases q4g hk hfit hd hkp es ents 0 g2 hf with ⟨h,_⟩ | ⟨j',x,born',e,h,q1,q2,q3,q4,q5⟩
  ·cases h
  rw [Nat.zero_add] at h q1
  cases h
  refine ⟨_, ?_,pair v e.val true q3⟩
  simp only [q0k g1,Sem.run_bind,Result.andThen_ok,Sem.run_pure,run_checkKey hk hfit,run_findKey hk hd vk ents q1]
 ·rename_i hf
  cases hr
  rcases q4g hk hfit hd hkp es ents 0 g2 hf with ⟨_,q⟩ | ⟨j',x,born',e,h,_⟩
  rotate_left
  ·cases h
  refine ⟨_, ?_,pair _ z false (.pv _ _ hz2)⟩
  simp only [q0k g1,Sem.run_bind,Result.andThen_ok,Sem.run_pure,run_checkKey hk hfit,run_findKey hk hd vk ents q,hz1]
 ·cases hr
theorem jy.set {es : List (PV × AV × Nat)} {ents : List MapEntry} (h : jy w H ι Im es ents) (i : Nat) {k : PV} {x : AV} {born : Nat} {e : MapEntry}
  (hk : RP w Im k e.key) (hx : RA w H ι Im x e.val) (hb : e.born = born) : jy w H ι Im (es.set i (k,x,born)) (ents.set i e) := by
 refine ⟨by simp [h.1],fun j k' x' born' e' h1 h2 => ?_⟩
 rw [List.getElem?_set] at h1 h2
 by_cases hij : i = j
 ·subst hij
  rw [if_pos rfl] at h1 h2
  split at h1 <;> cases h1
  split at h2 <;> cases h2
  exact ⟨hk,hx,hb⟩
 ·rw [if_neg hij] at h1 h2
  exact h.2 j k' x' born' e' h1 h2
theorem jy.push {es : List (PV × AV × Nat)} {ents : List MapEntry} (h : jy w H ι Im es ents) {k : PV} {x : AV} {born : Nat} {e : MapEntry}
  (hk : RP w Im k e.key) (hx : RA w H ι Im x e.val) (hb : e.born = born) : jy w H ι Im (es ++ [(k,x,born)]) (ents ++ [e]) := by
 refine ⟨by simp [h.1],fun j k' x' born' e' h1 h2 => ?_⟩
 rw [List.getElem?_append] at h1 h2
 rw [← h.1] at h2
 by_cases hj : j < es.length
 ·rw [if_pos hj] at h1 h2
  exact h.2 j k' x' born' e' h1 h2
 ·rw [if_neg hj] at h1 h2
  cases hd : j - es.length with
  | zero =>
   rw [hd] at h1 h2
   simp at h1 h2
   obtain ⟨rfl,rfl,rfl⟩ := h1
   subst h2
   exact ⟨hk,hx,hb⟩
  | succ n => rw [hd] at h1; simp at h1
theorem qx0 {t k0 e0 : TypeId} {ti tk : TI} (ht : qb P t ti) (htd : ti.td = .map k0 e0) (hk : qb P k0 tk) (hi : qa w H ι Im)
  {nx : Nat} {X : Nat → Prop} (hnx : Bd X H nx) {m k x : AV} {vm vk vx : Value}
  (hm : RA w H ι Im m vm) (hkv : RA w H ι Im k vk) (hx : RA w H ι Im x vx) {ws : List (Nat × Blk)} (hr : q1m tk m k x H = some ws) :
  ∃ w',(Instr.mapUpdate t vm vk vx).run P w = .ok () w' ∧ Did X w H ι Im nx (.tup [],ws,nx) undef w' := by
 have hundef : ∀ w' H' ι',qa w' H' ι' Im → Evo w H ι Im w' H' ι' Im → RA w' H' ι' Im (.tup []) undef := fun _ _ _ _ _ => .tup [] [] rfl (by simp)
 obtain ⟨d,hd⟩ := hk.q18
 unfold q1m at hr
 split at hr
 rotate_left
 ·cases hr
 rename_i β k
 split at hr
 rotate_left
 ·cases hr
 rename_i hfit
 split at hr
 rotate_left
 ·cases hr
 rename_i es clock hb
 have hkp := hkv.zo
 cases hm
 obtain ⟨ents,g1,g2⟩ := hi.qj hb
 unfold Instr.mapUpdate
 simp only [Sem.run_bind,qi (ht.map htd),Result.andThen_ok,q0k g1,run_checkKey hk hfit]
 split at hr
 ·rename_i j y born hf
  cases hr
  rcases q4g hk hfit hd hkp es ents 0 g2 hf with ⟨h,_⟩ | ⟨j',x',born',e,h,q1,q2,q3,q4,q5⟩
  ·cases h
  rw [Nat.zero_add] at h q1
  cases h
  have hkey : ((ents[j]?.map (·.key)).getD vk) = vk := by rw [q2]; simp [q5]
  refine ⟨_, ?_,qbq hi hnx hb (g2.set j (k := k) (x := x) (born := born) (e := { e with key := vk,val := vx }) hkp hx q4) hundef⟩
  simp only [run_findKey hk hd vk ents q1,Result.andThen_ok,Sem.run_bind]
  have hk2 : ((Array.mk ents)[j]?.map (·.key)).getD vk = vk := by simpa using hkey
  rw [hk2,q7y hfit hkp]
  simp only [Result.andThen_ok,modify_eq_set q2,nz g1]
 ·rename_i hf
  cases hr
  rcases q4g hk hfit hd hkp es ents 0 g2 hf with ⟨_,q1⟩ | ⟨j',x',born',e,h,_⟩
  rotate_left
  ·cases h
  refine ⟨_, ?_,qbq hi hnx hb (g2.push (k := k) (x := x) (born := clock) (e := { key := vk,val := vx,born := clock }) hkp hx rfl) hundef⟩
  simp only [run_findKey hk hd vk ents q1,Result.andThen_ok,nz g1]
  simp
 ·cases hr
theorem qu3 (t : TypeId) (hi : qa w H ι Im) {nx : Nat} {X : Nat → Prop} (hnx : Bd X H nx) (hX : ¬ X nx) :
  ∃ u w',(Instr.makeMap t none).run P w = .ok u w' ∧ Did X w H ι Im nx (.qj nx,[(nx,.qj [] 0)],nx + 1) u w' := by
 refine ⟨.map (some w.heap.size), { w with heap := w.heap.push (.map #[] 0) },by simp [Instr.makeMap], ?_⟩
 obtain ⟨ι',h0,h1,h2⟩ := qa.new hi hnx hX { w with heap := w.heap.push (.map #[] 0) } (.qj [] 0) (.map #[] 0) 0 rfl ⟨rfl,rfl⟩ (fun ι' hp he => by
  exact ⟨[],by simp [hp],rfl,by simp⟩)
 refine ⟨ι',h1,h2, ?_,by simp,zu hnx (by simp) (.inl (by simp))⟩
 have hg : (qf [(nx,Blk.qj [] 0)] H).get nx = some (.qj [] 0) := by simp [qf,Heap.get_put]
 have := RA.qj (w := { w with heap := w.heap.push (.map #[] 0) }) (ι := ι') (Im := Im) nx [] 0 hg
 rw [h0] at this
 exact this
end
end Go.Gm
set_option linter.unusedSectionVars false
namespace Go.Gm
open Go
section
variable [Globs] {P : Program} {w : World} {H : Heap} {ι : Plc} {Im : Nat → Prop}
def jd (P : Program) (G : GP) : Prop := ∀ t ti,G.ti t = some ti → qb P t ti
def qp (X : Nat → Prop) (r : Result Next) (w : World) (H : Heap) (ι : Plc) (Im : Nat → Prop) (nx : Nat) (e : Eff) : Prop :=
 ∃ u w',(r = .ok (.value u) w' ∨ (r = .ok .skip w' ∧ u = undef)) ∧ Did X w H ι Im nx e u w'
theorem qp.val {X : Nat → Prop} {s : Sem Value} {u : Value} {w' : World} {nx : Nat} {e : Eff} (h : s.run P w = .ok u w') (hd : Did X w H ι Im nx e u w') :
  qp X ((do pure (.value (← s)) : Sem Next).run P w) w H ι Im nx e :=
 ⟨u,w',.inl (by simp [h]),hd⟩
theorem qp.skip {X : Nat → Prop} {s : Sem Unit} {w' : World} {nx : Nat} {e : Eff} (h : s.run P w = .ok () w') (hd : Did X w H ι Im nx e undef w') :
  qp X ((do s; pure .skip : Sem Next).run P w) w H ι Im nx e :=
 ⟨undef,w',.inr ⟨by simp [h],rfl⟩,hd⟩
theorem qp.now {X : Nat → Prop} {u : Value} {nx : Nat} {e : Eff} (hd : Did X w H ι Im nx e u w) : qp X ((pure (.value u) : Sem Next).run P w) w H ι Im nx e :=
 ⟨u,w,.inl rfl,hd⟩
def q3l : Op → Bool
 | .call { callee := .value _,.. } => true
 | .box _ _ => true
 | _ => false
theorem Did.puts {β : Nat} {b b' : Blk} {nx : Nat} {X : Nat → Prop} (hnx : Bd X H nx) (hb : H.get β = some b) {w' : World} {ι' : Plc} (h1 : qa w' (qf [(β,b')] H) ι' Im)
  (h2 : Evo w H ι Im w' (qf [(β,b')] H) ι' Im) : Did X w H ι Im nx (.tup [],[(β,b')],nx) undef w' :=
 ⟨ι',h1,h2,.tup [] [] rfl (by simp),Nat.le_refl _,zu hnx (Nat.le_refl _) (hnx β _ hb)⟩
theorem q49 {G : GP} {t : TypeId} {tk te : TI} (h : q1j G t = some (tk,te)) : ∃ ti k e,G.ti t = some ti ∧ ti.td = .map k e ∧ G.ti k = some tk ∧ G.ti e = some te := by
 unfold q1j at h
 split at h
 rotate_left
 ·cases h
 rename_i ti hti
 split at h
 rotate_left
 ·cases h
 rename_i k e htd
 split at h <;> cases h
 rename_i hk he
 exact ⟨ti,k,e,hti,htd,hk,he⟩
theorem q9h {a : Act} {E : Env} (hE : ∀ t,RA w H ι Im (E.get t) (a.tmps.getD t undef)) : ∀ (l : List Operand) (i : Nat) z v,(l.map (ev E))[i]? = some z → (l.map a.eval)[i]? = some v → RA w H ι Im z v := by
 intro l i z v h1 h2
 simp only [List.getElem?_map,Option.map_eq_some_iff] at h1 h2
 obtain ⟨o1,q1,rfl⟩ := h1
 obtain ⟨o2,q2,rfl⟩ := h2
 rw [q1] at q2
 cases q2
 exact mh hE o1
theorem qad {isMax : Bool} {l : List AV} {vs : List Value} (hl : l.length = vs.length) (hR : ∀ (i : Nat) x v,l[i]? = some x → vs[i]? = some v → RA w H ι Im x v)
  {p : PV} (h : q42 isMax l = some p) (tys : Array TypeId) (tt : TypeId) :
  ∃ u,(if isMax then Builtin.max_ tys tt ⟨vs⟩ else Builtin.min_ tys tt ⟨vs⟩).run P w = .ok u w ∧ RP w Im p u := by
 unfold q42 at h
 split at h
 rotate_left
 ·rename_i a b
  split at h <;> cases h
  rename_i hm
  obtain ⟨v,u,rfl⟩ : ∃ v u,vs = [v,u] := by
   match vs,hl with
   | [v,u],_ => exact ⟨v,u,rfl⟩
  have hx := (hR 0 (.pv (.str a)) v (by simp) (by simp)).zo
  have hy := (hR 1 (.pv (.str b)) u (by simp) (by simp)).zo
  cases hx
  cases hy
  refine ⟨.string ⟨⟨if wh a b = true then b else a⟩⟩, ?_,.str _⟩
  rw [if_pos hm]
  cases hc : wh a b <;> simp [Builtin.max_,Builtin.max2,Op.stringOp,asBool,bytesLess_eq,hc]
 ·cases h
 rename_i k a r
 cases vs with
 | nil => simp at hl
 | cons v vr =>
  have hx := (hR 0 (.pv (.int k a)) v (by simp) (by simp)).zo
  cases hx
  obtain ⟨u,g1,g2⟩ := qbr (P := P) isMax k r a vr (by simpa using hl) (fun i x v h1 h2 => hR (i + 1) x v (by simpa using h1) (by simpa using h2)) h
  refine ⟨u, ?_,g2⟩
  cases isMax
  ·exact g1
  ·exact g1
theorem qp5 {G : GP} (hG : jd P G) (hi : qa w H ι Im) {nx : Nat} {X : Nat → Prop} (hnx : Bd X H nx) (b : Builtin) (tys : Array TypeId) (tt : TypeId) (consts : Array Bool)
  {l : List AV} {vs : List Value} (hl : l.length = vs.length) (hR : ∀ (i : Nat) x v,l[i]? = some x → vs[i]? = some v → RA w H ι Im x v) {e : Eff} (hr : p9 G b tys.toList l H nx = some e) (hX : ∀ γ,X γ → e.2.2 ≤ γ) :
  qp X ((builtin b tys tt consts ⟨vs⟩).run P w) w H ι Im nx e := by
 unfold p9 at hr
 unfold builtin
 split at hr
 ·rename_i t r x hty
  split at hr
  rotate_left
  ·cases hr
  rename_i ti hti
  split at hr
  rotate_left
  ·cases hr
  rename_i htd
  split at hr <;> cases hr
  rename_i n hn
  match vs,hl with
  | [v],_ =>
   have h1 := qgn (hG _ _ hti) hi (hR 0 x v (by simp) (by simp)) tt htd hn
   refine qp.val (s := Builtin.len_ tys tt #[v]) (u := .int .i64 n) (w' := w) ?_ (Did.pure hi hnx (.pv _ _ (.int _ _)))
   have h0 : tys[0]? = some t := by rw [← Array.getElem?_toList,hty]; rfl
   unfold Builtin.len_ at h1 ⊢
   simp only [List.getElem?_toArray,List.getElem?_cons_zero,h0] at h1 ⊢
   exact h1
 ·rename_i x
  match vs,hl with
  | [v],_ =>
   obtain ⟨u,w',h1,h2⟩ := zkl (P := P) (hR 0 x v (by simp) (by simp)) hi hnx hr tys tt
   exact qp.val (s := Builtin.unsafeSliceData_ tys tt #[v]) h1 h2
 ·rename_i tp r p x hty
  split at hr
  rotate_left
  ·cases hr
  rename_i ti hti
  split at hr
  rotate_left
  ·cases hr
  rename_i el hel
  split at hr
  rotate_left
  ·cases hr
  rename_i tel htel
  split at hr
  rotate_left
  ·cases hr
  rename_i h1z
  match vs,hl with
  | [vp,vx],_ =>
   have h0 : tys[0]? = some tp := by rw [← Array.getElem?_toList,hty]; rfl
   obtain ⟨u,w',h1,h2⟩ := zc1 h0 (hG _ _ hti) hel ((hG _ _ htel).cellsOf.trans h1z) (hR 0 p vp (by simp) (by simp)) (hR 1 x vx (by simp) (by simp)) hi hnx hr tt
   exact qp.val (s := Builtin.unsafeString_ tys tt #[vp,vx]) h1 h2
 ·split at hr <;> cases hr
  rename_i p hp
  obtain ⟨u,h1,h2⟩ := qad (P := P) hl hR hp tys tt
  exact qp.val (s := Builtin.max_ tys tt ⟨vs⟩) h1 (Did.pure hi hnx (.pv _ _ h2))
 ·split at hr <;> cases hr
  rename_i p hp
  obtain ⟨u,h1,h2⟩ := qad (P := P) hl hR hp tys tt
  exact qp.val (s := Builtin.min_ tys tt ⟨vs⟩) h1 (Did.pure hi hnx (.pv _ _ h2))
 ·rename_i ts tx r s x hty
  match vs,hl with
  | [vs,vx],_ =>
   have key : ∀ {e te tix ti},G.ti ts = some ti → ti.td = .slice e → G.ti e = some te → G.ti tx = some tix → ((∃ e',tix.td = .slice e') ∨ tix.td = .string) → ∀ {ef},orT (jk te s x H nx) (orT (wu e te s x H nx) (u7 te s x H nx)) = some ef → (∀ γ,X γ → ef.2.2 ≤ γ) →
     qp X ((do pure (.value (← Builtin.append_ tys tt #[vs,vx])) : Sem Next).run P w) w H ι Im nx ef := by
    intro e te tix ti h1 h2 h3 h4 h5 ef h6 hX
    obtain ⟨u,w',g1,g2⟩ : ∃ u w',(Builtin.append_ #[ts,tx] tt #[vs,vx]).run P w = .ok u w' ∧ Did X w H ι Im nx ef u w' := by
     cases ha : jk te s x H nx with
     | some r =>
      rw [ha] at h6
      cases h6
      exact zt2 (hG _ _ h1) h2 (hG _ _ h3) (hG _ _ h4) h5 tt hi hnx (hR 0 s vs (by simp) (by simp)) (hR 1 x vx (by simp) (by simp)) ha hX
     | none =>
      rw [ha] at h6
      cases hb : wu e te s x H nx with
      | some r =>
       rw [hb] at h6
       cases h6
       exact qeo (hG _ _ h1) h2 (hG _ _ h3) (hG _ _ h4) h5 tt hi hnx (hR 0 s vs (by simp) (by simp)) (hR 1 x vx (by simp) (by simp)) hb
      | none =>
       rw [hb] at h6
       exact zpn (hG _ _ h1) h2 (hG _ _ h3) (hG _ _ h4) h5 tt hi hnx (hR 0 s vs (by simp) (by simp)) (hR 1 x vx (by simp) (by simp)) h6
    refine qp.val (u := u) (w' := w') ?_ g2
    have q0 : tys[0]? = some ts := by rw [← Array.getElem?_toList,hty]; rfl
    have q1 : tys[1]? = some tx := by rw [← Array.getElem?_toList,hty]; rfl
    unfold Builtin.append_ at g1 ⊢
    simp only [List.getElem?_toArray,List.getElem?_cons_zero,List.getElem?_cons_succ,q0,q1] at g1 ⊢
    exact g1
   split at hr
   rotate_left
   ·cases hr
   rename_i ti tix h1 h2
   split at hr
   ·rename_i e e' h3 h4
    split at hr
    rotate_left
    ·cases hr
    rename_i te h5
    exact key h1 h3 h5 h2 (.inl ⟨_,h4⟩) hr hX
   ·rename_i e h3 h4
    split at hr
    rotate_left
    ·cases hr
    rename_i te h5
    exact key h1 h3 h5 h2 (.inr h4) hr hX
   ·cases hr
 ·rename_i ts r s x hty
  match vs,hl with
  | [vs,vx],_ =>
   split at hr
   rotate_left
   ·cases hr
   rename_i ti h1
   split at hr
   rotate_left
   ·cases hr
   rename_i e0 h2
   split at hr
   rotate_left
   ·cases hr
   rename_i te h3
   have q0 : tys[0]? = some ts := by rw [← Array.getElem?_toList,hty]; rfl
   obtain ⟨u,w',g1,g2⟩ := z5i (hG _ _ h1) h2 (hG _ _ h3) q0 tt hi hnx (hR 0 s vs (by simp) (by simp)) (hR 1 x vx (by simp) (by simp)) hr
   exact qp.val (s := Builtin.copy_ tys tt #[vs,vx]) g1 g2
 ·rename_i tm r m k hty
  match vs,hl with
  | [vm,vk],_ =>
   split at hr
   rotate_left
   ·cases hr
   rename_i ti h1
   split at hr
   rotate_left
   ·cases hr
   rename_i k0 e0 h2
   split at hr
   rotate_left
   ·cases hr
   rename_i tk h3
   split at hr <;> cases hr
   rename_i ws hws
   have q0 : tys[0]? = some tm := by rw [← Array.getElem?_toList,hty]; rfl
   obtain ⟨w',g1,g2⟩ := za8 (hG _ _ h1) h2 (hG _ _ h3) hi hnx tys q0 tt (hR 0 m vm (by simp) (by simp)) (hR 1 k vk (by simp) (by simp)) hws
   exact qp.val (s := Builtin.delete_ tys tt #[vm,vk]) g1 g2
 ·cases hr
theorem zc8 {G : GP} (hG : jd P G) (hi : qa w H ι Im) {nx : Nat} {X : Nat → Prop} (hnx : Bd X H nx)
  {a : Act} {E : Env} (hE : ∀ t,RA w H ι Im (E.get t) (a.tmps.getD t undef)) (O : qw) (o : Oper) (hcall : q3l o.op = false) {e : Eff} (hr : aop G O o.op E H nx = some e) (hX : ∀ γ,X γ → e.2.2 ≤ γ) :
  qp X ((execOp a.eval o).run P w) w H ι Im nx e := by
 have hev := fun x => mh hE x
 unfold execOp
 generalize o.type = otype
 generalize o.op = op at hr hcall
 unfold aop at hr
 split at hr
 case h_1 x => cases hr; exact qp.now (Did.pure hi hnx (hev x))
 case h_2 x => cases hr; exact qp.now (Did.pure hi hnx (hev x))
 case h_3 c x y =>
  split at hr <;> cases hr
  rename_i t hc
  have h := hev c
  rw [hc] at h
  have h := h.zo
  generalize hv : a.eval c = vc at h
  cases h
  refine ⟨if t then a.eval x else a.eval y,w,.inl (by simp [hv,asBool]),Did.pure hi hnx ?_⟩
  cases t
  ·exact hev y
  ·exact hev x
 case h_4 t =>
  split at hr
  rotate_left
  ·cases hr
  rename_i ti hti
  split at hr
  ·obtain ⟨u,w',h1,h2⟩ := qqh (hG _ _ hti) hi hnx hr hX
   exact qp.val h1 h2
  ·cases hr
   obtain ⟨u,w',h1,h2⟩ := qgh (hG _ _ hti) hi hnx (bf hX)
   exact qp.val h1 h2
 case h_5 t x => simp [q3l] at hcall
 case h_6 t parts =>
  split at hr
  rotate_left
  ·cases hr
  rename_i ti hti
  unfold xz at hr
  split at hr <;> cases hr
  rename_i v hv
  obtain ⟨u,h1,h2⟩ := zln hG (hG _ _ hti) hE parts hv
  exact qp.val h1 (Did.pure hi hnx h2)
 case h_7 t len parts =>
  split at hr
  rotate_left
  ·cases hr
  rename_i ti hti
  split at hr
  rotate_left
  ·cases hr
  rename_i el htd
  split at hr
  rotate_left
  ·cases hr
  rename_i te hte
  split at hr
  rotate_left
  ·cases hr
  rename_i hc
  split at hr
  ·split at hr <;> cases hr
   rename_i es hes
   obtain ⟨u,w',h1,h2⟩ := qol hG (hG _ _ hti) htd hte hi hnx (bf hX) hE len parts hc.1 hc.2 hes
   exact qp.val h1 h2
  ·split at hr <;> cases hr
   rename_i es hes
   obtain ⟨u,w',h1,h2⟩ := qun hG (hG _ _ hti) htd hte hi hnx (bf hX) hE len parts hc.1 hc.2 hes
   exact qp.val h1 h2
 case h_8 t x =>
  split at hr
  rotate_left
  ·cases hr
  rename_i ti hti
  unfold xz at hr
  split at hr <;> cases hr
  rename_i v hv
  obtain ⟨u,h1,h2⟩ := qb5 (hG _ _ hti) hi (hev x) hv
  exact qp.val h1 (Did.pure hi hnx h2)
 case h_9 t x y =>
  split at hr
  rotate_left
  ·cases hr
  rename_i ti hti
  unfold wo at hr
  split at hr <;> cases hr
  rename_i ws hws
  obtain ⟨w',ι',h1,h2,h3,β,b,b',rfl,hb⟩ := ze9 (hG _ _ hti) hi (hev x) (hev y) hws
  exact qp.skip h1 (Did.puts hnx hb h2 h3)
 case h_10 x =>
  split at hr <;> cases hr
  all_goals
   rename_i hx
   have h := hev x
   rw [hx] at h
   generalize hv : a.eval x = vx at h
   refine ⟨vx,w,.inl ?_,Did.pure hi hnx h⟩
  ·cases h; simp [hv]
  ·cases h; simp [hv]
  ·have h := h.zo; cases h; simp [hv]
  ·cases h; simp [hv]
  ·have h := h.zo; cases h; simp [hv]
  ·cases h; simp [hv]
 case h_11 op t x y yt =>
  split at hr
  rotate_left
  ·cases hr
  rename_i ti hti
  unfold q14 at hr
  split at hr <;> cases hr
  rename_i p hp
  obtain ⟨u,h1,h2,h3⟩ := zgp hG (hG _ _ hti) hi (hev x) (hev y) op x y hp
  exact qp.val (s := do eqGuard op t x y (a.eval x) (a.eval y); binOp op t (a.eval x) (a.eval y)) (by simp [h1,h2]) (Did.pure hi hnx (.pv _ _ h3))
 case h_12 op t x =>
  unfold q14 at hr
  split at hr <;> cases hr
  rename_i p hp
  obtain ⟨u,h1,h2⟩ := zc6 (P := P) (hev x) hp
  exact qp.val h1 (Did.pure hi hnx (.pv _ _ h2))
 case h_13 s d x =>
  split at hr
  ·rename_i hsd
   subst hsd
   obtain ⟨u,w',h1,h2⟩ := z9l hG hi hnx (hev x) hr
   exact qp.val h1 h2
  split at hr
  rotate_left
  ·cases hr
  rename_i ts td hts htd
  obtain ⟨u,w',h1,h2⟩ := ztj hG (hG _ _ hts) (hG _ _ htd) hi hnx (hev x) hr hX
  exact qp.val h1 h2
 case h_14 f x y =>
  cases hr
  refine qp.val (s := Instr.makeFunc (.func f) (x.map a.eval) (y.map a.eval)) (w' := w) rfl (Did.pure hi hnx ?_)
  have listR : ∀ (l : List Operand) (i : Nat) z v,(l.map (ev E))[i]? = some z → (l.map a.eval)[i]? = some v → RA w H ι Im z v := by
   intro l i z v h1 h2
   simp only [List.getElem?_map,Option.map_eq_some_iff] at h1 h2
   obtain ⟨o1,q1,rfl⟩ := h1
   obtain ⟨o2,q2,rfl⟩ := h2
   rw [q1] at q2
   cases q2
   exact hev o1
  have hx : x.map a.eval = ⟨x.toList.map a.eval⟩ := by apply Array.ext'; simp
  have hy : y.map a.eval = ⟨y.toList.map a.eval⟩ := by apply Array.ext'; simp
  rw [hx,hy]
  split
  ·rename_i h1 h2
   rw [h1,h2]
   exact .pv _ _ (.fn f)
  ·exact .clo f _ _ _ _ (by simp) (by simp) (listR _) (listR _)
 case h_15 t =>
  split at hr <;> cases hr
  ·obtain ⟨u,w',h1,h2⟩ := qu3 (P := P) t hi hnx (bf hX)
   exact qp.val h1 h2
  obtain ⟨u,w',h1,h2⟩ := qzp (P := P) t hi hnx (bf hX)
  exact qp.val h1 h2
 case h_16 t x lo hi' mx =>
  split at hr
  rotate_left
  ·cases hr
  rename_i ti hti
  unfold xz at hr
  split at hr <;> cases hr
  rename_i v hv
  obtain ⟨u,h1,h2⟩ := zi1 hG (hG _ _ hti) hi hE (hev x) lo hi' mx hv
  exact qp.val h1 (Did.pure hi hnx h2)
 case h_17 t x f =>
  split at hr
  rotate_left
  ·cases hr
  rename_i ti hti
  unfold xz at hr
  split at hr <;> cases hr
  rename_i v hv
  obtain ⟨u,h1,h2⟩ := zpl (hG _ _ hti) (hev x) hv
  exact qp.val h1 (Did.pure hi hnx h2)
 case h_18 t x f =>
  split at hr
  rotate_left
  ·cases hr
  rename_i ti hti
  split at hr
  rotate_left
  ·cases hr
  rename_i fs htd
  split at hr
  rotate_left
  ·cases hr
  rename_i off sz tf hf
  split at hr
  rotate_left
  ·cases hr
  rename_i tif htif
  unfold xz at hr
  split at hr <;> cases hr
  rename_i v hv
  obtain ⟨fields,hu,rfl⟩ := (hG _ _ hti).struct htd
  simp only [List.getElem?_map,Option.map_eq_some_iff] at hf
  obtain ⟨fd,hf,hfe⟩ := hf
  simp only [Prod.mk.injEq] at hfe
  obtain ⟨rfl,rfl,rfl⟩ := hfe
  have hfa : fields[f]? = some fd := by rw [← hf]; simp
  obtain ⟨cs,u,h0,h1,h2⟩ := qbl (hG _ _ htif) (hev x) hv
  refine qp.val (s := Instr.field t (a.eval x) f) (u := u) (w' := w) ?_ (Did.pure hi hnx h2)
  unfold Instr.field
  simp only [Sem.run_bind,qi hu,Result.andThen_ok,hfa,h0,asAgg,Sem.run_pure,h1]
 case h_19 t x i =>
  split at hr
  rotate_left
  ·cases hr
  rename_i ti hti
  unfold xz at hr
  split at hr <;> cases hr
  rename_i v hv
  obtain ⟨u,h1,h2⟩ := ql4 hG (hG _ _ hti) hi (hev x) (hev i) hv
  exact qp.val h1 (Did.pure hi hnx h2)
 case h_20 t x i =>
  split at hr
  rotate_left
  ·cases hr
  rename_i ti hti
  split at hr
  ·rename_i s k htd hx hk
   split at hr <;> cases hr
   rename_i b hb
   obtain ⟨kd,hk'⟩ := q2s (hev i) hk
   have h := hev x
   rw [hx] at h
   have h := h.zo
   generalize hv : a.eval x = vx at h
   cases h
   refine qp.val (s := Instr.index t (a.eval x) (a.eval i)) (u := .int .u8 b.toNat) (w' := w) ?_ (Did.pure hi hnx (.pv _ _ (.int _ _)))
   have hbb : (ByteArray.mk ⟨s⟩)[k]? = some b := by
    obtain ⟨hlt,he⟩ := List.getElem?_eq_some_iff.1 hb
    have : k < (ByteArray.mk ⟨s⟩).size := hlt
    rw [getElem?_pos (ByteArray.mk ⟨s⟩) k this]
    exact congrArg some he
   unfold Instr.index
   simp [hv,hk',asIntOf,qi ((hG _ _ hti).string htd),hbb]
  ·rename_i len el k htd hk
   split at hr
   rotate_left
   ·cases hr
   rename_i hkl
   split at hr
   rotate_left
   ·cases hr
   rename_i te hte
   unfold xz at hr
   split at hr <;> cases hr
   rename_i r hrr
   obtain ⟨kd,hk'⟩ := q2s (hev i) hk
   obtain ⟨cs,u,h0,h1,h2⟩ := qbl (hG _ _ hte) (hev x) hrr
   refine qp.val (s := Instr.index t (a.eval x) (a.eval i)) (u := u) (w' := w) ?_ (Did.pure hi hnx h2)
   unfold Instr.index
   simp [hk',asIntOf,qi ((hG _ _ hti).array htd),hkl,(hG _ _ hte).size,h0,h1]
  ·cases hr
 case h_21 t m k ok =>
  split at hr
  rotate_left
  ·cases hr
  rename_i tk te hmt
  unfold xz at hr
  split at hr <;> cases hr
  rename_i v hv
  obtain ⟨ti,k0,e0,q1,q2,q3,q4⟩ := q49 hmt
  split at hv
  ·obtain ⟨u,h1,h2⟩ := qvy (hG _ _ q1) q2 (hG _ _ q3) (hG _ _ q4) hi (hev m) (hev k) hv
   exact qp.val h1 (Did.pure hi hnx h2)
  obtain ⟨u,h1,h2⟩ := qyd (hG _ _ q1) q2 (hG _ _ q3) (hG _ _ q4) hi (hev m) (hev k) hv
  exact qp.val h1 (Did.pure hi hnx h2)
 case h_22 t m k x =>
  split at hr
  ·unfold q4b at hr
   split at hr
   rotate_left
   ·cases hr
   rename_i tk te hmt
   split at hr
   rotate_left
   ·cases hr
   unfold wo at hr
   split at hr <;> cases hr
   rename_i ws hws
   obtain ⟨ti,k0,e0,q1,q2,q3,q4⟩ := q49 hmt
   obtain ⟨w',h1,h2⟩ := qx0 (hG _ _ q1) q2 (hG _ _ q3) hi hnx (hev m) (hev k) (hev x) hws
   exact qp.skip h1 h2
  split at hr
  rotate_left
  ·cases hr
  rename_i tk te p hmt hp
  split at hr
  rotate_left
  ·cases hr
  unfold wo at hr
  split at hr <;> cases hr
  rename_i ws hws
  obtain ⟨ti,k0,e0,q1,q2,q3,q4⟩ := q49 hmt
  obtain ⟨w',h1,h2⟩ := q8p (hG _ _ q1) q2 (hG _ _ q3) hi hnx (hev m) (hev k) (q5e (hev x) hp) hws
  exact qp.skip h1 h2
 case h_23 t m k x =>
  split at hr
  rotate_left
  ·cases hr
  rename_i tk te p hmt hp
  split at hr
  rotate_left
  ·cases hr
  unfold wo at hr
  split at hr <;> cases hr
  rename_i ws hws
  obtain ⟨ti,k0,e0,q1,q2,q3,q4⟩ := q49 hmt
  obtain ⟨w',h1,h2⟩ := q8p (hG _ _ q1) q2 (hG _ _ q3) hi hnx (hev m) (hev k) (q5e (hev x) hp) hws
  exact qp.skip h1 h2
 case h_24 t m k =>
  split at hr
  rotate_left
  ·cases hr
  rename_i tk te hmt
  split at hr <;> cases hr
  rename_i v ws hws
  obtain ⟨ti,k0,e0,q1,q2,q3,q4⟩ := q49 hmt
  obtain ⟨u,w',h1,h2⟩ := z9z (hG _ _ q1) q2 (hG _ _ q3) (hG _ _ q4) hi hnx (hev m) (hev k) hws
  exact qp.val h1 h2
 case h_25 t m st x =>
  split at hr
  rotate_left
  ·cases hr
  rename_i p hp
  unfold wo at hr
  split at hr <;> cases hr
  rename_i ws hws
  obtain ⟨w',h1,h2⟩ := zas (P := P) t hi hnx (hev m) (hev st) (q5e (hev x) hp) hws
  exact qp.skip h1 h2
 case h_26 x i =>
  split at hr
  rotate_left
  ·cases hr
  rename_i l hl
  split at hr <;> cases hr
  rename_i v hv
  have h := hev x
  rw [hl] at h
  generalize hvx : a.eval x = vx at h
  cases h with
  | tup _ vs hlen hR =>
   obtain ⟨u,hu⟩ : ∃ u,vs[i]? = some u := ⟨vs[i]'(by rw [← hlen]; exact (List.getElem?_eq_some_iff.1 hv).1),by simp⟩
   refine ⟨u,w,.inl ?_,Did.pure hi hnx (hR i v u hv hu)⟩
   have : (⟨vs⟩ : Array Value)[i]? = some u := by simpa using hu
   simp [hvx,Instr.extract,this]
 case h_27 b args tys =>
  have hrun : (do let d ← resolve a.eval { callee := .builtin b,args := args,argTypes := tys } otype; invoke d.target d.args : Sem Next).run P w =
    (builtin b tys otype (args.map fun | .const _ => true | _ => false) ⟨args.toList.map a.eval⟩).run P w := by
   have : args.map a.eval = ⟨args.toList.map a.eval⟩ := by apply Array.ext'; simp
   simp only [resolve,Sem.run_bind,Sem.run_pure,Result.andThen_ok,invoke,this]
   rfl
  show qp X ((do let d ← resolve a.eval { callee := .builtin b,args := args,argTypes := tys } otype; invoke d.target d.args : Sem Next).run P w) w H ι Im nx e
  rw [hrun]
  exact qp5 hG hi hnx b tys otype _ (by simp) (q9h hE args.toList) hr hX
 case h_28 => simp [q3l] at hcall
 case h_29 t x y =>
  split at hr
  rotate_left
  ·cases hr
  rename_i ti hti
  have hX' : ∀ γ,X γ → nx + 1 ≤ γ := by
   unfold q2u at hr
   split at hr
   rotate_left
   ·cases hr
   split at hr
   rotate_left
   ·cases hr
   split at hr <;> cases hr
   exact hX
  obtain ⟨u,w',h1,h2⟩ := zrq hG (hG _ _ hti) hi hnx hX' (hev x) (hev y) hr
  exact qp.val h1 h2
 case h_30 => cases hr
end
end Go.Gm
set_option linter.unusedSectionVars false
namespace Go.Gm
open Go
section
variable [Globs] {P : Program} {w : World} {H : Heap} {ι : Plc} {Im : Nat → Prop}
theorem q36 (β : Nat) (isnil : Bool) (sz : Nat) (es : List (List PV)) : ∀ (l : List AV) (i : Nat),(AV.thaw.thawL β isnil sz es l)[i]? = (l[i]?).map (AV.thaw β isnil sz es)
 | [],i => by simp [AV.thaw.thawL]
 | x :: r,i => by
  cases i with
  | zero => simp [AV.thaw.thawL]
  | succ i => simp [AV.thaw.thawL,q36 β isnil sz es r i]
theorem q43 (β : Nat) (isnil : Bool) (sz : Nat) (es : List (List PV)) : ∀ (l : List AV),(AV.thaw.thawL β isnil sz es l).length = l.length
 | [] => rfl
 | x :: r => by simp [AV.thaw.thawL,q43 β isnil sz es r]
theorem qg9 (β : Nat) (isnil : Bool) (sz : Nat) (es : List (List PV)) {x : AV} (h : x.flat = true) : (x.thaw β isnil sz es).flat = true := by
 cases x <;> simp [AV.flat] at h <;> simp only [AV.thaw]
 ·exact h
 ·rfl
 ·rfl
 ·rfl
 ·split <;> rfl
 ·rfl
 ·rfl
 ·rfl
 ·rfl
theorem q4r (β : Nat) (isnil : Bool) (sz : Nat) (es : List (List PV)) {l : List AV} (h : ∀ x ∈ l,x.flat = true) : ∀ x ∈ AV.thaw.thawL β isnil sz es l,x.flat = true := by
 intro x hx
 obtain ⟨i,hi⟩ := List.getElem?_of_mem hx
 rw [q36] at hi
 simp only [Option.map_eq_some_iff] at hi
 obtain ⟨y,hy,rfl⟩ := hi
 exact qg9 β isnil sz es (h y (List.mem_of_getElem? hy))
theorem qar (β : Nat) (isnil : Bool) (sz : Nat) (es : List (List PV)) : ∀ (H : Heap) (γ : Nat),
  Heap.get (H.map fun (i,b) => (i,b.thaw β isnil sz es)) γ = (H.get γ).map (Blk.thaw β isnil sz es)
 | [],γ => rfl
 | (i,b) :: r,γ => by
  simp only [List.map_cons,Heap.get]
  split
  ·rfl
  ·exact qar β isnil sz es r γ
theorem Blk.zk2 (β : Nat) (isnil : Bool) (sz : Nat) (es : List (List PV)) (b : Blk) : (b.thaw β isnil sz es).used = b.used := by
 cases b <;> rfl
def uh (β : Nat) (isnil : Bool) (sz : Nat) (es : List (List PV)) (H : Heap) : Heap := Heap.put (H.map fun (i,b) => (i,b.thaw β isnil sz es)) β .dead
theorem jm (β : Nat) (isnil : Bool) (sz : Nat) (es : List (List PV)) (H : Heap) (γ : Nat) :
  (uh β isnil sz es H).get γ = if γ = β then some .dead else (H.get γ).map (Blk.thaw β isnil sz es) := by
 unfold uh
 rw [Heap.get_put,qar]
def yn (ι : Plc) (β : Nat) (isnil : Bool) (Im : Nat → Prop) : Nat → Prop := fun b => Im b ∨ (isnil = false ∧ b = (ι β).b)
theorem zgj (hi : qa w H ι Im) {β : Nat} {isnil : Bool} {sz : Nat} {es : List (List PV)} (hb : H.get β = some (.row isnil sz es)) {off n : Nat} {v : Value}
  (h1 : off + n ≤ es.length) (h2 : if isnil = true then v = .slice none 0 0 else ∃ a,v = .slice (some a) n ((ι β).cap - off) ∧ a.spot = none ∧ a.block = (ι β).b ∧ (off < (ι β).cap → a.off = off * sz)) :
  RP w (yn ι β isnil Im) (q38 isnil sz ((es.drop off).take n)) v := by
 refine RP.mk ?_
 cases isnil
 ·simp only [Bool.false_eq_true,if_false] at h2
  obtain ⟨a,rfl,ha1,ha2,ha3⟩ := h2
  obtain ⟨ab,ao,asp⟩ := a
  simp only at ha1 ha2 ha3
  subst ha1 ha2
  obtain ⟨vs,elem,fz,g1,g2,g3,g4,g5,g6,g7,g8⟩ := hi.row hb
  have hlen : ((es.drop off).take n).length = n := by simp; omega
  have hget : ∀ (i : Nat) e,((es.drop off).take n)[i]? = some e → i < n ∧ es[off + i]? = some e := by
   intro i e hie
   have := (List.getElem?_eq_some_iff.1 hie).1
   have hin : i < n := by omega
   rw [List.getElem?_take_of_lt hin,List.getElem?_drop] at hie
   exact ⟨hin,hie⟩
  have hm : ∀ b,Im b → yn ι β false Im b := fun b h => .inl h
  have key := RP.sl (w := w) (Im := yn ι β false Im) sz ((es.drop off).take n) (ι β).b ao ((ι β).cap - off) (fun i => (vs[off * sz + i]?).getD undef)
   (fun _ => .inr ⟨rfl,rfl⟩) (by omega) (fun e he => g6 e (List.mem_of_mem_drop (List.mem_of_mem_take he))) (fun i hlt => by
    rw [hlen] at hlt
    have hn : 0 < n := by
     rcases Nat.eq_zero_or_pos n with h | h
     ·subst h; simp at hlt
     ·exact h
    have := ha3 (by omega)
    subst this
    rw [jw g1]
    have e1 : (off + n) * sz ≤ (ι β).cap * sz := Nat.mul_le_mul_right _ (by omega)
    rw [Nat.add_mul] at e1
    have : off * sz + i < vs.size := by omega
    simp [this])
   (fun i e j p q1 q2 => g7 _ e j p (hget i e q1).2 q2) (fun i e j p q1 q2 => by
    obtain ⟨_,hie⟩ := hget i e q1
    obtain ⟨v,k1,k2⟩ := g8 _ e j p hie q2
    have e1 : off * sz + (i * sz + j) = (off + i) * sz + j := by rw [Nat.add_mul]; omega
    simp only [e1,k1,Option.getD_some]
    exact k2.mono hm fun _ _ => rfl) none (fun _ => rfl)
  rw [hlen] at key
  exact key
 ·simp only [if_true] at h2
  subst h2
  have hes : es = [] := hi.blk β _ hb
  subst hes
  have : (([] : List (List PV)).drop off).take n = [] := by simp
  rw [this]
  exact .nilsl sz
theorem q0u (β : Nat) (isnil : Bool) (sz : Nat) (es : List (List PV)) (b : Blk) : (b.thaw β isnil sz es).sh = b.sh := by
 cases b <;> simp [Blk.thaw,Blk.sh]
theorem zsb {β : Nat} {isnil : Bool} {sz : Nat} {es : List (List PV)} (hb : H.get β = some (.row isnil sz es)) {β' ver off n : Nat} {v : Value} (hx : RA w H ι Im (.row β' ver off n) v) :
  RA w (uh β isnil sz es H) ι (yn ι β isnil Im) (.row β' ver off n) v := by
 cases hx with
 | row _ _ _ _ _ b ho hb' hk hv h =>
 by_cases he : β' = β
 ·subst he
  exact .row β' ver off n v .dead ho (by simp [jm]) (fun h => absurd rfl h) (fun _ _ _ e => by cases e) (fun _ _ _ e => by cases e)
 ·refine .row β' ver off n v (b.thaw β isnil sz es) ho (by simp [jm,he,hb']) (fun h => ?_) (fun isnil' sz' es' e => ?_) (fun isnil' sz' es' e => ?_)
  ·rw [q0u]
   exact hk (fun e => h (by rw [e]; rfl))
  ·rw [q0u] at e
   exact hv _ _ _ e
  ·rw [q0u] at e
   exact h _ _ _ e
theorem q2m (hi : qa w H ι Im) {β : Nat} {isnil : Bool} {sz : Nat} {es : List (List PV)} (hb : H.get β = some (.row isnil sz es)) {x : AV} {v : Value} (hx : RA w H ι Im x v) :
  RA w (uh β isnil sz es H) ι (yn ι β isnil Im) (x.thaw β isnil sz es) v := by
 have hm : ∀ b,Im b → yn ι β isnil Im b := fun b h => .inl h
 have hw : ∀ b,Im b → w.heap[b]? = w.heap[b]? := fun _ _ => rfl
 have rowStay : ∀ (β' ver off n : Nat) (v : Value) (b : Blk),zm v = true → H.get β' = some b → (b ≠ .dead → ∃ isnil sz l,b.sh = some (isnil,sz,l)) → (∀ isnil sz l,b.sh = some (isnil,sz,l) → ver ≤ l) →
   (∀ isnil sz l,b.sh = some (isnil,sz,l) → ver = l → off + n ≤ l ∧
    if isnil = true then v = .slice none 0 0
    else ∃ a,v = .slice (some a) n ((ι β').cap - off) ∧ a.spot = none ∧ a.block = (ι β').b ∧ (off < (ι β').cap → a.off = off * sz)) →
   RA w (uh β isnil sz es H) ι (yn ι β isnil Im) (.row β' ver off n) v := by
  intro β' ver off n v b ho hb' hk hv h
  by_cases he : β' = β
  ·subst he
   exact .row β' ver off n v .dead ho (by simp [jm]) (fun h => absurd rfl h) (fun _ _ _ e => by cases e) (fun _ _ _ e => by cases e)
  ·refine .row β' ver off n v (b.thaw β isnil sz es) ho (by simp [jm,he,hb']) (fun h => ?_) (fun isnil' sz' es' e => ?_) (fun isnil' sz' es' e => ?_)
   ·rw [q0u]
    exact hk (fun e => h (by rw [e]; rfl))
   ·rw [q0u] at e
    exact hv _ _ _ e
   ·rw [q0u] at e
    exact h _ _ _ e
 have tL : ∀ (c : List AV) (vs : List Value),c.length = vs.length → (∀ (i : Nat) x v,c[i]? = some x → vs[i]? = some v → RA w (uh β isnil sz es H) ι (yn ι β isnil Im) (x.thaw β isnil sz es) v) →
   (AV.thaw.thawL β isnil sz es c).length = vs.length ∧ ∀ (i : Nat) x v,(AV.thaw.thawL β isnil sz es c)[i]? = some x → vs[i]? = some v → RA w (uh β isnil sz es H) ι (yn ι β isnil Im) x v := by
  intro c vs hl h
  refine ⟨by rw [q43,hl],fun i x v h1 h2 => ?_⟩
  rw [q36] at h1
  simp only [Option.map_eq_some_iff] at h1
  obtain ⟨y,hy,rfl⟩ := h1
  exact h i y v hy h2
 induction hx with
 | undef v => exact .undef v
 | pv p v h => exact .pv p v (h.mono hm hw)
 | ptr β' o b' hb' hk =>
  have hne : β' ≠ β := by intro e; subst e; rw [hb] at hb'; cases hb'; cases hk
  exact .ptr β' o (b'.thaw β isnil sz es) (by simp [jm,hne,hb']) (by cases b' <;> first | rfl | cases hk)
 | eptr β' ver i o b1 o1 b hb' hver h =>
  by_cases he : β' = β
  ·subst he
   exact .eptr β' ver i o b1 o1 .dead (by simp [jm]) (fun _ _ _ e => by cases e) (fun _ _ _ e => by cases e)
  ·refine .eptr β' ver i o b1 o1 (b.thaw β isnil sz es) (by simp [jm,he,hb']) (fun isnil' sz' es' e => ?_) (fun isnil' sz' es' e => ?_)
   ·rw [q0u] at e
    exact hver _ _ _ e
   ·rw [q0u] at e
    exact h _ _ _ e
 | row β' ver off n v b ho hb' hk hver h =>
  simp only [AV.thaw]
  split
  ·rename_i hc
   obtain ⟨rfl,hv⟩ := hc
   rw [hb] at hb'
   cases hb'
   obtain ⟨h1,h2⟩ := h _ _ _ rfl hv
   exact .pv _ _ (zgj hi hb h1 h2)
  ·exact rowStay β' ver off n v b ho hb' hk hver h
 | rptr c o b off vs him hc hf h => exact .rptr c o b off vs (hm b him) hc hf fun i p hp => (h i p hp).mono hm hw
 | zsl a => exact .zsl a
 | map β' es' clock hb' =>
  have hne : β' ≠ β := by intro e; subst e; rw [hb] at hb'; cases hb'
  exact .map β' es' clock (by simp [jm,hne,hb',Blk.thaw])
 | qj β' es' clock hb' =>
  have hne : β' ≠ β := by intro e; subst e; rw [hb] at hb'; cases hb'
  exact .qj β' _ clock (by simp only [jm,hne,if_false,hb',Option.map_some,Blk.thaw]; rfl)
 | clo f a b va vb hla hlb _ _ iha ihb =>
  obtain ⟨q1,q2⟩ := tL a va hla iha
  obtain ⟨q3,q4⟩ := tL b vb hlb ihb
  exact .clo f _ _ va vb q1 q3 q2 q4
 | agg c vs hl hf _ ih =>
  obtain ⟨q1,q2⟩ := tL c vs hl ih
  exact q46 q1 (q4r β isnil sz es hf) q2
 | tup c vs hl _ ih =>
  obtain ⟨q1,q2⟩ := tL c vs hl ih
  exact .tup _ vs q1 q2
theorem Blk.zrk (β : Nat) (isnil : Bool) (sz : Nat) (es : List (List PV)) (b : Blk) : (b.thaw β isnil sz es).isO = b.isO := by
 cases b <;> rfl
theorem Blk.q5u {β : Nat} {isnil : Bool} {sz : Nat} {es : List (List PV)} {b : Blk} {q : Pl} {x : Nat} (h : (b.thaw β isnil sz es).foot q x) : b.foot q x := by
 unfold Blk.foot at *
 rw [Blk.zk2,Blk.zrk] at h
 exact h
theorem q9r (hi : qa w H ι Im) {β : Nat} {isnil : Bool} {sz : Nat} {es : List (List PV)} (hb : H.get β = some (.row isnil sz es)) :
  qa w (uh β isnil sz es H) ι (yn ι β isnil Im) ∧ Evo w H ι Im w (uh β isnil sz es H) ι (yn ι β isnil Im) := by
 have hm : ∀ b,Im b → yn ι β isnil Im b := fun b h => .inl h
 have hw : ∀ b,Im b → w.heap[b]? = w.heap[b]? := fun _ _ => rfl
 have hused : isnil = false → (Blk.row isnil sz es).used = true := fun h => by simp [Blk.used,h]
 refine ⟨⟨fun γ b hγ => ?_,fun γ γ' b b' z h1 h2 u1 u2 => ?_,fun b h => ?_,fun γ b z hγ hu h => ?_,hi.glb,fun b hb => .inl (hi.gim b hb)⟩,⟨fun γ b hγ => ?_,hm,fun b h => ?_,fun γ x z hγ hu => ?_,fun _ _ _ => rfl,Nat.le_refl _,rfl,rfl⟩⟩
 ·rw [jm] at hγ
  split at hγ
  ·cases hγ; trivial
  ·simp only [Option.map_eq_some_iff] at hγ
   obtain ⟨b0,hb0,rfl⟩ := hγ
   have h0 := hi.blk γ b0 hb0
   cases b0 with
   | box c =>
    obtain ⟨vs,elem,fz,q1,q2,q3,q4,q5⟩ := h0
    refine ⟨vs,elem,fz,q1,q2,by rw [q43,q3],q4r β isnil sz es q4,fun i x v a b => ?_⟩
    rw [q36] at a
    simp only [Option.map_eq_some_iff] at a
    obtain ⟨y,hy,rfl⟩ := a
    exact q2m hi hb (q5 i y v hy b)
   | row isnil' sz' es' =>
    cases isnil' with
    | true => exact h0
    | false =>
     obtain ⟨vs,elem,fz,q1,q2,q3,q4,q5,q6,q7,q8⟩ := h0
     refine ⟨vs,elem,fz,q1,q2,q3,q4,q5,q6,q7,fun i e j p a b => ?_⟩
     obtain ⟨v,k1,k2⟩ := q8 i e j p a b
     exact ⟨v,k1,k2.mono hm hw⟩
   | map es' clock =>
    obtain ⟨ents,q1,q2,q3⟩ := h0
    refine ⟨ents,q1,q2,fun i k x born e a b => ?_⟩
    obtain ⟨k1,k2,k3⟩ := q3 i k x born e a b
    exact ⟨k1.mono hm hw,k2.mono hm hw,k3⟩
   | za e' isnil' sz' es' =>
    cases isnil' with
    | true => exact h0
    | false =>
     obtain ⟨vs,fz,q1,q2,q3,q4,q5,q6,q7,q8⟩ := h0
     refine ⟨vs,fz,q1,q2,q3,q4,q5,q6,q7,fun i e j p a b => ?_⟩
     obtain ⟨v,k1,k2⟩ := q8 i e j p a b
     exact ⟨v,k1,k2.mono hm hw⟩
   | ql sz' es' =>
    obtain ⟨vs,elem,fz,q1,q2,q3,q4,q5,q6,q7,q8⟩ := h0
    have get : ∀ (i : Nat) e (j : Nat) x,(es'.map (AV.thaw.thawL β isnil sz es))[i]? = some e → e[j]? = some x → ∃ e0 y,es'[i]? = some e0 ∧ e0[j]? = some y ∧ x = y.thaw β isnil sz es ∧ e = AV.thaw.thawL β isnil sz es e0 := by
     intro i e j x h1 h2
     rw [List.getElem?_map,Option.map_eq_some_iff] at h1
     obtain ⟨e0,h1,rfl⟩ := h1
     rw [q36,Option.map_eq_some_iff] at h2
     obtain ⟨y,h2,rfl⟩ := h2
     exact ⟨e0,y,h1,h2,rfl,rfl⟩
    refine ⟨vs,elem,fz,q1,q2,q3,q4,by simpa using q5,fun e he => ?_,fun i e j x a b => ?_,fun i e j x a b => ?_⟩
    ·obtain ⟨e0,h0,rfl⟩ := List.mem_map.1 he
     rw [q43]
     exact q6 e0 h0
    ·obtain ⟨e0,y,h1,h2,rfl,rfl⟩ := get i e j x a b
     have hf : ∀ x ∈ e0,x.flat = true := fun x hx => by
      obtain ⟨j',hj'⟩ := List.getElem?_of_mem hx
      exact q7 i e0 j' x h1 hj'
     exact q4r β isnil sz es hf _ (List.mem_of_getElem? b)
    ·obtain ⟨e0,y,h1,h2,rfl,rfl⟩ := get i e j x a b
     obtain ⟨v,k1,k2⟩ := q8 i e0 j y h1 h2
     exact ⟨v,k1,q2m hi hb k2⟩
   | z8 t c =>
    obtain ⟨vs,fz,q1,q2,q3,q4,q5⟩ := h0
    refine ⟨vs,fz,q1,q2,by rw [q43,q3],q4r β isnil sz es q4,fun i x v a b => ?_⟩
    rw [q36] at a
    simp only [Option.map_eq_some_iff] at a
    obtain ⟨y,hy,rfl⟩ := a
    exact q2m hi hb (q5 i y v hy b)
   | qj es' clock =>
    obtain ⟨ents,q1,q2,q3⟩ := h0
    refine ⟨ents,q1,by simpa using q2,fun i k x born e a b => ?_⟩
    rw [List.getElem?_map,Option.map_eq_some_iff] at a
    obtain ⟨⟨k0,x0,b0⟩,a,q⟩ := a
    cases q
    obtain ⟨k1,k2,k3⟩ := q3 i _ x0 _ e a b
    exact ⟨k1.mono hm hw,q2m hi hb k2,k3⟩
   | qh isnil' ds' es' foc =>
    cases isnil' with
    | true => exact h0
    | false =>
     obtain ⟨vs,elem,fz,q1,q2,q3,q4,q5,q6,q7,q8,q9⟩ := h0
     refine ⟨vs,elem,fz,q1,q2,q3,q4,q5,q6,q7,q8,fun i p k a b => ?_⟩
     obtain ⟨v,k1,k2,k3⟩ := q9 i p k a b
     exact ⟨v,k1,fun hj => (k2 hj).mono hm hw fun _ _ => rfl,fun γ ver hf => ⟨(k3 γ ver hf).1,zsb hb (k3 γ ver hf).2⟩⟩
   | dead => trivial
 ·rw [jm] at h1 h2
  split at h1
  ·cases h1; cases u1.1
  split at h2
  ·cases h2; cases u2.1
  simp only [Option.map_eq_some_iff] at h1 h2
  obtain ⟨b0,hb0,rfl⟩ := h1
  obtain ⟨b1,hb1,rfl⟩ := h2
  exact hi.inj γ γ' b0 b1 z hb0 hb1 (Blk.q5u u1) (Blk.q5u u2)
 ·rcases h with h | ⟨hn,rfl⟩
  ·exact hi.im b h
  ·exact (hi.blk β _ hb).lt (hused hn)
 ·rw [jm] at hγ
  split at hγ
  ·cases hγ; cases hu.1
  rename_i hne
  simp only [Option.map_eq_some_iff] at hγ
  obtain ⟨b0,hb0,rfl⟩ := hγ
  have hu := Blk.q5u hu
  rcases h with h | ⟨hn,h⟩
  ·exact hi.nim γ b0 z hb0 hu h
  ·exact hne (hi.inj γ β b0 _ z hb0 hb hu ⟨hused hn,.inl h⟩)
 ·by_cases he : γ = β
  ·subst he
   rw [hb] at hγ
   cases hγ
   exact ⟨.dead,by simp [jm],rfl⟩
  ·refine ⟨b.thaw β isnil sz es,by simp [jm,he,hγ], ?_⟩
   cases b <;> simp [Blk.thaw,qo,Blk.sh,Pl.same]
 ·rcases h with h | ⟨hn,rfl⟩
  ·exact .inl h
  ·exact .inr (.inr ⟨β,_,hb,hused hn,.inl rfl⟩)
 ·rw [jm] at hγ
  split at hγ
  ·cases hγ; cases hu.1
  simp only [Option.map_eq_some_iff] at hγ
  obtain ⟨b0,hb0,rfl⟩ := hγ
  exact .inr ⟨γ,b0,hb0,Blk.q5u hu⟩
structure Inv (w : World) (a : Act) (s : St) (ι : Plc) (Im : Nat → Prop) (nt : Nat) : Prop where
 heap : qa w s.heap ι Im
 env : ∀ t,RA w s.heap ι Im (s.env.get t) (a.tmps.getD t undef)
 nx : ∀ β b,s.heap.get β = some b → β < s.nx
 size : nt ≤ a.tmps.size
 defers : a.defers = []
theorem q6m (f : AV → AV) (hf : f .undef = .undef) : ∀ (E : Env) (t : Nat),Env.get (E.map fun (t,v) => (t,f v)) t = f (E.get t)
 | [],t => by simp [Env.get,hf]
 | (i,v) :: r,t => by
  simp only [List.map_cons,Env.get]
  split
  ·rfl
  ·exact q6m f hf r t
theorem q4j {α : Type} {d : Nat} : ∀ (es : List (List α)) (i : Nat),(∀ e ∈ es,e.length = d) → ∀ e (j : Nat) p,es[i]? = some e → e[j]? = some p → es.flatten[i * d + j]? = some p
 | [],i,_,e,j,p,h,_ => by simp at h
 | x :: r,0,hl,e,j,p,h,hj => by
  simp at h
  subst h
  have := (List.getElem?_eq_some_iff.1 hj).1
  rw [Nat.zero_mul,Nat.zero_add,List.flatten_cons,List.getElem?_append_left this]
  exact hj
 | x :: r,i + 1,hl,e,j,p,h,hj => by
  have hx := hl x (by simp)
  rw [List.flatten_cons,List.getElem?_append_right (by rw [hx,Nat.succ_mul]; omega),hx]
  have ih := q4j r i (fun e he => hl e (by simp [he])) e j p (by simpa using h) hj
  rw [show (i + 1) * d + j - d = i * d + j by rw [Nat.succ_mul]; omega]
  exact ih
theorem jg.flat {ds : List Nat} {p : PV} {v : Value} {k : Sk} (h : jg w Im ds p v k) : p.flat = true := by
 cases h with
 | bn p v hs h => cases p <;> first | rfl | cases hs
 | nil => rfl
 | sl => rfl
theorem jg.pure {Im' : Nat → Prop} (hm : ∀ b,Im b → Im' b) {ds : List Nat} {p : PV} {v : Value} {k : Sk} (h : jg w Im ds p v k) : (∀ x ∈ k.blocks,Im' x) → RP w Im' p v := by
 induction h with
 | bn p v hs h => exact fun _ => h.mono hm fun _ _ => rfl
 | nil d ds => exact fun _ => .nilsl 0
 | sl d ds es b o cap ks vs elem fz hb hfz hvs hd hle ho hes hks val hval hh ih =>
  intro hk
  have hszc : es ≠ [] → szc d es = d := fun h => by cases es with | nil => exact absurd rfl h | cons _ _ => rfl
  have hfl : ∀ (i : Nat) e (j : Nat) p,es[i]? = some e → e[j]? = some p → es.flatten[i * d + j]? = some p := fun i e j p h1 h2 => q4j es i hes e j p h1 h2
  have hne : ∀ {i : Nat} {e : List PV},es[i]? = some e → es ≠ [] := fun h he => by rw [he] at h; cases h
  have hch : ∀ (i : Nat) e (j : Nat) p,es[i]? = some e → e[j]? = some p → ∃ k,ks[i * d + j]? = some k ∧ jg w Im ds p (val (i * d + j)) k ∧ RP w Im' p (val (i * d + j)) := fun i e j p h1 h2 => by
   have h3 := hfl i e j p h1 h2
   have h4 := (List.getElem?_eq_some_iff.1 h3).1
   obtain ⟨k,hk'⟩ : ∃ k,ks[i * d + j]? = some k := ⟨ks[i * d + j]'(by omega),by simp⟩
   exact ⟨k,hk',hh _ p k h3 hk',ih _ p k h3 hk' fun x hx => hk x (by
    simp only [Sk.blocks,List.mem_cons,List.mem_flatMap]
    exact .inr ⟨k,List.mem_of_getElem? hk',hx⟩)⟩
  refine .sl (szc d es) es b o cap val (fun _ => hk b (by simp [Sk.blocks])) hle (fun e he => ?_) (fun i hlt => ?_) (fun i e j p h1 h2 => ?_) (fun i e j p h1 h2 => ?_) none (fun _ => rfl)
  ·rw [hszc (List.ne_nil_of_mem he)]
   exact hes e he
  ·have hn : es ≠ [] := fun he => by subst he; simp at hlt
   rw [hszc hn] at hlt
   have hpos := List.length_pos_iff.2 hn
   rw [ho (by omega),Nat.zero_add,jw hb]
   have hfll : es.flatten.length = es.length * d := by
    clear hfl hch hne hszc hh ih hk hval hks hle hn hpos hlt ho
    induction es with
    | nil => simp
    | cons x r ih =>
     rw [List.flatten_cons,List.length_append,ih (fun e he => hes e (by simp [he])),hes x (by simp),List.length_cons,Nat.succ_mul]
     omega
   exact hval i (by omega)
  ·obtain ⟨k,_,h3,_⟩ := hch i e j p h1 h2
   exact h3.flat
  ·rw [hszc (hne h1)]
   obtain ⟨k,_,_,h3⟩ := hch i e j p h1 h2
   exact h3
theorem qzn (hi : qa w H ι Im) {β : Nat} {isnil : Bool} {ds : List Nat} {es : List PV} (hb : H.get β = some (.qh isnil ds es none)) :
  ∃ Im',qa w (H.put β (.row isnil 1 (es.map fun p => [p]))) ι Im' ∧ Evo w H ι Im w (H.put β (.row isnil 1 (es.map fun p => [p]))) ι Im' := by
 let Im' : Nat → Prop := fun b => Im b ∨ (isnil = false ∧ b ∈ (ι β).ks.flatMap Sk.blocks)
 have hm : ∀ b,Im b → Im' b := fun b h => .inl h
 have hfoot : ∀ {x : Nat},isnil = false ∧ x ∈ (ι β).ks.flatMap Sk.blocks → (Blk.qh isnil ds es none).foot (ι β) x := fun h => ⟨by simp [Blk.used,h.1],.inr ⟨rfl,h.2⟩⟩
 have hrow : ∀ {x : Nat},(Blk.row isnil 1 (es.map fun p => [p])).foot (ι β) x → isnil = false ∧ x = (ι β).b := fun h => by
  refine ⟨by simpa [Blk.used] using h.1, ?_⟩
  rcases h.2 with h | ⟨h,_⟩
  ·exact h
  ·cases h
 have hrow2 : ∀ {x : Nat},(Blk.row isnil 1 (es.map fun p => [p])).foot (ι β) x → (Blk.qh isnil ds es none).foot (ι β) x := fun h => ⟨by simp [Blk.used,(hrow h).1],.inl (hrow h).2⟩
 have he : Evo w H ι Im w (H.put β (.row isnil 1 (es.map fun p => [p]))) ι Im' := by
  refine ⟨fun γ b hγ => ?_,hm,fun b h => ?_,fun γ x z hγ hu => ?_,fun _ _ _ => rfl,Nat.le_refl _,rfl,rfl⟩
  ·by_cases e : γ = β
   ·subst e
    rw [hb] at hγ
    cases hγ
    exact ⟨.row isnil 1 (es.map fun p => [p]),by simp [Heap.get_put],by simp [qo,Blk.sh,Pl.same]⟩
   ·exact ⟨b,by simp [Heap.get_put,e,hγ],gz _ _⟩
  ·rcases h with h | h
   ·exact .inl h
   ·exact .inr (.inr ⟨β,_,hb,hfoot h⟩)
  ·by_cases e : γ = β
   ·subst e
    simp only [Heap.get_put,if_true,Option.some.injEq] at hγ
    subst hγ
    exact .inr ⟨γ,_,hb,hrow2 hu⟩
   ·simp only [Heap.get_put,e,if_false] at hγ
    exact .inr ⟨γ,x,hγ,hu⟩
 have hold : ∀ {γ : Nat} {b : Blk},(H.put β (.row isnil 1 (es.map fun p => [p]))).get γ = some b → ∃ b0,H.get γ = some b0 ∧ ∀ {x : Nat},b.foot (ι γ) x → b0.foot (ι γ) x := fun {γ b} h => by
  by_cases e : γ = β
  ·subst e
   simp only [Heap.get_put,if_true,Option.some.injEq] at h
   subst h
   exact ⟨_,hb,hrow2⟩
  ·simp only [Heap.get_put,e,if_false] at h
   exact ⟨b,h,id⟩
 refine ⟨Im',⟨fun γ b hγ => ?_,fun γ γ' b b' z h1 h2 u1 u2 => ?_,fun b h => ?_,fun γ b z hγ hu h => ?_,hi.glb,fun b hb => .inl (hi.gim b hb)⟩,he⟩
 ·by_cases e : γ = β
  ·subst e
   simp only [Heap.get_put,if_true,Option.some.injEq] at hγ
   subst hγ
   cases isnil with
   | true =>
    have : es = [] := (hi.blk γ _ hb).1
    subst this
    rfl
   | false =>
    obtain ⟨vs,elem,fz,h1,h2,h3,h4,h5,h6,h7,h8,h9⟩ := hi.qh hb
    have hg : ∀ (i : Nat) e (j : Nat) p,(es.map fun p => [p])[i]? = some e → e[j]? = some p → j = 0 ∧ es[i]? = some p := by
     intro i e j p a b
     rw [List.getElem?_map,Option.map_eq_some_iff] at a
     obtain ⟨q,a,rfl⟩ := a
     cases j with
     | zero => simp at b; subst b; exact ⟨rfl,a⟩
     | succ j => simp at b
    have hk : ∀ {i : Nat} {p : PV},es[i]? = some p → ∃ k,(ι γ).ks[i]? = some k := fun {i p} a => by
     have := (List.getElem?_eq_some_iff.1 a).1
     exact ⟨(ι γ).ks[i]'(by omega),by simp⟩
    refine ⟨vs,elem,fz,h1,h2,by simpa using h3,by omega,by simpa using h4,fun e he => ?_,fun i e j p a b => ?_,fun i e j p a b => ?_⟩
    ·obtain ⟨q,_,rfl⟩ := List.mem_map.1 he
     rfl
    ·obtain ⟨rfl,a⟩ := hg i e j p a b
     obtain ⟨k,c⟩ := hk a
     obtain ⟨v,_,k2,_⟩ := h9 i p k a c
     exact (k2 fun _ _ _ h => by cases h).flat
    ·obtain ⟨rfl,a⟩ := hg i e j p a b
     obtain ⟨k,c⟩ := hk a
     obtain ⟨v,k1,k2,_⟩ := h9 i p k a c
     refine ⟨v,by simpa using k1,(k2 fun _ _ _ h => by cases h).pure hm fun x hx => .inr ⟨rfl,List.mem_flatMap.2 ⟨k,List.mem_of_getElem? c,hx⟩⟩⟩
  ·simp only [Heap.get_put,e,if_false] at hγ
   exact (hi.blk γ b hγ).mono hi he fun _ => ⟨rfl,fun _ _ => rfl⟩
 ·obtain ⟨b0,g1,g2⟩ := hold h1
  obtain ⟨b1,g3,g4⟩ := hold h2
  exact hi.inj γ γ' b0 b1 z g1 g3 (g2 u1) (g4 u2)
 ·rcases h with h | h
  ·exact hi.im b h
  ·exact (hi.blk β _ hb).mf (hfoot h)
 ·obtain ⟨b0,g1,g2⟩ := hold hγ
  rcases h with h | h
  ·exact hi.nim γ b0 z g1 (g2 hu) h
  ·have e := hi.inj γ β b0 _ z g1 hb (g2 hu) (hfoot h)
   subst e
   simp only [Heap.get_put,if_true,Option.some.injEq] at hγ
   subst hγ
   obtain ⟨e1,e2⟩ := hrow hu
   subst e1
   obtain ⟨vs,elem,fz,h1,h2,h3,h4,h5,h6,_⟩ := hi.qh hb
   rw [e2] at h
   exact (List.nodup_cons.1 h6).1 h.2
theorem q8u (f : Blk → Blk) (β : Nat) (y z : Blk) : ∀ H : Heap,Heap.put ((Heap.put H β y).map fun (i,b) => (i,f b)) β z = Heap.put (H.map fun (i,b) => (i,f b)) β z
 | [] => by simp [Heap.put]
 | (i,b) :: r => by
  by_cases h : i = β
  ·simp [Heap.put,h]
  ·simp only [Heap.put,h,if_false,List.map_cons]
   rw [q8u f β y z r]
theorem zlu {a : Act} {s : St} {nt : Nat} (h : Inv w a s ι Im nt) (β : Nat) :
  ∃ Im',Inv w a (freeze β s) ι Im' nt ∧ Evo w s.heap ι Im w (freeze β s).heap ι Im' := by
 unfold freeze
 split
 ·rename_i isnil sz es hb
  obtain ⟨h1,h2⟩ := q9r h.heap hb
  refine ⟨_,⟨h1,fun t => ?_,fun γ b hγ => ?_,h.size,h.defers⟩,h2⟩
  ·show RA w _ ι _ (Env.get (s.env.map fun (t,v) => (t,v.thaw β isnil sz es)) t) _
   rw [q6m _ rfl]
   exact q2m h.heap hb (h.env t)
  ·have hγ' : (uh β isnil sz es s.heap).get γ = some b := hγ
   rw [jm] at hγ'
   split at hγ'
   ·rename_i e
    subst e
    exact h.nx γ _ hb
   ·simp only [Option.map_eq_some_iff] at hγ'
    obtain ⟨b0,hb0,_⟩ := hγ'
    exact h.nx γ b0 hb0
 ·rename_i isnil ds es hb
  obtain ⟨Im1,q1,q2⟩ := qzn h.heap hb
  have hb1 : (s.heap.put β (.row isnil 1 (es.map fun p => [p]))).get β = some (.row isnil 1 (es.map fun p => [p])) := by simp [Heap.get_put]
  obtain ⟨h1,h2⟩ := q9r q1 hb1
  have hf : uh β isnil 1 (es.map fun p => [p]) (s.heap.put β (.row isnil 1 (es.map fun p => [p]))) = Heap.put (s.heap.map fun (i,b) => (i,b.thaw β isnil 1 (es.map fun p => [p]))) β .dead := q8u _ _ _ _ _
  have henv := fun t => q2m q1 hb1 ((h.env t).mono h.heap q2)
  rw [hf] at h1 h2
  refine ⟨_,⟨h1,fun t => ?_,fun γ b hγ => ?_,h.size,h.defers⟩,q2.trans h2⟩
  ·show RA w _ ι _ (Env.get (s.env.map fun (t,v) => (t,v.thaw β isnil 1 (es.map fun p => [p]))) t) _
   rw [q6m _ rfl,← hf]
   exact henv t
  ·have hγ' : (Heap.put (s.heap.map fun (i,b) => (i,b.thaw β isnil 1 (es.map fun p => [p]))) β .dead).get γ = some b := hγ
   rw [← hf,jm] at hγ'
   split at hγ'
   ·rename_i e
    subst e
    exact h.nx γ _ hb
   ·rename_i e
    simp only [Option.map_eq_some_iff,Heap.get_put,e,if_false] at hγ'
    obtain ⟨b0,hb0,_⟩ := hγ'
    exact h.nx γ b0 hb0
 ·exact ⟨Im,h,Evo.refl _ _ _ _⟩
theorem q2h {a : Act} {nt : Nat} : ∀ (l : List Nat) {s : St} {Im : Nat → Prop},Inv w a s ι Im nt →
  ∃ Im',Inv w a (freezes l s) ι Im' nt ∧ Evo w s.heap ι Im w (freezes l s).heap ι Im'
 | [],s,Im,h => ⟨Im,h,Evo.refl _ _ _ _⟩
 | β :: r,s,Im,h => by
  obtain ⟨Im1,h1,e1⟩ := zlu h β
  obtain ⟨Im2,h2,e2⟩ := q2h r h1
  exact ⟨Im2,h2,e1.trans e2⟩
end
end Go.Gm
set_option linter.unusedSectionVars false
namespace Go.Gm
open Go
section
variable [Globs] {P : Program} {w : World} {H : Heap} {ι : Plc} {Im : Nat → Prop}
theorem q3y (hi : qa w H ι Im) {β γ : Nat} (hne : β ≠ γ) {x y z : Blk} {p q : Pl} (hx : H.get β = some x)
  (cb : qo x y (ι β) p) (cg : ∀ c,H.get γ = some c → qo c z (ι γ) q)
  (fy : ∀ t,y.foot p t → x.foot (ι β) t ∨ ∃ c,H.get γ = some c ∧ c.foot (ι γ) t)
  (fz : ∀ t,z.foot q t → x.foot (ι β) t ∨ ∃ c,H.get γ = some c ∧ c.foot (ι γ) t)
  (dis : ∀ t,y.foot p t → z.foot q t → False)
  (by_ : Evo w H ι Im w ((H.put β y).put γ z) (qg (qg ι β p) γ q) Im → j6 w ((H.put β y).put γ z) (qg (qg ι β p) γ q) Im β y)
  (bz : Evo w H ι Im w ((H.put β y).put γ z) (qg (qg ι β p) γ q) Im → j6 w ((H.put β y).put γ z) (qg (qg ι β p) γ q) Im γ z) :
  qa w ((H.put β y).put γ z) (qg (qg ι β p) γ q) Im ∧ Evo w H ι Im w ((H.put β y).put γ z) (qg (qg ι β p) γ q) Im := by
 have get : ∀ δ,((H.put β y).put γ z).get δ = if δ = γ then some z else if δ = β then some y else H.get δ := fun δ => by
  rw [Heap.get_put]
  split
  ·rfl
  ·rw [Heap.get_put]
 have pg : qg (qg ι β p) γ q γ = q := by simp
 have pb : qg (qg ι β p) γ q β = p := by rw [wy _ _ hne]; simp
 have po : ∀ {δ},δ ≠ β → δ ≠ γ → qg (qg ι β p) γ q δ = ι δ := fun h1 h2 => by rw [wy _ _ h2,wy _ _ h1]
 have old : ∀ {δ : Nat} {b : Blk} {t : Nat},((H.put β y).put γ z).get δ = some b → b.foot (qg (qg ι β p) γ q δ) t → ∃ δ0 b0,H.get δ0 = some b0 ∧ b0.foot (ι δ0) t ∧ ((δ = δ0 ∧ δ ≠ β ∧ δ ≠ γ) ∨ ((δ = β ∨ δ = γ) ∧ (δ0 = β ∨ δ0 = γ))) := by
  intro δ b t h1 h2
  rw [get] at h1
  by_cases e1 : δ = γ
  ·subst e1
   rw [if_pos rfl] at h1
   cases h1
   rw [pg] at h2
   rcases fz t h2 with h | ⟨c,g1,g2⟩
   ·exact ⟨β,x,hx,h,.inr ⟨.inr rfl,.inl rfl⟩⟩
   ·exact ⟨δ,c,g1,g2,.inr ⟨.inr rfl,.inr rfl⟩⟩
  ·rw [if_neg e1] at h1
   by_cases e2 : δ = β
   ·subst e2
    rw [if_pos rfl] at h1
    cases h1
    rw [pb] at h2
    rcases fy t h2 with h | ⟨c,g1,g2⟩
    ·exact ⟨δ,x,hx,h,.inr ⟨.inl rfl,.inl rfl⟩⟩
    ·exact ⟨γ,c,g1,g2,.inr ⟨.inl rfl,.inr rfl⟩⟩
   ·rw [if_neg e2] at h1
    rw [po e2 e1] at h2
    exact ⟨δ,b,h1,h2,.inl ⟨rfl,e2,e1⟩⟩
 have he : Evo w H ι Im w ((H.put β y).put γ z) (qg (qg ι β p) γ q) Im := by
  refine ⟨fun δ b hb => ?_,fun _ h => h,fun _ h => .inl h,fun δ b t h1 h2 => ?_,fun _ _ _ => rfl,Nat.le_refl _,rfl,rfl⟩
  ·by_cases e1 : δ = γ
   ·subst e1
    exact ⟨z,by rw [get,if_pos rfl],by rw [pg]; exact cg b hb⟩
   ·by_cases e2 : δ = β
    ·subst e2
     rw [hx] at hb
     cases hb
     exact ⟨y,by rw [get,if_neg e1,if_pos rfl],by rw [pb]; exact cb⟩
    ·exact ⟨b,by rw [get,if_neg e1,if_neg e2]; exact hb,by rw [po e2 e1]; exact gz _ _⟩
  ·obtain ⟨δ0,b0,g1,g2,_⟩ := old h1 h2
   exact .inr ⟨δ0,b0,g1,g2⟩
 refine ⟨⟨fun δ b hb => ?_,fun δ δ' b b' t h1 h2 u1 u2 => ?_,hi.im,fun δ b t h1 h2 => ?_,hi.glb,hi.gim⟩,he⟩
 ·have hb' := hb
  rw [get] at hb
  by_cases e1 : δ = γ
  ·subst e1
   rw [if_pos rfl] at hb
   cases hb
   exact bz he
  ·rw [if_neg e1] at hb
   by_cases e2 : δ = β
   ·subst e2
    rw [if_pos rfl] at hb
    cases hb
    exact by_ he
   ·rw [if_neg e2] at hb
    exact (hi.blk δ b hb).mono hi he fun _ => ⟨po e2 e1,fun _ _ => rfl⟩
 ·obtain ⟨δ0,b0,g1,g2,g3⟩ := old h1 u1
  obtain ⟨δ1,b1,k1,k2,k3⟩ := old h2 u2
  have e := hi.inj δ0 δ1 b0 b1 t g1 k1 g2 k2
  subst e
  rcases g3 with ⟨rfl,n1,n2⟩ | ⟨g3,g4⟩
  ·rcases k3 with ⟨rfl,_,_⟩ | ⟨_,k4⟩
   ·rfl
   ·rcases k4 with h | h
    ·exact absurd h n1
    ·exact absurd h n2
  ·rcases k3 with ⟨rfl,n1,n2⟩ | ⟨k3,k4⟩
   ·rcases g4 with h | h
    ·exact absurd h n1
    ·exact absurd h n2
   ·rw [get] at h1 h2
    rcases g3 with rfl | rfl <;> rcases k3 with rfl | rfl
    ·rfl
    ·rw [if_neg hne,if_pos rfl] at h1
     rw [if_pos rfl] at h2
     cases h1
     cases h2
     rw [pb] at u1
     rw [pg] at u2
     exact (dis t u1 u2).elim
    ·rw [if_neg hne,if_pos rfl] at h2
     rw [if_pos rfl] at h1
     cases h1
     cases h2
     rw [pb] at u2
     rw [pg] at u1
     exact (dis t u2 u1).elim
    ·rfl
 ·obtain ⟨δ0,b0,g1,g2,_⟩ := old h1 h2
  exact hi.nim δ0 b0 t g1 g2
theorem qb4 : ∀ {ks : List Sk} {i : Nat} {k : Sk},ks[i]? = some k → (ks.flatMap Sk.blocks).Nodup → (∀ x ∈ k.blocks,x ∈ ks.flatMap Sk.blocks ∧ x ∉ (ks.set i .leaf).flatMap Sk.blocks) ∧ k.blocks.Nodup
 | [],i,k,h,_ => by simp at h
 | a :: r,0,k,h,hn => by
  simp at h
  subst h
  rw [List.flatMap_cons,List.nodup_append] at hn
  refine ⟨fun x hx => ⟨by simp [hx],fun hx2 => ?_⟩,hn.1⟩
  simp only [List.set_cons_zero,List.flatMap_cons,Sk.blocks,List.nil_append] at hx2
  exact hn.2.2 x hx x hx2 rfl
 | a :: r,i + 1,k,h,hn => by
  rw [List.flatMap_cons,List.nodup_append] at hn
  obtain ⟨ih1,ih2⟩ := qb4 (ks := r) (i := i) (by simpa using h) hn.2.1
  refine ⟨fun x hx => ?_,ih2⟩
  obtain ⟨j1,j2⟩ := ih1 x hx
  refine ⟨by rw [List.flatMap_cons]; exact List.mem_append_right _ j1,fun hx2 => ?_⟩
  rw [List.set_cons_succ,List.flatMap_cons] at hx2
  rcases List.mem_append.1 hx2 with h2 | h2
  ·exact hn.2.2 x h2 x j1 rfl
  ·exact j2 h2
theorem q81 {α : Type} {d : Nat} (hd : 0 < d) : ∀ (es : List (List α)),(∀ e ∈ es,e.length = d) → ∀ (m : Nat) p,es.flatten[m]? = some p → ∃ e,es[m / d]? = some e ∧ e[m % d]? = some p
 | [],_,m,p,h => by simp at h
 | x :: r,hl,m,p,h => by
  have hx := hl x (by simp)
  by_cases hm : m < d
  ·rw [List.flatten_cons,List.getElem?_append_left (by omega)] at h
   exact ⟨x,by rw [Nat.div_eq_of_lt hm]; rfl,by rw [Nat.mod_eq_of_lt hm]; exact h⟩
  ·rw [List.flatten_cons,List.getElem?_append_right (by omega),hx] at h
   obtain ⟨e,h1,h2⟩ := q81 hd r (fun e he => hl e (by simp [he])) (m - d) p h
   have e1 : m / d = (m - d) / d + 1 := by rw [Nat.div_eq_sub_div hd (by omega)]
   have e2 : m % d = (m - d) % d := by rw [Nat.mod_eq_sub_mod (by omega)]
   exact ⟨e,by rw [e1]; simpa using h1,by rw [e2]; exact h2⟩
theorem q7h {α : Type} {d : Nat} : ∀ (es : List (List α)),(∀ e ∈ es,e.length = d) → es.flatten.length = es.length * d
 | [],_ => by simp
 | x :: r,hl => by
  rw [List.flatten_cons,List.length_append,q7h r (fun e he => hl e (by simp [he])),hl x (by simp),List.length_cons,Nat.succ_mul]
  omega
theorem q65 {α : Type} (es : List α) : (es.map fun p => [p]).flatten = es := by
 induction es with
 | nil => rfl
 | cons x r ih => simp [ih]
def Sk.pl : Sk → Pl
 | .leaf => ⟨0,0,[]⟩
 | .node b cap ks => ⟨b,cap,ks⟩
theorem qsh (hi : qa w H ι Im) {nx : Nat} (hnx : ∀ β b,H.get β = some b → β < nx) {β i γ nx' : Nat} {H' : Heap} (h : q74 H nx β i = some (H',nx',γ)) :
  ∃ ι',qa w H' ι' Im ∧ Evo w H ι Im w H' ι' Im ∧ ∀ β b,H'.get β = some b → β < nx' := by
 unfold q74 at h
 split at h
 ·rename_i dims es hb
  split at h
  rotate_left
  ·cases h
  rename_i d ds
  split at h
  rotate_left
  ·cases h
  rename_i isnil sz es' hp
  split at h
  rotate_left
  ·cases h
  rename_i blk hblk
  cases h
  obtain ⟨vs,elem,fz,h1,h2,h3,h4,h5,h6,h7,h8,h9⟩ := hi.qh hb
  obtain ⟨hn1,hn2⟩ := List.nodup_cons.1 h6
  have hil := (List.getElem?_eq_some_iff.1 hp).1
  obtain ⟨k,hk⟩ : ∃ k,(ι β).ks[i]? = some k := ⟨(ι β).ks[i]'(by omega),by simp⟩
  obtain ⟨v,k1,k2,_⟩ := h9 i _ k hp hk
  have hO := k2 fun _ _ _ h => by cases h
  obtain ⟨hs1,hs2⟩ := qb4 hk hn2
  have hne : β ≠ nx := fun e => by have := hnx β _ hb; omega
  have hfresh : H.get nx = none := by
   cases hh : H.get nx with
   | none => rfl
   | some b => have := hnx nx b hh; omega
  have key : ∀ (H' : Heap) (ι' : Plc),ι' nx = k.pl → H'.get nx = some blk → j6 w H' ι' Im nx blk ∧ RA w H' ι' Im (.row nx es'.length 0 es'.length) v ∧ (∀ t,blk.foot k.pl t → t ∈ k.blocks) := by
   intro H' ι' hpl hget
   cases hO with
   | nil =>
    unfold q6j at hblk
    split at hblk
    ·cases hblk
     refine ⟨rfl,.row _ _ _ _ _ _ rfl hget (fun _ => ⟨_,_,_,rfl⟩) (fun _ _ _ e => by cases e; exact Nat.le_refl _) (fun _ _ _ e _ => by cases e; exact ⟨by simp,rfl⟩),fun t ht => ?_⟩
     exact absurd ht.1 (by simp [Blk.used])
    ·split at hblk <;> cases hblk
     refine ⟨⟨rfl,rfl⟩,.row _ _ _ _ _ _ rfl hget (fun _ => ⟨_,_,_,rfl⟩) (fun _ _ _ e => by cases e; exact Nat.le_refl _) (fun _ _ _ e _ => by cases e; exact ⟨by simp,rfl⟩),fun t ht => ?_⟩
     exact absurd ht.1 (by simp [Blk.used])
   | sl _ _ _ b o cap ks vs' elem' fz' q1 q2 q3 q4 q5 q6 q7 q8 val q9 q10 =>
    have hplb : (ι' nx) = ⟨b,cap,ks⟩ := hpl
    have hhead : ∀ (bl : Blk) (sz : Nat),bl.sh = some (false,sz,es'.length) → H'.get nx = some bl → RA w H' ι' Im (.row nx es'.length 0 es'.length) (.slice (some ⟨b,o,none⟩) es'.length cap) := by
     intro bl sz hsh hg
     refine .row _ _ _ _ _ _ rfl hg (fun _ => ⟨_,_,_,hsh⟩) (fun _ _ _ e => by rw [hsh] at e; cases e; exact Nat.le_refl _) (fun _ _ _ e _ => ?_)
     rw [hsh] at e
     cases e
     refine ⟨by simp, ?_⟩
     simp only [Bool.false_eq_true,if_false,hplb]
     exact ⟨⟨b,o,none⟩,by simp,rfl,rfl,fun hc => by rw [q6 hc]; simp⟩
    have hks : (Sk.node b cap ks).blocks = b :: ks.flatMap Sk.blocks := by simp [Sk.blocks]
    have hbl : ∀ x ∈ ks.flatMap Sk.blocks,x < w.heap.size := fun x hx => h7 x (hs1 x (by rw [hks]; simp [hx])).1
    unfold q6j at hblk
    split at hblk
    ·cases hblk
     refine ⟨⟨vs',elem',fz',by rw [hplb]; exact q1,q2,by rw [hplb]; exact q3,q4,by rw [hplb]; exact q5,q7,fun i e j p a c => ?_,fun i e j p a c => ?_⟩,hhead _ _ rfl hget,fun t ht => ?_⟩
     ·have hf := q4j es' i q7 e j p a c
      have := (List.getElem?_eq_some_iff.1 hf).1
      obtain ⟨k',hk'⟩ : ∃ k',ks[i * d + j]? = some k' := ⟨ks[i * d + j]'(by omega),by simp⟩
      exact (q10 _ p k' hf hk').flat
     ·have hf := q4j es' i q7 e j p a c
      have := (List.getElem?_eq_some_iff.1 hf).1
      obtain ⟨k',hk'⟩ : ∃ k',ks[i * d + j]? = some k' := ⟨ks[i * d + j]'(by omega),by simp⟩
      refine ⟨val (i * d + j),q9 _ this, ?_⟩
      have h0 := q10 _ p k' hf hk'
      generalize val (i * d + j) = u at h0
      cases h0 with
      | bn _ _ _ h => exact h
     ·rw [hks]
      rcases ht.2 with h | ⟨h,_⟩
      ·rw [h]; simp [Sk.pl]
      ·cases h
    ·rename_i d1 ds1
     split at hblk <;> cases hblk
     rename_i hd1
     subst hd1
     have hfl : es'.flatten.length = es'.length := by rw [q7h es' q7,Nat.mul_one]
     refine ⟨⟨vs',elem',fz',by rw [hplb]; exact q1,q2,by rw [hplb]; simpa using q3,by rw [hplb,hfl]; exact q5,by rw [hplb]; exact q8, ?_, ?_,fun _ _ _ h => (by cases h),fun i p k' a c => ?_⟩, ?_,fun t ht => ?_⟩
     ·rw [hplb]
      rw [hks] at hs2
      exact hs2
     ·rw [hplb]
      exact hbl
     ·rw [hplb] at c
      have := (List.getElem?_eq_some_iff.1 a).1
      exact ⟨val i,q9 _ this,fun _ => q10 i p k' a c,fun _ _ h => by cases h⟩
     ·exact hhead _ 1 (by simp only [Blk.sh,hfl]) hget
     ·rw [hks]
      rcases ht.2 with h | ⟨_,h⟩
      ·rw [h]; simp [Sk.pl]
      ·exact List.mem_cons_of_mem _ h
  refine ⟨qg (qg ι β ⟨(ι β).b,(ι β).cap,(ι β).ks.set i .leaf⟩) nx k.pl, ?_⟩
  have hgn : ((H.put β (.qh false (d :: ds) es (some (i,nx,es'.length)))).put nx blk).get nx = some blk := by simp [Heap.get_put]
  obtain ⟨m1,m2,m3⟩ := key _ (qg (qg ι β ⟨(ι β).b,(ι β).cap,(ι β).ks.set i .leaf⟩) nx k.pl) (by simp) hgn
  have pb : qg (qg ι β ⟨(ι β).b,(ι β).cap,(ι β).ks.set i .leaf⟩) nx k.pl β = ⟨(ι β).b,(ι β).cap,(ι β).ks.set i .leaf⟩ := by rw [wy _ _ hne]; simp
  have gg := q3y hi hne (y := .qh false (d :: ds) es (some (i,nx,es'.length))) (z := blk) (p := ⟨(ι β).b,(ι β).cap,(ι β).ks.set i .leaf⟩) (q := k.pl) hb (by simp [qo,Blk.sh,Pl.same]) (fun c hc => by rw [hfresh] at hc; cases hc)
   (fun t ht => .inl ⟨rfl,ht.2.imp id fun h => ⟨rfl,q25 h.2⟩⟩) (fun t ht => .inl ⟨rfl,.inr ⟨rfl,(hs1 t (m3 t ht)).1⟩⟩)
   (fun t ht hz => by
    have hz' := m3 t hz
    rcases ht.2 with h | ⟨_,h⟩
    ·exact hn1 (h ▸ (hs1 t hz').1)
    ·exact (hs1 t hz').2 h)
   (fun hev => by
    refine ⟨vs,elem,fz,by rw [pb]; exact h1,h2,by rw [pb]; exact h3,by rw [pb]; exact h4,by rw [pb]; simpa using h5,by rw [pb]; exact List.nodup_cons.2 ⟨fun h => hn1 (q25 h),q6y hn2⟩,fun x hx => h7 x (by rw [pb] at hx; exact q25 hx),fun j γ' ver hf => (by cases hf; exact hil),fun i' p k' a c => ?_⟩
    rw [pb] at c
    by_cases e : i = i'
    ·subst e
     rw [List.getElem?_set_self (by omega)] at c
     cases c
     exact ⟨v,k1,fun h => absurd rfl (h _ _ _ rfl),fun γ' ver hf => by cases hf; exact ⟨rfl,m2⟩⟩
    ·rw [List.getElem?_set_ne e] at c
     obtain ⟨v',g1,g2,_⟩ := h9 i' p k' a c
     exact ⟨v',g1,fun _ => g2 fun _ _ _ h => (by cases h),fun γ' ver hf => by cases hf; exact absurd rfl e⟩)
   (fun _ => m1)
  refine ⟨gg.1,gg.2,fun δ b hδ => ?_⟩
  rw [Heap.get_put] at hδ
  split at hδ
  ·omega
  ·rw [Heap.get_put] at hδ
   split at hδ
   ·rename_i e
    have := hnx β _ hb
    omega
   ·have := hnx δ b hδ
    omega
 ·split at h <;> cases h
  exact ⟨ι,hi,Evo.refl _ _ _ _,hnx⟩
 ·cases h
theorem qak : ∀ (l : List Nat) {H : Heap} {ι : Plc} {nx β : Nat},qa w H ι Im → (∀ β b,H.get β = some b → β < nx) →
  ∃ ι',qa w (q0r H nx β l).1 ι' Im ∧ Evo w H ι Im w (q0r H nx β l).1 ι' Im ∧ ∀ δ b,(q0r H nx β l).1.get δ = some b → δ < (q0r H nx β l).2
 | [],H,ι,nx,β,hi,hnx => ⟨ι,hi,Evo.refl _ _ _ _,hnx⟩
 | i :: r,H,ι,nx,β,hi,hnx => by
  unfold q0r
  split
  ·rename_i H' nx' γ h
   obtain ⟨ι1,a1,a2,a3⟩ := qsh hi hnx h
   obtain ⟨ι2,b1,b2,b3⟩ := qak r (β := γ) a1 a3
   exact ⟨ι2,b1,a2.trans b2,b3⟩
  ·exact ⟨ι,hi,Evo.refl _ _ _ _,hnx⟩
theorem q5v {ks : List Sk} {i x : Nat} {k : Sk} (h : x ∈ (ks.set i k).flatMap Sk.blocks) : x ∈ ks.flatMap Sk.blocks ∨ x ∈ k.blocks := by
 rw [List.mem_flatMap] at h
 obtain ⟨k',hk,hx⟩ := h
 rcases List.mem_or_eq_of_mem_set hk with h | h
 ·exact .inl (List.mem_flatMap.2 ⟨k',h,hx⟩)
 ·subst h
  exact .inr hx
theorem qch : ∀ {ks : List Sk} {i : Nat} {k : Sk},(ks.flatMap Sk.blocks).Nodup → k.blocks.Nodup → (∀ x ∈ k.blocks,x ∉ ks.flatMap Sk.blocks) → ((ks.set i k).flatMap Sk.blocks).Nodup
 | [],i,k,h,_,_ => by simp
 | a :: r,0,k,h,hk,hd => by
  rw [List.flatMap_cons,List.nodup_append] at h
  rw [List.set_cons_zero,List.flatMap_cons,List.nodup_append]
  exact ⟨hk,h.2.1,fun x hx y hy e => hd x hx (by rw [List.flatMap_cons,e]; exact List.mem_append_right _ hy)⟩
 | a :: r,i + 1,k,h,hk,hd => by
  rw [List.flatMap_cons,List.nodup_append] at h
  rw [List.set_cons_succ,List.flatMap_cons,List.nodup_append]
  refine ⟨h.1,qch h.2.1 hk fun x hx hy => hd x hx (by rw [List.flatMap_cons]; exact List.mem_append_right _ hy),fun x hx y hy e => ?_⟩
  subst e
  rcases q5v hy with h2 | h2
  ·exact h.2.2 x hx x h2 rfl
  ·exact hd x h2 (by rw [List.flatMap_cons]; exact List.mem_append_left _ hx)
theorem zpq {es : List (List PV)} (h : q80 es = true) {e : List PV} (he : e ∈ es) {p : PV} (hp : p ∈ e) : p.bn = true := by
 unfold q80 at h
 rw [List.all_eq_true] at h
 have := h e he
 rw [List.all_eq_true] at this
 exact this p hp
theorem qy1 (hi : qa w H ι Im) {γ : Nat} {b : Blk} (hg : H.get γ = some b) {d : Nat} {ds : List Nat} {ver : Nat} {p : PV} (hp : q4i d ds ver b = some p) {v : Value} (hv : RA w H ι Im (.row γ ver 0 ver) v) :
  ∃ k,jg w Im (d :: ds) p v k ∧ k.blocks.Nodup ∧ (∀ x ∈ k.blocks,b.foot (ι γ) x) ∧ (∃ a,b.sh = some a) := by
 cases hv with
 | row _ _ _ _ _ b' ho hb' hk hver h =>
 rw [hg] at hb'
 cases hb'
 unfold q4i at hp
 split at hp
 ·rename_i isnil sz es
  split at hp
  rotate_left
  ·cases hp
  split at hp <;> cases hp
  rename_i hc
  obtain ⟨rfl,hsz,hsc⟩ := hc
  obtain ⟨_,h2⟩ := h _ _ _ rfl rfl
  cases isnil with
  | true =>
   simp only [if_true] at h2
   subst h2
   have hes : es = [] := hi.blk γ _ hg
   subst hes
   exact ⟨.leaf,.nil d [],by simp [Sk.blocks],by simp [Sk.blocks],_,rfl⟩
  | false =>
   have hsz : sz = d := by simpa using hsz
   subst hsz
   simp only [Bool.false_eq_true,if_false] at h2
   obtain ⟨⟨ab,ao,asp⟩,rfl,ha1,ha2,ha3⟩ := h2
   simp only at ha1 ha2 ha3
   subst ha1 ha2
   obtain ⟨vs,elem,fz,g1,g2,g3,g4,g5,g6,g7,g8⟩ := hi.row hg
   have hfl := q7h es g6
   have hle : es.length * sz ≤ vs.size := by rw [g3]; exact Nat.mul_le_mul_right _ g5
   refine ⟨.node (ι γ).b (ι γ).cap (List.replicate es.flatten.length .leaf), ?_, ?_, ?_,_,rfl⟩
   ·refine .sl sz [] es (ι γ).b ao (ι γ).cap _ vs elem fz g1 g2 g3 g4 g5 (fun hc => by rw [ha3 hc]; simp) g6 (by simp) (fun i => (vs[i]?).getD undef) (fun i hlt => ?_) (fun i p k a c => ?_)
    ·have : i < vs.size := by omega
     simp [this]
    ·obtain ⟨e,e1,e2⟩ := q81 g4 es g6 i p a
     obtain ⟨v0,k1,k2⟩ := g8 _ e _ p e1 e2
     rw [show i / sz * sz + i % sz = i by rw [Nat.mul_comm]; exact Nat.div_add_mod i sz] at k1
     have hk : k = .leaf := by
      have := List.mem_of_getElem? c
      exact (List.mem_replicate.1 this).2
     subst hk
     simp only [k1,Option.getD_some]
     exact .bn p v0 (zpq hsc (List.mem_of_getElem? e1) (List.mem_of_getElem? e2)) k2
   ·have : (List.replicate es.flatten.length Sk.leaf).flatMap Sk.blocks = [] := by
     rw [List.flatMap_eq_nil_iff]
     intro x hx
     rw [(List.mem_replicate.1 hx).2]
     simp [Sk.blocks]
    simp only [Sk.blocks,this]
    simp
   ·intro x hx
    have : (List.replicate es.flatten.length Sk.leaf).flatMap Sk.blocks = [] := by
     rw [List.flatMap_eq_nil_iff]
     intro x hx
     rw [(List.mem_replicate.1 hx).2]
     simp [Sk.blocks]
    simp only [Sk.blocks,this,List.mem_singleton] at hx
    exact ⟨rfl,.inl hx⟩
 ·rename_i isnil ds' es
  split at hp
  ·cases hp
  rename_i d1 ds1
  split at hp <;> cases hp
  rename_i hc
  obtain ⟨rfl,rfl,rfl⟩ := hc
  obtain ⟨_,h2⟩ := h _ _ _ rfl rfl
  cases isnil with
  | true =>
   simp only [if_true] at h2
   subst h2
   have hes : es = [] := (hi.blk γ _ hg).1
   subst hes
   exact ⟨.leaf,.nil 1 _,by simp [Sk.blocks],by simp [Sk.blocks],_,rfl⟩
  | false =>
   simp only [Bool.false_eq_true,if_false] at h2
   obtain ⟨⟨ab,ao,asp⟩,rfl,ha1,ha2,ha3⟩ := h2
   simp only at ha1 ha2 ha3
   subst ha1 ha2
   obtain ⟨vs,elem,fz,g1,g2,g3,g4,g5,g6,g7,g8,g9⟩ := hi.qh hg
   have hlen : (es.map fun p => [p]).length = es.length := by simp
   refine ⟨.node (ι γ).b (ι γ).cap (ι γ).ks, ?_, ?_, ?_,_,rfl⟩
   ·have := jg.sl (w := w) (Im := Im) 1 (d1 :: ds1) (es.map fun p => [p]) (ι γ).b ao (ι γ).cap (ι γ).ks vs elem fz g1 g2 (by simpa using g3) (by omega) (by simpa using g4) (fun hc => by have := ha3 hc; omega) (fun e he => by
     obtain ⟨q,_,rfl⟩ := List.mem_map.1 he
     rfl) (by rw [q65]; exact g5) (fun i => (vs[i]?).getD undef) (fun i hlt => by
     rw [q65] at hlt
     have : i < vs.size := by omega
     simp [this]) (fun i p k a c => by
     rw [q65] at a
     obtain ⟨v0,k1,k2,_⟩ := g9 i p k a c
     simp only [k1,Option.getD_some]
     exact k2 fun _ _ _ h => by cases h)
    rw [hlen] at this
    exact this
   ·simp only [Sk.blocks]
    exact g6
   ·intro x hx
    simp only [Sk.blocks,List.mem_cons] at hx
    exact ⟨rfl,hx.imp id fun h => ⟨rfl,h⟩⟩
 ·cases hp
theorem qjf (hi : qa w H ι Im) (β : Nat) : ∃ ι',qa w (q4e H β) ι' Im ∧ Evo w H ι Im w (q4e H β) ι' Im ∧ ∀ δ b,(q4e H β).get δ = some b → ∃ b0,H.get δ = some b0 := by
 have stay : ∃ ι',qa w H ι' Im ∧ Evo w H ι Im w H ι' Im ∧ ∀ δ b,H.get δ = some b → ∃ b0,H.get δ = some b0 := ⟨ι,hi,Evo.refl _ _ _ _,fun _ b h => ⟨b,h⟩⟩
 unfold q4e
 split
 ·rename_i d ds es i γ ver hb
  split
  ·rename_i b hg
   split
   ·rename_i p hp
    obtain ⟨vs,elem,fz,h1,h2,h3,h4,h5,h6,h7,h8,h9⟩ := hi.qh hb
    obtain ⟨hn1,hn2⟩ := List.nodup_cons.1 h6
    have hil := h8 _ _ _ rfl
    obtain ⟨v,k1,_,k3⟩ := h9 i es[i] (ι β).ks[i] (by simp [hil]) (by simp)
    obtain ⟨k4,k5⟩ := k3 _ _ rfl
    obtain ⟨k,m1,m2,m3,⟨sh,m4⟩⟩ := qy1 hi hg hp k5
    have hne : β ≠ γ := by
     intro e
     subst e
     rw [hb] at hg
     cases hg
     simp [q4i] at hp
    have hdisj : ∀ x ∈ k.blocks,¬ (Blk.qh false (d :: ds) es (some (i,γ,ver))).foot (ι β) x := fun x hx hf => hne (hi.inj β γ _ _ x hb hg hf (m3 x hx))
    have pb : qg (qg ι β ⟨(ι β).b,(ι β).cap,(ι β).ks.set i k⟩) γ (ι γ) β = ⟨(ι β).b,(ι β).cap,(ι β).ks.set i k⟩ := by rw [wy _ _ hne]; simp
    refine ⟨qg (qg ι β ⟨(ι β).b,(ι β).cap,(ι β).ks.set i k⟩) γ (ι γ), ?_⟩
    have gg := q3y hi hne (y := .qh false (d :: ds) (es.set i p) none) (z := .dead) (p := ⟨(ι β).b,(ι β).cap,(ι β).ks.set i k⟩) (q := ι γ) hb (by simp [qo,Blk.sh,Pl.same]) (fun c hc => by
      rw [hg] at hc
      cases hc
      unfold qo
      rw [m4]
      rfl)
     (fun t ht => by
      rcases ht.2 with h | ⟨_,h⟩
      ·exact .inl ⟨rfl,.inl h⟩
      ·rcases q5v h with h | h
       ·exact .inl ⟨rfl,.inr ⟨rfl,h⟩⟩
       ·exact .inr ⟨b,hg,m3 t h⟩) (fun t ht => absurd ht.1 (by simp [Blk.used])) (fun t _ ht => absurd ht.1 (by simp [Blk.used]))
     (fun hev => by
      refine ⟨vs,elem,fz,by rw [pb]; exact h1,h2,by rw [pb]; exact h3,by rw [pb]; simpa using h4,by rw [pb]; simpa using h5, ?_,fun x hx => ?_,fun _ _ _ h => (by cases h),fun i' p' k' a c => ?_⟩
      ·rw [pb]
       refine List.nodup_cons.2 ⟨fun h => ?_,qch hn2 m2 fun x hx h => hdisj x hx ⟨rfl,.inr ⟨rfl,h⟩⟩⟩
       rcases q5v h with h | h
       ·exact hn1 h
       ·exact hdisj _ h ⟨rfl,.inl rfl⟩
      ·rw [pb] at hx
       rcases q5v hx with h | h
       ·exact h7 x h
       ·exact (hi.blk γ b hg).mf (m3 x h)
      ·rw [pb] at c
       by_cases e : i = i'
       ·subst e
        rw [List.getElem?_set_self (by omega)] at a c
        cases a
        cases c
        exact ⟨v,k1,fun _ => m1,fun _ _ h => by cases h⟩
       ·rw [List.getElem?_set_ne e] at a c
        obtain ⟨v',g1,g2,_⟩ := h9 i' p' k' a c
        exact ⟨v',g1,fun _ => g2 fun j γ' ver' hf => by cases hf; exact fun e' => e e'.symm,fun _ _ h => by cases h⟩)
     (fun _ => trivial)
    refine ⟨gg.1,gg.2,fun δ b' hδ => ?_⟩
    rw [Heap.get_put] at hδ
    split at hδ
    ·rename_i e; subst e; exact ⟨_,hg⟩
    ·rw [Heap.get_put] at hδ
     split at hδ
     ·rename_i e; subst e; exact ⟨_,hb⟩
     ·exact ⟨_,hδ⟩
   ·exact stay
  ·exact stay
 ·exact stay
theorem qao : ∀ (n : Nat) {H : Heap} {ι : Plc},qa w H ι Im → ∀ β,∃ ι',qa w (q2y n H β) ι' Im ∧ Evo w H ι Im w (q2y n H β) ι' Im ∧ ∀ δ b,(q2y n H β).get δ = some b → ∃ b0,H.get δ = some b0
 | 0,H,ι,hi,β => ⟨ι,hi,Evo.refl _ _ _ _,fun _ b h => ⟨b,h⟩⟩
 | n + 1,H,ι,hi,β => by
  unfold q2y
  split
  ·rename_i x hb
   obtain ⟨ι1,a1,a2,a3⟩ := qao n hi x.2.1
   obtain ⟨ι2,b1,b2,b3⟩ := qjf a1 β
   exact ⟨ι2,b1,a2.trans b2,fun δ b h => by
    obtain ⟨b0,h0⟩ := b3 δ b h
    exact a3 δ b0 h0⟩
  ·exact ⟨ι,hi,Evo.refl _ _ _ _,fun _ b h => ⟨b,h⟩⟩
theorem qqa (hi : qa w H ι Im) {nx : Nat} (hnx : ∀ β b,H.get β = some b → β < nx) {β n l : Nat} {b y : Blk} (hb : H.get β = some b) (hc : q4v n b = some (l,y)) :
  ∃ ι',qa w ((H.put β .dead).put nx y) ι' Im ∧ Evo w H ι Im w ((H.put β .dead).put nx y) ι' Im ∧ (∀ v,RA w H ι Im (.row β l 0 n) v → RA w ((H.put β .dead).put nx y) ι' Im (.row nx n 0 n) v) ∧
   ∀ δ b,((H.put β .dead).put nx y).get δ = some b → δ < nx + 1 := by
 have hne : β ≠ nx := fun e => by have := hnx β _ hb; omega
 have hfresh : H.get nx = none := by
  cases hh : H.get nx with
  | none => rfl
  | some b => have := hnx nx b hh; omega
 have hgn : ((H.put β .dead).put nx y).get nx = some y := by simp [Heap.get_put]
 have hlt : ∀ δ b,((H.put β .dead).put nx y).get δ = some b → δ < nx + 1 := fun δ b hδ => by
  rw [Heap.get_put] at hδ
  split at hδ
  ·omega
  ·rw [Heap.get_put] at hδ
   split at hδ
   ·rename_i e
    have := hnx β _ hb
    omega
   ·have := hnx δ b hδ
    omega
 have head : ∀ (ι' : Plc) (sz : Nat),(ι' nx).b = (ι β).b → (ι' nx).cap = (ι β).cap → y.sh = some (false,sz,n) → b.sh = some (false,sz,l) → ∀ v,RA w H ι Im (.row β l 0 n) v → RA w ((H.put β .dead).put nx y) ι' Im (.row nx n 0 n) v := by
  intro ι' sz e1 e2 hy hbs v hv
  cases hv with
  | row _ _ _ _ _ b' ho hb' hk hver h =>
  rw [hb] at hb'
  cases hb'
  obtain ⟨_,h2⟩ := h _ _ _ hbs rfl
  refine .row _ _ _ _ _ _ ho hgn (fun _ => ⟨_,_,_,hy⟩) (fun _ _ _ e => by rw [hy] at e; cases e; exact Nat.le_refl _) (fun _ _ _ e _ => ?_)
  rw [hy] at e
  cases e
  refine ⟨by simp, ?_⟩
  simp only [Bool.false_eq_true,if_false] at h2 ⊢
  rw [e1,e2]
  exact h2
 unfold q4v at hc
 split at hc
 ·rename_i sz es
  split at hc <;> cases hc
  rename_i hle
  obtain ⟨vs,elem,fz,g1,g2,g3,g4,g5,g6,g7,g8⟩ := hi.row hb
  have pn : qg (qg ι β (ι β)) nx (ι β) nx = ι β := by simp
  have gg := q3y hi hne (y := .dead) (z := .row false sz (es.take n)) (p := ι β) (q := ι β) hb (by simp [qo,Blk.sh]) (fun c hc => by rw [hfresh] at hc; cases hc)
   (fun t ht => absurd ht.1 (by simp [Blk.used])) (fun t ht => .inl ⟨rfl,ht.2.imp id fun h => absurd h.1 (by simp [Blk.isO])⟩) (fun t ht _ => absurd ht.1 (by simp [Blk.used])) (fun _ => trivial)
   (fun hev => ⟨vs,elem,fz,by rw [pn]; exact g1,g2,by rw [pn]; exact g3,g4,by rw [pn,List.length_take]; omega,fun e he => g6 e (List.mem_of_mem_take he),fun i e j p a c => by
     rw [List.getElem?_take] at a
     split at a
     ·exact g7 i e j p a c
     ·(cases a),fun i e j p a c => by
     rw [List.getElem?_take] at a
     split at a
     ·exact g8 i e j p a c
     ·(cases a)⟩)
  exact ⟨_,gg.1,gg.2,head _ sz (by rw [pn]) (by rw [pn]) (by simp [Blk.sh]; omega) rfl,hlt⟩
 ·rename_i isnil dims es
  split at hc <;> cases hc
  rename_i hle
  cases isnil
  rotate_left
  ·obtain ⟨hes,_⟩ : es = [] ∧ (none : Option (Nat × Nat × Nat)) = none := hi.blk β _ hb
   subst hes
   have hn0 : n = 0 := by simpa using hle
   subst hn0
   have gg := q3y hi hne (y := .dead) (z := .qh true dims [] none) (p := ι β) (q := ⟨0,0,[]⟩) hb (by simp [qo,Blk.sh]) (fun c hc => by rw [hfresh] at hc; cases hc)
    (fun t ht => absurd ht.1 (by simp [Blk.used])) (fun t ht => absurd ht.1 (by simp [Blk.used])) (fun t ht _ => absurd ht.1 (by simp [Blk.used])) (fun _ => trivial) (fun _ => ⟨rfl,rfl⟩)
   refine ⟨_,gg.1,gg.2,fun v hv => ?_,hlt⟩
   cases hv with
   | row _ _ _ _ _ b' ho hb' hk hver h =>
   rw [hb] at hb'
   cases hb'
   obtain ⟨_,h2⟩ := h _ _ _ rfl rfl
   simp only [if_true] at h2
   subst h2
   exact .row _ _ _ _ _ (.qh true dims [] none) rfl hgn (fun _ => ⟨_,_,_,rfl⟩) (fun _ _ _ e => by cases e; exact Nat.le_refl _) (fun _ _ _ e _ => by cases e; exact ⟨by simp,rfl⟩)
  obtain ⟨vs,elem,fz,h1,h2,h3,h4,h5,h6,h7,h8,h9⟩ := hi.qh hb
  obtain ⟨hn1,hn2⟩ := List.nodup_cons.1 h6
  have pn : qg (qg ι β (ι β)) nx ⟨(ι β).b,(ι β).cap,(ι β).ks.take n⟩ nx = ⟨(ι β).b,(ι β).cap,(ι β).ks.take n⟩ := by simp
  have hsub : ((ι β).ks.take n).flatMap Sk.blocks ⊆ (ι β).ks.flatMap Sk.blocks := fun x hx => by
   obtain ⟨k,hk,hx⟩ := List.mem_flatMap.1 hx
   exact List.mem_flatMap.2 ⟨k,List.mem_of_mem_take hk,hx⟩
  have hnd : (((ι β).ks.take n).flatMap Sk.blocks).Nodup := by
   have : (ι β).ks.flatMap Sk.blocks = ((ι β).ks.take n).flatMap Sk.blocks ++ ((ι β).ks.drop n).flatMap Sk.blocks := by rw [← List.flatMap_append,List.take_append_drop]
   rw [this,List.nodup_append] at hn2
   exact hn2.1
  have gg := q3y hi hne (y := .dead) (z := .qh false dims (es.take n) none) (p := ι β) (q := ⟨(ι β).b,(ι β).cap,(ι β).ks.take n⟩) hb (by simp [qo,Blk.sh]) (fun c hc => by rw [hfresh] at hc; cases hc)
   (fun t ht => absurd ht.1 (by simp [Blk.used])) (fun t ht => .inl ⟨rfl,ht.2.imp id fun h => ⟨rfl,hsub h.2⟩⟩) (fun t ht _ => absurd ht.1 (by simp [Blk.used])) (fun _ => trivial)
   (fun hev => by
    refine ⟨vs,elem,fz,by rw [pn]; exact h1,h2,by rw [pn]; exact h3,by rw [pn,List.length_take]; simp only; omega,by rw [pn,List.length_take,List.length_take,h5],by rw [pn]; exact List.nodup_cons.2 ⟨fun h => hn1 (hsub h),hnd⟩,fun x hx => h7 x (by rw [pn] at hx; exact hsub hx),fun _ _ _ h => (by cases h),fun i p k a c => ?_⟩
    rw [pn] at c
    simp only [List.getElem?_take] at a c
    split at a
    ·rename_i hlt
     rw [if_pos hlt] at c
     obtain ⟨v,j1,j2,_⟩ := h9 i p k a c
     exact ⟨v,j1,j2,fun _ _ h => by cases h⟩
    ·cases a)
  exact ⟨_,gg.1,gg.2,head _ 1 (by rw [pn]) (by rw [pn]) (by simp [Blk.sh]; omega) rfl,hlt⟩
 ·cases hc
theorem qru {sz : Nat} {v : Value} (h : RA w H ι Im (.pv (.sl true sz [])) v) : v = .slice none 0 0 := by
 cases h with
 | pv _ _ h => cases h; rfl
theorem q9x {a : Act} {s : St} {nt : Nat} (h : Inv w a s ι Im nt) {H1 : Heap} {ι1 : Plc} {nx1 : Nat} (hi1 : qa w H1 ι1 Im) (e1 : Evo w s.heap ι Im w H1 ι1 Im) (hnx : ∀ β b,H1.get β = some b → β < nx1)
  (hbox : ∀ β c,s.heap.get β = some (.box c) → H1.get β = some (.box c)) {t : Nat} {x : AV} (hx : ∀ v,RA w s.heap ι Im (yz s t) v → RA w H1 ι1 Im x v) (hfl : x.flat = true) :
  ∃ ι',Inv w a (q3p { s with heap := H1,nx := nx1 } t x) ι' Im nt ∧ Evo w s.heap ι Im w (q3p { s with heap := H1,nx := nx1 } t x).heap ι' Im := by
 have h1 : Inv w a { s with heap := H1,nx := nx1 } ι1 Im nt := ⟨hi1,fun t => (h.env t).mono h.heap e1,hnx,h.size,h.defers⟩
 unfold q3p
 split
 ·rename_i ht
  refine ⟨ι1,⟨hi1,fun t' => ?_,hnx,h.size,h.defers⟩,e1⟩
  show RA w H1 ι1 Im (Env.get ((t,x) :: s.env) t') _
  simp only [Env.get]
  split
  ·rename_i e
   subst e
   refine hx _ ?_
   unfold yz
   rw [if_pos ht]
   exact h.env t
  ·exact (h.env t').mono h.heap e1
 ·rename_i ht
  split
  rotate_left
  ·exact ⟨ι1,h1,e1⟩
  rename_i β o hp
  split
  rotate_left
  ·exact ⟨ι1,h1,e1⟩
  rename_i c hb
  split
  rotate_left
  ·exact ⟨ι1,h1,e1⟩
  rename_i hlt
  have hp' : s.env.get (t % 1000) = .ptr β o := hp
  have hb' : H1.get β = some (.box c) := hb
  have hb0 : s.heap.get β = some (.box c) := by
   have he := h.env (t % 1000)
   rw [hp'] at he
   generalize a.tmps.getD (t % 1000) undef = u at he
   cases he with
   | ptr _ _ b hbb hk =>
    cases b <;> simp only [Blk.q7u,Bool.false_eq_true] at hk
    ·rename_i c0
     have := hbox β c0 hbb
     rw [this] at hb'
     cases hb'
     exact hbb
    ·rename_i t0 c0
     obtain ⟨b',g,hc⟩ := e1.comp β _ hbb
     rw [hb'] at g
     cases g
     exact (hc : False).elim
  have hsv : ∀ v0,c[o + (t / 1000 - 1)]? = some v0 → yz s t = v0 := fun v0 hv0 => by
   unfold yz
   rw [if_neg ht,hp']
   simp only
   rw [hb0]
   simp only
   rw [hv0]
  obtain ⟨h2,e2⟩ := qa.put (hno := noO hb' rfl) (w' := w) hi1 β (.box (c.set (o + (t / 1000 - 1)) x)) (ι1 β) (fun y hy => by rw [hb'] at hy; cases hy; rfl) ⟨Nat.le_refl _,rfl,rfl⟩ (fun _ _ _ => rfl)
   (fun _ => .inr ⟨_,hb',rfl,rfl⟩) (fun he => by
    obtain ⟨vs,elem,fz,q1,q2,q3,q4,q5⟩ := hi1.box hb'
    refine ⟨vs,elem,fz,by simpa using q1,q2,by simpa using q3,fun y hy => ?_,fun i y v hy hv => ?_⟩
    ·rcases List.mem_or_eq_of_mem_set hy with hy | rfl
     ·exact q4 y hy
     ·exact hfl
    ·rw [List.getElem?_set] at hy
     split at hy
     ·rename_i e
      subst e
      cases hy
      obtain ⟨vs0,elem0,fz0,p1,p2,p3,p4,p5⟩ := h.heap.box hb0
      have hcomp := e1.comp β _ hb0
      obtain ⟨b',g,hc⟩ := hcomp
      rw [hb'] at g
      cases g
      have hpl : ι β = ι1 β := hc
      rw [← hpl,p1] at q1
      cases q1
      refine (hx v ?_).mono hi1 he
      rw [hsv c[o + (t / 1000 - 1)] (by simp [hlt])]
      exact p5 _ _ v (by simp [hlt]) hv
     ·exact (q5 i y v hy hv).mono hi1 he)
  refine ⟨_,⟨h2,fun t' => ((h.env t').mono h.heap e1).mono hi1 e2,fun δ b hδ => ?_,h.size,h.defers⟩,e1.trans e2⟩
  have hδ' : (Heap.put H1 β (.box (c.set (o + (t / 1000 - 1)) x))).get δ = some b := hδ
  rw [Heap.get_put] at hδ'
  split at hδ'
  ·rename_i e; subst e; exact hnx _ _ hb'
  ·exact hnx δ b hδ'
theorem qu1 (hi : qa w H ι Im) {nx : Nat} (hnx : ∀ β b,H.get β = some b → β < nx) (dims : List Nat) :
  qa w (H.put nx (q3h dims)) (qg ι nx ⟨0,0,[]⟩) Im ∧ Evo w H ι Im w (H.put nx (q3h dims)) (qg ι nx ⟨0,0,[]⟩) Im := by
 have hfresh : H.get nx = none := by
  cases hh : H.get nx with
  | none => rfl
  | some b => have := hnx nx b hh; omega
 cases dims with
 | nil => exact qa.q1q hi nx (.row true 0 []) ⟨0,0,[]⟩ (fun x hx => by rw [hfresh] at hx; cases hx) ⟨Nat.le_refl _,rfl,rfl⟩ (fun _ _ _ => rfl) (fun z hz => absurd hz.1 (by simp [Blk.used])) (fun _ => rfl)
 | cons d ds => exact qa.q1q hi nx (.qh true (d :: ds) [] none) ⟨0,0,[]⟩ (fun x hx => by rw [hfresh] at hx; cases hx) ⟨Nat.le_refl _,rfl,rfl⟩ (fun _ _ _ => rfl) (fun z hz => absurd hz.1 (by simp [Blk.used])) (fun _ => ⟨rfl,rfl⟩)
theorem qea {a : Act} {s : St} {nt : Nat} (h : Inv w a s ι Im nt) (c : Cmd) : ∃ ι' Im',Inv w a (nk c s) ι' Im' nt ∧ Evo w s.heap ι Im w (nk c s).heap ι' Im' := by
 have stay : ∃ ι' Im',Inv w a s ι' Im' nt ∧ Evo w s.heap ι Im w s.heap ι' Im' := ⟨ι,Im,h,Evo.refl _ _ _ _⟩
 unfold nk
 split
 ·rename_i t is
  split
  ·rename_i β ver n l hs hl
   obtain ⟨ι1,a1,a2,a3⟩ := qak l (β := β) h.heap h.nx
   exact ⟨ι1,Im,⟨a1,fun t => (h.env t).mono h.heap a2,a3,h.size,h.defers⟩,a2⟩
  ·exact stay
 ·rename_i t
  split
  ·rename_i β ver off n hs
   obtain ⟨ι1,a1,a2,a3⟩ := qao 4 h.heap β
   exact ⟨ι1,Im,⟨a1,fun t => (h.env t).mono h.heap a2,fun δ b hδ => by obtain ⟨b0,h0⟩ := a3 δ b hδ; exact h.nx δ b0 h0,h.size,h.defers⟩,a2⟩
  ·exact stay
 ·rename_i t
  split
  rotate_left
  ·exact stay
  rename_i β ver n hs
  split
  rotate_left
  ·exact stay
  rename_i b hb
  split
  rotate_left
  ·exact stay
  rename_i l y hc
  split
  rotate_left
  ·exact stay
  rename_i hver
  subst hver
  obtain ⟨ι1,a1,a2,a3,a4⟩ := qqa h.heap h.nx hb hc
  refine Exists.imp (fun ι2 hh => ⟨Im,hh⟩) ?_
  refine q9x h a1 a2 a4 (fun γ c hγ => ?_) (fun v hv => a3 v (by rw [hs] at hv; exact hv)) rfl
  have e1 : γ ≠ β := by
   intro e
   subst e
   rw [hb] at hγ
   cases hγ
   simp [q4v] at hc
  have e2 : γ ≠ s.nx := fun e => by have := h.nx γ _ hγ; omega
  simp [Heap.get_put,e1,e2,hγ]
 ·rename_i t dims
  split
  rotate_left
  ·exact stay
  rename_i sz hs
  obtain ⟨a1,a2⟩ := qu1 h.heap h.nx dims
  refine Exists.imp (fun ι2 hh => ⟨Im,hh⟩) ?_
  refine q9x h a1 a2 (fun δ b hδ => ?_) (fun γ c hγ => ?_) (fun v hv => ?_) rfl
  ·rw [Heap.get_put] at hδ
   split at hδ
   ·omega
   ·have := h.nx δ b hδ
    omega
  ·have e2 : γ ≠ s.nx := fun e => by have := h.nx γ _ hγ; omega
   simp [Heap.get_put,e2,hγ]
  ·rw [hs] at hv
   rw [qru hv]
   cases dims with
   | nil => exact .row _ _ _ _ _ (.row true 0 []) rfl (by simp [Heap.get_put,q3h]) (fun _ => ⟨_,_,_,rfl⟩) (fun _ _ _ e => by cases e; exact Nat.le_refl _) (fun _ _ _ e _ => by cases e; exact ⟨by simp,rfl⟩)
   | cons d ds => exact .row _ _ _ _ _ (.qh true (d :: ds) [] none) rfl (by simp [Heap.get_put,q3h]) (fun _ => ⟨_,_,_,rfl⟩) (fun _ _ _ e => by cases e; exact Nat.le_refl _) (fun _ _ _ e _ => by cases e; exact ⟨by simp,rfl⟩)
 ·rename_i t
  obtain ⟨Im1,h1,e1⟩ := q2h (q9n s (yz s t)) h
  exact ⟨ι,Im1,h1,e1⟩
theorem q5c {a : Act} {nt : Nat} : ∀ (l : List Cmd) {s : St} {ι : Plc} {Im : Nat → Prop},Inv w a s ι Im nt → ∃ ι' Im',Inv w a (zh l s) ι' Im' nt ∧ Evo w s.heap ι Im w (zh l s).heap ι' Im'
 | [],s,ι,Im,h => ⟨ι,Im,h,Evo.refl _ _ _ _⟩
 | c :: r,s,ι,Im,h => by
  obtain ⟨ι1,Im1,a1,a2⟩ := qea h c
  obtain ⟨ι2,Im2,b1,b2⟩ := q5c r a1
  exact ⟨ι2,Im2,b1,a2.trans b2⟩
end
end Go.Gm
namespace Go.Gm
open Go
theorem z03 {P : Program} (h : P.funcs.any Func.goes = false) (f : FuncId) : P.goes f = false := by
 have h1 : ∀ g : Nat,(P.funcs[g]?).any Func.goes = false := by
  intro g
  cases hg : P.funcs[g]? with
  | none => rfl
  | some fn =>
   obtain ⟨hl,he⟩ := Array.getElem?_eq_some_iff.1 hg
   have := (Array.any_eq_false.1 h) g hl
   rw [he] at this
   simpa using this
 unfold Program.goes
 rw [h]
 simp [h1]
theorem qf4 {P : Program} (h : P.funcs.any Func.goes = false) (func : String) : P.goesAt .entering func = false := by
 unfold Program.goesAt Program.goesFrom
 cases P.funcNamed func with
 | none => rfl
 | some f => simp [z03 h]
theorem qv2 {P : Program} {f : FuncId} {fn : Func} {s : ChangeSpec} {c : OpenClaim} (h1 : (c.inPlace == P.inPlace f) = true) (h2 : (c.unfollowed == P.unfollowed f) = true) (h3 : (c.recurses == P.recurses f) = true) (h4 : (c.named == P.varsNamed f) = true)
  (h : (c.wf (OpenSpec.ofChange s) && laidOutB P && mapsRowed P && fn.params.all (P.readableRec ·) && namedTie P c.named s.vars && (c.stops == []) && (P.stops == []) && (c.knobs == []) && (P.stopKnobs == []) && (c.maps == (fn.params.toList ++ s.plain.varTypes P).any (P.mapsRec ·)) && (c.ifaces == (fn.params.toList ++ s.plain.varTypes P).any (P.ifacesRec ·)) && (c.mapsOut == P.mapsAmong fn.resultTypes.toList) && (c.loops == (fn.params.toList ++ s.plain.varTypes P).any (P.loopsFrom ·)) && (c.wideKeys == (fn.params.toList ++ s.plain.varTypes P ++ fn.resultTypes.toList).any (P.wideKeysFrom ·)) && s.vars.all (P.varReadable ·) && fn.resultTypes.all (fun t => P.readableRec t && decide (t < P.types.size)) && (c.ifacesOut == fn.resultTypes.toList.any (P.ifacesRec ·)) && (c.loopsOut == fn.resultTypes.toList.any (P.loopsFrom ·)) && (c.plainKeys == P.plainKeys) && c.shortTexts.isNone && P.stopsHeard && P.mayEnter && (c.lifted == P.liftsFinal) && (P.make == some c.make) && (c.kinds == (if c.domain.isEmpty then [] else fn.params.toList.map fun t => match P.underlying t with | some (.int k) => some k | _ => none)) && (c.pinned == c.pinnedBy) && (c.veiled == (fn.params.toList ++ s.plain.varTypes P ++ fn.resultTypes.toList).any (P.veiledRec ·)) && c.veiledFits P fn.params.toList (fn.params.toList ++ s.plain.varTypes P ++ fn.resultTypes.toList)) = true) : joinedFacts P f fn s c = true := by
 unfold joinedFacts
 simp only [h1,h2,h3,h4,Bool.and_true]
 exact h
end Go.Gm
set_option linter.unusedSectionVars false
namespace Go.Gm
open Go
section
variable [Globs] {P : Program} {w : World} {H : Heap} {ι : Plc} {Im : Nat → Prop}
theorem yx (g : Nat → Nat) : ∀ (l : List AV) (i : Nat),(AV.ren.renL g l)[i]? = (l[i]?).map (AV.ren g)
 | [],i => by simp [AV.ren.renL]
 | x :: r,i => by
  cases i with
  | zero => simp [AV.ren.renL]
  | succ i => simp [AV.ren.renL,yx g r i]
theorem pq (g : Nat → Nat) : ∀ (l : List AV),(AV.ren.renL g l).length = l.length
 | [] => rfl
 | x :: r => by simp [AV.ren.renL,pq g r]
theorem q53 (g : Nat → Nat) {x : AV} (h : x.flat = true) : (x.ren g).flat = true := by
 cases x <;> simp [AV.flat] at h <;> first | rfl | exact h
theorem jv {β : Nat} : ∀ {l : List AV} {i : Nat} {x : AV},l[i]? = some x → β ∈ x.refs → β ∈ AV.refs.refsL l
 | [],i,x,h,_ => by simp at h
 | y :: r,i,x,h,hβ => by
  simp only [AV.refs.refsL,List.mem_append]
  cases i with
  | zero => simp at h; subst h; exact .inl hβ
  | succ i => exact .inr (jv (by simpa using h) hβ)
theorem q1y (g : Nat → Nat) (b : Blk) : (b.ren g).sh = b.sh := by
 cases b <;> simp [Blk.ren,Blk.sh]
theorem qb3 {x y : Blk} {p q : Pl} (g : Nat → Nat) (h : qo x y p q) : qo x (y.ren g) p q := by
 unfold qo at *
 rw [q1y]
 cases hx : x.sh with
 | some a =>
  cases hy : y.sh with
  | some b => rw [hx,hy] at h; exact h
  | none =>
   rw [hx,hy] at h
   have h' : y = .dead := h
   subst h'
   rfl
 | none =>
  cases hy : y.sh with
  | some b => rw [hx,hy] at h; exact h
  | none =>
   rw [hx,hy] at h
   cases x <;> cases y <;> first | exact h | exact (h : False).elim
theorem q0l {H' : Heap} {ι' : Plc} (g : Nat → Nat) {x : AV} {v : Value} (hx : RA w H ι Im x v)
  (hg : ∀ β ∈ x.refs,∀ b,H.get β = some b → H'.get (g β) = some (b.ren g) ∧ (ι' (g β)) = ι β) : RA w H' ι' Im (x.ren g) v := by
 induction hx with
 | undef v => exact .undef v
 | pv p v h => exact .pv p v h
 | ptr β o c hb hk =>
  obtain ⟨h1,h2⟩ := hg β (by simp [AV.refs]) _ hb
  rw [← h2]
  exact .ptr (g β) o _ h1 (by cases c <;> first | rfl | cases hk)
 | eptr β ver i o b1 o1 b hb hver h =>
  obtain ⟨h1,h2⟩ := hg β (by simp [AV.refs]) _ hb
  refine .eptr (g β) ver i o b1 o1 _ h1 (fun isnil sz es e => ?_) (fun isnil sz es e => ?_)
  ·rw [q1y] at e
   exact hver _ _ _ e
  ·rw [q1y] at e
   rw [h2]
   exact h _ _ _ e
 | row β ver off n v b ho hb hk hver h =>
  obtain ⟨h1,h2⟩ := hg β (by simp [AV.refs]) _ hb
  refine .row (g β) ver off n v _ ho h1 (fun h0 => ?_) (fun isnil sz es e => ?_) (fun isnil sz es e => ?_)
  ·rw [q1y]
   exact hk (fun e => h0 (by rw [e]; rfl))
  ·rw [q1y] at e
   exact hver _ _ _ e
  ·rw [q1y] at e
   rw [h2]
   exact h _ _ _ e
 | rptr c o b off vs him hc hf h => exact .rptr c o b off vs him hc hf h
 | zsl a => exact .zsl a
 | map β es clock hb =>
  obtain ⟨h1,h2⟩ := hg β (by simp [AV.refs]) _ hb
  rw [← h2]
  exact .map (g β) es clock h1
 | qj β es clock hb =>
  obtain ⟨h1,h2⟩ := hg β (by simp [AV.refs]) _ hb
  rw [← h2]
  exact .qj (g β) _ clock h1
 | clo f a b va vb hla hlb _ _ iha ihb =>
  refine .clo f _ _ va vb (by rw [pq,hla]) (by rw [pq,hlb]) (fun i x v h1 h2 => ?_) (fun i x v h1 h2 => ?_)
  ·rw [yx] at h1
   simp only [Option.map_eq_some_iff] at h1
   obtain ⟨y,hy,rfl⟩ := h1
   exact iha i y v hy h2 fun β hβ => hg β (by simp only [AV.refs,List.mem_append]; exact .inl (jv hy hβ))
  ·rw [yx] at h1
   simp only [Option.map_eq_some_iff] at h1
   obtain ⟨y,hy,rfl⟩ := h1
   exact ihb i y v hy h2 fun β hβ => hg β (by simp only [AV.refs,List.mem_append]; exact .inr (jv hy hβ))
 | agg c vs hl hf _ ih =>
  refine .agg _ vs (by rw [pq,hl]) (fun x hx => ?_) (fun i x v h1 h2 => ?_)
  ·obtain ⟨i,hi⟩ := List.getElem?_of_mem hx
   rw [yx] at hi
   simp only [Option.map_eq_some_iff] at hi
   obtain ⟨y,hy,rfl⟩ := hi
   exact q53 g (hf y (List.mem_of_getElem? hy))
  ·rw [yx] at h1
   simp only [Option.map_eq_some_iff] at h1
   obtain ⟨y,hy,rfl⟩ := h1
   exact ih i y v hy h2 fun β hβ => hg β (by simp only [AV.refs]; exact jv hy hβ)
 | tup c vs hl _ ih =>
  refine .tup _ vs (by rw [pq,hl]) (fun i x v h1 h2 => ?_)
  rw [yx] at h1
  simp only [Option.map_eq_some_iff] at h1
  obtain ⟨y,hy,rfl⟩ := h1
  exact ih i y v hy h2 fun β hβ => hg β (by simp only [AV.refs]; exact jv hy hβ)
theorem Blk.qig (g : Nat → Nat) (b : Blk) : (b.ren g).used = b.used := by
 cases b <;> rfl
theorem Blk.zrr (g : Nat → Nat) (b : Blk) : (b.ren g).isO = b.isO := by
 cases b <;> rfl
theorem Blk.ym (g : Nat → Nat) (b : Blk) (q : Pl) (x : Nat) : (b.ren g).foot q x = b.foot q x := by
 unfold Blk.foot
 rw [Blk.qig,Blk.zrr]
theorem j6.ren {H' : Heap} {ι' : Plc} (g : Nat → Nat) {β β' : Nat} {b : Blk} (h : j6 w H ι Im β b) (hp : ι' β' = ι β)
  (hg : ∀ γ ∈ b.refs,∀ c,H.get γ = some c → H'.get (g γ) = some (c.ren g) ∧ (ι' (g γ)) = ι γ) : j6 w H' ι' Im β' (b.ren g) := by
 cases b with
 | box c =>
  obtain ⟨vs,elem,fz,q1,q2,q3,q4,q5⟩ := h
  refine ⟨vs,elem,fz,by rw [hp]; exact q1,q2,by rw [pq,q3],fun x hx => ?_,fun i x v a b => ?_⟩
  ·obtain ⟨i,hi⟩ := List.getElem?_of_mem hx
   rw [yx] at hi
   simp only [Option.map_eq_some_iff] at hi
   obtain ⟨y,hy,rfl⟩ := hi
   exact q53 g (q4 y (List.mem_of_getElem? hy))
  ·rw [yx] at a
   simp only [Option.map_eq_some_iff] at a
   obtain ⟨y,hy,rfl⟩ := a
   exact q0l g (q5 i y v hy b) fun γ hγ => hg γ (by simp only [Blk.refs]; exact jv hy hγ)
 | row isnil sz es =>
  cases isnil with
  | true => exact h
  | false =>
   obtain ⟨vs,elem,fz,q1,q2,q3,q4,q5,q6,q7,q8⟩ := h
   exact ⟨vs,elem,fz,by rw [hp]; exact q1,q2,by rw [hp]; exact q3,q4,by rw [hp]; exact q5,q6,q7,q8⟩
 | map es clock =>
  obtain ⟨ents,q1,q2,q3⟩ := h
  exact ⟨ents,by rw [hp]; exact q1,q2,q3⟩
 | za e isnil sz es =>
  cases isnil with
  | true => exact h
  | false =>
   obtain ⟨vs,fz,q1,q2,q3,q4,q5,q6,q7,q8⟩ := h
   exact ⟨vs,fz,by rw [hp]; exact q1,q2,by rw [hp]; exact q3,q4,by rw [hp]; exact q5,q6,q7,q8⟩
 | ql sz es =>
  obtain ⟨vs,elem,fz,q1,q2,q3,q4,q5,q6,q7,q8⟩ := h
  have get : ∀ (i : Nat) e (j : Nat) x,(es.map (AV.ren.renL g))[i]? = some e → e[j]? = some x → ∃ e0 y,es[i]? = some e0 ∧ e0[j]? = some y ∧ x = y.ren g := by
   intro i e j x h1 h2
   rw [List.getElem?_map,Option.map_eq_some_iff] at h1
   obtain ⟨e0,h1,rfl⟩ := h1
   rw [yx,Option.map_eq_some_iff] at h2
   obtain ⟨y,h2,rfl⟩ := h2
   exact ⟨e0,y,h1,h2,rfl⟩
  refine ⟨vs,elem,fz,by rw [hp]; exact q1,q2,by rw [hp]; exact q3,q4,by rw [hp]; simpa using q5,fun e he => ?_,fun i e j x a b => ?_,fun i e j x a b => ?_⟩
  ·obtain ⟨e0,h0,rfl⟩ := List.mem_map.1 he
   rw [pq]
   exact q6 e0 h0
  ·obtain ⟨e0,y,h1,h2,rfl⟩ := get i e j x a b
   exact q53 g (q7 i e0 j y h1 h2)
  ·obtain ⟨e0,y,h1,h2,rfl⟩ := get i e j x a b
   obtain ⟨v,k1,k2⟩ := q8 i e0 j y h1 h2
   exact ⟨v,k1,q0l g k2 fun γ hγ => hg γ (by
    simp only [Blk.refs,List.mem_flatMap]
    exact ⟨e0,List.mem_of_getElem? h1,jv h2 hγ⟩)⟩
 | z8 t c =>
  obtain ⟨vs,fz,q1,q2,q3,q4,q5⟩ := h
  refine ⟨vs,fz,by rw [hp]; exact q1,q2,by rw [pq,q3],fun x hx => ?_,fun i x v a b => ?_⟩
  ·obtain ⟨i,hi⟩ := List.getElem?_of_mem hx
   rw [yx] at hi
   simp only [Option.map_eq_some_iff] at hi
   obtain ⟨y,hy,rfl⟩ := hi
   exact q53 g (q4 y (List.mem_of_getElem? hy))
  ·rw [yx] at a
   simp only [Option.map_eq_some_iff] at a
   obtain ⟨y,hy,rfl⟩ := a
   exact q0l g (q5 i y v hy b) fun γ hγ => hg γ (by simp only [Blk.refs]; exact jv hy hγ)
 | qj es clock =>
  obtain ⟨ents,q1,q2,q3⟩ := h
  refine ⟨ents,by rw [hp]; exact q1,by simpa using q2,fun i k x born e a b => ?_⟩
  rw [List.getElem?_map,Option.map_eq_some_iff] at a
  obtain ⟨⟨k0,x0,b0⟩,a,q⟩ := a
  cases q
  obtain ⟨k1,k2,k3⟩ := q3 i _ x0 _ e a b
  exact ⟨k1,q0l g k2 fun γ hγ => hg γ (by
   simp only [Blk.refs,List.mem_flatMap]
   exact ⟨_,List.mem_of_getElem? a,hγ⟩),k3⟩
 | qh isnil ds es foc =>
  cases isnil with
  | true =>
   obtain ⟨q1,q2⟩ := h
   exact ⟨q1,by rw [q2]; rfl⟩
  | false =>
   obtain ⟨vs,elem,fz,q1,q2,q3,q4,q5,q6,q7,q8,q9⟩ := h
   refine ⟨vs,elem,fz,by rw [hp]; exact q1,q2,by rw [hp]; exact q3,by rw [hp]; exact q4,by rw [hp]; exact q5,by rw [hp]; exact q6,by rw [hp]; exact q7,fun j γ ver hf => ?_,fun i p k a b => ?_⟩
   ·rw [Option.map_eq_some_iff] at hf
    obtain ⟨⟨j0,γ0,ver0⟩,hf,e⟩ := hf
    cases e
    exact q8 _ _ _ hf
   ·obtain ⟨v,k1,k2,k3⟩ := q9 i p k a (by rw [← hp]; exact b)
    refine ⟨v,k1,fun hj => k2 fun j γ ver hf => hj j (g γ) ver (by rw [hf]; rfl),fun γ ver hf => ?_⟩
    rw [Option.map_eq_some_iff] at hf
    obtain ⟨⟨j0,γ0,ver0⟩,hf,e⟩ := hf
    cases e
    obtain ⟨k4,k5⟩ := k3 _ _ hf
    refine ⟨k4,q0l g k5 fun γ hγ => hg γ ?_⟩
    simp only [AV.refs,List.mem_singleton] at hγ
    subst hγ
    simp only [Blk.refs,hf,List.mem_singleton]
 | dead => trivial
theorem q4a : ∀ (L : List Nat) (x : Nat),u6 L x = true ↔ x ∈ L
 | [],x => by simp [u6]
 | β :: r,x => by
  simp only [u6,List.mem_cons]
  split
  ·rename_i h; subst h; simp
  ·rename_i h
   rw [q4a r x]
   constructor
   ·exact .inr
   ·rintro (h2 | h2)
    ·exact absurd h2.symm h
    ·exact h2
theorem q6h : ∀ (l L : List Nat),pz l L = true ↔ ∀ x ∈ l,x ∈ L
 | [],L => by simp [pz]
 | x :: r,L => by simp [pz,q4a,q6h r L]
theorem q3o : ∀ (L : List Nat) (x : Nat),x ∈ L → L[pos L x]? = some x
 | [],x,h => by cases h
 | β :: r,x,h => by
  simp only [pos]
  split
  ·rename_i e; simp [e]
  ·rename_i e
   have : x ∈ r := by
    rcases List.mem_cons.1 h with h | h
    ·exact absurd h.symm e
    ·exact h
   simpa using q3o r x this
theorem qbf {L : List Nat} {x : Nat} (h : x ∈ L) : pos L x < L.length := (List.getElem?_eq_some_iff.1 (q3o L x h)).1
theorem q37 : ∀ {L : List Nat},L.Nodup → ∀ {i : Nat} {x : Nat},L[i]? = some x → pos L x = i
 | [],_,i,x,h => by simp at h
 | β :: r,hn,i,x,h => by
  obtain ⟨h1,h2⟩ := List.nodup_cons.1 hn
  cases i with
  | zero => simp at h; simp [pos,h]
  | succ i =>
   simp at h
   have hx : x ∈ r := List.mem_of_getElem? h
   have hne : β ≠ x := fun e => h1 (e ▸ hx)
   simp [pos,hne,q37 h2 h]
theorem q6t (H : Heap) : ∀ (n : Nat) (todo d : List Nat),d.Nodup → (reach H n todo d).Nodup ∧ ∃ r,reach H n todo d = d ++ r
 | 0,todo,d,h => ⟨h,[],by simp [reach]⟩
 | n + 1,[],d,h => ⟨h,[],by simp [reach]⟩
 | n + 1,β :: r,d,h => by
  simp only [reach]
  split
  ·exact q6t H n r d h
  ·rename_i hm
   have hm' : β ∉ d := fun h => hm ((q4a d β).2 h)
   obtain ⟨h1,r',h2⟩ := q6t H n (r ++ (jh H β).refs) (d ++ [β]) (by
    rw [List.nodup_append]
    exact ⟨h,by simp,by
     intro a ha b hb e
     simp at hb
     subst hb e
     exact hm' ha⟩)
   exact ⟨h1,β :: r',by rw [h2]; simp⟩
theorem qck (H : Heap) (g : Nat → Nat) : ∀ (i : Nat) (L : List Nat) (j : Nat),(pick H g i L).get j = if i ≤ j ∧ j < i + L.length then (L[j - i]?).map fun β => (jh H β).ren g else none
 | i,[],j => by
  simp [pick,Heap.get]
 | i,β :: r,j => by
  simp only [pick,Heap.get,qck H g (i + 1) r j,List.length_cons]
  by_cases h : i = j
  ·subst h; simp
  ·rw [if_neg h]
   by_cases h2 : i + 1 ≤ j ∧ j < i + 1 + r.length
   ·rw [if_pos h2,if_pos (by omega)]
    obtain ⟨m,rfl⟩ : ∃ m,j = i + 1 + m := ⟨j - (i + 1),by omega⟩
    rw [show i + 1 + m - (i + 1) = m from by omega,show i + 1 + m - i = m + 1 from by omega]
    simp
   ·rw [if_neg h2,if_neg (by omega)]
theorem qcl (H : Heap) (g : Nat → Nat) : ∀ (i : Nat) (L : List Nat),(pick H g i L).length = L.length
 | _,[] => rfl
 | i,β :: r => by simp [pick,qcl H g (i + 1) r]
theorem q8l (H : Heap) (L : List Nat) : ∀ (l : List Nat),closedIn H L l = true → ∀ β ∈ l,∃ b,H.get β = some b ∧ ∀ γ ∈ b.refs,γ ∈ L
 | [],_,β,h => by cases h
 | x :: r,h,β,hβ => by
  simp only [closedIn,Bool.and_eq_true] at h
  rcases List.mem_cons.1 hβ with rfl | hβ
  ·cases hb : H.get β with
   | none => rw [hb] at h; simp at h
   | some b =>
    rw [hb] at h
    exact ⟨b,rfl,(q6h _ _).1 h.1⟩
  ·exact q8l H L r h.2 β hβ
structure q06 (H : Heap) (L : List Nat) (H0 : Heap) : Prop where
 nodup : L.Nodup
 look : ∀ j,H0.get j = (L[j]?).bind fun β => (H.get β).map (Blk.ren (pos L))
 has : ∀ β ∈ L,∃ b,H.get β = some b ∧ ∀ γ ∈ b.refs,γ ∈ L
 len : H0.length = L.length
theorem q5n {d roots : List Nat} (hd : d.Nodup) {L : List Nat} {H0 : Heap} (h : gp H d roots = some (L,H0)) :
  q06 H L H0 ∧ (∀ β ∈ roots,β ∈ L) ∧ ∃ r,L = d ++ r := by
 unfold gp at h
 split at h
 ·cases h
  exact ⟨⟨List.nodup_nil,fun j => by simp [Heap.get],by simp,rfl⟩,by simp,[],rfl⟩
 ·simp only at h
  split at h <;> cases h
  rename_i hc
  simp only [Bool.and_eq_true] at hc
  obtain ⟨h1,h2⟩ := q6t H 400 (roots ++ d.flatMap fun β => (jh H β).refs) d hd
  have hs := q8l H _ _ hc.2
  refine ⟨⟨h1,fun j => ?_,hs,qcl _ _ _ _⟩,(q6h _ _).1 hc.1,h2⟩
  rw [qck]
  simp only [Nat.zero_le,true_and,Nat.zero_add,Nat.sub_zero]
  generalize reach H 400 _ d = L at *
  by_cases hj : j < L.length
  ·rw [if_pos hj]
   have : L[j]? = some L[j] := by simp [hj]
   rw [this]
   obtain ⟨b,hb,_⟩ := hs L[j] (by simp)
   simp [jh,hb]
  ·rw [if_neg hj,List.getElem?_eq_none (by omega)]
   rfl
def kg (ι : Plc) (L : List Nat) : Plc := fun i => match L[i]? with | some β => ι β | none => ⟨0,0,[]⟩
theorem q06.conn {L : List Nat} {H0 : Heap} (h : q06 H L H0) {β : Nat} (hβ : β ∈ L) : ∀ b,H.get β = some b → H0.get (pos L β) = some (b.ren (pos L)) ∧ kg ι L (pos L β) = ι β := by
 intro b hb
 have := q3o L β hβ
 rw [h.look,this]
 simp [hb,kg,this]
theorem q06.inv {L : List Nat} {H0 : Heap} (h : q06 H L H0) {j : Nat} {b : Blk} (hj : H0.get j = some b) : ∃ β b0,L[j]? = some β ∧ H.get β = some b0 ∧ b = b0.ren (pos L) ∧ kg ι L j = ι β := by
 rw [h.look] at hj
 cases hL : L[j]? with
 | none => rw [hL] at hj; cases hj
 | some β =>
  rw [hL] at hj
  simp only [Option.bind_some,Option.map_eq_some_iff] at hj
  obtain ⟨b0,hb0,rfl⟩ := hj
  exact ⟨β,b0,rfl,hb0,rfl,by simp [kg,hL]⟩
theorem q06.hinv {L : List Nat} {H0 : Heap} (h : q06 H L H0) (hi : qa w H ι Im) : qa w H0 (kg ι L) Im where
 blk := fun j b hj => by
  obtain ⟨β,b0,h1,h2,rfl,h4⟩ := h.inv (ι := ι) hj
  refine (hi.blk β b0 h2).ren (pos L) h4 fun γ hγ => ?_
  obtain ⟨b1,q1,q2⟩ := h.has β (List.mem_of_getElem? h1)
  rw [h2] at q1
  cases q1
  exact h.conn (q2 γ hγ)
 inj := fun i j b c z hi' hj' ub uc => by
  obtain ⟨β,b0,h1,h2,rfl,h4⟩ := h.inv (ι := ι) hi'
  obtain ⟨γ,c0,k1,k2,rfl,k4⟩ := h.inv (ι := ι) hj'
  rw [Blk.ym,h4] at ub
  rw [Blk.ym,k4] at uc
  have := hi.inj β γ b0 c0 z h2 k2 ub uc
  subst this
  rw [← q37 h.nodup h1,← q37 h.nodup k1]
 im := hi.im
 nim := fun j b z hj hu => by
  obtain ⟨β,b0,h1,h2,rfl,h4⟩ := h.inv (ι := ι) hj
  rw [Blk.ym,h4] at hu
  exact hi.nim β b0 z h2 hu
 glb := hi.glb
 gim := hi.gim
end
end Go.Gm
