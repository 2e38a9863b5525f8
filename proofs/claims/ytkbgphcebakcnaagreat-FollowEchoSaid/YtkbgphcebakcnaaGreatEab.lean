/-
  The machine, part b.
-/
import Derived.Test.YtkbgphcebakcnaaGreatEaa
import Derived.Orders
set_option linter.unusedSimpArgs false
set_option linter.unusedVariables false
set_option linter.unusedSectionVars false
namespace Go.Gm
open Go
section
variable [Globs] {P : Program} {w : World} {H : Heap} {ι : Plc} {Im : Nat → Prop}
theorem qg2 (a : Addr) : ∀ (n i : Nat) (acc cs : Array Value),(loadCellsFrom a i n acc).run P w = .ok cs w →
  ∃ l : List Value,l.length = n ∧ cs.toList = acc.toList ++ l ∧ ∀ m,m ≤ n → (loadCellsFrom a i m acc).run P w = .ok ⟨acc.toList ++ l.take m⟩ w
 | 0,i,acc,cs,h => by
  simp only [loadCellsFrom,Sem.run_pure,Result.ok.injEq,and_true] at h
  subst h
  refine ⟨[],rfl,by simp,fun m hm => ?_⟩
  have : m = 0 := by omega
  subst this
  simp [loadCellsFrom]
 | n + 1,i,acc,cs,h => by
  obtain ⟨v,hv⟩ : ∃ v,(load (a.add i)).run P w = .ok v w := by
   simp only [loadCellsFrom,Sem.run_bind] at h
   rw [run_load] at h ⊢
   split at h
   ·exact ⟨_,rfl⟩
   ·split at h
    ·exact ⟨_,rfl⟩
    ·cases h
  simp only [loadCellsFrom,Sem.run_bind,hv,Result.andThen_ok] at h
  obtain ⟨l,h1,h2,h3⟩ := qg2 a n (i + 1) (acc.push v) cs h
  refine ⟨v :: l,by simp [h1],by simp [h2],fun m hm => ?_⟩
  cases m with
  | zero => simp [loadCellsFrom]
  | succ m =>
   have := h3 m (by omega)
   simp only [loadCellsFrom,Sem.run_bind,hv,Result.andThen_ok,this]
   simp
theorem z8z {size n k : Nat} {v : Value} {cs : Array Value} (h : (Builtin.firstCells size n v).run P w = .ok cs w) (hk : k ≤ n) (hl : cs.size = n * size) :
  (Builtin.firstCells size k v).run P w = .ok ⟨cs.toList.take (k * size)⟩ w := by
 have hks : k * size ≤ n * size := Nat.mul_le_mul_right _ hk
 cases v with
 | slice base a c =>
  cases base with
  | none =>
   simp only [Builtin.firstCells,Sem.run_pure,Result.ok.injEq,and_true] at h ⊢
   subst h
   simp
  | some ad =>
   simp only [Builtin.firstCells,loadCells] at h ⊢
   obtain ⟨l,h1,h2,h3⟩ := qg2 ad (n * size) 0 #[] cs h
   rw [h3 _ hks]
   simp [h2]
 | string s =>
  simp only [Builtin.firstCells,Sem.run_pure,Result.ok.injEq,and_true] at h ⊢
  subst h
  simp at hl
  by_cases hk0 : k = 0
  ·subst hk0
   simp
  have hsz : size = 1 ∨ min n s.size = 0 := by
   rcases Nat.lt_or_ge size 2 with h | h
   ·rcases Nat.lt_or_ge size 1 with h' | h'
    ·right
     have : size = 0 := by omega
     subst this
     omega
    ·left; omega
   ·have := Nat.mul_le_mul_left n h
    right
    omega
  rcases hsz with rfl | h0
  ·apply Array.ext'
   simp [List.take_take,Nat.min_eq_left hk]
  ·have : s.size = 0 := by omega
   apply Array.ext'
   have hs : s.data.toList = [] := by
    cases s with | mk d => simpa [ByteArray.size] using this
   simp [hs]
 | _ => simp [Builtin.firstCells] at h
theorem zq.take {sz k : Nat} {es : List (List PV)} {cs : Array Value} (h : zq w Im sz es (cs[·]?)) : zq w Im sz (es.take k) ((⟨cs.toList.take (k * sz)⟩ : Array Value)[·]?) := by
 refine ⟨fun e he => h.1 e (List.mem_of_mem_take he),fun i e j p hi hj => ?_,fun i e j p hi hj => ?_⟩
 ·have hlt := (List.getElem?_eq_some_iff.1 hi).1
  simp at hlt
  rw [List.getElem?_take_of_lt (by omega)] at hi
  exact h.2.1 i e j p hi hj
 ·have hlt := (List.getElem?_eq_some_iff.1 hi).1
  simp at hlt
  rw [List.getElem?_take_of_lt (by omega)] at hi
  obtain ⟨v,h1,h2⟩ := h.2.2 i e j p hi hj
  refine ⟨v, ?_,h2⟩
  have hj' := (List.getElem?_eq_some_iff.1 hj).1
  have he := h.1 e (List.mem_of_getElem? hi)
  have : (i + 1) * sz ≤ k * sz := Nat.mul_le_mul_right _ (by omega)
  rw [Nat.succ_mul] at this
  simp only [List.getElem?_toArray]
  rw [List.getElem?_take_of_lt (by omega)]
  simpa using h1
theorem z99 {ts e : TypeId} {ti te : TI} (hts : ql P ts ti) (htd : ti.td = .slice e) (hte : ql P e te) {tys : Array TypeId} (h0 : tys[0]? = some ts) (tt : TypeId)
  (hi : qg w H ι Im) {nx : Nat} {X : Nat → Prop} (hnx : Bd X H nx) {x y : AV} {vx vy : Value} (hx : RA w H ι Im x vx) (hy : RA w H ι Im y vy) {r : Eff} (hr : q19 te x y H nx = some r) :
  ∃ u w',(Builtin.copy_ tys tt #[vx,vy]).run P w = .ok u w' ∧ Did X w H ι Im nx r u w' := by
 unfold q19 at hr
 split at hr
 ·cases hr
 rename_i xsz src0 hsrc
 split at hr
 rotate_left
 ·cases hr
 rename_i β ver off n
 split at hr
 rotate_left
 ·cases hr
 rename_i sz es hb
 split at hr <;> cases hr
 rename_i hc
 obtain ⟨hver,hszz,hsz⟩ := hc
 subst hszz
 obtain ⟨l1,cs0,f1',f2',f3'⟩ : (Builtin.lenOf vy).run P w = .ok src0.length w ∧ ∃ cs,(Builtin.firstCells te.size src0.length vy).run P w = .ok cs w ∧ cs.size = src0.length * te.size ∧ zq w Im te.size src0 (cs[·]?) := by
  obtain ⟨a,b⟩ := q40 (P := P) hi hy hsrc
  exact ⟨a,b te.size hsz⟩
 generalize hsrc' : src0.take n = src
 have hk : src.length = min src0.length n := by rw [← hsrc']; simp [Nat.min_comm]
 have f1 := z8z f1' (show src.length ≤ src0.length by omega) f2'
 have f3 : zq w Im te.size src ((⟨cs0.toList.take (src.length * te.size)⟩ : Array Value)[·]?) := by
  have := f3'.take (k := src.length)
  have e : src0.take src.length = src := by
   rw [← hsrc',List.take_eq_take_iff]
   simp
  rwa [e] at this
 have f2 : (⟨cs0.toList.take (src.length * te.size)⟩ : Array Value).size = src.length * te.size := by
  have : src.length * te.size ≤ src0.length * te.size := Nat.mul_le_mul_right _ (by omega)
  show (cs0.toList.take _).length = _
  rw [List.length_take]
  have h2 : cs0.toList.length = src0.length * te.size := f2'
  rw [h2]
  exact Nat.min_eq_left this
 generalize (⟨cs0.toList.take (src.length * te.size)⟩ : Array Value) = cs at f1 f2 f3
 have hxx := hx
 cases hx with
 | row _ _ _ _ _ b ho hb' hk' hv hh =>
 rw [hb] at hb'
 cases hb'
 obtain ⟨h1,h2⟩ := hh _ _ _ rfl hver
 simp only [Bool.false_eq_true,if_false] at h2
 obtain ⟨a,rfl,ha1,ha2,ha3⟩ := h2
 obtain ⟨ab,ao,asp⟩ := a
 simp only at ha1 ha2 ha3
 subst ha1 ha2
 obtain ⟨vs,elem,fz,g1,g2,g3,hpos,g5,g6,g7,g8⟩ := hi.row hb
 have hsn : src.length ≤ n := by omega
 have hao : src ≠ [] → ao = off * te.size := fun hne => by
  have := List.length_pos_iff.2 hne
  exact ha3 (by omega)
 have hone : ∀ x ∈ cs.toList,xn x = true := by
  intro x hx
  obtain ⟨m,hm⟩ := List.getElem?_of_mem hx
  have hml : m < src.length * te.size := by
   have := (List.getElem?_eq_some_iff.1 hm).1
   simp at this
   omega
  have hdiv : m / te.size < src.length := Nat.div_lt_of_lt_mul (by rwa [Nat.mul_comm])
  have hmod : m % te.size < te.size := Nat.mod_lt _ hpos
  obtain ⟨e0,he0⟩ : ∃ e0,src[m / te.size]? = some e0 := ⟨src[m / te.size],by simp⟩
  have hel := f3.1 e0 (List.mem_of_getElem? he0)
  obtain ⟨p0,hp0⟩ : ∃ p0,e0[m % te.size]? = some p0 := ⟨e0[m % te.size]'(by omega),by simp⟩
  obtain ⟨v0,q1,q2⟩ := f3.2.2 _ e0 _ p0 he0 hp0
  have : m / te.size * te.size + m % te.size = m := by rw [Nat.mul_comm]; exact Nat.div_add_mod m te.size
  simp only [this] at q1
  have : x = v0 := by
   have h0 : cs[m]? = some x := by simpa using hm
   rw [h0] at q1
   exact Option.some.inj q1
  subst this
  exact q2.xn (f3.2.1 _ e0 _ p0 he0 hp0)
 have hmul : off * te.size + src.length * te.size ≤ vs.size := by
  rw [g3,← Nat.add_mul]
  exact Nat.mul_le_mul_right _ (by omega)
 have hst : ∃ w',(storeCells ⟨(ι β).b,ao,none⟩ cs.toList).run P w = Result.ok () w' ∧ (w'.heap.size = w.heap.size ∧ w'.os = w.os ∧ w'.output = w.output) ∧ (∀ b',b' ≠ (ι β).b → w'.heap[b']? = w.heap[b']?) ∧
   ∃ vs' : Array Value,w'.heap[(ι β).b]? = some (.cells vs' elem fz) ∧ vs'.size = vs.size ∧ ∀ k,vs'[k]? = if off * te.size ≤ k ∧ k < off * te.size + cs.size then cs[k - off * te.size]? else vs[k]? := by
  by_cases hs : src = []
  ·have hcs0 : cs.size = 0 := by rw [f2,hs]; simp
   have hcl : cs.toList = [] := by simpa using hcs0
   refine ⟨w,by rw [hcl]; rfl,⟨rfl,rfl,rfl⟩,fun _ _ => rfl,vs,g1,rfl,fun k => ?_⟩
   rw [if_neg (by omega)]
  ·have := hao hs
   subst this
   obtain ⟨w',q1,q2,q3,vs',q4,q5,q6⟩ := q5e (P := P) (ι β).b (off * te.size) elem fz cs.toList 0 w vs g1 g2 (by simp [f2]; omega) hone
   refine ⟨w',by simpa using q1,q2,q3,vs',q4,q5,fun k => ?_⟩
   rw [q6 k]
   simp
 obtain ⟨w',q1,q2,q3,vs',q4,q5,q6⟩ := hst
 have hrun : (Builtin.copy_ tys tt #[.slice (some ⟨(ι β).b,ao,none⟩) n ((ι β).cap - off),vy]).run P w = .ok (.int .i64 (src.length : Nat)) w' := by
  have hmin : Nat.min src0.length n = src.length := hk.symm
  unfold Builtin.copy_
  simp only [List.getElem?_toArray,List.getElem?_cons_zero,List.getElem?_cons_succ,h0,Sem.run_bind,qp (hts.slice htd),Result.andThen_ok,l1,hte.size,hmin,f1,q1,Sem.run_pure,goInt]
 have hes' : (es.take off ++ src ++ es.drop (off + src.length)).length = es.length := by
  simp; omega
 refine ⟨_,w',hrun,zu ι β (ι β), ?_⟩
 have key := qg.put hi (w' := w') β (.row false te.size (es.take off ++ src ++ es.drop (off + src.length))) (ι β)
  (fun x hx => by
   rw [hb] at hx
   cases hx
   simp only [zk]
   exact ⟨by omega,fun _ => ⟨by simp,fun _ => ⟨by simp,by simp⟩⟩⟩)
  ⟨by omega,q2.2⟩ (fun b' _ hne => q3 b' (fun e => hne _ hb rfl e.symm)) (fun _ => .inr ⟨_,hb,rfl,rfl⟩) (fun hev => by
   have hw : ∀ b,Im b → w'.heap[b]? = w.heap[b]? := fun b hb => hev.kept hi b hb
   have hget : ∀ (i : Nat) e0,(es.take off ++ src ++ es.drop (off + src.length))[i]? = some e0 →
     (off ≤ i ∧ i < off + src.length ∧ src[i - off]? = some e0) ∨ (¬ (off ≤ i ∧ i < off + src.length) ∧ es[i]? = some e0) := by
    intro i e0 h
    rw [q5y es src off i (by omega)] at h
    split at h
    ·rename_i hc
     exact .inl ⟨hc.1,hc.2,h⟩
    ·rename_i hc
     exact .inr ⟨hc,h⟩
   refine ⟨vs',elem,fz,by simpa using q4,by rw [q5]; exact g2,by simp [q5,g3],hpos,by simp only [updP_same]; omega, ?_, ?_, ?_⟩
   ·intro e0 he0
    obtain ⟨i,hi'⟩ := List.getElem?_of_mem he0
    rcases hget i e0 hi' with ⟨_,_,h⟩ | ⟨_,h⟩
    ·exact f3.1 e0 (List.mem_of_getElem? h)
    ·exact g6 e0 (List.mem_of_getElem? h)
   ·intro i e0 j p hi' hj
    rcases hget i e0 hi' with ⟨_,_,h⟩ | ⟨_,h⟩
    ·exact f3.2.1 _ e0 j p h hj
    ·exact g7 _ e0 j p h hj
   ·intro i e0 j p hi' hj
    have hj' := (List.getElem?_eq_some_iff.1 hj).1
    rw [q6]
    rcases hget i e0 hi' with ⟨k1,k2,h⟩ | ⟨k1,h⟩
    ·obtain ⟨v0,w1,w2⟩ := f3.2.2 _ e0 j p h hj
     have hel := f3.1 e0 (List.mem_of_getElem? h)
     have e1 : i * te.size + j - off * te.size = (i - off) * te.size + j := by
      have : i = off + (i - off) := by omega
      conv => lhs; rw [this,Nat.add_mul]
      omega
     have e2 : off * te.size ≤ i * te.size := Nat.mul_le_mul_right _ k1
     have e3 : (i + 1) * te.size ≤ (off + src.length) * te.size := Nat.mul_le_mul_right _ k2
     rw [Nat.succ_mul,Nat.add_mul] at e3
     rw [if_pos ⟨by omega,by rw [f2]; omega⟩,e1]
     exact ⟨v0,w1,w2.mono hev.im hw⟩
    ·obtain ⟨v0,w1,w2⟩ := g8 _ e0 j p h hj
     have hel := g6 e0 (List.mem_of_getElem? h)
     have hout : ¬ (off * te.size ≤ i * te.size + j ∧ i * te.size + j < off * te.size + cs.size) := by
      rw [f2]
      by_cases hlt : i < off
      ·have : (i + 1) * te.size ≤ off * te.size := Nat.mul_le_mul_right _ hlt
       rw [Nat.succ_mul] at this
       omega
      ·have : (off + src.length) * te.size ≤ i * te.size := Nat.mul_le_mul_right _ (by omega)
       rw [Nat.add_mul] at this
       omega
     rw [if_neg hout]
     exact ⟨v0,w1,w2.mono hev.im hw⟩)
 exact ⟨key.1,key.2,.pv _ _ (.int _ _),Nat.le_refl _,wz hnx (Nat.le_refl _) (hnx β _ hb)⟩
end
end Go.Gm
set_option linter.unusedSectionVars false
namespace Go.Gm
open Go
section
variable [Globs] {P : Program} {w : World} {H : Heap} {ι : Plc} {Im : Nat → Prop}
theorem qd8 {a : Act} {E : Env} (hE : ∀ t,RA w H ι Im (E.get t) (a.tmps.getD t undef)) (d : Nat) (x : Option Operand) {n : Nat} (h : zh (ev E) d x = some n) :
  (x = none ∧ n = d) ∨ ∃ kd,(x.map a.eval) = some (.int kd (n : Int)) := by
 cases x with
 | none =>
  simp only [zh,Option.some.injEq] at h
  exact .inl ⟨rfl,h.symm⟩
 | some x =>
  simp only [zh] at h
  obtain ⟨kd,hk⟩ := q92 (q07 hE x) h
  exact .inr ⟨kd,by simp [hk]⟩
theorem run_sliceBound {kd : IntKind} {n y : Nat} (h : n ≤ y) (code : BoundsCode) : (Instr.sliceBound (.int kd (n : Int)) y code).run P w = .ok n w := by
 unfold Instr.sliceBound asIntOf
 have : (n : Int) ≤ (y : Int) := by omega
 simp [this]
theorem q5p (isSlice : Bool) {a : Act} {E : Env} (hE : ∀ t,RA w H ι Im (E.get t) (a.tmps.getD t undef)) (lo hi mx : Option Operand) (len cap : Nat) {l h m : Nat}
  (hl : zh (ev E) 0 lo = some l) (hh : zh (ev E) len hi = some h) (hm : zh (ev E) cap mx = some m) (h1 : l ≤ h) (h2 : h ≤ m) (h3 : m ≤ cap)
  (hmx : mx ≠ none → hi ≠ none) :
  (Instr.sliceBounds isSlice len cap (lo.map a.eval) (hi.map a.eval) (mx.map a.eval)).run P w = .ok (l,h,m) w := by
 have e1 := qd8 hE 0 lo hl
 have e2 := qd8 hE len hi hh
 have e3 := qd8 hE cap mx hm
 unfold Instr.sliceBounds
 rcases e3 with ⟨rfl,rfl⟩ | ⟨k3,e3⟩
 ·rcases e2 with ⟨rfl,rfl⟩ | ⟨k2,e2⟩
  ·rcases e1 with ⟨rfl,rfl⟩ | ⟨k1,e1⟩
   ·simp
   ·simp only [e1,Option.map_none,Sem.run_bind,Sem.run_pure,Result.andThen_ok,run_sliceBound h1]
  ·rcases e1 with ⟨rfl,rfl⟩ | ⟨k1,e1⟩
   ·simp only [e2,Option.map_none,Sem.run_bind,Sem.run_pure,Result.andThen_ok,run_sliceBound h2]
   ·simp only [e1,e2,Option.map_none,Sem.run_bind,Sem.run_pure,Result.andThen_ok,run_sliceBound h1,run_sliceBound h2]
 ·rcases e2 with ⟨rfl,rfl⟩ | ⟨k2,e2⟩
  ·have : mx ≠ none := by
    intro e
    subst e
    cases e3
   exact absurd rfl (hmx this)
  ·rcases e1 with ⟨rfl,rfl⟩ | ⟨k1,e1⟩
   ·simp only [e2,e3,Option.map_none,Sem.run_bind,Sem.run_pure,Result.andThen_ok,run_sliceBound h2,run_sliceBound h3]
   ·simp only [e1,e2,e3,Sem.run_bind,Sem.run_pure,Result.andThen_ok,run_sliceBound h1,run_sliceBound h2,run_sliceBound h3]
theorem qlx (s : List UInt8) (l h : Nat) : (ByteArray.mk ⟨s⟩).extract l h = ⟨⟨(s.take h).drop l⟩⟩ := by
 apply ByteArray.ext
 apply Array.ext'
 simp [List.extract_eq_take_drop,List.drop_take]
theorem z7z {G : TypeId → Option TI} (hG : ∀ t ti,G t = some ti → ql P t ti) {t : TypeId} {ti : TI} (ht : ql P t ti) (hi' : qg w H ι Im)
  {a : Act} {E : Env} (hE : ∀ t,RA w H ι Im (E.get t) (a.tmps.getD t undef)) {x : AV} {v : Value} (hx : RA w H ι Im x v) (lo hi mx : Option Operand)
  {r : AV} (hr : q06 ti.td G (ev E) x lo hi mx H = some r) :
  ∃ u,(Instr.sliceAt t v (lo.map a.eval) (hi.map a.eval) (mx.map a.eval)).run P w = .ok u w ∧ RA w H ι Im r u := by
 unfold q06 at hr
 split at hr
 ·cases hr
 rename_i hmx0
 have hmx : mx ≠ none → hi ≠ none := by
  intro h1 h2
  subst h2
  cases mx with
  | none => exact h1 rfl
  | some _ => exact hmx0 ⟨rfl,rfl⟩
 split at hr
 ·rename_i htd
  have hu := ht.string htd
  split at hr
  rotate_left
  ·cases hr
  rename_i s
  split at hr
  ·cases hr
  rename_i hmn
  have hmn' : mx = none := by cases mx <;> simp_all
  subst hmn'
  split at hr
  rotate_left
  ·cases hr
  rename_i l h hl hh
  split at hr <;> cases hr
  rename_i hc
  cases hx with
  | pv _ _ hp => cases hp with
   | str =>
    have hb := q5p (P := P) false hE lo hi none s.length s.length hl hh rfl hc.1 hc.2 (Nat.le_refl _) (fun h => absurd rfl h)
    refine ⟨.string ((ByteArray.mk ⟨s⟩).extract l h), ?_,.pv _ _ (by rw [qlx]; exact .str _)⟩
    unfold Instr.sliceAt Instr.slice
    simp only [Sem.run_bind,qp hu,Result.andThen_ok]
    have hsz : (ByteArray.mk ⟨s⟩).size = s.length := rfl
    simp only [Option.map_none] at hb ⊢
    simp [hsz,hb]
 ·rename_i e htd
  have hu := ht.slice htd
  split at hr
  ·cases hr
  rename_i te hte
  have hte' := hG _ _ hte
  have run : ∀ (base : Option Addr) (len cap l h m : Nat),(Instr.sliceBounds true len cap (lo.map a.eval) (hi.map a.eval) (mx.map a.eval)).run P w = .ok (l,h,m) w →
    (Instr.sliceAt t (.slice base len cap) (lo.map a.eval) (hi.map a.eval) (mx.map a.eval)).run P w = .ok (.slice (if m = l then base else base.map (·.add (l * te.size))) (h - l) (m - l)) w := by
   intro base len cap l h m hb
   unfold Instr.sliceAt Instr.slice
   simp only [Sem.run_bind,qp hu,Result.andThen_ok,hb,hte'.size,Sem.run_pure]
  split at hr
  ·rename_i isnil sz es
   split at hr
   rotate_left
   ·cases hr
   rename_i l h m hl hh hm
   split at hr
   rotate_left
   ·cases hr
   rename_i hc
   obtain ⟨c1,c2,c3,c4⟩ := hc
   cases hx with
   | pv _ _ hp => cases hp with
    | nilsl =>
     have hm0 : m = 0 := by simpa using c3
     subst hm0
     have hh0 : h = 0 := by omega
     subst hh0
     have hl0 : l = 0 := by omega
     subst hl0
     have hb := q5p (P := P) true hE lo hi mx 0 0 hl (by simpa using hh) (by simpa using hm) (Nat.le_refl _) (Nat.le_refl _) (Nat.le_refl _) hmx
     simp at hr
     subst hr
     refine ⟨_,run none 0 0 0 0 0 hb, ?_⟩
     simp
     exact .pv _ _ (.nilsl 0)
    | sl _ _ b off cap vs him hcap hsz hcell hf hrp sp hsp =>
     have hm' : ∃ m',zh (ev E) cap mx = some m' ∧ ((mx = none ∧ m' = cap) ∨ (mx ≠ none ∧ m' = m)) := by
      cases mx with
      | none => exact ⟨cap,rfl,.inl ⟨rfl,rfl⟩⟩
      | some y => exact ⟨m,hm,.inr ⟨by simp,rfl⟩⟩
     obtain ⟨m',hm',hmm⟩ := hm'
     have hhm : h ≤ m' ∧ m' ≤ cap := by
      rcases hmm with ⟨rfl,rfl⟩ | ⟨_,rfl⟩
      ·simp only [zh,Option.some.injEq] at hm
       omega
      ·omega
     have hb := q5p (P := P) true hE lo hi mx es.length cap hl hh hm' c1 hhm.1 hhm.2 hmx
     refine ⟨_,run (some ⟨b,off,sp⟩) es.length cap l h m' hb, ?_⟩
     split at hr
     ·rename_i hz
      cases hr
      obtain ⟨z1,z2,_⟩ := hz
      rcases hmm with ⟨rfl,_⟩ | ⟨_,rfl⟩
      ·cases z1
      ·have e1 : h - l = 0 := by omega
       have e2 : m' - l = 0 := by omega
       rw [if_pos z2.symm,e1,e2]
       exact .zsl _
     ·cases hr
      by_cases hes : es = []
      ·subst hes
       simp only [List.length_nil,Nat.le_zero_eq] at c3
       have hh0 : h = 0 := by omega
       have hl0 : l = 0 := by omega
       subst hh0
       subst hl0
       have hz : RP w Im (.sl false sz (([] : List (List PV)).take 0 |>.drop 0)) (.slice (some ⟨b,off,sp⟩) (0 - 0) (m' - 0)) :=
        .sl sz [] b off (m' - 0) (fun _ => undef) (fun h => absurd rfl h) (Nat.zero_le _) (by simp) (fun i hlt => by simp at hlt) (by simp) (by simp) sp (fun h => absurd rfl h)
       have ha : (⟨b,off,sp⟩ : Addr).add (0 * te.size) = ⟨b,off,sp⟩ := by simp [Addr.add]
       split
       ·exact .pv _ _ hz.mk
       ·simp only [Option.map_some,ha]
        exact .pv _ _ hz.mk
      obtain rfl := hsp hes
      have hlen : ((es.take h).drop l).length = h - l := by simp; omega
      have key : ∀ (a0 : Nat),(l < h → a0 = off + l * sz) → RP w Im (.sl false sz ((es.take h).drop l)) (.slice (some ⟨b,a0,none⟩) (h - l) (m' - l)) := by
       intro a0 ha0
       rw [← hlen]
       have hget : ∀ (i : Nat) e0,((es.take h).drop l)[i]? = some e0 → l + i < h ∧ es[l + i]? = some e0 := by
        intro i e0 hi0
        have h1 := (List.getElem?_eq_some_iff.1 hi0).1
        rw [List.getElem?_drop,List.getElem?_take_of_lt (by omega)] at hi0
        exact ⟨by omega,hi0⟩
       refine .sl sz _ b a0 (m' - l) (fun i => vs (l * sz + i)) (fun hne => him (fun h0 => hne (by rw [h0]; simp))) (by omega) (fun e0 he0 => hsz e0 (List.mem_of_mem_take (List.mem_of_mem_drop he0))) (fun i hlt => ?_) (fun i e0 j p q1 q2 => hf _ e0 j p (hget i e0 q1).2 q2) (fun i e0 j p q1 q2 => ?_) none (fun _ => rfl)
       ·rw [hlen] at hlt
        have hne : l < h := by
         rcases Nat.lt_or_ge l h with h0 | h0
         ·exact h0
         ·have : h - l = 0 := by omega
          rw [this] at hlt
          simp at hlt
        rw [ha0 hne,Nat.add_assoc]
        refine hcell _ ?_
        have e1 : (l + (h - l)) * sz ≤ es.length * sz := Nat.mul_le_mul_right _ (by omega)
        rw [Nat.add_mul] at e1
        omega
       ·obtain ⟨_,g⟩ := hget i e0 q1
        have := hrp (l + i) e0 j p g q2
        rw [Nat.add_mul] at this
        rwa [← Nat.add_assoc]
      by_cases hml : m' = l
      ·rw [if_pos hml]
       exact .pv _ _ (key off (fun h0 => by omega)).mk
      ·rw [if_neg hml]
       simp only [Option.map_some,add_plain]
       refine .pv _ _ (RP.mk (key _ (fun h0 => ?_)))
       rcases c4 with rfl | c4
       ·rfl
       ·subst c4
        simp at c3
        omega
  ·rename_i β ver off n
   split at hr
   rotate_left
   ·cases hr
   rename_i isnil sz es hb
   split at hr
   rotate_left
   ·cases hr
   rename_i l h m hl hh hm
   split at hr
   rotate_left
   ·cases hr
   rename_i hc
   obtain ⟨hver,c1,c2,c3,c4⟩ := hc
   have hxx := hx
   cases hx with
   | row _ _ _ _ _ b ho hb' hk hv hh' =>
   rw [hb] at hb'
   cases hb'
   obtain ⟨h1,h2⟩ := hh' _ _ _ rfl hver
   cases hn : isnil
   ·subst hn
    simp only [Bool.false_eq_true,if_false] at h2 hr
    obtain ⟨a0,rfl,ha1,ha2,ha3⟩ := h2
    obtain ⟨ab,ao,asp⟩ := a0
    simp only at ha1 ha2 ha3
    subst ha1 ha2
    have hte0 : sz = te.size := by
     rcases c4 with h | h
     ·exact h
     ·cases h
    obtain ⟨vs,elem,fz,g1,g2,g3,g4,g5,_⟩ := hi'.row hb
    have hm' : ∃ m',zh (ev E) ((ι β).cap - off) mx = some m' ∧ ((mx = none ∧ m' = (ι β).cap - off) ∨ (mx ≠ none ∧ m' = m)) := by
     cases mx with
     | none => exact ⟨_,rfl,.inl ⟨rfl,rfl⟩⟩
     | some y => exact ⟨m,hm,.inr ⟨by simp,rfl⟩⟩
    obtain ⟨m',hm',hmm⟩ := hm'
    have hhm : h ≤ m' ∧ m' ≤ (ι β).cap - off := by
     rcases hmm with ⟨rfl,rfl⟩ | ⟨_,rfl⟩
     ·simp only [zh,Option.some.injEq] at hm
      omega
     ·omega
    have hbd := q5p (P := P) true hE lo hi mx n ((ι β).cap - off) hl hh hm' c1 hhm.1 hhm.2 hmx
    refine ⟨_,run _ n _ l h m' hbd, ?_⟩
    split at hr
    ·split at hr <;> cases hr
     rename_i hz hlm
     rcases hmm with ⟨rfl,_⟩ | ⟨_,rfl⟩
     ·cases hz
     ·have e1 : h - l = 0 := by omega
      have e2 : m' - l = 0 := by omega
      rw [if_pos hlm.symm,e1,e2]
      exact .zsl _
    ·rename_i hz
     cases hr
     rcases hmm with ⟨rfl,rfl⟩ | ⟨hne,_⟩
     rotate_left
     ·cases mx with
      | none => exact absurd rfl hne
      | some _ => exact absurd rfl hz
     refine .row β ver (off + l) (h - l) _ _ (by split <;> rfl) hb hk hv fun isnil sz' es' e hv' => ?_
     cases e
     refine ⟨by omega, ?_⟩
     simp only [Bool.false_eq_true,if_false]
     by_cases hml : (ι β).cap - off = l
     ·rw [if_pos hml]
      exact ⟨⟨(ι β).b,ao,none⟩,by rw [Nat.sub_sub],rfl,rfl,fun h0 => by omega⟩
     ·rw [if_neg hml]
      refine ⟨⟨(ι β).b,ao + l * te.size,none⟩,by simp only [Option.map_some,add_plain]; rw [Nat.sub_sub],rfl,rfl,fun h0 => ?_⟩
      have := ha3 (by omega)
      subst this
      rw [hte0,Nat.add_mul]
   ·subst hn
    simp only [if_true] at h2 hr
    cases hr
    subst h2
    have hes : es = [] := hi'.blk β _ hb
    subst hes
    have hn0 : n = 0 := by simp at h1; omega
    subst hn0
    have hm0 : m = 0 := by omega
    subst hm0
    have hh0 : h = 0 := by omega
    subst hh0
    have hl0 : l = 0 := by omega
    subst hl0
    have hbd := q5p (P := P) true hE lo hi mx 0 0 hl hh hm (Nat.le_refl _) (Nat.le_refl _) (Nat.le_refl _) hmx
    refine ⟨_,run none 0 0 0 0 0 hbd, ?_⟩
    simpa using hxx
  ·split at hr <;> cases hr
   rename_i hl hh hm
   cases hx with
   | zsl a =>
    have hbd := q5p (P := P) true hE lo hi mx 0 0 hl hh hm (Nat.le_refl _) (Nat.le_refl _) (Nat.le_refl _) hmx
    refine ⟨_,run (some a) 0 0 0 0 0 hbd, ?_⟩
    simp
    exact .zsl _
  ·cases hr
 ·cases hr
end
end Go.Gm
set_option linter.unusedSectionVars false
namespace Go.Gm
open Go
section
variable [Globs] {P : Program} {w : World} {H : Heap} {ι : Plc} {Im : Nat → Prop}
theorem RA.zsp {β ver off n : Nat} {v : Value} (hx : RA w H ι Im (.row β ver off n) v) {isnil : Bool} {sz : Nat} {es : List (List PV)}
  (hb : H.get β = some (.row isnil sz es)) (hv : ver = es.length) : off + n ≤ es.length ∧
    if isnil = true then v = .slice none 0 0
    else ∃ a,v = .slice (some a) n ((ι β).cap - off) ∧ a.spot = none ∧ a.block = (ι β).b ∧ (off < (ι β).cap → a.off = off * sz) := by
 cases hx with
 | row _ _ _ _ _ b ho hb' hk hv' hh' =>
  rw [hb] at hb'
  cases hb'
  exact hh' _ _ _ rfl hv
theorem RA.qd0 (hi : qg w H ι Im) {β ver off n : Nat} {v : Value} (hx : RA w H ι Im (.row β ver off n) v) {isnil : Bool} {sz : Nat} {es : List (List PV)}
  (hb : H.get β = some (.row isnil sz es)) (hv : ver = es.length) : ∃ a c,v = .slice a n c ∧ a.isNone = isnil := by
 obtain ⟨h1,h2⟩ := hx.zsp hb hv
 cases isnil
 ·simp only [Bool.false_eq_true,if_false] at h2
  obtain ⟨a,rfl,_⟩ := h2
  exact ⟨_,_,rfl,rfl⟩
 ·simp only [if_true] at h2
  subst h2
  have hes : es = [] := hi.blk β _ hb
  subst hes
  have : n = 0 := by simp at h1; omega
  subst this
  exact ⟨_,_,rfl,rfl⟩
theorem RA.zq4 {β ver off n : Nat} {v : Value} (hx : RA w H ι Im (.row β ver off n) v) {sz : Nat} {es : List (List AV)}
  (hb : H.get β = some (.qm sz es)) (hv : ver = es.length) : ∃ a c,v = .slice a n c := by
 cases hx with
 | row _ _ _ _ _ b ho hb' hk hver h =>
  rw [hb] at hb'
  cases hb'
  obtain ⟨h1,h2⟩ := h _ _ _ rfl hv
  simp only [Bool.false_eq_true,if_false] at h2
  obtain ⟨a,rfl,_⟩ := h2
  exact ⟨_,_,rfl⟩
theorem qwv {t : TypeId} {ti : TI} (ht : ql P t ti) (hi : qg w H ι Im) {x : AV} {v : Value} (hx : RA w H ι Im x v) (tt : TypeId) {n : Nat} (htd : q0j ti.td x = true) (hr : q1t x H = some n) :
  (Builtin.len_ #[t] tt #[v]).run P w = .ok (.int .i64 n) w := by
 unfold q1t at hr
 unfold Builtin.len_
 simp only [List.getElem?_toArray,List.getElem?_cons_zero,Sem.run_bind]
 split at hr
 ·rename_i s
  cases hr
  cases hx with
  | pv _ _ h => cases h with
   | str =>
    have htd' : ti.td = .string := by
     cases h : ti.td <;> simp [q0j,h] at htd ⊢
    simp only [qp (ht.string htd'),Result.andThen_ok,goInt]
    rfl
 ·rename_i isnil sz es
  cases hr
  have htd' : ∃ e,ti.td = .slice e := by
   cases h : ti.td <;> simp [q0j,h] at htd ⊢
  obtain ⟨e,htd'⟩ := htd'
  simp only [qp (ht.slice htd'),Result.andThen_ok]
  cases hx with
  | pv _ _ h => cases h <;> rfl
 ·cases hr
  have htd' : ∃ k e,ti.td = .map k e := by
   cases h : ti.td <;> simp [q0j,h] at htd ⊢
  obtain ⟨k,e,htd'⟩ := htd'
  simp only [qp (ht.map htd'),Result.andThen_ok]
  cases hx with
  | pv _ _ h => cases h; rfl
 ·cases hr
  have htd' : ∃ e,ti.td = .slice e := by
   cases h : ti.td <;> simp [q0j,h] at htd ⊢
  obtain ⟨e,htd'⟩ := htd'
  simp only [qp (ht.slice htd'),Result.andThen_ok]
  cases hx with
  | zsl a => rfl
 ·rename_i β ver off m
  have htd' : ∃ e,ti.td = .slice e := by
   cases h : ti.td <;> simp [q0j,h] at htd ⊢
  obtain ⟨e,htd'⟩ := htd'
  simp only [qp (ht.slice htd'),Result.andThen_ok]
  split at hr
  ·rename_i isnil sz es hb
   split at hr <;> cases hr
   rename_i hver
   obtain ⟨a,c,rfl,_⟩ := hx.qd0 hi hb hver
   rfl
  ·rename_i sz es hb
   split at hr <;> cases hr
   rename_i hver
   obtain ⟨a,c,rfl⟩ := hx.zq4 hb hver
   rfl
  ·cases hr
 ·rename_i β
  split at hr <;> cases hr
  rename_i es clock hb
  have htd' : ∃ k e,ti.td = .map k e := by
   cases h : ti.td <;> simp [q0j,h] at htd ⊢
  obtain ⟨k,e,htd'⟩ := htd'
  simp only [qp (ht.map htd'),Result.andThen_ok]
  cases hx with
  | map _ es' clock' hb' =>
   obtain ⟨ents,h1,h2,h3⟩ := hi.blk β _ hb
   have : (getObj (ι β).b).run P w = .ok (.map ⟨ents⟩ clock) w := by
    simp [getObj,Sem.run,h1]
   simp only [Sem.run_bind,this,Result.andThen_ok]
   simp [goInt,h2]
 ·cases hr
theorem qm2 {op : BinOp} {k : IntKind} {x y : Int} {p : PV} (hop : op ≠ .shl ∧ op ≠ .shr) (t : TypeId) (hr : q9h op k x y = some p) :
  ∃ u,(binOp op t (.int k x) (.int k y)).run P w = .ok u w ∧ RP w Im p u := by
 unfold q9h at hr
 cases op <;> simp only [reduceCtorEq] at hr
 case add => cases hr; exact ⟨.int k (k.wrap (x + y)),by simp [binOp,Op.intArith],.int _ _⟩
 case sub => cases hr; exact ⟨.int k (k.wrap (x - y)),by simp [binOp,Op.intArith],.int _ _⟩
 case mul => cases hr; exact ⟨.int k (k.wrap (x * y)),by simp [binOp,Op.intArith],.int _ _⟩
 case quo => split at hr <;> cases hr; rename_i h0; exact ⟨.int k (k.wrap (x.tdiv y)),by simp [binOp,Op.intDiv,h0],.int _ _⟩
 case rem => split at hr <;> cases hr; rename_i h0; exact ⟨.int k (x.tmod y),by simp [binOp,Op.intDiv,h0],.int _ _⟩
 case eql => cases hr; exact ⟨.bool (x == y),by simp [binOp,Op.intCmp],.bool _⟩
 case neq => cases hr; exact ⟨.bool (x != y),by simp [binOp,Op.intCmp],.bool _⟩
 case lss => cases hr; exact ⟨.bool (decide (x < y)),by simp [binOp,Op.intCmp],.bool _⟩
 case leq => cases hr; exact ⟨.bool (decide (x ≤ y)),by simp [binOp,Op.intCmp],.bool _⟩
 case gtr => cases hr; exact ⟨.bool (decide (x > y)),by simp [binOp,Op.intCmp],.bool _⟩
 case geq => cases hr; exact ⟨.bool (decide (x ≥ y)),by simp [binOp,Op.intCmp],.bool _⟩
 case and => cases hr; exact ⟨_,by simp [binOp,Op.intBits],.int _ _⟩
 case or => cases hr; exact ⟨_,by simp [binOp,Op.intBits],.int _ _⟩
 case xor => cases hr; exact ⟨_,by simp [binOp,Op.intBits],.int _ _⟩
 case andNot => cases hr; exact ⟨_,by simp [binOp,Op.intBits],.int _ _⟩
theorem bytesLess_eq : ∀ a b : List UInt8,Op.bytesLess a b = wu a b
 | [],[] => rfl
 | _ :: _,[] => rfl
 | [],_ :: _ => rfl
 | a :: x,b :: y => by simp [Op.bytesLess,wu,bytesLess_eq x y]
theorem zif {op : BinOp} {x y : List UInt8} {p : PV} (t : TypeId) (hr : qae op x y = some p) :
  ∃ u,(binOp op t (.string ⟨⟨x⟩⟩) (.string ⟨⟨y⟩⟩)).run P w = .ok u w ∧ RP w Im p u := by
 unfold qae at hr
 cases op <;> simp only [reduceCtorEq] at hr
 case add =>
  split at hr <;> cases hr
  rename_i hl
  refine ⟨.string ⟨⟨x ++ y⟩⟩, ?_,.str _⟩
  have h2 : (ByteArray.mk ⟨x⟩ ++ ByteArray.mk ⟨y⟩ : ByteArray) = ⟨⟨x ++ y⟩⟩ := by
   apply ByteArray.ext
   apply Array.ext'
   simp
  simp [binOp,Op.stringOp,h2]
  show (x.length : Int) + (y.length : Int) ≤ _
  omega
 case eql => cases hr; exact ⟨.bool (x == y),by simp [binOp,Op.stringOp],.bool _⟩
 case neq => cases hr; exact ⟨.bool (!(x == y)),by simp [binOp,Op.stringOp],.bool _⟩
 case lss => cases hr; exact ⟨.bool (wu x y),by simp [binOp,Op.stringOp,bytesLess_eq],.bool _⟩
 case leq => cases hr; exact ⟨.bool (wu x y || x == y),by simp [binOp,Op.stringOp,bytesLess_eq],.bool _⟩
 case gtr => cases hr; exact ⟨.bool (!(wu x y || x == y)),by simp [binOp,Op.stringOp,bytesLess_eq],.bool _⟩
 case geq => cases hr; exact ⟨.bool (!wu x y),by simp [binOp,Op.stringOp,bytesLess_eq],.bool _⟩
theorem z8p {op : UnOp} {x : AV} {v : Value} (hx : RA w H ι Im x v) {p : PV} (hr : aUn op x = some p) : ∃ u,(Op.unary op v).run P w = .ok u w ∧ RP w Im p u := by
 unfold aUn at hr
 split at hr <;> cases hr
 ·cases hx with
  | pv _ _ h => cases h; exact ⟨_,by simp [Op.unary],.bool _⟩
 ·cases hx with
  | pv _ _ h => cases h; exact ⟨_,by simp [Op.unary,Op.intArith],.int _ _⟩
theorem qh8 (isMax : Bool) (k : IntKind) : ∀ (l : List AV) (a : Int) (vs : List Value),l.length = vs.length → (∀ (i : Nat) x v,l[i]? = some x → vs[i]? = some v → RA w H ι Im x v) →
  ∀ {p : PV},q3u isMax k a l = some p → ∃ u,(vs.foldlM (if isMax then Builtin.max2 else Builtin.min2) (.int k a)).run P w = .ok u w ∧ RP w Im p u
 | [],a,vs,hl,_,p,h => by
  have : vs = [] := by simpa using hl.symm
  subst this
  cases h
  exact ⟨.int k a,by simp,.int _ _⟩
 | x :: r,a,vs,hl,hR,p,h => by
  cases vs with
  | nil => simp at hl
  | cons v vr =>
   have hx := hR 0 x v (by simp) (by simp)
   cases x with
   | pv p0 => cases p0 with
    | int k' b =>
     simp only [q3u] at h
     cases hx with
     | pv _ _ hp => cases hp with
      | int =>
       obtain ⟨u,g1,g2⟩ := qh8 isMax k r _ vr (by simpa using hl) (fun i x v h1 h2 => hR (i + 1) x v (by simpa using h1) (by simpa using h2)) h
       refine ⟨u, ?_,g2⟩
       cases isMax
       ·simp only [Bool.false_eq_true,if_false,List.foldlM_cons,Sem.run_bind,Builtin.min2,Sem.run_pure,Result.andThen_ok] at g1 ⊢
        exact g1
       ·simp only [if_true,List.foldlM_cons,Sem.run_bind,Builtin.max2,Sem.run_pure,Result.andThen_ok] at g1 ⊢
        exact g1
    | _ => simp [q3u] at h
   | _ => simp [q3u] at h
theorem ql.ptr {t : TypeId} {ti : TI} (ht : ql P t ti) (h : ti.td = .ptr) : ∃ e,P.underlying t = some (.pointer e) := by
 obtain ⟨d,h1,h2⟩ := ht.und
 rw [h] at h2
 cases d <;> simp [yx] at h2
 exact ⟨_,h1⟩
theorem ql.func {t : TypeId} {ti : TI} (ht : ql P t ti) (h : ti.td = .func) : ∃ a b c,P.underlying t = some (.func a b c) := by
 obtain ⟨d,h1,h2⟩ := ht.und
 rw [h] at h2
 cases d <;> simp [yx] at h2
 exact ⟨_,_,_,h1⟩
theorem qfj {G : TypeId → Option TI} (hG : ∀ t ti,G t = some ti → ql P t ti) (d : Nat) (xs ys : Array Value) : ∀ (fs : List Field) (i : Nat) (a b : List PV),
  qao i fs = true → fitAll G (fs.map fun f => (f.offset,P.cellsOf f.type,f.type)) a = true →
  (∀ (j : Nat) p v,a[j]? = some p → xs[i + j]? = some v → RP w Im p v) → (∀ (j : Nat) p v,b[j]? = some p → ys[i + j]? = some v → RP w Im p v) →
  i + a.length ≤ xs.size → i + b.length ≤ ys.size → ∀ {r : Bool},jm a b = some r → (Op.eqFields (d + 1) xs ys fs).run P w = .ok r w
 | [],i,a,b,_,hl,_,_,_,_,r,h => by
  cases a with
  | cons p a => simp [fitAll] at hl
  | nil =>
  cases b <;> simp [jm] at h
  subst h
  simp [Op.eqFields]
 | f :: fs,i,a,b,hp,hl,ha,hb,hxs,hys,r,h => by
  simp only [qao,Bool.and_eq_true,bne_iff_ne,ne_eq,beq_iff_eq] at hp
  obtain ⟨⟨hn,hoff⟩,hp⟩ := hp
  cases a with
  | nil => simp [fitAll] at hl
  | cons p a =>
  simp only [List.map_cons,fitAll,Bool.and_eq_true] at hl
  obtain ⟨hty,hl⟩ := hl
  split at hty
  rotate_left
  ·cases hty
  rename_i tif htif
  have htf := hG _ _ htif
  cases b with
  | nil => cases p <;> simp [jm] at h
  | cons q b =>
  simp only [List.length_cons] at hxs hys
  obtain ⟨x,hx⟩ : ∃ x,xs[i]? = some x := ⟨xs[i]'(by omega),by simp⟩
  obtain ⟨y,hy⟩ : ∃ y,ys[i]? = some y := ⟨ys[i]'(by omega),by simp⟩
  have hpx := ha 0 p x (by simp) (by simpa using hx)
  have hqy := hb 0 q y (by simp) (by simpa using hy)
  have rest : ∀ {t : Bool},jm a b = some t → (Op.eqFields (d + 1) xs ys fs).run P w = .ok t w := fun ht =>
   qfj hG d xs ys fs (i + 1) a b hp hl (fun j p v h1 h2 => ha (j + 1) p v (by simpa using h1) (by rwa [show i + (j + 1) = i + 1 + j from by omega]))
    (fun j p v h1 h2 => hb (j + 1) p v (by simpa using h1) (by rwa [show i + (j + 1) = i + 1 + j from by omega])) (by omega) (by omega) ht
  have hagg : tif.isAgg = false := by
   unfold TI.isAgg
   cases htd : tif.td <;> simp [zo,htd] at hty ⊢
  have part1 : ∀ (cs : Array Value) (v : Value),cs[i]? = some v → (part f.type cs f.offset).run P w = .ok v w := by
   intro cs v hv
   unfold part
   simp only [hoff,Sem.run_bind,htf.isAgg,hagg,Result.andThen_ok,Bool.false_eq_true,if_false,hv,Sem.run_pure]
  have step : ∀ (t u : Bool),(Op.equalIn (d + 1) f.type x y).run P w = .ok t w → jm a b = some u → (Op.eqFields (d + 1) xs ys (f :: fs)).run P w = .ok (t && u) w := by
   intro t u h1 h2
   simp only [Op.eqFields,hn,not_false_eq_true,ne_eq,if_true,Sem.run_bind,part1 xs x hx,part1 ys y hy,Result.andThen_ok,h1]
   cases t
   ·simp
   ·simp [rest h2]
  cases p with
  | int k n => cases q with
   | int k' n' =>
    simp only [jm] at h
    split at h
    rotate_left
    ·cases h
    rename_i hk
    subst hk
    split at h <;> cases h
    rename_i t ht
    refine step _ _ ?_ ht
    cases hpx; cases hqy
    obtain ⟨k0,htd⟩ : ∃ k0,tif.td = .int k0 := by cases htd : tif.td <;> simp [zo,htd] at hty ⊢
    exact run_equalIn_int w d f.type k k0 n n' (htf.int htd)
   | _ => simp [jm] at h
  | str s => cases q with
   | str s' =>
    simp only [jm] at h
    split at h <;> cases h
    rename_i t ht
    refine step _ _ ?_ ht
    cases hpx; cases hqy
    have htd : tif.td = .string := by cases htd : tif.td <;> simp [zo,htd] at hty ⊢
    have := run_equalIn_string w d f.type ⟨⟨s⟩⟩ ⟨⟨s'⟩⟩ (htf.string htd)
    simpa using this
   | _ => simp [jm] at h
  | bool x1 => cases q with
   | bool x2 =>
    simp only [jm] at h
    split at h <;> cases h
    rename_i t ht
    refine step _ _ ?_ ht
    cases hpx; cases hqy
    have htd : tif.td = .bool := by cases htd : tif.td <;> simp [zo,htd] at hty ⊢
    exact run_equalIn_bool' w d f.type x1 x2 (htf.bool htd)
   | _ => simp [jm] at h
  | _ => simp [jm] at h
def q35 : Value → Bool
 | .bool _ | .agg _ | .slice _ _ _ | .pointer _ | .map _ | .func _ _ _ | .nilFunc => true
 | _ => false
theorem binOp_eql {t : TypeId} {x y : Value} (h : q35 x = true) : (binOp .eql t x y).run P w = ((Op.equal t x y).run P w).andThen fun b w' => .ok (.bool b) w' := by
 cases x <;> simp [q35] at h <;> simp [binOp]
theorem binOp_neq {t : TypeId} {x y : Value} (h : q35 x = true) : (binOp .neq t x y).run P w = ((Op.equal t x y).run P w).andThen fun b w' => .ok (.bool (!b)) w' := by
 cases x <;> simp [q35] at h <;> simp [binOp]
theorem qha (d : Nat) {t e : TypeId} (hu : P.underlying t = some (.slice e)) (a : Option Addr) (n c n' c' : Nat) :
  (Op.equalIn (d + 1) t (.slice a n c) (.slice none n' c')).run P w = .ok a.isNone w ∧ (Op.equalIn (d + 1) t (.slice none n' c') (.slice a n c)).run P w = .ok a.isNone w := by
 cases a <;> simp [Op.equalIn,qp hu]
theorem qhi (d : Nat) {t e : TypeId} (hu : P.underlying t = some (.pointer e)) (a : Option Addr) :
  (Op.equalIn (d + 1) t (.pointer a) (.pointer none)).run P w = .ok a.isNone w ∧ (Op.equalIn (d + 1) t (.pointer none) (.pointer a)).run P w = .ok a.isNone w := by
 cases a <;> simp [Op.equalIn,qp hu]
theorem qh5 (d : Nat) {t k e : TypeId} (hu : P.underlying t = some (.map k e)) (a : Option Nat) :
  (Op.equalIn (d + 1) t (.map a) (.map none)).run P w = .ok a.isNone w ∧ (Op.equalIn (d + 1) t (.map none) (.map a)).run P w = .ok a.isNone w := by
 cases a <;> simp [Op.equalIn,qp hu]
theorem qbp (d : Nat) {t : TypeId} {p1 p2 p3} (hu : P.underlying t = some (.func p1 p2 p3)) (f : Fn) (a b : Array Value) :
  (Op.equalIn (d + 1) t (.func f a b) .nilFunc).run P w = .ok false w ∧ (Op.equalIn (d + 1) t .nilFunc (.func f a b)).run P w = .ok false w ∧
  (Op.equalIn (d + 1) t .nilFunc .nilFunc).run P w = .ok true w := by
 simp [Op.equalIn,qp hu]
theorem qj6 {G : TypeId → Option TI} (hG : ∀ t ti,G t = some ti → ql P t ti) {t : TypeId} {ti : TI} (ht : ql P t ti) (hi : qg w H ι Im) {x y : AV} {vx vy : Value}
  (hx : RA w H ι Im x vx) (hy : RA w H ι Im y vy) (ox oy : Operand) {r : Bool} (hr : aEq G ti x y H = some r) :
  (eqGuard .eql t ox oy vx vy).run P w = .ok () w ∧ (eqGuard .neq t ox oy vx vy).run P w = .ok () w ∧ (Op.equal t vx vy).run P w = .ok r w ∧ q35 vx = true := by
 have plainGuard : ∀ (vx vy : Value),(∀ c d,¬ (vx = .agg c ∧ vy = .agg d)) → ¬ (vx = .nilIface ∧ vy = .nilIface) → ∀ op,(eqGuard op t ox oy vx vy).run P w = .ok () w := by
  intro vx vy h1 h2 op
  unfold eqGuard
  cases vx <;> cases vy <;> simp_all
 unfold aEq at hr
 split at hr
 ·rename_i htd
  split at hr <;> cases hr
  rename_i b1 b2
  cases hx with | pv _ _ hx => cases hy with | pv _ _ hy =>
  cases hx; cases hy
  refine ⟨plainGuard _ _ (by simp) (by simp) _,plainGuard _ _ (by simp) (by simp) _, ?_⟩
  exact ⟨run_equalIn_bool' w 9999 t b1 b2 (ht.bool htd),rfl⟩
 ·rename_i fs htd
  obtain ⟨fields,hu,rfl⟩ := ht.struct htd
  split at hr
  rotate_left
  ·cases hr
  rename_i a b
  split at hr
  rotate_left
  ·cases hr
  rename_i hc
  obtain ⟨heq,hfit⟩ := hc
  have hek := ht.eqk
  rw [heq] at hek
  have hek := hek.symm
  unfold qcl at hek
  rw [hu] at hek
  simp only [Bool.and_eq_true,Bool.not_eq_true'] at hek
  obtain ⟨⟨e1,e2⟩,e3⟩ := hek
  cases hx with | pv _ _ hx => cases hy with | pv _ _ hy =>
  cases hx with | agg _ xs hlx _ hxx => cases hy with | agg _ ys hly _ hyy =>
  refine ⟨run_eqGuard_agg w .eql t ox oy _ _ e2,run_eqGuard_agg w .neq t ox oy _ _ e2, ?_,rfl⟩
  have hfo : P.underlying t = some (.struct (P.fieldsOf t)) := by simp [Program.fieldsOf,hu]
  have hfe : P.fieldsOf t = fields := by simp [Program.fieldsOf,hu]
  have := run_equalIn_struct w 9999 t ⟨xs⟩ ⟨ys⟩ hfo e1
  unfold Op.equal
  show (Op.equalIn (9999 + 1) t _ _).run P w = _
  rw [this,hfe]
  exact qfj hG 9998 ⟨xs⟩ ⟨ys⟩ fields.toList 0 a b e3 hfit (fun j p v h1 h2 => hxx j p v h1 (by simpa using h2)) (fun j p v h1 h2 => hyy j p v h1 (by simpa using h2))
   (by simp [hlx]) (by simp [hly]) hr
 ·rename_i td hnb hns
  have nilOf : ∀ {z : AV} {vz : Value},RA w H ι Im z vz → ∀ {q : Bool},xk ti.td z H = some q →
    (∃ e,ti.td = .slice e ∧ ∃ a n c,vz = .slice a n c ∧ a.isNone = q) ∨ (ti.td = .ptr ∧ ∃ a,vz = .pointer a ∧ a.isNone = q) ∨
    ((∃ k e,ti.td = .map k e) ∧ ∃ a,vz = .map a ∧ a.isNone = q) ∨ (ti.td = .func ∧ ((vz = .nilFunc ∧ q = true) ∨ ∃ f a b,vz = .func f a b ∧ q = false)) := by
   intro z vz hz q hq
   unfold xk at hq
   split at hq
   ·rename_i htd
    refine .inr (.inl ⟨htd, ?_⟩)
    split at hq <;> cases hq
    ·cases hz with | pv _ _ h => cases h; exact ⟨_,rfl,rfl⟩
    ·cases hz; exact ⟨_,rfl,rfl⟩
    ·cases hz; exact ⟨_,rfl,rfl⟩
    ·cases hz; exact ⟨_,rfl,rfl⟩
    ·cases hz with | pv _ _ h => cases h; exact ⟨_,rfl,rfl⟩
   ·rename_i e htd
    refine .inl ⟨e,htd, ?_⟩
    split at hq
    ·cases hq
     cases hz with | pv _ _ h =>
     cases h
     ·exact ⟨_,_,_,rfl,rfl⟩
     ·exact ⟨_,_,_,rfl,rfl⟩
    ·cases hq
     cases hz; exact ⟨_,_,_,rfl,rfl⟩
    ·rename_i β ver off n
     split at hq
     rotate_left
     ·cases hq
     rename_i isnil sz es hb
     split at hq <;> cases hq
     rename_i hv
     obtain ⟨a,c,rfl,hn⟩ := hz.qd0 hi hb hv
     exact ⟨_,_,_,rfl,hn⟩
    ·cases hq
   ·rename_i k e htd
    refine .inr (.inr (.inl ⟨⟨k,e,htd⟩, ?_⟩))
    split at hq <;> cases hq
    ·cases hz with | pv _ _ h => cases h; exact ⟨_,rfl,rfl⟩
    ·cases hz; exact ⟨_,rfl,rfl⟩
   ·rename_i htd
    refine .inr (.inr (.inr ⟨htd, ?_⟩))
    split at hq <;> cases hq
    ·cases hz with | pv _ _ h => cases h; exact .inl ⟨rfl,rfl⟩
    ·cases hz with | pv _ _ h => cases h; exact .inr ⟨_,_,_,rfl,rfl⟩
    ·cases hz; exact .inr ⟨_,_,_,rfl,rfl⟩
   ·cases hq
  have isNil : ∀ {z : AV} {vz : Value},RA w H ι Im z vz → q8n ti.td z = true → xk ti.td z H = some true := by
   intro z vz hz h
   unfold q8n at h
   split at h <;> rename_i h1 <;> first | (rw [h1]; rfl) | cases h
  have main : ∀ {z z' : AV} {vz vz' : Value},RA w H ι Im z vz → RA w H ι Im z' vz' → xk ti.td z H = some r → xk ti.td z' H = some true →
    (∀ c d,¬ (vz = .agg c ∧ vz' = .agg d)) ∧ (∀ c d,¬ (vz' = .agg c ∧ vz = .agg d)) ∧ ¬ (vz = .nilIface ∧ vz' = .nilIface) ∧ ¬ (vz' = .nilIface ∧ vz = .nilIface) ∧
    (Op.equal t vz vz').run P w = .ok r w ∧ (Op.equal t vz' vz).run P w = .ok r w ∧ q35 vz = true ∧ q35 vz' = true := by
   intro z z' vz vz' hz hz' h1 h2
   have g1 := nilOf hz h1
   have g2 := nilOf hz' h2
   unfold Op.equal
   rcases g1 with ⟨e,htd,a,n,c,rfl,hn⟩ | ⟨htd,a,rfl,hn⟩ | ⟨⟨k,e,htd⟩,a,rfl,hn⟩ | ⟨htd,g1⟩
   ·rcases g2 with ⟨e',htd',a',n',c',rfl,hn'⟩ | ⟨htd',_⟩ | ⟨⟨k',e',htd'⟩,_⟩ | ⟨htd',_⟩
    rotate_left
    ·rw [htd] at htd'; cases htd'
    ·rw [htd] at htd'; cases htd'
    ·rw [htd] at htd'; cases htd'
    have : a' = none := by simpa using hn'
    subst this hn
    exact ⟨by simp,by simp,by simp,by simp,(qha 9999 (ht.slice htd) a n c n' c').1,(qha 9999 (ht.slice htd) a n c n' c').2,rfl,rfl⟩
   ·obtain ⟨e,hu⟩ := ht.ptr htd
    rcases g2 with ⟨e',htd',_⟩ | ⟨htd',a',rfl,hn'⟩ | ⟨⟨k',e',htd'⟩,_⟩ | ⟨htd',_⟩
    ·rw [htd] at htd'; cases htd'
    rotate_left
    ·rw [htd] at htd'; cases htd'
    ·rw [htd] at htd'; cases htd'
    have : a' = none := by simpa using hn'
    subst this hn
    exact ⟨by simp,by simp,by simp,by simp,(qhi 9999 hu a).1,(qhi 9999 hu a).2,rfl,rfl⟩
   ·rcases g2 with ⟨e',htd',_⟩ | ⟨htd',_⟩ | ⟨⟨k',e',htd'⟩,a',rfl,hn'⟩ | ⟨htd',_⟩
    ·rw [htd] at htd'; cases htd'
    ·rw [htd] at htd'; cases htd'
    rotate_left
    ·rw [htd] at htd'; cases htd'
    have : a' = none := by simpa using hn'
    subst this hn
    exact ⟨by simp,by simp,by simp,by simp,(qh5 9999 (ht.map htd) a).1,(qh5 9999 (ht.map htd) a).2,rfl,rfl⟩
   ·obtain ⟨p1,p2,p3,hu⟩ := ht.func htd
    rcases g2 with ⟨e',htd',_⟩ | ⟨htd',_⟩ | ⟨⟨k',e',htd'⟩,_⟩ | ⟨htd',g2⟩
    ·rw [htd] at htd'; cases htd'
    ·rw [htd] at htd'; cases htd'
    ·rw [htd] at htd'; cases htd'
    rcases g2 with ⟨rfl,_⟩ | ⟨_,_,_,_,h⟩
    rotate_left
    ·cases h
    rcases g1 with ⟨rfl,rfl⟩ | ⟨f,a,b,rfl,rfl⟩
    ·have := (qbp (P := P) (w := w) 9999 hu (.func 0) #[] #[]).2.2
     exact ⟨by simp,by simp,by simp,by simp,this,this,rfl,rfl⟩
    ·exact ⟨by simp,by simp,by simp,by simp,(qbp 9999 hu f a b).1,(qbp 9999 hu f a b).2.1,rfl,rfl⟩
  split at hr
  ·rename_i hn
   obtain ⟨m1,m2,m3,m4,m5,m6,m7,m8⟩ := main hx hy hr (isNil hy hn)
   exact ⟨plainGuard _ _ m1 m3 _,plainGuard _ _ m1 m3 _,m5,m7⟩
  ·split at hr
   ·rename_i hn
    obtain ⟨m1,m2,m3,m4,m5,m6,m7,m8⟩ := main hy hx hr (isNil hx hn)
    exact ⟨plainGuard _ _ m2 m4 _,plainGuard _ _ m2 m4 _,m6,m8⟩
   ·cases hr
theorem qxn {G : TypeId → Option TI} (hG : ∀ t ti,G t = some ti → ql P t ti) {t : TypeId} {ti : TI} (ht : ql P t ti) (hi : qg w H ι Im) {x y : AV} {vx vy : Value}
  (hx : RA w H ι Im x vx) (hy : RA w H ι Im y vy) (op : BinOp) (ox oy : Operand) {p : PV} (hr : q48 G op ti x y H = some p) :
  ∃ u,(eqGuard op t ox oy vx vy).run P w = .ok () w ∧ (binOp op t vx vy).run P w = .ok u w ∧ RP w Im p u := by
 have intGuard : ∀ (k k' : IntKind) (a b : Int) (op : BinOp),(eqGuard op t ox oy (.int k a) (.int k' b)).run P w = .ok () w := by
  intro k k' a b op
  unfold eqGuard
  cases op <;> simp
 have strGuard : ∀ (a b : ByteArray) (op : BinOp),(eqGuard op t ox oy (.string a) (.string b)).run P w = .ok () w := by
  intro a b op
  unfold eqGuard
  cases op <;> simp
 unfold q48 at hr
 split at hr
 ·split at hr
  rotate_left
  ·cases hr
  rename_i k a k' b
  split at hr <;> cases hr
  rename_i h0
  cases hx with | pv _ _ hx => cases hy with | pv _ _ hy =>
  cases hx; cases hy
  have : ¬ b < 0 := by omega
  exact ⟨_,intGuard _ _ _ _ _,by simp [binOp,Op.shift,this],.int _ _⟩
 ·split at hr
  rotate_left
  ·cases hr
  rename_i k a k' b
  split at hr <;> cases hr
  rename_i h0
  cases hx with | pv _ _ hx => cases hy with | pv _ _ hy =>
  cases hx; cases hy
  have : ¬ b < 0 := by omega
  exact ⟨_,intGuard _ _ _ _ _,by simp [binOp,Op.shift,this],.int _ _⟩
 ·rename_i h1 h2
  split at hr
  ·rename_i k a k' b
   split at hr
   rotate_left
   ·cases hr
   rename_i hk
   subst hk
   cases hx with | pv _ _ hx => cases hy with | pv _ _ hy =>
   cases hx; cases hy
   obtain ⟨u,g1,g2⟩ := qm2 (P := P) (w := w) (Im := Im) ⟨h1,h2⟩ t hr
   exact ⟨u,intGuard _ _ _ _ _,g1,g2⟩
  ·cases hx with | pv _ _ hx => cases hy with | pv _ _ hy =>
   cases hx; cases hy
   obtain ⟨u,g1,g2⟩ := zif (P := P) (w := w) (Im := Im) t hr
   exact ⟨u,strGuard _ _ _,g1,g2⟩
  ·rename_i x y hni hns
   split at hr
   ·split at hr <;> cases hr
    rename_i b hb
    obtain ⟨g1,g2,g3,g4⟩ := qj6 hG ht hi hx hy ox oy hb
    exact ⟨.bool b,g1,by rw [binOp_eql g4,g3]; rfl,.bool _⟩
   ·split at hr <;> cases hr
    rename_i b hb
    obtain ⟨g1,g2,g3,g4⟩ := qj6 hG ht hi hx hy ox oy hb
    exact ⟨.bool (!b),g2,by rw [binOp_neq g4,g3]; rfl,.bool _⟩
   ·cases hr
end
end Go.Gm
set_option linter.unusedSectionVars false
namespace Go.Gm
open Go
section
variable [Globs] {P : Program} {w : World} {H : Heap} {ι : Plc} {Im : Nat → Prop}
theorem RA.xg {p : PV} {v : Value} (h : RA w H ι Im (.pv p) v) : RP w Im p v := by
 cases h
 assumption
theorem qk4 : ∀ (es : List (List PV)) (l : List UInt8),bytesOf es = some l → ∀ (cs : Nat → Option Value) (k : Nat),(∀ (i : Nat) e (j : Nat) p,es[i]? = some e → e[j]? = some p → ∃ v,cs (k + i) = some v ∧ RP w Im p v ∧ j = 0) →
  es.length = l.length ∧ ∀ i,i < es.length → ∃ n : Int,cs (k + i) = some (.int .u8 n) ∧ l[i]? = some (UInt8.ofNat n.toNat)
 | [],l,h,cs,k,_ => by
  simp only [bytesOf,Option.some.injEq] at h
  subst h
  simp
 | e :: r,l,h,cs,k,hc => by
  unfold bytesOf at h
  split at h
  ·cases ‹_ :: _ = []›
  ·rename_i n r' heq
   obtain ⟨rfl,rfl⟩ : e = [.int .u8 n] ∧ r = r' := by simpa using heq
   split at h <;> cases h
   rename_i l' hl
   obtain ⟨h1,h2⟩ := qk4 r l' hl cs (k + 1) (fun i e j p a b => by
    have := hc (i + 1) e j p (by simpa using a) b
    rwa [show k + (i + 1) = k + 1 + i from by omega] at this)
   refine ⟨by simp [h1],fun i hi => ?_⟩
   cases i with
   | zero =>
    obtain ⟨v,g1,g2,_⟩ := hc 0 [.int .u8 n] 0 (.int .u8 n) (by simp) (by simp)
    cases g2
    exact ⟨n,g1,by simp⟩
   | succ i =>
    simp only [List.length_cons] at hi
    obtain ⟨n',g1,g2⟩ := h2 i (by omega)
    exact ⟨n',by rwa [show k + (i + 1) = k + 1 + i from by omega],by simpa using g2⟩
  ·cases h
theorem qj2 (g : Value → ByteArray → Sem (ForInStep ByteArray)) (hg : ∀ n s,g (.int .u8 n) s = pure (.yield (s.push (UInt8.ofNat n.toNat)))) :
  ∀ (l : List Value) (acc : ByteArray) (out : List UInt8),l.length = out.length →
  (∀ (i : Nat) v b,l[i]? = some v → out[i]? = some b → ∃ n : Int,v = .int .u8 n ∧ b = UInt8.ofNat n.toNat) →
  (forIn l acc g).run P w = .ok ⟨⟨acc.data.toList ++ out⟩⟩ w
 | [],acc,out,hl,_ => by
  have : out = [] := by simpa using hl.symm
  subst this
  simp
 | v :: r,acc,out,hl,h => by
  cases out with
  | nil => simp at hl
  | cons b out =>
   obtain ⟨n,rfl,rfl⟩ := h 0 v b (by simp) (by simp)
   have ih := qj2 g hg r (acc.push (UInt8.ofNat n.toNat)) out (by simpa using hl) (fun i v b h1 h2 => h (i + 1) v b (by simpa using h1) (by simpa using h2))
   simp only [List.forIn_cons,hg,Sem.run_bind,Sem.run_pure,Result.andThen_ok,ih]
   simp
theorem z8g {src dst : TypeId} {d1 : TypeDesc} {k : IntKind} (h1 : P.underlying src = some d1) (h2 : P.underlying dst = some (.int k)) (kd : IntKind) (n : Int) :
  (convert src dst (.int kd n)).run P w = .ok (.int k (k.wrap n)) w := by
 unfold convert
 simp only [Sem.run_bind,qp h1,qp h2,Result.andThen_ok]
 rfl
theorem qpw {src dst : TypeId} {d1 : TypeDesc} (h1 : P.underlying src = some d1) (h2 : P.underlying dst = some .string) (s : ByteArray) :
  (convert src dst (.string s)).run P w = .ok (.string s) w := by
 unfold convert
 simp only [Sem.run_bind,qp h1,qp h2,Result.andThen_ok]
 rfl
theorem zar {src dst e : TypeId} (h1 : P.underlying src = some (.slice e)) (h2 : P.underlying dst = some .string) (h3 : P.underlying e = some (.int .u8)) (a : Option Addr) (n c : Nat) :
  (convert src dst (.slice a n c)).run P w = (Conv.bytesToString (.slice a n c)).run P w := by
 unfold convert
 simp only [Sem.run_bind,qp h1,qp h2,Result.andThen_ok,qp h3]
theorem zfv {src dst e : TypeId} {d1 : TypeDesc} (h1 : P.underlying src = some d1) (h2 : P.underlying dst = some (.slice e)) (h3 : P.underlying e = some (.int .u8)) (s : ByteArray) :
  (convert src dst (.string s)).run P w = (Conv.stringToBytes e s).run P w := by
 unfold convert
 simp only [Sem.run_bind,qp h1,qp h2,Result.andThen_ok,qp h3]
theorem ql.q58 {t : TypeId} {ti : TI} (ht : ql P t ti) : ∃ d,P.underlying t = some d := by
 obtain ⟨d,h,_⟩ := ht.und
 exact ⟨d,h⟩
theorem z0a {G : TypeId → Option TI} (hG : ∀ t ti,G t = some ti → ql P t ti) {src dst : TypeId} {ts td : TI} (hs : ql P src ts) (hd : ql P dst td)
  (hi : qg w H ι Im) {nx : Nat} {X : Nat → Prop} (hnx : Bd X H nx) {x : AV} {v : Value} (hx : RA w H ι Im x v) {r : Eff} (hr : q0t ts.td td.td G x H nx = some r) (hX : ∀ γ,X γ → r.2.2 ≤ γ) :
  ∃ u w',(convert src dst v).run P w = .ok u w' ∧ Did X w H ι Im nx r u w' := by
 obtain ⟨d1,hu1⟩ := hs.q58
 unfold q0t at hr
 split at hr
 ·rename_i k kd n htd
  cases hr
  have h := hx.xg
  cases h
  exact ⟨.int k (k.wrap n),w,z8g hu1 (hd.int htd) _ _,Did.pure hi hnx (.pv _ _ (.int _ _))⟩
 ·rename_i s htd
  cases hr
  have h := hx.xg
  cases h
  exact ⟨_,w,qpw hu1 (hd.string htd) _,Did.pure hi hnx (.pv _ _ (.str _))⟩
 ·rename_i e hns htd1 htd2
  split at hr
  rotate_left
  ·cases hr
  rename_i te hte
  have hte' := hG _ _ hte
  split at hr
  rotate_left
  ·cases hr
  rename_i htde
  split at hr
  rotate_left
  ·cases hr
  rename_i xsz es hsrc
  split at hr
  rotate_left
  ·cases hr
  rename_i hx1
  split at hr <;> cases hr
  rename_i l hl
  have hsl : ∃ a n c,v = .slice a n c := by
   unfold jc at hsrc
   split at hsrc
   ·have h := hx.xg
    cases h <;> exact ⟨_,_,_,rfl⟩
   ·cases hx; exact ⟨_,_,_,rfl⟩
   ·rename_i β ver off n
    split at hsrc
    rotate_left
    ·cases hsrc
    rename_i isnil sz es' hb
    split at hsrc
    rotate_left
    ·cases hsrc
    rename_i hv
    obtain ⟨a,c,h,_⟩ := hx.qd0 hi hb hv
    exact ⟨_,_,_,h⟩
   ·rename_i s
    exact absurd rfl (by first | exact hns _ | exact htd1 _ | exact htd2 _ | skip)
   ·cases hsrc
  obtain ⟨a,n,c,rfl⟩ := hsl
  obtain ⟨l1,l2⟩ := q40 (P := P) hi hx hsrc
  obtain ⟨cs,f1,f2,f3⟩ := l2 1 hx1
  have hn : n = es.length := by
   simp [Builtin.lenOf] at l1
   exact l1
  subst hn
  obtain ⟨k1,k2⟩ := qk4 (w := w) (Im := Im) es l hl (fun i => cs[i]?) 0 (fun i e j p q1 q2 => by
   obtain ⟨v0,g1,g2⟩ := f3.2.2 i e j p q1 q2
   have h1 := f3.1 e (List.mem_of_getElem? q1)
   have h2 := (List.getElem?_eq_some_iff.1 q2).1
   have : j = 0 := by omega
   subst this
   exact ⟨v0,by simpa using g1,g2,rfl⟩)
  refine ⟨.string ⟨⟨l⟩⟩,w, ?_,Did.pure hi hnx (.pv _ _ (.str _))⟩
  rw [zar (hs.slice ‹_›) (hd.string ‹_›) (hte'.int htde)]
  unfold Conv.bytesToString
  cases a with
  | none =>
   have hcs : cs = #[] := by
    simp [Builtin.firstCells] at f1
    first | exact f1.symm | exact f1
   subst hcs
   have : es = [] := by
    have : es.length = 0 := by simpa using f2.symm
    simpa using this
   subst this
   have : l = [] := by simpa using k1.symm
   subst this
   rfl
  | some a =>
   have hld : (loadCells a es.length).run P w = .ok cs w := by simpa [Builtin.firstCells] using f1
   have hcs : cs.toList.length = l.length := by simp; omega
   have := fun g hg => qj2 (P := P) (w := w) g hg cs.toList ByteArray.empty l hcs (fun i v b q1 q2 => by
    have hil : i < es.length := by
     have := (List.getElem?_eq_some_iff.1 q1).1
     omega
    obtain ⟨m,g1,g2⟩ := k2 i hil
    have q1' : cs[i]? = some v := by simpa using q1
    simp only [Nat.zero_add,q1'] at g1
    rw [q2] at g2
    exact ⟨m,Option.some.inj g1,Option.some.inj g2⟩)
   simp only [Sem.run_bind,hld,Result.andThen_ok]
   rw [← Array.forIn_toList,this _ (fun n s => rfl)]
   rfl
 ·rename_i e s htd
  split at hr
  rotate_left
  ·cases hr
  rename_i te hte
  have hte' := hG _ _ hte
  split at hr <;> cases hr
  rename_i htde
  have h := hx.xg
  cases h
  let cap : Nat := Question.cut (.appendCap s.length 0 e) (w.tape w.drawn (.appendCap s.length 0 e))
  have hcap : s.length ≤ cap := by simp [cap,Question.cut]
  let cs : Array Value := (⟨s⟩ : Array UInt8).map (fun b => Value.int .u8 b.toNat) ++ Array.replicate (cap - s.length) (.int .u8 0)
  have hsz : cs.size = cap := by simp [cs]; omega
  refine ⟨.slice (some ⟨w.heap.size,0,none⟩) s.length cap, { zl w with heap := w.heap.push (.cells cs e (cs.size,cs.size + 1)) }, ?_, ?_⟩
  ·rw [zfv hu1 (hd.slice htd) (hte'.int htde)]
   unfold Conv.stringToBytes
   have hch : (choose (Question.appendCap (ByteArray.mk ⟨s⟩).size 0 e)).run P w = .ok cap (zl w) := by
    have : (ByteArray.mk ⟨s⟩).size = s.length := rfl
    rw [this]
    simp [choose,Sem.run,Question.forced,cap,zl]
   have hmark : (markStringish ⟨w.heap.size,0,none⟩).run P { zl w with heap := w.heap.push (.cells cs e) } = .ok () { zl w with heap := w.heap.push (.cells cs e (cs.size,cs.size + 1)) } := by
    unfold markStringish
    have h1 : (World.shape? { zl w with heap := w.heap.push (.cells cs e) } w.heap.size) = some (e,cs.size) := by simp [World.shape?]
    simp only [Sem.run_bind,run_shape,Result.andThen_ok,h1,run_freeze]
    simp [World.freeze,zl]
    apply Array.ext
    ·simp
    ·intro i h1 h2
     simp at h1
     simp only [Array.getElem_modify,Array.getElem_push]
     split
     ·rename_i h; subst h; simp
     ·rename_i h; simp [show i < w.heap.size from by omega]
   have e1 : (ByteArray.mk ⟨s⟩).size = s.length := rfl
   simp only [Sem.run_bind,hch,Result.andThen_ok,newRow,run_newObj,Sem.run_pure]
   have e2 : (zl w).heap = w.heap := rfl
   simp only [e2,e1]
   have := hmark
   simp only [cs,e1] at this ⊢
   rw [this]
   rfl
  ·have := q9p hi hnx (q0v hX) 1 (s.map fun b => [PV.int .u8 b.toNat]) cs e (cs.size,cs.size + 1) cap { zl w with heap := w.heap.push (.cells cs e (cs.size,cs.size + 1)) } rfl ⟨rfl,rfl⟩
    (fun i hi' h => by simp at h; omega) (by omega) (by simp [hsz]) (by simpa using hcap) (by
     refine ⟨fun e0 he0 => ?_,fun i e0 j p q1 q2 => ?_,fun i e0 j p q1 q2 => ?_⟩
     ·simp only [List.mem_map] at he0
      obtain ⟨b,_,rfl⟩ := he0
      rfl
     ·simp only [List.getElem?_map,Option.map_eq_some_iff] at q1
      obtain ⟨b,_,rfl⟩ := q1
      cases j with
      | zero => simp at q2; subst q2; rfl
      | succ j => simp at q2
     ·simp only [List.getElem?_map,Option.map_eq_some_iff] at q1
      obtain ⟨b,hb,rfl⟩ := q1
      cases j with
      | zero =>
       simp at q2
       subst q2
       refine ⟨.int .u8 b.toNat, ?_,.int _ _⟩
       have hil := (List.getElem?_eq_some_iff.1 hb).1
       simp only [cs]
       rw [Array.getElem?_append_left (by simp; omega)]
       simp [hb]
      | succ j => simp at q2)
   simpa using this
 ·cases hr
end
end Go.Gm
set_option linter.unusedSectionVars false
namespace Go.Gm
open Go
section
variable [Globs] {P : Program} {w : World} {H : Heap} {ι : Plc} {Im : Nat → Prop}
def j6 (w : World) (Im : Nat → Prop) (es : List (PV × PV × Nat)) (ents : List MapEntry) : Prop :=
 es.length = ents.length ∧ ∀ (i : Nat) (k x : PV) (born : Nat) e,es[i]? = some (k,x,born) → ents[i]? = some e → RP w Im k e.key ∧ RP w Im x e.val ∧ e.born = born
theorem j6.mono {w' : World} {Im' : Nat → Prop} (hi : ∀ b,Im b → Im' b) (hw : ∀ b,Im b → w'.heap[b]? = w.heap[b]?) {es : List (PV × PV × Nat)} {ents : List MapEntry}
  (h : j6 w Im es ents) : j6 w' Im' es ents :=
 ⟨h.1,fun i k x born e a b => let ⟨g1,g2,g3⟩ := h.2 i k x born e a b; ⟨g1.mono hi hw,g2.mono hi hw,g3⟩⟩
theorem j6.tail {x : PV × PV × Nat} {es : List (PV × PV × Nat)} {e : MapEntry} {ents : List MapEntry} (h : j6 w Im (x :: es) (e :: ents)) : j6 w Im es ents :=
 ⟨by simpa using h.1,fun i k y born e' a b => h.2 (i + 1) k y born e' (by simpa using a) (by simpa using b)⟩
theorem qhe (a b : List UInt8) : ((⟨⟨a⟩⟩ : ByteArray) == ⟨⟨b⟩⟩) = (a == b) := by
 have := beq_toListBytes ⟨⟨a⟩⟩ ⟨⟨b⟩⟩
 simpa using this
theorem znj {t : TypeId} {tk : TI} (ht : ql P t tk) {k : PV} (hk : zo tk.td k = true) {d : TypeDesc} (hd : P.underlying t = some d) {k' : PV} {vk vk' : Value}
  (h1 : RP w Im k vk) (h2 : RP w Im k' vk') {b : Bool} (hb : q7e k k' = some b) : Instr.sameNow d vk vk' = some b ∧ (b = true → vk = vk') := by
 have key : ∀ td,tk.td = td → zo td k = true → _ := fun td e h => (⟨e,h⟩ : tk.td = td ∧ zo td k = true)
 cases k <;> cases k' <;> simp only [q7e,reduceCtorEq] at hb
 ·rename_i a b'
  cases hb
  cases h1; cases h2
  have htd : tk.td = .bool := by cases htd : tk.td <;> simp [zo,htd] at hk ⊢
  rw [ht.bool htd] at hd
  cases hd
  exact ⟨rfl,fun h => by simpa using h⟩
 ·rename_i kd a kd' b'
  split at hb <;> cases hb
  rename_i hkk
  subst hkk
  cases h1; cases h2
  obtain ⟨k0,htd⟩ : ∃ k0,tk.td = .int k0 := by cases htd : tk.td <;> simp [zo,htd] at hk ⊢
  rw [ht.int htd] at hd
  cases hd
  exact ⟨by simp [Instr.sameNow],fun h => by simpa using h⟩
 ·rename_i a b'
  cases hb
  cases h1; cases h2
  have htd : tk.td = .string := by cases htd : tk.td <;> simp [zo,htd] at hk ⊢
  rw [ht.string htd] at hd
  cases hd
  refine ⟨?_,fun h => ?_⟩
  ·simp only [Instr.sameNow,qhe]
  ·have : a = b' := by simpa using h
   rw [this]
theorem q1f {t : TypeId} {tk : TI} (ht : ql P t tk) {k : PV} (hk : zo tk.td k = true) {d : TypeDesc} (hd : P.underlying t = some d) {vk : Value} (h1 : RP w Im k vk) :
  ∀ (es : List (PV × PV × Nat)) (ents : List MapEntry) (i : Nat),j6 w Im es ents → ∀ {r : Option (Nat × PV × Nat)},findKey k es i = some r →
   (r = none ∧ Instr.findNow d vk ents i = some none) ∨
   ∃ j x born e,r = some (i + j,x,born) ∧ Instr.findNow d vk ents i = some (some (i + j,e.val)) ∧ ents[j]? = some e ∧ RP w Im x e.val ∧ e.born = born ∧ e.key = vk
 | [],ents,i,hE,r,h => by
  have : ents = [] := by simpa using hE.1.symm
  subst this
  cases h
  exact .inl ⟨rfl,rfl⟩
 | (k',x,born) :: es,[],i,hE,r,h => by
  have := hE.1
  simp at this
 | (k',x,born) :: es,e :: ents,i,hE,r,h => by
  obtain ⟨g1,g2,g3⟩ := hE.2 0 k' x born e (by simp) (by simp)
  unfold findKey at h
  cases hq : q7e k k' with
  | none => simp [hq] at h
  | some b =>
   obtain ⟨s1,s2⟩ := znj ht hk hd h1 g1 hq
   cases b with
   | true =>
    simp only [hq,Option.some.injEq] at h
    subst h
    refine .inr ⟨0,x,born,e,rfl, ?_,rfl,g2,g3,(s2 rfl).symm⟩
    simp [Instr.findNow,s1]
   | false =>
    simp only [hq] at h
    rcases q1f ht hk hd h1 es ents (i + 1) hE.tail h with ⟨rfl,q⟩ | ⟨j,x',born',e',rfl,q1,q2,q3,q4,q5⟩
    ·exact .inl ⟨rfl,by simp [Instr.findNow,s1,q]⟩
    ·refine .inr ⟨j + 1,x',born',e',by rw [Nat.add_assoc,Nat.add_comm 1 j], ?_,by simpa using q2,q3,q4,q5⟩
     simp only [Instr.findNow,s1,q1]
     rw [Nat.add_assoc,Nat.add_comm 1 j]
theorem run_checkKey {t : TypeId} {tk : TI} (ht : ql P t tk) {k : PV} (hk : zo tk.td k = true) (empty : Bool) (vk : Value) : (Instr.checkKey empty 10000 t vk).run P w = .ok () w := by
 have gen : ∀ n,(Instr.checkKey empty (n + 1) t vk).run P w = .ok () w := by
  intro n
  unfold Instr.checkKey
  have : P.underlying t = some .bool ∨ P.underlying t = some .string ∨ ∃ k0,P.underlying t = some (.int k0) := by
   cases htd : tk.td <;> simp [zo,htd] at hk
   ·exact .inl (ht.bool htd)
   ·exact .inr (.inr ⟨_,ht.int htd⟩)
   ·exact .inr (.inl (ht.string htd))
  rcases this with h | h | ⟨k0,h⟩ <;> simp [qp h]
 exact gen 9999
theorem run_findKey {t : TypeId} {tk : TI} (ht : ql P t tk) {d : TypeDesc} (hd : P.underlying t = some d) (vk : Value) (ents : List MapEntry) {r : Option (Nat × Value)}
  (h : Instr.findNow d vk ents 0 = some r) : (Instr.findKey t vk ents).run P w = .ok r w := by
 unfold Instr.findKey
 simp [qp hd,h]
theorem qg.map {β : Nat} {es : List (PV × PV × Nat)} {clock : Nat} (hi : qg w H ι Im) (hb : H.get β = some (.map es clock)) :
  ∃ ents : List MapEntry,w.heap[(ι β).b]? = some (.map ⟨ents⟩ clock) ∧ j6 w Im es ents := hi.blk β _ hb
theorem q52 {b : Nat} {ents : List MapEntry} {clock : Nat} (h : w.heap[b]? = some (.map ⟨ents⟩ clock)) : (getObj b).run P w = .ok (.map ⟨ents⟩ clock) w := by
 simp [getObj,Sem.run,h]
theorem q2d {b : Nat} {ents : List MapEntry} {clock : Nat} (h : w.heap[b]? = some (.map ⟨ents⟩ clock)) (o : Obj) :
  (setObj b o).run P w = .ok () { w with heap := w.heap.setIfInBounds b o } := by
 simp [setObj,Sem.run,h]
theorem q49 (hi : qg w H ι Im) {nx : Nat} {X : Nat → Prop} (hnx : Bd X H nx) {β : Nat} {es es' : List (PV × PV × Nat)} {clock clock' : Nat} {ents' : List MapEntry}
  (hb : H.get β = some (.map es clock)) (h : j6 w Im es' ents') {r : AV} {u : Value} (hru : ∀ w' H' ι',qg w' H' ι' Im → Evo w H ι Im w' H' ι' Im → RA w' H' ι' Im r u) :
  Did X w H ι Im nx (r,[(β,.map es' clock')],nx) u { w with heap := w.heap.setIfInBounds (ι β).b (.map ⟨ents'⟩ clock') } := by
 obtain ⟨ents,h1,h2⟩ := hi.map hb
 have hlt := (hi.blk β _ hb).lt rfl
 have key := qg.put hi (w' := { w with heap := w.heap.setIfInBounds (ι β).b (.map ⟨ents'⟩ clock') }) β (.map es' clock') (ι β)
  (fun x hx => by rw [hb] at hx; cases hx; rfl) ⟨by simp,rfl,rfl⟩
  (fun b' _ hne => by
   have : (ι β).b ≠ b' := hne _ hb rfl
   simp [Array.getElem?_setIfInBounds,this])
  (fun _ => .inr ⟨_,hb,rfl,rfl⟩) (fun he => by
   have hw : ∀ b,Im b → _ := fun b hb => he.kept hi b hb
   exact ⟨ents',by simp [hlt],h.mono he.im hw⟩)
 exact ⟨_,key.1,key.2,hru _ _ _ key.1 key.2,Nat.le_refl _,wz hnx (Nat.le_refl _) (hnx β _ hb)⟩
theorem qf3 {t : TypeId} {ti : TI} (ht : ql P t ti) : ∃ z,(zeroValue t).run P w = .ok z w ∧ RP w Im (wy ti) z := by
 obtain ⟨z,h1,h2,h3,h4⟩ := q6g (w := w) (Im := Im) ht
 refine ⟨z,h1, ?_⟩
 unfold wy
 have hagg : ti.isAgg = ti.td.isAgg := by
  unfold TI.isAgg TD.isAgg
  cases ti.td <;> rfl
 rw [hagg,← h4]
 cases z with
 | agg cs =>
  simp only [q8f,if_true]
  exact .agg ti.zero cs.toList (by simpa [Value.cells] using h2) ht.flat (fun i p v a b => h3 i p v a (by simpa [Value.cells] using b))
 | _ =>
  simp only [q8f,Bool.false_eq_true,if_false,Value.cells] at h2 h3 ⊢
  cases hz : ti.zero with
  | nil => rw [hz] at h2; simp at h2
  | cons p r =>
   rw [hz] at h3
   exact h3 0 p _ (by simp) (by simp)
theorem qjy {t : TypeId} {tk : TI} (ht : ql P t tk) (hi : qg w H ι Im) {m : AV} {vm vk : Value} (hm : RA w H ι Im m vm) {k : PV} (hk : zo tk.td k = true) (h1 : RP w Im k vk)
  {r : Option (Nat × PV × Nat)} (hr : q34 m k H = some r) :
  (vm = .map none ∧ r = none) ∨ ∃ b ents clock,vm = .map (some b) ∧ w.heap[b]? = some (.map ⟨ents⟩ clock) ∧
   ((r = none ∧ (Instr.findKey t vk ents).run P w = .ok none w) ∨ ∃ j x born u,r = some (j,x,born) ∧ (Instr.findKey t vk ents).run P w = .ok (some (j,u)) w ∧ RP w Im x u) := by
 obtain ⟨d,hd⟩ := ht.q58
 unfold q34 at hr
 split at hr
 ·cases hr
  have h := hm.xg
  cases h
  exact .inl ⟨rfl,rfl⟩
 ·rename_i β
  split at hr
  rotate_left
  ·cases hr
  rename_i es clock hb
  cases hm
  obtain ⟨ents,g1,g2⟩ := hi.map hb
  refine .inr ⟨_,ents,clock,rfl,g1, ?_⟩
  rcases q1f ht hk hd h1 es ents 0 g2 hr with ⟨rfl,q⟩ | ⟨j,x,born,e,rfl,q1,q2,q3,q4,q5⟩
  ·exact .inl ⟨rfl,run_findKey ht hd vk ents q⟩
  ·exact .inr ⟨_,x,born,e.val,rfl,run_findKey ht hd vk ents q1,q3⟩
 ·cases hr
theorem zs3 {t k0 e0 : TypeId} {ti tk te : TI} (ht : ql P t ti) (htd : ti.td = .map k0 e0) (hk : ql P k0 tk) (he : ql P e0 te) (hi : qg w H ι Im) {m k : AV} {vm vk : Value}
  (hm : RA w H ι Im m vm) (hkv : RA w H ι Im k vk) {ok : Bool} {r : AV} (hr : q1n tk te m k ok H = some r) :
  ∃ u,(Instr.lookup t vm vk ok).run P w = .ok u w ∧ RA w H ι Im r u := by
 unfold q1n at hr
 split at hr
 rotate_left
 ·cases hr
 rename_i k
 split at hr
 rotate_left
 ·cases hr
 rename_i hfit
 have hkp := hkv.xg
 obtain ⟨z,hz1,hz2⟩ := qf3 (w := w) (Im := Im) he
 have pair : ∀ (p : PV) (v : Value) (b : Bool),RP w Im p v → RA w H ι Im (if ok = true then .tup [.pv p,.pv (.bool b)] else .pv p) (if ok = true then .tuple #[v,.bool b] else v) := by
  intro p v b h
  cases ok
  ·exact .pv _ _ h
  ·refine .tup _ [v,.bool b] rfl fun i x u h1 h2 => ?_
   match i with
   | 0 => simp at h1 h2; subst h1 h2; exact .pv _ _ h
   | 1 => simp at h1 h2; subst h1 h2; exact .pv _ _ (.bool _)
   | i + 2 => simp at h1
 unfold Instr.lookup
 simp only [Sem.run_bind,qp (ht.map htd),Result.andThen_ok]
 split at hr
 ·rename_i j v born hf
  cases hr
  rcases qjy hk hi hm hfit hkp hf with ⟨_,h⟩ | ⟨b,ents,clock,rfl,g1,g2⟩
  ·cases h
  rcases g2 with ⟨h,_⟩ | ⟨j',x,born',u,h,g3,g4⟩
  ·cases h
  cases h
  refine ⟨_, ?_,pair v u true g4⟩
  simp only [q52 g1,Sem.run_bind,Result.andThen_ok,Sem.run_pure,run_checkKey hk hfit,g3]
 ·rename_i hf
  cases hr
  rcases qjy hk hi hm hfit hkp hf with ⟨rfl,_⟩ | ⟨b,ents,clock,rfl,g1,g2⟩
  ·refine ⟨_, ?_,pair _ z false hz2⟩
   have : (Instr.findKey k0 vk ([] : List MapEntry)).run P w = .ok none w := by
    obtain ⟨d,hd⟩ := hk.q58
    exact run_findKey hk hd vk [] rfl
   simp only [Sem.run_bind,Result.andThen_ok,Sem.run_pure,run_checkKey hk hfit,this,hz1]
  ·rcases g2 with ⟨_,g3⟩ | ⟨j',x,born',u,h,_⟩
   rotate_left
   ·cases h
   refine ⟨_, ?_,pair _ z false hz2⟩
   simp only [q52 g1,Sem.run_bind,Result.andThen_ok,Sem.run_pure,run_checkKey hk hfit,g3,hz1]
 ·cases hr
end
end Go.Gm
set_option linter.unusedSectionVars false
namespace Go.Gm
open Go
section
variable [Globs] {P : Program} {w : World} {H : Heap} {ι : Plc} {Im : Nat → Prop}
theorem j6.set {es : List (PV × PV × Nat)} {ents : List MapEntry} (h : j6 w Im es ents) (i : Nat) {k x : PV} {born : Nat} {e : MapEntry}
  (hk : RP w Im k e.key) (hx : RP w Im x e.val) (hb : e.born = born) : j6 w Im (es.set i (k,x,born)) (ents.set i e) := by
 refine ⟨by simp [h.1],fun j k' x' born' e' h1 h2 => ?_⟩
 rw [List.getElem?_set] at h1 h2
 by_cases hij : i = j
 ·subst hij
  rw [if_pos rfl] at h1 h2
  split at h1 <;> cases h1
  split at h2 <;> cases h2
  exact ⟨hk,hx,hb⟩
 ·rw [if_neg hij] at h1 h2
  exact h.2 j k' x' born' e' h1 h2
theorem j6.push {es : List (PV × PV × Nat)} {ents : List MapEntry} (h : j6 w Im es ents) {k x : PV} {born : Nat} {e : MapEntry}
  (hk : RP w Im k e.key) (hx : RP w Im x e.val) (hb : e.born = born) : j6 w Im (es ++ [(k,x,born)]) (ents ++ [e]) := by
 refine ⟨by simp [h.1],fun j k' x' born' e' h1 h2 => ?_⟩
 rw [List.getElem?_append] at h1 h2
 rw [← h.1] at h2
 by_cases hj : j < es.length
 ·rw [if_pos hj] at h1 h2
  exact h.2 j k' x' born' e' h1 h2
 ·rw [if_neg hj] at h1 h2
  cases hd : j - es.length with
  | zero =>
   rw [hd] at h1 h2
   simp at h1 h2
   obtain ⟨rfl,rfl,rfl⟩ := h1
   subst h2
   exact ⟨hk,hx,hb⟩
  | succ n => rw [hd] at h1; simp at h1
theorem j6.erase {es : List (PV × PV × Nat)} {ents : List MapEntry} (h : j6 w Im es ents) (i : Nat) : j6 w Im (es.eraseIdx i) (ents.eraseIdx i) := by
 refine ⟨by simp [List.length_eraseIdx,h.1],fun j k' x' born' e' h1 h2 => ?_⟩
 rw [List.getElem?_eraseIdx] at h1 h2
 split at h1
 ·rename_i hc
  rw [if_pos hc] at h2
  exact h.2 _ k' x' born' e' h1 h2
 ·rename_i hc
  rw [if_neg hc] at h2
  exact h.2 _ k' x' born' e' h1 h2
theorem modify_eq_set {l : List MapEntry} {i : Nat} {e : MapEntry} (h : l[i]? = some e) (f : MapEntry → MapEntry) : (⟨l⟩ : Array MapEntry).modify i f = ⟨l.set i (f e)⟩ := by
 obtain ⟨hlt,he⟩ := List.getElem?_eq_some_iff.1 h
 apply Array.ext'
 simp only [Array.toList_modify]
 apply List.ext_getElem?
 intro j
 rw [List.getElem?_modify,List.getElem?_set]
 by_cases hij : i = j
 ·subst hij
  simp [hlt,he]
 ·simp [hij]
theorem zjv {k : PV} {tk : TI} (hk : zo tk.td k = true) {v : Value} (h : RP w Im k v) : Instr.sameBits 10000 v v = true := by
 cases h <;> simp [zo] at hk
 ·simp [Instr.sameBits]
 ·simp [Instr.sameBits]
 ·simp [Instr.sameBits,qhe]
 all_goals (cases htd : tk.td <;> simp [htd] at hk)
theorem qhj {k : PV} {tk : TI} (hk : zo tk.td k = true) {v : Value} (h : RP w Im k v) : (Instr.keyThatStays v v).run P w = .ok v w := by
 unfold Instr.keyThatStays
 simp [zjv hk h]
theorem qhb {t k0 e0 : TypeId} {ti tk : TI} (ht : ql P t ti) (htd : ti.td = .map k0 e0) (hk : ql P k0 tk) (hi : qg w H ι Im)
  {nx : Nat} {X : Nat → Prop} (hnx : Bd X H nx) {m k : AV} {x : PV} {vm vk vx : Value}
  (hm : RA w H ι Im m vm) (hkv : RA w H ι Im k vk) (hx : RP w Im x vx) {ws : List (Nat × Blk)} (hr : bf tk m k x H = some ws) :
  ∃ w',(Instr.mapUpdate t vm vk vx).run P w = .ok () w' ∧ Did X w H ι Im nx (.tup [],ws,nx) undef w' := by
 have hundef : ∀ w' H' ι',qg w' H' ι' Im → Evo w H ι Im w' H' ι' Im → RA w' H' ι' Im (.tup []) undef := fun _ _ _ _ _ => .tup [] [] rfl (by simp)
 obtain ⟨d,hd⟩ := hk.q58
 unfold bf at hr
 split at hr
 rotate_left
 ·cases hr
 rename_i β k
 split at hr
 rotate_left
 ·cases hr
 rename_i hfit
 split at hr
 rotate_left
 ·cases hr
 rename_i es clock hb
 have hkp := hkv.xg
 cases hm
 obtain ⟨ents,g1,g2⟩ := hi.map hb
 unfold Instr.mapUpdate
 simp only [Sem.run_bind,qp (ht.map htd),Result.andThen_ok,q52 g1,run_checkKey hk hfit]
 split at hr
 ·rename_i j y born hf
  cases hr
  rcases q1f hk hfit hd hkp es ents 0 g2 hf with ⟨h,_⟩ | ⟨j',x',born',e,h,q1,q2,q3,q4,q5⟩
  ·cases h
  rw [Nat.zero_add] at h q1
  cases h
  have hkey : ((ents[j]?.map (·.key)).getD vk) = vk := by rw [q2]; simp [q5]
  refine ⟨_, ?_,q49 hi hnx hb (g2.set j (k := k) (x := x) (born := born) (e := { e with key := vk,val := vx }) hkp hx q4) hundef⟩
  simp only [run_findKey hk hd vk ents q1,Result.andThen_ok,Sem.run_bind]
  have hk2 : ((Array.mk ents)[j]?.map (·.key)).getD vk = vk := by simpa using hkey
  rw [hk2,qhj hfit hkp]
  simp only [Result.andThen_ok,modify_eq_set q2,q2d g1]
 ·rename_i hf
  cases hr
  rcases q1f hk hfit hd hkp es ents 0 g2 hf with ⟨_,q1⟩ | ⟨j',x',born',e,h,_⟩
  rotate_left
  ·cases h
  refine ⟨_, ?_,q49 hi hnx hb (g2.push (k := k) (x := x) (born := clock) (e := { key := vk,val := vx,born := clock }) hkp hx rfl) hundef⟩
  simp only [run_findKey hk hd vk ents q1,Result.andThen_ok,q2d g1]
  simp
 ·cases hr
theorem qsz {t k0 e0 : TypeId} {ti tk te : TI} (ht : ql P t ti) (htd : ti.td = .map k0 e0) (hk : ql P k0 tk) (he : ql P e0 te) (hi : qg w H ι Im)
  {nx : Nat} {X : Nat → Prop} (hnx : Bd X H nx) {m k : AV} {vm vk : Value}
  (hm : RA w H ι Im m vm) (hkv : RA w H ι Im k vk) {r : AV} {ws : List (Nat × Blk)} (hr : q0a tk te m k H = some (r,ws)) :
  ∃ u w',(Instr.mapEntry t vm vk).run P w = .ok u w' ∧ Did X w H ι Im nx (r,ws,nx) u w' := by
 obtain ⟨d,hd⟩ := hk.q58
 unfold q0a at hr
 split at hr
 rotate_left
 ·cases hr
 rename_i β k
 split at hr
 rotate_left
 ·cases hr
 rename_i hfit
 split at hr
 rotate_left
 ·cases hr
 rename_i es clock hb
 have hkp := hkv.xg
 cases hm
 obtain ⟨ents,g1,g2⟩ := hi.map hb
 have pair : ∀ (p : PV) (v : Value) (n : Nat),RP w Im p v → ∀ w' H' ι',qg w' H' ι' Im → Evo w H ι Im w' H' ι' Im →
   RA w' H' ι' Im (.tup [.pv p,.pv (.int .i64 n)]) (.tuple #[v,.int .i64 n]) := by
  intro p v n h w' H' ι' _ hev
  refine .tup _ [v,.int .i64 n] rfl fun i x u h1 h2 => ?_
  match i with
  | 0 => simp at h1 h2; subst h1 h2; exact .pv _ _ (h.mono hev.im fun b hb => hev.kept hi b hb)
  | 1 => simp at h1 h2; subst h1 h2; exact .pv _ _ (.int _ _)
  | i + 2 => simp at h1
 unfold Instr.mapEntry
 simp only [Sem.run_bind,qp (ht.map htd),Result.andThen_ok,q52 g1,run_checkKey hk hfit]
 split at hr
 ·rename_i j y born hf
  cases hr
  rcases q1f hk hfit hd hkp es ents 0 g2 hf with ⟨h,_⟩ | ⟨j',x',born',e,h,q1,q2,q3,q4,q5⟩
  ·cases h
  rw [Nat.zero_add] at h q1
  cases h
  have hkey : ((ents[j]?.map (·.key)).getD vk) = vk := by rw [q2]; simp [q5]
  refine ⟨.tuple #[e.val,.int .i64 born],_, ?_,q49 hi hnx hb (g2.set j (k := k) (x := y) (born := born) (e := { e with key := vk }) hkp q3 q4) (pair y e.val born q3)⟩
  simp only [run_findKey hk hd vk ents q1,Result.andThen_ok,Sem.run_bind]
  have hk2 : ((Array.mk ents)[j]?.map (·.key)).getD vk = vk := by simpa using hkey
  rw [hk2,qhj hfit hkp]
  simp only [Result.andThen_ok,modify_eq_set q2,q2d g1,Sem.run_pure]
  have hb2 : ((Array.mk ents)[j]?.map fun x => (x.born : Int)).getD 0 = born := by simp [q2,q4]
  rw [hb2]
  rfl
 ·rename_i hf
  cases hr
  rcases q1f hk hfit hd hkp es ents 0 g2 hf with ⟨_,q1⟩ | ⟨j',x',born',e,h,_⟩
  rotate_left
  ·cases h
  obtain ⟨z,hz1,hz2⟩ := qf3 (w := w) (Im := Im) he
  refine ⟨.tuple #[z,.int .i64 clock],_, ?_,q49 hi hnx hb (g2.push (k := k) (x := wy te) (born := clock) (e := { key := vk,val := z,born := clock }) hkp hz2 rfl) (pair _ z clock hz2)⟩
  simp only [run_findKey hk hd vk ents q1,Result.andThen_ok,hz1,q2d g1,Sem.run_bind,Sem.run_pure]
  simp [goInt]
 ·cases hr
theorem qgp {born : Int} : ∀ (es : List (PV × PV × Nat)) (ents : List MapEntry) (i : Nat),j6 w Im es ents → ∀ {j : Nat} {k : PV} {b : Nat},q7i born es i = some (j,k,b) →
  ∃ m e,j = i + m ∧ ents.findIdx? (fun e => (e.born : Int) == born) = some m ∧ ents[m]? = some e ∧ RP w Im k e.key ∧ e.born = b
 | [],_,_,_,_,_,_,h => by cases h
 | (k',x,b') :: es,[],_,hE,_,_,_,_ => by have := hE.1; simp at this
 | (k',x,b') :: es,e :: ents,i,hE,j,k,b,h => by
  obtain ⟨g1,g2,g3⟩ := hE.2 0 k' x b' e (by simp) (by simp)
  unfold q7i at h
  split at h
  ·rename_i hb
   cases h
   refine ⟨0,e,rfl, ?_,rfl,g1,g3⟩
   rw [List.findIdx?_cons,g3,hb]
   simp
  ·rename_i hb
   obtain ⟨m,e',rfl,q1,q2,q3,q4⟩ := qgp es ents (i + 1) hE.tail h
   refine ⟨m + 1,e',by omega, ?_,by simpa using q2,q3,q4⟩
   have : ((e.born : Int) == born) = false := by rw [g3]; simpa using hb
   rw [List.findIdx?_cons,this,q1]
   simp
theorem qxd (t : TypeId) (hi : qg w H ι Im) {nx : Nat} {X : Nat → Prop} (hnx : Bd X H nx) {m st : AV} {x : PV} {vm vs vx : Value}
  (hm : RA w H ι Im m vm) (hsv : RA w H ι Im st vs) (hx : RP w Im x vx) {ws : List (Nat × Blk)} (hr : p8 m st x H = some ws) :
  ∃ w',(Instr.entryStore t vm vs vx).run P w = .ok () w' ∧ Did X w H ι Im nx (.tup [],ws,nx) undef w' := by
 have hundef : ∀ w' H' ι',qg w' H' ι' Im → Evo w H ι Im w' H' ι' Im → RA w' H' ι' Im (.tup []) undef := fun _ _ _ _ _ => .tup [] [] rfl (by simp)
 unfold p8 at hr
 split at hr
 rotate_left
 ·cases hr
 rename_i β kd born
 split at hr
 rotate_left
 ·cases hr
 rename_i es clock hb
 split at hr <;> cases hr
 rename_i j k b hf
 have h := hsv.xg
 cases h
 cases hm
 obtain ⟨ents,g1,g2⟩ := hi.map hb
 obtain ⟨m,e,h0,q1,q2,q3,q4⟩ := qgp es ents 0 g2 hf
 rw [Nat.zero_add] at h0
 subst h0
 refine ⟨_, ?_,q49 hi hnx hb (g2.set j (k := k) (x := x) (born := b) (e := { e with val := vx }) q3 hx q4) hundef⟩
 unfold Instr.entryStore
 have hint : (asInt (.int kd born)).run P w = .ok born w := by simp [asInt,asIntOf]
 have hfi : (Array.mk ents).findIdx? (fun e => (e.born : Int) == born) = some j := by simpa using q1
 simp only [Sem.run_bind,q52 g1,Result.andThen_ok,hint,hfi,modify_eq_set q2,q2d g1]
theorem z3x {t k0 e0 : TypeId} {ti tk : TI} (ht : ql P t ti) (htd : ti.td = .map k0 e0) (hk : ql P k0 tk) (hi : qg w H ι Im)
  {nx : Nat} {X : Nat → Prop} (hnx : Bd X H nx) (tys : Array TypeId) (hty : tys[0]? = some t) (tt : TypeId) {m k : AV} {vm vk : Value}
  (hm : RA w H ι Im m vm) (hkv : RA w H ι Im k vk) {ws : List (Nat × Blk)} (hr : tu tk m k H = some ws) :
  ∃ w',(Builtin.delete_ tys tt #[vm,vk]).run P w = .ok undef w' ∧ Did X w H ι Im nx (.tup [],ws,nx) undef w' := by
 have hundef : ∀ w' H' ι',qg w' H' ι' Im → Evo w H ι Im w' H' ι' Im → RA w' H' ι' Im (.tup []) undef := fun _ _ _ _ _ => .tup [] [] rfl (by simp)
 obtain ⟨d,hd⟩ := hk.q58
 unfold Builtin.delete_
 simp only [hty,List.getElem?_toArray,List.getElem?_cons_zero,List.getElem?_cons_succ,Sem.run_bind,qp (ht.map htd),Result.andThen_ok]
 unfold tu at hr
 split at hr
 ·rename_i k
  split at hr <;> cases hr
  rename_i hfit
  have h := hm.xg
  cases h
  refine ⟨w, ?_,Did.pure hi hnx (hundef _ _ _ hi (Evo.refl _ _ _ _))⟩
  simp only [Sem.run_bind,run_checkKey hk hfit,Result.andThen_ok,Sem.run_pure]
  rfl
 ·rename_i β k
  split at hr
  rotate_left
  ·cases hr
  rename_i hfit
  split at hr
  rotate_left
  ·cases hr
  rename_i es clock hb
  have hkp := hkv.xg
  cases hm
  obtain ⟨ents,g1,g2⟩ := hi.map hb
  simp only [Sem.run_bind,q52 g1,Result.andThen_ok,run_checkKey hk hfit]
  split at hr
  ·rename_i j y born hf
   cases hr
   rcases q1f hk hfit hd hkp es ents 0 g2 hf with ⟨h,_⟩ | ⟨j',x',born',e,h,q1,q2,q3,q4,q5⟩
   ·cases h
   rw [Nat.zero_add] at h q1
   cases h
   refine ⟨_, ?_,q49 hi hnx hb (g2.erase j) hundef⟩
   simp only [Sem.run_bind,run_findKey hk hd vk ents q1,Result.andThen_ok,q2d g1,Sem.run_pure]
   have : (Array.mk ents).eraseIdxIfInBounds j = ⟨ents.eraseIdx j⟩ := by
    obtain ⟨hlt,_⟩ := List.getElem?_eq_some_iff.1 q2
    simp [Array.eraseIdxIfInBounds,hlt]
   simp only [Sem.run_bind,this,q2d g1,Result.andThen_ok,Sem.run_pure]
   rfl
  ·rename_i hf
   cases hr
   rcases q1f hk hfit hd hkp es ents 0 g2 hf with ⟨_,q1⟩ | ⟨j',x',born',e,h,_⟩
   rotate_left
   ·cases h
   refine ⟨_, ?_,q49 hi hnx hb g2 hundef⟩
   simp only [Sem.run_bind,run_findKey hk hd vk ents q1,Result.andThen_ok,q2d g1,Sem.run_pure]
   rfl
  ·cases hr
 ·cases hr
theorem zrx (t : TypeId) (hi : qg w H ι Im) {nx : Nat} {X : Nat → Prop} (hnx : Bd X H nx) (hX : ¬ X nx) :
  ∃ u w',(Instr.makeMap t none).run P w = .ok u w' ∧ Did X w H ι Im nx (.map nx,[(nx,.map [] 0)],nx + 1) u w' := by
 refine ⟨.map (some w.heap.size), { w with heap := w.heap.push (.map #[] 0) },by simp [Instr.makeMap], ?_⟩
 obtain ⟨ι',h0,h1,h2⟩ := qg.new hi hnx hX { w with heap := w.heap.push (.map #[] 0) } (.map [] 0) (.map #[] 0) 0 rfl ⟨rfl,rfl⟩ (fun ι' hp he => by
  exact ⟨[],by simp [hp],rfl,by simp⟩)
 refine ⟨ι',h1,h2, ?_,by simp,wz hnx (by simp) (.inl (by simp))⟩
 have hg : (qo [(nx,Blk.map [] 0)] H).get nx = some (.map [] 0) := by simp [qo,Heap.get_put]
 have := RA.map (w := { w with heap := w.heap.push (.map #[] 0) }) (ι := ι') (Im := Im) nx [] 0 hg
 rw [h0] at this
 exact this
end
end Go.Gm
set_option linter.unusedSectionVars false
namespace Go.Gm
open Go
section
variable [Globs] {P : Program} {w : World} {H : Heap} {ι : Plc} {Im : Nat → Prop}
def jb (P : Program) (G : GP) : Prop := ∀ t ti,G.ti t = some ti → ql P t ti
def zb (X : Nat → Prop) (r : Result Next) (w : World) (H : Heap) (ι : Plc) (Im : Nat → Prop) (nx : Nat) (e : Eff) : Prop :=
 ∃ u w',(r = .ok (.value u) w' ∨ (r = .ok .skip w' ∧ u = undef)) ∧ Did X w H ι Im nx e u w'
theorem zb.val {X : Nat → Prop} {s : Sem Value} {u : Value} {w' : World} {nx : Nat} {e : Eff} (h : s.run P w = .ok u w') (hd : Did X w H ι Im nx e u w') :
  zb X ((do pure (.value (← s)) : Sem Next).run P w) w H ι Im nx e :=
 ⟨u,w',.inl (by simp [h]),hd⟩
theorem zb.skip {X : Nat → Prop} {s : Sem Unit} {w' : World} {nx : Nat} {e : Eff} (h : s.run P w = .ok () w') (hd : Did X w H ι Im nx e undef w') :
  zb X ((do s; pure .skip : Sem Next).run P w) w H ι Im nx e :=
 ⟨undef,w',.inr ⟨by simp [h],rfl⟩,hd⟩
theorem zb.now {X : Nat → Prop} {u : Value} {nx : Nat} {e : Eff} (hd : Did X w H ι Im nx e u w) : zb X ((pure (.value u) : Sem Next).run P w) w H ι Im nx e :=
 ⟨u,w,.inl rfl,hd⟩
def q8g : Op → Bool
 | .call { callee := .value _,.. } => true
 | .box _ _ => true
 | _ => false
theorem Did.puts {β : Nat} {b b' : Blk} {nx : Nat} {X : Nat → Prop} (hnx : Bd X H nx) (hb : H.get β = some b) {w' : World} {ι' : Plc} (h1 : qg w' (qo [(β,b')] H) ι' Im)
  (h2 : Evo w H ι Im w' (qo [(β,b')] H) ι' Im) : Did X w H ι Im nx (.tup [],[(β,b')],nx) undef w' :=
 ⟨ι',h1,h2,.tup [] [] rfl (by simp),Nat.le_refl _,wz hnx (Nat.le_refl _) (hnx β _ hb)⟩
theorem qa4 {G : GP} {t : TypeId} {tk te : TI} (h : q2w G t = some (tk,te)) : ∃ ti k e,G.ti t = some ti ∧ ti.td = .map k e ∧ G.ti k = some tk ∧ G.ti e = some te := by
 unfold q2w at h
 split at h
 rotate_left
 ·cases h
 rename_i ti hti
 split at h
 rotate_left
 ·cases h
 rename_i k e htd
 split at h <;> cases h
 rename_i hk he
 exact ⟨ti,k,e,hti,htd,hk,he⟩
theorem qjv {a : Act} {E : Env} (hE : ∀ t,RA w H ι Im (E.get t) (a.tmps.getD t undef)) : ∀ (l : List Operand) (i : Nat) z v,(l.map (ev E))[i]? = some z → (l.map a.eval)[i]? = some v → RA w H ι Im z v := by
 intro l i z v h1 h2
 simp only [List.getElem?_map,Option.map_eq_some_iff] at h1 h2
 obtain ⟨o1,q1,rfl⟩ := h1
 obtain ⟨o2,q2,rfl⟩ := h2
 rw [q1] at q2
 cases q2
 exact q07 hE o1
theorem qhu {isMax : Bool} {l : List AV} {vs : List Value} (hl : l.length = vs.length) (hR : ∀ (i : Nat) x v,l[i]? = some x → vs[i]? = some v → RA w H ι Im x v)
  {p : PV} (h : q6y isMax l = some p) (tys : Array TypeId) (tt : TypeId) :
  ∃ u,(if isMax then Builtin.max_ tys tt ⟨vs⟩ else Builtin.min_ tys tt ⟨vs⟩).run P w = .ok u w ∧ RP w Im p u := by
 unfold q6y at h
 split at h
 rotate_left
 ·rename_i a b
  split at h <;> cases h
  rename_i hm
  obtain ⟨v,u,rfl⟩ : ∃ v u,vs = [v,u] := by
   match vs,hl with
   | [v,u],_ => exact ⟨v,u,rfl⟩
  have hx := (hR 0 (.pv (.str a)) v (by simp) (by simp)).xg
  have hy := (hR 1 (.pv (.str b)) u (by simp) (by simp)).xg
  cases hx
  cases hy
  refine ⟨.string ⟨⟨if wu a b = true then b else a⟩⟩, ?_,.str _⟩
  rw [if_pos hm]
  cases hc : wu a b <;> simp [Builtin.max_,Builtin.max2,Op.stringOp,asBool,bytesLess_eq,hc]
 ·cases h
 rename_i k a r
 cases vs with
 | nil => simp at hl
 | cons v vr =>
  have hx := (hR 0 (.pv (.int k a)) v (by simp) (by simp)).xg
  cases hx
  obtain ⟨u,g1,g2⟩ := qh8 (P := P) isMax k r a vr (by simpa using hl) (fun i x v h1 h2 => hR (i + 1) x v (by simpa using h1) (by simpa using h2)) h
  refine ⟨u, ?_,g2⟩
  cases isMax
  ·exact g1
  ·exact g1
theorem zct {G : GP} (hG : jb P G) (hi : qg w H ι Im) {nx : Nat} {X : Nat → Prop} (hnx : Bd X H nx) (b : Builtin) (tys : Array TypeId) (tt : TypeId) (consts : Array Bool)
  {l : List AV} {vs : List Value} (hl : l.length = vs.length) (hR : ∀ (i : Nat) x v,l[i]? = some x → vs[i]? = some v → RA w H ι Im x v) {e : Eff} (hr : q18 G b tys.toList l H nx = some e) (hX : ∀ γ,X γ → e.2.2 ≤ γ) :
  zb X ((builtin b tys tt consts ⟨vs⟩).run P w) w H ι Im nx e := by
 unfold q18 at hr
 unfold builtin
 split at hr
 ·rename_i t r x hty
  split at hr
  rotate_left
  ·cases hr
  rename_i ti hti
  split at hr
  rotate_left
  ·cases hr
  rename_i htd
  split at hr <;> cases hr
  rename_i n hn
  match vs,hl with
  | [v],_ =>
   have h1 := qwv (hG _ _ hti) hi (hR 0 x v (by simp) (by simp)) tt htd hn
   refine zb.val (s := Builtin.len_ tys tt #[v]) (u := .int .i64 n) (w' := w) ?_ (Did.pure hi hnx (.pv _ _ (.int _ _)))
   have h0 : tys[0]? = some t := by rw [← Array.getElem?_toList,hty]; rfl
   unfold Builtin.len_ at h1 ⊢
   simp only [List.getElem?_toArray,List.getElem?_cons_zero,h0] at h1 ⊢
   exact h1
 ·split at hr <;> cases hr
  rename_i p hp
  obtain ⟨u,h1,h2⟩ := qhu (P := P) hl hR hp tys tt
  exact zb.val (s := Builtin.max_ tys tt ⟨vs⟩) h1 (Did.pure hi hnx (.pv _ _ h2))
 ·split at hr <;> cases hr
  rename_i p hp
  obtain ⟨u,h1,h2⟩ := qhu (P := P) hl hR hp tys tt
  exact zb.val (s := Builtin.min_ tys tt ⟨vs⟩) h1 (Did.pure hi hnx (.pv _ _ h2))
 ·rename_i ts tx r s x hty
  match vs,hl with
  | [vs,vx],_ =>
   have key : ∀ {e te tix ti},G.ti ts = some ti → ti.td = .slice e → G.ti e = some te → G.ti tx = some tix → ((∃ e',tix.td = .slice e') ∨ tix.td = .string) → ∀ {ef},vg te s x H nx = some ef → (∀ γ,X γ → ef.2.2 ≤ γ) →
     zb X ((do pure (.value (← Builtin.append_ tys tt #[vs,vx])) : Sem Next).run P w) w H ι Im nx ef := by
    intro e te tix ti h1 h2 h3 h4 h5 ef h6 hX
    obtain ⟨u,w',g1,g2⟩ := zgc (hG _ _ h1) h2 (hG _ _ h3) (hG _ _ h4) h5 tt hi hnx (hR 0 s vs (by simp) (by simp)) (hR 1 x vx (by simp) (by simp)) h6 hX
    refine zb.val (u := u) (w' := w') ?_ g2
    have q0 : tys[0]? = some ts := by rw [← Array.getElem?_toList,hty]; rfl
    have q1 : tys[1]? = some tx := by rw [← Array.getElem?_toList,hty]; rfl
    unfold Builtin.append_ at g1 ⊢
    simp only [List.getElem?_toArray,List.getElem?_cons_zero,List.getElem?_cons_succ,q0,q1] at g1 ⊢
    exact g1
   split at hr
   rotate_left
   ·cases hr
   rename_i ti tix h1 h2
   split at hr
   ·rename_i e e' h3 h4
    split at hr
    rotate_left
    ·cases hr
    rename_i te h5
    exact key h1 h3 h5 h2 (.inl ⟨_,h4⟩) hr hX
   ·rename_i e h3 h4
    split at hr
    rotate_left
    ·cases hr
    rename_i te h5
    exact key h1 h3 h5 h2 (.inr h4) hr hX
   ·cases hr
 ·rename_i ts r s x hty
  match vs,hl with
  | [vs,vx],_ =>
   split at hr
   rotate_left
   ·cases hr
   rename_i ti h1
   split at hr
   rotate_left
   ·cases hr
   rename_i e0 h2
   split at hr
   rotate_left
   ·cases hr
   rename_i te h3
   have q0 : tys[0]? = some ts := by rw [← Array.getElem?_toList,hty]; rfl
   obtain ⟨u,w',g1,g2⟩ := z99 (hG _ _ h1) h2 (hG _ _ h3) q0 tt hi hnx (hR 0 s vs (by simp) (by simp)) (hR 1 x vx (by simp) (by simp)) hr
   exact zb.val (s := Builtin.copy_ tys tt #[vs,vx]) g1 g2
 ·rename_i tm r m k hty
  match vs,hl with
  | [vm,vk],_ =>
   split at hr
   rotate_left
   ·cases hr
   rename_i ti h1
   split at hr
   rotate_left
   ·cases hr
   rename_i k0 e0 h2
   split at hr
   rotate_left
   ·cases hr
   rename_i tk h3
   split at hr <;> cases hr
   rename_i ws hws
   have q0 : tys[0]? = some tm := by rw [← Array.getElem?_toList,hty]; rfl
   obtain ⟨w',g1,g2⟩ := z3x (hG _ _ h1) h2 (hG _ _ h3) hi hnx tys q0 tt (hR 0 m vm (by simp) (by simp)) (hR 1 k vk (by simp) (by simp)) hws
   exact zb.val (s := Builtin.delete_ tys tt #[vm,vk]) g1 g2
 ·cases hr
theorem zhx {G : GP} (hG : jb P G) (hi : qg w H ι Im) {nx : Nat} {X : Nat → Prop} (hnx : Bd X H nx)
  {a : Act} {E : Env} (hE : ∀ t,RA w H ι Im (E.get t) (a.tmps.getD t undef)) (O : qz) (o : Oper) (hcall : q8g o.op = false) {e : Eff} (hr : aop G O o.op E H nx = some e) (hX : ∀ γ,X γ → e.2.2 ≤ γ) :
  zb X ((execOp a.eval o).run P w) w H ι Im nx e := by
 have hev := fun x => q07 hE x
 unfold execOp
 generalize o.type = otype
 generalize o.op = op at hr hcall
 unfold aop at hr
 split at hr
 case h_1 x => cases hr; exact zb.now (Did.pure hi hnx (hev x))
 case h_2 x => cases hr; exact zb.now (Did.pure hi hnx (hev x))
 case h_3 c x y =>
  split at hr <;> cases hr
  rename_i t hc
  have h := hev c
  rw [hc] at h
  have h := h.xg
  generalize hv : a.eval c = vc at h
  cases h
  refine ⟨if t then a.eval x else a.eval y,w,.inl (by simp [hv,asBool]),Did.pure hi hnx ?_⟩
  cases t
  ·exact hev y
  ·exact hev x
 case h_4 t =>
  split at hr <;> cases hr
  rename_i ti hti
  obtain ⟨u,w',h1,h2⟩ := qow (hG _ _ hti) hi hnx (q0v hX)
  exact zb.val h1 h2
 case h_5 t x => simp [q8g] at hcall
 case h_6 t parts =>
  split at hr
  rotate_left
  ·cases hr
  rename_i ti hti
  unfold j4 at hr
  split at hr <;> cases hr
  rename_i v hv
  obtain ⟨u,h1,h2⟩ := qxe hG (hG _ _ hti) hE parts hv
  exact zb.val h1 (Did.pure hi hnx h2)
 case h_7 t len parts =>
  split at hr
  rotate_left
  ·cases hr
  rename_i ti hti
  split at hr
  rotate_left
  ·cases hr
  rename_i el htd
  split at hr
  rotate_left
  ·cases hr
  rename_i te hte
  split at hr
  rotate_left
  ·cases hr
  rename_i hc
  split at hr
  ·split at hr <;> cases hr
   rename_i es hes
   obtain ⟨u,w',h1,h2⟩ := zbj hG (hG _ _ hti) htd hte hi hnx (q0v hX) hE len parts hc.1 hc.2 hes
   exact zb.val h1 h2
  ·split at hr <;> cases hr
   rename_i es hes
   obtain ⟨u,w',h1,h2⟩ := qp1 hG (hG _ _ hti) htd hte hi hnx (q0v hX) hE len parts hc.1 hc.2 hes
   exact zb.val h1 h2
 case h_8 t x =>
  split at hr
  rotate_left
  ·cases hr
  rename_i ti hti
  unfold j4 at hr
  split at hr <;> cases hr
  rename_i v hv
  obtain ⟨u,h1,h2⟩ := qjz (hG _ _ hti) hi (hev x) hv
  exact zb.val h1 (Did.pure hi hnx h2)
 case h_9 t x y =>
  split at hr
  rotate_left
  ·cases hr
  rename_i ti hti
  unfold yw at hr
  split at hr <;> cases hr
  rename_i ws hws
  obtain ⟨w',ι',h1,h2,h3,β,b,b',rfl,hb⟩ := zlv (hG _ _ hti) hi (hev x) (hev y) hws
  exact zb.skip h1 (Did.puts hnx hb h2 h3)
 case h_10 x =>
  split at hr <;> cases hr
  all_goals
   rename_i hx
   have h := hev x
   rw [hx] at h
   generalize hv : a.eval x = vx at h
   refine ⟨vx,w,.inl ?_,Did.pure hi hnx h⟩
  ·cases h; simp [hv]
  ·cases h; simp [hv]
  ·have h := h.xg; cases h; simp [hv]
  ·cases h; simp [hv]
  ·have h := h.xg; cases h; simp [hv]
  ·cases h; simp [hv]
 case h_11 op t x y yt =>
  split at hr
  rotate_left
  ·cases hr
  rename_i ti hti
  unfold q2e at hr
  split at hr <;> cases hr
  rename_i p hp
  obtain ⟨u,h1,h2,h3⟩ := qxn hG (hG _ _ hti) hi (hev x) (hev y) op x y hp
  exact zb.val (s := do eqGuard op t x y (a.eval x) (a.eval y); binOp op t (a.eval x) (a.eval y)) (by simp [h1,h2]) (Did.pure hi hnx (.pv _ _ h3))
 case h_12 op t x =>
  unfold q2e at hr
  split at hr <;> cases hr
  rename_i p hp
  obtain ⟨u,h1,h2⟩ := z8p (P := P) (hev x) hp
  exact zb.val h1 (Did.pure hi hnx (.pv _ _ h2))
 case h_13 s d x =>
  split at hr
  rotate_left
  ·cases hr
  rename_i ts td hts htd
  obtain ⟨u,w',h1,h2⟩ := z0a hG (hG _ _ hts) (hG _ _ htd) hi hnx (hev x) hr hX
  exact zb.val h1 h2
 case h_14 f x y =>
  cases hr
  refine zb.val (s := Instr.makeFunc (.func f) (x.map a.eval) (y.map a.eval)) (w' := w) rfl (Did.pure hi hnx ?_)
  have listR : ∀ (l : List Operand) (i : Nat) z v,(l.map (ev E))[i]? = some z → (l.map a.eval)[i]? = some v → RA w H ι Im z v := by
   intro l i z v h1 h2
   simp only [List.getElem?_map,Option.map_eq_some_iff] at h1 h2
   obtain ⟨o1,q1,rfl⟩ := h1
   obtain ⟨o2,q2,rfl⟩ := h2
   rw [q1] at q2
   cases q2
   exact hev o1
  have hx : x.map a.eval = ⟨x.toList.map a.eval⟩ := by apply Array.ext'; simp
  have hy : y.map a.eval = ⟨y.toList.map a.eval⟩ := by apply Array.ext'; simp
  rw [hx,hy]
  split
  ·rename_i h1 h2
   rw [h1,h2]
   exact .pv _ _ (.fn f)
  ·exact .clo f _ _ _ _ (by simp) (by simp) (listR _) (listR _)
 case h_15 t =>
  cases hr
  obtain ⟨u,w',h1,h2⟩ := zrx (P := P) t hi hnx (q0v hX)
  exact zb.val h1 h2
 case h_16 t x lo hi' mx =>
  split at hr
  rotate_left
  ·cases hr
  rename_i ti hti
  unfold j4 at hr
  split at hr <;> cases hr
  rename_i v hv
  obtain ⟨u,h1,h2⟩ := z7z hG (hG _ _ hti) hi hE (hev x) lo hi' mx hv
  exact zb.val h1 (Did.pure hi hnx h2)
 case h_17 t x f =>
  split at hr
  rotate_left
  ·cases hr
  rename_i ti hti
  unfold j4 at hr
  split at hr <;> cases hr
  rename_i v hv
  obtain ⟨u,h1,h2⟩ := zga (hG _ _ hti) (hev x) hv
  exact zb.val h1 (Did.pure hi hnx h2)
 case h_18 t x f =>
  split at hr
  rotate_left
  ·cases hr
  rename_i ti hti
  split at hr
  rotate_left
  ·cases hr
  rename_i fs htd
  split at hr
  rotate_left
  ·cases hr
  rename_i off sz tf hf
  split at hr
  rotate_left
  ·cases hr
  rename_i tif htif
  unfold j4 at hr
  split at hr <;> cases hr
  rename_i v hv
  obtain ⟨fields,hu,rfl⟩ := (hG _ _ hti).struct htd
  simp only [List.getElem?_map,Option.map_eq_some_iff] at hf
  obtain ⟨fd,hf,hfe⟩ := hf
  simp only [Prod.mk.injEq] at hfe
  obtain ⟨rfl,rfl,rfl⟩ := hfe
  have hfa : fields[f]? = some fd := by rw [← hf]; simp
  obtain ⟨cs,u,h0,h1,h2⟩ := qf1 (hG _ _ htif) (hev x) hv
  refine zb.val (s := Instr.field t (a.eval x) f) (u := u) (w' := w) ?_ (Did.pure hi hnx h2)
  unfold Instr.field
  simp only [Sem.run_bind,qp hu,Result.andThen_ok,hfa,h0,asAgg,Sem.run_pure,h1]
 case h_19 t x i =>
  split at hr
  rotate_left
  ·cases hr
  rename_i ti hti
  unfold j4 at hr
  split at hr <;> cases hr
  rename_i v hv
  obtain ⟨u,h1,h2⟩ := qqt hG (hG _ _ hti) hi (hev x) (hev i) hv
  exact zb.val h1 (Did.pure hi hnx h2)
 case h_20 t x i =>
  split at hr
  rotate_left
  ·cases hr
  rename_i ti hti
  split at hr
  ·rename_i s k htd hx hk
   split at hr <;> cases hr
   rename_i b hb
   obtain ⟨kd,hk'⟩ := q92 (hev i) hk
   have h := hev x
   rw [hx] at h
   have h := h.xg
   generalize hv : a.eval x = vx at h
   cases h
   refine zb.val (s := Instr.index t (a.eval x) (a.eval i)) (u := .int .u8 b.toNat) (w' := w) ?_ (Did.pure hi hnx (.pv _ _ (.int _ _)))
   have hbb : (ByteArray.mk ⟨s⟩)[k]? = some b := by
    obtain ⟨hlt,he⟩ := List.getElem?_eq_some_iff.1 hb
    have : k < (ByteArray.mk ⟨s⟩).size := hlt
    rw [getElem?_pos (ByteArray.mk ⟨s⟩) k this]
    exact congrArg some he
   unfold Instr.index
   simp [hv,hk',asIntOf,qp ((hG _ _ hti).string htd),hbb]
  ·rename_i len el k htd hk
   split at hr
   rotate_left
   ·cases hr
   rename_i hkl
   split at hr
   rotate_left
   ·cases hr
   rename_i te hte
   unfold j4 at hr
   split at hr <;> cases hr
   rename_i r hrr
   obtain ⟨kd,hk'⟩ := q92 (hev i) hk
   obtain ⟨cs,u,h0,h1,h2⟩ := qf1 (hG _ _ hte) (hev x) hrr
   refine zb.val (s := Instr.index t (a.eval x) (a.eval i)) (u := u) (w' := w) ?_ (Did.pure hi hnx h2)
   unfold Instr.index
   simp [hk',asIntOf,qp ((hG _ _ hti).array htd),hkl,(hG _ _ hte).size,h0,h1]
  ·cases hr
 case h_21 t m k ok =>
  split at hr
  rotate_left
  ·cases hr
  rename_i tk te hmt
  unfold j4 at hr
  split at hr <;> cases hr
  rename_i v hv
  obtain ⟨ti,k0,e0,q1,q2,q3,q4⟩ := qa4 hmt
  obtain ⟨u,h1,h2⟩ := zs3 (hG _ _ q1) q2 (hG _ _ q3) (hG _ _ q4) hi (hev m) (hev k) hv
  exact zb.val h1 (Did.pure hi hnx h2)
 case h_22 t m k x =>
  split at hr
  rotate_left
  ·cases hr
  rename_i tk te p hmt hp
  split at hr
  rotate_left
  ·cases hr
  unfold yw at hr
  split at hr <;> cases hr
  rename_i ws hws
  obtain ⟨ti,k0,e0,q1,q2,q3,q4⟩ := qa4 hmt
  obtain ⟨w',h1,h2⟩ := qhb (hG _ _ q1) q2 (hG _ _ q3) hi hnx (hev m) (hev k) (qal (hev x) hp) hws
  exact zb.skip h1 h2
 case h_23 t m k x =>
  split at hr
  rotate_left
  ·cases hr
  rename_i tk te p hmt hp
  split at hr
  rotate_left
  ·cases hr
  unfold yw at hr
  split at hr <;> cases hr
  rename_i ws hws
  obtain ⟨ti,k0,e0,q1,q2,q3,q4⟩ := qa4 hmt
  obtain ⟨w',h1,h2⟩ := qhb (hG _ _ q1) q2 (hG _ _ q3) hi hnx (hev m) (hev k) (qal (hev x) hp) hws
  exact zb.skip h1 h2
 case h_24 t m k =>
  split at hr
  rotate_left
  ·cases hr
  rename_i tk te hmt
  split at hr <;> cases hr
  rename_i v ws hws
  obtain ⟨ti,k0,e0,q1,q2,q3,q4⟩ := qa4 hmt
  obtain ⟨u,w',h1,h2⟩ := qsz (hG _ _ q1) q2 (hG _ _ q3) (hG _ _ q4) hi hnx (hev m) (hev k) hws
  exact zb.val h1 h2
 case h_25 t m st x =>
  split at hr
  rotate_left
  ·cases hr
  rename_i p hp
  unfold yw at hr
  split at hr <;> cases hr
  rename_i ws hws
  obtain ⟨w',h1,h2⟩ := qxd (P := P) t hi hnx (hev m) (hev st) (qal (hev x) hp) hws
  exact zb.skip h1 h2
 case h_26 x i =>
  split at hr
  rotate_left
  ·cases hr
  rename_i l hl
  split at hr <;> cases hr
  rename_i v hv
  have h := hev x
  rw [hl] at h
  generalize hvx : a.eval x = vx at h
  cases h with
  | tup _ vs hlen hR =>
   obtain ⟨u,hu⟩ : ∃ u,vs[i]? = some u := ⟨vs[i]'(by rw [← hlen]; exact (List.getElem?_eq_some_iff.1 hv).1),by simp⟩
   refine ⟨u,w,.inl ?_,Did.pure hi hnx (hR i v u hv hu)⟩
   have : (⟨vs⟩ : Array Value)[i]? = some u := by simpa using hu
   simp [hvx,Instr.extract,this]
 case h_27 b args tys =>
  have hrun : (do let d ← resolve a.eval { callee := .builtin b,args := args,argTypes := tys } otype; invoke d.target d.args : Sem Next).run P w =
    (builtin b tys otype (args.map fun | .const _ => true | _ => false) ⟨args.toList.map a.eval⟩).run P w := by
   have : args.map a.eval = ⟨args.toList.map a.eval⟩ := by apply Array.ext'; simp
   simp only [resolve,Sem.run_bind,Sem.run_pure,Result.andThen_ok,invoke,this]
   rfl
  show zb X ((do let d ← resolve a.eval { callee := .builtin b,args := args,argTypes := tys } otype; invoke d.target d.args : Sem Next).run P w) w H ι Im nx e
  rw [hrun]
  exact zct hG hi hnx b tys otype _ (by simp) (qjv hE args.toList) hr hX
 case h_28 => simp [q8g] at hcall
 case h_29 t x y =>
  split at hr
  rotate_left
  ·cases hr
  rename_i ti hti
  have hX' : ∀ γ,X γ → nx + 1 ≤ γ := by
   unfold q66 at hr
   split at hr
   rotate_left
   ·cases hr
   split at hr
   rotate_left
   ·cases hr
   split at hr <;> cases hr
   exact hX
  obtain ⟨u,w',h1,h2⟩ := zcq hG (hG _ _ hti) hi hnx hX' (hev x) (hev y) hr
  exact zb.val h1 h2
 case h_30 => cases hr
end
end Go.Gm
set_option linter.unusedSectionVars false
namespace Go.Gm
open Go
section
variable [Globs] {P : Program} {w : World} {H : Heap} {ι : Plc} {Im : Nat → Prop}
theorem q7w (β : Nat) (isnil : Bool) (sz : Nat) (es : List (List PV)) : ∀ (l : List AV) (i : Nat),(AV.thaw.thawL β isnil sz es l)[i]? = (l[i]?).map (AV.thaw β isnil sz es)
 | [],i => by simp [AV.thaw.thawL]
 | x :: r,i => by
  cases i with
  | zero => simp [AV.thaw.thawL]
  | succ i => simp [AV.thaw.thawL,q7w β isnil sz es r i]
theorem q9u (β : Nat) (isnil : Bool) (sz : Nat) (es : List (List PV)) : ∀ (l : List AV),(AV.thaw.thawL β isnil sz es l).length = l.length
 | [] => rfl
 | x :: r => by simp [AV.thaw.thawL,q9u β isnil sz es r]
theorem zs5 (β : Nat) (isnil : Bool) (sz : Nat) (es : List (List PV)) {x : AV} (h : x.flat = true) : (x.thaw β isnil sz es).flat = true := by
 cases x <;> simp [AV.flat] at h <;> simp only [AV.thaw]
 ·exact h
 ·rfl
 ·rfl
 ·rfl
 ·split <;> rfl
 ·rfl
 ·rfl
 ·rfl
theorem qcr (β : Nat) (isnil : Bool) (sz : Nat) (es : List (List PV)) {l : List AV} (h : ∀ x ∈ l,x.flat = true) : ∀ x ∈ AV.thaw.thawL β isnil sz es l,x.flat = true := by
 intro x hx
 obtain ⟨i,hi⟩ := List.getElem?_of_mem hx
 rw [q7w] at hi
 simp only [Option.map_eq_some_iff] at hi
 obtain ⟨y,hy,rfl⟩ := hi
 exact zs5 β isnil sz es (h y (List.mem_of_getElem? hy))
theorem qiq (β : Nat) (isnil : Bool) (sz : Nat) (es : List (List PV)) : ∀ (H : Heap) (γ : Nat),
  Heap.get (H.map fun (i,b) => (i,b.thaw β isnil sz es)) γ = (H.get γ).map (Blk.thaw β isnil sz es)
 | [],γ => rfl
 | (i,b) :: r,γ => by
  simp only [List.map_cons,Heap.get]
  split
  ·rfl
  ·exact qiq β isnil sz es r γ
theorem Blk.qd4 (β : Nat) (isnil : Bool) (sz : Nat) (es : List (List PV)) (b : Blk) : (b.thaw β isnil sz es).used = b.used := by
 cases b <;> rfl
def q0i (β : Nat) (isnil : Bool) (sz : Nat) (es : List (List PV)) (H : Heap) : Heap := Heap.put (H.map fun (i,b) => (i,b.thaw β isnil sz es)) β .dead
theorem yg (β : Nat) (isnil : Bool) (sz : Nat) (es : List (List PV)) (H : Heap) (γ : Nat) :
  (q0i β isnil sz es H).get γ = if γ = β then some .dead else (H.get γ).map (Blk.thaw β isnil sz es) := by
 unfold q0i
 rw [Heap.get_put,qiq]
def nu (ι : Plc) (β : Nat) (isnil : Bool) (Im : Nat → Prop) : Nat → Prop := fun b => Im b ∨ (isnil = false ∧ b = (ι β).b)
theorem qz9 (hi : qg w H ι Im) {β : Nat} {isnil : Bool} {sz : Nat} {es : List (List PV)} (hb : H.get β = some (.row isnil sz es)) {off n : Nat} {v : Value}
  (h1 : off + n ≤ es.length) (h2 : if isnil = true then v = .slice none 0 0 else ∃ a,v = .slice (some a) n ((ι β).cap - off) ∧ a.spot = none ∧ a.block = (ι β).b ∧ (off < (ι β).cap → a.off = off * sz)) :
  RP w (nu ι β isnil Im) (q4x isnil sz ((es.drop off).take n)) v := by
 refine RP.mk ?_
 cases isnil
 ·simp only [Bool.false_eq_true,if_false] at h2
  obtain ⟨a,rfl,ha1,ha2,ha3⟩ := h2
  obtain ⟨ab,ao,asp⟩ := a
  simp only at ha1 ha2 ha3
  subst ha1 ha2
  obtain ⟨vs,elem,fz,g1,g2,g3,g4,g5,g6,g7,g8⟩ := hi.row hb
  have hlen : ((es.drop off).take n).length = n := by simp; omega
  have hget : ∀ (i : Nat) e,((es.drop off).take n)[i]? = some e → i < n ∧ es[off + i]? = some e := by
   intro i e hie
   have := (List.getElem?_eq_some_iff.1 hie).1
   have hin : i < n := by omega
   rw [List.getElem?_take_of_lt hin,List.getElem?_drop] at hie
   exact ⟨hin,hie⟩
  have hm : ∀ b,Im b → nu ι β false Im b := fun b h => .inl h
  have key := RP.sl (w := w) (Im := nu ι β false Im) sz ((es.drop off).take n) (ι β).b ao ((ι β).cap - off) (fun i => (vs[off * sz + i]?).getD undef)
   (fun _ => .inr ⟨rfl,rfl⟩) (by omega) (fun e he => g6 e (List.mem_of_mem_drop (List.mem_of_mem_take he))) (fun i hlt => by
    rw [hlen] at hlt
    have hn : 0 < n := by
     rcases Nat.eq_zero_or_pos n with h | h
     ·subst h; simp at hlt
     ·exact h
    have := ha3 (by omega)
    subst this
    rw [q4g g1]
    have e1 : (off + n) * sz ≤ (ι β).cap * sz := Nat.mul_le_mul_right _ (by omega)
    rw [Nat.add_mul] at e1
    have : off * sz + i < vs.size := by omega
    simp [this])
   (fun i e j p q1 q2 => g7 _ e j p (hget i e q1).2 q2) (fun i e j p q1 q2 => by
    obtain ⟨_,hie⟩ := hget i e q1
    obtain ⟨v,k1,k2⟩ := g8 _ e j p hie q2
    have e1 : off * sz + (i * sz + j) = (off + i) * sz + j := by rw [Nat.add_mul]; omega
    simp only [e1,k1,Option.getD_some]
    exact k2.mono hm fun _ _ => rfl) none (fun _ => rfl)
  rw [hlen] at key
  exact key
 ·simp only [if_true] at h2
  subst h2
  have hes : es = [] := hi.blk β _ hb
  subst hes
  have : (([] : List (List PV)).drop off).take n = [] := by simp
  rw [this]
  exact .nilsl sz
theorem q6p (β : Nat) (isnil : Bool) (sz : Nat) (es : List (List PV)) (b : Blk) : (b.thaw β isnil sz es).sh = b.sh := by
 cases b <;> simp [Blk.thaw,Blk.sh]
theorem qe5 (hi : qg w H ι Im) {β : Nat} {isnil : Bool} {sz : Nat} {es : List (List PV)} (hb : H.get β = some (.row isnil sz es)) {x : AV} {v : Value} (hx : RA w H ι Im x v) :
  RA w (q0i β isnil sz es H) ι (nu ι β isnil Im) (x.thaw β isnil sz es) v := by
 have hm : ∀ b,Im b → nu ι β isnil Im b := fun b h => .inl h
 have hw : ∀ b,Im b → w.heap[b]? = w.heap[b]? := fun _ _ => rfl
 have rowStay : ∀ (β' ver off n : Nat) (v : Value) (b : Blk),xn v = true → H.get β' = some b → (b ≠ .dead → ∃ isnil sz l,b.sh = some (isnil,sz,l)) → (∀ isnil sz l,b.sh = some (isnil,sz,l) → ver ≤ l) →
   (∀ isnil sz l,b.sh = some (isnil,sz,l) → ver = l → off + n ≤ l ∧
    if isnil = true then v = .slice none 0 0
    else ∃ a,v = .slice (some a) n ((ι β').cap - off) ∧ a.spot = none ∧ a.block = (ι β').b ∧ (off < (ι β').cap → a.off = off * sz)) →
   RA w (q0i β isnil sz es H) ι (nu ι β isnil Im) (.row β' ver off n) v := by
  intro β' ver off n v b ho hb' hk hv h
  by_cases he : β' = β
  ·subst he
   exact .row β' ver off n v .dead ho (by simp [yg]) (fun h => absurd rfl h) (fun _ _ _ e => by cases e) (fun _ _ _ e => by cases e)
  ·refine .row β' ver off n v (b.thaw β isnil sz es) ho (by simp [yg,he,hb']) (fun h => ?_) (fun isnil' sz' es' e => ?_) (fun isnil' sz' es' e => ?_)
   ·rw [q6p]
    exact hk (fun e => h (by rw [e]; rfl))
   ·rw [q6p] at e
    exact hv _ _ _ e
   ·rw [q6p] at e
    exact h _ _ _ e
 have tL : ∀ (c : List AV) (vs : List Value),c.length = vs.length → (∀ (i : Nat) x v,c[i]? = some x → vs[i]? = some v → RA w (q0i β isnil sz es H) ι (nu ι β isnil Im) (x.thaw β isnil sz es) v) →
   (AV.thaw.thawL β isnil sz es c).length = vs.length ∧ ∀ (i : Nat) x v,(AV.thaw.thawL β isnil sz es c)[i]? = some x → vs[i]? = some v → RA w (q0i β isnil sz es H) ι (nu ι β isnil Im) x v := by
  intro c vs hl h
  refine ⟨by rw [q9u,hl],fun i x v h1 h2 => ?_⟩
  rw [q7w] at h1
  simp only [Option.map_eq_some_iff] at h1
  obtain ⟨y,hy,rfl⟩ := h1
  exact h i y v hy h2
 induction hx with
 | undef v => exact .undef v
 | pv p v h => exact .pv p v (h.mono hm hw)
 | ptr β' o c hb' =>
  have hne : β' ≠ β := by intro e; subst e; rw [hb] at hb'; cases hb'
  exact .ptr β' o (AV.thaw.thawL β isnil sz es c) (by simp [yg,hne,hb',Blk.thaw])
 | eptr β' ver i o b1 o1 b hb' hver h =>
  by_cases he : β' = β
  ·subst he
   exact .eptr β' ver i o b1 o1 .dead (by simp [yg]) (fun _ _ _ e => by cases e) (fun _ _ _ e => by cases e)
  ·refine .eptr β' ver i o b1 o1 (b.thaw β isnil sz es) (by simp [yg,he,hb']) (fun isnil' sz' es' e => ?_) (fun isnil' sz' es' e => ?_)
   ·rw [q6p] at e
    exact hver _ _ _ e
   ·rw [q6p] at e
    exact h _ _ _ e
 | row β' ver off n v b ho hb' hk hver h =>
  simp only [AV.thaw]
  split
  ·rename_i hc
   obtain ⟨rfl,hv⟩ := hc
   rw [hb] at hb'
   cases hb'
   obtain ⟨h1,h2⟩ := h _ _ _ rfl hv
   exact .pv _ _ (qz9 hi hb h1 h2)
  ·exact rowStay β' ver off n v b ho hb' hk hver h
 | rptr c o b off vs him hc hf h => exact .rptr c o b off vs (hm b him) hc hf fun i p hp => (h i p hp).mono hm hw
 | zsl a => exact .zsl a
 | map β' es' clock hb' =>
  have hne : β' ≠ β := by intro e; subst e; rw [hb] at hb'; cases hb'
  exact .map β' es' clock (by simp [yg,hne,hb',Blk.thaw])
 | clo f a b va vb hla hlb _ _ iha ihb =>
  obtain ⟨q1,q2⟩ := tL a va hla iha
  obtain ⟨q3,q4⟩ := tL b vb hlb ihb
  exact .clo f _ _ va vb q1 q3 q2 q4
 | agg c vs hl hf _ ih =>
  obtain ⟨q1,q2⟩ := tL c vs hl ih
  exact q7s q1 (qcr β isnil sz es hf) q2
 | tup c vs hl _ ih =>
  obtain ⟨q1,q2⟩ := tL c vs hl ih
  exact .tup _ vs q1 q2
theorem za5 (hi : qg w H ι Im) {β : Nat} {isnil : Bool} {sz : Nat} {es : List (List PV)} (hb : H.get β = some (.row isnil sz es)) :
  qg w (q0i β isnil sz es H) ι (nu ι β isnil Im) ∧ Evo w H ι Im w (q0i β isnil sz es H) ι (nu ι β isnil Im) := by
 have hm : ∀ b,Im b → nu ι β isnil Im b := fun b h => .inl h
 have hw : ∀ b,Im b → w.heap[b]? = w.heap[b]? := fun _ _ => rfl
 have hused : isnil = false → (Blk.row isnil sz es).used = true := fun h => by simp [Blk.used,h]
 refine ⟨⟨fun γ b hγ => ?_,fun γ γ' b b' h1 h2 u1 u2 e => ?_,fun b h => ?_,fun γ b hγ hu h => ?_,hi.glb,fun b hb => .inl (hi.gim b hb)⟩,⟨fun γ b hγ => ?_,hm,fun b h => ?_,fun γ x hγ hu => ?_,fun _ _ _ => rfl,Nat.le_refl _,rfl,rfl⟩⟩
 ·rw [yg] at hγ
  split at hγ
  ·cases hγ; trivial
  ·simp only [Option.map_eq_some_iff] at hγ
   obtain ⟨b0,hb0,rfl⟩ := hγ
   have h0 := hi.blk γ b0 hb0
   cases b0 with
   | box c =>
    obtain ⟨vs,elem,fz,q1,q2,q3,q4,q5⟩ := h0
    refine ⟨vs,elem,fz,q1,q2,by rw [q9u,q3],qcr β isnil sz es q4,fun i x v a b => ?_⟩
    rw [q7w] at a
    simp only [Option.map_eq_some_iff] at a
    obtain ⟨y,hy,rfl⟩ := a
    exact qe5 hi hb (q5 i y v hy b)
   | row isnil' sz' es' =>
    cases isnil' with
    | true => exact h0
    | false =>
     obtain ⟨vs,elem,fz,q1,q2,q3,q4,q5,q6,q7,q8⟩ := h0
     refine ⟨vs,elem,fz,q1,q2,q3,q4,q5,q6,q7,fun i e j p a b => ?_⟩
     obtain ⟨v,k1,k2⟩ := q8 i e j p a b
     exact ⟨v,k1,k2.mono hm hw⟩
   | map es' clock =>
    obtain ⟨ents,q1,q2,q3⟩ := h0
    refine ⟨ents,q1,q2,fun i k x born e a b => ?_⟩
    obtain ⟨k1,k2,k3⟩ := q3 i k x born e a b
    exact ⟨k1.mono hm hw,k2.mono hm hw,k3⟩
   | qm sz' es' =>
    obtain ⟨vs,elem,fz,q1,q2,q3,q4,q5,q6,q7,q8⟩ := h0
    have get : ∀ (i : Nat) e (j : Nat) x,(es'.map (AV.thaw.thawL β isnil sz es))[i]? = some e → e[j]? = some x → ∃ e0 y,es'[i]? = some e0 ∧ e0[j]? = some y ∧ x = y.thaw β isnil sz es ∧ e = AV.thaw.thawL β isnil sz es e0 := by
     intro i e j x h1 h2
     rw [List.getElem?_map,Option.map_eq_some_iff] at h1
     obtain ⟨e0,h1,rfl⟩ := h1
     rw [q7w,Option.map_eq_some_iff] at h2
     obtain ⟨y,h2,rfl⟩ := h2
     exact ⟨e0,y,h1,h2,rfl,rfl⟩
    refine ⟨vs,elem,fz,q1,q2,q3,q4,by simpa using q5,fun e he => ?_,fun i e j x a b => ?_,fun i e j x a b => ?_⟩
    ·obtain ⟨e0,h0,rfl⟩ := List.mem_map.1 he
     rw [q9u]
     exact q6 e0 h0
    ·obtain ⟨e0,y,h1,h2,rfl,rfl⟩ := get i e j x a b
     have hf : ∀ x ∈ e0,x.flat = true := fun x hx => by
      obtain ⟨j',hj'⟩ := List.getElem?_of_mem hx
      exact q7 i e0 j' x h1 hj'
     exact qcr β isnil sz es hf _ (List.mem_of_getElem? b)
    ·obtain ⟨e0,y,h1,h2,rfl,rfl⟩ := get i e j x a b
     obtain ⟨v,k1,k2⟩ := q8 i e0 j y h1 h2
     exact ⟨v,k1,qe5 hi hb k2⟩
   | dead => trivial
 ·rw [yg] at h1 h2
  split at h1
  ·cases h1; cases u1
  split at h2
  ·cases h2; cases u2
  simp only [Option.map_eq_some_iff] at h1 h2
  obtain ⟨b0,hb0,rfl⟩ := h1
  obtain ⟨b1,hb1,rfl⟩ := h2
  rw [Blk.qd4] at u1 u2
  exact hi.inj γ γ' b0 b1 hb0 hb1 u1 u2 e
 ·rcases h with h | ⟨hn,rfl⟩
  ·exact hi.im b h
  ·exact (hi.blk β _ hb).lt (hused hn)
 ·rw [yg] at hγ
  split at hγ
  ·cases hγ; cases hu
  rename_i hne
  simp only [Option.map_eq_some_iff] at hγ
  obtain ⟨b0,hb0,rfl⟩ := hγ
  rw [Blk.qd4] at hu
  rcases h with h | ⟨hn,h⟩
  ·exact hi.nim γ b0 hb0 hu h
  ·exact hne (hi.inj γ β b0 _ hb0 hb hu (hused hn) h)
 ·by_cases he : γ = β
  ·subst he
   rw [hb] at hγ
   cases hγ
   exact ⟨.dead,by simp [yg],trivial⟩
  ·refine ⟨b.thaw β isnil sz es,by simp [yg,he,hγ], ?_⟩
   cases b <;> simp [Blk.thaw,zk]
 ·rcases h with h | ⟨hn,rfl⟩
  ·exact .inl h
  ·exact .inr (.inr ⟨β,_,hb,hused hn,rfl⟩)
 ·rw [yg] at hγ
  split at hγ
  ·cases hγ; cases hu
  simp only [Option.map_eq_some_iff] at hγ
  obtain ⟨b0,hb0,rfl⟩ := hγ
  rw [Blk.qd4] at hu
  exact .inr ⟨γ,b0,hb0,hu,rfl⟩
structure Inv (w : World) (a : Act) (s : St) (ι : Plc) (Im : Nat → Prop) (nt : Nat) : Prop where
 heap : qg w s.heap ι Im
 env : ∀ t,RA w s.heap ι Im (s.env.get t) (a.tmps.getD t undef)
 nx : ∀ β b,s.heap.get β = some b → β < s.nx
 size : nt ≤ a.tmps.size
 defers : a.defers = []
theorem qgr (f : AV → AV) (hf : f .undef = .undef) : ∀ (E : Env) (t : Nat),Env.get (E.map fun (t,v) => (t,f v)) t = f (E.get t)
 | [],t => by simp [Env.get,hf]
 | (i,v) :: r,t => by
  simp only [List.map_cons,Env.get]
  split
  ·rfl
  ·exact qgr f hf r t
theorem zkt {a : Act} {s : St} {nt : Nat} (h : Inv w a s ι Im nt) (β : Nat) :
  ∃ Im',Inv w a (freeze β s) ι Im' nt ∧ Evo w s.heap ι Im w (freeze β s).heap ι Im' := by
 unfold freeze
 split
 ·rename_i isnil sz es hb
  obtain ⟨h1,h2⟩ := za5 h.heap hb
  refine ⟨_,⟨h1,fun t => ?_,fun γ b hγ => ?_,h.size,h.defers⟩,h2⟩
  ·show RA w _ ι _ (Env.get (s.env.map fun (t,v) => (t,v.thaw β isnil sz es)) t) _
   rw [qgr _ rfl]
   exact qe5 h.heap hb (h.env t)
  ·have hγ' : (q0i β isnil sz es s.heap).get γ = some b := hγ
   rw [yg] at hγ'
   split at hγ'
   ·rename_i e
    subst e
    exact h.nx γ _ hb
   ·simp only [Option.map_eq_some_iff] at hγ'
    obtain ⟨b0,hb0,_⟩ := hγ'
    exact h.nx γ b0 hb0
 ·exact ⟨Im,h,Evo.refl _ _ _ _⟩
theorem q4r {a : Act} {nt : Nat} : ∀ (l : List Nat) {s : St} {Im : Nat → Prop},Inv w a s ι Im nt →
  ∃ Im',Inv w a (freezes l s) ι Im' nt ∧ Evo w s.heap ι Im w (freezes l s).heap ι Im'
 | [],s,Im,h => ⟨Im,h,Evo.refl _ _ _ _⟩
 | β :: r,s,Im,h => by
  obtain ⟨Im1,h1,e1⟩ := zkt h β
  obtain ⟨Im2,h2,e2⟩ := q4r r h1
  exact ⟨Im2,h2,e1.trans e2⟩
end
end Go.Gm
set_option linter.unusedSectionVars false
namespace Go.Gm
open Go
section
variable [Globs] {P : Program} {w : World} {H : Heap} {ι : Plc} {Im : Nat → Prop}
theorem q0b (g : Nat → Nat) : ∀ (l : List AV) (i : Nat),(AV.ren.renL g l)[i]? = (l[i]?).map (AV.ren g)
 | [],i => by simp [AV.ren.renL]
 | x :: r,i => by
  cases i with
  | zero => simp [AV.ren.renL]
  | succ i => simp [AV.ren.renL,q0b g r i]
theorem q2i (g : Nat → Nat) : ∀ (l : List AV),(AV.ren.renL g l).length = l.length
 | [] => rfl
 | x :: r => by simp [AV.ren.renL,q2i g r]
theorem qbg (g : Nat → Nat) {x : AV} (h : x.flat = true) : (x.ren g).flat = true := by
 cases x <;> simp [AV.flat] at h <;> first | rfl | exact h
theorem ve {β : Nat} : ∀ {l : List AV} {i : Nat} {x : AV},l[i]? = some x → β ∈ x.refs → β ∈ AV.refs.refsL l
 | [],i,x,h,_ => by simp at h
 | y :: r,i,x,h,hβ => by
  simp only [AV.refs.refsL,List.mem_append]
  cases i with
  | zero => simp at h; subst h; exact .inl hβ
  | succ i => exact .inr (ve (by simpa using h) hβ)
theorem q5j (g : Nat → Nat) (b : Blk) : (b.ren g).sh = b.sh := by
 cases b <;> simp [Blk.ren,Blk.sh]
theorem z9p {x y : Blk} {p q : Pl} (g : Nat → Nat) (h : zk x y p q) : zk x (y.ren g) p q := by
 cases x <;> cases y <;> first | exact h | simpa [Blk.ren,zk] using h
theorem q69 {H' : Heap} {ι' : Plc} (g : Nat → Nat) {x : AV} {v : Value} (hx : RA w H ι Im x v)
  (hg : ∀ β ∈ x.refs,∀ b,H.get β = some b → H'.get (g β) = some (b.ren g) ∧ (ι' (g β)) = ι β) : RA w H' ι' Im (x.ren g) v := by
 induction hx with
 | undef v => exact .undef v
 | pv p v h => exact .pv p v h
 | ptr β o c hb =>
  obtain ⟨h1,h2⟩ := hg β (by simp [AV.refs]) _ hb
  rw [← h2]
  exact .ptr (g β) o _ h1
 | eptr β ver i o b1 o1 b hb hver h =>
  obtain ⟨h1,h2⟩ := hg β (by simp [AV.refs]) _ hb
  refine .eptr (g β) ver i o b1 o1 _ h1 (fun isnil sz es e => ?_) (fun isnil sz es e => ?_)
  ·rw [q5j] at e
   exact hver _ _ _ e
  ·rw [q5j] at e
   rw [h2]
   exact h _ _ _ e
 | row β ver off n v b ho hb hk hver h =>
  obtain ⟨h1,h2⟩ := hg β (by simp [AV.refs]) _ hb
  refine .row (g β) ver off n v _ ho h1 (fun h0 => ?_) (fun isnil sz es e => ?_) (fun isnil sz es e => ?_)
  ·rw [q5j]
   exact hk (fun e => h0 (by rw [e]; rfl))
  ·rw [q5j] at e
   exact hver _ _ _ e
  ·rw [q5j] at e
   rw [h2]
   exact h _ _ _ e
 | rptr c o b off vs him hc hf h => exact .rptr c o b off vs him hc hf h
 | zsl a => exact .zsl a
 | map β es clock hb =>
  obtain ⟨h1,h2⟩ := hg β (by simp [AV.refs]) _ hb
  rw [← h2]
  exact .map (g β) es clock h1
 | clo f a b va vb hla hlb _ _ iha ihb =>
  refine .clo f _ _ va vb (by rw [q2i,hla]) (by rw [q2i,hlb]) (fun i x v h1 h2 => ?_) (fun i x v h1 h2 => ?_)
  ·rw [q0b] at h1
   simp only [Option.map_eq_some_iff] at h1
   obtain ⟨y,hy,rfl⟩ := h1
   exact iha i y v hy h2 fun β hβ => hg β (by simp only [AV.refs,List.mem_append]; exact .inl (ve hy hβ))
  ·rw [q0b] at h1
   simp only [Option.map_eq_some_iff] at h1
   obtain ⟨y,hy,rfl⟩ := h1
   exact ihb i y v hy h2 fun β hβ => hg β (by simp only [AV.refs,List.mem_append]; exact .inr (ve hy hβ))
 | agg c vs hl hf _ ih =>
  refine .agg _ vs (by rw [q2i,hl]) (fun x hx => ?_) (fun i x v h1 h2 => ?_)
  ·obtain ⟨i,hi⟩ := List.getElem?_of_mem hx
   rw [q0b] at hi
   simp only [Option.map_eq_some_iff] at hi
   obtain ⟨y,hy,rfl⟩ := hi
   exact qbg g (hf y (List.mem_of_getElem? hy))
  ·rw [q0b] at h1
   simp only [Option.map_eq_some_iff] at h1
   obtain ⟨y,hy,rfl⟩ := h1
   exact ih i y v hy h2 fun β hβ => hg β (by simp only [AV.refs]; exact ve hy hβ)
 | tup c vs hl _ ih =>
  refine .tup _ vs (by rw [q2i,hl]) (fun i x v h1 h2 => ?_)
  rw [q0b] at h1
  simp only [Option.map_eq_some_iff] at h1
  obtain ⟨y,hy,rfl⟩ := h1
  exact ih i y v hy h2 fun β hβ => hg β (by simp only [AV.refs]; exact ve hy hβ)
theorem Blk.q0e (g : Nat → Nat) (b : Blk) : (b.ren g).used = b.used := by
 cases b <;> rfl
theorem uy.ren {H' : Heap} {ι' : Plc} (g : Nat → Nat) {β β' : Nat} {b : Blk} (h : uy w H ι Im β b) (hp : ι' β' = ι β)
  (hg : ∀ γ ∈ b.refs,∀ c,H.get γ = some c → H'.get (g γ) = some (c.ren g) ∧ (ι' (g γ)) = ι γ) : uy w H' ι' Im β' (b.ren g) := by
 cases b with
 | box c =>
  obtain ⟨vs,elem,fz,q1,q2,q3,q4,q5⟩ := h
  refine ⟨vs,elem,fz,by rw [hp]; exact q1,q2,by rw [q2i,q3],fun x hx => ?_,fun i x v a b => ?_⟩
  ·obtain ⟨i,hi⟩ := List.getElem?_of_mem hx
   rw [q0b] at hi
   simp only [Option.map_eq_some_iff] at hi
   obtain ⟨y,hy,rfl⟩ := hi
   exact qbg g (q4 y (List.mem_of_getElem? hy))
  ·rw [q0b] at a
   simp only [Option.map_eq_some_iff] at a
   obtain ⟨y,hy,rfl⟩ := a
   exact q69 g (q5 i y v hy b) fun γ hγ => hg γ (by simp only [Blk.refs]; exact ve hy hγ)
 | row isnil sz es =>
  cases isnil with
  | true => exact h
  | false =>
   obtain ⟨vs,elem,fz,q1,q2,q3,q4,q5,q6,q7,q8⟩ := h
   exact ⟨vs,elem,fz,by rw [hp]; exact q1,q2,by rw [hp]; exact q3,q4,by rw [hp]; exact q5,q6,q7,q8⟩
 | map es clock =>
  obtain ⟨ents,q1,q2,q3⟩ := h
  exact ⟨ents,by rw [hp]; exact q1,q2,q3⟩
 | qm sz es =>
  obtain ⟨vs,elem,fz,q1,q2,q3,q4,q5,q6,q7,q8⟩ := h
  have get : ∀ (i : Nat) e (j : Nat) x,(es.map (AV.ren.renL g))[i]? = some e → e[j]? = some x → ∃ e0 y,es[i]? = some e0 ∧ e0[j]? = some y ∧ x = y.ren g := by
   intro i e j x h1 h2
   rw [List.getElem?_map,Option.map_eq_some_iff] at h1
   obtain ⟨e0,h1,rfl⟩ := h1
   rw [q0b,Option.map_eq_some_iff] at h2
   obtain ⟨y,h2,rfl⟩ := h2
   exact ⟨e0,y,h1,h2,rfl⟩
  refine ⟨vs,elem,fz,by rw [hp]; exact q1,q2,by rw [hp]; exact q3,q4,by rw [hp]; simpa using q5,fun e he => ?_,fun i e j x a b => ?_,fun i e j x a b => ?_⟩
  ·obtain ⟨e0,h0,rfl⟩ := List.mem_map.1 he
   rw [q2i]
   exact q6 e0 h0
  ·obtain ⟨e0,y,h1,h2,rfl⟩ := get i e j x a b
   exact qbg g (q7 i e0 j y h1 h2)
  ·obtain ⟨e0,y,h1,h2,rfl⟩ := get i e j x a b
   obtain ⟨v,k1,k2⟩ := q8 i e0 j y h1 h2
   exact ⟨v,k1,q69 g k2 fun γ hγ => hg γ (by
    simp only [Blk.refs,List.mem_flatMap]
    exact ⟨e0,List.mem_of_getElem? h1,ve h2 hγ⟩)⟩
 | dead => trivial
theorem qai : ∀ (L : List Nat) (x : Nat),q05 L x = true ↔ x ∈ L
 | [],x => by simp [q05]
 | β :: r,x => by
  simp only [q05,List.mem_cons]
  split
  ·rename_i h; subst h; simp
  ·rename_i h
   rw [qai r x]
   constructor
   ·exact .inr
   ·rintro (h2 | h2)
    ·exact absurd h2.symm h
    ·exact h2
theorem qe1 : ∀ (l L : List Nat),q11 l L = true ↔ ∀ x ∈ l,x ∈ L
 | [],L => by simp [q11]
 | x :: r,L => by simp [q11,qai,qe1 r L]
theorem q6u : ∀ (L : List Nat) (x : Nat),x ∈ L → L[pos L x]? = some x
 | [],x,h => by cases h
 | β :: r,x,h => by
  simp only [pos]
  split
  ·rename_i e; simp [e]
  ·rename_i e
   have : x ∈ r := by
    rcases List.mem_cons.1 h with h | h
    ·exact absurd h.symm e
    ·exact h
   simpa using q6u r x this
theorem qhf {L : List Nat} {x : Nat} (h : x ∈ L) : pos L x < L.length := (List.getElem?_eq_some_iff.1 (q6u L x h)).1
theorem q5b : ∀ {L : List Nat},L.Nodup → ∀ {i : Nat} {x : Nat},L[i]? = some x → pos L x = i
 | [],_,i,x,h => by simp at h
 | β :: r,hn,i,x,h => by
  obtain ⟨h1,h2⟩ := List.nodup_cons.1 hn
  cases i with
  | zero => simp at h; simp [pos,h]
  | succ i =>
   simp at h
   have hx : x ∈ r := List.mem_of_getElem? h
   have hne : β ≠ x := fun e => h1 (e ▸ hx)
   simp [pos,hne,q5b h2 h]
theorem qdr (H : Heap) : ∀ (n : Nat) (todo d : List Nat),d.Nodup → (reach H n todo d).Nodup ∧ ∃ r,reach H n todo d = d ++ r
 | 0,todo,d,h => ⟨h,[],by simp [reach]⟩
 | n + 1,[],d,h => ⟨h,[],by simp [reach]⟩
 | n + 1,β :: r,d,h => by
  simp only [reach]
  split
  ·exact qdr H n r d h
  ·rename_i hm
   have hm' : β ∉ d := fun h => hm ((qai d β).2 h)
   obtain ⟨h1,r',h2⟩ := qdr H n (r ++ (jg H β).refs) (d ++ [β]) (by
    rw [List.nodup_append]
    exact ⟨h,by simp,by
     intro a ha b hb e
     simp at hb
     subst hb e
     exact hm' ha⟩)
   exact ⟨h1,β :: r',by rw [h2]; simp⟩
theorem qi5 (H : Heap) (g : Nat → Nat) : ∀ (i : Nat) (L : List Nat) (j : Nat),(pick H g i L).get j = if i ≤ j ∧ j < i + L.length then (L[j - i]?).map fun β => (jg H β).ren g else none
 | i,[],j => by
  simp [pick,Heap.get]
 | i,β :: r,j => by
  simp only [pick,Heap.get,qi5 H g (i + 1) r j,List.length_cons]
  by_cases h : i = j
  ·subst h; simp
  ·rw [if_neg h]
   by_cases h2 : i + 1 ≤ j ∧ j < i + 1 + r.length
   ·rw [if_pos h2,if_pos (by omega)]
    obtain ⟨m,rfl⟩ : ∃ m,j = i + 1 + m := ⟨j - (i + 1),by omega⟩
    rw [show i + 1 + m - (i + 1) = m from by omega,show i + 1 + m - i = m + 1 from by omega]
    simp
   ·rw [if_neg h2,if_neg (by omega)]
theorem qip (H : Heap) (g : Nat → Nat) : ∀ (i : Nat) (L : List Nat),(pick H g i L).length = L.length
 | _,[] => rfl
 | i,β :: r => by simp [pick,qip H g (i + 1) r]
theorem qim (H : Heap) (L : List Nat) : ∀ (l : List Nat),closedIn H L l = true → ∀ β ∈ l,∃ b,H.get β = some b ∧ ∀ γ ∈ b.refs,γ ∈ L
 | [],_,β,h => by cases h
 | x :: r,h,β,hβ => by
  simp only [closedIn,Bool.and_eq_true] at h
  rcases List.mem_cons.1 hβ with rfl | hβ
  ·cases hb : H.get β with
   | none => rw [hb] at h; simp at h
   | some b =>
    rw [hb] at h
    exact ⟨b,rfl,(qe1 _ _).1 h.1⟩
  ·exact qim H L r h.2 β hβ
structure q13 (H : Heap) (L : List Nat) (H0 : Heap) : Prop where
 nodup : L.Nodup
 look : ∀ j,H0.get j = (L[j]?).bind fun β => (H.get β).map (Blk.ren (pos L))
 has : ∀ β ∈ L,∃ b,H.get β = some b ∧ ∀ γ ∈ b.refs,γ ∈ L
 len : H0.length = L.length
theorem q9i {d roots : List Nat} (hd : d.Nodup) {L : List Nat} {H0 : Heap} (h : mi H d roots = some (L,H0)) :
  q13 H L H0 ∧ (∀ β ∈ roots,β ∈ L) ∧ ∃ r,L = d ++ r := by
 unfold mi at h
 split at h
 ·cases h
  exact ⟨⟨List.nodup_nil,fun j => by simp [Heap.get],by simp,rfl⟩,by simp,[],rfl⟩
 ·simp only at h
  split at h <;> cases h
  rename_i hc
  simp only [Bool.and_eq_true] at hc
  obtain ⟨h1,h2⟩ := qdr H 400 (roots ++ d.flatMap fun β => (jg H β).refs) d hd
  have hs := qim H _ _ hc.2
  refine ⟨⟨h1,fun j => ?_,hs,qip _ _ _ _⟩,(qe1 _ _).1 hc.1,h2⟩
  rw [qi5]
  simp only [Nat.zero_le,true_and,Nat.zero_add,Nat.sub_zero]
  generalize reach H 400 _ d = L at *
  by_cases hj : j < L.length
  ·rw [if_pos hj]
   have : L[j]? = some L[j] := by simp [hj]
   rw [this]
   obtain ⟨b,hb,_⟩ := hs L[j] (by simp)
   simp [jg,hb]
  ·rw [if_neg hj,List.getElem?_eq_none (by omega)]
   rfl
def wo (ι : Plc) (L : List Nat) : Plc := fun i => match L[i]? with | some β => ι β | none => ⟨0,0⟩
theorem q13.conn {L : List Nat} {H0 : Heap} (h : q13 H L H0) {β : Nat} (hβ : β ∈ L) : ∀ b,H.get β = some b → H0.get (pos L β) = some (b.ren (pos L)) ∧ wo ι L (pos L β) = ι β := by
 intro b hb
 have := q6u L β hβ
 rw [h.look,this]
 simp [hb,wo,this]
theorem q13.inv {L : List Nat} {H0 : Heap} (h : q13 H L H0) {j : Nat} {b : Blk} (hj : H0.get j = some b) : ∃ β b0,L[j]? = some β ∧ H.get β = some b0 ∧ b = b0.ren (pos L) ∧ wo ι L j = ι β := by
 rw [h.look] at hj
 cases hL : L[j]? with
 | none => rw [hL] at hj; cases hj
 | some β =>
  rw [hL] at hj
  simp only [Option.bind_some,Option.map_eq_some_iff] at hj
  obtain ⟨b0,hb0,rfl⟩ := hj
  exact ⟨β,b0,rfl,hb0,rfl,by simp [wo,hL]⟩
theorem q13.hinv {L : List Nat} {H0 : Heap} (h : q13 H L H0) (hi : qg w H ι Im) : qg w H0 (wo ι L) Im where
 blk := fun j b hj => by
  obtain ⟨β,b0,h1,h2,rfl,h4⟩ := h.inv (ι := ι) hj
  refine (hi.blk β b0 h2).ren (pos L) h4 fun γ hγ => ?_
  obtain ⟨b1,q1,q2⟩ := h.has β (List.mem_of_getElem? h1)
  rw [h2] at q1
  cases q1
  exact h.conn (q2 γ hγ)
 inj := fun i j b c hi' hj' ub uc e => by
  obtain ⟨β,b0,h1,h2,rfl,h4⟩ := h.inv (ι := ι) hi'
  obtain ⟨γ,c0,k1,k2,rfl,k4⟩ := h.inv (ι := ι) hj'
  rw [Blk.q0e] at ub uc
  rw [h4,k4] at e
  have := hi.inj β γ b0 c0 h2 k2 ub uc e
  subst this
  rw [← q5b h.nodup h1,← q5b h.nodup k1]
 im := hi.im
 nim := fun j b hj hu => by
  obtain ⟨β,b0,h1,h2,rfl,h4⟩ := h.inv (ι := ι) hj
  rw [Blk.q0e] at hu
  rw [h4]
  exact hi.nim β b0 h2 hu
 glb := hi.glb
 gim := hi.gim
end
end Go.Gm
set_option linter.unusedSectionVars false
namespace Go.Gm
open Go
section
variable [Globs] {P : Program} {w w' : World} {H H0 H' : Heap} {ι ι' : Plc} {Im Im' : Nat → Prop} {L : List Nat} {nx : Nat}
theorem nz : ∀ (ws : List (Nat × Blk)) (H : Heap) (γ : Nat),(∀ x ∈ ws,x.1 ≠ γ) → (qo ws H).get γ = H.get γ
 | [],H,γ,_ => rfl
 | (i,b) :: r,H,γ,h => by
  simp only [qo]
  rw [nz r _ γ fun x hx => h x (by simp [hx]),Heap.get_put]
  rw [if_neg (fun e => h (i,b) (by simp) e.symm)]
theorem q8t (g : Nat → Nat) : ∀ (H : Heap) (i : Nat),xu i H = true → ∀ x ∈ xz g H,∃ j,i ≤ j ∧ j < i + H.length ∧ x.1 = g j
 | [],i,_,x,h => by simp [xz] at h
 | (k,b) :: r,i,hk,x,h => by
  simp only [xu,Bool.and_eq_true,decide_eq_true_eq] at hk
  obtain ⟨rfl,hk⟩ := hk
  simp only [xz,List.mem_cons] at h
  rcases h with rfl | h
  ·exact ⟨k,Nat.le_refl _,by simp,rfl⟩
  ·obtain ⟨j,h1,h2,h3⟩ := q8t g r (k + 1) hk x h
   exact ⟨j,by omega,by simp only [List.length_cons]; omega,h3⟩
theorem q54 : ∀ (H : Heap) (i : Nat),xu i H = true → ∀ {j : Nat} {b : Blk},H.get j = some b → i ≤ j ∧ j < i + H.length
 | [],i,_,j,b,h => by simp [Heap.get] at h
 | (k,b0) :: r,i,hk,j,b,h => by
  simp only [xu,Bool.and_eq_true,decide_eq_true_eq] at hk
  obtain ⟨rfl,hk⟩ := hk
  simp only [Heap.get] at h
  split at h
  ·rename_i e; subst e; simp
  ·have := q54 r (k + 1) hk h
   simp only [List.length_cons]
   omega
theorem qki (g : Nat → Nat) : ∀ (H' H : Heap) (i : Nat),xu i H' = true → (∀ j k,i ≤ j → j < i + H'.length → i ≤ k → k < i + H'.length → g j = g k → j = k) →
  ∀ {j : Nat} {b : Blk},H'.get j = some b → (qo (xz g H') H).get (g j) = some (b.ren g)
 | [],H,i,_,_,j,b,h => by simp [Heap.get] at h
 | (k,b0) :: r,H,i,hk,hg,j,b,h => by
  simp only [xu,Bool.and_eq_true,decide_eq_true_eq] at hk
  obtain ⟨rfl,hk⟩ := hk
  simp only [Heap.get] at h
  simp only [xz,qo]
  split at h
  ·rename_i e
   subst e
   cases h
   rw [nz _ _ _ fun x hx => ?_,Heap.get_put,if_pos rfl]
   obtain ⟨m,h1,h2,h3⟩ := q8t g r (k + 1) hk x hx
   rw [h3]
   intro e
   have := hg m k (by omega) (by simp only [List.length_cons]; omega) (Nat.le_refl _) (by simp) e
   omega
  ·exact qki g r _ (k + 1) hk (fun j' k' a1 a2 a3 a4 e => hg j' k' (by omega) (by simp only [List.length_cons]; omega) (by omega) (by simp only [List.length_cons]; omega) e) h
theorem zsc {x y : Blk} {p q : Pl} {f g : Nat → Nat} (h : zk (x.ren f) y p q) : zk x (y.ren g) p q := by
 cases x <;> cases y <;> (revert h; simp [zk,Blk.ren])
def q1b (ι ι' : Plc) (L : List Nat) (nx n : Nat) : Plc := fun γ => if γ ∈ L then ι' (pos L γ) else if nx ≤ γ ∧ γ < nx + (n - L.length) then ι' (L.length + (γ - nx)) else ι γ
theorem qlt (hs : q13 H L H0) (hi : qg w H ι Im) {X : Nat → Prop} (hnx : Bd X H nx)
  (hi' : qg w' H' ι' Im') (he : Evo w H0 (wo ι L) Im w' H' ι' Im') (hk : xu 0 H' = true) (hX : ∀ γ,X γ → nx + (H'.length - L.length) ≤ γ) :
  qg w' (qo (xz (backTo L nx) H') H) (q1b ι ι' L nx H'.length) Im' ∧ Evo w H ι Im w' (qo (xz (backTo L nx) H') H) (q1b ι ι' L nx H'.length) Im' ∧
   (∀ {r : AV} {v : Value},RA w' H' ι' Im' r v → RA w' (qo (xz (backTo L nx) H') H) (q1b ι ι' L nx H'.length) Im' (r.ren (backTo L nx)) v) ∧
   Bd X (qo (xz (backTo L nx) H') H) (nx + (H'.length - L.length)) := by
 have hLlt : ∀ β ∈ L,β < nx ∨ nx + (H'.length - L.length) ≤ β := fun β hβ => by
  obtain ⟨b,hb,_⟩ := hs.has β hβ
  exact (hnx β b hb).imp id (hX β)
 have g1 : ∀ {j β : Nat},L[j]? = some β → backTo L nx j = β := fun h => by simp [backTo,h]
 have g2 : ∀ {j : Nat},L.length ≤ j → backTo L nx j = nx + (j - L.length) := fun h => by simp [backTo,List.getElem?_eq_none h]
 have ginj : ∀ j k,j < H'.length → k < H'.length → backTo L nx j = backTo L nx k → j = k := by
  intro j k hjl hkl e
  by_cases hj : j < L.length <;> by_cases hkk : k < L.length
  ·have a1 : L[j]? = some L[j] := by simp [hj]
   have a2 : L[k]? = some L[k] := by simp [hkk]
   rw [g1 a1,g1 a2] at e
   rw [← q5b hs.nodup a1,← q5b hs.nodup a2,e]
  ·have a1 : L[j]? = some L[j] := by simp [hj]
   rw [g1 a1,g2 (by omega)] at e
   have := hLlt _ (List.mem_of_getElem? a1)
   omega
  ·have a2 : L[k]? = some L[k] := by simp [hkk]
   rw [g1 a2,g2 (by omega)] at e
   have := hLlt _ (List.mem_of_getElem? a2)
   omega
  ·rw [g2 (by omega),g2 (by omega)] at e
   omega
 have hget : ∀ {j : Nat} {b : Blk},H'.get j = some b → (qo (xz (backTo L nx) H') H).get (backTo L nx j) = some (b.ren (backTo L nx)) :=
  fun h => qki _ H' H 0 hk (fun j k _ hjl _ hkl e => ginj j k (by omega) (by omega) e) h
 have hplace : ∀ j,j < H'.length → q1b ι ι' L nx H'.length (backTo L nx j) = ι' j := by
  intro j hjl
  unfold q1b
  by_cases hj : j < L.length
  ·have a1 : L[j]? = some L[j] := by simp [hj]
   rw [g1 a1,if_pos (List.mem_of_getElem? a1),q5b hs.nodup a1]
  ·rw [g2 (by omega),if_neg (fun h => by have := hLlt _ h; omega),if_pos (by omega)]
   congr 1
   omega
 have hlen : L.length ≤ H'.length := by
  rcases Nat.eq_zero_or_pos L.length with h | h
  ·omega
  ·have a1 : L[L.length - 1]? = some L[L.length - 1] := by simp [h]
   obtain ⟨b,hb,_⟩ := hs.has _ (List.mem_of_getElem? a1)
   have h0 : H0.get (L.length - 1) = some (b.ren (pos L)) := by rw [hs.look,a1]; simp [hb]
   obtain ⟨b',hb',_⟩ := he.comp _ _ h0
   have := (q54 H' 0 hk hb').2
   omega
 have hcase : ∀ γ,(∃ j,γ = backTo L nx j ∧ j < H'.length) ∨ ((∀ j,j < H'.length → γ ≠ backTo L nx j) ∧ (qo (xz (backTo L nx) H') H).get γ = H.get γ) := by
  intro γ
  by_cases h : ∃ j,j < H'.length ∧ γ = backTo L nx j
  ·obtain ⟨j,h1,h2⟩ := h
   exact .inl ⟨j,h2,h1⟩
  ·refine .inr ⟨fun j hj e => h ⟨j,hj,e⟩,nz _ _ _ fun x hx e => ?_⟩
   obtain ⟨j,_,h2,h3⟩ := q8t _ H' 0 hk x hx
   exact h ⟨j,by omega,by rw [← e,h3]⟩
 have hnotL : ∀ γ,(∀ j,j < H'.length → γ ≠ backTo L nx j) → γ ∉ L := by
  intro γ h hL
  have := q6u L γ hL
  exact h (pos L γ) (Nat.lt_of_lt_of_le (qhf hL) hlen) (g1 this).symm
 have hpl2 : ∀ γ b,γ ∉ L → H.get γ = some b → q1b ι ι' L nx H'.length γ = ι γ := by
  intro γ b h hb
  have := (hnx γ b hb).imp id (hX γ)
  unfold q1b
  rw [if_neg h,if_neg (by omega)]
 have live0 : ∀ {i : Nat} {x : Blk},H0.get i = some x → x.used = true → ∃ β b,β ∈ L ∧ H.get β = some b ∧ b.used = true ∧ (wo ι L i) = ι β := by
  intro i x h hu
  obtain ⟨β,b0,h1,h2,rfl,h4⟩ := hs.inv (ι := ι) h
  rw [Blk.q0e] at hu
  exact ⟨β,b0,List.mem_of_getElem? h1,h2,hu,h4⟩
 have hsame : ∀ γ b,γ ∉ L → H.get γ = some b → b.used = true → w'.heap[(ι γ).b]? = w.heap[(ι γ).b]? := by
  intro γ b hL hb hu
  refine he.same _ ((hi.blk γ b hb).lt hu) fun i x hx hux e => ?_
  obtain ⟨β,b1,q1,q2,q3,q4⟩ := live0 hx hux
  rw [q4] at e
  exact hL (hi.inj β γ b1 b q2 hb q3 hu e ▸ q1)
 have hev : Evo w H ι Im w' (qo (xz (backTo L nx) H') H) (q1b ι ι' L nx H'.length) Im' := by
  refine ⟨fun β b hb => ?_,he.im,fun b h => ?_,fun γ x hx hu => ?_,fun b hb hn => ?_,he.size,he.io⟩
  ·by_cases hL : β ∈ L
   ·obtain ⟨q1,q2⟩ := hs.conn (ι := ι) hL b hb
    obtain ⟨b',q3,q4⟩ := he.comp _ _ q1
    have q5 := hget q3
    have e : backTo L nx (pos L β) = β := g1 (q6u L β hL)
    rw [e] at q5
    refine ⟨_,q5, ?_⟩
    have := hplace (pos L β) (Nat.lt_of_lt_of_le (qhf hL) hlen)
    rw [e] at this
    rw [this,← q2]
    exact zsc q4
   ·rcases hcase β with ⟨j,e,hj⟩ | ⟨h1,h2⟩
    ·exfalso
     by_cases hjl : j < L.length
     ·have a1 : L[j]? = some L[j] := by simp [hjl]
      rw [g1 a1] at e
      exact hL (e ▸ List.mem_of_getElem? a1)
     ·rw [g2 (by omega)] at e
      have := (hnx β b hb).imp id (hX β)
      omega
    ·exact ⟨b,by rw [h2,hb],by rw [hpl2 β b hL hb]; exact q4f _ _⟩
  ·rcases he.imnew b h with h | h | ⟨i,x,h1,h2,h3⟩
   ·exact .inl h
   ·exact .inr (.inl h)
   ·obtain ⟨β,b1,q1,q2,q3,q4⟩ := live0 h1 h2
    exact .inr (.inr ⟨β,b1,q2,q3,by rw [← q4]; exact h3⟩)
  ·rcases hcase γ with ⟨j,rfl,hj⟩ | ⟨h1,h2⟩
   ·rw [hplace j hj]
    cases hb' : H'.get j with
    | none =>
     exfalso
     have key : ∀ (H : Heap) (i : Nat),xu i H = true → ∀ j,i ≤ j → j < i + H.length → H.get j ≠ none := by
      intro H
      induction H with
      | nil => intro i _ j h1 h2; simp at h2; omega
      | cons y r ih =>
       intro i hk j h1 h2
       obtain ⟨k,b⟩ := y
       simp only [xu,Bool.and_eq_true,decide_eq_true_eq] at hk
       obtain ⟨rfl,hk⟩ := hk
       simp only [Heap.get]
       split
       ·simp
       ·exact ih (k + 1) hk j (by omega) (by simp only [List.length_cons] at h2; omega)
     exact key H' 0 hk j (Nat.zero_le _) (by omega) hb'
    | some b' =>
     rw [hget hb'] at hx
     cases hx
     rw [Blk.q0e] at hu
     rcases he.plnew j b' hb' hu with h | ⟨i,x,q1,q2,q3⟩
     ·exact .inl h
     ·obtain ⟨β,b1,r1,r2,r3,r4⟩ := live0 q1 q2
      exact .inr ⟨β,b1,r2,r3,by rw [← r4]; exact q3⟩
   ·rw [h2] at hx
    exact .inr ⟨γ,x,hx,hu,by rw [hpl2 γ x (hnotL γ h1) hx]⟩
  ·refine he.same b hb fun i x hx hux e => ?_
   obtain ⟨β,b1,q1,q2,q3,q4⟩ := live0 hx hux
   exact hn β b1 q2 q3 (by rw [← q4]; exact e)
 have conn : ∀ γ c,H'.get γ = some c → (qo (xz (backTo L nx) H') H).get (backTo L nx γ) = some (c.ren (backTo L nx)) ∧ q1b ι ι' L nx H'.length (backTo L nx γ) = ι' γ :=
  fun γ c h => ⟨hget h,hplace γ (by have := (q54 H' 0 hk h).2; omega)⟩
 have lt' : ∀ {j : Nat} {b : Blk},H'.get j = some b → j < H'.length := fun h => by have := (q54 H' 0 hk h).2; omega
 have split : ∀ {γ b},(qo (xz (backTo L nx) H') H).get γ = some b → (∃ j b',γ = backTo L nx j ∧ H'.get j = some b' ∧ b = b'.ren (backTo L nx)) ∨ (γ ∉ L ∧ H.get γ = some b) := by
  intro γ b h
  rcases hcase γ with ⟨j,rfl,hj⟩ | ⟨h1,h2⟩
  ·cases hb' : H'.get j with
   | some b' =>
    rw [hget hb'] at h
    cases h
    exact .inl ⟨j,b',rfl,hb',rfl⟩
   | none =>
    exfalso
    have key : ∀ (H : Heap) (i : Nat),xu i H = true → ∀ j,i ≤ j → j < i + H.length → H.get j ≠ none := by
     intro H
     induction H with
     | nil => intro i _ j h1 h2; simp at h2; omega
     | cons y r ih =>
      intro i hk j h1 h2
      obtain ⟨k,b⟩ := y
      simp only [xu,Bool.and_eq_true,decide_eq_true_eq] at hk
      obtain ⟨rfl,hk⟩ := hk
      simp only [Heap.get]
      split
      ·simp
      ·exact ih (k + 1) hk j (by omega) (by simp only [List.length_cons] at h2; omega)
    exact key H' 0 hk j (Nat.zero_le _) (by omega) hb'
  ·rw [h2] at h
   exact .inr ⟨hnotL γ h1,h⟩
 have cross : ∀ {j b' γ b},H'.get j = some b' → b'.used = true → γ ∉ L → H.get γ = some b → b.used = true → (ι' j).b ≠ (ι γ).b := by
  intro j b' γ b h1 u1 hL h2 u2 e
  rcases he.plnew j b' h1 u1 with h | ⟨i,x,q1,q2,q3⟩
  ·have := (hi.blk γ b h2).lt u2
   omega
  ·obtain ⟨β,b1,r1,r2,r3,r4⟩ := live0 q1 q2
   rw [r4] at q3
   exact hL (hi.inj β γ b1 b r2 h2 r3 u2 (q3.trans e) ▸ r1)
 refine ⟨⟨fun γ b h => ?_,fun γ γ' b b' h h' u u' e => ?_,hi'.im,fun γ b h hu => ?_,hi'.glb,hi'.gim⟩,hev,fun {r v} hr => q69 _ hr fun γ _ c hc => conn γ c hc,fun γ b h => ?_⟩
 ·rcases split h with ⟨j,b',rfl,hb',rfl⟩ | ⟨hL,hb⟩
  ·exact (hi'.blk j b' hb').ren _ (hplace j (lt' hb')) fun γ _ c hc => conn γ c hc
  ·exact (hi.blk γ b hb).mono hi hev fun hu => ⟨hpl2 γ b hL hb,hsame γ b hL hb hu⟩
 ·rcases split h with ⟨j,c,rfl,hc,rfl⟩ | ⟨hL,hb⟩
  ·rcases split h' with ⟨j',c',rfl,hc',rfl⟩ | ⟨hL',hb'⟩
   ·rw [hplace _ (lt' hc),hplace _ (lt' hc')] at e
    rw [Blk.q0e] at u u'
    rw [hi'.inj j j' c c' hc hc' u u' e]
   ·rw [hplace _ (lt' hc),hpl2 γ' b' hL' hb'] at e
    rw [Blk.q0e] at u
    exact absurd e (cross hc u hL' hb' u')
  ·rcases split h' with ⟨j',c',rfl,hc',rfl⟩ | ⟨hL',hb'⟩
   ·rw [hplace _ (lt' hc'),hpl2 γ b hL hb] at e
    rw [Blk.q0e] at u'
    exact absurd e.symm (cross hc' u' hL hb u)
   ·rw [hpl2 γ b hL hb,hpl2 γ' b' hL' hb'] at e
    exact hi.inj γ γ' b b' hb hb' u u' e
 ·rcases split h with ⟨j,c,rfl,hc,rfl⟩ | ⟨hL,hb⟩
  ·rw [hplace _ (lt' hc)]
   rw [Blk.q0e] at hu
   exact hi'.nim j c hc hu
  ·rw [hpl2 γ b hL hb]
   intro hIm
   rcases he.imnew _ hIm with h | h | ⟨i,x,q1,q2,q3⟩
   ·exact hi.nim γ b hb hu h
   ·have := (hi.blk γ b hb).lt hu
    omega
   ·obtain ⟨β,b1,r1,r2,r3,r4⟩ := live0 q1 q2
    rw [r4] at q3
    exact hL (hi.inj β γ b1 b r2 hb r3 hu q3 ▸ r1)
 ·rcases split h with ⟨j,c,rfl,hc,rfl⟩ | ⟨hL,hb⟩
  ·have h2 := (q54 H' 0 hk hc).2
   by_cases hj : j < L.length
   ·have a1 : L[j]? = some L[j] := by simp [hj]
    rw [g1 a1]
    obtain ⟨b1,hb1,_⟩ := hs.has _ (List.mem_of_getElem? a1)
    exact (hnx _ b1 hb1).imp (fun h => by omega) id
   ·rw [g2 (by omega)]
    exact .inl (by omega)
  ·exact (hnx γ b hb).imp (fun h => by omega) id
end
end Go.Gm
set_option linter.unusedSectionVars false
namespace Go.Gm
open Go
def q83 [Globs] (P : Program) (f : FuncId) (args : List AV) (H : Heap) (r : AV) (H' : Heap) : Prop :=
 ∀ (w : World) (ι : Plc) (Im : Nat → Prop) (vs : List Value),qg w H ι Im → args.length = vs.length → (∀ (i : Nat) x v,args[i]? = some x → vs[i]? = some v → RA w H ι Im x v) →
  Calls P f ⟨vs⟩ w fun e w' => ∃ v ι' Im',e = .returned v ∧ qg w' H' ι' Im' ∧ Evo w H ι Im w' H' ι' Im' ∧ RA w' H' ι' Im' r v
def enters (P : Program) (f : FuncId) : Prop := ∃ fn,P.funcs[f]? = some fn ∧ (fn.name == "runtime.NumGoroutine") = false ∧ fn.body.isSome = true
structure SoundCall [Globs] (P : Program) (O : qz) : Prop where
 call : ∀ f args H r H',O.call f args H = some (r,H') → enters P f ∧ q83 P f args H r H'
section
variable [Globs] {P : Program} {w : World} {H : Heap} {ι : Plc} {Im : Nat → Prop}
theorem qox {f : FuncId} (h : enters P f) (args : Array Value) : (callFunc f args).run P w = .ok (.enter f args) w := by
 obtain ⟨fn,h1,h2,h3⟩ := h
 unfold callFunc
 have h3' : fn.body.isNone = false := by cases hb : fn.body <;> simp [hb] at h3 ⊢
 simp only [Sem.run_bind,run_program,Result.andThen_ok,h1,h2,Bool.false_eq_true,if_false,h3',Sem.run_pure]
theorem qkn {O : qz} (hO : SoundCall P O) (hi : qg w H ι Im) {nx : Nat} {X : Nat → Prop} (hnx : Bd X H nx) {f : FuncId} {args : List AV} {vs : List Value}
  (hl : args.length = vs.length) (hR : ∀ (i : Nat) x v,args[i]? = some x → vs[i]? = some v → RA w H ι Im x v) {e : Eff} (hr : yn O f args H nx = some e) (hX : ∀ γ,X γ → e.2.2 ≤ γ) :
  enters P f ∧ Calls P f ⟨vs⟩ w fun en w' => ∃ v ι' Im',en = .returned v ∧ qg w' (qo e.2.1 H) ι' Im' ∧ Evo w H ι Im w' (qo e.2.1 H) ι' Im' ∧ RA w' (qo e.2.1 H) ι' Im' e.1 v ∧
   nx ≤ e.2.2 ∧ Bd X (qo e.2.1 H) e.2.2 := by
 unfold yn at hr
 split at hr
 ·cases hr
 rename_i L H0 hsub
 split at hr
 ·cases hr
 rename_i v H' hcall
 split at hr <;> cases hr
 rename_i hk
 obtain ⟨hs,hroots,_⟩ := q9i List.nodup_nil hsub
 obtain ⟨hent,hok⟩ := hO.call f _ H0 v H' hcall
 refine ⟨hent, ?_⟩
 have := hok w (wo ι L) Im vs (hs.hinv hi) (by rw [q2i,hl]) (fun i x v h1 h2 => by
  rw [q0b] at h1
  simp only [Option.map_eq_some_iff] at h1
  obtain ⟨y,hy,rfl⟩ := h1
  exact q69 _ (hR i y v hy h2) fun β hβ b hb => hs.conn (hroots β (ve hy hβ)) b hb)
 refine this.mono fun en w' ⟨u,ι',Im',h1,h2,h3,h4⟩ => ?_
 obtain ⟨b1,b2,b3,b4⟩ := qlt hs hi hnx h2 h3 hk hX
 exact ⟨u,_,Im',h1,b1,b2,b3 h4,Nat.le_add_right _ _,b4⟩
theorem Act.qre (a : Act) (d : Option Tmp) (v : Value) (t : Nat) : (a.put d v).tmps.getD t undef = if d = some t ∧ t < a.tmps.size then v else a.tmps.getD t undef := by
 cases d with
 | none => simp [Act.put]
 | some d =>
  simp only [Act.put,Option.some.injEq]
  by_cases h : d = t
  ·subst h
   by_cases h2 : d < a.tmps.size
   ·simp [h2,Array.getD]
   ·simp [h2,Array.getD]
  ·rw [if_neg (fun h' => h h'.1)]
   simp only [Array.getD,Array.size_setIfInBounds]
   split
   ·rw [Array.getInternal_eq_getElem,Array.getInternal_eq_getElem,Array.getElem_setIfInBounds_ne]
    exact h
   ·rfl
theorem Act.q9v (a : Act) (d : Option Tmp) (v : Value) : (a.put d v).tmps.size = a.tmps.size := by
 cases d <;> simp [Act.put]
theorem Act.put_defers (a : Act) (d : Option Tmp) (v : Value) : (a.put d v).defers = a.defers := by
 cases d <;> rfl
theorem q30 (d : Option Tmp) (v : AV) (E : Env) (t : Nat) : (xe d v E).get t = if d = some t then v else E.get t := by
 cases d with
 | none => simp [xe]
 | some d => simp [xe,Env.get]
theorem q8x {a : Act} {E : Env} {nt : Nat} (hE : ∀ t,RA w H ι Im (E.get t) (a.tmps.getD t undef)) (hsz : nt ≤ a.tmps.size) {d : Option Tmp} (hd : ∀ t,d = some t → t < nt)
  {x : AV} {v : Value} (hx : RA w H ι Im x v) : ∀ t,RA w H ι Im ((xe d x E).get t) ((a.put d v).tmps.getD t undef) := by
 intro t
 rw [q30,Act.qre]
 by_cases h : d = some t
 ·rw [if_pos h,if_pos ⟨h,Nat.lt_of_lt_of_le (hd t h) hsz⟩]
  exact hx
 ·rw [if_neg h,if_neg (fun h' => h h'.1)]
  exact hE t
theorem qfc : RA w H ι Im (.tup []) Go.undef := .tup [] [] rfl (by simp)
def q6a (nt : Nat) (ops : List Oper) : Prop := ∀ o ∈ ops,∀ t,o.dst = some t → t < nt
def After (w : World) (H : Heap) (ι : Plc) (Im : Nat → Prop) (nt : Nat) (s : St) (a : Act) (w' : World) : Prop :=
 ∃ ι' Im',Inv w' a s ι' Im' nt ∧ Evo w H ι Im w' s.heap ι' Im'
theorem After.from {w1 : World} {H1 : Heap} {ι1 : Plc} {Im1 : Nat → Prop} {nt : Nat} {s : St} {a : Act} {w' : World} (h : After w1 H1 ι1 Im1 nt s a w') (he : Evo w H ι Im w1 H1 ι1 Im1) :
  After w H ι Im nt s a w' :=
 let ⟨ι',Im',h1,h2⟩ := h
 ⟨ι',Im',h1,he.trans h2⟩
theorem qke {a : Act} {o : Oper} {t : TypeId} {z : Operand} (hoo : o.op = .box t z) {u : Value} {w' : World} (h : (Instr.box t (a.eval z)).run P w = .ok u w') :
  (execOp a.eval o).run P w = .ok (.value u) w' := by
 unfold execOp
 simp only [hoo]
 simp [h]
theorem qib {G : GP} {O : qz} (hG : jb P G) (hO : SoundCall P O) {a : Act} {E : Env} {nx : Nat} (hi : qg w H ι Im) (henv : ∀ t,RA w H ι Im (E.get t) (a.tmps.getD t undef))
  {X : Nat → Prop} (hnx : Bd X H nx) (o : Oper) {x : AV} {ws : List (Nat × Blk)} {nx' : Nat} (hop : aop G O o.op E H nx = some (x,ws,nx')) (hX : ∀ γ,X γ → nx' ≤ γ)
  (next : Act → World → Prop) (Q : Exit → Act → World → Prop)
  (fin : ∀ (u : Value) (w' : World) (ι' : Plc) (Im' : Nat → Prop),qg w' (qo ws H) ι' Im' → Evo w H ι Im w' (qo ws H) ι' Im' → RA w' (qo ws H) ι' Im' x u →
   Bd X (qo ws H) nx' → next (a.put o.dst u) w') :
  o.wp P a w next Q := by
 unfold Oper.wp
 cases hc : q8g o.op with
 | false =>
  obtain ⟨u,w',h1,ι',h2,h3,h4,h5,h6⟩ := zhx hG hi hnx henv O o hc hop hX
  rcases h1 with h1 | ⟨h1,rfl⟩
  ·rw [h1]
   exact fin _ _ _ _ h2 h3 h4 h6
  ·rw [h1]
   exact fin _ _ _ _ h2 h3 h4 h6
 | true =>
  by_cases hbx : ∃ t z,o.op = .box t z
  ·obtain ⟨t,z,hoo⟩ := hbx
   rw [hoo] at hop
   unfold aop at hop
   simp only at hop
   split at hop
   rotate_left
   ·cases hop
   rename_i hs
   unfold q9r at hop
   split at hop
   ·split at hop <;> cases hop
    rename_i l hl
    obtain ⟨u,w',Im',h1,h2,h3,h4⟩ := zpe (P := P) (t := t) hi (q07 henv z) hs hl
    rw [qke hoo h1]
    exact fin _ _ _ _ h2 h3 h4 hnx
   ·cases hop
    obtain ⟨u,w',h1,ι',h2,h3,h4,h5,h6⟩ := qtm (P := P) (t := t) hi hnx (q0v hX) (q07 henv z) hs
    rw [qke hoo h1]
    exact fin _ _ _ _ h2 h3 h4 h6
  obtain ⟨fo,args,tys,hoo⟩ : ∃ fo args tys,o.op = .call { callee := .value fo,args := args,argTypes := tys } := by
   cases ho : o.op <;> simp [q8g,ho] at hc
   ·exact absurd ⟨_,_,ho⟩ hbx
   rename_i c
   obtain ⟨callee,args,tys⟩ := c
   cases callee <;> simp at hc
   exact ⟨_,_,_,rfl⟩
  rw [hoo] at hop
  have hargs : args.map a.eval = ⟨args.toList.map a.eval⟩ := by apply Array.ext'; simp
  have hval : ∀ (f : FuncId) (first cap : Array Value),a.eval fo = .func (.func f) first cap → enters P f →
    (execOp a.eval o).run P w = .ok (.enter f (first ++ args.map a.eval ++ cap)) w := by
   intro f first cap hf hent
   unfold execOp
   simp only [hoo,resolve,hf,Deferred.ofValue,Sem.run_bind,Sem.run_pure,Result.andThen_ok,invoke,qox hent]
  have hfo := q07 henv fo
  have hlist := qjv henv args.toList
  unfold aop at hop
  simp only at hop
  have finish : ∀ (f : FuncId) (vs : List Value) (e : Eff),(x,ws,nx') = e → (Calls P f ⟨vs⟩ w fun en w' => ∃ v ι' Im',en = .returned v ∧ qg w' (qo e.2.1 H) ι' Im' ∧ Evo w H ι Im w' (qo e.2.1 H) ι' Im' ∧ RA w' (qo e.2.1 H) ι' Im' e.1 v ∧
    nx ≤ e.2.2 ∧ Bd X (qo e.2.1 H) e.2.2) → o.upon P a next Q (.ok (.enter f ⟨vs⟩) w) := by
   intro f vs e he hcall
   subst he
   show Calls P f ⟨vs⟩ w _
   refine hcall.mono fun en w' ⟨v,ι',Im',q1,q2,q3,q4,q5,q6⟩ => ?_
   subst q1
   exact fin _ _ _ _ q2 q3 q4 q6
  split at hop
  ·rename_i f hf
   rw [hf] at hfo
   have hp := hfo.xg
   generalize hv : a.eval fo = vf at hp
   cases hp
   obtain ⟨hent,hcall⟩ := qkn hO hi hnx (vs := args.toList.map a.eval) (by simp) hlist hop hX
   rw [hval f #[] #[] hv hent,hargs]
   have : (#[] ++ (⟨args.toList.map a.eval⟩ : Array Value) ++ #[]) = ⟨args.toList.map a.eval⟩ := by simp
   rw [this]
   exact finish f _ _ rfl hcall
  ·rename_i f fa fb hf
   rw [hf] at hfo
   generalize hv : a.eval fo = vf at hfo
   cases hfo with
   | clo _ _ _ va vb hla hlb ha hb =>
    obtain ⟨hent,hcall⟩ := qkn hO hi hnx (vs := va ++ args.toList.map a.eval ++ vb) (by simp [hla,hlb]) (fun i z v h1 h2 => by
     rw [List.getElem?_append] at h1 h2
     have hlen : (fa ++ args.toList.map (ev E)).length = (va ++ args.toList.map a.eval).length := by simp [hla]
     rw [← hlen] at h2
     split at h1
     ·rename_i hc1
      rw [if_pos hc1] at h2
      rw [List.getElem?_append] at h1 h2
      rw [← hla] at h2
      split at h1
      ·rename_i hc2
       rw [if_pos hc2] at h2
       exact ha i z v h1 h2
      ·rename_i hc2
       rw [if_neg hc2] at h2
       exact hlist _ z v h1 h2
     ·rename_i hc1
      rw [if_neg hc1] at h2
      exact hb _ z v h1 h2) hop hX
    rw [hval f _ _ hv hent,hargs]
    have : ((⟨va⟩ : Array Value) ++ (⟨args.toList.map a.eval⟩ : Array Value) ++ (⟨vb⟩ : Array Value)) = ⟨va ++ args.toList.map a.eval ++ vb⟩ := by simp
    rw [this]
    exact finish f _ _ rfl hcall
  ·cases hop
theorem qm6 {G : GP} {O : qz} (hG : jb P G) (hO : SoundCall P O) {nt : Nat} {a : Act} {s s' : St} (h : Inv w a s ι Im nt) (o : Oper) (hd : ∀ t,o.dst = some t → t < nt)
  (hr : q0g G O o s = some s') (next : Act → World → Prop) (Q : Exit → Act → World → Prop) (hn : ∀ a' w',After w s.heap ι Im nt s' a' w' → next a' w') :
  o.wp P a w next Q := by
 unfold q0g at hr
 split at hr <;> cases hr
 rename_i x ws nx' hop
 refine qib hG hO h.heap h.env (X := fun _ => False) (fun β b hb => .inl (h.nx β b hb)) o hop (fun _ h => h.elim) next Q fun u w' ι' Im' h1 h2 h3 h4 => ?_
 refine hn _ _ ⟨ι',Im',⟨h1, ?_,fun β b hb => (h4 β b hb).resolve_right id,by rw [Act.q9v]; exact h.size,by rw [Act.put_defers]; exact h.defers⟩,h2⟩
 exact q8x (fun t => (h.env t).mono h.heap h2) h.size hd h3
end
end Go.Gm
set_option linter.unusedSectionVars false
namespace Go.Gm
open Go
section
variable [Globs] {P : Program} {w : World} {H : Heap} {ι : Plc} {Im : Nat → Prop}
theorem qcg {ops : Array Oper} {a : Act} {E : Env} (hE : ∀ t,RA w H ι Im (E.get t) (a.tmps.getD t undef)) {o : Oper} {b : Bool} (h : guardOf ops.toList o E = some b) :
  Region.wanted o (yielded ops a.tmps) = b := by
 unfold guardOf at h
 unfold Region.wanted
 split at h
 ·rename_i hg
  rw [hg]
  cases h
  rfl
 ·rename_i j want hg
  rw [hg]
  simp only
  split at h
  ·rename_i oj hoj
   have hoj' : ops[j]? = some oj := by rw [← Array.getElem?_toList]; exact hoj
   split at h
   ·rename_i d hd
    have hyd : yielded ops a.tmps j = match a.tmps[d]? with | some (.bool b) => some b | _ => none := by
     simp only [yielded,hoj',Option.bind_some,hd]
     rfl
    rw [hyd]
    have hr := hE d
    have hgd : a.tmps.getD d undef = (a.tmps[d]?).getD undef := by
     simp [Array.getD,getElem?_def]
     split <;> simp [*]
    rw [hgd] at hr
    split at h
    ·rename_i b0 hb0
     cases h
     rw [hb0] at hr
     have hp := hr.xg
     cases ht : a.tmps[d]? with
     | none => rw [ht] at hp; cases hp
     | some v =>
      rw [ht] at hp
      simp only [Option.getD_some] at hp
      cases hp
      simp only
      cases b0 <;> cases want <;> rfl
    ·rename_i hb0
     cases h
     rw [hb0] at hr
     cases ht : a.tmps[d]? with
     | none => rfl
     | some v =>
      rw [ht] at hr
      simp only [Option.getD_some] at hr
      cases hr with
      | tup _ vs => rfl
    ·cases h
   ·rename_i hd
    cases h
    have : yielded ops a.tmps j = none := by simp [yielded,hoj',hd]
    rw [this]
    rfl
  ·rename_i hoj
   cases h
   have hoj' : ops[j]? = none := by rw [← Array.getElem?_toList]; exact hoj
   have : yielded ops a.tmps j = none := by simp [yielded,hoj']
   rw [this]
   rfl
theorem qwz {a : Act} {s : St} {nt : Nat} (h : Inv w a s ι Im nt) (d : Option Tmp) (hd : ∀ t,d = some t → t < nt) :
  Inv w (a.put d undef) { s with env := xe d (.tup []) s.env } ι Im nt where
 heap := h.heap
 env := q8x h.env h.size hd qfc
 nx := h.nx
 size := by rw [Act.q9v]; exact h.size
 defers := by rw [Act.put_defers]; exact h.defers
theorem qb1 {G : GP} {O : qz} (hG : jb P G) (hO : SoundCall P O) {nt : Nat} (ops : Array Oper) (hd : q6a nt ops.toList) (Q : Exit → Act → World → Prop) :
  ∀ (rest : List Oper) (k : Nat),ops.toList.drop k = rest → ∀ {w : World} {ι : Plc} {Im : Nat → Prop} {a : Act} {s s' : St},Inv w a s ι Im nt → yl G O ops.toList rest s = some s' →
   (∀ a' w',After w s.heap ι Im nt s' a' w' → Q .normal a' w') → wpOps P ops Q (List.range' k rest.length) a w
 | [],k,_,w,ι,Im,a,s,s',h,hr,hq => by
  cases hr
  exact hq a w ⟨ι,Im,h,Evo.refl _ _ _ _⟩
 | o :: rest,k,hrest,w,ι,Im,a,s,s',h,hr,hq => by
  have hk : ops.toList[k]? = some o := by
   have := congrArg (fun l => l[0]?) hrest
   simpa using this
  have hk' : ops[k]? = some o := by rw [← Array.getElem?_toList]; exact hk
  have hrest' : ops.toList.drop (k + 1) = rest := by
   have := congrArg (fun l => l.drop 1) hrest
   simpa [List.drop_drop] using this
  have hdo : ∀ t,o.dst = some t → t < nt := hd o (List.mem_of_getElem? hk)
  simp only [List.length_cons,List.range'_succ,wpOps,hk']
  simp only [yl] at hr
  split at hr
  ·rename_i hg
   rw [qcg h.env hg,if_pos rfl]
   obtain ⟨Im1,h1,e1⟩ := q4r (needs G o.op s.env) h
   split at hr
   rotate_left
   ·cases hr
   rename_i s1 hs1
   refine .inl (qm6 hG hO h1 o hdo hs1 _ _ fun a' w' haft => ?_)
   obtain ⟨ι2,Im2,h2,e2⟩ := haft
   exact qb1 hG hO ops hd Q rest (k + 1) hrest' h2 hr fun a'' w'' h3 => hq a'' w'' (h3.from (e1.trans e2))
  ·rename_i hg
   rw [qcg h.env hg,if_neg (by simp)]
   exact qb1 hG hO ops hd Q rest (k + 1) hrest' (qwz h o.dst hdo) hr fun a'' w'' h3 => hq a'' w'' h3
  ·cases hr
theorem zjc {G : GP} {O : qz} (hG : jb P G) (hO : SoundCall P O) {nt : Nat} (id : Nat) (ops : Array Oper) (hd : q6a nt ops.toList)
  {a : Act} {s s' : St} (h : Inv w a s ι Im nt) (hr : yl G O ops.toList ops.toList s = some s') (Q : Exit → Act → World → Prop)
  (hq : ∀ a' w',After w s.heap ι Im nt s' a' w' → Q .normal a' w') : (Code.region id ops false).wp P Q a w := by
 refine wp_region ?_
 have := qb1 hG hO ops hd Q ops.toList 0 (by simp) h hr hq
 rw [List.range_eq_range']
 simpa using this
end
end Go.Gm
namespace Go.Gm
open Go
def agree (L : List Nat) (H H' : Heap) : Prop := ∀ γ ∈ L,H'.get γ = H.get γ
section
variable {H H' : Heap}
theorem agree.app {A B : List Nat} (h : agree (A ++ B) H H') : agree A H H' ∧ agree B H H' :=
 ⟨fun γ hγ => h γ (by simp [hγ]),fun γ hγ => h γ (by simp [hγ])⟩
theorem zk3 {ti : TI} {a : AV} (h : agree a.refs H H') : q09 ti a H' = q09 ti a H := by
 cases a <;> simp only [q09]
 ·rename_i p; cases p <;> rfl
 ·rename_i β o; rw [h β (by simp [AV.refs])]
 ·rename_i β v i o; rw [h β (by simp [AV.refs])]
theorem zla {ti : TI} {a v : AV} (h : agree a.refs H H') : q0w ti a v H' = q0w ti a v H := by
 cases a <;> simp only [q0w]
 ·rename_i β o; rw [h β (by simp [AV.refs])]
 ·rename_i β v i o; rw [h β (by simp [AV.refs])]
theorem qdl {v : AV} (h : agree v.refs H H') : jc v H' = jc v H := by
 cases v with
 | pv p => cases p <;> first | rfl | (rename_i b _ _; cases b <;> rfl)
 | row β ver off n => simp only [jc]; rw [h β (by simp [AV.refs])]
 | _ => rfl
theorem zhc {v : AV} (h : agree v.refs H H') : q03 v H' = q03 v H := by
 cases v with
 | row β ver off n => simp only [q03]; rw [h β (by simp [AV.refs])]
 | _ => rfl
theorem zmp {te : TI} {s x : AV} {nx : Nat} (h1 : agree s.refs H H') (h2 : agree x.refs H H') : yz te s x H' nx = yz te s x H nx := by
 unfold yz
 rw [zhc h2]
 cases s with
 | row β ver off n => simp only; rw [h1 β (by simp [AV.refs])]
 | pv p => cases p <;> first | rfl | (rename_i b _ _; cases b <;> rfl)
 | _ => rfl
theorem qtz {te : TI} {s x : AV} {nx : Nat} (h1 : agree s.refs H H') (h2 : agree x.refs H H') : vg te s x H' nx = vg te s x H nx := by
 unfold vg
 rw [qdl h2,zmp h1 h2]
 cases s with
 | row β ver off n => simp only; rw [h1 β (by simp [AV.refs])]
 | pv p => cases p <;> first | rfl | (rename_i b _ _; cases b <;> rfl)
 | _ => rfl
theorem qxg {te : TI} {s x : AV} {nx : Nat} (h1 : agree s.refs H H') (h2 : agree x.refs H H') : q19 te s x H' nx = q19 te s x H nx := by
 unfold q19
 rw [qdl h2]
 cases s with
 | row β ver off n => simp only; rw [h1 β (by simp [AV.refs])]
 | pv p => cases p <;> first | rfl | (rename_i b _ _; cases b <;> rfl)
 | _ => rfl
theorem z5p {td : TD} {esz : TypeId → Option TI} {x i : AV} (h : agree x.refs H H') : q42 td esz x i H' = q42 td esz x i H := by
 unfold q42
 cases x with
 | row β ver off n =>
  simp only
  rw [h β (by simp [AV.refs])]
 | pv p => cases p <;> first | rfl | (rename_i b _ _; cases b <;> rfl)
 | _ => rfl
theorem zso {td : TD} {esz : TypeId → Option TI} {ρ : Operand → AV} {x : AV} {lo hi mx : Option Operand} (h : agree x.refs H H') : q06 td esz ρ x lo hi mx H' = q06 td esz ρ x lo hi mx H := by
 unfold q06
 cases x with
 | row β ver off n =>
  simp only
  rw [h β (by simp [AV.refs])]
 | pv p => cases p <;> first | rfl | (rename_i b _ _; cases b <;> rfl)
 | _ => rfl
theorem qg8 {td : TD} {v : AV} (h : agree v.refs H H') : xk td v H' = xk td v H := by
 unfold xk
 cases v with
 | row β ver off n =>
  simp only
  rw [h β (by simp [AV.refs])]
 | pv p => cases p <;> first | rfl | (rename_i b _ _; cases b <;> rfl)
 | _ => rfl
theorem qwm {esz : TypeId → Option TI} {ti : TI} {x y : AV} (h1 : agree x.refs H H') (h2 : agree y.refs H H') : aEq esz ti x y H' = aEq esz ti x y H := by
 unfold aEq
 split
 ·rfl
 ·rfl
 ·rw [qg8 h1,qg8 h2]
theorem zrq {esz : TypeId → Option TI} {op : BinOp} {ti : TI} {x y : AV} (h1 : agree x.refs H H') (h2 : agree y.refs H H') : q48 esz op ti x y H' = q48 esz op ti x y H := by
 have e : aEq esz ti x y H' = aEq esz ti x y H := qwm h1 h2
 unfold q48
 split
 ·rfl
 ·rfl
 ·split
  ·rfl
  ·rfl
  ·rw [e]
theorem za9 {src dst : TD} {dte : TypeId → Option TI} {x : AV} {nx : Nat} (h : agree x.refs H H') : q0t src dst dte x H' nx = q0t src dst dte x H nx := by
 have e : jc x H' = jc x H := qdl h
 unfold q0t
 split <;> first | rfl | (rw [e])
theorem zle {m : AV} {k : PV} (h : agree m.refs H H') : q34 m k H' = q34 m k H := by
 cases m with
 | map β => simp only [q34]; rw [h β (by simp [AV.refs])]
 | pv p => cases p <;> first | rfl | (rename_i b _ _; cases b <;> rfl)
 | _ => rfl
theorem zm9 {tk te : TI} {m k : AV} {ok : Bool} (h : agree m.refs H H') : q1n tk te m k ok H' = q1n tk te m k ok H := by
 cases k with
 | pv p => simp only [q1n,zle h]
 | _ => rfl
theorem qes {tk : TI} {m k : AV} {v : PV} (h : agree m.refs H H') : bf tk m k v H' = bf tk m k v H := by
 cases m <;> first | rfl | (cases k <;> first | rfl | (simp only [bf]; rw [h _ (by simp [AV.refs])]))
theorem zis {tk te : TI} {m k : AV} (h : agree m.refs H H') : q0a tk te m k H' = q0a tk te m k H := by
 cases m <;> first | rfl | (cases k <;> first | rfl | (simp only [q0a]; rw [h _ (by simp [AV.refs])]))
theorem qru {m st : AV} {v : PV} (h : agree m.refs H H') : p8 m st v H' = p8 m st v H := by
 cases m <;> first | rfl | (cases st <;> first | (rename_i p; cases p <;> first | rfl | (simp only [p8]; rw [h _ (by simp [AV.refs])])) | rfl | (simp only [p8]; rw [h _ (by simp [AV.refs])]))
theorem quc {tk : TI} {m k : AV} (h : agree m.refs H H') : tu tk m k H' = tu tk m k H := by
 cases m <;> first | rfl | (cases k <;> first | rfl | (simp only [tu]; rw [h _ (by simp [AV.refs])])) | (rename_i p; cases p <;> first | rfl | (cases k <;> rfl))
theorem zni {x : AV} (h : agree x.refs H H') : q1t x H' = q1t x H := by
 cases x with
 | row β ver off n => simp only [q1t]; rw [h β (by simp [AV.refs])]
 | map β => simp only [q1t]; rw [h β (by simp [AV.refs])]
 | pv p => cases p <;> first | rfl | (rename_i b _ _; cases b <;> rfl)
 | _ => rfl
theorem qme {G : GP} {b : Builtin} {tys : List TypeId} {args : List AV} {nx : Nat} (h : agree (AV.refs.refsL args) H H') : q18 G b tys args H' nx = q18 G b tys args H nx := by
 unfold q18
 split
 ·have h1 := (agree.app h).1
  simp only [zni h1]
 ·rfl
 ·rfl
 ·rename_i s x
  have h1 : agree s.refs H H' := fun γ hγ => h γ (by simp [AV.refs.refsL,hγ])
  have h2 : agree x.refs H H' := fun γ hγ => h γ (by simp [AV.refs.refsL,hγ])
  simp only [qtz h1 h2]
 ·rename_i s x
  have h1 : agree s.refs H H' := fun γ hγ => h γ (by simp [AV.refs.refsL,hγ])
  have h2 : agree x.refs H H' := fun γ hγ => h γ (by simp [AV.refs.refsL,hγ])
  simp only [qxg h1 h2]
 ·rename_i m k
  have h1 : agree m.refs H H' := fun γ hγ => h γ (by simp [AV.refs.refsL,hγ])
  simp only [quc h1]
 ·rfl
theorem qce : ∀ (n : Nat) (r d : List Nat),agree (reach H n r d) H H' → reach H' n r d = reach H n r d
 | 0,_,_,_ => rfl
 | n + 1,[],d,_ => rfl
 | n + 1,β :: r,d,h => by
  simp only [reach] at h ⊢
  by_cases c : q05 d β = true
  ·rw [if_pos c] at h ⊢
   rw [if_pos c]
   exact qce n r d h
  ·rw [if_neg c] at h ⊢
   rw [if_neg c]
   have hin : β ∈ reach H n (r ++ (jg H β).refs) (d ++ [β]) := by
    have key : ∀ (n : Nat) (r d : List Nat) (x : Nat),x ∈ d → x ∈ reach H n r d := by
     intro n
     induction n with
     | zero => intro r d x hx; exact hx
     | succ n ih =>
      intro r d x hx
      cases r with
      | nil => exact hx
      | cons β r =>
       simp only [reach]
       split
       ·exact ih _ _ _ hx
       ·exact ih _ _ _ (by simp [hx])
    exact key _ _ _ _ (by simp)
   have hb : jg H' β = jg H β := by simp only [jg,h β hin]
   rw [hb]
   exact qce n _ _ h
theorem qig {L : List Nat} : ∀ (l : List Nat),agree l H H' → closedIn H' L l = closedIn H L l
 | [],_ => rfl
 | β :: r,h => by
  simp only [closedIn]
  rw [h β (by simp),qig r fun γ hγ => h γ (by simp [hγ])]
theorem qfd {g : Nat → Nat} : ∀ (i : Nat) (l : List Nat),agree l H H' → pick H' g i l = pick H g i l
 | _,[],_ => rfl
 | i,β :: r,h => by
  simp only [pick]
  rw [qfd (i + 1) r fun γ hγ => h γ (by simp [hγ])]
  have : jg H' β = jg H β := by simp only [jg,h β (by simp)]
  rw [this]
theorem zdi {roots : List Nat} (h : agree (reach H 400 roots []) H H') : mi H' [] roots = mi H [] roots := by
 cases roots with
 | nil => rfl
 | cons β r =>
  have h' : agree (reach H 400 ((β :: r) ++ ([] : List Nat).flatMap fun β => (jg H β).refs) []) H H' := by simpa using h
  have e := qce 400 _ _ h'
  simp only [List.flatMap_nil] at e h'
  simp only [mi,List.flatMap_nil,e,qig _ h',qfd 0 _ h']
theorem qh6 {O : qz} {f : FuncId} {args : List AV} {nx : Nat} (h : agree (reach H 400 (AV.refs.refsL args) []) H H') : yn O f args H' nx = yn O f args H nx := by
 unfold yn
 rw [zdi h]
theorem qit {ps : List (Nat × Operand)} {E E' : Env} (h : ∀ x ∈ ps.map (·.2),ev E' x = ev E x) : ∀ x ∈ ps,ev E' x.2 = ev E x.2 := fun x hx => h x.2 (List.mem_map.2 ⟨x,hx,rfl⟩)
theorem qjp {place : Nat → Option (Nat × Nat)} {E E' : Env} : ∀ (l : List (Nat × Operand)) (c : List AV),(∀ x ∈ l,ev E' x.2 = ev E x.2) → bq place (ev E') l c = bq place (ev E) l c
 | [],_,_ => rfl
 | (i,x) :: r,c,h => by
  have hx : ev E' x = ev E x := h (i,x) (by simp)
  simp only [bq,hx]
  split
  ·split
   ·exact qjp r _ fun y hy => h y (by simp [hy])
   ·rfl
  ·rfl
theorem qgn {size : Nat} {E E' : Env} : ∀ (l : List (Nat × Operand)) (c : List (List PV)),(∀ x ∈ l,ev E' x.2 = ev E x.2) → mh size (ev E') l c = mh size (ev E) l c
 | [],_,_ => rfl
 | (i,x) :: r,c,h => by
  have hx : ev E' x = ev E x := h (i,x) (by simp)
  simp only [mh,hx]
  split
  ·split
   ·exact qgn r _ fun y hy => h y (by simp [hy])
   ·rfl
  ·rfl
theorem qf9 {size : Nat} {E E' : Env} : ∀ (l : List (Nat × Operand)) (c : List (List AV)),(∀ x ∈ l,ev E' x.2 = ev E x.2) → q08 size (ev E') l c = q08 size (ev E) l c
 | [],_,_ => rfl
 | (i,x) :: r,c,h => by
  have hx : ev E' x = ev E x := h (i,x) (by simp)
  simp only [q08,hx]
  split
  ·exact qf9 r _ fun y hy => h y (by simp [hy])
  ·rfl
theorem qdg {E E' : Env} (l : List Operand) (h : ∀ x ∈ l,ev E' x = ev E x) : l.map (ev E') = l.map (ev E) := List.map_congr_left h
theorem zl2 {G : GP} {O : qz} {o : Op} {E E' : Env} {nx : Nat} (hE : ∀ x ∈ o.operands,ev E' x = ev E x) (hH : agree (touched o E H) H H') : aop G O o E' H' nx = aop G O o E H nx := by
 cases o with
 | move x => simp only [aop,hE x (by simp [Op.operands])]
 | assign x => simp only [aop,hE x (by simp [Op.operands])]
 | pick c a b => simp only [aop,hE c (by simp [Op.operands]),hE a (by simp [Op.operands]),hE b (by simp [Op.operands])]
 | alloc t => rfl
 | box t x => simp only [aop,hE x (by simp [Op.operands])]
 | build t ps =>
  have h := qit (ps := ps.toList) (E := E) (E' := E') (fun x hx => hE x (by simpa [Op.operands] using hx))
  simp only [aop,q7d,qjp _ _ h]
 | buildSlice t n ps =>
  have h := qit (ps := ps.toList) (E := E) (E' := E') (fun x hx => hE x (by simpa [Op.operands] using hx))
  simp only [aop,qgn _ _ h,qf9 _ _ h]
 | load t a => simp only [aop,hE a (by simp [Op.operands]),zk3 hH]
 | store t a x => simp only [aop,hE a (by simp [Op.operands]),hE x (by simp [Op.operands]),zla hH]
 | nilCheck x => simp only [aop,hE x (by simp [Op.operands])]
 | binOp op t x y z =>
  obtain ⟨h1,h2⟩ := agree.app hH
  simp only [aop,hE x (by simp [Op.operands]),hE y (by simp [Op.operands]),zrq h1 h2]
 | unOp op t x => simp only [aop,hE x (by simp [Op.operands])]
 | convert s d x => simp only [aop,hE x (by simp [Op.operands]),za9 hH]
 | makeFunc fn a b =>
  cases fn with
  | func f =>
   have h1 := qdg a.toList (E := E) (E' := E') (fun x hx => hE x (by simp [Op.operands] at hx ⊢; exact .inl hx))
   have h2 := qdg b.toList (E := E) (E' := E') (fun x hx => hE x (by simp [Op.operands] at hx ⊢; exact .inr hx))
   simp only [aop]
   generalize a.toList = la at h1
   generalize b.toList = lb at h2
   cases la <;> cases lb <;> first | rfl | (simp only [h1,h2])
  | _ => rfl
 | makeMap t r => cases r <;> rfl
 | makeSlice t l c => simp only [aop,hE l (by simp [Op.operands]),hE c (by simp [Op.operands])]
 | slice t x lo hi mx =>
  have hx := hE x (by simp [Op.operands])
  have h1 : ∀ d,zh (ev E') d lo = zh (ev E) d lo := fun d => by cases lo with | none => rfl | some y => simp only [zh,hE y (by simp [Op.operands])]
  have h2 : ∀ d,zh (ev E') d hi = zh (ev E) d hi := fun d => by cases hi with | none => rfl | some y => simp only [zh,hE y (by simp [Op.operands])]
  have h3 : ∀ d,zh (ev E') d mx = zh (ev E) d mx := fun d => by cases mx with | none => rfl | some y => simp only [zh,hE y (by simp [Op.operands])]
  have key : ∀ td esz H,q06 td esz (ev E') (ev E x) lo hi mx H = q06 td esz (ev E) (ev E x) lo hi mx H := by
   intro td esz H
   unfold q06
   simp only [h1,h2,h3]
  simp only [aop,hx,key,zso hH]
 | fieldAddr t x f => simp only [aop,hE x (by simp [Op.operands])]
 | field t x f => simp only [aop,hE x (by simp [Op.operands])]
 | indexAddr t x i => simp only [aop,hE x (by simp [Op.operands]),hE i (by simp [Op.operands]),z5p hH]
 | index t x i => simp only [aop,hE x (by simp [Op.operands]),hE i (by simp [Op.operands])]
 | lookup t m k ok => simp only [aop,hE m (by simp [Op.operands]),hE k (by simp [Op.operands]),zm9 hH]
 | mapUpdate t m k x => simp only [aop,hE m (by simp [Op.operands]),hE k (by simp [Op.operands]),hE x (by simp [Op.operands]),qes hH]
 | insert t m k x => simp only [aop,hE m (by simp [Op.operands]),hE k (by simp [Op.operands]),hE x (by simp [Op.operands]),qes hH]
 | mapEntry t m k => simp only [aop,hE m (by simp [Op.operands]),hE k (by simp [Op.operands]),zis hH]
 | entryStore t m st x => simp only [aop,hE m (by simp [Op.operands]),hE st (by simp [Op.operands]),hE x (by simp [Op.operands]),qru hH]
 | extract t i => simp only [aop,hE t (by simp [Op.operands])]
 | call c =>
  obtain ⟨callee,args,tys⟩ := c
  have ha := qdg args.toList (E := E) (E' := E') (fun x hx => hE x (by simp [Op.operands,Call.operands]; right; simpa using hx))
  cases callee with
  | builtin b => simp only [aop,ha,qme hH]
  | value f =>
   have hf := hE f (by simp [Op.operands,Call.operands])
   simp only [aop,hf,ha]
   simp only [touched] at hH
   split
   ·rename_i g hg
    rw [hg] at hH
    exact qh6 hH
   ·rename_i g a b hg
    rw [hg] at hH
    exact qh6 hH
   ·rfl
  | _ => rfl
 | _ => rfl
end
end Go.Gm
namespace Go.Gm
open Go
structure Rc where
 E : Env
 H : Heap
 nx : Nat
 on : Bool
 v : AV
 ws : List (Nat × Blk)
 nx' : Nat
 rd : List Nat
def Rc.keys (c : Rc) : List Nat := c.ws.map (·.1)
def q0c (G : GP) (O : qz) (all : List Oper) : List Oper → List Rc → St → St → Prop
 | [],[],s,s' => s' = s
 | o :: r,c :: cs,s,s' => c.E = s.env ∧ c.H = s.heap ∧ c.nx = s.nx ∧ guardOf all o s.env = some c.on ∧
   (c.on = true → aop G O o.op s.env s.heap s.nx = some (c.v,c.ws,c.nx') ∧ c.rd = touched o.op s.env s.heap) ∧
   (c.on = false → c.v = .tup [] ∧ c.ws = [] ∧ c.nx' = s.nx ∧ c.rd = []) ∧ q0c G O all r cs ⟨xe o.dst c.v s.env,qo c.ws s.heap,c.nx'⟩ s'
 | _,_,_,_ => False
def q59 : Nat → List Rc → List (Nat × List Nat × List Nat) → List (Nat × List Nat × List Nat)
 | _,[],log => log
 | i,c :: cs,log => q59 (i + 1) cs (if c.on = true then (i,c.rd,c.keys) :: log else log)
theorem qci {G : GP} {O : qz} (all : List Oper) : ∀ {l : List Oper} {i : Nat} {s s' : St} {log : List (Nat × List Nat × List Nat)},wh G O all i l s log = some s' →
  ∃ cs,q0c G O all l cs s s' ∧ bz (kz [] all) (q59 i cs log) = true
 | [],i,s,s',log,h => by
  simp only [wh] at h
  split at h <;> cases h
  rename_i hc
  exact ⟨[],rfl,hc⟩
 | o :: r,i,s,s',log,h => by
  simp only [wh] at h
  split at h
  ·rename_i hg
   split at h
   ·rename_i v ws nx hop
    obtain ⟨cs,h1,h2⟩ := qci all h
    exact ⟨⟨s.env,s.heap,s.nx,true,v,ws,nx,touched o.op s.env s.heap⟩ :: cs,⟨rfl,rfl,rfl,hg,fun _ => ⟨hop,rfl⟩,(fun h => by cases h),h1⟩,h2⟩
   ·cases h
  ·rename_i hg
   obtain ⟨cs,h1,h2⟩ := qci all h
   exact ⟨⟨s.env,s.heap,s.nx,false,.tup [],[],s.nx,[]⟩ :: cs,⟨rfl,rfl,rfl,hg,(fun h => by cases h),fun _ => ⟨rfl,rfl,rfl,rfl⟩,h1⟩,h2⟩
  ·cases h
theorem q0c.len {G : GP} {O : qz} {all : List Oper} : ∀ {l : List Oper} {cs : List Rc} {s s' : St},q0c G O all l cs s s' → cs.length = l.length
 | [],[],_,_,_ => rfl
 | [],_ :: _,_,_,h => h.elim
 | _ :: _,[],_,_,h => h.elim
 | _ :: r,_ :: cs,_,_,h => by simp [q0c.len h.2.2.2.2.2.2]
theorem qaw : ∀ {l L : List Nat},uj l L = true → ∀ x ∈ l,x ∉ L
 | [],L,_,x,hx => by simp at hx
 | y :: r,L,h,x,hx => by
  simp only [uj,Bool.and_eq_true,Bool.not_eq_true'] at h
  rcases List.mem_cons.1 hx with rfl | hx
  ·intro hc
   rw [(qai L x).2 hc] at h
   simp at h
  ·exact qaw h.2 x hx
def Apart (a b : Rc) : Prop := (∀ x ∈ a.keys,x ∉ b.rd) ∧ (∀ x ∈ a.keys,x ∉ b.keys) ∧ ∀ x ∈ a.rd,x ∉ b.keys
theorem qgz {ms : List Nat} {j : Nat} {rd wr : List Nat} : ∀ {l : List (Nat × List Nat × List Nat)},q9f ms j rd wr l = true → ∀ e ∈ l,ordered ms e.1 j = true ∨ (uj e.2.2 rd = true ∧ uj e.2.2 wr = true ∧ uj e.2.1 wr = true)
 | [],_,e,he => by simp at he
 | (i,rdi,wri) :: r,h,e,he => by
  simp only [q9f,Bool.and_eq_true,Bool.or_eq_true] at h
  rcases List.mem_cons.1 he with rfl | he
  ·rcases h.1 with h1 | ⟨⟨h1,h2⟩,h3⟩
   ·exact .inl h1
   ·exact .inr ⟨h1,h2,h3⟩
  ·exact qgz h.2 e he
theorem qhd {ms : List Nat} : ∀ (cs : List Rc) (i : Nat) (log : List (Nat × List Nat × List Nat)),bz ms (q59 i cs log) = true →
  bz ms log = true ∧ ∀ (b : Nat) (cb : Rc),cs[b]? = some cb → cb.on = true →
   (∀ e ∈ log,ordered ms e.1 (i + b) = true ∨ (uj e.2.2 cb.rd = true ∧ uj e.2.2 cb.keys = true ∧ uj e.2.1 cb.keys = true)) ∧
   ∀ (a : Nat) (ca : Rc),a < b → cs[a]? = some ca → ca.on = true → ordered ms (i + a) (i + b) = true ∨ Apart ca cb
 | [],i,log,h => ⟨h,by simp⟩
 | c :: cs,i,log,h => by
  simp only [q59] at h
  obtain ⟨h1,h2⟩ := qhd cs (i + 1) _ h
  have hlog : bz ms log = true := by
   split at h1
   ·simp only [bz,Bool.and_eq_true] at h1
    exact h1.2
   ·exact h1
  refine ⟨hlog,fun b cb hb hon => ?_⟩
  cases b with
  | zero =>
   simp only [List.getElem?_cons_zero,Option.some.injEq] at hb
   subst hb
   rw [if_pos hon] at h1
   simp only [bz,Bool.and_eq_true] at h1
   exact ⟨fun e he => qgz h1.1 e he,fun a ca ha => by omega⟩
  | succ b =>
   simp only [List.getElem?_cons_succ] at hb
   obtain ⟨k1,k2⟩ := h2 b cb hb hon
   rw [show i + 1 + b = i + (b + 1) from by omega] at k1 k2
   refine ⟨fun e he => k1 e (by split <;> simp [he]),fun a ca ha hca hcon => ?_⟩
   cases a with
   | zero =>
    simp only [List.getElem?_cons_zero,Option.some.injEq] at hca
    subst hca
    rcases k1 (i,c.rd,c.keys) (by rw [if_pos hcon]; simp) with h | ⟨q1,q2,q3⟩
    ·exact .inl h
    ·exact .inr ⟨qaw q1,qaw q2,qaw q3⟩
   | succ a =>
    simp only [List.getElem?_cons_succ] at hca
    have := k2 a ca (by omega) hca hcon
    rwa [show i + 1 + a = i + (a + 1) from by omega] at this
theorem ziv {ms : List Nat} {o : Oper} {i : Nat} (h : (qaj ms o).testBit i = true) : ∃ e ∈ o.after,Region.binds .any e = true ∧ (i = e.on ∨ (ms.getD e.on 0).testBit i = true) := by
 have key : ∀ (l : List Edge) (m : Nat),(l.foldl (fun m e => if Region.binds .any e = true then m ||| (1 <<< e.on) ||| ms.getD e.on 0 else m) m).testBit i = true →
   m.testBit i = true ∨ ∃ e ∈ l,Region.binds .any e = true ∧ (i = e.on ∨ (ms.getD e.on 0).testBit i = true) := by
  intro l
  induction l with
  | nil => intro m h; exact .inl h
  | cons e l ih =>
   intro m h
   simp only [List.foldl_cons] at h
   rcases ih _ h with h | ⟨e',h1,h2,h3⟩
   ·split at h
    ·rename_i hb
     rw [Nat.testBit_or,Nat.testBit_or,Nat.one_shiftLeft,Nat.testBit_two_pow] at h
     simp only [Bool.or_eq_true,decide_eq_true_eq] at h
     rcases h with (h | h) | h
     ·exact .inl h
     ·exact .inr ⟨e,by simp,hb,.inl h.symm⟩
     ·exact .inr ⟨e,by simp,hb,.inr h⟩
    ·exact .inl h
   ·exact .inr ⟨e',by simp [h1],h2,h3⟩
 rcases key o.after.toList 0 h with h | ⟨e,h1,h2⟩
 ·simp at h
 ·exact ⟨e,by simpa using h1,h2⟩
theorem qb4 : ∀ (os : List Oper) (ms : List Nat) (k : Nat),k < ms.length → (kz ms os).getD k 0 = ms.getD k 0
 | [],ms,k,_ => rfl
 | o :: r,ms,k,h => by
  simp only [kz]
  rw [qb4 r _ k (by simp; omega)]
  simp [List.getElem?_append_left h]
theorem qis : ∀ (os : List Oper) (ms : List Nat) (j : Nat) (o : Oper),os[j]? = some o → ∃ ms' : List Nat,ms'.length = ms.length + j ∧ (kz ms os).getD (ms.length + j) 0 = qaj ms' o ∧
  ∀ k,k < ms.length + j → ms'.getD k 0 = (kz ms os).getD k 0
 | [],ms,j,o,h => by simp at h
 | o' :: r,ms,j,o,h => by
  simp only [kz]
  cases j with
  | zero =>
   simp only [List.getElem?_cons_zero,Option.some.injEq] at h
   subst h
   refine ⟨ms,by simp, ?_,fun k hk => ?_⟩
   ·rw [qb4 r _ _ (by simp)]
    simp
   ·rw [qb4 r _ k (by simp; omega)]
    simp at hk
    simp [List.getElem?_append_left hk]
  | succ j =>
   simp only [List.getElem?_cons_succ] at h
   obtain ⟨ms',h1,h2,h3⟩ := qis r (ms ++ [qaj ms o']) j o h
   simp only [List.length_append,List.length_singleton] at h1 h2 h3
   rw [show ms.length + 1 + j = ms.length + (j + 1) from by omega] at h1 h2 h3
   exact ⟨ms',h1,h2,h3⟩
def qda (os : List Oper) : Bool := os.zipIdx.all fun x => x.1.after.toList.all fun e => !Region.binds .any e || decide (e.on < x.2)
def qkf (os : List Oper) (ms : List Nat) : Bool := (List.range os.length).all fun j => (List.range j).all fun i => ordered ms i j || match os[i]?,os[j]? with
 | some x,some y => x.apart os.toArray y
 | _,_ => true
def q4m (os : List Oper) : Bool := qda os && qkf os (kz [] os)
theorem qfx {os : List Oper} (h : qda os = true) {j : Nat} {o : Oper} (ho : os[j]? = some o) {e : Edge} (he : e ∈ o.after) (hb : Region.binds .any e = true) : e.on < j := by
 have h1 := List.all_eq_true.1 h (o,j) (by rw [List.mem_zipIdx_iff_getElem?]; exact ho)
 have h2 := List.all_eq_true.1 h1 e (by simpa using he)
 simpa [hb] using h2
theorem apart_spec {os : List Oper} {ms : List Nat} (h : qkf os ms = true) {i j : Nat} {x y : Oper} (hij : i < j) (hx : os[i]? = some x) (hy : os[j]? = some y) : ordered ms i j = true ∨ x.apart os.toArray y = true := by
 have hj : j < os.length := (List.getElem?_eq_some_iff.1 hy).1
 have h1 := List.all_eq_true.1 (List.all_eq_true.1 h j (by simpa using hj)) i (by simpa using hij)
 simpa [hx,hy] using h1
def Closed (os : List Oper) (D : Nat → Bool) : Prop := ∀ j o,os[j]? = some o → D j = true → ∀ e ∈ o.after,Region.binds .any e = true → D e.on = true
theorem qk2 {os : List Oper} (hf : qda os = true) {D : Nat → Bool} (hD : Closed os D) : ∀ (j : Nat) (o : Oper),os[j]? = some o →
  (∀ e ∈ o.after,Region.binds .any e = true → D e.on = true) → ∀ i,ordered (kz [] os) i j = true → D i = true := by
 intro j
 induction j using Nat.strongRecOn with
 | _ j ih =>
  intro o ho hpre i hi
  obtain ⟨ms',h1,h2,h3⟩ := qis os [] j o ho
  simp only [List.length_nil,Nat.zero_add] at h1 h2 h3
  unfold ordered at hi
  rw [h2] at hi
  obtain ⟨e,e1,e2,e3⟩ := ziv hi
  have hlt := qfx hf ho e1 e2
  have hDe := hpre e e1 e2
  rcases e3 with rfl | e3
  ·exact hDe
  ·rw [h3 _ hlt] at e3
   have hel : e.on < os.length := Nat.lt_trans hlt (List.getElem?_eq_some_iff.1 ho).1
   exact ih e.on hlt os[e.on] (List.getElem?_eq_getElem hel) (fun e' he' hb' => hD e.on _ (List.getElem?_eq_getElem hel) hDe e' he' hb') i e3
def j5 : List Oper → List Rc → Nat → (Nat → Bool) → Env → Env
 | o :: os,c :: cs,i,D,E => j5 os cs (i + 1) D (if D i = true then xe o.dst c.v E else E)
 | _,_,_,_,E => E
def zt : List Rc → Nat → (Nat → Bool) → Heap → Heap
 | c :: cs,i,D,H => zt cs (i + 1) D (if D i = true then qo c.ws H else H)
 | [],_,_,H => H
theorem q6m {t : Nat} {D D' : Nat → Bool} : ∀ (os : List Oper) (cs : List Rc) (i : Nat) (E E' : Env),(∀ k o,os[k]? = some o → o.dst = some t → D (i + k) = D' (i + k)) → E.get t = E'.get t →
  (j5 os cs i D E).get t = (j5 os cs i D' E').get t
 | [],_,_,_,_,_,h => by simpa [j5] using h
 | _ :: _,[],_,_,_,_,h => by simpa [j5] using h
 | o :: os,c :: cs,i,E,E',hD,h => by
  simp only [j5]
  refine q6m os cs (i + 1) _ _ (fun k o' ho' hd' => ?_) ?_
  ·have := hD (k + 1) o' (by simpa using ho') hd'
   rwa [show i + 1 + k = i + (k + 1) from by omega]
  ·by_cases hd : o.dst = some t
   ·have := hD 0 o rfl hd
    simp only [Nat.add_zero] at this
    rw [this]
    split
    ·rw [q30,q30,if_pos hd,if_pos hd]
    ·exact h
   ·have e1 : (if D i = true then xe o.dst c.v E else E).get t = E.get t := by
     split
     ·rw [q30,if_neg hd]
     ·rfl
    have e2 : (if D' i = true then xe o.dst c.v E' else E').get t = E'.get t := by
     split
     ·rw [q30,if_neg hd]
     ·rfl
    rw [e1,e2,h]
theorem q8z : ∀ (os : List Oper) (cs : List Rc) (i : Nat) (D : Nat → Bool) (E : Env),(∀ k,i ≤ k → D k = false) → j5 os cs i D E = E
 | [],_,_,_,_,_ => rfl
 | _ :: _,[],_,_,_,_ => rfl
 | o :: os,c :: cs,i,D,E,h => by
  simp only [j5,h i (Nat.le_refl _),Bool.false_eq_true,if_false]
  exact q8z os cs (i + 1) D E fun k hk => h k (by omega)
theorem q2y : ∀ (cs : List Rc) (i : Nat) (D : Nat → Bool) (H : Heap),(∀ k,i ≤ k → D k = false) → zt cs i D H = H
 | [],_,_,_,_ => rfl
 | c :: cs,i,D,H,h => by
  simp only [zt,h i (Nat.le_refl _),Bool.false_eq_true,if_false]
  exact q2y cs (i + 1) D H fun k hk => h k (by omega)
theorem qi9 {t : Nat} {D : Nat → Bool} : ∀ (os : List Oper) (cs : List Rc) (i : Nat) (E : Env) (j : Nat) (o : Oper) (c : Rc),os[j]? = some o → cs[j]? = some c → o.dst = some t → D (i + j) = true →
  (∀ k o',j < k → os[k]? = some o' → o'.dst = some t → D (i + k) = false) → (j5 os cs i D E).get t = c.v
 | [],_,_,_,j,o,c,ho,_,_,_,_ => by simp at ho
 | _ :: _,[],_,_,j,o,c,_,hc,_,_,_ => by simp at hc
 | o' :: os,c' :: cs,i,E,j,o,c,ho,hc,hd,hD,hl => by
  simp only [j5]
  cases j with
  | zero =>
   simp only [List.getElem?_cons_zero,Option.some.injEq] at ho hc
   subst ho hc
   simp only [Nat.add_zero] at hD
   rw [hD]
   simp only [if_true]
   rw [q6m (D' := fun _ => false) os cs (i + 1) _ (xe o'.dst c'.v E) (fun k o2 h2 hd2 => ?_) rfl,q8z _ _ _ _ _ (fun _ _ => rfl),q30,if_pos hd]
   have := hl (k + 1) o2 (by omega) (by simpa using h2) hd2
   rwa [show i + 1 + k = i + (k + 1) from by omega]
  | succ j =>
   simp only [List.getElem?_cons_succ] at ho hc
   refine qi9 os cs (i + 1) _ j o c ho hc hd (by rwa [show i + 1 + j = i + (j + 1) from by omega]) fun k o2 hk h2 hd2 => ?_
   have := hl (k + 1) o2 (by omega) (by simpa using h2) hd2
   rwa [show i + 1 + k = i + (k + 1) from by omega]
theorem qdo : ∀ (ws : List (Nat × Blk)) (H H' : Heap) (γ : Nat),γ ∈ ws.map (·.1) → (qo ws H).get γ = (qo ws H').get γ
 | [],_,_,_,h => by simp at h
 | (i,b) :: r,H,H',γ,h => by
  simp only [qo]
  by_cases hr : γ ∈ r.map (·.1)
  ·exact qdo r _ _ γ hr
  ·have hi : γ = i := by
    simp only [List.map_cons,List.mem_cons] at h
    exact h.resolve_right hr
   have hne : ∀ x ∈ r,x.1 ≠ γ := fun x hx e => hr (by rw [← e]; exact List.mem_map.2 ⟨x,hx,rfl⟩)
   rw [nz r _ γ hne,nz r _ γ hne,Heap.get_put,Heap.get_put,if_pos hi,if_pos hi]
theorem z9b (ws : List (Nat × Blk)) {H H' : Heap} {γ : Nat} (h : H.get γ = H'.get γ) : (qo ws H).get γ = (qo ws H').get γ := by
 by_cases hr : γ ∈ ws.map (·.1)
 ·exact qdo ws H H' γ hr
 ·have hne : ∀ x ∈ ws,x.1 ≠ γ := fun x hx e => hr (by rw [← e]; exact List.mem_map.2 ⟨x,hx,rfl⟩)
  rw [nz ws _ γ hne,nz ws _ γ hne,h]
theorem q4t {γ : Nat} {D D' : Nat → Bool} : ∀ (cs : List Rc) (i : Nat) (H H' : Heap),(∀ k c,cs[k]? = some c → γ ∈ c.keys → D (i + k) = D' (i + k)) → H.get γ = H'.get γ →
  (zt cs i D H).get γ = (zt cs i D' H').get γ
 | [],_,_,_,_,h => by simpa [zt] using h
 | c :: cs,i,H,H',hD,h => by
  simp only [zt]
  refine q4t cs (i + 1) _ _ (fun k c' hc' hk' => ?_) ?_
  ·have := hD (k + 1) c' (by simpa using hc') hk'
   rwa [show i + 1 + k = i + (k + 1) from by omega]
  ·by_cases hd : γ ∈ c.keys
   ·have := hD 0 c rfl hd
    simp only [Nat.add_zero] at this
    rw [this]
    split
    ·exact z9b _ h
    ·exact h
   ·have hne : ∀ x ∈ c.ws,x.1 ≠ γ := fun x hx e => hd (by rw [← e]; exact List.mem_map.2 ⟨x,hx,rfl⟩)
    have e1 : (if D i = true then qo c.ws H else H).get γ = H.get γ := by
     split
     ·exact nz _ _ _ hne
     ·rfl
    have e2 : (if D' i = true then qo c.ws H' else H').get γ = H'.get γ := by
     split
     ·exact nz _ _ _ hne
     ·rfl
    rw [e1,e2,h]
theorem qfs {γ : Nat} {D : Nat → Bool} : ∀ (cs : List Rc) (i : Nat) (H : Heap) (j : Nat) (c : Rc),cs[j]? = some c → γ ∈ c.keys → D (i + j) = true →
  (∀ k c',j < k → cs[k]? = some c' → γ ∈ c'.keys → D (i + k) = false) → ∀ H',(zt cs i D H).get γ = (qo c.ws H').get γ
 | [],_,_,j,c,hc,_,_,_,_ => by simp at hc
 | c' :: cs,i,H,j,c,hc,hd,hD,hl,H' => by
  simp only [zt]
  cases j with
  | zero =>
   simp only [List.getElem?_cons_zero,Option.some.injEq] at hc
   subst hc
   simp only [Nat.add_zero] at hD
   rw [hD]
   simp only [if_true]
   rw [q4t (D' := fun _ => false) cs (i + 1) _ (qo c'.ws H) (fun k c2 h2 hd2 => ?_) rfl,q2y _ _ _ _ (fun _ _ => rfl)]
   ·exact qdo _ _ _ _ hd
   ·have := hl (k + 1) c2 (by omega) (by simpa using h2) hd2
    rwa [show i + 1 + k = i + (k + 1) from by omega]
  | succ j =>
   simp only [List.getElem?_cons_succ] at hc
   refine qfs cs (i + 1) _ j c hc hd (by rwa [show i + 1 + j = i + (j + 1) from by omega]) (fun k c2 hk h2 hd2 => ?_) H'
   have := hl (k + 1) c2 (by omega) (by simpa using h2) hd2
   rwa [show i + 1 + k = i + (k + 1) from by omega]
end Go.Gm
