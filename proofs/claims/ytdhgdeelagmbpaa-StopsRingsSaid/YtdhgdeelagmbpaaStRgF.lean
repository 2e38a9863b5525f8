/-
  The law StopsRings, on plain data.
-/
import Derived.Test.YtdhgdeelagmbpaaStRgE
set_option linter.unusedSimpArgs false
set_option linter.unusedVariables false
namespace Go.Proofs.Ytdhgdeelagmbpaa
open Go Go.Gm

theorem pick_mem {K : List Int} (h : K ≠ []) (p : Int → Bool) : pickN K p ∈ K := by
  unfold pickN
  cases hf : K.find? p with
  | some x => exact List.mem_of_find?_eq_some hf
  | none => cases K with
    | nil => exact absurd rfl h
    | cons a r => exact List.mem_cons_self

theorem prog_next (K : List Int) (m : MapII) (hK : K ≠ []) (hl : K.length < 1000) : ∃ v9, slices_IndexFunc_Lint_stops_Order_1 ⟨K.isEmpty, K⟩ m = some v9 ∧ geti K (if v9 > (0 : Int) then v9 else (0 : Int)) = some (pickN K fun n => mget m n == 0) := by
  unfold slices_IndexFunc_Lint_stops_Order_1
  have h := idx_L0 ⟨K.isEmpty, K⟩ m hl K.length 0 (by simp)
  simp only [Int.natCast_zero, List.drop_zero] at h
  rcases h with ⟨j, x, h1, h2, h3⟩ | ⟨h1, h2⟩
  · refine ⟨(j : Int), by simp [h1], ?_⟩
    have e : (if (j : Int) > 0 then (j : Int) else 0) = (j : Int) := by split <;> omega
    rw [e]
    unfold pickN
    rw [h3]
    simpa [geti] using h2
  · refine ⟨-1, by simp [h1], ?_⟩
    unfold pickN
    rw [h2]
    cases K with
    | nil => exact absurd rfl hK
    | cons a r => rfl

theorem waits_free (l : List T.Stop) (told : List Int) (hold : MapII) (B : Nat) (h : Lft hold (Waits l (fun x => x ∈ l.map (·.n) ∧ x ∉ told) l.length) B) : (fun n => mget hold n == 0) = frB l told := by
  funext n
  rw [Bool.eq_iff_iff, beq_iff_eq, (h.get n).2.2]
  simp only [frB, decide_eq_true_eq]
  constructor
  · intro hn a x b y h1 h2 h3 h4 h5 h6
    exact hn ⟨a, x, b, y, (List.getElem?_eq_some_iff.1 h1).1, h1, ⟨List.mem_map.2 ⟨x, List.mem_of_getElem? h1, rfl⟩, h3⟩, h6, h4, h5, fun e => h2 e.symm⟩
  · rintro hn ⟨a, x, b, y, _, h1, ⟨_, h3⟩, h6, h4, h5, h2⟩
    exact hn a x b y h1 (fun e => h2 e.symm) h3 h4 h5 h6

theorem order_loops (i : T.Inst) (hl : i.stops.l.length ≤ 12) (hn : ∀ x ∈ i.stops.l.map (·.n), inI x) (A : Sl Int) (hA : Rise A.l) (hAm : ∀ x, x ∈ A.l ↔ x ∈ i.stops.l.map (·.n)) (hAl : A.l.length ≤ 12) :
    ∀ (d : Nat) (left : MapII) (out : List Int), Lft left (fun x => x ∈ i.stops.l.map (·.n) ∧ x ∉ out) 12 → (A.l.filter fun x => decide (x ∉ out)).length = d → out.length + d = A.l.length →
    ∃ m r, stops_Order_L2 (i, left, out) = some (m, r) ∧ ref26_Order_L2 (A, i, out) = some r ∧ r.length ≤ 12 := by
  intro d
  induction d with
  | zero =>
    intro left out h hd ho
    have hK : A.l.filter (fun x => decide (x ∉ out)) = [] := List.length_eq_zero_iff.1 hd
    have he : left.es = [] := by
      cases hc : left.es with
      | nil => rfl
      | cons e r =>
        have : e.1 ∈ keysL left := by simp [keysL, hc]
        have h2 := (h.keys _).1 this
        have : e.1 ∈ A.l.filter (fun x => decide (x ∉ out)) := List.mem_filter.2 ⟨(hAm _).2 h2.1, by simpa using h2.2⟩
        rw [hK] at this
        simp at this
    refine ⟨left, out, ?_, ?_, by omega⟩
    · rw [stops_Order_L2.eq_1, if_neg (by simp [he])]
    · rw [ref26_Order_L2.eq_1, if_neg (by simp; omega)]
  | succ d ih =>
    intro left out h hd ho
    generalize hKe : A.l.filter (fun x => decide (x ∉ out)) = K at hd
    have hKm : ∀ x, x ∈ K ↔ x ∈ i.stops.l.map (·.n) ∧ x ∉ out := fun x => by rw [← hKe, List.mem_filter, hAm]; simp
    have hKr : Rise K := by rw [← hKe]; exact List.Pairwise.filter _ hA
    have hKnd : K.Nodup := hKr.imp fun h => by omega
    have hKne : K ≠ [] := fun e => by rw [e] at hd; simp at hd
    have hsk : sortedKeys left = some K := by
      rw [sortedKeys_some h.ok (fun k hk => hn k ((h.keys k).1 hk).1) (by have := h.len; omega)]
      congr 1
      refine rise_ext (sortI_rise h.ok.kn) hKr fun x => ?_
      rw [hKm, ← h.keys]
      exact (sortI_perm _).mem_iff
    have hes : 0 < left.es.length := by
      cases hc : left.es with
      | cons => simp
      | nil =>
        obtain ⟨x, hx⟩ := List.exists_mem_of_ne_nil _ hKne
        have := (h.keys x).2 ((hKm x).1 hx)
        simp [keysL, hc] at this
    obtain ⟨hold, hw1, hw2⟩ := waits_ok i hl left _ 12 h
    obtain ⟨v9, h9, h10⟩ := prog_next K hold hKne (by omega)
    rw [waits_free _ out hold _ hw2] at h10
    have hr := ref_next A i out (by omega) hl (by omega)
    rw [hKe] at hr
    have hxm := pick_mem hKne (frB i.stops.l out)
    generalize pickN K (frB i.stops.l out) = x at h10 hr hxm
    have hroom : roomOK (out.length + 1) 8 = true := room_ok (by omega) (by omega)
    have hdel := mdel_ok h.ok x
    have hL : Lft (mdel left x) (fun y => y ∈ i.stops.l.map (·.n) ∧ y ∉ out ++ [x]) 12 := by
      refine ⟨hdel.1, fun y => ?_, fun e he => h.pos e (mdel_mem he), by have := h.len; omega⟩
      rw [hdel.2.1, h.keys]
      simp [and_assoc]
    have hK2 : (A.l.filter fun y => decide (y ∉ out ++ [x])).length = d := by
      have : A.l.filter (fun y => decide (y ∉ out ++ [x])) = K.erase x := by
        rw [hKnd.erase_eq_filter, ← hKe, List.filter_filter]
        congr 1
        funext y
        by_cases h1 : y ∈ out <;> by_cases h2 : y = x <;> simp [h1, h2]
      rw [this, List.length_erase_of_mem hxm]
      omega
    obtain ⟨m, r, g1, g2, g3⟩ := ih (mdel left x) (out ++ [x]) hL hK2 (by simp; omega)
    refine ⟨m, r, ?_, ?_, g3⟩
    · rw [stops_Order_L2.eq_1, if_pos (by simpa using hes)]
      simp only [maps_Keys_map_int_int, hsk, hw1, h9, h10, Option.bind_eq_bind, Option.bind_some, hroom, if_true]
      exact g1
    · rw [ref26_Order_L2.eq_1, if_pos (by simp; omega)]
      rw [Option.bind_eq_some_iff] at hr
      obtain ⟨v3, q1, q2⟩ := hr
      simp only [q1, q2, Option.bind_eq_bind, Option.bind_some, hroom, if_true]
      exact g2

theorem law_StopsRings (ups ns : Sl Int) : law26_StopsRings ups ns = some true := by
  unfold law26_StopsRings
  by_cases hc : ups.l.length > 12
  · rw [if_pos (by simp; omega)]
    rfl
  · rw [if_neg (by simp; omega)]
    obtain ⟨l, h1, hM, hl⟩ := rings_L0 ups ns (by omega) ups.l.length 0 [] (by omega) rfl (fun k x h => by simp at h)
    simp only [Int.natCast_zero] at h1
    simp only [h1, Option.bind_eq_bind, Option.bind_some]
    generalize hi : T.Inst.mk (T.Span.mk 1 1) ⟨l.isEmpty, l⟩ = i
    have hs : i.span = ⟨1, 1⟩ := by rw [← hi]
    have hsl : i.stops.l = l := by rw [← hi]
    rw [← hsl] at hM hl
    have hin : ∀ x ∈ i.stops.l.map (·.n), inI x := by
      intro x hx
      obtain ⟨y, hy, rfl⟩ := List.mem_map.1 hx
      obtain ⟨k, hk⟩ := List.mem_iff_getElem?.1 hy
      have := hM k y hk
      have h2 := this.lo
      have h3 := this.hi
      unfold inI
      omega
    obtain ⟨m, p1, p2⟩ := order_L0 i hl i.stops.l.length 0 ⟨[], 0⟩ (by omega) (lft_congr (lft_nil _) fun q => by simp)
    obtain ⟨A, q1, q2, q3, q4⟩ := ref_L0 i hl i.stops.l.length 0 ⟨true, []⟩ (by omega) List.Pairwise.nil (fun x => by simp) (by simp)
    simp only [Int.natCast_zero] at p1 q1
    obtain ⟨m2, r, g1, g2, g3⟩ := order_loops i hl hin A q2 q3 q4 A.l.length m [] (lft_congr p2 fun q => by simp) (by simp) (by simp)
    have ho : stops_Order i = some ⟨r.isEmpty, r⟩ := by unfold stops_Order; simp [p1, g1]
    have hro : ref26_Order i = some ⟨r.isEmpty, r⟩ := by unfold ref26_Order; simp [q1, g2]
    simp only [may_made i hs hM hl, ho, hro, Option.bind_some, if_true, ints_same ⟨r.isEmpty, r⟩ ⟨r.isEmpty, r⟩ rfl (by simp; omega)]
    rfl
end Go.Proofs.Ytdhgdeelagmbpaa
