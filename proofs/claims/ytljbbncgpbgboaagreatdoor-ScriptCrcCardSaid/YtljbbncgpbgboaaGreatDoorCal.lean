/-
  The law ScriptCrc, on plain data.
-/
import Derived.Test.YtljbbncgpbgboaaGreatDoorCah
set_option linter.unusedSimpArgs false
set_option linter.unusedVariables false
namespace Go.Proofs.YtljbbncgpbgboaaGreatDoor
open Go Go.Gm
def crc (n : Int) : Bytes → Int
 | [] => n
 | b :: r => crc ((n * 31 + (b.toNat : Int)) % 1000003) r
theorem qgw (n : Int) : ∀ (s t : Bytes),crc n (s ++ t) = crc (crc n s) t := by
 intro s
 induction s generalizing n with
 | nil => intro t; rfl
 | cons b r ih => intro t; exact ih _ t
theorem step_eq (n : Int) (b : UInt8) (h0 : 0 ≤ n) (h1 : n < 1000003) :
  (IntKind.i64.wrap ((IntKind.i64.wrap (n * (31 : Int))) + (IntKind.i64.wrap (b.toNat : Int)))).tmod (1000003 : Int) = (n * 31 + (b.toNat : Int)) % 1000003 := by
 have hb : b.toNat < 256 := b.toNat_lt
 rw [q1p (n := n * 31) (by omega) (by omega),q1p (n := (b.toNat : Int)) (by omega) (by omega),q1p (n := n * 31 + (b.toNat : Int)) (by omega) (by omega)]
 exact Int.tmod_eq_emod_of_nonneg (by omega)
theorem q02 (n : Int) (b : UInt8) (h0 : 0 ≤ n) : 0 ≤ (n * 31 + (b.toNat : Int)) % 1000003 ∧ (n * 31 + (b.toNat : Int)) % 1000003 < 1000003 := by omega
theorem q96 : ∀ (s : Bytes) (n : Int),0 ≤ n → n < 1000003 → 0 ≤ crc n s ∧ crc n s < 1000003
 | [],n,h0,h1 => ⟨h0,h1⟩
 | b :: r,n,h0,h1 => q96 r _ (q02 n b h0).1 (q02 n b h0).2
theorem q4v {α : Type} {s : List α} {k : Nat} {b : α} {r : List α} (h : s.drop k = b :: r) : wz s (k : Int) = some b ∧ k < s.length ∧ s.drop (k + 1) = r := by
 have hk : k < s.length := by
  rcases Nat.lt_or_ge k s.length with h1 | h1
  ·exact h1
  ·rw [List.drop_eq_nil_of_le h1] at h; cases h
 rw [List.drop_eq_getElem_cons hk] at h
 cases h
 exact ⟨by unfold wz; simp [hk],hk,rfl⟩
theorem q7y (s : Bytes) (hs : s.length ≤ 1000) : ∀ (r : Bytes) (k : Nat) (n : Int),s.drop k = r → k ≤ s.length → 0 ≤ n → n < 1000003 → mr (s,n,(k : Int)) = some (crc n r)
 | [],k,n,hr,hk,h0,h1 => by
  have : s.length ≤ k := by
   have := congrArg List.length hr
   simp at this
   omega
  rw [mr.eq_1]
  rw [if_neg (by simp; omega)]
  rfl
 | b :: r,k,n,hr,hk,h0,h1 => by
  obtain ⟨g1,g2,g3⟩ := q4v hr
  rw [mr.eq_1]
  rw [if_pos (by simp; omega),g1]
  simp only [Option.bind_eq_bind,Option.bind_some]
  rw [Int.mul_comm 31 n,step_eq n b h0 h1,q1p (n := (k : Int) + 1) (by omega) (by omega)]
  exact q7y s hs r (k + 1) _ g3 (by omega) (q02 n b h0).1 (q02 n b h0).2
theorem q7q (s : Bytes) (hs : s.length ≤ 1000) : ∀ (r : Bytes) (k : Nat) (n : Int),s.drop k = r → k ≤ s.length → 0 ≤ n → n < 1000003 → q0a (s,n,(k : Int)) = some (crc n r)
 | [],k,n,hr,hk,h0,h1 => by
  have : s.length ≤ k := by
   have := congrArg List.length hr
   simp at this
   omega
  rw [q0a.eq_1]
  rw [if_neg (by simp; omega)]
  rfl
 | b :: r,k,n,hr,hk,h0,h1 => by
  obtain ⟨g1,g2,g3⟩ := q4v hr
  rw [q0a.eq_1]
  rw [if_pos (by simp; omega),g1]
  simp only [Option.bind_eq_bind,Option.bind_some]
  rw [step_eq n b h0 h1,q1p (n := (k : Int) + 1) (by omega) (by omega)]
  exact q7q s hs r (k + 1) _ g3 (by omega) (q02 n b h0).1 (q02 n b h0).2
theorem q9i (s t : Bytes) (hs : t.length ≤ 1000) : ∀ (r : Bytes) (k : Nat) (n : Int),t.drop k = r → k ≤ t.length → 0 ≤ n → n < 1000003 → q09 (s,t,n,(k : Int)) = some (crc n r)
 | [],k,n,hr,hk,h0,h1 => by
  have : t.length ≤ k := by
   have := congrArg List.length hr
   simp at this
   omega
  rw [q09.eq_1]
  rw [if_neg (by simp; omega)]
  rfl
 | b :: r,k,n,hr,hk,h0,h1 => by
  obtain ⟨g1,g2,g3⟩ := q4v hr
  rw [q09.eq_1]
  rw [if_pos (by simp; omega),g1]
  simp only [Option.bind_eq_bind,Option.bind_some]
  rw [step_eq n b h0 h1,q1p (n := (k : Int) + 1) (by omega) (by omega)]
  exact q9i s t hs r (k + 1) _ g3 (by omega) (q02 n b h0).1 (q02 n b h0).2
theorem q8z (s : Bytes) (hs : s.length ≤ 1000) : q1v s = some (crc 0 s) := by
 unfold q1v
 have := q7y s hs s 0 0 rfl (by omega) (by omega) (by omega)
 rw [Int.natCast_zero] at this
 rw [this]
 rfl
theorem z1c (s : Bytes) (hs : s.length ≤ 1000) : q2i s = some (crc 0 s) := by
 unfold q2i
 have := q7q s hs s 0 0 rfl (by omega) (by omega) (by omega)
 rw [Int.natCast_zero] at this
 rw [this]
 rfl
theorem qgn (s t : Bytes) : q2w s t = some true := by
 unfold q2w
 split
 ·rfl
 ·rename_i h
  simp only [Bool.or_eq_true,decide_eq_true_eq,not_or,Int.not_lt,gt_iff_lt] at h
  obtain ⟨h1,h2⟩ := h
  have hs : s.length ≤ 100 := by omega
  have ht : t.length ≤ 100 := by omega
  have hc := q96 s 0 (by omega) (by omega)
  have hl := q9i s t (by omega) t 0 (crc 0 s) rfl (by omega) hc.1 hc.2
  rw [Int.natCast_zero] at hl
  rw [q8z s (by omega),q8z (s ++ t) (by simp; omega),z1c s (by omega)]
  simp only [Option.bind_eq_bind,Option.bind_some]
  rw [hl]
  simp only [Option.bind_some,qgw,beq_self_eq_true,if_true]
  rw [if_pos (by omega)]
  rfl
end Go.Proofs.YtljbbncgpbgboaaGreatDoor
