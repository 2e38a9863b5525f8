/-
  The law FollowEcho, on plain data.
-/
import Derived.Test.YtkbgphcebakcnaaGreatEbb
set_option linter.unusedSimpArgs false
set_option linter.unusedVariables false
namespace Go.Proofs.YtkbgphcebakcnaaGreat
open Go Go.Gm
theorem zmr (now t s : Bytes) : (now ++ t ++ s).take (now.length + t.length) ++ ((now ++ t ++ s).take now.length).drop 0 ++ (now ++ t ++ s).drop (now.length + t.length + s.length) = now ++ t ++ now := by
 rw [List.take_left' (by simp),List.append_assoc now t s,List.take_left' rfl,List.drop_of_length_le (i := now.length + t.length + s.length) (by simp; omega)]
 simp
theorem qnq (now t s : Bytes) : (s ++ t ++ now).take 0 ++ ((s ++ t ++ now).take (s.length + t.length + now.length)).drop (s.length + t.length) ++ (s ++ t ++ now).drop s.length = now ++ t ++ now := by
 rw [List.take_of_length_le (i := s.length + t.length + now.length) (by simp; omega),List.drop_left' (by simp),List.append_assoc s t now,List.drop_left' rfl]
 simp
theorem qhx (w : Bytes) (sl : Sl T.Sel) (l : T.qf) : q5s ⟨w,sl,⟨false,[l]⟩⟩ = some l := by
 unfold q5s
 rw [if_neg (by simp),g0]
 rfl
theorem zow (s t : Bytes) (frm many : Int) (text : Bytes) (second : Bool) : q9t s t frm many text second = some true := by
 unfold q9t
 by_cases h : (s.length : Int) > 30 ∨ (t.length : Int) > 30 ∨ (text.length : Int) > 30 ∨ (t.length : Int) = 0
 ·rw [if_pos (by simpa using h)]
  rfl
 rw [if_neg (by simpa using h)]
 rw [not_or,not_or,not_or] at h
 obtain ⟨hs,ht,hx,h0⟩ := h
 rw [zi (n := (s.length : Int) + 1) (by omega) (by omega)]
 obtain ⟨v,hv,hv0,hv1⟩ := qhl frm ((s.length : Int) + 1) (by omega) (by omega)
 simp only [Option.bind_eq_bind,hv,bnd]
 rw [zi (n := (s.length : Int) - v) (by omega) (by omega),zi (n := (s.length : Int) - v + 1) (by omega) (by omega)]
 obtain ⟨m,hm,hm0,hm1⟩ := qhl many ((s.length : Int) - v + 1) (by omega) (by omega)
 simp only [hm,bnd]
 obtain ⟨r1,p1,p2,p3⟩ := Tot.ku (l := s) (hi := v) (by omega) (by omega)
 obtain ⟨r2,q1,q2,q3⟩ := Tot.jv (l := s) (lo := v + m) (by omega) (by omega)
 rw [p1]
 simp only [bnd]
 rw [if_pos (by omega),zi (n := v + m) (by omega) (by omega),q1]
 simp only [bnd]
 rw [if_pos (by simp only [List.length_append]; omega)]
 obtain ⟨now,hnow⟩ : ∃ now,r1 ++ text ++ r2 = now := ⟨_,rfl⟩
 have hl : (now.length : Int) = s.length + text.length - m := by rw [← hnow]; simp only [List.length_append]; omega
 have hS : ((s ++ t ++ s).length : Int) = s.length + t.length + s.length := by simp only [List.length_append]; omega
 rw [hnow,qej s t (by omega) (by omega),qej now t (by omega) (by omega)]
 rw [zi (n := (s.length : Int) + t.length) (by omega) (by omega)]
 cases second
 ·rw [if_neg (by simp)]
  rw [show IntKind.i64.wrap (0 + v) = v from by rw [zi (by omega) (by omega)]; omega,show IntKind.i64.wrap (0 + (v + m)) = v + m from by rw [zi (by omega) (by omega)]; omega]
  simp only [bnd]
  obtain ⟨sl,hd⟩ := do0 (q := s.length + (s.length + t.length)) (a := 0) (b := s.length) (c := s.length + t.length) (d := s.length + t.length + s.length) (s ++ t ++ s) text v (v + m) (by omega) (by omega) (by omega) (by omega)
  have e1 : (s ++ t ++ s).take v.toNat ++ text ++ (s ++ t ++ s).drop (v + m).toNat = now ++ t ++ s := by
   rw [List.append_assoc s t s,List.take_append_of_le_length (by omega),List.drop_append_of_le_length (by omega),← hnow,p2,q2]
   simp
  rw [e1] at hd
  have e2 := zmr now t s
  rw [show ((s.length : Int) + t.length + text.length - (v + m - v)).toNat = now.length + t.length from by omega,show ((s.length : Int) + text.length - (v + m - v)).toNat = now.length from by omega,show ((s.length : Int) + t.length + s.length + text.length - (v + m - v)).toNat = now.length + t.length + s.length from by omega,show (0 : Int).toNat = 0 from rfl,e2] at hd
  rw [show (s.length : Int) + (s.length + t.length) + text.length - (v + m - v) + (s.length + text.length - (v + m - v) - 0) - (s.length + t.length + s.length - (s.length + t.length)) = now.length + (now.length + t.length) from by omega,
   show (s.length : Int) + t.length + text.length - (v + m - v) + (s.length + text.length - (v + m - v) - 0) = now.length + t.length + now.length from by omega,
   show (s.length : Int) + text.length - (v + m - v) = now.length from by omega,show (s.length : Int) + t.length + text.length - (v + m - v) = now.length + t.length from by omega] at hd
  rw [hd]
  simp only [bnd]
  rw [if_pos (by simp),if_pos (by omega),if_pos (by simp only [List.length_append]; omega),if_pos (by simp),qhx]
  simp only [bnd]
  rw [g0]
  simp only [bnd,qk5]
  rfl
 ·rw [if_pos rfl]
  rw [zi (n := (s.length : Int) + t.length + v) (by omega) (by omega),zi (n := (s.length : Int) + t.length + (v + m)) (by omega) (by omega)]
  simp only [bnd]
  obtain ⟨sl,hd⟩ := do1 (q := s.length + (s.length + t.length)) (a := 0) (b := s.length) (c := s.length + t.length) (d := s.length + t.length + s.length) (s ++ t ++ s) text (s.length + t.length + v) (s.length + t.length + (v + m)) (by omega) (by omega) (by omega) (by omega)
  have e1 : (s ++ t ++ s).take ((s.length : Int) + t.length + v).toNat ++ text ++ (s ++ t ++ s).drop ((s.length : Int) + t.length + (v + m)).toNat = s ++ t ++ now := by
   rw [show ((s.length : Int) + t.length + v).toNat = (s ++ t).length + v.toNat from by simp only [List.length_append]; omega,show ((s.length : Int) + t.length + (v + m)).toNat = (s ++ t).length + (v + m).toNat from by simp only [List.length_append]; omega,zk7,qob,← hnow,p2,q2]
   simp
  rw [e1] at hd
  have e2 := qnq now t s
  rw [show ((s.length : Int) + t.length + s.length + text.length - (s.length + t.length + (v + m) - (s.length + t.length + v))).toNat = s.length + t.length + now.length from by omega,show ((s.length : Int) + t.length).toNat = s.length + t.length from by omega,show ((s.length : Int)).toNat = s.length from by omega,show (0 : Int).toNat = 0 from rfl,e2] at hd
  rw [show (s.length : Int) + (s.length + t.length) + text.length - (s.length + t.length + (v + m) - (s.length + t.length + v)) + (s.length + t.length + s.length + text.length - (s.length + t.length + (v + m) - (s.length + t.length + v)) - (s.length + t.length)) - (s.length - 0) = now.length + (now.length + t.length) from by omega,
   show (0 : Int) + (s.length + t.length + s.length + text.length - (s.length + t.length + (v + m) - (s.length + t.length + v)) - (s.length + t.length)) = now.length from by omega,
   show (s.length : Int) + t.length + (s.length + t.length + s.length + text.length - (s.length + t.length + (v + m) - (s.length + t.length + v)) - (s.length + t.length)) - (s.length - 0) = now.length + t.length from by omega,
   show (s.length : Int) + t.length + s.length + text.length - (s.length + t.length + (v + m) - (s.length + t.length + v)) + (s.length + t.length + s.length + text.length - (s.length + t.length + (v + m) - (s.length + t.length + v)) - (s.length + t.length)) - (s.length - 0) = now.length + t.length + now.length from by omega] at hd
  rw [hd]
  simp only [bnd]
  rw [if_pos (by simp),if_pos (by omega),if_pos (by simp only [List.length_append]; omega),if_pos (by simp),qhx]
  simp only [bnd]
  rw [g0]
  simp only [bnd,qk5]
  rfl
end Go.Proofs.YtkbgphcebakcnaaGreat
