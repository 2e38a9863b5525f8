/-
  Scripts: the document's line.
-/
import Derived.Test.YtlapkkdodjhgpaaGreatDoorTaq
set_option linter.unusedSimpArgs false
set_option linter.unusedVariables false
namespace Go.Proofs.YtlapkkdodjhgpaaGreatDoor
open Go Go.Gm
def RL (b : Bytes) (g : Bool) (x : Option (Bytes × Bool)) : Prop := (g = true → x = some (b ++ [10],true)) ∧ (g = false → ∃ r,x = some (r,false))
theorem RL.of {b : Bytes} {g : Bool} {c d : Bool} (h : g = (c && d)) : RL b g (if c = true then some (b ++ [10],d) else some (b ++ [10],false)) := by
 subst h
 cases c <;> cases d <;> simp [RL]
theorem RL.no {b r : Bytes} {g : Bool} (h : g = false) : RL b g (some (r,false)) := by
 subst h
 exact ⟨fun h => (by cases h),fun _ => ⟨r,rfl⟩⟩
theorem qjl (o : T.Op) (h : q05 o) : RL (za o) (zt o) (q53 o) := by
 obtain ⟨f1,f2,f3,f4,f5,f6,f7⟩ := h
 have lt := tu f3
 have ln := tu f2
 have lm := xq f1
 have lm' : (iT o.n).length + 1 = (zg o.n).length := by simp [zg]
 unfold q53 q76
 simp only [Option.bind_eq_bind,Option.bind_some]
 by_cases hk : o.kind < 1 ∨ 13 < o.kind
 ·rw [if_pos (by simpa using hk)]
  refine RL.no ?_
  unfold zt
  rcases hk with hk | hk
  ·have : ¬ 1 ≤ o.kind := by omega
   simp [this]
  ·have : ¬ o.kind ≤ 13 := by omega
   simp [this]
 rw [if_neg (by simpa using hk),q4w]
 simp only [Option.bind_some]
 by_cases hs : zq o.n = true
 rotate_left
 ·rw [if_pos (by simp [hs])]
  refine RL.no ?_
  unfold zt
  simp [hs]
 rw [if_neg (by simp [hs])]
 have hs1 : -9223372036854775808 < o.n := by unfold zq at hs; simp at hs; omega
 by_cases k1 : o.kind = 1
 ·rw [k1]
  rw [show ∀ l : List Bytes,qi l 1 = l[1]? from fun l => rfl]
  simp only [List.getElem?_cons_succ,List.getElem?_cons_zero,Option.bind_some]
  rw [if_pos (by simp),q6e f2]
  simp only [Option.bind_some]
  rw [if_pos (by simp only [List.length_cons,List.length_nil]; omega),q6e f3]
  simp only [Option.bind_some]
  rw [if_pos (by simp only [List.length_append,List.length_cons,List.length_nil]; omega),if_pos (by simp only [List.length_append,List.length_cons,List.length_nil]; omega)]
  have e : za o = [115,101,116] ++ wh o.name ++ wh o.text := by simp [za,k1]
  rw [e]
  refine RL.of ?_
  unfold zt
  rw [Bool.eq_iff_iff]
  simp [k1,hs,jw,and_assoc]
 by_cases k2 : o.kind = 2 ∨ o.kind = 7
 ·have hg : ∃ nm : Bytes,qi [([] : Bytes),([115,101,116] : Bytes),([116,121,112,101] : Bytes),([101,114,97,115,101] : Bytes),([101,100,105,116] : Bytes),([115,101,108,101,99,116] : Bytes),([109,111,118,101] : Bytes),([105,110,115,101,114,116] : Bytes),([110,101,120,116] : Bytes),([112,114,101,118] : Bytes),([108,101,97,118,101] : Bytes),([99,104,111,111,115,101] : Bytes),([117,110,100,111] : Bytes),([114,101,100,111] : Bytes)] o.kind = some nm ∧ nm.length ≤ 10 ∧ za o = nm ++ wh o.text := by
   rcases k2 with k2 | k2
   ·exact ⟨[116,121,112,101],by rw [k2]; rfl,by decide,by simp [za,k2]⟩
   ·exact ⟨[105,110,115,101,114,116],by rw [k2]; rfl,by decide,by simp [za,k2]⟩
  obtain ⟨nm,g1,g2,g3⟩ := hg
  rw [g1]
  simp only [Option.bind_some]
  rw [if_neg (by simpa using k1),if_pos (by simpa using k2),q6e f3]
  simp only [Option.bind_some]
  rw [if_pos (by omega),if_pos (by simp only [List.length_append,List.length_cons,List.length_nil]; omega),g3]
  refine RL.of ?_
  unfold zt
  rw [Bool.eq_iff_iff]
  rcases k2 with k2 | k2 <;> simp [k2,hs,jw,and_assoc]
 by_cases k3 : o.kind = 3 ∨ o.kind = 11
 ·have hg : ∃ nm : Bytes,qi [([] : Bytes),([115,101,116] : Bytes),([116,121,112,101] : Bytes),([101,114,97,115,101] : Bytes),([101,100,105,116] : Bytes),([115,101,108,101,99,116] : Bytes),([109,111,118,101] : Bytes),([105,110,115,101,114,116] : Bytes),([110,101,120,116] : Bytes),([112,114,101,118] : Bytes),([108,101,97,118,101] : Bytes),([99,104,111,111,115,101] : Bytes),([117,110,100,111] : Bytes),([114,101,100,111] : Bytes)] o.kind = some nm ∧ nm.length ≤ 10 ∧ za o = (nm ++ [32]) ++ iT o.n := by
   rcases k3 with k3 | k3
   ·exact ⟨[101,114,97,115,101],by rw [k3]; rfl,by decide,by simp [za,k3,zg]⟩
   ·exact ⟨[99,104,111,111,115,101],by rw [k3]; rfl,by decide,by simp [za,k3,zg]⟩
  obtain ⟨nm,g1,g2,g3⟩ := hg
  rw [g1]
  simp only [Option.bind_some]
  rw [if_neg (by simpa using k1),if_neg (by simpa using k2),if_pos (by simpa using k3),if_pos (by simp only [List.length_cons,List.length_nil]; omega),q47 f1 hs1]
  simp only [Option.bind_some]
  rw [if_pos (by simp only [List.length_append,List.length_cons,List.length_nil]; omega),if_pos (by simp only [List.length_append,List.length_cons,List.length_nil]; omega),g3]
  refine RL.of ?_
  unfold zt
  rw [Bool.eq_iff_iff]
  rcases k3 with k3 | k3 <;> simp [k3,hs,jw,and_assoc]
 by_cases k6 : o.kind = 6
 ·rw [k6]
  rw [show ∀ l : List Bytes,qi l 6 = l[6]? from fun l => rfl]
  simp only [List.getElem?_cons_succ,List.getElem?_cons_zero,Option.bind_some]
  rw [if_neg (by simp),if_neg (by simp),if_neg (by simp),if_pos (by simp),if_pos (by simp),q47 f1 hs1]
  simp only [Option.bind_some]
  rw [if_pos (by simp only [List.length_append,List.length_cons,List.length_nil]; omega),if_pos (by simp only [List.length_append,List.length_cons,List.length_nil]; omega)]
  cases hx : o.extend with
  | true =>
   rw [if_pos rfl]
   have hsub : yl ((([109,111,118,101] ++ [32]) ++ iT o.n) ++ [32,48]) (IntKind.i64.wrap (((((([109,111,118,101] ++ [32]) ++ iT o.n) ++ [32,48] : Bytes)).length : Int) - (1 : Int))) = some ((([109,111,118,101] ++ [32]) ++ iT o.n) ++ [32]) := by
    have hl : ((([109,111,118,101] ++ [32]) ++ iT o.n ++ [32,48] : Bytes)).length = (iT o.n).length + 7 := by simp
    rw [hl,jh]
    unfold yl
    rw [if_pos ⟨by omega,by rw [hl]; omega⟩]
    congr 1
    rw [show ((((iT o.n).length + 7 : Nat) : Int) - 1).toNat = (([109,111,118,101] ++ [32]) ++ iT o.n ++ [32] : Bytes).length by simp; omega]
    rw [show (([109,111,118,101] ++ [32]) ++ iT o.n ++ [32,48] : Bytes) = (([109,111,118,101] ++ [32]) ++ iT o.n ++ [32]) ++ [48] by simp]
    exact List.take_left
   rw [hsub]
   simp only [Option.bind_some]
   rw [if_pos (by simp only [List.length_append,List.length_cons,List.length_nil]; omega),if_pos (by simp only [List.length_append,List.length_cons,List.length_nil]; omega)]
   have e : za o = (([109,111,118,101] ++ [32]) ++ iT o.n ++ [32]) ++ [49] := by simp [za,k6,hx,zg]
   rw [e]
   refine RL.of ?_
   unfold zt
   rw [Bool.eq_iff_iff]
   simp [k6,hs,hx,jw,and_assoc]
  | false =>
   rw [if_neg (by simp),if_pos (by simp only [List.length_append,List.length_cons,List.length_nil]; omega)]
   have e : za o = (([109,111,118,101] ++ [32]) ++ iT o.n) ++ [32,48] := by simp [za,k6,hx,zg]
   rw [e]
   refine RL.of ?_
   unfold zt
   rw [Bool.eq_iff_iff]
   simp [k6,hs,hx,jw,and_assoc]
 by_cases k4 : o.kind = 4
 ·rw [k4]
  rw [show ∀ l : List Bytes,qi l 4 = l[4]? from fun l => rfl]
  simp only [List.getElem?_cons_succ,List.getElem?_cons_zero,Option.bind_some]
  rw [if_neg (by simp),if_neg (by simp),if_neg (by simp),if_neg (by simp),if_pos (by simp)]
  have he := rEd o f4 f5 o.edits.l 0 [101,100,105,116] rfl (by omega) (by simp)
  rw [Int.natCast_zero] at he
  cases hd : q0d o.edits.l with
  | true =>
   rw [he.1 hd]
   simp only [Option.bind_some]
   have hlen : (edB o.edits.l).length ≤ o.edits.l.length * 200000 := by
    have : ∀ l : List T.qj,(∀ e ∈ l,inI e.span.frm ∧ inI e.span.to ∧ e.text.length ≤ 100000) → (edB l).length ≤ l.length * 200000 := by
     intro l
     induction l with
     | nil => intro _; simp [edB]
     | cons e l ih =>
      intro hh
      obtain ⟨a1,a2,a3⟩ := hh e (by simp)
      have b1 := xq a1
      have b2 := xq a2
      have b3 := tu a3
      have := ih fun e he => hh e (by simp [he])
      rw [q4f,List.length_cons,Nat.succ_mul]
      simp only [List.length_append]
      omega
    exact this _ f5
   rw [if_pos (by simp only [List.length_append,List.length_cons,List.length_nil]; omega)]
   have e : za o = [101,100,105,116] ++ edB o.edits.l := by simp [za,k4]
   rw [e]
   refine RL.of ?_
   unfold zt
   rw [Bool.eq_iff_iff]
   simp [k4,hs,hd,jw,and_assoc]
  | false =>
   obtain ⟨s,hse⟩ := he.2 hd
   rw [hse]
   refine RL.no ?_
   unfold zt
   simp [k4,hd]
 by_cases k5 : o.kind = 5
 ·rw [k5]
  rw [show ∀ l : List Bytes,qi l 5 = l[5]? from fun l => rfl]
  simp only [List.getElem?_cons_succ,List.getElem?_cons_zero,Option.bind_some]
  rw [if_neg (by simp),if_neg (by simp),if_neg (by simp),if_neg (by simp),if_neg (by simp),if_pos (by simp)]
  have he := rSe o f6 f7 o.sels.l 0 [115,101,108,101,99,116] rfl (by omega) (by simp)
  rw [Int.natCast_zero] at he
  cases hd : pz o.sels.l with
  | true =>
   rw [he.1 hd]
   simp only [Option.bind_some]
   have hlen : (seB o.sels.l).length ≤ o.sels.l.length * 200000 := by
    have : ∀ l : List T.Sel,(∀ e ∈ l,inI e.anchor ∧ inI e.head) → (seB l).length ≤ l.length * 200000 := by
     intro l
     induction l with
     | nil => intro _; simp [seB]
     | cons e l ih =>
      intro hh
      obtain ⟨a1,a2⟩ := hh e (by simp)
      have b1 := xq a1
      have b2 := xq a2
      have := ih fun e he => hh e (by simp [he])
      rw [q5j,List.length_cons,Nat.succ_mul]
      simp only [List.length_append]
      omega
    exact this _ f7
   rw [if_pos (by simp only [List.length_append,List.length_cons,List.length_nil]; omega)]
   have e : za o = [115,101,108,101,99,116] ++ seB o.sels.l := by simp [za,k5]
   rw [e]
   refine RL.of ?_
   unfold zt
   rw [Bool.eq_iff_iff]
   simp [k5,hs,hd,jw,and_assoc]
  | false =>
   obtain ⟨s,hse⟩ := he.2 hd
   rw [hse]
   refine RL.no ?_
   unfold zt
   simp [k5,hd]
 have hk' : o.kind = 8 ∨ o.kind = 9 ∨ o.kind = 10 ∨ o.kind = 12 ∨ o.kind = 13 := by omega
 have hg : ∃ nm : Bytes,qi [([] : Bytes),([115,101,116] : Bytes),([116,121,112,101] : Bytes),([101,114,97,115,101] : Bytes),([101,100,105,116] : Bytes),([115,101,108,101,99,116] : Bytes),([109,111,118,101] : Bytes),([105,110,115,101,114,116] : Bytes),([110,101,120,116] : Bytes),([112,114,101,118] : Bytes),([108,101,97,118,101] : Bytes),([99,104,111,111,115,101] : Bytes),([117,110,100,111] : Bytes),([114,101,100,111] : Bytes)] o.kind = some nm ∧ nm.length ≤ 10 ∧ za o = nm := by
  rcases hk' with k | k | k | k | k
  ·exact ⟨[110,101,120,116],by rw [k]; rfl,by decide,by simp [za,k,uf]⟩
  ·exact ⟨[112,114,101,118],by rw [k]; rfl,by decide,by simp [za,k,uf]⟩
  ·exact ⟨[108,101,97,118,101],by rw [k]; rfl,by decide,by simp [za,k,uf]⟩
  ·exact ⟨[117,110,100,111],by rw [k]; rfl,by decide,by simp [za,k,uf]⟩
  ·exact ⟨[114,101,100,111],by rw [k]; rfl,by decide,by simp [za,k,uf]⟩
 obtain ⟨nm,g1,g2,g3⟩ := hg
 rw [g1]
 simp only [Option.bind_some]
 rw [if_neg (by simpa using k1),if_neg (by simpa using k2),if_neg (by simpa using k3),if_neg (by simpa using k6),if_neg (by simpa using k4),if_neg (by simpa using k5),if_pos (by simp only [List.length_cons,List.length_nil]; omega),g3]
 refine RL.of ?_
 unfold zt
 rw [Bool.eq_iff_iff]
 rcases hk' with k | k | k | k | k <;> simp [k,hs,jw,and_assoc]
end Go.Proofs.YtlapkkdodjhgpaaGreatDoor
