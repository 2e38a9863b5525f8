/-
  What the machine's calls come to: the plain functions.
-/
import Derived.Test.YtllckneefjgafaaGreatDoorVag
import Derived.Test.YtllckneefjgafaaGreatDoorVah
import Derived.Test.YtllckneefjgafaaGreatDoorVai
set_option linter.unusedSimpArgs false
set_option linter.unusedVariables false
set_option maxRecDepth 100000
namespace Go.Proofs.YtllckneefjgafaaGreatDoor
open Go Go.Gm
set_option maxHeartbeats 4000000
theorem qvn {c r} (h : q3s c = some r) : O.call 52 [AV.pv (PV.int IntKind.u8 (c.toNat : Int))] [] = some (v_b r,[]) := by
 revert h; unfold q3s
 refine qku (fun h1 h2 => ?_) ?_
 ·rintro ⟨⟩
  exact fF q72
 rintro (⟨h1,h2⟩ | ⟨h1,h2⟩)
 all_goals
 apply it <;> intro h4
 ·rintro ⟨⟩
  exact fF q72
 rintro ⟨⟩
 exact fF q72
theorem z1r {c r} (h : q3g c = some r) : O.call 53 [AV.pv (PV.int IntKind.u8 (c.toNat : Int))] [] = some (v_b r,[]) := by
 revert h; unfold q3g
 apply it <;> intro h1
 ·rintro ⟨⟩
  exact fF qb1
 rintro ⟨⟩
 exact fF qb1
def qaz : ((Bool) ⊕ (Unit)) → Ex × St
 | .inl y => (Ex.ret,⟨[(2,v_b y)],[],0⟩)
 | .inr y => (Ex.normal,⟨[(2,AV.undef)],[],0⟩)
attribute [local go_sem] qaz
theorem ztf : ∀ p r,ma p = some r → O.loop 26 0 ⟨[(0,v_s p.1),(3,v_i p.2)],[],0⟩ = some (qaz r) := by
 refine ma.partial_correctness _ ?_
 rintro ma ih2 ⟨s,i⟩ r; dsimp only
 apply it <;> intro h1
 ·refine bc fun b3 h2 f1 f2 => ?_
  refine bs fun v5 h4 => ?_
  have f3 := qvn h4
  try simp only [en.down] at f3
  apply it <;> intro h6
  ·apply it <;> intro h7
   ·apply it <;> intro h8
    ·rintro ⟨⟩
     clear ih2; exact fL tq
    refine bs fun v10 h9 => ?_
    have f4 := z1r h9
    try simp only [en.down] at f4
    apply it <;> intro h11
    ·rintro ⟨⟩
     clear ih2; exact fL tq
    intro h; have f5 := ih2 _ _ h; clear h
    try simp only [en.down] at f5
    clear ih2; exact fL tq
   intro h; have f6 := ih2 _ _ h; clear h
   try simp only [en.down] at f6
   clear ih2; exact fL tq
  intro h; have f7 := ih2 _ _ h; clear h
  try simp only [en.down] at f7
  clear ih2; exact fL tq
 rintro ⟨⟩
 clear ih2; exact fL tq
theorem qkb {s r} (h : q3n s = some r) : O.call 26 [v_s s] [] = some (v_b r,[]) := by
 revert h; unfold q3n
 refine z2m ?_ (fun h1 h2 => ?_)
 ·rintro (⟨h1,h2⟩ | ⟨h1,h2⟩)
  all_goals
  rintro ⟨⟩
  exact fF tq
 refine bs fun v4 h3 => ?_
 have f1 := ztf _ _ h3
 try simp only [en.down] at f1
 rcases v4 with y5 | y6
 ·dsimp only
  rintro ⟨⟩
  exact fF tq
 dsimp only
 rintro ⟨⟩
 exact fF tq
def q87 (name : Bytes) (value : Bytes) (out : (List T.qd)) : ((Int × (List T.qd)) ⊕ (Unit)) → Ex × St
 | .inl y => (Ex.ret,⟨[(0,v_s name),(1,v_s value),(6,v_r 0 y.2),(7,v_i y.1),(8,v_r 0 y.2)],[(0,Blk.row false 2 (List.map T.qd.enc y.2))],1⟩)
 | .inr y => (Ex.normal,⟨[(0,v_s name),(1,v_s value),(6,AV.undef),(7,AV.undef),(8,v_r 0 out)],[(0,Blk.row false 2 (List.map T.qd.enc out))],1⟩)
attribute [local go_sem] q87
theorem z1i : ∀ p r,q1l p = some r → O.loop 10 0 ⟨[(0,v_s p.1),(1,v_s p.2.1),(8,v_r 0 p.2.2.2),(9,v_i p.2.2.1)],[(0,Blk.row false 2 (List.map T.qd.enc p.2.2.2))],1⟩ = some (q87 p.1 p.2.1 p.2.2.2 r) := by
 refine q1l.partial_correctness _ ?_
 rintro q1l ih5 ⟨name,value,i,out⟩ r; dsimp only
 apply it <;> intro h1
 ·refine bw T.qd.enc fun x3 h2 f1 f2 f3 => ?_
  apply it <;> intro h4
  ·have f4 := map_set T.qd.enc out i.toNat (T.qd.mk x3.name value)
   try simp only [en.down] at f4
   rintro ⟨⟩
   clear ih5; exact fL q1i
  intro h; have f5 := ih5 _ _ h; clear h
  try simp only [en.down] at f5
  clear ih5; exact fL q1i
 rintro ⟨⟩
 clear ih5; exact fL q1i
theorem q6e {name value env r} (h : q2b name value env = some r) : O.call 10 [v_s name,v_s value,v_l 2 T.qd.enc env] [] = some (AV.tup [v_l 2 T.qd.enc r.1,v_i r.2],[]) := by
 revert h; unfold q2b
 refine bs fun v2 h1 => ?_
 have f1 := qkb h1
 try simp only [en.down] at f1
 apply it <;> intro h3
 ·rintro ⟨⟩
  exact fF q1i
 apply it <;> intro h4
 ·rintro ⟨⟩
  exact fF q1i
 have f2 := qcc 2 T.qd.enc env.l
 refine gd fun h5 => ?_
 refine bs fun v7 h6 => ?_
 have f3 := z1i _ _ h6
 try simp only [en.down] at f3
 rcases v7 with y8 | y9
 ·dsimp only
  rintro ⟨⟩
  exact fF q1i
 dsimp only
 apply it <;> intro h10
 ·rintro ⟨⟩
  exact fF q1i
 refine gd fun h11 => ?_
 have f4 : List.map T.qd.enc env.l ++ [[PV.str name,PV.str value]] = List.map T.qd.enc (env.l ++ [(T.qd.mk name value)]) := by simp only [List.map_append,List.map_cons,List.map_nil,q4l,q4n,q4s,T.qd.qc] <;> rfl
 rintro ⟨⟩
 exact fF q1i
theorem qz8 {c r} (h : q3v c = some r) : O.call 54 [AV.pv (PV.int IntKind.u8 (c.toNat : Int))] [] = some (v_b r,[]) := by
 revert h; unfold q3v
 refine zhb ?_ ?_
 ·rintro (⟨h1,h2,h9,h10,h13,h14⟩ | ⟨h1,h2,h9,h10,h13,h14⟩ | ⟨h1,h2,h9,h10,h13,h14⟩ | ⟨h1,h2,h9,h10,h13,h14⟩ | ⟨h1,h2,h9,h10,h13,h14⟩ | ⟨h1,h2,h9,h10,h13,h14⟩ | ⟨h1,h2,h9,h10,h13,h14⟩)
  all_goals
  rintro ⟨⟩
  exact fF qau
 rintro (⟨h1,h2,h9,h10,h13,h14⟩ | ⟨h1,h2,h9,h10,h13,h14⟩ | ⟨h1,h2,h9,h10,h13,h14⟩ | ⟨h1,h2,h9,h10,h13,h14⟩ | ⟨h1,h2,h9,h10,h13,h14⟩ | ⟨h1,h2,h9,h10,h13,h14⟩ | ⟨h1,h2,h9,h10,h13,h14⟩ | ⟨h1,h2,h9,h10,h13,h14⟩)
 all_goals
 rintro ⟨⟩
 exact fF qau
def q8a (s : Bytes) : ((Bool) ⊕ (Unit)) → Ex × St
 | .inl y => (Ex.ret,⟨[(0,v_s s),(2,v_b y)],[],0⟩)
 | .inr y => (Ex.normal,⟨[(0,v_s s),(2,AV.undef)],[],0⟩)
attribute [local go_sem] q8a
theorem qlm : ∀ p r,q09 p = some r → O.loop 27 0 ⟨[(0,v_s p.1),(3,v_i p.2)],[],0⟩ = some (q8a p.1 r) := by
 refine q09.partial_correctness _ ?_
 rintro q09 ih8 ⟨s,i⟩ r; dsimp only
 apply it <;> intro h1
 ·refine bc fun b3 h2 f1 f2 => ?_
  refine bs fun v5 h4 => ?_
  have f3 := qz8 h4
  try simp only [en.down] at f3
  apply it <;> intro h6
  ·rintro ⟨⟩
   clear ih8; exact fL q1e
  apply it <;> intro h7
  ·apply it <;> intro h8
   ·rintro ⟨⟩
    clear ih8; exact fL q1e
   intro h; have f4 := ih8 _ _ h; clear h
   try simp only [en.down] at f4
   clear ih8; exact fL q1e
  intro h; have f5 := ih8 _ _ h; clear h
  try simp only [en.down] at f5
  clear ih8; exact fL q1e
 rintro ⟨⟩
 clear ih8; exact fL q1e
theorem zh6 {s r} (h : q3x s = some r) : O.call 27 [v_s s] [] = some (v_b r,[]) := by
 revert h; unfold q3x
 refine bs fun v2 h1 => ?_
 have f1 := qlm _ _ h1
 try simp only [en.down] at f1
 rcases v2 with y3 | y4
 ·dsimp only
  rintro ⟨⟩
  exact fF q1e
 dsimp only
 apply it <;> intro h5
 ·rintro ⟨⟩
  exact fF q1e
 rintro ⟨⟩
 exact fF q1e
def qbu : (((Sl T.qd)) ⊕ ((List T.qd))) → AV × Heap
 | .inl y => (v_l 2 T.qd.enc y,[])
 | .inr y => (v_r 0 y,[(0,Blk.row false 2 (List.map T.qd.enc y))])
attribute [local go_sem] qbu
theorem zib {s r} (h : q61 s = some r) : O.call 25 [v_l 2 T.qd.enc s] [] = some (qbu r) := by
 revert h; unfold q61
 apply it <;> intro h1
 ·rintro ⟨⟩
  exact fF qba
 have f1 := qcc 2 T.qd.enc s.l
 refine gd fun h2 => ?_
 rintro ⟨⟩
 exact fF qba
theorem qce {p_ b r} (h : q47 p_ b = some r) : O.call 29 [v_g (T.qd.enc p_),AV.ptr 0 0] [(0,Blk.box [v_s b])] = some (v_b r,[(0,Blk.box [v_s b])]) := by
 revert h; unfold q47
 rintro ⟨⟩
 exact fF qt1
def qb2 (f : Bytes) : ((Int) ⊕ (Unit)) → Ex × St
 | .inl y => (Ex.ret,⟨[(4,v_i y)],[(0,Blk.box [v_s f])],1⟩)
 | .inr y => (Ex.normal,⟨[(4,AV.undef)],[(0,Blk.box [v_s f])],1⟩)
attribute [local go_sem] qb2
theorem z4y : ∀ p r,q3i p = some r → O.loop 28 0 ⟨[(0,v_l 2 T.qd.enc p.1),(1,AV.clo 29 [] [AV.ptr 0 0]),(7,v_i p.2.1),(8,v_i p.2.2.1)],[(0,Blk.box [v_s p.2.2.2])],1⟩ = some (qb2 p.2.2.2 r) := by
 refine q3i.partial_correctness _ ?_
 rintro q3i ih12 ⟨s,t7,t8,f⟩ r; dsimp only
 apply it <;> intro h1
 ·refine bg T.qd.enc fun x3 h2 f1 f2 f3 => ?_
  refine bs fun v5 h4 => ?_
  have f4 := qce h4
  try simp only [en.down] at f4
  apply it <;> intro h6
  ·try simp only [h6] at f4
   rintro ⟨⟩
   clear ih12; exact fL ny
  try simp only [h6] at f4
  intro h; have f5 := ih12 _ _ h; clear h
  try simp only [en.down] at f5
  try simp only [h6] at f5
  clear ih12; exact fL ny
 rintro ⟨⟩
 clear ih12; exact fL ny
theorem zo5 {s b r} (h : q7m s b = some r) : O.call 28 [v_l 2 T.qd.enc s,AV.clo 29 [] [AV.ptr 0 0]] [(0,Blk.box [v_s b])] = some (v_i r,[(0,Blk.box [v_s b])]) := by
 revert h; unfold q7m
 refine bs fun v2 h1 => ?_
 have f1 := z4y _ _ h1
 try simp only [en.down] at f1
 rcases v2 with y3 | y4
 ·dsimp only
  rintro ⟨⟩
  exact fF ny
 dsimp only
 rintro ⟨⟩
 exact fF ny
def qb8 (s : (List T.qd)) (f : Bytes) : ((Int) ⊕ (Unit)) → Ex × St
 | .inl y => (Ex.ret,⟨[(4,v_i y)],[(0,Blk.row false 2 (List.map T.qd.enc s)),(1,Blk.box [v_s f])],2⟩)
 | .inr y => (Ex.normal,⟨[(4,AV.undef)],[(0,Blk.row false 2 (List.map T.qd.enc s)),(1,Blk.box [v_s f])],2⟩)
attribute [local go_sem] qb8
theorem zfa : ∀ p r,q2c p = some r → O.loop 28 0 ⟨[(0,v_r 0 p.2.2.1),(1,AV.clo 29 [] [AV.ptr 1 0]),(7,v_i p.1),(8,v_i p.2.1)],[(0,Blk.row false 2 (List.map T.qd.enc p.2.2.1)),(1,Blk.box [v_s p.2.2.2])],2⟩ = some (qb8 p.2.2.1 p.2.2.2 r) := by
 refine q2c.partial_correctness _ ?_
 rintro q2c ih15 ⟨t7,t8,s,f⟩ r; dsimp only
 apply it <;> intro h1
 ·refine bw T.qd.enc fun x3 h2 f1 f2 f3 => ?_
  refine bs fun v5 h4 => ?_
  have f4 := qce h4
  try simp only [en.down] at f4
  apply it <;> intro h6
  ·try simp only [h6] at f4
   rintro ⟨⟩
   clear ih15; exact fL ny
  try simp only [h6] at f4
  intro h; have f5 := ih15 _ _ h; clear h
  try simp only [en.down] at f5
  try simp only [h6] at f5
  clear ih15; exact fL ny
 rintro ⟨⟩
 clear ih15; exact fL ny
theorem zf7 {r_ b r} (h : q3q r_ b = some r) : O.call 28 [v_r 0 r_,AV.clo 29 [] [AV.ptr 1 0]] [(0,Blk.row false 2 (List.map T.qd.enc r_)),(1,Blk.box [v_s b])] = some (v_i r,[(0,Blk.row false 2 (List.map T.qd.enc r_)),(1,Blk.box [v_s b])]) := by
 revert h; unfold q3q
 refine bs fun v2 h1 => ?_
 have f1 := zfa _ _ h1
 try simp only [en.down] at f1
 rcases v2 with y3 | y4
 ·dsimp only
  rintro ⟨⟩
  exact fF ny
 dsimp only
 rintro ⟨⟩
 exact fF ny
theorem q7k {name value env r} (h : nu name value env = some r) : O.call 12 [v_s name,v_s value,v_l 2 T.qd.enc env] [] = some (AV.tup [v_l 2 T.qd.enc r.1,v_i r.2],[]) := by
 revert h; unfold nu
 refine bs fun v2 h1 => ?_
 have f1 := zh6 h1
 try simp only [en.down] at f1
 apply it <;> intro h3
 ·rintro ⟨⟩
  exact fF q30
 apply it <;> intro h4
 ·rintro ⟨⟩
  exact fF q30
 refine bs fun v6 h5 => ?_
 have f2 := zib h5
 try simp only [en.down] at f2
 rcases v6 with y7 | y14
 ·dsimp only
  refine bs fun v9 h8 => ?_
  have f3 := zo5 h8
  try simp only [en.down] at f3
  apply it <;> intro h10
  ·refine bg T.qd.enc fun x12 h11 f4 f5 f6 => ?_
   rintro ⟨⟩
  apply it <;> intro h13
  ·rintro ⟨⟩
   exact fF q30
  rintro ⟨⟩
 dsimp only
 refine bs fun v16 h15 => ?_
 have f7 := zf7 h15
 try simp only [en.down] at f7
 apply it <;> intro h17
 ·refine bw T.qd.enc fun x19 h18 f8 f9 f10 => ?_
  have f11 := map_set T.qd.enc y14 v16.toNat (T.qd.mk x19.name value)
  try simp only [en.down] at f11
  rintro ⟨⟩
  exact fF q30
 apply it <;> intro h20
 ·rintro ⟨⟩
  exact fF q30
 refine gd fun h21 => ?_
 have f12 : List.map T.qd.enc y14 ++ [[PV.str name,PV.str value]] = List.map T.qd.enc (y14 ++ [(T.qd.mk name value)]) := by simp only [List.map_append,List.map_cons,List.map_nil,q4l,q4n,q4s,T.qd.qc] <;> rfl
 rintro ⟨⟩
 exact fF q30
def q96 (a : (List T.qd)) : ((Bool) ⊕ (Unit)) → Ex × St
 | .inl y => (Ex.ret,⟨[(4,v_b y)],[(0,b_r 2 T.qd.enc a)],1⟩)
 | .inr y => (Ex.normal,⟨[(4,AV.undef)],[(0,b_r 2 T.qd.enc a)],1⟩)
attribute [local go_sem] q96
theorem z9j : ∀ p r,q1c p = some r → O.loop 11 0 ⟨[(0,v_r 0 p.2.2),(1,v_l 2 T.qd.enc p.1),(5,v_i p.2.1)],[(0,b_r 2 T.qd.enc p.2.2)],1⟩ = some (q96 p.2.2 r) := by
 refine q1c.partial_correctness _ ?_
 rintro q1c ih17 ⟨b,i,a⟩ r; dsimp only
 apply it <;> intro h1
 ·refine bW T.qd.enc 2 fun x3 h2 f1 f2 f3 f4 f5 => ?_
  refine bg T.qd.enc fun x5 h4 f6 f7 f8 => ?_
  apply it <;> intro h6
  ·rintro ⟨⟩
   clear ih17; exact fL q2v
  intro h; have f9 := ih17 _ _ h; clear h
  try simp only [en.down,f4,f5] at f9
  try simp only [f4,f5] at f9
  clear ih17; exact fL q2v
 rintro ⟨⟩
 clear ih17; exact fL q2v
theorem q8y {b r_ r} (h : q5g b r_ = some r) : O.call 11 [v_r 0 r_,v_l 2 T.qd.enc b] [(0,b_r 2 T.qd.enc r_)] = some (v_b r,[(0,b_r 2 T.qd.enc r_)]) := by
 revert h; unfold q5g
 apply it <;> intro h1
 ·rintro ⟨⟩
  exact fF q2v
 refine bs fun v3 h2 => ?_
 have f1 := z9j _ _ h2
 try simp only [en.down] at f1
 rcases v3 with y4 | y5
 ·dsimp only
  rintro ⟨⟩
  exact fF q2v
 dsimp only
 rintro ⟨⟩
 exact fF q2v
end Go.Proofs.YtllckneefjgafaaGreatDoor
