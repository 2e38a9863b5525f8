/-
  What the machine's calls come to: the plain functions.
-/
import Derived.Test.YtkbgphcebakcnaaGreatEaj
import Derived.Test.YtkbgphcebakcnaaGreatEak
set_option linter.unusedSimpArgs false
set_option linter.unusedVariables false
set_option maxRecDepth 100000
namespace Go.Proofs.YtkbgphcebakcnaaGreat
open Go Go.Gm
attribute [local go_sem] qa2
set_option maxHeartbeats 4000000
theorem zml {s b r_ r_2 r} (h : q9d s b r_ r_2 = some r) : O.call 35 [AV.ptr 0 0,v_g (T.qf.enc s)] [(0,Blk.box [v_s b,v_r 1 r_,v_r 2 r_2]),(1,Blk.row false 2 (List.map T.Sel.enc r_)),(2,b_r 3 T.qc.enc r_2)] = some (AV.tup [],[(0,Blk.box [v_s b,v_r 1 r_,v_r 2 r]),(1,Blk.row false 2 (List.map T.Sel.enc r_)),(2,b_r 3 T.qc.enc r)]) := by
 revert h; unfold q9d
 refine bs fun v2 h1 => ?_
 have f1 := qe8 h1
 try simp only [en.down] at f1
 refine gd fun h3 => ?_
 have f2 := rG 3 T.qc.enc r_2
 have f3 : List.map T.qc.enc r_2 ++ [[PV.int IntKind.i64 v2.session.cur,PV.sl v2.session.insts.nil (szc 3 v2.session.insts.l) (List.map T.qa.enc v2.session.insts.l),PV.sl v2.marks.nil (szc 1 v2.marks.l) (List.map (slE 2 T.qd.enc) v2.marks.l)]] = List.map T.qc.enc (r_2 ++ [v2]) := by simp only [List.map_append,List.map_cons,List.map_nil,qx,qy,qw,T.qc.qi] <;> rfl
 rintro ⟨⟩
 exact fF qf6
theorem z1j : ∀ p r,q2q p = some r → O.loop 17 0 ⟨[(3,AV.ptr 2 0),(14,v_l 2 T.qf.enc p.1),(15,v_i p.2.1),(16,v_i p.2.2.1)],[(0,b_x (T.State.enc p.2.2.2.1)),(1,Blk.row false 2 (List.map T.Sel.enc p.2.2.2.2.1)),(2,Blk.box [v_s p.2.2.2.2.2.1,v_r 1 p.2.2.2.2.1,v_r 3 p.2.2.2.2.2.2]),(3,b_r 3 T.qc.enc p.2.2.2.2.2.2)],4⟩ = some (Ex.normal,⟨[(3,AV.ptr 2 0)],[(0,b_x (T.State.enc p.2.2.2.1)),(1,Blk.row false 2 (List.map T.Sel.enc p.2.2.2.2.1)),(2,Blk.box [v_s p.2.2.2.2.2.1,v_r 1 p.2.2.2.2.1,v_r 3 r]),(3,b_r 3 T.qc.enc r)],4⟩) := by
 refine q2q.partial_correctness _ ?_
 rintro q2q ih97 ⟨t14,t15,t16,b0_,r1_,w,r3_⟩ r; dsimp only
 apply it <;> intro h1
 ·refine bg T.qf.enc fun x3 h2 f1 f2 f3 => ?_
  refine bs fun v5 h4 => ?_
  have f4 := zml h4
  try simp only [en.down] at f4
  intro h; have f5 := ih97 _ _ h; clear h
  try simp only [en.down] at f5
  clear ih97; exact fL q6i
 rintro ⟨⟩
 clear ih97; exact fL q6i
def qdq : ((Bytes × (Sl T.Sel) × (List T.qc)) ⊕ (Bytes × (List T.Sel) × (List T.qc))) → AV × Heap
 | .inl y => (AV.ptr 0 0,[(0,Blk.box [v_s y.1,v_l 2 T.Sel.enc y.2.1,v_r 1 y.2.2]),(1,b_r 3 T.qc.enc y.2.2)])
 | .inr y => (AV.ptr 0 0,[(0,Blk.box [v_s y.1,v_r 1 y.2.1,v_r 2 y.2.2]),(1,Blk.row false 2 (List.map T.Sel.enc y.2.1)),(2,b_r 3 T.qc.enc y.2.2)])
attribute [local go_sem] qdq
theorem qtr {st r} (h : q80 st = some r) : O.call 17 [v_g (T.State.enc st)] [] = some (qdq r) := by
 revert h; unfold q80
 refine bs fun v2 h1 => ?_
 have f1 := qdz h1
 try simp only [en.down] at f1
 rcases v2 with y3 | y6
 ·dsimp only
  refine bs fun v5 h4 => ?_
  have f2 := zly _ _ h4
  try simp only [en.down] at f2
  rintro ⟨⟩
  exact fF q6i
 dsimp only
 refine bs fun v8 h7 => ?_
 have f3 := z1j _ _ h7
 try simp only [en.down] at f3
 rintro ⟨⟩
 exact fF q6i
def qef (k : Int) (t11 : (Sl T.qa)) (t12 : Int) (t13 : Int) (s : T.qf) (at_ : T.Span) (b2_ : T.qa) : ((Int) ⊕ (Unit)) → Ex × St
 | .inl y => (Ex.ret,⟨[(2,AV.ptr 0 0),(3,AV.ptr 1 0),(4,v_i k),(5,v_i y),(11,v_l 3 T.qa.enc t11),(12,v_i t12),(13,v_i t13)],[(0,b_x (T.qf.enc s)),(1,b_x (T.Span.enc at_)),(2,b_x (T.qa.enc b2_))],3⟩)
 | .inr y => (Ex.normal,⟨[(2,AV.ptr 0 0),(3,AV.ptr 1 0),(4,AV.undef),(5,AV.undef),(11,v_l 3 T.qa.enc t11),(12,v_i t12),(13,v_i t13)],[(0,b_x (T.qf.enc s)),(1,b_x (T.Span.enc at_)),(2,b_x (T.qa.enc b2_))],3⟩)
attribute [local go_sem] qef
theorem zfq : ∀ p r,q0h p = some r → O.loop 39 2 ⟨[(2,AV.ptr 0 0),(3,AV.ptr 1 0),(6,v_i p.1),(11,v_l 3 T.qa.enc p.2.1),(12,v_i p.2.2.1),(13,v_i p.2.2.2.1),(19,v_l 18 T.Stop.enc p.2.2.2.2.1),(20,v_i p.2.2.2.2.2.1),(21,v_i p.2.2.2.2.2.2.1)],[(0,b_x (T.qf.enc p.2.2.2.2.2.2.2.1)),(1,b_x (T.Span.enc p.2.2.2.2.2.2.2.2.1)),(2,b_x (T.qa.enc p.2.2.2.2.2.2.2.2.2))],3⟩ = some (qef p.1 p.2.1 p.2.2.1 p.2.2.2.1 p.2.2.2.2.2.2.2.1 p.2.2.2.2.2.2.2.2.1 p.2.2.2.2.2.2.2.2.2 r) := by
 refine q0h.partial_correctness _ ?_
 rintro q0h ih105 ⟨k,t11,t12,t13,t19,t20,t21,s,at_,b2_⟩ r; dsimp only
 apply it <;> intro h1
 ·refine bg T.Stop.enc fun x3 h2 f1 f2 f3 => ?_
  refine q0r (fun h4 h5 => ?_) ?_
  ·refine bs fun v7 h6 => ?_
   have f4 := q7b h6
   try simp only [en.down] at f4
   apply it <;> intro h8
   ·try simp only [h8] at f4
    rintro ⟨⟩
    clear ih105; exact fL q0p
   try simp only [h8] at f4
   intro h; have f5 := ih105 _ _ h; clear h
   try simp only [en.down] at f5
   try simp only [h8] at f5
   clear ih105; exact fL q0p
  rintro (⟨h4,h5⟩ | ⟨h4,h5⟩)
  all_goals
  intro h; have f6 := ih105 _ _ h; clear h
  try simp only [en.down] at f6
  clear ih105; exact fL q0p
 rintro ⟨⟩
 clear ih105; exact fL q0p
def qeb (s : T.qf) (at_ : T.Span) : ((Int × Int) ⊕ (Unit)) → Ex × St
 | .inl y => (Ex.ret,⟨[(4,v_i y.1),(5,v_i y.2)],[(0,b_x (T.qf.enc s)),(1,b_x (T.Span.enc at_))],2⟩)
 | .inr y => (Ex.normal,⟨[(4,AV.undef),(5,AV.undef)],[(0,b_x (T.qf.enc s)),(1,b_x (T.Span.enc at_))],2⟩)
attribute [local go_sem] qeb
theorem z16 : ∀ p r,q3c p = some r → O.loop 39 0 ⟨[(2,AV.ptr 0 0),(3,AV.ptr 1 0),(11,v_l 3 T.qa.enc p.1),(12,v_i p.2.1),(13,v_i p.2.2.1)],[(0,b_x (T.qf.enc p.2.2.2.1)),(1,b_x (T.Span.enc p.2.2.2.2))],2⟩ = some (qeb p.2.2.2.1 p.2.2.2.2 r) := by
 refine q3c.partial_correctness _ ?_
 rintro q3c ih104 ⟨t11,t12,t13,s,at_⟩ r; dsimp only
 apply it <;> intro h1
 ·refine bg T.qa.enc fun x3 h2 f1 f2 f3 => ?_
  refine bs fun v5 h4 => ?_
  have f4 := zfq _ _ h4
  try simp only [en.down] at f4
  rcases v5 with y6 | y7
  ·dsimp only
   rintro ⟨⟩
   clear ih104; exact fL q0p
  dsimp only
  intro h; have f5 := ih104 _ _ h; clear h
  try simp only [en.down] at f5
  clear ih104; exact fL q0p
 rintro ⟨⟩
 clear ih104; exact fL q0p
theorem q4k {s at_ r} (h : kg s at_ = some r) : O.call 39 [v_g (T.qf.enc s),v_g (T.Span.enc at_)] [] = some (AV.tup [v_i r.1,v_i r.2],[]) := by
 revert h; unfold kg
 refine bs fun v2 h1 => ?_
 have f1 := z16 _ _ h1
 try simp only [en.down] at f1
 rcases v2 with y3 | y4
 ·dsimp only
  rintro ⟨⟩
  exact fF q0p
 dsimp only
 rintro ⟨⟩
 exact fF q0p
def qia (s : T.qf) : ((Bool) ⊕ (Unit)) → Ex × St
 | .inl y => (Ex.ret,⟨[(4,v_b y)],[(0,b_x (T.qf.enc s))],1⟩)
 | .inr y => (Ex.normal,⟨[(4,AV.undef)],[(0,b_x (T.qf.enc s))],1⟩)
attribute [local go_sem] qia
theorem zj8 : ∀ p r,q2o p = some r → O.loop 36 0 ⟨[(2,AV.ptr 0 0),(9,v_l 3 T.qb.enc p.1),(10,v_i p.2.1),(11,v_i p.2.2.1)],[(0,b_x (T.qf.enc p.2.2.2))],1⟩ = some (qia p.2.2.2 r) := by
 refine q2o.partial_correctness _ ?_
 rintro q2o ih102 ⟨t9,t10,t11,s⟩ r; dsimp only
 apply it <;> intro h1
 ·refine bg T.qb.enc fun x3 h2 f1 f2 f3 => ?_
  refine bs fun v5 h4 => ?_
  have f4 := q4k h4
  try simp only [en.down] at f4
  apply it <;> intro h6
  ·rintro ⟨⟩
   clear ih102; exact fL q6s
  intro h; have f5 := ih102 _ _ h; clear h
  try simp only [en.down] at f5
  clear ih102; exact fL q6s
 rintro ⟨⟩
 clear ih102; exact fL q6s
theorem qgw {s es r} (h : q4l s es = some r) : O.call 36 [v_g (T.qf.enc s),v_l 3 T.qb.enc es] [] = some (v_b r,[]) := by
 revert h; unfold q4l
 refine bs fun v2 h1 => ?_
 have f1 := zj8 _ _ h1
 try simp only [en.down] at f1
 rcases v2 with y3 | y4
 ·dsimp only
  rintro ⟨⟩
  exact fF q6s
 dsimp only
 rintro ⟨⟩
 exact fF q6s
theorem qya {es w w2 r1_ r} (h : qcf es w w2 r1_ = some r) : O.loop 18 0 ⟨[(0,AV.ptr 0 0),(1,v_l 3 T.qb.enc es)],[(0,Blk.box [v_s w,v_l 2 T.Sel.enc w2,v_r 1 r1_]),(1,b_r 3 T.qc.enc r1_)],2⟩ = some (Ex.normal,⟨[],[(0,Blk.box [v_s w,v_l 2 T.Sel.enc w2,v_r 1 r1_]),(1,b_r 3 T.qc.enc r1_)],2⟩) := by
 revert h; unfold qcf
 apply it <;> intro h1
 ·refine bW T.qc.enc 3 fun x3 h2 f1 f2 f3 f4 f5 => ?_
  refine bs fun v5 h4 => ?_
  have f6 := qgw h4
  try simp only [en.down,f4,f5] at f6
  apply it <;> intro h6
  ·rintro ⟨⟩
  try simp only [f4,f5] at f6
  rintro ⟨⟩
  exact fL q53
 rintro ⟨⟩
 exact fL q53
theorem qsm {es b b_2 r_ r} (h : qdi es b b_2 r_ = some r) : O.call 18 [AV.ptr 0 0,v_l 3 T.qb.enc es] [(0,Blk.box [v_s b,v_l 2 T.Sel.enc b_2,v_r 1 r_]),(1,b_r 3 T.qc.enc r_)] = some (AV.tup [],[(0,Blk.box [v_s b,v_l 2 T.Sel.enc b_2,v_r 1 r_]),(1,b_r 3 T.qc.enc r_)]) := by
 revert h; unfold qdi
 refine bs fun v2 h1 => ?_
 have f1 := qya h1
 try simp only [en.down] at f1
 rintro ⟨⟩
 exact fF q53
def qeg : (((Sl T.qb)) ⊕ ((List T.qb))) → AV × Heap
 | .inl y => (v_l 3 T.qb.enc y,[])
 | .inr y => (v_r 0 y,[(0,Blk.row false 3 (List.map T.qb.enc y))])
attribute [local go_sem] qeg
theorem zik {s r} (h : q9b s = some r) : O.call 59 [v_l 3 T.qb.enc s] [] = some (qeg r) := by
 revert h; unfold q9b
 apply it <;> intro h1
 ·rintro ⟨⟩
  exact fF qga
 have f1 := q4c 3 T.qb.enc s.l
 refine gd fun h2 => ?_
 rintro ⟨⟩
 exact fF qga
theorem qhh {a b r} (h : q5m a b = some r) : O.call 61 [v_g (T.qb.enc a),v_g (T.qb.enc b)] [] = some (v_i r,[]) := by
 revert h; unfold q5m
 refine bs fun v2 h1 => ?_
 have f1 := q5r h1
 try simp only [en.down] at f1
 refine bs fun v4 h3 => ?_
 have f2 := q5r h3
 try simp only [en.down] at f2
 refine bs fun v6 h5 => ?_
 have f3 := qdm h5
 try simp only [en.down] at f3
 rintro ⟨⟩
 exact fF z5q
theorem z2k {data a b i j r} (h : qcn data a b i j = some r) : O.loop 99 2 ⟨[(0,v_l 3 T.qb.enc data),(1,v_i a),(2,v_i b),(3,AV.pv (PV.fn 61)),(8,v_i i),(9,v_i j)],[],0⟩ = some (Ex.normal,⟨[(0,v_l 3 T.qb.enc data),(1,v_i a),(2,v_i b),(3,AV.pv (PV.fn 61)),(8,v_i i)],[],0⟩) := by
 revert h; unfold qcn
 apply it <;> intro h1
 ·refine bg T.qb.enc fun x3 h2 f1 f2 f3 => ?_
  refine bg T.qb.enc fun x5 h4 f4 f5 f6 => ?_
  refine bs fun v7 h6 => ?_
  have f7 := qhh h6
  try simp only [en.down] at f7
  apply it <;> intro h8
  ·rintro ⟨⟩
  rintro ⟨⟩
  exact fL gp
 rintro ⟨⟩
 exact fL gp
theorem qr0 : ∀ p r,q6o p = some r → O.loop 99 0 ⟨[(0,v_l 3 T.qb.enc p.1),(1,v_i p.2.1),(2,v_i p.2.2.1),(3,AV.pv (PV.fn 61)),(8,v_i p.2.2.2)],[],0⟩ = some (Ex.normal,⟨[],[],0⟩) := by
 refine q6o.partial_correctness _ ?_
 rintro q6o ih113 ⟨data,a,b,i⟩ r; dsimp only
 apply it <;> intro h1
 ·refine bs fun v3 h2 => ?_
  have f1 := z2k h2
  try simp only [en.down] at f1
  intro h; have f2 := ih113 _ _ h; clear h
  try simp only [en.down] at f2
  clear ih113; exact fL gp
 rintro ⟨⟩
 clear ih113; exact fL gp
theorem qho {data a b r} (h : q9e data a b = some r) : O.call 99 [v_l 3 T.qb.enc data,v_i a,v_i b,AV.pv (PV.fn 61)] [] = some (AV.tup [],[]) := by
 revert h; unfold q9e
 refine bs fun v2 h1 => ?_
 have f1 := qr0 _ _ h1
 try simp only [en.down] at f1
 rintro ⟨⟩
 exact fF gp
theorem zhb : ∀ p r,q8h p = some r → O.loop 80 0 ⟨[(0,v_l 3 T.qb.enc p.1),(1,v_i p.2.1),(2,AV.pv (PV.fn 61)),(6,v_i p.2.2.1),(7,v_i p.2.2.2.1),(8,v_i p.2.2.2.2)],[],0⟩ = some (Ex.normal,⟨[(0,v_l 3 T.qb.enc p.1),(1,v_i p.2.1),(2,AV.pv (PV.fn 61)),(6,v_i p.2.2.1),(7,v_i r)],[],0⟩) := by
 refine q8h.partial_correctness _ ?_
 rintro q8h ih111 ⟨data,n,blockSize,a,b⟩ r; dsimp only
 apply it <;> intro h1
 ·refine bs fun v3 h2 => ?_
  have f1 := qho h2
  try simp only [en.down] at f1
  intro h; have f2 := ih111 _ _ h; clear h
  try simp only [en.down] at f2
  clear ih111; exact fL uq
 rintro ⟨⟩
 clear ih111; exact fL uq
theorem z4a {data n blockSize a b r} (h : qbh data n blockSize a b = some r) : O.loop 80 4 ⟨[(0,v_l 3 T.qb.enc data),(1,v_i n),(2,AV.pv (PV.fn 61)),(6,v_i blockSize),(7,v_i a),(8,v_i b)],[],0⟩ = some (Ex.normal,⟨[(0,v_l 3 T.qb.enc data),(1,v_i n),(2,AV.pv (PV.fn 61)),(6,v_i blockSize),(7,v_i a)],[],0⟩) := by
 revert h; unfold qbh
 apply it <;> intro h1
 ·rintro ⟨⟩
 rintro ⟨⟩
 exact fL uq
theorem qyv : ∀ p r,q7k p = some r → O.loop 80 2 ⟨[(0,v_l 3 T.qb.enc p.1),(1,v_i p.2.1),(2,AV.pv (PV.fn 61)),(6,v_i p.2.2)],[],0⟩ = some (Ex.normal,⟨[],[],0⟩) := by
 refine q7k.partial_correctness _ ?_
 rintro q7k ih116 ⟨data,n,blockSize⟩ r; dsimp only
 apply it <;> intro h1
 ·refine bs fun v3 h2 => ?_
  have f1 := z4a h2
  try simp only [en.down] at f1
  apply it <;> intro h4
  ·rintro ⟨⟩
  intro h; have f2 := ih116 _ _ h; clear h
  try simp only [en.down] at f2
  clear ih116; exact fL uq
 rintro ⟨⟩
 clear ih116; exact fL uq
theorem z9d {data n r} (h : qc7 data n = some r) : O.call 80 [v_l 3 T.qb.enc data,v_i n,AV.pv (PV.fn 61)] [] = some (AV.tup [],[]) := by
 revert h; unfold qc7
 refine bs fun v2 h1 => ?_
 have f1 := zhb _ _ h1
 try simp only [en.down] at f1
 refine bs fun v4 h3 => ?_
 have f2 := qho h3
 try simp only [en.down] at f2
 refine bs fun v6 h5 => ?_
 have f3 := qyv _ _ h5
 try simp only [en.down] at f3
 rintro ⟨⟩
 exact fF uq
theorem qw9 {x r} (h : qd7 x = some r) : O.call 60 [v_l 3 T.qb.enc x,AV.pv (PV.fn 61)] [] = some (AV.tup [],[]) := by
 revert h; unfold qd7
 refine bs fun v2 h1 => ?_
 have f1 := z9d h1
 try simp only [en.down] at f1
 rintro ⟨⟩
 exact fF qjl
theorem qza : ∀ p r,q2r p = some r → r.length = p.2.2.2.2.length ∧ O.loop 99 2 ⟨[(0,v_r 0 p.2.2.2.2),(1,v_i p.1),(2,v_i p.2.1),(3,AV.pv (PV.fn 61)),(8,v_i p.2.2.1),(9,v_i p.2.2.2.1)],[(0,Blk.row false 3 (List.map T.qb.enc p.2.2.2.2))],1⟩ = some (Ex.normal,⟨[(0,v_r 0 r),(1,v_i p.1),(2,v_i p.2.1),(3,AV.pv (PV.fn 61)),(8,v_i p.2.2.1)],[(0,Blk.row false 3 (List.map T.qb.enc r))],1⟩) := by
 refine q2r.partial_correctness _ ?_
 rintro q2r ih123 ⟨a,b,i,j,data⟩ r; dsimp only
 apply it <;> intro h1
 ·refine bw T.qb.enc fun x3 h2 f1 f2 f3 => ?_
  refine bw T.qb.enc fun x5 h4 f4 f5 f6 => ?_
  refine bs fun v7 h6 => ?_
  have f7 := qhh h6
  try simp only [en.down] at f7
  apply it <;> intro h8
  ·have f8 := map_set T.qb.enc data j.toNat x5
   try simp only [en.down] at f8
   refine bw T.qb.enc fun x10 h9 f9 f10 f11 => ?_
   try simp only [List.length_set] at f11
   have f12 := map_set T.qb.enc (data.set j.toNat x5) ((IntKind.i64.wrap (j - (1 : Int))).toNat) x3
   try simp only [en.down] at f12
   intro h; obtain ⟨f13L,f13⟩ := ih123 _ _ h; clear h
   try simp only [en.down] at f13
   clear ih123; exact ⟨by first | rfl | (simp only [List.length_set,f13L]; done),fL gp⟩
  rintro ⟨⟩
  clear ih123; exact ⟨by first | rfl | (simp only [List.length_set]; done),fL gp⟩
 rintro ⟨⟩
 clear ih123; exact ⟨by first | rfl | (simp only [List.length_set]; done),fL gp⟩
theorem z5f : ∀ p r,q3g p = some r → r.length = p.2.2.2.length ∧ O.loop 99 0 ⟨[(0,v_r 0 p.2.2.2),(1,v_i p.1),(2,v_i p.2.1),(3,AV.pv (PV.fn 61)),(8,v_i p.2.2.1)],[(0,Blk.row false 3 (List.map T.qb.enc p.2.2.2))],1⟩ = some (Ex.normal,⟨[],[(0,Blk.row false 3 (List.map T.qb.enc r))],1⟩) := by
 refine q3g.partial_correctness _ ?_
 rintro q3g ih122 ⟨a,b,i,data⟩ r; dsimp only
 apply it <;> intro h1
 ·refine bs fun v3 h2 => ?_
  obtain ⟨f1L,f1⟩ := qza _ _ h2
  try simp only [List.length_set] at f1L
  try simp only [en.down,f1L] at f1
  try simp only [f1L] at f1
  intro h; obtain ⟨f2L,f2⟩ := ih122 _ _ h; clear h
  try simp only [en.down,f1L] at f2
  try simp only [f1L] at f2
  clear ih122; exact ⟨by first | rfl | (simp only [List.length_set,f2L,f1L]; done),fL gp⟩
 rintro ⟨⟩
 clear ih122; exact ⟨by first | rfl | (simp only [List.length_set]; done),fL gp⟩
theorem qka {a b r_ r} (h : q7l a b r_ = some r) : r.length = r_.length ∧ O.call 99 [v_r 0 r_,v_i a,v_i b,AV.pv (PV.fn 61)] [(0,Blk.row false 3 (List.map T.qb.enc r_))] = some (AV.tup [],[(0,Blk.row false 3 (List.map T.qb.enc r))]) := by
 revert h; unfold q7l
 refine bs fun v2 h1 => ?_
 obtain ⟨f1L,f1⟩ := z5f _ _ h1
 try simp only [List.length_set] at f1L
 try simp only [en.down,f1L] at f1
 try simp only [f1L] at f1
 rintro ⟨⟩
 exact ⟨by first | rfl | (simp only [List.length_set,f1L]; done),fF gp⟩
theorem zf2 : ∀ p r,q6b p = some r → r.2.length = p.2.2.2.2.length ∧ O.loop 80 0 ⟨[(0,v_r 0 p.2.2.2.2),(1,v_i p.1),(2,AV.pv (PV.fn 61)),(6,v_i p.2.1),(7,v_i p.2.2.1),(8,v_i p.2.2.2.1)],[(0,Blk.row false 3 (List.map T.qb.enc p.2.2.2.2))],1⟩ = some (Ex.normal,⟨[(0,v_r 0 r.2),(1,v_i p.1),(2,AV.pv (PV.fn 61)),(6,v_i p.2.1),(7,v_i r.1)],[(0,Blk.row false 3 (List.map T.qb.enc r.2))],1⟩) := by
 refine q6b.partial_correctness _ ?_
 rintro q6b ih120 ⟨n,blockSize,a,b,data⟩ r; dsimp only
 apply it <;> intro h1
 ·refine bs fun v3 h2 => ?_
  obtain ⟨f1L,f1⟩ := qka h2
  try simp only [List.length_set] at f1L
  try simp only [en.down,f1L] at f1
  try simp only [f1L] at f1
  intro h; obtain ⟨f2L,f2⟩ := ih120 _ _ h; clear h
  try simp only [en.down,f1L] at f2
  try simp only [f1L] at f2
  clear ih120; exact ⟨by first | rfl | (simp only [List.length_set,f2L,f1L]; done),fL uq⟩
 rintro ⟨⟩
 clear ih120; exact ⟨by first | rfl | (simp only [List.length_set]; done),fL uq⟩
theorem qv5 {n blockSize a b data r} (h : qd3 n blockSize a b data = some r) : O.loop 80 4 ⟨[(0,v_r 0 data),(1,v_i n),(2,AV.pv (PV.fn 61)),(6,v_i blockSize),(7,v_i a),(8,v_i b)],[(0,Blk.row false 3 (List.map T.qb.enc data))],1⟩ = some (Ex.normal,⟨[(0,v_r 0 data),(1,v_i n),(2,AV.pv (PV.fn 61)),(6,v_i blockSize),(7,v_i a)],[(0,Blk.row false 3 (List.map T.qb.enc data))],1⟩) := by
 revert h; unfold qd3
 apply it <;> intro h1
 ·rintro ⟨⟩
 rintro ⟨⟩
 exact fL uq
theorem zhf : ∀ p r,q4i p = some r → O.loop 80 2 ⟨[(0,v_r 0 p.2.2),(1,v_i p.1),(2,AV.pv (PV.fn 61)),(6,v_i p.2.1)],[(0,Blk.row false 3 (List.map T.qb.enc p.2.2))],1⟩ = some (Ex.normal,⟨[],[(0,Blk.row false 3 (List.map T.qb.enc p.2.2))],1⟩) := by
 refine q4i.partial_correctness _ ?_
 rintro q4i ih124 ⟨n,blockSize,data⟩ r; dsimp only
 apply it <;> intro h1
 ·refine bs fun v3 h2 => ?_
  have f1 := qv5 h2
  try simp only [en.down] at f1
  apply it <;> intro h4
  ·rintro ⟨⟩
  intro h; have f2 := ih124 _ _ h; clear h
  try simp only [en.down] at f2
  clear ih124; exact fL uq
 rintro ⟨⟩
 clear ih124; exact fL uq
theorem zha {n r_ r} (h : q9w n r_ = some r) : r.length = r_.length ∧ O.call 80 [v_r 0 r_,v_i n,AV.pv (PV.fn 61)] [(0,Blk.row false 3 (List.map T.qb.enc r_))] = some (AV.tup [],[(0,Blk.row false 3 (List.map T.qb.enc r))]) := by
 revert h; unfold q9w
 refine bs fun v2 h1 => ?_
 obtain ⟨f1L,f1⟩ := zf2 _ _ h1
 try simp only [List.length_set] at f1L
 try simp only [en.down,f1L] at f1
 refine bs fun v4 h3 => ?_
 obtain ⟨f2L,f2⟩ := qka h3
 try simp only [List.length_set,f1L] at f2L
 try simp only [en.down,f1L,f2L] at f2
 refine bs fun v6 h5 => ?_
 have f3 := zhf _ _ h5
 try simp only [en.down,f1L,f2L] at f3
 try simp only [f1L,f2L] at f1 f2 f3
 rintro ⟨⟩
 exact ⟨by first | rfl | (simp only [List.length_set,f1L,f2L]; done),fF uq⟩
theorem z0s {r_ r} (h : q7x r_ = some r) : r.length = r_.length ∧ O.call 60 [v_r 0 r_,AV.pv (PV.fn 61)] [(0,Blk.row false 3 (List.map T.qb.enc r_))] = some (AV.tup [],[(0,Blk.row false 3 (List.map T.qb.enc r))]) := by
 revert h; unfold q7x
 refine bs fun v2 h1 => ?_
 obtain ⟨f1L,f1⟩ := zha h1
 try simp only [List.length_set] at f1L
 try simp only [en.down,f1L] at f1
 try simp only [f1L] at f1
 rintro ⟨⟩
 exact ⟨by first | rfl | (simp only [List.length_set,f1L]; done),fF qjl⟩
def q7q : (((Sl T.qb)) ⊕ ((List T.qb))) → AV × Heap
 | .inl y => (v_l 3 T.qb.enc y,[])
 | .inr y => (v_r 0 y,[(0,Blk.row false 3 (List.map T.qb.enc y))])
attribute [local go_sem] q7q
theorem q90 {es r} (h : q29 es = some r) : O.call 37 [v_l 3 T.qb.enc es] [] = some (q7q r) := by
 revert h; unfold q29
 refine bs fun v2 h1 => ?_
 have f1 := zik h1
 try simp only [en.down] at f1
 rcases v2 with y3 | y6
 ·dsimp only
  refine bs fun v5 h4 => ?_
  have f2 := qw9 h4
  try simp only [en.down] at f2
  rintro ⟨⟩
  exact fF qi7
 dsimp only
 refine bs fun v8 h7 => ?_
 obtain ⟨f3L,f3⟩ := z0s h7
 try simp only [List.length_set] at f3L
 try simp only [en.down,f3L] at f3
 try simp only [f3L] at f1 f3
 rintro ⟨⟩
 exact fF qi7
theorem zpx {s i j r} (h : qb2 s i j = some r) : O.loop 38 0 ⟨[(0,v_l 3 T.qb.enc s),(2,v_i i),(3,v_i j)],[],0⟩ = some (Ex.normal,⟨[],[],0⟩) := by
 revert h; unfold qb2
 apply it <;> intro h1
 ·refine bg T.qb.enc fun x3 h2 f1 f2 f3 => ?_
  refine bg T.qb.enc fun x5 h4 f4 f5 f6 => ?_
  rintro ⟨⟩
 rintro ⟨⟩
 exact fL q77
theorem qah {s r} (h : q5d s = some r) : O.call 38 [v_l 3 T.qb.enc s] [] = some (AV.tup [],[]) := by
 revert h; unfold q5d
 refine bs fun v2 h1 => ?_
 have f1 := zpx h1
 try simp only [en.down] at f1
 rintro ⟨⟩
 exact fF q77
theorem zj5 {x y r} (h : q9g x y = some r) : O.call 102 [AV.pv (PV.int IntKind.u64 x),AV.pv (PV.int IntKind.u64 y)] [] = some (AV.tup [AV.pv (PV.int IntKind.u64 r.1),AV.pv (PV.int IntKind.u64 r.2)],[]) := by
 revert h; unfold q9g
 have f1 : (0 ≤ (32 : Int)) = True := by decide
 rintro ⟨⟩
 exact fF z9v
theorem zee {x y r} (h : q93 x y = some r) : O.call 81 [AV.pv (PV.int IntKind.u64 x),AV.pv (PV.int IntKind.u64 y)] [] = some (AV.tup [AV.pv (PV.int IntKind.u64 r.1),AV.pv (PV.int IntKind.u64 r.2)],[]) := by
 revert h; unfold q93
 refine bs fun v2 h1 => ?_
 have f1 := zj5 h1
 try simp only [en.down] at f1
 rintro ⟨⟩
 exact fF qsw
theorem zhs {n newslice r} (h : qav n newslice = some r) : O.loop 62 0 ⟨[(7,v_r 0 newslice),(8,v_i n)],[(0,Blk.row false 2 (List.map (xq qh) newslice))],1⟩ = some (Ex.normal,⟨[(7,v_r 0 newslice)],[(0,Blk.row false 2 (List.map (xq qh) newslice))],1⟩) := by
 revert h; unfold qav
 apply it <;> intro h1
 ·rintro ⟨⟩
 rintro ⟨⟩
 exact fL qk1
theorem z5c {x count r} (h : q6q x count = some r) : O.call 62 [v_l 2 (xq qh) x,v_i count] [] = some (v_r 0 r,[(0,Blk.row false 2 (List.map (xq qh) r))]) := by
 revert h; unfold q6q
 apply it <;> intro h1
 ·rintro ⟨⟩
 refine bs fun v3 h2 => ?_
 have f1 := zee h2
 try simp only [en.down] at f1
 refine q2l ?_ (fun h4 h5 => ?_)
 ·rintro (⟨h4,h5⟩ | ⟨h4,h5⟩)
  all_goals
  rintro ⟨⟩
 refine gd fun h6 => ?_
 have f2 := q1j IntKind.i64 h6
 refine gd fun h7 => ?_
 have f3 : List.replicate (IntKind.i64.wrap v3.2).toNat [PV.int IntKind.i64 (0 : Int),PV.int IntKind.i64 (0 : Int)] = List.map (xq qh) (List.replicate (IntKind.i64.wrap v3.2).toNat ((0 : Int),(0 : Int))) := by rw [List.map_replicate]; rfl
 have f4 := q4c 2 (xq qh) x.l
 have f5 := qs0 (xq qh) x.l (List.replicate (IntKind.i64.wrap v3.2).toNat ((0 : Int),(0 : Int)))
 have f6 := qls (xq qh) x.l (List.replicate (IntKind.i64.wrap v3.2).toNat ((0 : Int),(0 : Int)))
 have f7 := qri x.l (List.replicate (IntKind.i64.wrap v3.2).toNat ((0 : Int),(0 : Int)))
 refine bs fun v9 h8 => ?_
 have f8 := zhs h8
 try simp only [en.down,f7] at f8
 try simp only [f7] at f1 f8
 rintro ⟨⟩
 exact fF qk1
theorem z4o : ∀ p r,q3s p = some r → O.loop 40 0 ⟨[(0,AV.ptr 0 0),(1,v_i p.1),(5,v_b p.2.1),(10,AV.ptr 2 0),(12,v_r 4 p.2.2.2.2.2.2.2.1),(13,AV.ptr 5 0),(14,v_i p.2.2.1)],[(0,Blk.box [v_s p.2.2.2.1,v_l 2 T.Sel.enc p.2.2.2.2.1,v_r 1 p.2.2.2.2.2.1]),(1,b_r 3 T.qc.enc p.2.2.2.2.2.1),(2,b_x (T.qb.enc p.2.2.2.2.2.2.1)),(3,Blk.dead),(4,Blk.row false 2 (List.map (xq qh) p.2.2.2.2.2.2.2.1)),(5,b_x (T.Span.enc p.2.2.2.2.2.2.2.2))],6⟩ = some (Ex.normal,⟨[(0,AV.ptr 0 0),(1,v_i p.1),(5,v_b p.2.1),(10,AV.ptr 2 0),(12,v_r 4 r.1)],[(0,Blk.box [v_s p.2.2.2.1,v_l 2 T.Sel.enc p.2.2.2.2.1,v_r 1 p.2.2.2.2.2.1]),(1,b_r 3 T.qc.enc p.2.2.2.2.2.1),(2,b_x (T.qb.enc p.2.2.2.2.2.2.1)),(3,Blk.dead),(4,Blk.row false 2 (List.map (xq qh) r.1)),(5,b_x (T.Span.enc r.2))],6⟩) := by
 refine q3s.partial_correctness _ ?_
 rintro q3s ih134 ⟨depth,typed,k,w,w2,r1_,e,owners,at_⟩ r; dsimp only
 apply it <;> intro h1
 ·refine bW T.qc.enc 3 fun x3 h2 f1 f2 f3 f4 f5 => ?_
  refine bs fun v5 h4 => ?_
  have f6 := q4k h4
  try simp only [en.down,f4,f5] at f6
  apply it <;> intro h6
  ·refine bw (xq qh) fun x8 h7 f7 f8 f9 => ?_
   have f10 := map_set (xq qh) owners k.toNat v5
   try simp only [en.down] at f10
   refine bg T.qa.enc fun x10 h9 f11 f12 f13 => ?_
   try simp only [f4,f5] at f6 f10
   intro h; have f14 := ih134 _ _ h; clear h
   try simp only [en.down,f4,f5] at f14
   try simp only [f4,f5] at f14
   clear ih134; exact fL ma
  try simp only [f4,f5] at f6
  intro h; have f15 := ih134 _ _ h; clear h
  try simp only [en.down,f4,f5] at f15
  try simp only [f4,f5] at f15
  clear ih134; exact fL ma
 rintro ⟨⟩
 clear ih134; exact fL ma
theorem qy2 {inst stop deep t19 t20 t21 s b1_ t10 t102 t103 t104 t105 r_ r_2 r_3 r_4 r_5 b4_ r5_ r} (h : q8l inst stop deep t19 t20 t21 s b1_ t10 t102 t103 t104 t105 r_ r_2 r_3 r_4 r_5 b4_ r5_ = some r) : O.loop 82 0 ⟨[(1,v_i inst),(2,v_i stop),(4,v_b deep),(5,AV.ptr 0 0),(10,AV.ptr 2 0),(11,AV.ptr 3 0),(19,v_l 3 T.qa.enc t19),(20,v_i t20),(21,v_i t21)],[(0,b_x (T.qf.enc s)),(1,b_x (T.qb.enc b1_)),(2,Blk.box [v_i t10,v_i t102,v_s t103,AV.pv (PV.sl true 0 []),v_i t104,v_i t105]),(3,Blk.box [v_i r_,v_i r_2,v_s r_3,AV.row 7 1 0 1,v_i r_4,v_i r_5]),(4,b_x (T.qa.enc b4_)),(5,Blk.row false 1 (List.map qh r5_)),(6,Blk.qm 1 [[v_r 5 r5_]]),(7,Blk.qm 1 [[v_r 5 r5_]])],8⟩ = some (Ex.normal,⟨[(1,v_i inst),(2,v_i stop),(4,v_b deep),(5,AV.ptr 0 0),(10,AV.ptr 2 0),(11,AV.ptr 3 0)],[(0,b_x (T.qf.enc s)),(1,b_x (T.qb.enc b1_)),(2,Blk.box [v_i t10,v_i t102,v_s t103,AV.pv (PV.sl true 0 []),v_i t104,v_i t105]),(3,Blk.box [v_i r_,v_i r_2,v_s r_3,AV.row 7 1 0 1,v_i r_4,v_i r_5]),(4,b_x (T.qa.enc b4_)),(5,Blk.row false 1 (List.map qh r5_)),(6,Blk.qm 1 [[v_r 5 r5_]]),(7,Blk.qm 1 [[v_r 5 r5_]])],8⟩) := by
 revert h; unfold q8l
 apply it <;> intro h1
 ·refine bg T.qa.enc fun x3 h2 f1 f2 f3 => ?_
  refine gd fun h4 => ?_
  have f4 := q1j IntKind.i64 h4
  refine gd fun h5 => ?_
  have f5 : List.replicate (IntKind.i64.wrap ((x3.stops.l.length : Int) + (1 : Int))).toNat [PV.int IntKind.i64 (0 : Int)] = List.map qh (List.replicate (IntKind.i64.wrap ((x3.stops.l.length : Int) + (1 : Int))).toNat (0 : Int)) := by rw [List.map_replicate]; rfl
  refine gd fun h6 => ?_
  rintro ⟨⟩
 rintro ⟨⟩
 exact fL kr
def qd5 (inst : Int) (stop : Int) (deep : Bool) (s : T.qf) (b1_ : T.qb) (t10 : Int) (t102 : Int) (t103 : Bytes) (t104 : Int) (t105 : Int) (r_ : Int) (r_2 : Int) (r_3 : Bytes) (r_4 : Int) (r_5 : Int) : ((T.qa × (List Int)) ⊕ (Unit)) → Ex × St
 | .inl y => (Ex.normal,⟨[(1,v_i inst),(2,v_i stop),(4,v_b deep),(5,AV.ptr 0 0),(10,AV.ptr 2 0),(11,AV.ptr 3 0)],[(0,b_x (T.qf.enc s)),(1,b_x (T.qb.enc b1_)),(2,Blk.box [v_i t10,v_i t102,v_s t103,AV.pv (PV.sl true 0 []),v_i t104,v_i t105]),(3,Blk.box [v_i r_,v_i r_2,v_s r_3,AV.row 7 1 0 1,v_i r_4,v_i r_5]),(4,b_x (T.qa.enc y.1)),(5,Blk.row false 1 (List.map qh y.2)),(6,Blk.qm 1 [[v_r 5 y.2]]),(7,Blk.qm 1 [[v_r 5 y.2]])],8⟩)
 | .inr y => (Ex.normal,⟨[(1,v_i inst),(2,v_i stop),(4,v_b deep),(5,AV.ptr 0 0),(10,AV.ptr 2 0),(11,AV.ptr 3 0)],[(0,b_x (T.qf.enc s)),(1,b_x (T.qb.enc b1_)),(2,Blk.box [v_i t10,v_i t102,v_s t103,AV.pv (PV.sl true 0 []),v_i t104,v_i t105]),(3,Blk.box [v_i r_,v_i r_2,v_s r_3,AV.pv (PV.sl true 0 []),v_i r_4,v_i r_5])],4⟩)
attribute [local go_sem] qd5
theorem qz4 {inst stop deep t19 t20 t21 s b1_ t10 t102 t103 t104 t105 r_ r_2 r_3 r_4 r_5 r} (h : q81 inst stop deep t19 t20 t21 s b1_ t10 t102 t103 t104 t105 r_ r_2 r_3 r_4 r_5 = some r) : O.loop 82 0 ⟨[(1,v_i inst),(2,v_i stop),(4,v_b deep),(5,AV.ptr 0 0),(10,AV.ptr 2 0),(11,AV.ptr 3 0),(19,v_l 3 T.qa.enc t19),(20,v_i t20),(21,v_i t21)],[(0,b_x (T.qf.enc s)),(1,b_x (T.qb.enc b1_)),(2,Blk.box [v_i t10,v_i t102,v_s t103,AV.pv (PV.sl true 0 []),v_i t104,v_i t105]),(3,Blk.box [v_i r_,v_i r_2,v_s r_3,AV.pv (PV.sl true 0 []),v_i r_4,v_i r_5])],4⟩ = some (qd5 inst stop deep s b1_ t10 t102 t103 t104 t105 r_ r_2 r_3 r_4 r_5 r) := by
 revert h; unfold q81
 apply it <;> intro h1
 ·refine bg T.qa.enc fun x3 h2 f1 f2 f3 => ?_
  refine gd fun h4 => ?_
  have f4 := q1j IntKind.i64 h4
  refine gd fun h5 => ?_
  have f5 : List.replicate (IntKind.i64.wrap ((x3.stops.l.length : Int) + (1 : Int))).toNat [PV.int IntKind.i64 (0 : Int)] = List.map qh (List.replicate (IntKind.i64.wrap ((x3.stops.l.length : Int) + (1 : Int))).toNat (0 : Int)) := by rw [List.map_replicate]; rfl
  refine gd fun h6 => ?_
  refine bs fun v8 h7 => ?_
  have f6 := qy2 h7
  try simp only [en.down] at f6
  rintro ⟨⟩
  exact fL kr
 rintro ⟨⟩
 exact fL kr
theorem q56 {i k r} (h : q0d i k = some r) : O.call 106 [v_g (T.qa.enc i),v_i k] [] = some (v_i r,[]) := by
 revert h; unfold q0d
 refine bg T.Stop.enc fun x2 h1 f1 f2 f3 => ?_
 refine q0r (fun h3 h4 => ?_) ?_
 ·rintro ⟨⟩
  exact fF qee
 rintro (⟨h3,h4⟩ | ⟨h3,h4⟩)
 all_goals
 rintro ⟨⟩
 exact fF qee
theorem z09 : ∀ p r,q0o p = some r → r.length = p.2.2.2.2.2.2.2.2.1.length ∧ O.loop 103 0 ⟨[(0,AV.ptr 0 0),(2,v_i p.1),(3,v_b p.2.1),(5,AV.ptr 3 0),(8,v_r 2 p.2.2.2.2.2.2.2.2.1),(9,v_i p.2.2.1)],[(0,Blk.box [v_i p.2.2.2.1,v_i p.2.2.2.2.1,v_s p.2.2.2.2.2.1,AV.row 1 1 0 1,v_i p.2.2.2.2.2.2.1,v_i p.2.2.2.2.2.2.2.1]),(1,Blk.qm 1 [[v_r 2 p.2.2.2.2.2.2.2.2.1]]),(2,Blk.row false 1 (List.map qh p.2.2.2.2.2.2.2.2.1)),(3,b_x (T.qa.enc p.2.2.2.2.2.2.2.2.2))],4⟩ = some (Ex.normal,⟨[(0,AV.ptr 0 0),(2,v_i p.1),(3,v_b p.2.1),(5,AV.ptr 3 0),(8,v_r 2 r)],[(0,Blk.box [v_i p.2.2.2.1,v_i p.2.2.2.2.1,v_s p.2.2.2.2.2.1,AV.row 1 1 0 1,v_i p.2.2.2.2.2.2.1,v_i p.2.2.2.2.2.2.2.1]),(1,Blk.qm 1 [[v_r 2 r]]),(2,Blk.row false 1 (List.map qh r)),(3,b_x (T.qa.enc p.2.2.2.2.2.2.2.2.2))],4⟩) := by
 refine q0o.partial_correctness _ ?_
 rintro q0o ih141 ⟨stop,deep,k,r_,r_2,r_3,r_4,r_5,does,i⟩ r; dsimp only
 apply it <;> intro h1
 ·refine bw qh fun x3 h2 f1 f2 f3 => ?_
  have f4 := map_set qh does ((IntKind.i64.wrap (k + (1 : Int))).toNat) (1 : Int)
  try simp only [en.down] at f4
  refine bs fun v5 h4 => ?_
  have f5 := q56 h4
  try simp only [en.down] at f5
  intro h; obtain ⟨f6L,f6⟩ := ih141 _ _ h; clear h
  try simp only [en.down] at f6
  clear ih141; exact ⟨by first | rfl | (simp only [List.length_set,f6L]; done),fL yo⟩
 rintro ⟨⟩
 clear ih141; exact ⟨by first | rfl | (simp only [List.length_set]; done),fL yo⟩
theorem qi6 {x b b_2 b_3 b_4 b_5 r_ r} (h : q9o x b b_2 b_3 b_4 b_5 r_ = some r) : O.call 122 [AV.ptr 0 0,v_g (T.Span.enc x)] [(0,Blk.box [v_i b,v_i b_2,v_s b_3,AV.row 1 1 0 1,v_i b_4,v_i b_5]),(1,Blk.qm 1 [[v_r 2 r_]]),(2,Blk.row false 1 (List.map qh r_))] = some (v_b r,[(0,Blk.box [v_i b,v_i b_2,v_s b_3,AV.row 1 1 0 1,v_i b_4,v_i b_5]),(1,Blk.qm 1 [[v_r 2 r_]]),(2,Blk.row false 1 (List.map qh r_))]) := by
 revert h; unfold q9o
 refine q0r (fun h1 h2 => ?_) ?_
 ·rintro ⟨⟩
  exact fF qdh
 rintro (⟨h1,h2⟩ | ⟨h1,h2⟩)
 all_goals
 apply it <;> intro h6
 ·refine bs fun v8 h7 => ?_
  have f1 := q7b h7
  try simp only [en.down] at f1
  rintro ⟨⟩
  exact fF qdh
 rintro ⟨⟩
 exact fF qdh
end Go.Proofs.YtkbgphcebakcnaaGreat
