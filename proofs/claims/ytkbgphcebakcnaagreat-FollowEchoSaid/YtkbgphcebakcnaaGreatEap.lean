/-
  What the machine's calls come to: the plain functions.
-/
import Derived.Test.YtkbgphcebakcnaaGreatEaj
import Derived.Test.YtkbgphcebakcnaaGreatEak
import Derived.Test.YtkbgphcebakcnaaGreatEal
import Derived.Test.YtkbgphcebakcnaaGreatEam
import Derived.Test.YtkbgphcebakcnaaGreatEan
import Derived.Test.YtkbgphcebakcnaaGreatEao
set_option linter.unusedSimpArgs false
set_option linter.unusedVariables false
set_option maxRecDepth 100000
namespace Go.Proofs.YtkbgphcebakcnaaGreat
open Go Go.Gm
attribute [local go_sem] qa2 qdq q7q
attribute [local go_sem] qbm qb8
set_option maxHeartbeats 4000000
theorem zgo : ∀ p r,q44 p = some r → O.loop 22 0 ⟨[(0,AV.ptr 0 0),(2,AV.ptr 2 0),(3,v_r 3 p.2.2.2.2.2.2),(9,v_r 1 p.2.2.2.2.1),(10,v_i p.1),(11,v_i p.2.1)],[(0,Blk.box [v_s p.2.2.1,v_l 2 T.Sel.enc p.2.2.2.1,v_r 1 p.2.2.2.2.1]),(1,b_r 3 T.qc.enc p.2.2.2.2.1),(2,b_x (T.State.enc p.2.2.2.2.2.1)),(3,b_r 2 T.qf.enc p.2.2.2.2.2.2)],4⟩ = some (Ex.normal,⟨[(0,AV.ptr 0 0),(2,AV.ptr 2 0),(3,v_r 3 r)],[(0,Blk.box [v_s p.2.2.1,v_l 2 T.Sel.enc p.2.2.2.1,v_r 1 p.2.2.2.2.1]),(1,b_r 3 T.qc.enc p.2.2.2.2.1),(2,b_x (T.State.enc p.2.2.2.2.2.1)),(3,b_r 2 T.qf.enc r)],4⟩) := by
 refine q44.partial_correctness _ ?_
 rintro q44 ih198 ⟨t10,t11,w,w2,t9,t2,all_⟩ r; dsimp only
 apply it <;> intro h1
 ·refine bW T.qc.enc 3 fun x3 h2 f1 f2 f3 f4 f5 => ?_
  refine gd fun h4 => ?_
  have f6 := rG 2 T.qf.enc all_
  have f7 : List.map T.qf.enc all_ ++ [[PV.int IntKind.i64 x3.session.cur,PV.sl x3.session.insts.nil (szc 3 x3.session.insts.l) (List.map T.qa.enc x3.session.insts.l)]] = List.map T.qf.enc (all_ ++ [x3.session]) := by simp only [List.map_append,List.map_cons,List.map_nil,qx,qy,qw,T.qf.qi] <;> rfl
  intro h; have f8 := ih198 _ _ h; clear h
  try simp only [en.down,f4,f5] at f8
  try simp only [f4,f5] at f8
  clear ih198; exact fL qdd
 rintro ⟨⟩
 clear ih198; exact fL qdd
theorem zb0 : ∀ p r,q3e p = some r → O.loop 43 0 ⟨[(1,AV.ptr 1 0),(2,AV.ptr 2 0),(3,v_r 3 p.2.2.2.2.2.2),(7,v_r 0 p.2.2.1),(8,v_i p.1),(9,v_i p.2.1)],[(0,b_r 2 T.qf.enc p.2.2.1),(1,Blk.box [v_s p.2.2.2.1,v_l 2 T.Sel.enc p.2.2.2.2.1,v_r 0 p.2.2.1]),(2,b_x (T.State.enc p.2.2.2.2.2.1)),(3,b_r 2 T.qf.enc p.2.2.2.2.2.2)],4⟩ = some (Ex.normal,⟨[(1,AV.ptr 1 0),(2,AV.ptr 2 0),(3,v_r 3 r)],[(0,b_r 2 T.qf.enc p.2.2.1),(1,Blk.box [v_s p.2.2.2.1,v_l 2 T.Sel.enc p.2.2.2.2.1,v_r 0 p.2.2.1]),(2,b_x (T.State.enc p.2.2.2.2.2.1)),(3,b_r 2 T.qf.enc r)],4⟩) := by
 refine q3e.partial_correctness _ ?_
 rintro q3e ih200 ⟨t8,t9,t7,st,st2,t2,all_⟩ r; dsimp only
 apply it <;> intro h1
 ·refine bW T.qf.enc 2 fun x3 h2 f1 f2 f3 f4 f5 => ?_
  refine bs fun v5 h4 => ?_
  have f6 := qgq h4
  try simp only [en.down,f4,f5] at f6
  refine gd fun h6 => ?_
  have f7 := rG 2 T.qf.enc all_
  have f8 : List.map T.qf.enc all_ ++ [[PV.int IntKind.i64 v5.cur,PV.sl v5.insts.nil (szc 3 v5.insts.l) (List.map T.qa.enc v5.insts.l)]] = List.map T.qf.enc (all_ ++ [v5]) := by simp only [List.map_append,List.map_cons,List.map_nil,qx,qy,qw,T.qf.qi] <;> rfl
  try simp only [f4,f5] at f6
  intro h; have f9 := ih200 _ _ h; clear h
  try simp only [en.down,f4,f5] at f9
  try simp only [f4,f5] at f9
  clear ih200; exact fL qag
 rintro ⟨⟩
 clear ih200; exact fL qag
theorem zc4 {st st2 r_ r} (h : q95 st st2 r_ = some r) : O.call 43 [AV.agg [v_s st,v_l 2 T.Sel.enc st2,v_r 0 r_]] [(0,b_r 2 T.qf.enc r_)] = some (v_g (T.State.enc r),[(0,b_r 2 T.qf.enc r_)]) := by
 revert h; unfold q95
 refine bs fun v2 h1 => ?_
 have f1 := zb0 _ _ h1
 try simp only [en.down] at f1
 refine bs fun v4 h3 => ?_
 have f2 := qdz h3
 try simp only [en.down] at f2
 rcases v4 with y5 | y6
 ·dsimp only
  rintro ⟨⟩
  exact fF qag
 dsimp only
 rintro ⟨⟩
 exact fF qag
theorem qgf {b b_2 r_ r} (h : q4v b b_2 r_ = some r) : O.call 22 [AV.ptr 0 0] [(0,Blk.box [v_s b,v_l 2 T.Sel.enc b_2,v_r 1 r_]),(1,b_r 3 T.qc.enc r_)] = some (v_g (T.State.enc r),[(0,Blk.box [v_s b,v_l 2 T.Sel.enc b_2,v_r 1 r_]),(1,b_r 3 T.qc.enc r_)]) := by
 revert h; unfold q4v
 refine bs fun v2 h1 => ?_
 have f1 := zgo _ _ h1
 try simp only [en.down] at f1
 refine bs fun v4 h3 => ?_
 have f2 := zc4 h3
 try simp only [en.down] at f2
 rintro ⟨⟩
 exact fF qdd
theorem zki {es w r1_ r2_ r} (h : q9l es w r1_ r2_ = some r) : O.loop 18 0 ⟨[(0,AV.ptr 0 0),(1,v_l 3 T.qb.enc es)],[(0,Blk.box [v_s w,v_r 1 r1_,v_r 2 r2_]),(1,Blk.row false 2 (List.map T.Sel.enc r1_)),(2,b_r 3 T.qc.enc r2_)],3⟩ = some (Ex.normal,⟨[],[(0,Blk.box [v_s w,v_r 1 r1_,v_r 2 r2_]),(1,Blk.row false 2 (List.map T.Sel.enc r1_)),(2,b_r 3 T.qc.enc r2_)],3⟩) := by
 revert h; unfold q9l
 apply it <;> intro h1
 ·refine bW T.qc.enc 3 fun x3 h2 f1 f2 f3 f4 f5 => ?_
  refine bs fun v5 h4 => ?_
  have f6 := qgw h4
  try simp only [en.down,f4,f5] at f6
  apply it <;> intro h6
  ·rintro ⟨⟩
  try simp only [f4,f5] at f6
  rintro ⟨⟩
  exact fL q53
 rintro ⟨⟩
 exact fL q53
theorem z3c {es b r_ r_2 r} (h : q7c es b r_ r_2 = some r) : O.call 18 [AV.ptr 0 0,v_l 3 T.qb.enc es] [(0,Blk.box [v_s b,v_r 1 r_,v_r 2 r_2]),(1,Blk.row false 2 (List.map T.Sel.enc r_)),(2,b_r 3 T.qc.enc r_2)] = some (AV.tup [],[(0,Blk.box [v_s b,v_r 1 r_,v_r 2 r_2]),(1,Blk.row false 2 (List.map T.Sel.enc r_)),(2,b_r 3 T.qc.enc r_2)]) := by
 revert h; unfold q7c
 refine bs fun v2 h1 => ?_
 have f1 := zki h1
 try simp only [en.down] at f1
 rintro ⟨⟩
 exact fF q53
theorem zol : ∀ p r,q63 p = some r → O.loop 19 0 ⟨[(0,AV.ptr 0 0),(14,v_l 3 T.qb.enc p.1),(15,v_i p.2.1),(16,v_i p.2.2.1)],[(0,Blk.box [v_s p.2.2.2.1,v_l 2 T.Sel.enc p.2.2.2.2.1,v_r 2 p.2.2.2.2.2]),(1,Blk.dead),(2,b_r 3 T.qc.enc p.2.2.2.2.2)],3⟩ = some (Ex.normal,⟨[],[(0,Blk.box [v_s r.1,v_l 2 T.Sel.enc r.2.1,v_r 2 r.2.2]),(1,Blk.dead),(2,b_r 3 T.qc.enc r.2.2)],3⟩) := by
 refine q63.partial_correctness _ ?_
 rintro q63 ih204 ⟨t14,t15,t16,w,w2,r2_⟩ r; dsimp only
 apply it <;> intro h1
 ·refine bg T.qb.enc fun x3 h2 f1 f2 f3 => ?_
  apply it <;> intro h4
  ·refine bW T.qc.enc 3 fun x6 h5 f4 f5 f6 f7 f8 => ?_
   refine bs fun v8 h7 => ?_
   have f9 := q4k h7
   try simp only [en.down,f7,f8] at f9
   refine bs fun v10 h9 => ?_
   have f10 := q17 h9
   try simp only [en.down,f7,f8] at f10
   try simp only [f7,f8] at f9 f10
   intro h; have f11 := ih204 _ _ h; clear h
   try simp only [en.down,f7,f8] at f11
   try simp only [f7,f8] at f11
   clear ih204; exact fL jw
  refine bs fun v12 h11 => ?_
  have f12 := q17 h11
  try simp only [en.down] at f12
  intro h; have f13 := ih204 _ _ h; clear h
  try simp only [en.down] at f13
  clear ih204; exact fL jw
 rintro ⟨⟩
 clear ih204; exact fL jw
theorem z6d : ∀ p r,q1s p = some r → O.loop 19 0 ⟨[(0,AV.ptr 0 0),(14,v_r 3 p.2.2.2.2.2),(15,v_i p.1),(16,v_i p.2.1)],[(0,Blk.box [v_s p.2.2.1,v_l 2 T.Sel.enc p.2.2.2.1,v_r 2 p.2.2.2.2.1]),(1,Blk.dead),(2,b_r 3 T.qc.enc p.2.2.2.2.1),(3,Blk.row false 3 (List.map T.qb.enc p.2.2.2.2.2))],4⟩ = some (Ex.normal,⟨[],[(0,Blk.box [v_s r.1,v_l 2 T.Sel.enc r.2.1,v_r 2 r.2.2]),(1,Blk.dead),(2,b_r 3 T.qc.enc r.2.2),(3,Blk.row false 3 (List.map T.qb.enc p.2.2.2.2.2))],4⟩) := by
 refine q1s.partial_correctness _ ?_
 rintro q1s ih205 ⟨t15,t16,w,w2,r2_,t14⟩ r; dsimp only
 apply it <;> intro h1
 ·refine bw T.qb.enc fun x3 h2 f1 f2 f3 => ?_
  apply it <;> intro h4
  ·refine bW T.qc.enc 3 fun x6 h5 f4 f5 f6 f7 f8 => ?_
   refine bs fun v8 h7 => ?_
   have f9 := q4k h7
   try simp only [en.down,f7,f8] at f9
   refine bs fun v10 h9 => ?_
   have f10 := q17 h9
   try simp only [en.down,f7,f8] at f10
   try simp only [f7,f8] at f9 f10
   intro h; have f11 := ih205 _ _ h; clear h
   try simp only [en.down,f7,f8] at f11
   try simp only [f7,f8] at f11
   clear ih205; exact fL jw
  refine bs fun v12 h11 => ?_
  have f12 := q17 h11
  try simp only [en.down] at f12
  intro h; have f13 := ih205 _ _ h; clear h
  try simp only [en.down] at f13
  clear ih205; exact fL jw
 rintro ⟨⟩
 clear ih205; exact fL jw
theorem qo6 {es b r_ r_2 r} (h : q6v es b r_ r_2 = some r) : O.call 19 [AV.ptr 0 0,v_l 3 T.qb.enc es] [(0,Blk.box [v_s b,v_r 1 r_,v_r 2 r_2]),(1,Blk.row false 2 (List.map T.Sel.enc r_)),(2,b_r 3 T.qc.enc r_2)] = some (AV.tup [],[(0,Blk.box [v_s r.1,v_l 2 T.Sel.enc r.2.1,v_r 2 r.2.2]),(1,Blk.dead),(2,b_r 3 T.qc.enc r.2.2)]) := by
 revert h; unfold q6v
 refine bs fun v2 h1 => ?_
 have f1 := q90 h1
 try simp only [en.down] at f1
 rcases v2 with y3 | y8
 ·dsimp only
  refine bs fun v5 h4 => ?_
  have f2 := qah h4
  try simp only [en.down] at f2
  refine bs fun v7 h6 => ?_
  have f3 := zol _ _ h6
  try simp only [en.down] at f3
  rintro ⟨⟩
  exact fF jw
 dsimp only
 refine bs fun v10 h9 => ?_
 obtain ⟨f4L,f4⟩ := qat h9
 try simp only [List.length_set] at f4L
 try simp only [en.down,f4L] at f4
 refine bs fun v12 h11 => ?_
 have f5 := z6d _ _ h11
 try simp only [en.down,f4L] at f5
 try simp only [f4L] at f1 f4 f5
 rintro ⟨⟩
 exact fF jw
theorem qfl {st es r} (h : q1x st es = some r) : O.call 7 [v_g (T.State.enc st),v_l 3 T.qb.enc es] [] = some (AV.tup [v_g (T.State.enc r.1),v_i r.2],[]) := by
 revert h; unfold q1x
 refine bs fun v2 h1 => ?_
 have f1 := qtp h1
 try simp only [en.down] at f1
 apply it <;> intro h3
 ·rintro ⟨⟩
  exact fF fn7
 refine bs fun v5 h4 => ?_
 have f2 := zn8 h4
 try simp only [en.down] at f2
 apply it <;> intro h6
 ·rintro ⟨⟩
  exact fF fn7
 refine bs fun v8 h7 => ?_
 have f3 := qtr h7
 try simp only [en.down] at f3
 rcases v8 with y9 | y21
 ·dsimp only
  refine bs fun v11 h10 => ?_
  have f4 := qsm h10
  try simp only [en.down] at f4
  refine bs fun v13 h12 => ?_
  have f5 := qrg h12
  try simp only [en.down] at f5
  refine bs fun v15 h14 => ?_
  have f6 := qjf h14
  try simp only [en.down] at f6
  apply it <;> intro h16
  ·rintro ⟨⟩
   exact fF fn7
  refine bs fun v18 h17 => ?_
  have f7 := qi2 h17
  try simp only [en.down] at f7
  refine bs fun v20 h19 => ?_
  have f8 := qgf h19
  try simp only [en.down] at f8
  rintro ⟨⟩
  exact fF fn7
 dsimp only
 refine bs fun v23 h22 => ?_
 have f9 := z3c h22
 try simp only [en.down] at f9
 refine bs fun v25 h24 => ?_
 have f10 := qo6 h24
 try simp only [en.down] at f10
 refine bs fun v27 h26 => ?_
 have f11 := qjf h26
 try simp only [en.down] at f11
 apply it <;> intro h28
 ·rintro ⟨⟩
  exact fF fn7
 refine bs fun v30 h29 => ?_
 have f12 := qi2 h29
 try simp only [en.down] at f12
 refine bs fun v32 h31 => ?_
 have f13 := qgf h31
 try simp only [en.down] at f13
 rintro ⟨⟩
 exact fF fn7
theorem qj1 {st r} (h : q5s st = some r) : O.call 10 [v_g (T.State.enc st)] [] = some (v_g (T.qf.enc r),[]) := by
 revert h; unfold q5s
 apply it <;> intro h1
 ·rintro ⟨⟩
  exact fF qhs
 refine bg T.qf.enc fun x3 h2 f1 f2 f3 => ?_
 rintro ⟨⟩
 exact fF qhs
def qkm (a : T.Rx) (b : T.Rx) : ((Bool) ⊕ (Unit)) → Ex × St
 | .inl y => (Ex.ret,⟨[(2,AV.ptr 0 0),(3,AV.ptr 1 0),(4,v_b y)],[(0,b_x (T.Rx.enc a)),(1,b_x (T.Rx.enc b))],2⟩)
 | .inr y => (Ex.normal,⟨[(2,AV.ptr 0 0),(3,AV.ptr 1 0),(4,AV.undef)],[(0,b_x (T.Rx.enc a)),(1,b_x (T.Rx.enc b))],2⟩)
attribute [local go_sem] qkm
theorem qqo : ∀ p r,q5l p = some r → O.loop 94 0 ⟨[(2,AV.ptr 0 0),(3,AV.ptr 1 0),(5,v_i p.1)],[(0,b_x (T.Rx.enc p.2.1)),(1,b_x (T.Rx.enc p.2.2))],2⟩ = some (qkm p.2.1 p.2.2 r) := by
 refine q5l.partial_correctness _ ?_
 rintro q5l ih214 ⟨i,a,b⟩ r; dsimp only
 apply it <;> intro h1
 ·refine bg T.Row.enc fun x3 h2 f1 f2 f3 => ?_
  refine bg T.Row.enc fun x5 h4 f4 f5 f6 => ?_
  apply it <;> intro h6
  ·rintro ⟨⟩
   clear ih214; exact fL tq
  intro h; have f7 := ih214 _ _ h; clear h
  try simp only [en.down] at f7
  clear ih214; exact fL tq
 rintro ⟨⟩
 clear ih214; exact fL tq
def qiu (a : T.Rx) (b : T.Rx) : ((Bool) ⊕ (Unit)) → Ex × St
 | .inl y => (Ex.ret,⟨[(4,v_b y)],[(0,b_x (T.Rx.enc a)),(1,b_x (T.Rx.enc b))],2⟩)
 | .inr y => (Ex.normal,⟨[(4,AV.undef)],[(0,b_x (T.Rx.enc a)),(1,b_x (T.Rx.enc b))],2⟩)
attribute [local go_sem] qiu
theorem zi4 : (∀ p r,q45 p = some r → O.call 94 [v_g (T.Rx.enc p.1),v_g (T.Rx.enc p.2)] [] = some (v_b r,[])) ∧ (∀ p r,q65 p = some r → O.loop 94 2 ⟨[(2,AV.ptr 0 0),(3,AV.ptr 1 0),(6,v_i p.1)],[(0,b_x (T.Rx.enc p.2.1)),(1,b_x (T.Rx.enc p.2.2))],2⟩ = some (qiu p.2.1 p.2.2 r)) := by
 refine q45.mutual_partial_correctness _ _ ?_ ?_
 ·rintro q65 ih215 ⟨a,b⟩ r; dsimp only
  refine zac ?_ (fun h1 h2 h3 h4 h5 h6 h7 h8 => ?_)
  ·rintro (⟨h1,h2,h3,h4,h5,h6,h7,h8⟩ | ⟨h1,h2,h3,h4,h5,h6,h7,h8⟩ | ⟨h1,h2,h3,h4,h5,h6,h7,h8⟩ | ⟨h1,h2,h3,h4,h5,h6,h7,h8⟩ | ⟨h1,h2,h3,h4,h5,h6,h7,h8⟩ | ⟨h1,h2,h3,h4,h5,h6,h7,h8⟩ | ⟨h1,h2,h3,h4,h5,h6,h7,h8⟩ | ⟨h1,h2,h3,h4,h5,h6,h7,h8⟩)
   all_goals
   rintro ⟨⟩
   clear ih215; exact fF tq
  refine bs fun v10 h9 => ?_
  have f1 := qqo _ _ h9
  try simp only [en.down] at f1
  rcases v10 with y11 | y12
  ·dsimp only
   rintro ⟨⟩
   clear ih215; exact fF tq
  dsimp only
  refine bs fun v14 h13 => ?_
  have f2 := ih215 _ _ h13
  try simp only [en.down] at f2
  rcases v14 with y15 | y16
  ·dsimp only
   rintro ⟨⟩
   clear ih215; exact fF tq
  dsimp only
  rintro ⟨⟩
  clear ih215; exact fF tq
 ·rintro q45 q65 ih213 ih215 ⟨i,a,b⟩ r; dsimp only
  apply it <;> intro h1
  ·refine bg T.Rx.enc fun x3 h2 f1 f2 f3 => ?_
   refine bg T.Rx.enc fun x5 h4 f4 f5 f6 => ?_
   refine bs fun v7 h6 => ?_
   have f7 := ih213 _ _ h6
   try simp only [en.down] at f7
   apply it <;> intro h8
   ·rintro ⟨⟩
    clear ih213 ih215; exact fL tq
   intro h; have f8 := ih215 _ _ h; clear h
   try simp only [en.down] at f8
   clear ih213 ih215; exact fL tq
  rintro ⟨⟩
  clear ih213 ih215; exact fL tq
def qgy (a : T.Form) (b : T.Form) : ((Bool) ⊕ (Unit)) → Ex × St
 | .inl y => (Ex.ret,⟨[(4,v_b y)],[(0,b_x (T.Form.enc a)),(1,b_x (T.Form.enc b))],2⟩)
 | .inr y => (Ex.normal,⟨[(4,AV.undef)],[(0,b_x (T.Form.enc a)),(1,b_x (T.Form.enc b))],2⟩)
attribute [local go_sem] qgy
theorem zmn : ∀ p r,q6h p = some r → O.loop 73 0 ⟨[(2,AV.ptr 0 0),(3,AV.ptr 1 0),(5,v_i p.1)],[(0,b_x (T.Form.enc p.2.1)),(1,b_x (T.Form.enc p.2.2))],2⟩ = some (qgy p.2.1 p.2.2 r) := by
 refine q6h.partial_correctness _ ?_
 rintro q6h ih216 ⟨i,a,b⟩ r; dsimp only
 apply it <;> intro h1
 ·refine bg T.Fmt.enc fun x3 h2 f1 f2 f3 => ?_
  refine bg T.Fmt.enc fun x5 h4 f4 f5 f6 => ?_
  apply it <;> intro h6
  ·rintro ⟨⟩
   clear ih216; exact fL q57
  intro h; have f7 := ih216 _ _ h; clear h
  try simp only [en.down] at f7
  clear ih216; exact fL q57
 rintro ⟨⟩
 clear ih216; exact fL q57
theorem qkr {a b r} (h : q97 a b = some r) : O.call 73 [v_g (T.Form.enc a),v_g (T.Form.enc b)] [] = some (v_b r,[]) := by
 revert h; unfold q97
 refine bs fun v2 h1 => ?_
 have f1 := zi4.1 _ _ h1
 try simp only [en.down] at f1
 refine qgu ?_ (fun h3 h4 h5 h6 => ?_)
 ·rintro (⟨h3,h4,h5,h6⟩ | ⟨h3,h4,h5,h6⟩ | ⟨h3,h4,h5,h6⟩ | ⟨h3,h4,h5,h6⟩)
  all_goals
  rintro ⟨⟩
  exact fF q57
 refine bs fun v8 h7 => ?_
 have f2 := zmn _ _ h7
 try simp only [en.down] at f2
 rcases v8 with y9 | y10
 ·dsimp only
  rintro ⟨⟩
  exact fF q57
 dsimp only
 rintro ⟨⟩
 exact fF q57
def qj8 : ((Bool) ⊕ (Unit)) → Ex × St
 | .inl y => (Ex.ret,⟨[(4,v_b y)],[],0⟩)
 | .inr y => (Ex.normal,⟨[(4,AV.undef)],[],0⟩)
attribute [local go_sem] qj8
theorem zpl : ∀ p r,q50 p = some r → O.loop 74 0 ⟨[(0,v_l 1 zn p.1),(1,v_l 1 zn p.2.1),(5,v_i p.2.2)],[],0⟩ = some (qj8 r) := by
 refine q50.partial_correctness _ ?_
 rintro q50 ih218 ⟨a,b,i⟩ r; dsimp only
 apply it <;> intro h1
 ·refine bg zn fun x3 h2 f1 f2 f3 => ?_
  refine bg zn fun x5 h4 f4 f5 f6 => ?_
  apply it <;> intro h6
  ·rintro ⟨⟩
   clear ih218; exact fL q60
  intro h; have f7 := ih218 _ _ h; clear h
  try simp only [en.down] at f7
  clear ih218; exact fL q60
 rintro ⟨⟩
 clear ih218; exact fL q60
theorem qwq {a b r} (h : qa6 a b = some r) : O.call 74 [v_l 1 zn a,v_l 1 zn b] [] = some (v_b r,[]) := by
 revert h; unfold qa6
 apply it <;> intro h1
 ·rintro ⟨⟩
  exact fF q60
 refine bs fun v3 h2 => ?_
 have f1 := zpl _ _ h2
 try simp only [en.down] at f1
 rcases v3 with y4 | y5
 ·dsimp only
  rintro ⟨⟩
  exact fF q60
 dsimp only
 rintro ⟨⟩
 exact fF q60
theorem zli {a b r} (h : q7y a b = some r) : O.call 44 [v_g (T.Stop.enc a),v_g (T.Stop.enc b)] [] = some (v_b r,[]) := by
 revert h; unfold q7y
 refine zmx (fun h1 h2 h3 h4 h5 => ?_) ?_
 ·refine bs fun v7 h6 => ?_
  have f1 := qkr h6
  try simp only [en.down] at f1
  apply it <;> intro h8
  ·refine bs fun v10 h9 => ?_
   have f2 := qwq h9
   try simp only [en.down] at f2
   try simp only [h8] at f1 f2
   rintro ⟨⟩
   exact fF qby
  try simp only [h8] at f1
  rintro ⟨⟩
  exact fF qby
 rintro (⟨h1,h2,h3,h4,h5⟩ | ⟨h1,h2,h3,h4,h5⟩ | ⟨h1,h2,h3,h4,h5⟩ | ⟨h1,h2,h3,h4,h5⟩ | ⟨h1,h2,h3,h4,h5⟩)
 all_goals
 rintro ⟨⟩
 exact fF qby
def qj5 (a : T.qa) (b : T.qa) : ((Bool) ⊕ (Unit)) → Ex × St
 | .inl y => (Ex.ret,⟨[(4,v_b y)],[(0,b_x (T.qa.enc a)),(1,b_x (T.qa.enc b))],2⟩)
 | .inr y => (Ex.normal,⟨[(4,AV.undef)],[(0,b_x (T.qa.enc a)),(1,b_x (T.qa.enc b))],2⟩)
attribute [local go_sem] qj5
theorem qvv : ∀ p r,q2b p = some r → O.loop 23 0 ⟨[(2,AV.ptr 0 0),(3,AV.ptr 1 0),(5,v_i p.1)],[(0,b_x (T.qa.enc p.2.1)),(1,b_x (T.qa.enc p.2.2))],2⟩ = some (qj5 p.2.1 p.2.2 r) := by
 refine q2b.partial_correctness _ ?_
 rintro q2b ih210 ⟨i,a,b⟩ r; dsimp only
 apply it <;> intro h1
 ·refine bg T.Stop.enc fun x3 h2 f1 f2 f3 => ?_
  refine bg T.Stop.enc fun x5 h4 f4 f5 f6 => ?_
  refine bs fun v7 h6 => ?_
  have f7 := zli h6
  try simp only [en.down] at f7
  apply it <;> intro h8
  ·rintro ⟨⟩
   clear ih210; exact fL q51
  intro h; have f8 := ih210 _ _ h; clear h
  try simp only [en.down] at f8
  clear ih210; exact fL q51
 rintro ⟨⟩
 clear ih210; exact fL q51
theorem z5s {a b r} (h : q76 a b = some r) : O.call 23 [v_g (T.qa.enc a),v_g (T.qa.enc b)] [] = some (v_b r,[]) := by
 revert h; unfold q76
 refine q2l ?_ (fun h1 h2 => ?_)
 ·rintro (⟨h1,h2⟩ | ⟨h1,h2⟩)
  all_goals
  rintro ⟨⟩
  exact fF q51
 refine bs fun v4 h3 => ?_
 have f1 := qvv _ _ h3
 try simp only [en.down] at f1
 rcases v4 with y5 | y6
 ·dsimp only
  rintro ⟨⟩
  exact fF q51
 dsimp only
 rintro ⟨⟩
 exact fF q51
def qek (a : T.qf) (b : T.qf) : ((Bool) ⊕ (Unit)) → Ex × St
 | .inl y => (Ex.ret,⟨[(4,v_b y)],[(0,b_x (T.qf.enc a)),(1,b_x (T.qf.enc b))],2⟩)
 | .inr y => (Ex.normal,⟨[(4,AV.undef)],[(0,b_x (T.qf.enc a)),(1,b_x (T.qf.enc b))],2⟩)
attribute [local go_sem] qek
theorem zpz : ∀ p r,q3q p = some r → O.loop 9 0 ⟨[(2,AV.ptr 0 0),(3,AV.ptr 1 0),(5,v_i p.1)],[(0,b_x (T.qf.enc p.2.1)),(1,b_x (T.qf.enc p.2.2))],2⟩ = some (qek p.2.1 p.2.2 r) := by
 refine q3q.partial_correctness _ ?_
 rintro q3q ih208 ⟨i,a,b⟩ r; dsimp only
 apply it <;> intro h1
 ·refine bg T.qa.enc fun x3 h2 f1 f2 f3 => ?_
  refine bg T.qa.enc fun x5 h4 f4 f5 f6 => ?_
  refine bs fun v7 h6 => ?_
  have f7 := z5s h6
  try simp only [en.down] at f7
  apply it <;> intro h8
  ·rintro ⟨⟩
   clear ih208; exact fL fn9
  intro h; have f8 := ih208 _ _ h; clear h
  try simp only [en.down] at f8
  clear ih208; exact fL fn9
 rintro ⟨⟩
 clear ih208; exact fL fn9
theorem qgg {a b r} (h : q4p a b = some r) : O.call 9 [v_g (T.qf.enc a),v_g (T.qf.enc b)] [] = some (v_b r,[]) := by
 revert h; unfold q4p
 refine q2l ?_ (fun h1 h2 => ?_)
 ·rintro (⟨h1,h2⟩ | ⟨h1,h2⟩)
  all_goals
  rintro ⟨⟩
  exact fF fn9
 refine bs fun v4 h3 => ?_
 have f1 := zpz _ _ h3
 try simp only [en.down] at f1
 rcases v4 with y5 | y6
 ·dsimp only
  rintro ⟨⟩
  exact fF fn9
 dsimp only
 rintro ⟨⟩
 exact fF fn9
theorem qq8 {s t frm many text second r} (h : q9t s t frm many text second = some r) : O.call 3 [v_s s,v_s t,v_i frm,v_i many,v_s text,v_b second] [] = some (v_b r,[]) := by
 revert h; unfold q9t
 refine qgu ?_ (fun h1 h4 h7 h10 => ?_)
 ·rintro (⟨h1,h4,h7,h10⟩ | ⟨h1,h4,h7,h10⟩ | ⟨h1,h4,h7,h10⟩ | ⟨h1,h4,h7,h10⟩)
  all_goals
  refine bs fun v3 h2 => ?_
  have f1 := qe4 h2
  try simp only [en.down] at f1
  rintro ⟨⟩
  exact fF fn3
 refine bs fun v14 h13 => ?_
 have f2 := qge h13
 try simp only [en.down] at f2
 refine bs fun v16 h15 => ?_
 have f3 := qge h15
 try simp only [en.down] at f3
 refine bTs fun r18 h17 f4 f5 f6 => ?_
 refine gd fun h19 => ?_
 have f7 := eq_true h19
 try simp only [en.down] at f7
 refine bFs fun r21 h20 f8 f9 f10 => ?_
 refine gd fun h22 => ?_
 have f11 := eq_true h22
 try simp only [en.down] at f11
 apply it <;> intro h23
 ·refine bs fun v25 h24 => ?_
  have f12 := q9y h24
  try simp only [en.down] at f12
  refine bs fun v27 h26 => ?_
  have f13 := qfl h26
  try simp only [en.down] at f13
  apply it <;> intro h28
  ·refine gd fun h29 => ?_
   have f14 := eq_true h29
   try simp only [en.down] at f14
   refine gd fun h30 => ?_
   have f15 := eq_true h30
   try simp only [en.down] at f15
   apply it <;> intro h31
   ·refine bs fun v33 h32 => ?_
    have f16 := qj1 h32
    try simp only [en.down] at f16
    refine bs fun v35 h34 => ?_
    have f17 := q9y h34
    try simp only [en.down] at f17
    refine bg T.qf.enc fun x37 h36 f18 f19 f20 => ?_
    refine bs fun v39 h38 => ?_
    have f21 := qgg h38
    try simp only [en.down] at f21
    apply it <;> intro h40
    ·refine bs fun v42 h41 => ?_
     have f22 := qe4 h41
     try simp only [en.down] at f22
     try simp only [h23,h40] at f2 f3 f12 f13 f16 f17 f21 f22
     rintro ⟨⟩
     exact fF fn3
    try simp only [h23,h40] at f2 f3 f12 f13 f16 f17 f21
    rintro ⟨⟩
    exact fF fn3
   try simp only [h23] at f2 f3 f12 f13
   rintro ⟨⟩
   exact fF fn3
  try simp only [h23] at f2 f3 f12 f13
  rintro ⟨⟩
  exact fF fn3
 refine bs fun v44 h43 => ?_
 have f23 := q9y h43
 try simp only [en.down] at f23
 refine bs fun v46 h45 => ?_
 have f24 := qfl h45
 try simp only [en.down] at f24
 apply it <;> intro h47
 ·refine gd fun h48 => ?_
  have f25 := eq_true h48
  try simp only [en.down] at f25
  refine gd fun h49 => ?_
  have f26 := eq_true h49
  try simp only [en.down] at f26
  apply it <;> intro h50
  ·refine bs fun v52 h51 => ?_
   have f27 := qj1 h51
   try simp only [en.down] at f27
   refine bs fun v54 h53 => ?_
   have f28 := q9y h53
   try simp only [en.down] at f28
   refine bg T.qf.enc fun x56 h55 f29 f30 f31 => ?_
   refine bs fun v58 h57 => ?_
   have f32 := qgg h57
   try simp only [en.down] at f32
   apply it <;> intro h59
   ·refine bs fun v61 h60 => ?_
    have f33 := qe4 h60
    try simp only [en.down] at f33
    try simp only [h23,h59] at f2 f3 f23 f24 f27 f28 f32 f33
    rintro ⟨⟩
    exact fF fn3
   try simp only [h23,h59] at f2 f3 f23 f24 f27 f28 f32
   rintro ⟨⟩
   exact fF fn3
  try simp only [h23] at f2 f3 f23 f24
  rintro ⟨⟩
  exact fF fn3
 try simp only [h23] at f2 f3 f23 f24
 rintro ⟨⟩
 exact fF fn3
end Go.Proofs.YtkbgphcebakcnaaGreat
