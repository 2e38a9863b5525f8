/-
  What the machine's calls come to: the plain functions.
-/
import Derived.Test.YtdhgdeelagmbpaaGreatVaj
set_option linter.unusedSimpArgs false
set_option linter.unusedVariables false
set_option maxRecDepth 100000
namespace Go.Proofs.YtdhgdeelagmbpaaGreat
open Go Go.Gm
set_option maxHeartbeats 4000000
def qo1 : ((Int × T.qm × T.Rx × (List T.Rx)) ⊕ (Int × T.qm × T.Rx)) → Ex × St
 | .inl y => (Ex.ret,⟨[(4,AV.ptr 1 0),(5,v_i y.1)],[(0,b_x (T.qm.enc y.2.1)),(1,b_x (T.Rx.enc y.2.2.1)),(2,b_r 8 T.Rx.enc y.2.2.2)],3⟩)
 | .inr y => (Ex.ret,⟨[(4,AV.ptr 1 0),(5,v_i y.1)],[(0,b_x (T.qm.enc y.2.1)),(1,b_x (T.Rx.enc y.2.2)),(2,Blk.dead)],3⟩)
attribute [local go_sem] qo1
def qjx (deep : Int) (t4 : T.Rx) (alts : (List T.Rx)) : ((Int × T.qm × T.Rx × (List T.Rx)) ⊕ (T.qm × (List T.Rx))) → Ex × St
 | .inl y => (Ex.ret,⟨[(0,AV.ptr 0 0),(1,v_i deep),(4,AV.ptr 1 0),(5,v_i y.1),(6,v_r 2 alts),(7,v_r 3 y.2.2.2)],[(0,b_x (T.qm.enc y.2.1)),(1,b_x (T.Rx.enc y.2.2.1)),(2,b_r 8 T.Rx.enc alts),(3,b_r 8 T.Rx.enc y.2.2.2)],4⟩)
 | .inr y => (Ex.normal,⟨[(0,AV.ptr 0 0),(1,v_i deep),(4,AV.ptr 1 0),(5,AV.undef),(6,v_r 2 alts),(7,v_r 3 y.2)],[(0,b_x (T.qm.enc y.1)),(1,b_x (T.Rx.enc t4)),(2,b_r 8 T.Rx.enc alts),(3,b_r 8 T.Rx.enc y.2)],4⟩)
attribute [local go_sem] qjx
theorem zlz : (∀ p r,q1i p = some r → O.call 96 [AV.ptr 0 0,v_i p.1] [(0,b_x (T.qm.enc p.2))] = some (AV.tup [v_g (T.Rx.enc r.1),v_i r.2.1],[(0,b_x (T.qm.enc r.2.2))])) ∧ (∀ p r,q79 p = some r → O.loop 96 0 ⟨[(0,AV.ptr 0 0),(1,v_i p.1),(4,AV.ptr 1 0),(6,v_r 2 p.2.2.2)],[(0,b_x (T.qm.enc p.2.1)),(1,b_x (T.Rx.enc p.2.2.1)),(2,b_r 8 T.Rx.enc p.2.2.2)],3⟩ = some (qo1 r)) ∧ (∀ p r,q7l p = some r → O.loop 96 2 ⟨[(0,AV.ptr 0 0),(1,v_i p.1),(4,AV.ptr 1 0),(6,v_r 2 p.2.2.2.1),(7,v_r 3 p.2.2.2.2)],[(0,b_x (T.qm.enc p.2.1)),(1,b_x (T.Rx.enc p.2.2.1)),(2,b_r 8 T.Rx.enc p.2.2.2.1),(3,b_r 8 T.Rx.enc p.2.2.2.2)],4⟩ = some (qjx p.1 p.2.2.1 p.2.2.2.1 r)) ∧ (∀ p r,qbi p = some r → O.call 113 [AV.ptr 0 0,v_i p.1] [(0,b_x (T.qm.enc p.2))] = some (AV.tup [v_g (T.Rx.enc r.1),v_i r.2.1],[(0,b_x (T.qm.enc r.2.2))])) ∧ (∀ p r,q6b p = some r → O.call 127 [AV.ptr 0 0,v_i p.1] [(0,b_x (T.qm.enc p.2))] = some (AV.tup [v_g (T.Rx.enc r.1),v_i r.2.1],[(0,b_x (T.qm.enc r.2.2))])) := by
 refine q1i.mutual_partial_correctness _ _ _ _ _ ?_ ?_ ?_ ?_ ?_
 ·rintro q79 ih27 ⟨deep,b⟩ r; dsimp only
  refine bs fun v2 h1 => ?_
  have f1 := ih27 _ _ h1
  try simp only [en.down] at f1
  rcases v2 with y3 | y4
  ·dsimp only
   rintro ⟨⟩
   clear ih27; exact fF q1v
  dsimp only
  rintro ⟨⟩
  clear ih27; exact fF q1v
 ·rintro q79 q7l ih27 ih28 ⟨deep,r_,t4,alts⟩ r; dsimp only
  refine bs fun v2 h1 => ?_
  have f1 := ih28 _ _ h1
  try simp only [en.down] at f1
  rcases v2 with y3 | y4
  ·dsimp only
   rintro ⟨⟩
   clear ih27 ih28; exact fL q1v
  dsimp only
  refine bs fun v6 h5 => ?_
  have f2 := z0x h5
  try simp only [en.down] at f2
  refine gd fun h7 => ?_
  have f3 := rG 8 T.Rx.enc alts
  refine bs fun v9 h8 => ?_
  have f4 := xz h8
  try simp only [en.down] at f4
  apply it <;> intro h10
  ·have f5 : List.map T.Rx.enc alts ++ [[PV.int IntKind.i64 v6.kind,PV.str v6.char,PV.bool v6.not,PV.sl v6.rows.nil (szc 2 v6.rows.l) (List.map T.Row.enc v6.rows.l),PV.int IntKind.i64 v6.min,PV.int IntKind.i64 v6.max,PV.bool v6.lazy,PV.sl v6.kids.nil (szc 8 v6.kids.l) (List.map T.Rx.enc v6.kids.l)]] = List.map T.Rx.enc (alts ++ [v6]) := by simp only [List.map_append,List.map_cons,List.map_nil,za,z8,zb,T.Rx.qx] <;> rfl
   refine bs fun v12 h11 => ?_
   have f6 := zhk h11
   try simp only [en.down] at f6
   rintro ⟨⟩
   clear ih27 ih28; exact fL q1v
  have f7 : List.map T.Rx.enc alts ++ [[PV.int IntKind.i64 v6.kind,PV.str v6.char,PV.bool v6.not,PV.sl v6.rows.nil (szc 2 v6.rows.l) (List.map T.Row.enc v6.rows.l),PV.int IntKind.i64 v6.min,PV.int IntKind.i64 v6.max,PV.bool v6.lazy,PV.sl v6.kids.nil (szc 8 v6.kids.l) (List.map T.Rx.enc v6.kids.l)]] = List.map T.Rx.enc (alts ++ [v6]) := by simp only [List.map_append,List.map_cons,List.map_nil,za,z8,zb,T.Rx.qx] <;> rfl
  intro h; have f8 := ih27 _ _ h; clear h
  try simp only [en.down] at f8
  clear ih27 ih28; exact fL q1v
 ·rintro q7l qbi ih28 ih30 ⟨deep,r_,t4,alts,terms⟩ r; dsimp only
  apply it <;> intro h1
  ·refine bs fun v3 h2 => ?_
   have f1 := q3w h2
   try simp only [en.down] at f1
   apply it <;> intro h4
   ·apply it <;> intro h5
    ·refine bs fun v7 h6 => ?_
     have f2 := ih30 _ _ h6
     try simp only [en.down] at f2
     apply it <;> intro h8
     ·rintro ⟨⟩
      clear ih28 ih30; exact fL q1v
     refine gd fun h9 => ?_
     have f3 := rG 8 T.Rx.enc terms
     have f4 : List.map T.Rx.enc terms ++ [[PV.int IntKind.i64 v7.1.kind,PV.str v7.1.char,PV.bool v7.1.not,PV.sl v7.1.rows.nil (szc 2 v7.1.rows.l) (List.map T.Row.enc v7.1.rows.l),PV.int IntKind.i64 v7.1.min,PV.int IntKind.i64 v7.1.max,PV.bool v7.1.lazy,PV.sl v7.1.kids.nil (szc 8 v7.1.kids.l) (List.map T.Rx.enc v7.1.kids.l)]] = List.map T.Rx.enc (terms ++ [v7.1]) := by simp only [List.map_append,List.map_cons,List.map_nil,za,z8,zb,T.Rx.qx] <;> rfl
     intro h; have f5 := ih28 _ _ h; clear h
     try simp only [en.down] at f5
     clear ih28 ih30; exact fL q1v
    rintro ⟨⟩
    clear ih28 ih30; exact fL q1v
   rintro ⟨⟩
   clear ih28 ih30; exact fL q1v
  rintro ⟨⟩
  clear ih28 ih30; exact fL q1v
 ·rintro q6b ih32 ⟨deep,b⟩ r; dsimp only
  refine bs fun v2 h1 => ?_
  have f1 := xz h1
  try simp only [en.down] at f1
  apply it <;> intro h3
  ·try simp only [h3] at f1
   rintro ⟨⟩
   clear ih32; exact fF q53
  refine bs fun v5 h4 => ?_
  have f2 := xz h4
  try simp only [en.down] at f2
  apply it <;> intro h6
  ·try simp only [h3,h6] at f1 f2
   rintro ⟨⟩
   clear ih32; exact fF q53
  refine bs fun v8 h7 => ?_
  have f3 := q3w h7
  try simp only [en.down] at f3
  refine zn (fun h9 h10 => ?_) ?_
  ·refine bg qg fun x12 h11 f4 f5 f6 => ?_
   apply it <;> intro h13
   ·try simp only [h3,h6] at f1 f2 f3
    rintro ⟨⟩
    clear ih32; exact fF q53
   apply it <;> intro h14
   ·try simp only [h3,h6] at f1 f2 f3
    rintro ⟨⟩
    clear ih32; exact fF q53
   refine bs fun v16 h15 => ?_
   have f7 := ih32 _ _ h15
   try simp only [en.down] at f7
   apply it <;> intro h17
   ·try simp only [h3,h6] at f1 f2 f3 f7
    rintro ⟨⟩
    clear ih32; exact fF q53
   refine bs fun v19 h18 => ?_
   have f8 := qm8 h18
   try simp only [en.down] at f8
   try simp only [h3,h6] at f1 f2 f3 f7 f8
   rintro ⟨⟩
   clear ih32; exact fF q53
  rintro (⟨h9,h10⟩ | ⟨h9,h10⟩)
  all_goals
  refine bs fun v26 h25 => ?_
  have f9 := ih32 _ _ h25
  try simp only [en.down] at f9
  apply it <;> intro h27
  ·try simp only [h3,h6] at f1 f2 f3 f9
   rintro ⟨⟩
   clear ih32; exact fF q53
  refine bs fun v29 h28 => ?_
  have f10 := qm8 h28
  try simp only [en.down] at f10
  try simp only [h3,h6] at f1 f2 f3 f9 f10
  rintro ⟨⟩
  clear ih32; exact fF q53
 ·rintro q1i ih26 ⟨deep,b⟩ r; dsimp only
  refine bs fun v2 h1 => ?_
  have f1 := xz h1
  try simp only [en.down] at f1
  apply it <;> intro h3
  ·try simp only [h3] at f1
   rintro ⟨⟩
   clear ih26; exact fF mo
  refine bs fun v5 h4 => ?_
  have f2 := xz h4
  try simp only [en.down] at f2
  apply it <;> intro h6
  ·apply it <;> intro h7
   ·try simp only [h3,h6] at f1 f2
    rintro ⟨⟩
    clear ih26; exact fF mo
   refine bs fun v9 h8 => ?_
   have f3 := xz h8
   try simp only [en.down] at f3
   apply it <;> intro h10
   ·refine bs fun v12 h11 => ?_
    have f4 := xz h11
    try simp only [en.down] at f4
    apply it <;> intro h13
    ·try simp only [h3,h6,h10] at f1 f2 f3 f4
     rintro ⟨⟩
     clear ih26; exact fF mo
    refine bs fun v15 h14 => ?_
    have f5 := ih26 _ _ h14
    try simp only [en.down] at f5
    apply it <;> intro h16
    ·try simp only [h3,h6,h10] at f1 f2 f3 f4 f5
     rintro ⟨⟩
     clear ih26; exact fF mo
    refine bs fun v18 h17 => ?_
    have f6 := xz h17
    try simp only [en.down] at f6
    apply it <;> intro h19
    ·try simp only [h3,h6,h10] at f1 f2 f3 f4 f5 f6
     rintro ⟨⟩
     clear ih26; exact fF mo
    try simp only [h3,h6,h10] at f1 f2 f3 f4 f5 f6
    rintro ⟨⟩
    clear ih26; exact fF mo
   refine bs fun v21 h20 => ?_
   have f7 := ih26 _ _ h20
   try simp only [en.down] at f7
   apply it <;> intro h22
   ·try simp only [h3,h6,h10] at f1 f2 f3 f7
    rintro ⟨⟩
    clear ih26; exact fF mo
   refine bs fun v24 h23 => ?_
   have f8 := xz h23
   try simp only [en.down] at f8
   apply it <;> intro h25
   ·try simp only [h3,h6,h10] at f1 f2 f3 f7 f8
    rintro ⟨⟩
    clear ih26; exact fF mo
   try simp only [h3,h6,h10] at f1 f2 f3 f7 f8
   rintro ⟨⟩
   clear ih26; exact fF mo
  refine bs fun v27 h26 => ?_
  have f9 := xz h26
  try simp only [en.down] at f9
  apply it <;> intro h28
  ·refine bs fun v30 h29 => ?_
   have f10 := qvm h29
   try simp only [en.down] at f10
   try simp only [h3,h6,h28] at f1 f2 f9 f10
   rintro ⟨⟩
   clear ih26; exact fF mo
  refine bs fun v32 h31 => ?_
  have f11 := xz h31
  try simp only [en.down] at f11
  apply it <;> intro h33
  ·refine bs fun v35 h34 => ?_
   have f12 := ze3 h34
   try simp only [en.down] at f12
   try simp only [h3,h6,h28,h33] at f1 f2 f9 f11 f12
   rintro ⟨⟩
   clear ih26; exact fF mo
  refine bs fun v37 h36 => ?_
  have f13 := q3w h36
  try simp only [en.down] at f13
  refine zl5 ?_ (fun h38 h39 h40 h41 h42 h43 => ?_)
  ·rintro (⟨h38,h39,h40,h41,h42,h43⟩ | ⟨h38,h39,h40,h41,h42,h43⟩ | ⟨h38,h39,h40,h41,h42,h43⟩ | ⟨h38,h39,h40,h41,h42,h43⟩ | ⟨h38,h39,h40,h41,h42,h43⟩ | ⟨h38,h39,h40,h41,h42,h43⟩)
   all_goals
   try simp only [h3,h6,h28,h33] at f1 f2 f9 f11 f13
   rintro ⟨⟩
   clear ih26; exact fF mo
  refine bs fun v45 h44 => ?_
  have f14 := q8i h44
  try simp only [en.down] at f14
  apply it <;> intro h46
  ·try simp only [h3,h6,h28,h33] at f1 f2 f9 f11 f13 f14
   rintro ⟨⟩
   clear ih26; exact fF mo
  try simp only [h3,h6,h28,h33] at f1 f2 f9 f11 f13 f14
  rintro ⟨⟩
  clear ih26; exact fF mo
theorem qzi {s r} (h : qb0 s = some r) : O.call 73 [v_s s] [] = some (AV.tup [v_g (T.Rx.enc r.1),v_i r.2],[]) := by
 revert h; unfold qb0
 apply it <;> intro h1
 ·rintro ⟨⟩
  exact fF qd2
 refine bs fun v3 h2 => ?_
 have f1 := qfe h2
 try simp only [en.down] at f1
 refine bs fun v5 h4 => ?_
 have f2 := zlz.1 _ _ h4
 try simp only [en.down] at f2
 refine zn (fun h6 h7 => ?_) ?_
 ·have f3 : ((10 : Int) != (0 : Int)) = true := by decide
  rintro ⟨⟩
  exact fF qd2
 rintro (⟨h6,h7⟩ | ⟨h6,h7⟩)
 all_goals
 apply it <;> intro h9
 ·rintro ⟨⟩
  exact fF qd2
 rintro ⟨⟩
 exact fF qd2
theorem qma {way r} (h : q90 way = some r) : O.call 117 [v_i way] [] = some (v_s r,[]) := by
 revert h; unfold q90
 apply it <;> intro h1
 ·rintro ⟨⟩
  exact fF q97
 apply it <;> intro h2
 ·rintro ⟨⟩
  exact fF q97
 apply it <;> intro h3
 ·rintro ⟨⟩
  exact fF q97
 apply it <;> intro h4
 ·rintro ⟨⟩
  exact fF q97
 apply it <;> intro h5
 ·rintro ⟨⟩
  exact fF q97
 rintro ⟨⟩
 exact fF q97
def qnj (t4 : T.Fmt) (f : T.Fmt) : ((Int × Bool × T.Fmt × T.Fmt) ⊕ (Unit)) → Ex × St
 | .inl y => (Ex.ret,⟨[(4,AV.ptr 0 0),(5,v_i y.1),(6,v_b y.2.1)],[(0,b_x (T.Fmt.enc y.2.2.1)),(1,b_x (T.Fmt.enc y.2.2.2))],2⟩)
 | .inr y => (Ex.normal,⟨[(4,AV.ptr 0 0),(5,AV.undef),(6,AV.undef)],[(0,b_x (T.Fmt.enc t4)),(1,b_x (T.Fmt.enc f))],2⟩)
attribute [local go_sem] qnj
theorem z6h : ∀ p r,q4k p = some r → O.loop 97 1 ⟨[(0,v_s p.1),(4,AV.ptr 0 0),(8,v_i p.2.1),(10,AV.ptr 1 0),(11,v_i p.2.2.1)],[(0,b_x (T.Fmt.enc p.2.2.2.1)),(1,b_x (T.Fmt.enc p.2.2.2.2))],2⟩ = some (qnj p.2.2.2.1 p.2.2.2.2 r) := by
 refine q4k.partial_correctness _ ?_
 rintro q4k ih56 ⟨s,end_,w,t4,f⟩ r; dsimp only
 apply it <;> intro h1
 ·refine bs fun v3 h2 => ?_
  have f1 := qma h2
  try simp only [en.down] at f1
  refine gd fun h4 => ?_
  have f2 : (v3.length + 1 ≤ 2 ^ 62) = True := eq_true h4
  apply it <;> intro h5
  ·refine b2s fun r7 h6 f3 f4 f5 f6 f7 => ?_
   apply it <;> intro h8
   ·rintro ⟨⟩
    clear ih56; exact fL kz
   intro h; have f8 := ih56 _ _ h; clear h
   try simp only [en.down] at f8
   clear ih56; exact fL kz
  intro h; have f9 := ih56 _ _ h; clear h
  try simp only [en.down] at f9
  clear ih56; exact fL kz
 rintro ⟨⟩
 clear ih56; exact fL kz
theorem qfg {s at_ colon r} (h : q68 s at_ colon = some r) : O.call 98 [v_s s,v_i at_,v_b colon] [] = some (v_b r,[]) := by
 revert h; unfold q68
 refine bc fun b2 h1 f1 f2 => ?_
 refine xy ?_ (fun h3 h4 => ?_)
 ·rintro (⟨h3,h4⟩ | ⟨h3,h4⟩)
  all_goals
  rintro ⟨⟩
  exact fF qec
 refine bc fun b6 h5 f3 f4 => ?_
 refine qg3 ?_ (fun h7 h8 h9 h10 => ?_)
 ·rintro (⟨h7,h8,h9,h10⟩ | ⟨h7,h8,h9,h10⟩ | ⟨h7,h8,h9,h10⟩ | ⟨h7,h8,h9,h10⟩)
  all_goals
  rintro ⟨⟩
  exact fF qec
 apply it <;> intro h11
 ·rintro ⟨⟩
  exact fF qec
 rintro ⟨⟩
 exact fF qec
theorem z1v : ∀ p r,q5k p = some r → O.loop 118 0 ⟨[(0,v_s p.1),(1,v_i p.2.1),(2,AV.pv (PV.int IntKind.u8 (p.2.2.1.toNat : Int))),(9,v_r 0 p.2.2.2)],[(0,b_r 1 qj p.2.2.2)],1⟩ = some (Ex.normal,⟨[(0,v_s p.1),(1,v_i r.1),(9,v_r 0 r.2)],[(0,b_r 1 qj r.2)],1⟩) := by
 refine q5k.partial_correctness _ ?_
 rintro q5k ih59 ⟨s,at_,stop,b⟩ r; dsimp only
 apply it <;> intro h1
 ·refine bc fun b3 h2 f1 f2 => ?_
  apply it <;> intro h4
  ·refine bs fun v6 h5 => ?_
   have f3 := qfg h5
   try simp only [en.down] at f3
   apply it <;> intro h7
   ·refine bc fun b9 h8 f4 f5 => ?_
    refine gd fun h10 => ?_
    have f6 := rG 1 qj b
    have f7 : List.map qj b ++ [[PV.int IntKind.u8 (b9.toNat : Int)]] = List.map qj (b ++ [b9]) := by simp only [List.map_append,List.map_cons,List.map_nil,za,z8,zb,qj] <;> rfl
    try simp only [h7] at f3
    intro h; have f8 := ih59 _ _ h; clear h
    try simp only [en.down] at f8
    try simp only [h7] at f8
    clear ih59; exact fL q8u
   refine gd fun h11 => ?_
   have f9 := rG 1 qj b
   have f10 : List.map qj b ++ [[PV.int IntKind.u8 (b3.toNat : Int)]] = List.map qj (b ++ [b3]) := by simp only [List.map_append,List.map_cons,List.map_nil,za,z8,zb,qj] <;> rfl
   try simp only [h7] at f3
   intro h; have f11 := ih59 _ _ h; clear h
   try simp only [en.down] at f11
   try simp only [h7] at f11
   clear ih59; exact fL q8u
  rintro ⟨⟩
  clear ih59; exact fL q8u
 rintro ⟨⟩
 clear ih59; exact fL q8u
theorem qco {s at_ stop r} (h : q3b s at_ stop = some r) : O.call 118 [v_s s,v_i at_,AV.pv (PV.int IntKind.u8 (stop.toNat : Int))] [] = some (AV.tup [v_s r.1,v_i r.2.1,v_b r.2.2],[]) := by
 revert h; unfold q3b
 refine bs fun v2 h1 => ?_
 have f1 := z1v _ _ h1
 try simp only [en.down] at f1
 apply it <;> intro h3
 ·rintro ⟨⟩
  exact fF q8u
 have f2 := jd 1 qj v2.2
 have f3 := bytesOf_map v2.2
 rintro ⟨⟩
 exact fF q8u
theorem z1k {s at_ r} (h : qbb s at_ = some r) : O.call 97 [v_s s,v_i at_] [] = some (AV.tup [v_g (T.Fmt.enc r.1),v_i r.2.1,v_b r.2.2],[]) := by
 revert h; unfold qbb
 refine bs fun v2 h1 => ?_
 have f1 := qft h1
 try simp only [en.down] at f1
 apply it <;> intro h3
 ·try simp only [h3] at f1
  rintro ⟨⟩
  exact fF kz
 apply it <;> intro h4
 ·try simp only [h3] at f1
  rintro ⟨⟩
  exact fF kz
 refine bc fun b6 h5 f2 f3 => ?_
 apply it <;> intro h7
 ·try simp only [h3] at f1
  rintro ⟨⟩
  exact fF kz
 refine bs fun v9 h8 => ?_
 have f4 := qft h8
 try simp only [en.down] at f4
 refine xy ?_ (fun h10 h11 => ?_)
 ·rintro (⟨h10,h11⟩ | ⟨h10,h11⟩)
  all_goals
  try simp only [h3] at f1 f4
  rintro ⟨⟩
  exact fF kz
 refine bc fun b13 h12 f5 f6 => ?_
 apply it <;> intro h14
 ·try simp only [h3] at f1 f4
  rintro ⟨⟩
  exact fF kz
 refine xy ?_ (fun h15 h16 => ?_)
 ·rintro (⟨h15,h16⟩ | ⟨h15,h16⟩)
  all_goals
  try simp only [h3] at f1 f4
  rintro ⟨⟩
  exact fF kz
 refine bc fun b18 h17 f7 f8 => ?_
 apply it <;> intro h19
 ·refine bs fun v21 h20 => ?_
  have f9 := z6h _ _ h20
  try simp only [en.down] at f9
  rcases v21 with y22 | y23
  ·dsimp only
   try simp only [h3] at f1 f4 f9
   rintro ⟨⟩
   exact fF kz
  dsimp only
  try simp only [h3] at f1 f4 f9
  rintro ⟨⟩
  exact fF kz
 apply it <;> intro h24
 ·refine bs fun v26 h25 => ?_
  have f10 := qco h25
  try simp only [en.down,UInt8.reduceToNat] at f10
  apply it <;> intro h27
  ·try simp only [h3] at f1 f4 f10
   rintro ⟨⟩
   exact fF kz
  try simp only [h3] at f1 f4 f10
  rintro ⟨⟩
  exact fF kz
 apply it <;> intro h28
 ·refine bs fun v30 h29 => ?_
  have f11 := qco h29
  try simp only [en.down,UInt8.reduceToNat] at f11
  apply it <;> intro h31
  ·refine bs fun v33 h32 => ?_
   have f12 := qco h32
   try simp only [en.down,UInt8.reduceToNat] at f12
   apply it <;> intro h34
   ·try simp only [h3,h31] at f1 f4 f11 f12
    rintro ⟨⟩
    exact fF kz
   try simp only [h3,h31] at f1 f4 f11 f12
   rintro ⟨⟩
   exact fF kz
  try simp only [h3,h31] at f1 f4 f11
  rintro ⟨⟩
  exact fF kz
 apply it <;> intro h35
 ·refine bs fun v37 h36 => ?_
  have f13 := qco h36
  try simp only [en.down,UInt8.reduceToNat] at f13
  apply it <;> intro h38
  ·try simp only [h3] at f1 f4 f13
   rintro ⟨⟩
   exact fF kz
  try simp only [h3] at f1 f4 f13
  rintro ⟨⟩
  exact fF kz
 refine bs fun v40 h39 => ?_
 have f14 := qco h39
 try simp only [en.down,UInt8.reduceToNat] at f14
 apply it <;> intro h41
 ·try simp only [h3] at f1 f4 f14
  rintro ⟨⟩
  exact fF kz
 try simp only [h3] at f1 f4 f14
 rintro ⟨⟩
 exact fF kz
theorem qdq {c r_ r} (h : q2s c r_ = some r) : O.call 99 [v_r 0 r_,AV.pv (PV.int IntKind.u8 (c.toNat : Int))] [(0,b_r 5 T.Fmt.enc r_)] = some (v_r 0 r,[(0,b_r 5 T.Fmt.enc r)]) := by
 revert h; unfold q2s
 apply it <;> intro h1
 ·refine gd fun h2 => ?_
  have f1 := rG 5 T.Fmt.enc r_
  have f2 : List.map T.Fmt.enc r_ ++ [[PV.int IntKind.i64 (0 : Int),PV.int IntKind.i64 (0 : Int),PV.int IntKind.i64 (0 : Int),PV.str ([] : Bytes),PV.str ([] : Bytes)]] = List.map T.Fmt.enc (r_ ++ [(T.Fmt.mk (0 : Int) (0 : Int) (0 : Int) ([] : Bytes) ([] : Bytes))]) := by simp only [List.map_append,List.map_cons,List.map_nil,za,z8,zb,T.Fmt.qx] <;> rfl
  refine bw T.Fmt.enc fun x4 h3 f3 f4 f5 => ?_
  have f6 := jd 1 qj [c]
  try simp only [en.down] at f6
  have f7 := bytesOf_map [c]
  have f8 : bytesOf [[PV.int IntKind.u8 (c.toNat : Int)]] = some [c] := bytesOf_map [c]
  refine gd fun h5 => ?_
  have f9 : (x4.thn.length + 1 ≤ 2 ^ 62) = True := eq_true h5
  have f10 := map_set T.Fmt.enc (r_ ++ [(T.Fmt.mk (0 : Int) (0 : Int) (0 : Int) ([] : Bytes) ([] : Bytes))]) ((IntKind.i64.wrap (((r_ ++ [(T.Fmt.mk (0 : Int) (0 : Int) (0 : Int) ([] : Bytes) ([] : Bytes))]).length : Int) - (1 : Int))).toNat) (T.Fmt.mk x4.kind x4.n x4.cas (x4.thn ++ [c]) x4.els)
  try simp only [en.down] at f10
  rintro ⟨⟩
  exact fF qho
 refine bW T.Fmt.enc 5 fun x7 h6 f11 f12 f13 f14 f15 => ?_
 apply it <;> intro h8
 ·refine gd fun h9 => ?_
  have f16 : List.map T.Fmt.enc r_ ++ [[PV.int IntKind.i64 (0 : Int),PV.int IntKind.i64 (0 : Int),PV.int IntKind.i64 (0 : Int),PV.str ([] : Bytes),PV.str ([] : Bytes)]] = List.map T.Fmt.enc (r_ ++ [(T.Fmt.mk (0 : Int) (0 : Int) (0 : Int) ([] : Bytes) ([] : Bytes))]) := by simp only [List.map_append,List.map_cons,List.map_nil,za,z8,zb,T.Fmt.qx] <;> rfl
  refine bw T.Fmt.enc fun x11 h10 f17 f18 f19 => ?_
  have f20 := jd 1 qj [c]
  try simp only [en.down] at f20
  have f21 := bytesOf_map [c]
  have f22 : bytesOf [[PV.int IntKind.u8 (c.toNat : Int)]] = some [c] := bytesOf_map [c]
  refine gd fun h12 => ?_
  have f23 : (x11.thn.length + 1 ≤ 2 ^ 62) = True := eq_true h12
  have f24 := map_set T.Fmt.enc (r_ ++ [(T.Fmt.mk (0 : Int) (0 : Int) (0 : Int) ([] : Bytes) ([] : Bytes))]) ((IntKind.i64.wrap (((r_ ++ [(T.Fmt.mk (0 : Int) (0 : Int) (0 : Int) ([] : Bytes) ([] : Bytes))]).length : Int) - (1 : Int))).toNat) (T.Fmt.mk x11.kind x11.n x11.cas (x11.thn ++ [c]) x11.els)
  try simp only [en.down] at f24
  try simp only [f14,f15] at f24
  rintro ⟨⟩
  exact fF qho
 have f25 := jd 1 qj [c]
 try simp only [en.down] at f25
 have f26 := bytesOf_map [c]
 have f27 : bytesOf [[PV.int IntKind.u8 (c.toNat : Int)]] = some [c] := bytesOf_map [c]
 refine gd fun h13 => ?_
 have f28 : (x7.thn.length + 1 ≤ 2 ^ 62) = True := eq_true h13
 have f29 := map_set T.Fmt.enc r_ ((IntKind.i64.wrap ((r_.length : Int) - (1 : Int))).toNat) (T.Fmt.mk x7.kind x7.n x7.cas (x7.thn ++ [c]) x7.els)
 try simp only [en.down] at f29
 try simp only [f14,f15] at f29
 rintro ⟨⟩
 exact fF qho
theorem zgc : ∀ p r,tq p = some r → O.loop 74 0 ⟨[(0,v_s p.1),(1,v_i p.2.1),(7,v_r 0 p.2.2)],[(0,b_r 5 T.Fmt.enc p.2.2)],1⟩ = some (Ex.normal,⟨[(0,v_s p.1),(1,v_i r.1),(7,v_r 0 r.2)],[(0,b_r 5 T.Fmt.enc r.2)],1⟩) := by
 refine tq.partial_correctness _ ?_
 rintro tq ih54 ⟨s,at_,fs⟩ r; dsimp only
 apply it <;> intro h1
 ·refine bc fun b3 h2 f1 f2 => ?_
  apply it <;> intro h4
  ·apply it <;> intro h5
   ·refine bs fun v7 h6 => ?_
    have f3 := z1k h6
    try simp only [en.down] at f3
    apply it <;> intro h8
    ·refine gd fun h9 => ?_
     have f4 := rG 5 T.Fmt.enc fs
     have f5 : List.map T.Fmt.enc fs ++ [[PV.int IntKind.i64 v7.1.kind,PV.int IntKind.i64 v7.1.n,PV.int IntKind.i64 v7.1.cas,PV.str v7.1.thn,PV.str v7.1.els]] = List.map T.Fmt.enc (fs ++ [v7.1]) := by simp only [List.map_append,List.map_cons,List.map_nil,za,z8,zb,T.Fmt.qx] <;> rfl
     try simp only [h8] at f3
     intro h; have f6 := ih54 _ _ h; clear h
     try simp only [en.down] at f6
     try simp only [h8] at f6
     clear ih54; exact fL q2b
    refine bs fun v11 h10 => ?_
    have f7 := qfg h10
    try simp only [en.down] at f7
    apply it <;> intro h12
    ·refine bc fun b14 h13 f8 f9 => ?_
     refine bs fun v16 h15 => ?_
     have f10 := qdq h15
     try simp only [en.down] at f10
     try simp only [h8,h12] at f3 f7 f10
     intro h; have f11 := ih54 _ _ h; clear h
     try simp only [en.down] at f11
     try simp only [h8,h12] at f11
     clear ih54; exact fL q2b
    refine bs fun v18 h17 => ?_
    have f12 := qdq h17
    try simp only [en.down] at f12
    try simp only [h8,h12] at f3 f7 f12
    intro h; have f13 := ih54 _ _ h; clear h
    try simp only [en.down] at f13
    try simp only [h8,h12] at f13
    clear ih54; exact fL q2b
   refine bs fun v20 h19 => ?_
   have f14 := qfg h19
   try simp only [en.down] at f14
   apply it <;> intro h21
   ·refine bc fun b23 h22 f15 f16 => ?_
    refine bs fun v25 h24 => ?_
    have f17 := qdq h24
    try simp only [en.down] at f17
    try simp only [h21] at f14 f17
    intro h; have f18 := ih54 _ _ h; clear h
    try simp only [en.down] at f18
    try simp only [h21] at f18
    clear ih54; exact fL q2b
   refine bs fun v27 h26 => ?_
   have f19 := qdq h26
   try simp only [en.down] at f19
   try simp only [h21] at f14 f19
   intro h; have f20 := ih54 _ _ h; clear h
   try simp only [en.down] at f20
   try simp only [h21] at f20
   clear ih54; exact fL q2b
  rintro ⟨⟩
  clear ih54; exact fL q2b
 rintro ⟨⟩
 clear ih54; exact fL q2b
theorem qxt {s at_ r} (h : qcb s at_ = some r) : O.call 74 [v_s s,v_i at_] [] = some (AV.tup [v_l 5 T.Fmt.enc r.1,v_i r.2.1,v_b r.2.2],[]) := by
 revert h; unfold qcb
 refine xy ?_ (fun h1 h2 => ?_)
 ·rintro (⟨h1,h2⟩ | ⟨h1,h2⟩)
  all_goals
  rintro ⟨⟩
  exact fF q2b
 refine bs fun v4 h3 => ?_
 have f1 := zgc _ _ h3
 try simp only [en.down] at f1
 apply it <;> intro h5
 ·rintro ⟨⟩
  exact fF q2b
 rintro ⟨⟩
 exact fF q2b
def qj2 (s : Bytes) (t4 : T.Form) (r1_ : (List UInt8)) (b2_ : T.Rx) : ((Int × Bool × Int × T.Form × T.Form) ⊕ (Int × T.Form)) → Ex × St
 | .inl y => (Ex.ret,⟨[(0,v_s s),(4,AV.ptr 0 0),(5,v_i y.1),(6,v_b y.2.1),(12,v_i y.2.2.1),(14,AV.ptr 3 0)],[(0,b_x (T.Form.enc y.2.2.2.1)),(1,b_r 1 qj r1_),(2,b_x (T.Rx.enc b2_)),(3,b_x (T.Form.enc y.2.2.2.2))],4⟩)
 | .inr y => (Ex.normal,⟨[(0,v_s s),(4,AV.ptr 0 0),(5,AV.undef),(6,AV.undef),(12,v_i y.1),(14,AV.ptr 3 0)],[(0,b_x (T.Form.enc t4)),(1,b_r 1 qj r1_),(2,b_x (T.Rx.enc b2_)),(3,b_x (T.Form.enc y.2))],4⟩)
attribute [local go_sem] qj2
theorem zeo : ∀ p r,q3q p = some r → O.loop 53 2 ⟨[(0,v_s p.1),(4,AV.ptr 0 0),(12,v_i p.2.1),(14,AV.ptr 3 0)],[(0,b_x (T.Form.enc p.2.2.1)),(1,b_r 1 qj p.2.2.2.1),(2,b_x (T.Rx.enc p.2.2.2.2.1)),(3,b_x (T.Form.enc p.2.2.2.2.2))],4⟩ = some (qj2 p.1 p.2.2.1 p.2.2.2.1 p.2.2.2.2.1 r) := by
 refine q3q.partial_correctness _ ?_
 rintro q3q ih62 ⟨s,end_,t4,r1_,b2_,f⟩ r; dsimp only
 apply it <;> intro h1
 ·refine bc fun b3 h2 f1 f2 => ?_
  apply it <;> intro h4
  ·refine zn (fun h5 h6 => ?_) ?_
   ·intro h; have f3 := ih62 _ _ h; clear h
    try simp only [en.down] at f3
    clear ih62; exact fL yo
   rintro (⟨h5,h6⟩ | ⟨h5,h6⟩)
   all_goals
   refine zn (fun h9 h10 => ?_) ?_
   ·intro h; have f4 := ih62 _ _ h; clear h
    try simp only [en.down] at f4
    clear ih62; exact fL yo
   rintro (⟨h9,h10⟩ | ⟨h9,h10⟩)
   all_goals
    rintro ⟨⟩
    clear ih62; exact fL yo
  rintro ⟨⟩
  clear ih62; exact fL yo
 rintro ⟨⟩
 clear ih62; exact fL yo
theorem zmd {s at_ r} (h : qae s at_ = some r) : O.call 53 [v_s s,v_i at_] [] = some (AV.tup [v_g (T.Form.enc r.1),v_i r.2.1,v_b r.2.2],[]) := by
 revert h; unfold qae
 refine xy ?_ (fun h1 h2 => ?_)
 ·rintro (⟨h1,h2⟩ | ⟨h1,h2⟩)
  all_goals
  rintro ⟨⟩
  exact fF yo
 refine bc fun b4 h3 f1 f2 => ?_
 apply it <;> intro h5
 ·rintro ⟨⟩
  exact fF yo
 refine bs fun v7 h6 => ?_
 have f3 := qq9 _ _ h6
 try simp only [en.down] at f3
 apply it <;> intro h8
 ·rintro ⟨⟩
  exact fF yo
 have f4 := jd 1 qj v7.2
 have f5 := bytesOf_map v7.2
 refine bs fun v10 h9 => ?_
 have f6 := qzi h9
 try simp only [en.down] at f6
 apply it <;> intro h11
 ·rintro ⟨⟩
  exact fF yo
 refine bs fun v13 h12 => ?_
 have f7 := qxt h12
 try simp only [en.down] at f7
 apply it <;> intro h14
 ·rintro ⟨⟩
  exact fF yo
 refine bs fun v16 h15 => ?_
 have f8 := zeo _ _ h15
 try simp only [en.down] at f8
 rcases v16 with y17 | y18
 ·dsimp only
  rintro ⟨⟩
  exact fF yo
 dsimp only
 apply it <;> intro h19
 ·rintro ⟨⟩
  exact fF yo
 rintro ⟨⟩
 exact fF yo
theorem zkn : ∀ p r,q48 p = some r → O.loop 54 0 ⟨[(0,AV.ptr 0 0),(1,v_i p.1),(6,v_r 3 p.2.2.2.2.1),(7,v_r 4 p.2.2.2.2.2)],[(0,Blk.box [v_s p.2.1,v_r 1 p.2.2.1,v_r 2 p.2.2.2.1]),(1,Blk.row false 18 (List.map T.qb.enc p.2.2.1)),(2,Blk.row false 1 (List.map qf p.2.2.2.1)),(3,b_r 1 qg p.2.2.2.2.1),(4,b_r 1 qj p.2.2.2.2.2)],5⟩ = some (Ex.normal,⟨[(0,AV.ptr 0 0),(1,v_i r.1),(6,v_r 3 r.2.1),(7,v_r 4 r.2.2)],[(0,Blk.box [v_s p.2.1,v_r 1 p.2.2.1,v_r 2 p.2.2.2.1]),(1,Blk.row false 18 (List.map T.qb.enc p.2.2.1)),(2,Blk.row false 1 (List.map qf p.2.2.2.1)),(3,b_r 1 qg r.2.1),(4,b_r 1 qj r.2.2)],5⟩) := by
 refine q48.partial_correctness _ ?_
 rintro q48 ih64 ⟨at_,r_,r1_,r2_,l,text⟩ r; dsimp only
 apply it <;> intro h1
 ·refine bc fun b3 h2 f1 f2 => ?_
  apply it <;> intro h4
  ·apply it <;> intro h5
   ·have f3 := jd 1 qj text
    have f4 := bytesOf_map text
    refine gd fun h6 => ?_
    have f5 := rG 1 qg l
    have f6 : List.map qg l ++ [[PV.str text]] = List.map qg (l ++ [text]) := by simp only [List.map_append,List.map_cons,List.map_nil,za,z8,zb,qg] <;> rfl
    intro h; have f7 := ih64 _ _ h; clear h
    try simp only [en.down] at f7
    clear ih64; exact fL q7c
   refine bs fun v8 h7 => ?_
   have f8 := qh7 h7
   try simp only [en.down] at f8
   apply it <;> intro h9
   ·refine bc fun b11 h10 f9 f10 => ?_
    refine gd fun h12 => ?_
    have f11 := rG 1 qj text
    have f12 : List.map qj text ++ [[PV.int IntKind.u8 (b11.toNat : Int)]] = List.map qj (text ++ [b11]) := by simp only [List.map_append,List.map_cons,List.map_nil,za,z8,zb,qj] <;> rfl
    try simp only [h9] at f8
    intro h; have f13 := ih64 _ _ h; clear h
    try simp only [en.down] at f13
    try simp only [h9] at f13
    clear ih64; exact fL q7c
   refine gd fun h13 => ?_
   have f14 := rG 1 qj text
   have f15 : List.map qj text ++ [[PV.int IntKind.u8 (b3.toNat : Int)]] = List.map qj (text ++ [b3]) := by simp only [List.map_append,List.map_cons,List.map_nil,za,z8,zb,qj] <;> rfl
   try simp only [h9] at f8
   intro h; have f16 := ih64 _ _ h; clear h
   try simp only [en.down] at f16
   try simp only [h9] at f16
   clear ih64; exact fL q7c
  rintro ⟨⟩
  clear ih64; exact fL q7c
 rintro ⟨⟩
 clear ih64; exact fL q7c
theorem zog {at_ b r_ r_2 r} (h : qbm at_ b r_ r_2 = some r) : O.call 54 [AV.ptr 0 0,v_i at_] [(0,Blk.box [v_s b,v_r 1 r_,v_r 2 r_2]),(1,Blk.row false 18 (List.map T.qb.enc r_)),(2,Blk.row false 1 (List.map qf r_2))] = some (AV.tup [v_l 1 qg r.1,v_i r.2],[(0,Blk.box [v_s b,v_r 1 r_,v_r 2 r_2]),(1,Blk.row false 18 (List.map T.qb.enc r_)),(2,Blk.row false 1 (List.map qf r_2))]) := by
 revert h; unfold qbm
 refine bs fun v2 h1 => ?_
 have f1 := zkn _ _ h1
 try simp only [en.down] at f1
 apply it <;> intro h3
 ·rintro ⟨⟩
  exact fF q7c
 have f2 := jd 1 qj v2.2.2
 have f3 := bytesOf_map v2.2.2
 refine gd fun h4 => ?_
 have f4 := rG 1 qg v2.2.1
 have f5 : List.map qg v2.2.1 ++ [[PV.str v2.2.2]] = List.map qg (v2.2.1 ++ [v2.2.2]) := by simp only [List.map_append,List.map_cons,List.map_nil,za,z8,zb,qg] <;> rfl
 rintro ⟨⟩
 exact fF q7c
theorem zex {at_ b r_ r_2 r} (h : qb5 at_ b r_ r_2 = some r) : O.call 37 [AV.ptr 0 0,v_i at_] [(0,Blk.box [v_s b,v_r 1 r_,v_r 2 r_2]),(1,Blk.row false 18 (List.map T.qb.enc r_)),(2,Blk.row false 1 (List.map qf r_2))] = some (AV.tup [v_g (T.qb.enc r.1),v_i r.2.1,v_b r.2.2],[(0,Blk.box [v_s b,v_r 1 r_,v_r 2 r_2]),(1,Blk.row false 18 (List.map T.qb.enc r_)),(2,Blk.row false 1 (List.map qf r_2))]) := by
 revert h; unfold qb5
 refine bs fun v2 h1 => ?_
 have f1 := qm1 h1
 try simp only [en.down] at f1
 apply it <;> intro h3
 ·try simp only [h3] at f1
  rintro ⟨⟩
  exact fF q2o
 apply it <;> intro h4
 ·try simp only [h3] at f1
  rintro ⟨⟩
  exact fF q2o
 refine bc fun b6 h5 f2 f3 => ?_
 apply it <;> intro h7
 ·try simp only [h3] at f1
  rintro ⟨⟩
  exact fF q2o
 refine bs fun v9 h8 => ?_
 have f4 := qm1 h8
 try simp only [en.down] at f4
 refine xy ?_ (fun h10 h11 => ?_)
 ·rintro (⟨h10,h11⟩ | ⟨h10,h11⟩)
  all_goals
  try simp only [h3] at f1 f4
  rintro ⟨⟩
  exact fF q2o
 refine bc fun b13 h12 f5 f6 => ?_
 apply it <;> intro h14
 ·try simp only [h3] at f1 f4
  rintro ⟨⟩
  exact fF q2o
 apply it <;> intro h15
 ·refine bs fun v17 h16 => ?_
  have f7 := qol h16
  try simp only [en.down] at f7
  try simp only [h3] at f1 f4 f7
  rintro ⟨⟩
  exact fF q2o
 apply it <;> intro h18
 ·refine bs fun v20 h19 => ?_
  have f8 := zmd h19
  try simp only [en.down] at f8
  try simp only [h3] at f1 f4 f8
  rintro ⟨⟩
  exact fF q2o
 refine zn (fun h21 h22 => ?_) ?_
 ·refine bs fun v24 h23 => ?_
  have f9 := zog h23
  try simp only [en.down] at f9
  refine zn (fun h25 h26 => ?_) ?_
  ·refine bc fun b28 h27 f10 f11 => ?_
   try simp only [h3] at f1 f4 f9
   rintro ⟨⟩
   exact fF q2o
  rintro (⟨h25,h26⟩ | ⟨h25,h26⟩)
  all_goals
  try simp only [h3] at f1 f4 f9
  rintro ⟨⟩
  exact fF q2o
 rintro (⟨h21,h22⟩ | ⟨h21,h22⟩)
 all_goals
 try simp only [h3] at f1 f4
 rintro ⟨⟩
 exact fF q2o
theorem qpq : ∀ p r,q3v p = some r → O.loop 19 0 ⟨[(0,v_s p.1),(4,AV.ptr 2 0),(5,v_i p.2.1)],[(0,Blk.row false 18 (List.map T.qb.enc p.2.2.1)),(1,Blk.row false 1 (List.map qf p.2.2.2.1)),(2,Blk.box [v_s p.2.2.2.2,v_r 0 p.2.2.1,v_r 1 p.2.2.2.1])],3⟩ = some (Ex.normal,⟨[(4,AV.ptr 2 0)],[(0,Blk.row false 18 (List.map T.qb.enc r.1)),(1,Blk.row false 1 (List.map qf r.2)),(2,Blk.box [v_s p.2.2.2.2,v_r 0 r.1,v_r 1 r.2])],3⟩) := by
 refine q3v.partial_correctness _ ?_
 rintro q3v ih4 ⟨s,at_,r0_,r1_,r_⟩ r; dsimp only
 apply it <;> intro h1
 ·refine bc fun b3 h2 f1 f2 => ?_
  apply it <;> intro h4
  ·refine bs fun v6 h5 => ?_
   have f3 := zex h5
   try simp only [en.down] at f3
   apply it <;> intro h7
   ·refine bw T.qb.enc fun x9 h8 f4 f5 f6 => ?_
    have f7 := map_set T.qb.enc r0_ at_.toNat v6.1
    try simp only [en.down] at f7
    refine bw qf fun x11 h10 f8 f9 f10 => ?_
    have f11 := map_set qf r1_ at_.toNat v6.2.1
    try simp only [en.down] at f11
    try simp only [h7] at f3 f7 f11
    intro h; have f12 := ih4 _ _ h; clear h
    try simp only [en.down] at f12
    try simp only [h7] at f12
    clear ih4; exact fL q70
   try simp only [h7] at f3
   intro h; have f13 := ih4 _ _ h; clear h
   try simp only [en.down] at f13
   try simp only [h7] at f13
   clear ih4; exact fL q70
  intro h; have f14 := ih4 _ _ h; clear h
  try simp only [en.down] at f14
  clear ih4; exact fL q70
 rintro ⟨⟩
 clear ih4; exact fL q70
theorem qp8 : (∀ p r,q5n p = some r → O.call 39 [v_l 18 T.qb.enc p] [] = some (v_i r,[])) ∧ (∀ p r,q3i p = some r → O.loop 39 0 ⟨[(0,v_l 18 T.qb.enc p.1),(3,v_i p.2.1),(4,v_i p.2.2)],[],0⟩ = some (Ex.normal,⟨[(3,v_i r)],[],0⟩)) := by
 refine q5n.mutual_partial_correctness _ _ ?_ ?_
 ·rintro q3i ih66 l r; try dsimp only
  refine bs fun v2 h1 => ?_
  have f1 := ih66 _ _ h1
  try simp only [en.down] at f1
  rintro ⟨⟩
  clear ih66; exact fF qe6
 ·rintro q5n q3i ih65 ih66 ⟨l,n,i⟩ r; dsimp only
  apply it <;> intro h1
  ·refine bg T.qb.enc fun x3 h2 f1 f2 f3 => ?_
   refine bs fun v5 h4 => ?_
   have f4 := ih65 _ _ h4
   try simp only [en.down] at f4
   apply it <;> intro h6
   ·try simp only [h6] at f4
    intro h; have f5 := ih66 _ _ h; clear h
    try simp only [en.down] at f5
    try simp only [h6] at f5
    clear ih65 ih66; exact fL qe6
   try simp only [h6] at f4
   intro h; have f6 := ih66 _ _ h; clear h
   try simp only [en.down] at f6
   try simp only [h6] at f6
   clear ih65 ih66; exact fL qe6
  rintro ⟨⟩
  clear ih65 ih66; exact fL qe6
theorem zcr {s r} (h : qaw s = some r) : O.call 19 [v_s s] [] = some (AV.tup [v_l 18 T.qb.enc r.1,v_i r.2],[]) := by
 revert h; unfold qaw
 apply it <;> intro h1
 ·rintro ⟨⟩
  exact fF q70
 refine gd fun h2 => ?_
 have f1 := qhj IntKind.i64 h2
 refine gd fun h3 => ?_
 have f2 : List.replicate (s.length : Int).toNat [PV.int IntKind.i64 (0 : Int),PV.str ([] : Bytes),PV.int IntKind.i64 (0 : Int),PV.bool false,PV.bool false,PV.int IntKind.i64 (0 : Int),PV.str ([] : Bytes),PV.bool false,PV.sl true 0 [],PV.int IntKind.i64 (0 : Int),PV.int IntKind.i64 (0 : Int),PV.bool false,PV.sl true 0 [],PV.sl true 0 [],PV.bool false,PV.bool false,PV.sl true 0 [],PV.sl true 0 []] = List.map T.qb.enc (List.replicate (s.length : Int).toNat (T.qb.mk (0 : Int) ([] : Bytes) (0 : Int) false false (T.Form.mk (T.Rx.mk (0 : Int) ([] : Bytes) false (⟨true,[]⟩ : (Sl T.Row)) (0 : Int) (0 : Int) false (⟨true,[]⟩ : (Sl T.Rx))) (⟨true,[]⟩ : (Sl T.Fmt)) false false) (⟨true,[]⟩ : (Sl Bytes)) (⟨true,[]⟩ : (Sl T.qb)))) := by rw [List.map_replicate]; rfl
 refine gd fun h4 => ?_
 have f3 := qhj IntKind.i64 h4
 refine gd fun h5 => ?_
 have f4 : List.replicate (s.length : Int).toNat [PV.int IntKind.i64 (0 : Int)] = List.map qf (List.replicate (s.length : Int).toNat (0 : Int)) := by rw [List.map_replicate]; rfl
 refine bs fun v7 h6 => ?_
 have f5 := qpq _ _ h6
 try simp only [en.down] at f5
 refine bs fun v9 h8 => ?_
 have f6 := qol h8
 try simp only [en.down] at f6
 refine bs fun v11 h10 => ?_
 have f7 := qp8.1 _ _ h10
 try simp only [en.down] at f7
 apply it <;> intro h12
 ·rintro ⟨⟩
  exact fF q70
 rintro ⟨⟩
 exact fF q70
def qkn (a : T.Rx) (b : T.Rx) : ((Bool) ⊕ (Unit)) → Ex × St
 | .inl y => (Ex.ret,⟨[(2,AV.ptr 0 0),(3,AV.ptr 1 0),(4,v_b y)],[(0,b_x (T.Rx.enc a)),(1,b_x (T.Rx.enc b))],2⟩)
 | .inr y => (Ex.normal,⟨[(2,AV.ptr 0 0),(3,AV.ptr 1 0),(4,AV.undef)],[(0,b_x (T.Rx.enc a)),(1,b_x (T.Rx.enc b))],2⟩)
attribute [local go_sem] qkn
theorem zp6 : ∀ p r,q7y p = some r → O.loop 100 0 ⟨[(2,AV.ptr 0 0),(3,AV.ptr 1 0),(5,v_i p.1)],[(0,b_x (T.Rx.enc p.2.1)),(1,b_x (T.Rx.enc p.2.2))],2⟩ = some (qkn p.2.1 p.2.2 r) := by
 refine q7y.partial_correctness _ ?_
 rintro q7y ih73 ⟨i,a,b⟩ r; dsimp only
 apply it <;> intro h1
 ·refine bg T.Row.enc fun x3 h2 f1 f2 f3 => ?_
  refine bg T.Row.enc fun x5 h4 f4 f5 f6 => ?_
  apply it <;> intro h6
  ·rintro ⟨⟩
   clear ih73; exact fL q2d
  intro h; have f7 := ih73 _ _ h; clear h
  try simp only [en.down] at f7
  clear ih73; exact fL q2d
 rintro ⟨⟩
 clear ih73; exact fL q2d
def qka (a : T.Rx) (b : T.Rx) : ((Bool) ⊕ (Unit)) → Ex × St
 | .inl y => (Ex.ret,⟨[(4,v_b y)],[(0,b_x (T.Rx.enc a)),(1,b_x (T.Rx.enc b))],2⟩)
 | .inr y => (Ex.normal,⟨[(4,AV.undef)],[(0,b_x (T.Rx.enc a)),(1,b_x (T.Rx.enc b))],2⟩)
attribute [local go_sem] qka
theorem z8u : (∀ p r,q6m p = some r → O.call 100 [v_g (T.Rx.enc p.1),v_g (T.Rx.enc p.2)] [] = some (v_b r,[])) ∧ (∀ p r,q8x p = some r → O.loop 100 2 ⟨[(2,AV.ptr 0 0),(3,AV.ptr 1 0),(6,v_i p.1)],[(0,b_x (T.Rx.enc p.2.1)),(1,b_x (T.Rx.enc p.2.2))],2⟩ = some (qka p.2.1 p.2.2 r)) := by
 refine q6m.mutual_partial_correctness _ _ ?_ ?_
 ·rintro q8x ih74 ⟨a,b⟩ r; dsimp only
  refine z1j ?_ (fun h1 h2 h3 h4 h5 h6 h7 h8 => ?_)
  ·rintro (⟨h1,h2,h3,h4,h5,h6,h7,h8⟩ | ⟨h1,h2,h3,h4,h5,h6,h7,h8⟩ | ⟨h1,h2,h3,h4,h5,h6,h7,h8⟩ | ⟨h1,h2,h3,h4,h5,h6,h7,h8⟩ | ⟨h1,h2,h3,h4,h5,h6,h7,h8⟩ | ⟨h1,h2,h3,h4,h5,h6,h7,h8⟩ | ⟨h1,h2,h3,h4,h5,h6,h7,h8⟩ | ⟨h1,h2,h3,h4,h5,h6,h7,h8⟩)
   all_goals
   rintro ⟨⟩
   clear ih74; exact fF q2d
  refine bs fun v10 h9 => ?_
  have f1 := zp6 _ _ h9
  try simp only [en.down] at f1
  rcases v10 with y11 | y12
  ·dsimp only
   rintro ⟨⟩
   clear ih74; exact fF q2d
  dsimp only
  refine bs fun v14 h13 => ?_
  have f2 := ih74 _ _ h13
  try simp only [en.down] at f2
  rcases v14 with y15 | y16
  ·dsimp only
   rintro ⟨⟩
   clear ih74; exact fF q2d
  dsimp only
  rintro ⟨⟩
  clear ih74; exact fF q2d
 ·rintro q6m q8x ih72 ih74 ⟨i,a,b⟩ r; dsimp only
  apply it <;> intro h1
  ·refine bg T.Rx.enc fun x3 h2 f1 f2 f3 => ?_
   refine bg T.Rx.enc fun x5 h4 f4 f5 f6 => ?_
   refine bs fun v7 h6 => ?_
   have f7 := ih72 _ _ h6
   try simp only [en.down] at f7
   apply it <;> intro h8
   ·rintro ⟨⟩
    clear ih72 ih74; exact fL q2d
   intro h; have f8 := ih74 _ _ h; clear h
   try simp only [en.down] at f8
   clear ih72 ih74; exact fL q2d
  rintro ⟨⟩
  clear ih72 ih74; exact fL q2d
def qk0 (a : T.Form) (b : T.Form) : ((Bool) ⊕ (Unit)) → Ex × St
 | .inl y => (Ex.ret,⟨[(4,v_b y)],[(0,b_x (T.Form.enc a)),(1,b_x (T.Form.enc b))],2⟩)
 | .inr y => (Ex.normal,⟨[(4,AV.undef)],[(0,b_x (T.Form.enc a)),(1,b_x (T.Form.enc b))],2⟩)
attribute [local go_sem] qk0
theorem z6d : ∀ p r,q99 p = some r → O.loop 75 0 ⟨[(2,AV.ptr 0 0),(3,AV.ptr 1 0),(5,v_i p.1)],[(0,b_x (T.Form.enc p.2.1)),(1,b_x (T.Form.enc p.2.2))],2⟩ = some (qk0 p.2.1 p.2.2 r) := by
 refine q99.partial_correctness _ ?_
 rintro q99 ih75 ⟨i,a,b⟩ r; dsimp only
 apply it <;> intro h1
 ·refine bg T.Fmt.enc fun x3 h2 f1 f2 f3 => ?_
  refine bg T.Fmt.enc fun x5 h4 f4 f5 f6 => ?_
  apply it <;> intro h6
  ·rintro ⟨⟩
   clear ih75; exact fL q8l
  intro h; have f7 := ih75 _ _ h; clear h
  try simp only [en.down] at f7
  clear ih75; exact fL q8l
 rintro ⟨⟩
 clear ih75; exact fL q8l
theorem qhi {a b r} (h : q71 a b = some r) : O.call 75 [v_g (T.Form.enc a),v_g (T.Form.enc b)] [] = some (v_b r,[]) := by
 revert h; unfold q71
 refine bs fun v2 h1 => ?_
 have f1 := z8u.1 _ _ h1
 try simp only [en.down] at f1
 refine qg3 ?_ (fun h3 h4 h5 h6 => ?_)
 ·rintro (⟨h3,h4,h5,h6⟩ | ⟨h3,h4,h5,h6⟩ | ⟨h3,h4,h5,h6⟩ | ⟨h3,h4,h5,h6⟩)
  all_goals
  rintro ⟨⟩
  exact fF q8l
 refine bs fun v8 h7 => ?_
 have f2 := z6d _ _ h7
 try simp only [en.down] at f2
 rcases v8 with y9 | y10
 ·dsimp only
  rintro ⟨⟩
  exact fF q8l
 dsimp only
 rintro ⟨⟩
 exact fF q8l
theorem z1i : (∀ p r,q4y p = some r → O.call 130 [v_g (T.Rx.enc p)] [] = some (v_i r,[])) ∧ (∀ p r,q4d p = some r → O.loop 130 0 ⟨[(1,AV.ptr 0 0),(3,v_i p.1),(4,v_i p.2.1)],[(0,b_x (T.Rx.enc p.2.2))],1⟩ = some (Ex.normal,⟨[(3,v_i r)],[(0,b_x (T.Rx.enc p.2.2))],1⟩)) := by
 refine q4y.mutual_partial_correctness _ _ ?_ ?_
 ·rintro q4d ih80 x r; try dsimp only
  refine bs fun v2 h1 => ?_
  have f1 := ih80 _ _ h1
  try simp only [en.down] at f1
  rintro ⟨⟩
  clear ih80; exact fF qhz
 ·rintro q4y q4d ih79 ih80 ⟨n,i,x⟩ r; dsimp only
  apply it <;> intro h1
  ·refine bg T.Rx.enc fun x3 h2 f1 f2 f3 => ?_
   refine bs fun v5 h4 => ?_
   have f4 := ih79 _ _ h4
   try simp only [en.down] at f4
   intro h; have f5 := ih80 _ _ h; clear h
   try simp only [en.down] at f5
   clear ih79 ih80; exact fL qhz
  rintro ⟨⟩
  clear ih79 ih80; exact fL qhz
theorem z97 : (∀ p r,q50 p = some r → O.call 131 [v_g (T.Rx.enc p)] [] = some (v_i r,[])) ∧ (∀ p r,q5x p = some r → O.loop 131 0 ⟨[(1,AV.ptr 0 0),(3,v_i p.1),(4,v_i p.2.1)],[(0,b_x (T.Rx.enc p.2.2))],1⟩ = some (Ex.normal,⟨[(1,AV.ptr 0 0),(3,v_i r)],[(0,b_x (T.Rx.enc p.2.2))],1⟩)) := by
 refine q50.mutual_partial_correctness _ _ ?_ ?_
 ·rintro q5x ih82 x r; try dsimp only
  refine bs fun v2 h1 => ?_
  have f1 := ih82 _ _ h1
  try simp only [en.down] at f1
  refine xy ?_ (fun h3 h4 => ?_)
  ·rintro (⟨h3,h4⟩ | ⟨h3,h4⟩)
   all_goals
   rintro ⟨⟩
   clear ih82; exact fF qdn
  rintro ⟨⟩
  clear ih82; exact fF qdn
 ·rintro q50 q5x ih81 ih82 ⟨n,i,x⟩ r; dsimp only
  apply it <;> intro h1
  ·refine bg T.Rx.enc fun x3 h2 f1 f2 f3 => ?_
   refine bs fun v5 h4 => ?_
   have f4 := ih81 _ _ h4
   try simp only [en.down] at f4
   intro h; have f5 := ih82 _ _ h; clear h
   try simp only [en.down] at f5
   clear ih81 ih82; exact fL qdn
  rintro ⟨⟩
  clear ih81 ih82; exact fL qdn
def qk1 (n : Int) (x : T.Rx) : ((Bool) ⊕ (Unit)) → Ex × St
 | .inl y => (Ex.ret,⟨[(1,AV.ptr 0 0),(2,v_b y),(3,v_i n)],[(0,b_x (T.Rx.enc x))],1⟩)
 | .inr y => (Ex.normal,⟨[(1,AV.ptr 0 0),(2,AV.undef),(3,v_i n)],[(0,b_x (T.Rx.enc x))],1⟩)
attribute [local go_sem] qk1
theorem qrk : ∀ p r,q4i p = some r → O.loop 132 3 ⟨[(1,AV.ptr 0 0),(3,v_i p.1),(5,v_i p.2.1)],[(0,b_x (T.Rx.enc p.2.2))],1⟩ = some (qk1 p.1 p.2.2 r) := by
 refine q4i.partial_correctness _ ?_
 rintro q4i ih85 ⟨n,i,x⟩ r; dsimp only
 apply it <;> intro h1
 ·refine bg T.Rx.enc fun x3 h2 f1 f2 f3 => ?_
  apply it <;> intro h4
  ·rintro ⟨⟩
   clear ih85; exact fL jb
  apply it <;> intro h5
  ·rintro ⟨⟩
   clear ih85; exact fL jb
  intro h; have f4 := ih85 _ _ h; clear h
  try simp only [en.down] at f4
  clear ih85; exact fL jb
 rintro ⟨⟩
 clear ih85; exact fL jb
theorem q6s {x r} (h : q1o x = some r) : O.call 140 [v_g (T.Rx.enc x)] [] = some (v_b r,[]) := by
 revert h; unfold q1o
 refine qvw (fun h1 h2 h3 h4 h5 => ?_) ?_
 ·rintro ⟨⟩
  exact fF qpc
 rintro (⟨h1,h2,h3,h4,h5⟩ | ⟨h1,h2,h3,h4,h5⟩ | ⟨h1,h2,h3,h4,h5⟩ | ⟨h1,h2,h3,h4,h5⟩ | ⟨h1,h2,h3,h4,h5⟩)
 all_goals
 rintro ⟨⟩
 exact fF qpc
def qmc (n : Int) (x : T.Rx) : ((Bool) ⊕ (Unit)) → Ex × St
 | .inl y => (Ex.ret,⟨[(1,AV.ptr 0 0),(2,v_b y),(3,v_i n)],[(0,b_x (T.Rx.enc x))],1⟩)
 | .inr y => (Ex.normal,⟨[(1,AV.ptr 0 0),(2,AV.undef),(3,v_i n)],[(0,b_x (T.Rx.enc x))],1⟩)
attribute [local go_sem] qmc
theorem zav : ∀ p r,q5e p = some r → O.loop 132 5 ⟨[(1,AV.ptr 0 0),(3,v_i p.1),(6,v_i p.2.1)],[(0,b_x (T.Rx.enc p.2.2))],1⟩ = some (qmc p.1 p.2.2 r) := by
 refine q5e.partial_correctness _ ?_
 rintro q5e ih87 ⟨n,i,x⟩ r; dsimp only
 apply it <;> intro h1
 ·refine bg T.Rx.enc fun x3 h2 f1 f2 f3 => ?_
  apply it <;> intro h4
  ·rintro ⟨⟩
   clear ih87; exact fL jb
  intro h; have f4 := ih87 _ _ h; clear h
  try simp only [en.down] at f4
  clear ih87; exact fL jb
 rintro ⟨⟩
 clear ih87; exact fL jb
def qj7 : ((Bool) ⊕ (Unit)) → Ex × St
 | .inl y => (Ex.ret,⟨[(2,v_b y)],[],0⟩)
 | .inr y => (Ex.normal,⟨[(2,AV.undef)],[],0⟩)
attribute [local go_sem] qj7
theorem zjq : ∀ p r,q47 p = some r → O.loop 141 0 ⟨[(0,v_l 2 T.Row.enc p.1),(3,v_i p.2)],[],0⟩ = some (qj7 r) := by
 refine q47.partial_correctness _ ?_
 rintro q47 ih89 ⟨rows,i⟩ r; dsimp only
 apply it <;> intro h1
 ·refine bg T.Row.enc fun x3 h2 f1 f2 f3 => ?_
  refine bs fun v5 h4 => ?_
  have f4 := q8i h4
  try simp only [en.down] at f4
  apply it <;> intro h6
  ·rintro ⟨⟩
   clear ih89; exact fL q4w
  refine bs fun v8 h7 => ?_
  have f5 := q8i h7
  try simp only [en.down] at f5
  refine xy ?_ (fun h9 h10 => ?_)
  ·rintro (⟨h9,h10⟩ | ⟨h9,h10⟩)
   all_goals
   rintro ⟨⟩
   clear ih89; exact fL q4w
  apply it <;> intro h11
  ·refine bg T.Row.enc fun x13 h12 f6 f7 f8 => ?_
   apply it <;> intro h14
   ·rintro ⟨⟩
    clear ih89; exact fL q4w
   intro h; have f9 := ih89 _ _ h; clear h
   try simp only [en.down] at f9
   clear ih89; exact fL q4w
  intro h; have f10 := ih89 _ _ h; clear h
  try simp only [en.down] at f10
  clear ih89; exact fL q4w
 rintro ⟨⟩
 clear ih89; exact fL q4w
theorem qsl {rows r} (h : qar rows = some r) : O.call 141 [v_l 2 T.Row.enc rows] [] = some (v_b r,[]) := by
 revert h; unfold qar
 refine bs fun v2 h1 => ?_
 have f1 := zjq _ _ h1
 try simp only [en.down] at f1
 rcases v2 with y3 | y4
 ·dsimp only
  rintro ⟨⟩
  exact fF q4w
 dsimp only
 rintro ⟨⟩
 exact fF q4w
theorem z7d {x r} (h : qck x = some r) : O.call 142 [v_g (T.Rx.enc x)] [] = some (v_b r,[]) := by
 revert h; unfold qck
 refine z99 ?_ ?_
 ·rintro (⟨h1,h2,h3,h4,h5,h6⟩ | ⟨h1,h2,h3,h4,h5,h6⟩ | ⟨h1,h2,h3,h4,h5,h6⟩ | ⟨h1,h2,h3,h4,h5,h6⟩ | ⟨h1,h2,h3,h4,h5,h6⟩)
  all_goals
  rintro ⟨⟩
  exact fF qdj
 rintro (⟨h1,h2,h3,h4,h5,h6⟩ | ⟨h1,h2,h3,h4,h5,h6⟩)
 all_goals
 refine bg T.Rx.enc fun x17 h16 f1 f2 f3 => ?_
 refine bs fun v19 h18 => ?_
 have f4 := q6s h18
 try simp only [en.down] at f4
 apply it <;> intro h20
 ·refine qg3 ?_ (fun h21 h22 h23 h24 => ?_)
  ·rintro (⟨h21,h22,h23,h24⟩ | ⟨h21,h22,h23,h24⟩ | ⟨h21,h22,h23,h24⟩ | ⟨h21,h22,h23,h24⟩)
   all_goals
    try simp only [h20] at f4
    rintro ⟨⟩
    exact fF qdj
  try simp only [h20] at f4
  rintro ⟨⟩
  exact fF qdj
 try simp only [h20] at f4
 rintro ⟨⟩
 exact fF qdj
def qja (n : Int) (x : T.Rx) : ((Bool) ⊕ (Unit)) → Ex × St
 | .inl y => (Ex.ret,⟨[(1,AV.ptr 0 0),(2,v_b y),(3,v_i n)],[(0,b_x (T.Rx.enc x))],1⟩)
 | .inr y => (Ex.normal,⟨[(1,AV.ptr 0 0),(2,AV.undef),(3,v_i n)],[(0,b_x (T.Rx.enc x))],1⟩)
attribute [local go_sem] qja
theorem z4n : (∀ p r,q4r p = some r → O.call 132 [v_g (T.Rx.enc p)] [] = some (v_b r,[])) ∧ (∀ p r,q5q p = some r → O.loop 132 0 ⟨[(1,AV.ptr 0 0),(3,v_i p.1),(4,v_i p.2.1)],[(0,b_x (T.Rx.enc p.2.2))],1⟩ = some (qja p.1 p.2.2 r)) := by
 refine q4r.mutual_partial_correctness _ _ ?_ ?_
 ·rintro q5q ih84 x r; try dsimp only
  refine bs fun v2 h1 => ?_
  have f1 := ih84 _ _ h1
  try simp only [en.down] at f1
  rcases v2 with y3 | y4
  ·dsimp only
   rintro ⟨⟩
   clear ih84; exact fF jb
  dsimp only
  apply it <;> intro h5
  ·refine bs fun v7 h6 => ?_
   have f2 := qrk _ _ h6
   try simp only [en.down] at f2
   rcases v7 with y8 | y9
   ·dsimp only
    rintro ⟨⟩
    clear ih84; exact fF jb
   dsimp only
   refine bs fun v11 h10 => ?_
   have f3 := q6s h10
   try simp only [en.down] at f3
   apply it <;> intro h12
   ·try simp only [h12] at f1 f2 f3
    rintro ⟨⟩
    clear ih84; exact fF jb
   try simp only [h12] at f1 f2 f3
   rintro ⟨⟩
   clear ih84; exact fF jb
  apply it <;> intro h13
  ·refine bs fun v15 h14 => ?_
   have f4 := zav _ _ h14
   try simp only [en.down] at f4
   rcases v15 with y16 | y17
   ·dsimp only
    rintro ⟨⟩
    clear ih84; exact fF jb
   dsimp only
   refine bs fun v19 h18 => ?_
   have f5 := q6s h18
   try simp only [en.down] at f5
   apply it <;> intro h20
   ·try simp only [h20] at f1 f4 f5
    rintro ⟨⟩
    clear ih84; exact fF jb
   try simp only [h20] at f1 f4 f5
   rintro ⟨⟩
   clear ih84; exact fF jb
  apply it <;> intro h21
  ·refine bs fun v23 h22 => ?_
   have f6 := q6s h22
   try simp only [en.down] at f6
   refine zn (fun h24 h25 => ?_) ?_
   ·refine bs fun v27 h26 => ?_
    have f7 := q8i h26
    try simp only [en.down] at f7
    try simp only [h24] at f1 f6 f7
    rintro ⟨⟩
    clear ih84; exact fF jb
   rintro (⟨h24,h25⟩ | ⟨h24,h25⟩)
   all_goals
   try simp only [h24] at f1 f6
   rintro ⟨⟩
   clear ih84; exact fF jb
  refine qkm ?_ (fun h28 h32 h36 h40 h44 => ?_)
  ·rintro (⟨h28,h32,h36,h40,h44⟩ | ⟨h28,h32,h36,h40,h44⟩ | ⟨h28,h32,h36,h40,h44⟩ | ⟨h28,h32,h36,h40,h44⟩ | ⟨h28,h32,h36,h40,h44⟩)
   all_goals
   refine bs fun v30 h29 => ?_
   have f8 := q6s h29
   try simp only [en.down] at f8
   apply it <;> intro h31
   ·try simp only [h31] at f1 f8
    rintro ⟨⟩
    clear ih84; exact fF jb
   try simp only [h31] at f1 f8
   rintro ⟨⟩
   clear ih84; exact fF jb
  apply it <;> intro h48
  ·refine bs fun v50 h49 => ?_
   have f9 := q6s h49
   try simp only [en.down] at f9
   refine zn (fun h51 h52 => ?_) ?_
   ·refine bs fun v54 h53 => ?_
    have f10 := qsl h53
    try simp only [en.down] at f10
    try simp only [h51] at f1 f9 f10
    rintro ⟨⟩
    clear ih84; exact fF jb
   rintro (⟨h51,h52⟩ | ⟨h51,h52⟩)
   all_goals
   try simp only [h51] at f1 f9
   rintro ⟨⟩
   clear ih84; exact fF jb
  refine xy ?_ (fun h55 h59 => ?_)
  ·rintro (⟨h55,h59⟩ | ⟨h55,h59⟩)
   all_goals
   refine bs fun v57 h56 => ?_
   have f11 := q6s h56
   try simp only [en.down] at f11
   apply it <;> intro h58
   ·try simp only [h58] at f1 f11
    rintro ⟨⟩
    clear ih84; exact fF jb
   try simp only [h58] at f1 f11
   rintro ⟨⟩
   clear ih84; exact fF jb
  apply it <;> intro h63
  ·refine bs fun v65 h64 => ?_
   have f12 := z7d h64
   try simp only [en.down] at f12
   rintro ⟨⟩
   clear ih84; exact fF jb
  rintro ⟨⟩
  clear ih84; exact fF jb
 ·rintro q4r q5q ih83 ih84 ⟨n,i,x⟩ r; dsimp only
  apply it <;> intro h1
  ·refine bg T.Rx.enc fun x3 h2 f1 f2 f3 => ?_
   refine bs fun v5 h4 => ?_
   have f4 := ih83 _ _ h4
   try simp only [en.down] at f4
   apply it <;> intro h6
   ·rintro ⟨⟩
    clear ih83 ih84; exact fL jb
   intro h; have f5 := ih84 _ _ h; clear h
   try simp only [en.down] at f5
   clear ih83 ih84; exact fL jb
  rintro ⟨⟩
  clear ih83 ih84; exact fL jb
theorem qgd {x r} (h : q7m x = some r) : O.call 119 [v_g (T.Rx.enc x)] [] = some (v_b r,[]) := by
 revert h; unfold q7m
 refine bs fun v2 h1 => ?_
 have f1 := z1i.1 _ _ h1
 try simp only [en.down] at f1
 apply it <;> intro h3
 ·refine bs fun v5 h4 => ?_
  have f2 := z97.1 _ _ h4
  try simp only [en.down] at f2
  apply it <;> intro h6
  ·refine bs fun v8 h7 => ?_
   have f3 := z4n.1 _ _ h7
   try simp only [en.down] at f3
   rintro ⟨⟩
   exact fF qg9
  rintro ⟨⟩
  exact fF qg9
 rintro ⟨⟩
 exact fF qg9
end Go.Proofs.YtdhgdeelagmbpaaGreat
