/-
  What the machine's calls come to: the plain functions.
-/
import Derived.Test.YtdhgdeelagmbpaaGreatWaj
import Derived.Test.YtdhgdeelagmbpaaGreatWak
set_option linter.unusedSimpArgs false
set_option linter.unusedVariables false
set_option maxRecDepth 100000
namespace Go.Proofs.YtdhgdeelagmbpaaGreat
open Go Go.Gm
set_option maxHeartbeats 4000000
theorem zh6 {l up b b_2 b_3 r} (h : qbx l up b b_2 b_3 = some r) : O.call 41 [AV.ptr 0 0,v_l 18 T.qb.enc l,v_i up] [(0,Blk.box [v_l 2 T.qi.enc b,v_s b_2,v_s b_3,AV.pv (PV.sl true 0 []),AV.pv (PV.sl true 0 []),AV.pv (PV.sl true 0 [])])] = some (AV.tup [],[(0,Blk.box [v_l 2 T.qi.enc r.1,v_s r.2.1,v_s r.2.2.1,v_r 1 r.2.2.2.1,v_r 2 r.2.2.2.2.1,v_r 3 r.2.2.2.2.2]),(1,b_r 20 T.qd.enc r.2.2.2.1),(2,b_r 1 qg r.2.2.2.2.1),(3,b_r 1 qh r.2.2.2.2.2)]) := by
 revert h; unfold qbx
 refine bs fun v2 h1 => ?_
 have f1 := z0e _ _ h1
 try simp only [en.down] at f1
 rintro ⟨⟩
 exact fF yl
theorem qwu : ∀ p r,q48 p = some r → O.loop 42 0 ⟨[(0,AV.ptr 0 0),(2,v_i p.1),(3,v_i p.2.1)],[(0,Blk.box [v_l 2 T.qi.enc p.2.2.1,v_s p.2.2.2.1,v_s p.2.2.2.2.1,v_r 1 p.2.2.2.2.2.1,v_r 2 p.2.2.2.2.2.2.1,v_r 3 p.2.2.2.2.2.2.2]),(1,b_r 20 T.qd.enc p.2.2.2.2.2.1),(2,b_r 1 qg p.2.2.2.2.2.2.1),(3,b_r 1 qh p.2.2.2.2.2.2.2)],4⟩ = some (Ex.normal,⟨[(0,AV.ptr 0 0),(2,v_i r)],[(0,Blk.box [v_l 2 T.qi.enc p.2.2.1,v_s p.2.2.2.1,v_s p.2.2.2.2.1,v_r 1 p.2.2.2.2.2.1,v_r 2 p.2.2.2.2.2.2.1,v_r 3 p.2.2.2.2.2.2.2]),(1,b_r 20 T.qd.enc p.2.2.2.2.2.1),(2,b_r 1 qg p.2.2.2.2.2.2.1),(3,b_r 1 qh p.2.2.2.2.2.2.2)],4⟩) := by
 refine q48.partial_correctness _ ?_
 rintro q48 ih113 ⟨most,i,w,w2,w3,r1_,r2_,r3_⟩ r; dsimp only
 apply it <;> intro h1
 ·refine bW T.qd.enc 20 fun x3 h2 f1 f2 f3 f4 f5 => ?_
  intro h; have f6 := ih113 _ _ h; clear h
  try simp only [en.down,f4,f5] at f6
  try simp only [f4,f5] at f6
  clear ih113; exact fL q0g
 rintro ⟨⟩
 clear ih113; exact fL q0g
theorem zi0 : ∀ p r,q36 p = some r → O.loop 42 2 ⟨[(0,AV.ptr 0 0),(2,v_i p.1),(4,v_i p.2.1)],[(0,Blk.box [v_l 2 T.qi.enc p.2.2.1,v_s p.2.2.2.1,v_s p.2.2.2.2.1,v_r 1 p.2.2.2.2.2.1,v_r 2 p.2.2.2.2.2.2.1,v_r 3 p.2.2.2.2.2.2.2]),(1,b_r 20 T.qd.enc p.2.2.2.2.2.1),(2,b_r 1 qg p.2.2.2.2.2.2.1),(3,b_r 1 qh p.2.2.2.2.2.2.2)],4⟩ = some (Ex.normal,⟨[(0,AV.ptr 0 0)],[(0,Blk.box [v_l 2 T.qi.enc p.2.2.1,v_s p.2.2.2.1,v_s p.2.2.2.2.1,v_r 1 r,v_r 2 p.2.2.2.2.2.2.1,v_r 3 p.2.2.2.2.2.2.2]),(1,b_r 20 T.qd.enc r),(2,b_r 1 qg p.2.2.2.2.2.2.1),(3,b_r 1 qh p.2.2.2.2.2.2.2)],4⟩) := by
 refine q36.partial_correctness _ ?_
 rintro q36 ih114 ⟨most,i,w,w2,w3,r1_,r2_,r3_⟩ r; dsimp only
 apply it <;> intro h1
 ·refine bW T.qd.enc 20 fun x3 h2 f1 f2 f3 f4 f5 => ?_
  apply it <;> intro h4
  ·have f6 := map_set T.qd.enc r1_ i.toNat (T.qd.mk x3.kind x3.text (IntKind.i64.wrap (most - x3.n)) x3.def_ x3.first x3.turned x3.form x3.opts x3.up x3.end_)
   try simp only [en.down] at f6
   try simp only [f4,f5] at f6
   intro h; have f7 := ih114 _ _ h; clear h
   try simp only [en.down,f4,f5] at f7
   try simp only [f4,f5] at f7
   clear ih114; exact fL q0g
  intro h; have f8 := ih114 _ _ h; clear h
  try simp only [en.down,f4,f5] at f8
  try simp only [f4,f5] at f8
  clear ih114; exact fL q0g
 rintro ⟨⟩
 clear ih114; exact fL q0g
def qhz (w : (Sl T.qi)) (w2 : Bytes) (w3 : Bytes) (r1_ : (List T.qd)) (r2_ : (List Int)) (r3_ : (List Bytes)) : ((Int) ⊕ (Unit)) → Ex × St
 | .inl y => (Ex.ret,⟨[(4,v_i y)],[(0,Blk.box [v_l 2 T.qi.enc w,v_s w2,v_s w3,v_r 1 r1_,v_r 2 r2_,v_r 3 r3_]),(1,b_r 20 T.qd.enc r1_),(2,b_r 1 qg r2_),(3,b_r 1 qh r3_)],4⟩)
 | .inr y => (Ex.normal,⟨[(4,AV.undef)],[(0,Blk.box [v_l 2 T.qi.enc w,v_s w2,v_s w3,v_r 1 r1_,v_r 2 r2_,v_r 3 r3_]),(1,b_r 20 T.qd.enc r1_),(2,b_r 1 qg r2_),(3,b_r 1 qh r3_)],4⟩)
attribute [local go_sem] qhz
theorem zdb : ∀ p r,q1h p = some r → O.loop 64 0 ⟨[(0,AV.ptr 0 0),(1,v_i p.1),(5,v_i p.2.1)],[(0,Blk.box [v_l 2 T.qi.enc p.2.2.1,v_s p.2.2.2.1,v_s p.2.2.2.2.1,v_r 1 p.2.2.2.2.2.1,v_r 2 p.2.2.2.2.2.2.1,v_r 3 p.2.2.2.2.2.2.2]),(1,b_r 20 T.qd.enc p.2.2.2.2.2.1),(2,b_r 1 qg p.2.2.2.2.2.2.1),(3,b_r 1 qh p.2.2.2.2.2.2.2)],4⟩ = some (qhz p.2.2.1 p.2.2.2.1 p.2.2.2.2.1 p.2.2.2.2.2.1 p.2.2.2.2.2.2.1 p.2.2.2.2.2.2.2 r) := by
 refine q1h.partial_correctness _ ?_
 rintro q1h ih117 ⟨n,i,w,w2,w3,r1_,r2_,r3_⟩ r; dsimp only
 apply it <;> intro h1
 ·refine bW T.qd.enc 20 fun x3 h2 f1 f2 f3 f4 f5 => ?_
  apply it <;> intro h4
  ·apply it <;> intro h5
   ·apply it <;> intro h6
    ·rintro ⟨⟩
     clear ih117; exact fL q6k
    intro h; have f6 := ih117 _ _ h; clear h
    try simp only [en.down,f4,f5] at f6
    try simp only [h5,f4,f5] at f6
    clear ih117; exact fL q6k
   intro h; have f7 := ih117 _ _ h; clear h
   try simp only [en.down,f4,f5] at f7
   try simp only [h5,f4,f5] at f7
   clear ih117; exact fL q6k
  intro h; have f8 := ih117 _ _ h; clear h
  try simp only [en.down,f4,f5] at f8
  try simp only [f4,f5] at f8
  clear ih117; exact fL q6k
 rintro ⟨⟩
 clear ih117; exact fL q6k
theorem qeq {n b b_2 b_3 r_ r_2 r_3 r} (h : q79 n b b_2 b_3 r_ r_2 r_3 = some r) : O.call 64 [AV.ptr 0 0,v_i n] [(0,Blk.box [v_l 2 T.qi.enc b,v_s b_2,v_s b_3,v_r 1 r_,v_r 2 r_2,v_r 3 r_3]),(1,b_r 20 T.qd.enc r_),(2,b_r 1 qg r_2),(3,b_r 1 qh r_3)] = some (v_i r,[(0,Blk.box [v_l 2 T.qi.enc b,v_s b_2,v_s b_3,v_r 1 r_,v_r 2 r_2,v_r 3 r_3]),(1,b_r 20 T.qd.enc r_),(2,b_r 1 qg r_2),(3,b_r 1 qh r_3)]) := by
 revert h; unfold q79
 refine bs fun v2 h1 => ?_
 have f1 := zdb _ _ h1
 try simp only [en.down] at f1
 rcases v2 with y3 | y4
 ·dsimp only
  rintro ⟨⟩
  exact fF q6k
 dsimp only
 rintro ⟨⟩
 exact fF q6k
theorem z8f : ∀ p r,bq p = some r → O.loop 42 4 ⟨[(0,AV.ptr 0 0),(5,v_r 4 p.2.2.2.2.2.2.2),(6,v_i p.1)],[(0,Blk.box [v_l 2 T.qi.enc p.2.1,v_s p.2.2.1,v_s p.2.2.2.1,v_r 1 p.2.2.2.2.1,v_r 2 p.2.2.2.2.2.1,v_r 3 p.2.2.2.2.2.2.1]),(1,b_r 20 T.qd.enc p.2.2.2.2.1),(2,b_r 1 qg p.2.2.2.2.2.1),(3,b_r 1 qh p.2.2.2.2.2.2.1),(4,b_r 1 qg p.2.2.2.2.2.2.2)],5⟩ = some (Ex.normal,⟨[],[(0,Blk.box [v_l 2 T.qi.enc p.2.1,v_s p.2.2.1,v_s p.2.2.2.1,v_r 1 r.1,v_r 2 p.2.2.2.2.2.1,v_r 3 p.2.2.2.2.2.2.1]),(1,b_r 20 T.qd.enc r.1),(2,b_r 1 qg p.2.2.2.2.2.1),(3,b_r 1 qh p.2.2.2.2.2.2.1),(4,b_r 1 qg r.2)],5⟩) := by
 refine bq.partial_correctness _ ?_
 rintro bq ih115 ⟨i,w,w2,w3,r1_,r2_,r3_,told⟩ r; dsimp only
 apply it <;> intro h1
 ·refine bW T.qd.enc 20 fun x3 h2 f1 f2 f3 f4 f5 => ?_
  apply it <;> intro h4
  ·apply it <;> intro h5
   ·have f6 := map_set T.qd.enc r1_ i.toNat (T.qd.mk x3.kind x3.text x3.n x3.def_ true x3.turned x3.form x3.opts x3.up x3.end_)
    try simp only [en.down] at f6
    refine gd fun h6 => ?_
    have f7 := rG 1 qg told
    have f8 : List.map qg told ++ [[PV.int IntKind.i64 x3.n]] = List.map qg (told ++ [x3.n]) := by simp only [List.map_append,List.map_cons,List.map_nil,zb,za,ze,qg] <;> rfl
    try simp only [h5,f4,f5] at f6
    intro h; have f9 := ih115 _ _ h; clear h
    try simp only [en.down,f4,f5] at f9
    try simp only [h5,f4,f5] at f9
    clear ih115; exact fL q0g
   apply it <;> intro h7
   ·refine bs fun v9 h8 => ?_
    have f10 := qeq h8
    try simp only [en.down,f4,f5] at f10
    apply it <;> intro h10
    ·refine bs fun v12 h11 => ?_
     have f11 := q81 h11
     try simp only [en.down,f4,f5] at f11
     apply it <;> intro h13
     ·have f12 := map_set T.qd.enc r1_ i.toNat (T.qd.mk x3.kind x3.text x3.n x3.def_ true x3.turned x3.form x3.opts x3.up x3.end_)
      try simp only [en.down] at f12
      refine gd fun h14 => ?_
      have f13 := rG 1 qg told
      have f14 : List.map qg told ++ [[PV.int IntKind.i64 x3.n]] = List.map qg (told ++ [x3.n]) := by simp only [List.map_append,List.map_cons,List.map_nil,zb,za,ze,qg] <;> rfl
      try simp only [h5,f4,f5] at f10 f11 f12
      intro h; have f15 := ih115 _ _ h; clear h
      try simp only [en.down,f4,f5] at f15
      try simp only [h5,f4,f5] at f15
      clear ih115; exact fL q0g
     try simp only [h5,f4,f5] at f10 f11
     intro h; have f16 := ih115 _ _ h; clear h
     try simp only [en.down,f4,f5] at f16
     try simp only [h5,f4,f5] at f16
     clear ih115; exact fL q0g
    try simp only [h5,f4,f5] at f10
    intro h; have f17 := ih115 _ _ h; clear h
    try simp only [en.down,f4,f5] at f17
    try simp only [h5,f4,f5] at f17
    clear ih115; exact fL q0g
   intro h; have f18 := ih115 _ _ h; clear h
   try simp only [en.down,f4,f5] at f18
   try simp only [h5,f4,f5] at f18
   clear ih115; exact fL q0g
  intro h; have f19 := ih115 _ _ h; clear h
  try simp only [en.down,f4,f5] at f19
  try simp only [f4,f5] at f19
  clear ih115; exact fL q0g
 rintro ⟨⟩
 clear ih115; exact fL q0g
theorem qyn {b b_2 b_3 r_ r_2 r_3 r} (h : qat b b_2 b_3 r_ r_2 r_3 = some r) : O.call 42 [AV.ptr 0 0] [(0,Blk.box [v_l 2 T.qi.enc b,v_s b_2,v_s b_3,v_r 1 r_,v_r 2 r_2,v_r 3 r_3]),(1,b_r 20 T.qd.enc r_),(2,b_r 1 qg r_2),(3,b_r 1 qh r_3)] = some (AV.tup [],[(0,Blk.box [v_l 2 T.qi.enc b,v_s b_2,v_s b_3,v_r 1 r,v_r 2 r_2,v_r 3 r_3]),(1,b_r 20 T.qd.enc r),(2,b_r 1 qg r_2),(3,b_r 1 qh r_3)]) := by
 revert h; unfold qat
 refine bs fun v2 h1 => ?_
 have f1 := qwu _ _ h1
 try simp only [en.down] at f1
 refine bs fun v4 h3 => ?_
 have f2 := zi0 _ _ h3
 try simp only [en.down] at f2
 refine bs fun v6 h5 => ?_
 have f3 := z8f _ _ h5
 try simp only [en.down] at f3
 rintro ⟨⟩
 exact fF q0g
theorem z9j : ∀ p r,q2v p = some r → O.loop 66 0 ⟨[(0,AV.ptr 0 0),(1,v_i p.1),(2,v_r 4 p.2.2.2.2.2.2.2.2),(7,v_i p.2.1)],[(0,Blk.box [v_l 2 T.qi.enc p.2.2.1,v_s p.2.2.2.1,v_s p.2.2.2.2.1,v_r 1 p.2.2.2.2.2.1,v_r 2 p.2.2.2.2.2.2.1,v_r 3 p.2.2.2.2.2.2.2.1]),(1,b_r 20 T.qd.enc p.2.2.2.2.2.1),(2,b_r 1 qg p.2.2.2.2.2.2.1),(3,b_r 1 qh p.2.2.2.2.2.2.2.1),(4,b_r 1 qg p.2.2.2.2.2.2.2.2)],5⟩ = some (Ex.normal,⟨[(2,v_r 4 r)],[(0,Blk.box [v_l 2 T.qi.enc p.2.2.1,v_s p.2.2.2.1,v_s p.2.2.2.2.1,v_r 1 p.2.2.2.2.2.1,v_r 2 p.2.2.2.2.2.2.1,v_r 3 p.2.2.2.2.2.2.2.1]),(1,b_r 20 T.qd.enc p.2.2.2.2.2.1),(2,b_r 1 qg p.2.2.2.2.2.2.1),(3,b_r 1 qh p.2.2.2.2.2.2.2.1),(4,b_r 1 qg r)],5⟩) := by
 refine q2v.partial_correctness _ ?_
 rintro q2v ih121 ⟨d,i,w,w2,w3,r1_,r2_,r3_,ns⟩ r; dsimp only
 refine bW T.qd.enc 20 fun x2 h1 f1 f2 f3 f4 f5 => ?_
 apply it <;> intro h3
 ·refine bw T.qd.enc fun x5 h4 f6 f7 f8 => ?_
  apply it <;> intro h6
  ·refine bs fun v8 h7 => ?_
   have f9 := q81 h7
   try simp only [en.down,f4,f5] at f9
   apply it <;> intro h9
   ·refine gd fun h10 => ?_
    have f10 := rG 1 qg ns
    have f11 : List.map qg ns ++ [[PV.int IntKind.i64 x5.n]] = List.map qg (ns ++ [x5.n]) := by simp only [List.map_append,List.map_cons,List.map_nil,zb,za,ze,qg] <;> rfl
    try simp only [f4,f5] at f9
    intro h; have f12 := ih121 _ _ h; clear h
    try simp only [en.down,f4,f5] at f12
    try simp only [f4,f5] at f12
    clear ih121; exact fL q2q
   try simp only [f4,f5] at f9
   intro h; have f13 := ih121 _ _ h; clear h
   try simp only [en.down,f4,f5] at f13
   try simp only [f4,f5] at f13
   clear ih121; exact fL q2q
  intro h; have f14 := ih121 _ _ h; clear h
  try simp only [en.down,f4,f5] at f14
  try simp only [f4,f5] at f14
  clear ih121; exact fL q2q
 rintro ⟨⟩
 clear ih121; exact fL q2q
theorem qux {d b b_2 b_3 r_ r_2 r_3 r} (h : qc8 d b b_2 b_3 r_ r_2 r_3 = some r) : O.call 66 [AV.ptr 0 0,v_i d,AV.pv (PV.sl true 0 [])] [(0,Blk.box [v_l 2 T.qi.enc b,v_s b_2,v_s b_3,v_r 1 r_,v_r 2 r_2,v_r 3 r_3]),(1,b_r 20 T.qd.enc r_),(2,b_r 1 qg r_2),(3,b_r 1 qh r_3)] = some (v_r 4 r,[(0,Blk.box [v_l 2 T.qi.enc b,v_s b_2,v_s b_3,v_r 1 r_,v_r 2 r_2,v_r 3 r_3]),(1,b_r 20 T.qd.enc r_),(2,b_r 1 qg r_2),(3,b_r 1 qh r_3),(4,b_r 1 qg r)]) := by
 revert h; unfold qc8
 refine bs fun v2 h1 => ?_
 have f1 := z9j _ _ h1
 try simp only [en.down] at f1
 rintro ⟨⟩
 exact fF q2q
theorem zcf : ∀ p r,q2k p = some r → O.loop 66 0 ⟨[(0,AV.ptr 0 0),(1,v_i p.1),(2,v_r 1 p.2.2.2.2.2.1),(7,v_i p.2.1)],[(0,Blk.box [v_l 2 T.qi.enc p.2.2.1,v_s p.2.2.2.1,v_s p.2.2.2.2.1,v_r 2 p.2.2.2.2.2.2.1,v_r 3 p.2.2.2.2.2.2.2.1,v_r 4 p.2.2.2.2.2.2.2.2]),(1,b_r 1 qg p.2.2.2.2.2.1),(2,b_r 20 T.qd.enc p.2.2.2.2.2.2.1),(3,b_r 1 qg p.2.2.2.2.2.2.2.1),(4,b_r 1 qh p.2.2.2.2.2.2.2.2)],5⟩ = some (Ex.normal,⟨[(2,v_r 1 r)],[(0,Blk.box [v_l 2 T.qi.enc p.2.2.1,v_s p.2.2.2.1,v_s p.2.2.2.2.1,v_r 2 p.2.2.2.2.2.2.1,v_r 3 p.2.2.2.2.2.2.2.1,v_r 4 p.2.2.2.2.2.2.2.2]),(1,b_r 1 qg r),(2,b_r 20 T.qd.enc p.2.2.2.2.2.2.1),(3,b_r 1 qg p.2.2.2.2.2.2.2.1),(4,b_r 1 qh p.2.2.2.2.2.2.2.2)],5⟩) := by
 refine q2k.partial_correctness _ ?_
 rintro q2k ih124 ⟨d,i,w,w2,w3,ns,r2_,r3_,r4_⟩ r; dsimp only
 refine bW T.qd.enc 20 fun x2 h1 f1 f2 f3 f4 f5 => ?_
 apply it <;> intro h3
 ·refine bw T.qd.enc fun x5 h4 f6 f7 f8 => ?_
  apply it <;> intro h6
  ·refine bs fun v8 h7 => ?_
   have f9 := q81 h7
   try simp only [en.down,f4,f5] at f9
   apply it <;> intro h9
   ·refine gd fun h10 => ?_
    have f10 := rG 1 qg ns
    have f11 : List.map qg ns ++ [[PV.int IntKind.i64 x5.n]] = List.map qg (ns ++ [x5.n]) := by simp only [List.map_append,List.map_cons,List.map_nil,zb,za,ze,qg] <;> rfl
    try simp only [f4,f5] at f9
    intro h; have f12 := ih124 _ _ h; clear h
    try simp only [en.down,f4,f5] at f12
    try simp only [f4,f5] at f12
    clear ih124; exact fL q2q
   try simp only [f4,f5] at f9
   intro h; have f13 := ih124 _ _ h; clear h
   try simp only [en.down,f4,f5] at f13
   try simp only [f4,f5] at f13
   clear ih124; exact fL q2q
  intro h; have f14 := ih124 _ _ h; clear h
  try simp only [en.down,f4,f5] at f14
  try simp only [f4,f5] at f14
  clear ih124; exact fL q2q
 rintro ⟨⟩
 clear ih124; exact fL q2q
theorem zh7 {d b b_2 b_3 r_ r_2 r_3 r_4 r} (h : qcd d b b_2 b_3 r_ r_2 r_3 r_4 = some r) : O.call 66 [AV.ptr 0 0,v_i d,v_r 1 r_] [(0,Blk.box [v_l 2 T.qi.enc b,v_s b_2,v_s b_3,v_r 2 r_2,v_r 3 r_3,v_r 4 r_4]),(1,b_r 1 qg r_),(2,b_r 20 T.qd.enc r_2),(3,b_r 1 qg r_3),(4,b_r 1 qh r_4)] = some (v_r 1 r,[(0,Blk.box [v_l 2 T.qi.enc b,v_s b_2,v_s b_3,v_r 2 r_2,v_r 3 r_3,v_r 4 r_4]),(1,b_r 1 qg r),(2,b_r 20 T.qd.enc r_2),(3,b_r 1 qg r_3),(4,b_r 1 qh r_4)]) := by
 revert h; unfold qcd
 refine bs fun v2 h1 => ?_
 have f1 := zcf _ _ h1
 try simp only [en.down] at f1
 rintro ⟨⟩
 exact fF q2q
theorem ziq : ∀ p r,q5a p = some r → O.loop 43 2 ⟨[(0,AV.ptr 0 0),(3,v_i p.1),(4,v_r 4 p.2.2.2.2.2.2.2.2),(5,v_i p.2.1)],[(0,Blk.box [v_l 2 T.qi.enc p.2.2.1,v_s p.2.2.2.1,v_s p.2.2.2.2.1,v_r 1 p.2.2.2.2.2.1,v_r 2 p.2.2.2.2.2.2.1,v_r 3 p.2.2.2.2.2.2.2.1]),(1,b_r 20 T.qd.enc p.2.2.2.2.2.1),(2,b_r 1 qg p.2.2.2.2.2.2.1),(3,b_r 1 qh p.2.2.2.2.2.2.2.1),(4,b_r 1 qg p.2.2.2.2.2.2.2.2)],5⟩ = some (Ex.normal,⟨[(0,AV.ptr 0 0),(3,v_i p.1),(4,v_r 4 r)],[(0,Blk.box [v_l 2 T.qi.enc p.2.2.1,v_s p.2.2.2.1,v_s p.2.2.2.2.1,v_r 1 p.2.2.2.2.2.1,v_r 2 p.2.2.2.2.2.2.1,v_r 3 p.2.2.2.2.2.2.2.1]),(1,b_r 20 T.qd.enc p.2.2.2.2.2.1),(2,b_r 1 qg p.2.2.2.2.2.2.1),(3,b_r 1 qh p.2.2.2.2.2.2.2.1),(4,b_r 1 qg r)],5⟩) := by
 refine q5a.partial_correctness _ ?_
 rintro q5a ih122 ⟨i,k,w,w2,w3,r1_,r2_,r3_,in_⟩ r; dsimp only
 apply it <;> intro h1
 ·refine bW qg 1 fun x3 h2 f1 f2 f3 f4 f5 => ?_
  refine bs fun v5 h4 => ?_
  have f6 := qeq h4
  try simp only [en.down,f4,f5] at f6
  apply it <;> intro h6
  ·refine bs fun v8 h7 => ?_
   have f7 := zh7 h7
   try simp only [en.down,f4,f5] at f7
   try simp only [f4,f5] at f6 f7
   intro h; have f8 := ih122 _ _ h; clear h
   try simp only [en.down,f4,f5] at f8
   try simp only [f4,f5] at f8
   clear ih122; exact fL q1t
  try simp only [f4,f5] at f6
  intro h; have f9 := ih122 _ _ h; clear h
  try simp only [en.down,f4,f5] at f9
  try simp only [f4,f5] at f9
  clear ih122; exact fL q1t
 rintro ⟨⟩
 clear ih122; exact fL q1t
def qlh (w : (Sl T.qi)) (w2 : Bytes) (w3 : Bytes) (r1_ : (List T.qd)) (r2_ : (List Int)) (r3_ : (List Bytes)) : ((Bool) ⊕ (Unit)) → Ex × St
 | .inl y => (Ex.ret,⟨[(2,v_b y)],[(0,Blk.box [v_l 2 T.qi.enc w,v_s w2,v_s w3,v_r 1 r1_,v_r 2 r2_,v_r 3 r3_]),(1,b_r 20 T.qd.enc r1_),(2,b_r 1 qg r2_),(3,b_r 1 qh r3_)],4⟩)
 | .inr y => (Ex.normal,⟨[(2,AV.undef)],[(0,Blk.box [v_l 2 T.qi.enc w,v_s w2,v_s w3,v_r 1 r1_,v_r 2 r2_,v_r 3 r3_]),(1,b_r 20 T.qd.enc r1_),(2,b_r 1 qg r2_),(3,b_r 1 qh r3_)],4⟩)
attribute [local go_sem] qlh
theorem zc4 : ∀ p r,q1i p = some r → O.loop 43 0 ⟨[(0,AV.ptr 0 0),(3,v_i p.1)],[(0,Blk.box [v_l 2 T.qi.enc p.2.1,v_s p.2.2.1,v_s p.2.2.2.1,v_r 1 p.2.2.2.2.1,v_r 2 p.2.2.2.2.2.1,v_r 3 p.2.2.2.2.2.2]),(1,b_r 20 T.qd.enc p.2.2.2.2.1),(2,b_r 1 qg p.2.2.2.2.2.1),(3,b_r 1 qh p.2.2.2.2.2.2)],4⟩ = some (qlh p.2.1 p.2.2.1 p.2.2.2.1 p.2.2.2.2.1 p.2.2.2.2.2.1 p.2.2.2.2.2.2 r) := by
 refine q1i.partial_correctness _ ?_
 rintro q1i ih119 ⟨i,w,w2,w3,r1_,r2_,r3_⟩ r; dsimp only
 apply it <;> intro h1
 ·refine bW T.qd.enc 20 fun x3 h2 f1 f2 f3 f4 f5 => ?_
  apply it <;> intro h4
  ·intro h; have f6 := ih119 _ _ h; clear h
   try simp only [en.down,f4,f5] at f6
   try simp only [f4,f5] at f6
   clear ih119; exact fL q1t
  apply it <;> intro h5
  ·intro h; have f7 := ih119 _ _ h; clear h
   try simp only [en.down,f4,f5] at f7
   try simp only [f4,f5] at f7
   clear ih119; exact fL q1t
  refine bs fun v7 h6 => ?_
  have f8 := qux h6
  try simp only [en.down,f4,f5] at f8
  refine bs fun v9 h8 => ?_
  have f9 := ziq _ _ h8
  try simp only [en.down,f4,f5] at f9
  refine bs fun v11 h10 => ?_
  have f10 := q81 h10
  try simp only [en.down,f4,f5] at f10
  apply it <;> intro h12
  ·try simp only [h12,f4,f5] at f8 f9 f10
   rintro ⟨⟩
   clear ih119; exact fL q1t
  try simp only [h12,f4,f5] at f8 f9 f10
  intro h; have f11 := ih119 _ _ h; clear h
  try simp only [en.down,f4,f5] at f11
  try simp only [h12,f4,f5] at f11
  clear ih119; exact fL q1t
 rintro ⟨⟩
 clear ih119; exact fL q1t
theorem zed {b b_2 b_3 r_ r_2 r_3 r} (h : qaj b b_2 b_3 r_ r_2 r_3 = some r) : O.call 43 [AV.ptr 0 0] [(0,Blk.box [v_l 2 T.qi.enc b,v_s b_2,v_s b_3,v_r 1 r_,v_r 2 r_2,v_r 3 r_3]),(1,b_r 20 T.qd.enc r_),(2,b_r 1 qg r_2),(3,b_r 1 qh r_3)] = some (v_b r,[(0,Blk.box [v_l 2 T.qi.enc b,v_s b_2,v_s b_3,v_r 1 r_,v_r 2 r_2,v_r 3 r_3]),(1,b_r 20 T.qd.enc r_),(2,b_r 1 qg r_2),(3,b_r 1 qh r_3)]) := by
 revert h; unfold qaj
 refine bs fun v2 h1 => ?_
 have f1 := zc4 _ _ h1
 try simp only [en.down] at f1
 rcases v2 with y3 | y4
 ·dsimp only
  rintro ⟨⟩
  exact fF q1t
 dsimp only
 rintro ⟨⟩
 exact fF q1t
theorem qzy : ∀ p r,q33 p = some r → O.loop 20 0 ⟨[(11,AV.ptr 0 0),(12,v_i p.1),(13,v_i p.2.1)],[(0,Blk.box [v_l 2 T.qi.enc p.2.2.1,v_s p.2.2.2.1,v_s p.2.2.2.2.1,v_r 1 p.2.2.2.2.2.1,v_r 2 p.2.2.2.2.2.2.1,v_r 3 p.2.2.2.2.2.2.2]),(1,b_r 20 T.qd.enc p.2.2.2.2.2.1),(2,b_r 1 qg p.2.2.2.2.2.2.1),(3,b_r 1 qh p.2.2.2.2.2.2.2)],4⟩ = some (Ex.normal,⟨[(11,AV.ptr 0 0),(12,v_i r)],[(0,Blk.box [v_l 2 T.qi.enc p.2.2.1,v_s p.2.2.2.1,v_s p.2.2.2.2.1,v_r 1 p.2.2.2.2.2.1,v_r 2 p.2.2.2.2.2.2.1,v_r 3 p.2.2.2.2.2.2.2]),(1,b_r 20 T.qd.enc p.2.2.2.2.2.1),(2,b_r 1 qg p.2.2.2.2.2.2.1),(3,b_r 1 qh p.2.2.2.2.2.2.2)],4⟩) := by
 refine q33.partial_correctness _ ?_
 rintro q33 ih125 ⟨many,i,w,w2,w3,r1_,r2_,r3_⟩ r; dsimp only
 apply it <;> intro h1
 ·refine bW T.qd.enc 20 fun x3 h2 f1 f2 f3 f4 f5 => ?_
  apply it <;> intro h4
  ·intro h; have f6 := ih125 _ _ h; clear h
   try simp only [en.down,f4,f5] at f6
   try simp only [f4,f5] at f6
   clear ih125; exact fL q05
  intro h; have f7 := ih125 _ _ h; clear h
  try simp only [en.down,f4,f5] at f7
  try simp only [f4,f5] at f7
  clear ih125; exact fL q05
 rintro ⟨⟩
 clear ih125; exact fL q05
def qki (r1_ : (List Int)) (r2_ : (List Bytes)) : ((Int) ⊕ (Unit)) → Ex × St
 | .inl y => (Ex.ret,⟨[(4,v_i y)],[(0,Blk.box [v_r 1 r1_,v_r 2 r2_]),(1,b_r 1 qg r1_),(2,b_r 1 qh r2_)],3⟩)
 | .inr y => (Ex.normal,⟨[(4,AV.undef)],[(0,Blk.box [v_r 1 r1_,v_r 2 r2_]),(1,b_r 1 qg r1_),(2,b_r 1 qh r2_)],3⟩)
attribute [local go_sem] qki
theorem z9t : ∀ p r,q54 p = some r → O.loop 79 0 ⟨[(0,AV.ptr 0 0),(1,v_i p.1),(5,v_i p.2.1)],[(0,Blk.box [v_r 1 p.2.2.1,v_r 2 p.2.2.2]),(1,b_r 1 qg p.2.2.1),(2,b_r 1 qh p.2.2.2)],3⟩ = some (qki p.2.2.1 p.2.2.2 r) := by
 refine q54.partial_correctness _ ?_
 rintro q54 ih130 ⟨n,i,r1_,r2_⟩ r; dsimp only
 apply it <;> intro h1
 ·refine bW qg 1 fun x3 h2 f1 f2 f3 f4 f5 => ?_
  apply it <;> intro h4
  ·rintro ⟨⟩
   clear ih130; exact fL qaf
  intro h; have f6 := ih130 _ _ h; clear h
  try simp only [en.down,f4,f5] at f6
  try simp only [f4,f5] at f6
  clear ih130; exact fL qaf
 rintro ⟨⟩
 clear ih130; exact fL qaf
theorem zg6 {n r_ r_2 r} (h : q9n n r_ r_2 = some r) : O.call 79 [AV.ptr 0 0,v_i n] [(0,Blk.box [v_r 1 r_,v_r 2 r_2]),(1,b_r 1 qg r_),(2,b_r 1 qh r_2)] = some (v_i r,[(0,Blk.box [v_r 1 r_,v_r 2 r_2]),(1,b_r 1 qg r_),(2,b_r 1 qh r_2)]) := by
 revert h; unfold q9n
 refine bs fun v2 h1 => ?_
 have f1 := z9t _ _ h1
 try simp only [en.down] at f1
 rcases v2 with y3 | y4
 ·dsimp only
  rintro ⟨⟩
  exact fF qaf
 dsimp only
 rintro ⟨⟩
 exact fF qaf
theorem zod : ∀ p r,q0u p = some r → O.loop 133 0 ⟨[(0,v_s p.1),(3,v_r 0 p.2.2),(4,v_i p.2.1)],[(0,Blk.row false 1 (List.map qg p.2.2))],1⟩ = some (Ex.normal,⟨[(3,v_r 0 r)],[(0,Blk.row false 1 (List.map qg r))],1⟩) := by
 refine q0u.partial_correctness _ ?_
 rintro q0u ih138 ⟨s,i,l⟩ r; dsimp only
 apply it <;> intro h1
 ·apply it <;> intro h2
  ·refine gd fun h3 => ?_
   have f1 : List.map qg l ++ [[PV.int IntKind.i64 i]] = List.map qg (l ++ [i]) := by simp only [List.map_append,List.map_cons,List.map_nil,zb,za,ze,qg] <;> rfl
   intro h; have f2 := ih138 _ _ h; clear h
   try simp only [en.down] at f2
   clear ih138; exact fL qas
  refine bc fun b5 h4 f3 f4 => ?_
  refine bs fun v7 h6 => ?_
  have f5 := qf5 h6
  try simp only [en.down] at f5
  apply it <;> intro h8
  ·refine gd fun h9 => ?_
   have f6 : List.map qg l ++ [[PV.int IntKind.i64 i]] = List.map qg (l ++ [i]) := by simp only [List.map_append,List.map_cons,List.map_nil,zb,za,ze,qg] <;> rfl
   try simp only [h8] at f5
   intro h; have f7 := ih138 _ _ h; clear h
   try simp only [en.down] at f7
   try simp only [h8] at f7
   clear ih138; exact fL qas
  try simp only [h8] at f5
  intro h; have f8 := ih138 _ _ h; clear h
  try simp only [en.down] at f8
  try simp only [h8] at f8
  clear ih138; exact fL qas
 rintro ⟨⟩
 clear ih138; exact fL qas
theorem zp4 {s r} (h : q9l s = some r) : O.call 133 [v_s s] [] = some (v_l 1 qg r,[]) := by
 revert h; unfold q9l
 refine bs fun v2 h1 => ?_
 have f1 := zod _ _ h1
 try simp only [en.down] at f1
 rintro ⟨⟩
 exact fF qas
theorem qpg {fold s fuel r} (h : q8p fold s fuel = some r) : O.call 121 [v_b fold,v_s s,v_i fuel] [] = some (AV.ptr 0 0,[(0,b_x (T.qo.enc r))]) := by
 revert h; unfold q8p
 refine bs fun v2 h1 => ?_
 have f1 := qg4 h1
 try simp only [en.down] at f1
 refine bs fun v4 h3 => ?_
 have f2 := zp4 h3
 try simp only [en.down] at f2
 rintro ⟨⟩
 exact fF zac
theorem qbr : (∀ p r,q0l p = some r → O.call 143 [v_g (T.Rx.enc p)] [] = some (v_i r,[])) ∧ (∀ p r,q3e p = some r → O.loop 143 0 ⟨[(1,AV.ptr 0 0),(3,v_i p.1),(4,v_i p.2.1)],[(0,b_x (T.Rx.enc p.2.2))],1⟩ = some (Ex.normal,⟨[(3,v_i r)],[(0,b_x (T.Rx.enc p.2.2))],1⟩)) := by
 refine q0l.mutual_partial_correctness _ _ ?_ ?_
 ·rintro q3e ih145 x r; try dsimp only
  apply it <;> intro h1
  ·refine bs fun v3 h2 => ?_
   have f1 := ih145 _ _ h2
   try simp only [en.down] at f1
   rintro ⟨⟩
   clear ih145; exact fF qcj
  refine bs fun v5 h4 => ?_
  have f2 := ih145 _ _ h4
  try simp only [en.down] at f2
  rintro ⟨⟩
  clear ih145; exact fF qcj
 ·rintro q0l q3e ih144 ih145 ⟨n,i,x⟩ r; dsimp only
  apply it <;> intro h1
  ·refine bg T.Rx.enc fun x3 h2 f1 f2 f3 => ?_
   refine bs fun v5 h4 => ?_
   have f4 := ih144 _ _ h4
   try simp only [en.down] at f4
   intro h; have f5 := ih145 _ _ h; clear h
   try simp only [en.down] at f5
   clear ih144 ih145; exact fL qcj
  rintro ⟨⟩
  clear ih144 ih145; exact fL qcj
theorem zb6 : ∀ p r,q67 p = some r → O.loop 134 0 ⟨[(0,AV.ptr 0 0),(2,v_i p.1),(4,AV.ptr 1 0),(6,AV.ptr 2 0),(8,v_r 3 p.2.2.2.2.2),(9,v_i p.2.1)],[(0,b_x (T.qo.enc p.2.2.1)),(1,b_x (T.Rx.enc p.2.2.2.1)),(2,b_x (T.qp.enc p.2.2.2.2.1)),(3,b_r 2 T.Span.enc p.2.2.2.2.2)],4⟩ = some (Ex.normal,⟨[(0,AV.ptr 0 0),(2,v_i p.1),(4,AV.ptr 1 0),(6,AV.ptr 2 0),(8,v_r 3 r)],[(0,b_x (T.qo.enc p.2.2.1)),(1,b_x (T.Rx.enc p.2.2.2.1)),(2,b_x (T.qp.enc p.2.2.2.2.1)),(3,b_r 2 T.Span.enc r)],4⟩) := by
 refine q67.partial_correctness _ ?_
 rintro q67 ih143 ⟨i,j,r_,x,t6,none_⟩ r; dsimp only
 refine bs fun v2 h1 => ?_
 have f1 := qbr.1 _ _ h1
 try simp only [en.down] at f1
 apply it <;> intro h3
 ·refine gd fun h4 => ?_
  have f2 := rG 2 T.Span.enc none_
  have f3 : List.map T.Span.enc none_ ++ [[PV.int IntKind.i64 ((-1) : Int),PV.int IntKind.i64 ((-1) : Int)]] = List.map T.Span.enc (none_ ++ [(T.Span.mk ((-1) : Int) ((-1) : Int))]) := by simp only [List.map_append,List.map_cons,List.map_nil,zb,za,ze,T.Span.qz] <;> rfl
  intro h; have f4 := ih143 _ _ h; clear h
  try simp only [en.down] at f4
  clear ih143; exact fL qdj
 rintro ⟨⟩
 clear ih143; exact fL qdj
theorem z3p : ∀ p r,q6s p = some r → O.loop 156 0 ⟨[(0,AV.ptr 0 0),(1,AV.pv (T.qw.jh p.1)),(2,v_i p.2.1),(11,v_r 1 p.2.2.2.2),(12,v_i p.2.2.1)],[(0,b_x (T.qo.enc p.2.2.2.1)),(1,Blk.row false 2 (List.map T.Span.enc p.2.2.2.2))],2⟩ = some (Ex.normal,⟨[(0,AV.ptr 0 0),(1,AV.pv (T.qw.jh p.1)),(2,v_i p.2.1),(11,v_r 1 r)],[(0,b_x (T.qo.enc p.2.2.2.1)),(1,Blk.row false 2 (List.map T.Span.enc r))],2⟩) := by
 refine q6s.partial_correctness _ ?_
 rintro q6s ih149 ⟨k,i,j,r_,p_⟩ r; dsimp only
 refine bs fun x2 h1 => ?_
 have f1 := T.qw.q61 h1
 try simp only [en.down] at f1
 refine bs fun v4 h3 => ?_
 have f2 := qbr.1 _ _ h3
 try simp only [en.down,f1] at f2
 apply it <;> intro h5
 ·refine bw T.Span.enc fun x7 h6 f3 f4 f5 => ?_
  have f6 := map_set T.Span.enc p_ ((IntKind.i64.wrap (x2.g + j)).toNat) (T.Span.mk ((-1) : Int) ((-1) : Int))
  try simp only [en.down] at f6
  try simp only [f1] at f2 f6
  intro h; have f7 := ih149 _ _ h; clear h
  try simp only [en.down,f1] at f7
  try simp only [f1] at f7
  clear ih149; exact fL qfl
 try simp only [f1] at f2
 rintro ⟨⟩
 clear ih149; exact fL qfl
theorem zav : ∀ p r,q5s p = some r → O.loop 144 1 ⟨[(0,AV.ptr 0 0),(1,AV.pv (T.qw.jh p.1)),(2,v_i p.2.1),(3,v_l 2 T.Span.enc p.2.2.1),(12,AV.pv (T.qw.jh p.2.2.2.1)),(13,v_i p.2.2.2.2.1),(14,v_i p.2.2.2.2.2.1)],[(0,b_x (T.qo.enc p.2.2.2.2.2.2))],1⟩ = some (Ex.normal,⟨[(0,AV.ptr 0 0),(2,v_i p.2.1),(3,v_l 2 T.Span.enc p.2.2.1),(12,AV.pv (T.qw.jh r))],[(0,b_x (T.qo.enc p.2.2.2.2.2.2))],1⟩) := by
 refine q5s.partial_correctness _ ?_
 rintro q5s ih150 ⟨k,i,parts,rest,g,j,r_⟩ r; dsimp only
 apply it <;> intro h1
 ·refine bs fun x3 h2 => ?_
  have f1 := T.qw.q61 h2
  try simp only [en.down] at f1
  refine bg T.Rx.enc fun x5 h4 f2 f3 f4 => ?_
  refine bs fun v7 h6 => ?_
  have f5 := qbr.1 _ _ h6
  try simp only [en.down,f1] at f5
  try simp only [f1] at f5
  intro h; have f6 := ih150 _ _ h; clear h
  try simp only [en.down,f1] at f6
  try simp only [f1] at f6
  clear ih150; exact fL bu
 rintro ⟨⟩
 clear ih150; exact fL bu
theorem qhl {c r} (h : q6t c = some r) : O.call 159 [v_s c] [] = some (v_b r,[]) := by
 revert h; unfold q6t
 apply it <;> intro h1
 ·refine bc fun b3 h2 f1 f2 => ?_
  refine bs fun v5 h4 => ?_
  have f3 := qda h4
  try simp only [en.down] at f3
  apply it <;> intro h6
  ·try simp only [h6] at f3
   rintro ⟨⟩
   exact fF qdz
  refine bs fun v8 h7 => ?_
  have f4 := q77 h7
  try simp only [en.down] at f4
  apply it <;> intro h9
  ·try simp only [h6,h9] at f3 f4
   rintro ⟨⟩
   exact fF qdz
  try simp only [h6,h9] at f3 f4
  rintro ⟨⟩
  exact fF qdz
 rintro ⟨⟩
 exact fF qdz
def qkl : ((Bool) ⊕ (Unit)) → Ex × St
 | .inl y => (Ex.ret,⟨[(4,v_b y)],[],0⟩)
 | .inr y => (Ex.normal,⟨[(4,AV.undef)],[],0⟩)
attribute [local go_sem] qkl
theorem qr0 : ∀ p r,q3d p = some r → O.loop 161 0 ⟨[(0,v_l 2 T.Row.enc p.1),(1,v_s p.2.1),(5,v_i p.2.2)],[],0⟩ = some (qkl r) := by
 refine q3d.partial_correctness _ ?_
 rintro q3d ih157 ⟨rows,c,i⟩ r; dsimp only
 apply it <;> intro h1
 ·refine bg T.Row.enc fun x3 h2 f1 f2 f3 => ?_
  apply it <;> intro h4
  ·apply it <;> intro h5
   ·rintro ⟨⟩
    clear ih157; exact fL q8h
   intro h; have f4 := ih157 _ _ h; clear h
   try simp only [en.down] at f4
   clear ih157; exact fL q8h
  intro h; have f5 := ih157 _ _ h; clear h
  try simp only [en.down] at f5
  clear ih157; exact fL q8h
 rintro ⟨⟩
 clear ih157; exact fL q8h
theorem qfa {rows c r} (h : q7f rows c = some r) : O.call 161 [v_l 2 T.Row.enc rows,v_s c] [] = some (v_b r,[]) := by
 revert h; unfold q7f
 refine bs fun v2 h1 => ?_
 have f1 := qr0 _ _ h1
 try simp only [en.down] at f1
 rcases v2 with y3 | y4
 ·dsimp only
  rintro ⟨⟩
  exact fF q8h
 dsimp only
 rintro ⟨⟩
 exact fF q8h
theorem zg1 : ∀ p r,q3l p = some r → O.loop 162 0 ⟨[(3,v_r 0 p.2),(4,v_i p.1)],[(0,Blk.row false 1 (List.map qj p.2))],1⟩ = some (Ex.normal,⟨[(3,v_r 0 r)],[(0,Blk.row false 1 (List.map qj r))],1⟩) := by
 refine q3l.partial_correctness _ ?_
 rintro q3l ih159 ⟨i,b⟩ r; dsimp only
 apply it <;> intro h1
 ·refine bw qj fun x3 h2 f1 f2 f3 => ?_
  apply it <;> intro h4
  ·apply it <;> intro h5
   ·have f4 := map_set qj b i.toNat (u8 (IntKind.u8.wrap ((x3.toNat : Int) - (32 : Int))))
    try simp only [en.down] at f4
    intro h; have f5 := ih159 _ _ h; clear h
    try simp only [en.down] at f5
    clear ih159; exact fL qac
   intro h; have f6 := ih159 _ _ h; clear h
   try simp only [en.down] at f6
   clear ih159; exact fL qac
  intro h; have f7 := ih159 _ _ h; clear h
  try simp only [en.down] at f7
  clear ih159; exact fL qac
 rintro ⟨⟩
 clear ih159; exact fL qac
theorem z2p {s r} (h : qar s = some r) : O.call 162 [v_s s] [] = some (v_s r,[]) := by
 revert h; unfold qar
 refine bs fun v2 h1 => ?_
 have f1 := zg1 _ _ h1
 try simp only [en.down] at f1
 have f2 := jd 1 qj v2
 have f3 := bytesOf_map v2
 rintro ⟨⟩
 exact fF qac
theorem zjh {rows not fold c r} (h : qbp rows not fold c = some r) : O.call 160 [v_l 2 T.Row.enc rows,v_b not,v_b fold,v_s c] [] = some (v_b r,[]) := by
 revert h; unfold qbp
 refine bs fun v2 h1 => ?_
 have f1 := qfa h1
 try simp only [en.down] at f1
 apply it <;> intro h3
 ·refine bs fun v5 h4 => ?_
  have f2 := qen h4
  try simp only [en.down] at f2
  refine bs fun v7 h6 => ?_
  have f3 := qfa h6
  try simp only [en.down] at f3
  apply it <;> intro h8
  ·try simp only [h3,h8] at f1 f2 f3
   rintro ⟨⟩
   exact fF qcl
  refine bs fun v10 h9 => ?_
  have f4 := z2p h9
  try simp only [en.down] at f4
  refine bs fun v12 h11 => ?_
  have f5 := qfa h11
  try simp only [en.down] at f5
  apply it <;> intro h13
  ·try simp only [h3,h8,h13] at f1 f2 f3 f4 f5
   rintro ⟨⟩
   exact fF qcl
  try simp only [h3,h8,h13] at f1 f2 f3 f4 f5
  rintro ⟨⟩
  exact fF qcl
 try simp only [h3] at f1
 rintro ⟨⟩
 exact fF qcl
theorem z6i {x i b r} (h : qaq x i b = some r) : O.call 157 [AV.ptr 0 0,v_g (T.Rx.enc x),v_i i] [(0,b_x (T.qo.enc b))] = some (AV.tup [v_i r.1,v_b r.2],[(0,b_x (T.qo.enc b))]) := by
 revert h; unfold qaq
 apply it <;> intro h1
 ·rintro ⟨⟩
  exact fF q0t
 apply it <;> intro h2
 ·rintro ⟨⟩
  exact fF q0t
 refine xe ?_ (fun h3 h19 => ?_)
 ·rintro (⟨h3,h19⟩ | ⟨h3,h19⟩)
  all_goals
  apply it <;> intro h4
  ·refine bg qh fun x6 h5 f1 f2 f3 => ?_
   refine bs fun v8 h7 => ?_
   have f4 := qhl h7
   try simp only [en.down] at f4
   apply it <;> intro h9
   ·refine bg qh fun x11 h10 f5 f6 f7 => ?_
    refine bs fun v13 h12 => ?_
    have f8 := qhl h12
    try simp only [en.down] at f8
    rintro ⟨⟩
    exact fF q0t
   rintro ⟨⟩
   exact fF q0t
  apply it <;> intro h14
  ·refine bg qh fun x16 h15 f9 f10 f11 => ?_
   refine bs fun v18 h17 => ?_
   have f12 := qhl h17
   try simp only [en.down] at f12
   rintro ⟨⟩
   exact fF q0t
  rintro ⟨⟩
  exact fF q0t
 apply it <;> intro h35
 ·rintro ⟨⟩
  exact fF q0t
 refine bg qh fun x37 h36 f13 f14 f15 => ?_
 apply it <;> intro h38
 ·rintro ⟨⟩
  exact fF q0t
 apply it <;> intro h39
 ·refine bs fun v41 h40 => ?_
  have f16 := zjh h40
  try simp only [en.down] at f16
  rintro ⟨⟩
  exact fF q0t
 apply it <;> intro h42
 ·rintro ⟨⟩
  exact fF q0t
 apply it <;> intro h43
 ·refine bs fun v45 h44 => ?_
  have f17 := qen h44
  try simp only [en.down] at f17
  refine bs fun v47 h46 => ?_
  have f18 := qen h46
  try simp only [en.down] at f18
  try simp only [h43] at f17 f18
  rintro ⟨⟩
  exact fF q0t
 rintro ⟨⟩
 exact fF q0t
def ql4 : ((Int × (Sl T.Span) × Bool × T.qo) ⊕ (T.qo)) → Ex × St
 | .inl y => (Ex.ret,⟨[(8,v_i y.1),(9,v_l 2 T.Span.enc y.2.1),(10,v_b y.2.2.1)],[(0,b_x (T.qo.enc y.2.2.2))],1⟩)
 | .inr y => (Ex.normal,⟨[(8,AV.undef),(9,AV.undef),(10,AV.undef)],[(0,b_x (T.qo.enc y))],1⟩)
attribute [local go_sem] ql4
theorem z5p : (∀ p r,xg p = some r → O.call 144 [AV.ptr 0 0,AV.pv (T.qw.jh p.1),v_i p.2.1,v_l 2 T.Span.enc p.2.2.1] [(0,b_x (T.qo.enc p.2.2.2))] = some (AV.tup [v_i r.1,v_l 2 T.Span.enc r.2.1,v_b r.2.2.1],[(0,b_x (T.qo.enc r.2.2.2))])) ∧ (∀ p r,qbf p = some r → O.call 154 [AV.ptr 0 0,AV.pv (T.qw.jh p.1),v_i p.2.1,v_l 2 T.Span.enc p.2.2.1] [(0,b_x (T.qo.enc p.2.2.2))] = some (AV.tup [v_i r.1,v_l 2 T.Span.enc r.2.1,v_b r.2.2.1],[(0,b_x (T.qo.enc r.2.2.2))])) ∧ (∀ p r,q56 p = some r → O.loop 144 3 ⟨[(0,AV.ptr 0 0),(1,AV.pv (T.qw.jh p.1)),(2,v_i p.2.1),(3,v_l 2 T.Span.enc p.2.2.1),(15,v_i p.2.2.2.1),(16,v_i p.2.2.2.2.1)],[(0,b_x (T.qo.enc p.2.2.2.2.2))],1⟩ = some (ql4 r)) ∧ (∀ p r,q4l p = some r → O.call 153 [AV.ptr 0 0,AV.pv (T.qw.jh p.1),v_i p.2.1,v_l 2 T.Span.enc p.2.2.1] [(0,b_x (T.qo.enc p.2.2.2))] = some (AV.tup [v_i r.1,v_l 2 T.Span.enc r.2.1,v_b r.2.2.1],[(0,b_x (T.qo.enc r.2.2.2))])) ∧ (∀ p r,q08 p = some r → O.call 156 [AV.ptr 0 0,AV.pv (T.qw.jh p.1),v_i p.2.1,v_l 2 T.Span.enc p.2.2.1] [(0,b_x (T.qo.enc p.2.2.2))] = some (AV.tup [v_i r.1,v_l 2 T.Span.enc r.2.1,v_b r.2.2.1],[(0,b_x (T.qo.enc r.2.2.2))])) := by
 refine xg.mutual_partial_correctness _ _ _ _ _ ?_ ?_ ?_ ?_ ?_
 ·rintro xg qbf q56 q4l ih146 ih152 ih151 ih147 ⟨k,i,parts,b⟩ r; dsimp only
  have f1 := T.qw.qrw k
  apply it <;> intro h1
  ·rintro ⟨⟩
   clear ih146 ih147 ih151 ih152; exact fF bu
  refine bs fun x3 h2 => ?_
  have f2 := T.qw.q61 h2
  try simp only [en.down] at f2
  apply it <;> intro h4
  ·have f3 := jd 2 T.Span.enc parts.l
   refine gd fun h5 => ?_
   refine bg qg fun x7 h6 f4 f5 f6 => ?_
   refine bg qg fun x9 h8 f7 f8 f9 => ?_
   refine bw T.Span.enc fun x11 h10 f10 f11 f12 => ?_
   have f13 := map_set T.Span.enc parts.l x3.g.toNat (T.Span.mk x7 x9)
   try simp only [en.down] at f13
   refine bs fun v13 h12 => ?_
   have f14 := ih146 _ _ h12
   try simp only [en.down,f2] at f14
   try simp only [h1,f2] at f13 f14
   rintro ⟨⟩
   clear ih146 ih147 ih151 ih152; exact fF bu
  apply it <;> intro h14
  ·apply it <;> intro h15
   ·apply it <;> intro h16
    ·rintro ⟨⟩
     clear ih146 ih147 ih151 ih152; exact fF bu
    refine bs fun v18 h17 => ?_
    have f15 := ih147 _ _ h17
    try simp only [en.down,f2] at f15
    try simp only [h1,f2] at f15
    rintro ⟨⟩
    clear ih146 ih147 ih151 ih152; exact fF bu
   refine bs fun v20 h19 => ?_
   have f16 := ih147 _ _ h19
   try simp only [en.down,f2] at f16
   try simp only [h1,f2] at f16
   rintro ⟨⟩
   clear ih146 ih147 ih151 ih152; exact fF bu
  apply it <;> intro h21
  ·refine bs fun v23 h22 => ?_
   have f17 := qbr.1 _ _ h22
   try simp only [en.down,f2] at f17
   refine bs fun v25 h24 => ?_
   have f18 := zav _ _ h24
   try simp only [en.down,f2] at f18
   refine bs fun v27 h26 => ?_
   have f19 := ih146 _ _ h26
   try simp only [en.down,f2] at f19
   try simp only [h1,f2] at f17 f18 f19
   rintro ⟨⟩
   clear ih146 ih147 ih151 ih152; exact fF bu
  apply it <;> intro h28
  ·refine bs fun v30 h29 => ?_
   have f20 := ih151 _ _ h29
   try simp only [en.down,f2] at f20
   rcases v30 with y31 | y32
   ·dsimp only
    try simp only [h1,f2] at f20
    rintro ⟨⟩
    clear ih146 ih147 ih151 ih152; exact fF bu
   dsimp only
   try simp only [h1,f2] at f20
   rintro ⟨⟩
   clear ih146 ih147 ih151 ih152; exact fF bu
  apply it <;> intro h33
  ·refine bs fun v35 h34 => ?_
   have f21 := ih147 _ _ h34
   try simp only [en.down,f2] at f21
   try simp only [h1,f2] at f21
   rintro ⟨⟩
   clear ih146 ih147 ih151 ih152; exact fF bu
  refine bs fun v37 h36 => ?_
  have f22 := ih152 _ _ h36
  try simp only [en.down,f2] at f22
  try simp only [h1,f2] at f22
  rintro ⟨⟩
  clear ih146 ih147 ih151 ih152; exact fF bu
 ·rintro xg ih146 ⟨k,i,parts,b⟩ r; dsimp only
  apply it <;> intro h1
  ·rintro ⟨⟩
   clear ih146; exact fF q9w
  refine bs fun x3 h2 => ?_
  have f1 := T.qw.q61 h2
  try simp only [en.down] at f1
  apply it <;> intro h4
  ·refine bg T.Rx.enc fun x6 h5 f2 f3 f4 => ?_
   refine bs fun v8 h7 => ?_
   have f5 := ih146 _ _ h7
   try simp only [en.down,f1] at f5
   try simp only [f1] at f5
   rintro ⟨⟩
   clear ih146; exact fF q9w
  apply it <;> intro h9
  ·refine bg T.Rx.enc fun x11 h10 f6 f7 f8 => ?_
   refine bs fun v13 h12 => ?_
   have f9 := ih146 _ _ h12
   try simp only [en.down,f1] at f9
   try simp only [f1] at f9
   rintro ⟨⟩
   clear ih146; exact fF q9w
  refine bs fun v15 h14 => ?_
  have f10 := z6i h14
  try simp only [en.down,f1] at f10
  apply it <;> intro h16
  ·try simp only [f1] at f10
   rintro ⟨⟩
   clear ih146; exact fF q9w
  refine bs fun v18 h17 => ?_
  have f11 := ih146 _ _ h17
  try simp only [en.down,f1] at f11
  try simp only [f1] at f10 f11
  rintro ⟨⟩
  clear ih146; exact fF q9w
 ·rintro xg q56 ih146 ih151 ⟨k,i,parts,g,j,r_⟩ r; dsimp only
  refine bs fun x2 h1 => ?_
  have f1 := T.qw.q61 h1
  try simp only [en.down] at f1
  apply it <;> intro h3
  ·refine bg T.Rx.enc fun x5 h4 f2 f3 f4 => ?_
   refine bs fun v7 h6 => ?_
   have f5 := ih146 _ _ h6
   try simp only [en.down,f1] at f5
   refine xe ?_ (fun h8 h9 => ?_)
   ·rintro (⟨h8,h9⟩ | ⟨h8,h9⟩)
    all_goals
    try simp only [h8,h9,f1] at f5
    rintro ⟨⟩
    clear ih146 ih151; exact fL bu
   refine bs fun v11 h10 => ?_
   have f6 := qbr.1 _ _ h10
   try simp only [en.down,f1] at f6
   try simp only [h8,h9,f1] at f5 f6
   intro h; have f7 := ih151 _ _ h; clear h
   try simp only [en.down,f1] at f7
   try simp only [h8,h9,f1] at f7
   clear ih146 ih151; exact fL bu
  rintro ⟨⟩
  clear ih146 ih151; exact fL bu
 ·rintro xg q08 ih146 ih148 ⟨k,i,parts,b⟩ r; dsimp only
  refine bs fun x2 h1 => ?_
  have f1 := T.qw.q61 h1
  try simp only [en.down] at f1
  apply it <;> intro h3
  ·apply it <;> intro h4
   ·refine bs fun v6 h5 => ?_
    have f2 := ih148 _ _ h5
    try simp only [en.down,f1] at f2
    try simp only [f1] at f2
    rintro ⟨⟩
    clear ih146 ih148; exact fF q1q
   apply it <;> intro h7
   ·refine bs fun v9 h8 => ?_
    have f3 := ih146 _ _ h8
    try simp only [en.down,f1] at f3
    refine xe ?_ (fun h10 h11 => ?_)
    ·rintro (⟨h10,h11⟩ | ⟨h10,h11⟩)
     all_goals
     try simp only [h7,h10,h11,f1] at f3
     rintro ⟨⟩
     clear ih146 ih148; exact fF q1q
    refine bs fun v13 h12 => ?_
    have f4 := ih148 _ _ h12
    try simp only [en.down,f1] at f4
    try simp only [h7,h10,h11,f1] at f3 f4
    rintro ⟨⟩
    clear ih146 ih148; exact fF q1q
   refine bs fun v15 h14 => ?_
   have f5 := ih148 _ _ h14
   try simp only [en.down,f1] at f5
   refine xe ?_ (fun h16 h17 => ?_)
   ·rintro (⟨h16,h17⟩ | ⟨h16,h17⟩)
    all_goals
    try simp only [h7,h16,h17,f1] at f5
    rintro ⟨⟩
    clear ih146 ih148; exact fF q1q
   refine bs fun v19 h18 => ?_
   have f6 := ih146 _ _ h18
   try simp only [en.down,f1] at f6
   try simp only [h7,h16,h17,f1] at f5 f6
   rintro ⟨⟩
   clear ih146 ih148; exact fF q1q
  apply it <;> intro h20
  ·refine bs fun v22 h21 => ?_
   have f7 := ih148 _ _ h21
   try simp only [en.down,f1] at f7
   try simp only [f1] at f7
   rintro ⟨⟩
   clear ih146 ih148; exact fF q1q
  apply it <;> intro h23
  ·refine bs fun v25 h24 => ?_
   have f8 := ih146 _ _ h24
   try simp only [en.down,f1] at f8
   refine qb8 ?_ (fun h26 h27 h28 => ?_)
   ·rintro (⟨h26,h27,h28⟩ | ⟨h26,h27,h28⟩ | ⟨h26,h27,h28⟩)
    all_goals
    try simp only [h23,h26,h27,f1] at f8
    rintro ⟨⟩
    clear ih146 ih148; exact fF q1q
   refine bs fun v30 h29 => ?_
   have f9 := ih148 _ _ h29
   try simp only [en.down,f1] at f9
   try simp only [h23,h26,h27,f1] at f8 f9
   rintro ⟨⟩
   clear ih146 ih148; exact fF q1q
  apply it <;> intro h31
  ·refine bs fun v33 h32 => ?_
   have f10 := ih148 _ _ h32
   try simp only [en.down,f1] at f10
   refine xe ?_ (fun h34 h35 => ?_)
   ·rintro (⟨h34,h35⟩ | ⟨h34,h35⟩)
    all_goals
    try simp only [h23,h34,h35,f1] at f10
    rintro ⟨⟩
    clear ih146 ih148; exact fF q1q
   refine bs fun v37 h36 => ?_
   have f11 := ih146 _ _ h36
   try simp only [en.down,f1] at f11
   try simp only [h23,h34,h35,f1] at f10 f11
   rintro ⟨⟩
   clear ih146 ih148; exact fF q1q
  refine bs fun v39 h38 => ?_
  have f12 := ih146 _ _ h38
  try simp only [en.down,f1] at f12
  try simp only [h23,f1] at f12
  rintro ⟨⟩
  clear ih146 ih148; exact fF q1q
 ·rintro xg ih146 ⟨k,i,parts,b⟩ r; dsimp only
  have f1 := jd 2 T.Span.enc parts.l
  refine gd fun h1 => ?_
  refine bs fun v3 h2 => ?_
  have f2 := z3p _ _ h2
  try simp only [en.down] at f2
  refine bs fun x5 h4 => ?_
  have f3 := T.qw.q61 h4
  try simp only [en.down] at f3
  refine bg T.Rx.enc fun x7 h6 f4 f5 f6 => ?_
  refine bs fun v9 h8 => ?_
  have f7 := ih146 _ _ h8
  try simp only [en.down,f3] at f7
  try simp only [f3] at f2 f7
  rintro ⟨⟩
  clear ih146; exact fF qfl
theorem zpq {x i b r} (h : qbm x i b = some r) : O.call 134 [AV.ptr 0 0,v_g (T.Rx.enc x),v_i i] [(0,b_x (T.qo.enc b))] = some (AV.tup [v_g (T.qp.enc r.1),v_b r.2.1],[(0,b_x (T.qo.enc r.2.2))]) := by
 revert h; unfold qbm
 refine bs fun v2 h1 => ?_
 have f1 := zb6 _ _ h1
 try simp only [en.down] at f1
 refine bs fun v4 h3 => ?_
 have f2 := z5p.1 _ _ h3
 try simp only [en.down] at f2
 apply it <;> intro h5
 ·rintro ⟨⟩
  exact fF qdj
 refine bg qg fun x7 h6 f3 f4 f5 => ?_
 refine bg qg fun x9 h8 f6 f7 f8 => ?_
 rintro ⟨⟩
 exact fF qdj
def qld (x : T.Rx) (t6 : T.qp) : ((Bool × T.qo × T.qp) ⊕ (T.qo)) → Ex × St
 | .inl y => (Ex.ret,⟨[(6,AV.ptr 2 0),(7,v_b y.1)],[(0,b_x (T.qo.enc y.2.1)),(1,b_x (T.Rx.enc x)),(2,b_x (T.qp.enc y.2.2))],3⟩)
 | .inr y => (Ex.normal,⟨[(6,AV.ptr 2 0),(7,AV.undef)],[(0,b_x (T.qo.enc y)),(1,b_x (T.Rx.enc x)),(2,b_x (T.qp.enc t6))],3⟩)
attribute [local go_sem] qld
theorem z6h : ∀ p r,q6i p = some r → O.loop 122 0 ⟨[(0,AV.ptr 0 0),(2,v_i p.1),(4,AV.ptr 1 0),(6,AV.ptr 2 0)],[(0,b_x (T.qo.enc p.2.1)),(1,b_x (T.Rx.enc p.2.2.1)),(2,b_x (T.qp.enc p.2.2.2))],3⟩ = some (qld p.2.2.1 p.2.2.2 r) := by
 refine q6i.partial_correctness _ ?_
 rintro q6i ih141 ⟨i,r_,x,t6⟩ r; dsimp only
 apply it <;> intro h1
 ·refine bs fun v3 h2 => ?_
  have f1 := zpq h2
  try simp only [en.down] at f1
  refine xe ?_ (fun h4 h5 => ?_)
  ·rintro (⟨h4,h5⟩ | ⟨h4,h5⟩)
   all_goals
   try simp only [h4,h5] at f1
   rintro ⟨⟩
   clear ih141; exact fL qbq
  try simp only [h4,h5] at f1
  intro h; have f2 := ih141 _ _ h; clear h
  try simp only [en.down] at f2
  try simp only [h4,h5] at f2
  clear ih141; exact fL qbq
 rintro ⟨⟩
 clear ih141; exact fL qbq
theorem ql8 {x i b r} (h : q7y x i b = some r) : O.call 122 [AV.ptr 0 0,v_g (T.Rx.enc x),v_i i] [(0,b_x (T.qo.enc b))] = some (AV.tup [v_g (T.qp.enc r.1),v_b r.2.1],[(0,b_x (T.qo.enc r.2.2))]) := by
 revert h; unfold q7y
 refine bs fun v2 h1 => ?_
 have f1 := z6h _ _ h1
 try simp only [en.down] at f1
 rcases v2 with y3 | y4
 ·dsimp only
  rintro ⟨⟩
  exact fF qbq
 dsimp only
 rintro ⟨⟩
 exact fF qbq
def qln (r_ : T.qo) : ((Int) ⊕ (Unit)) → Ex × St
 | .inl y => (Ex.ret,⟨[(4,v_i y)],[(0,b_x (T.qo.enc r_))],1⟩)
 | .inr y => (Ex.normal,⟨[(4,AV.undef)],[(0,b_x (T.qo.enc r_))],1⟩)
attribute [local go_sem] qln
theorem z3v : ∀ p r,q5f p = some r → O.loop 123 0 ⟨[(0,AV.ptr 0 0),(1,v_i p.1),(5,v_i p.2.1)],[(0,b_x (T.qo.enc p.2.2))],1⟩ = some (qln p.2.2 r) := by
 refine q5f.partial_correctness _ ?_
 rintro q5f ih161 ⟨at_,i,r_⟩ r; dsimp only
 apply it <;> intro h1
 ·refine bg qg fun x3 h2 f1 f2 f3 => ?_
  apply it <;> intro h4
  ·rintro ⟨⟩
   clear ih161; exact fL qbw
  intro h; have f4 := ih161 _ _ h; clear h
  try simp only [en.down] at f4
  clear ih161; exact fL qbw
 rintro ⟨⟩
 clear ih161; exact fL qbw
theorem qhw {at_ b r} (h : q8w at_ b = some r) : O.call 123 [AV.ptr 0 0,v_i at_] [(0,b_x (T.qo.enc b))] = some (v_i r,[(0,b_x (T.qo.enc b))]) := by
 revert h; unfold q8w
 refine bs fun v2 h1 => ?_
 have f1 := z3v _ _ h1
 try simp only [en.down] at f1
 rcases v2 with y3 | y4
 ·dsimp only
  rintro ⟨⟩
  exact fF qbw
 dsimp only
 rintro ⟨⟩
 exact fF qbw
def qod (x : T.Rx) : (((Sl T.qp) × Int × Int × T.qo × (List T.qp)) ⊕ (T.qo × (List T.qp))) → Ex × St
 | .inl y => (Ex.ret,⟨[(8,v_l 3 T.qp.enc y.1),(9,v_i y.2.1),(10,v_i y.2.2.1),(11,AV.ptr 1 0),(12,v_r 2 y.2.2.2.2)],[(0,b_x (T.Rx.enc x)),(1,b_x (T.qo.enc y.2.2.2.1)),(2,b_r 3 T.qp.enc y.2.2.2.2)],3⟩)
 | .inr y => (Ex.normal,⟨[(8,AV.undef),(9,AV.undef),(10,AV.undef),(11,AV.ptr 1 0),(12,v_r 2 y.2)],[(0,b_x (T.Rx.enc x)),(1,b_x (T.qo.enc y.1)),(2,b_r 3 T.qp.enc y.2)],3⟩)
attribute [local go_sem] qod
theorem zfv : ∀ p r,q5i p = some r → O.loop 102 0 ⟨[(4,AV.ptr 0 0),(11,AV.ptr 1 0),(12,v_r 2 p.2.2.2),(13,v_i p.1)],[(0,b_x (T.Rx.enc p.2.1)),(1,b_x (T.qo.enc p.2.2.1)),(2,b_r 3 T.qp.enc p.2.2.2)],3⟩ = some (qod p.2.1 r) := by
 refine q5i.partial_correctness _ ?_
 rintro q5i ih139 ⟨i,x,r_,out⟩ r; dsimp only
 apply it <;> intro h1
 ·refine bs fun v3 h2 => ?_
  have f1 := ql8 h2
  try simp only [en.down] at f1
  apply it <;> intro h4
  ·try simp only [h4] at f1
   rintro ⟨⟩
   clear ih139; exact fL q4h
  apply it <;> intro h5
  ·try simp only [h4] at f1
   rintro ⟨⟩
   clear ih139; exact fL q4h
  refine gd fun h6 => ?_
  have f2 := rG 3 T.qp.enc out
  refine bs fun v8 h7 => ?_
  have f3 := qhw h7
  try simp only [en.down] at f3
  apply it <;> intro h9
  ·have f4 : List.map T.qp.enc out ++ [[PV.int IntKind.i64 v3.1.span.frm,PV.int IntKind.i64 v3.1.span.to,PV.sl v3.1.parts.nil (szc 2 v3.1.parts.l) (List.map T.Span.enc v3.1.parts.l)]] = List.map T.qp.enc (out ++ [v3.1]) := by simp only [List.map_append,List.map_cons,List.map_nil,zb,za,ze,T.qp.qz] <;> rfl
   try simp only [h4] at f1 f3
   intro h; have f5 := ih139 _ _ h; clear h
   try simp only [en.down] at f5
   try simp only [h4] at f5
   clear ih139; exact fL q4h
  have f6 : List.map T.qp.enc out ++ [[PV.int IntKind.i64 v3.1.span.frm,PV.int IntKind.i64 v3.1.span.to,PV.sl v3.1.parts.nil (szc 2 v3.1.parts.l) (List.map T.Span.enc v3.1.parts.l)]] = List.map T.qp.enc (out ++ [v3.1]) := by simp only [List.map_append,List.map_cons,List.map_nil,zb,za,ze,T.qp.qz] <;> rfl
  try simp only [h4] at f1 f3
  intro h; have f7 := ih139 _ _ h; clear h
  try simp only [en.down] at f7
  try simp only [h4] at f7
  clear ih139; exact fL q4h
 rintro ⟨⟩
 clear ih139; exact fL q4h
theorem zb7 {x fold s fuel r} (h : qay x fold s fuel = some r) : O.call 102 [v_g (T.Rx.enc x),v_b fold,v_s s,v_i fuel] [] = some (AV.tup [v_l 3 T.qp.enc r.1,v_i r.2.1,v_i r.2.2],[]) := by
 revert h; unfold qay
 refine bs fun v2 h1 => ?_
 have f1 := qfi h1
 try simp only [en.down] at f1
 apply it <;> intro h3
 ·rintro ⟨⟩
  exact fF q4h
 refine bs fun v5 h4 => ?_
 have f2 := qpg h4
 try simp only [en.down] at f2
 refine bs fun v7 h6 => ?_
 have f3 := zfv _ _ h6
 try simp only [en.down] at f3
 rcases v7 with y8 | y9
 ·dsimp only
  rintro ⟨⟩
  exact fF q4h
 dsimp only
 rintro ⟨⟩
 exact fF q4h
theorem zgg : ∀ p r,q3b p = some r → O.loop 104 0 ⟨[(1,v_s p.1),(3,AV.ptr 0 0),(5,AV.ptr 1 0),(7,v_r 2 p.2.2.2.2),(8,v_i p.2.1)],[(0,b_x (T.Form.enc p.2.2.1)),(1,b_x (T.qp.enc p.2.2.2.1)),(2,Blk.row false 1 (List.map qh p.2.2.2.2))],3⟩ = some (Ex.normal,⟨[(3,AV.ptr 0 0),(7,v_r 2 r)],[(0,b_x (T.Form.enc p.2.2.1)),(1,b_x (T.qp.enc p.2.2.2.1)),(2,Blk.row false 1 (List.map qh r))],3⟩) := by
 refine q3b.partial_correctness _ ?_
 rintro q3b ih164 ⟨s,i,f,m,parts⟩ r; dsimp only
 apply it <;> intro h1
 ·refine bg T.Span.enc fun x3 h2 f1 f2 f3 => ?_
  apply it <;> intro h4
  ·refine b2s fun r6 h5 f4 f5 f6 f7 f8 => ?_
   refine gd fun h7 => ?_
   have f9 : List.map qh parts ++ [[PV.str r6]] = List.map qh (parts ++ [r6]) := by simp only [List.map_append,List.map_cons,List.map_nil,zb,za,ze,qh] <;> rfl
   intro h; have f10 := ih164 _ _ h; clear h
   try simp only [en.down] at f10
   clear ih164; exact fL qdt
  refine gd fun h8 => ?_
  have f11 : List.map qh parts ++ [[PV.str ([] : Bytes)]] = List.map qh (parts ++ [([] : Bytes)]) := by simp only [List.map_append,List.map_cons,List.map_nil,zb,za,ze,qh] <;> rfl
  intro h; have f12 := ih164 _ _ h; clear h
  try simp only [en.down] at f12
  clear ih164; exact fL qdt
 rintro ⟨⟩
 clear ih164; exact fL qdt
theorem qhj {c r} (h : q7e c = some r) : O.call 145 [AV.pv (PV.int IntKind.u8 (c.toNat : Int))] [] = some (AV.pv (PV.int IntKind.u8 (r.toNat : Int)),[]) := by
 revert h; unfold q7e
 refine zl (fun h1 h2 => ?_) ?_
 ·rintro ⟨⟩
  exact fF qoo
 rintro (⟨h1,h2⟩ | ⟨h1,h2⟩)
 all_goals
 rintro ⟨⟩
 exact fF qoo
theorem qt7 : ∀ p r,q6p p = some r → O.loop 135 1 ⟨[(6,v_r 0 p.2),(7,v_i p.1)],[(0,Blk.row false 1 (List.map qj p.2))],1⟩ = some (Ex.normal,⟨[(6,v_r 0 r)],[(0,Blk.row false 1 (List.map qj r))],1⟩) := by
 refine q6p.partial_correctness _ ?_
 rintro q6p ih168 ⟨i,b⟩ r; dsimp only
 apply it <;> intro h1
 ·refine bw qj fun x3 h2 f1 f2 f3 => ?_
  refine bs fun v5 h4 => ?_
  have f4 := qhj h4
  try simp only [en.down] at f4
  have f5 := map_set qj b i.toNat v5
  try simp only [en.down] at f5
  intro h; have f6 := ih168 _ _ h; clear h
  try simp only [en.down] at f6
  clear ih168; exact fL q0f
 rintro ⟨⟩
 clear ih168; exact fL q0f
theorem qkm {c r} (h : q7o c = some r) : O.call 146 [AV.pv (PV.int IntKind.u8 (c.toNat : Int))] [] = some (AV.pv (PV.int IntKind.u8 (r.toNat : Int)),[]) := by
 revert h; unfold q7o
 refine zl (fun h1 h2 => ?_) ?_
 ·rintro ⟨⟩
  exact fF qn6
 rintro (⟨h1,h2⟩ | ⟨h1,h2⟩)
 all_goals
 rintro ⟨⟩
 exact fF qn6
theorem zg4 : ∀ p r,q72 p = some r → O.loop 135 3 ⟨[(6,v_r 0 p.2),(8,v_i p.1)],[(0,Blk.row false 1 (List.map qj p.2))],1⟩ = some (Ex.normal,⟨[(6,v_r 0 r)],[(0,Blk.row false 1 (List.map qj r))],1⟩) := by
 refine q72.partial_correctness _ ?_
 rintro q72 ih170 ⟨i,b⟩ r; dsimp only
 apply it <;> intro h1
 ·refine bw qj fun x3 h2 f1 f2 f3 => ?_
  refine bs fun v5 h4 => ?_
  have f4 := qkm h4
  try simp only [en.down] at f4
  have f5 := map_set qj b i.toNat v5
  try simp only [en.down] at f5
  intro h; have f6 := ih170 _ _ h; clear h
  try simp only [en.down] at f6
  clear ih170; exact fL q0f
 rintro ⟨⟩
 clear ih170; exact fL q0f
theorem qrd {c r} (h : qe9 c = some r) : O.call 158 [AV.pv (PV.int IntKind.u8 (c.toNat : Int))] [] = some (v_b r,[]) := by
 revert h; unfold qe9
 refine zl (fun h1 h2 => ?_) ?_
 ·rintro ⟨⟩
  exact fF qer
 rintro (⟨h1,h2⟩ | ⟨h1,h2⟩)
 all_goals
 apply it <;> intro h4
 ·rintro ⟨⟩
  exact fF qer
 rintro ⟨⟩
 exact fF qer
theorem qmx {c r} (h : q7b c = some r) : O.call 155 [AV.pv (PV.int IntKind.u8 (c.toNat : Int))] [] = some (v_b r,[]) := by
 revert h; unfold q7b
 refine bs fun v2 h1 => ?_
 have f1 := qrd h1
 try simp only [en.down] at f1
 refine q6m ?_ ?_
 ·rintro (⟨h3,h4,h5⟩ | ⟨h3,h4,h5⟩)
  all_goals
  try simp only [h3] at f1
  rintro ⟨⟩
  exact fF qk6
 rintro (⟨h3,h4,h5⟩ | ⟨h3,h4,h5⟩)
 all_goals
 try simp only [h3] at f1
 rintro ⟨⟩
 exact fF qk6
theorem z1n : ∀ p r,q0j p = some r → O.loop 147 0 ⟨[(0,v_s p.1),(3,v_r 0 p.2.2),(4,v_i p.2.1)],[(0,b_r 1 qh p.2.2)],1⟩ = some (Ex.normal,⟨[(3,v_r 0 r)],[(0,b_r 1 qh r)],1⟩) := by
 refine q0j.partial_correctness _ ?_
 rintro q0j ih173 ⟨s,i,l⟩ r; dsimp only
 apply it <;> intro h1
 ·refine bc fun b3 h2 f1 f2 => ?_
  refine bs fun v5 h4 => ?_
  have f3 := qmx h4
  try simp only [en.down] at f3
  apply it <;> intro h6
  ·intro h; have f4 := ih173 _ _ h; clear h
   try simp only [en.down] at f4
   clear ih173; exact fL q8s
  apply it <;> intro h7
  ·refine gd fun h8 => ?_
   have f5 := rG 1 qh l
   have f6 : List.map qh l ++ [[PV.str ([] : Bytes)]] = List.map qh (l ++ [([] : Bytes)]) := by simp only [List.map_append,List.map_cons,List.map_nil,zb,za,ze,qh] <;> rfl
   refine bw qh fun x10 h9 f7 f8 f9 => ?_
   refine b2s fun r12 h11 f10 f11 f12 f13 f14 => ?_
   refine gd fun h13 => ?_
   have f15 := eq_true h13
   try simp only [en.down] at f15
   have f16 := map_set qh (l ++ [([] : Bytes)]) ((IntKind.i64.wrap (((l ++ [([] : Bytes)]).length : Int) - (1 : Int))).toNat) (x10 ++ r12)
   try simp only [en.down] at f16
   intro h; have f17 := ih173 _ _ h; clear h
   try simp only [en.down] at f17
   clear ih173; exact fL q8s
  refine bc fun b15 h14 f18 f19 => ?_
  refine bs fun v17 h16 => ?_
  have f20 := qmx h16
  try simp only [en.down] at f20
  apply it <;> intro h18
  ·refine gd fun h19 => ?_
   have f21 := rG 1 qh l
   have f22 : List.map qh l ++ [[PV.str ([] : Bytes)]] = List.map qh (l ++ [([] : Bytes)]) := by simp only [List.map_append,List.map_cons,List.map_nil,zb,za,ze,qh] <;> rfl
   refine bw qh fun x21 h20 f23 f24 f25 => ?_
   refine b2s fun r23 h22 f26 f27 f28 f29 f30 => ?_
   refine gd fun h24 => ?_
   have f31 := eq_true h24
   try simp only [en.down] at f31
   have f32 := map_set qh (l ++ [([] : Bytes)]) ((IntKind.i64.wrap (((l ++ [([] : Bytes)]).length : Int) - (1 : Int))).toNat) (x21 ++ r23)
   try simp only [en.down] at f32
   intro h; have f33 := ih173 _ _ h; clear h
   try simp only [en.down] at f33
   clear ih173; exact fL q8s
  refine bW qh 1 fun x26 h25 f34 f35 f36 f37 f38 => ?_
  refine b2s fun r28 h27 f39 f40 f41 f42 f43 => ?_
  refine gd fun h29 => ?_
  have f44 := eq_true h29
  try simp only [en.down] at f44
  have f45 := map_set qh l ((IntKind.i64.wrap ((l.length : Int) - (1 : Int))).toNat) (x26 ++ r28)
  try simp only [en.down] at f45
  try simp only [f37,f38] at f3 f20 f45
  intro h; have f46 := ih173 _ _ h; clear h
  try simp only [en.down,f37,f38] at f46
  try simp only [f37,f38] at f46
  clear ih173; exact fL q8s
 rintro ⟨⟩
 clear ih173; exact fL q8s
theorem zel {s r} (h : qax s = some r) : O.call 147 [v_s s] [] = some (v_l 1 qh r,[]) := by
 revert h; unfold qax
 refine bs fun v2 h1 => ?_
 have f1 := z1n _ _ h1
 try simp only [en.down] at f1
 rintro ⟨⟩
 exact fF q8s
theorem zc5 : ∀ p r,q3p p = some r → O.loop 135 5 ⟨[(1,v_i p.1),(9,v_l 1 qh p.2.1),(10,v_s p.2.2.1),(11,v_i p.2.2.2.1)],[(0,Blk.row false 1 (List.map qj p.2.2.2.2))],1⟩ = some (Ex.normal,⟨[(10,v_s r)],[(0,Blk.row false 1 (List.map qj p.2.2.2.2))],1⟩) := by
 refine q3p.partial_correctness _ ?_
 rintro q3p ih176 ⟨way,l,out,i,r0_⟩ r; dsimp only
 apply it <;> intro h1
 ·refine bg qh fun x3 h2 f1 f2 f3 => ?_
  refine zl (fun h4 h5 => ?_) ?_
  ·refine bw qj fun x7 h6 f4 f5 f6 => ?_
   refine bs fun v9 h8 => ?_
   have f7 := qkm h8
   try simp only [en.down] at f7
   have f8 := map_set qj x3 ((0 : Int).toNat) v9
   try simp only [en.down] at f8
   have f9 := jd 1 qj (x3.set ((0 : Int).toNat) v9)
   try simp only [en.down] at f9
   have f10 := bytesOf_map (x3.set ((0 : Int).toNat) v9)
   refine gd fun h10 => ?_
   have f11 := eq_true h10
   try simp only [en.down] at f11
   intro h; have f12 := ih176 _ _ h; clear h
   try simp only [en.down] at f12
   clear ih176; exact fL q0f
  rintro (⟨h4,h5⟩ | ⟨h4,h5⟩)
  all_goals
  refine bw qj fun x17 h16 f13 f14 f15 => ?_
  refine bs fun v19 h18 => ?_
  have f16 := qhj h18
  try simp only [en.down] at f16
  have f17 := map_set qj x3 ((0 : Int).toNat) v19
  try simp only [en.down] at f17
  have f18 := jd 1 qj (x3.set ((0 : Int).toNat) v19)
  try simp only [en.down] at f18
  have f19 := bytesOf_map (x3.set ((0 : Int).toNat) v19)
  refine gd fun h20 => ?_
  have f20 := eq_true h20
  try simp only [en.down] at f20
  intro h; have f21 := ih176 _ _ h; clear h
  try simp only [en.down] at f21
  clear ih176; exact fL q0f
 rintro ⟨⟩
 clear ih176; exact fL q0f
theorem qmm {s way r} (h : q9c s way = some r) : O.call 135 [v_s s,v_i way] [] = some (AV.tup [v_s r.1,v_i r.2],[]) := by
 revert h; unfold q9c
 apply it <;> intro h1
 ·refine bs fun v3 h2 => ?_
  have f1 := qt7 _ _ h2
  try simp only [en.down] at f1
  have f2 := jd 1 qj v3
  have f3 := bytesOf_map v3
  rintro ⟨⟩
  exact fF q0f
 apply it <;> intro h4
 ·refine bs fun v6 h5 => ?_
  have f4 := zg4 _ _ h5
  try simp only [en.down] at f4
  have f5 := jd 1 qj v6
  have f6 := bytesOf_map v6
  rintro ⟨⟩
  exact fF q0f
 apply it <;> intro h7
 ·apply it <;> intro h8
  ·refine bw qj fun x10 h9 f7 f8 f9 => ?_
   refine bs fun v12 h11 => ?_
   have f10 := qhj h11
   try simp only [en.down] at f10
   have f11 := map_set qj s ((0 : Int).toNat) v12
   try simp only [en.down] at f11
   have f12 := jd 1 qj (s.set ((0 : Int).toNat) v12)
   try simp only [en.down] at f12
   have f13 := bytesOf_map (s.set ((0 : Int).toNat) v12)
   rintro ⟨⟩
   exact fF q0f
  have f14 := jd 1 qj s
  have f15 := bytesOf_map s
  rintro ⟨⟩
  exact fF q0f
 refine xe ?_ (fun h13 h18 => ?_)
 ·rintro (⟨h13,h18⟩ | ⟨h13,h18⟩)
  all_goals
  refine bs fun v15 h14 => ?_
  have f16 := zel h14
  try simp only [en.down] at f16
  refine bs fun v17 h16 => ?_
  have f17 := zc5 _ _ h16
  try simp only [en.down] at f17
  rintro ⟨⟩
  exact fF q0f
 rintro ⟨⟩
 exact fF q0f
theorem qqr : ∀ p r,jy p = some r → O.loop 125 0 ⟨[(0,v_l 5 T.Fmt.enc p.1),(1,v_l 1 qh p.2.1),(5,v_s p.2.2.1),(6,v_i p.2.2.2)],[],0⟩ = some (Ex.normal,⟨[(5,v_s r)],[],0⟩) := by
 refine jy.partial_correctness _ ?_
 rintro jy ih166 ⟨fs,parts,s,i⟩ r; dsimp only
 apply it <;> intro h1
 ·refine bg T.Fmt.enc fun x3 h2 f1 f2 f3 => ?_
  apply it <;> intro h4
  ·refine bg qh fun x6 h5 f4 f5 f6 => ?_
   apply it <;> intro h7
   ·refine gd fun h8 => ?_
    have f7 := eq_true h8
    try simp only [en.down] at f7
    intro h; have f8 := ih166 _ _ h; clear h
    try simp only [en.down] at f8
    clear ih166; exact fL uh
   apply it <;> intro h9
   ·refine gd fun h10 => ?_
    have f9 := eq_true h10
    try simp only [en.down] at f9
    intro h; have f10 := ih166 _ _ h; clear h
    try simp only [en.down] at f10
    clear ih166; exact fL uh
   apply it <;> intro h11
   ·refine bs fun v13 h12 => ?_
    have f11 := qmm h12
    try simp only [en.down] at f11
    refine gd fun h14 => ?_
    have f12 := eq_true h14
    try simp only [en.down] at f12
    intro h; have f13 := ih166 _ _ h; clear h
    try simp only [en.down] at f13
    clear ih166; exact fL uh
   apply it <;> intro h15
   ·apply it <;> intro h16
    ·refine gd fun h17 => ?_
     have f14 := eq_true h17
     try simp only [en.down] at f14
     intro h; have f15 := ih166 _ _ h; clear h
     try simp only [en.down] at f15
     clear ih166; exact fL uh
    refine gd fun h18 => ?_
    have f16 := eq_true h18
    try simp only [en.down] at f16
    intro h; have f17 := ih166 _ _ h; clear h
    try simp only [en.down] at f17
    clear ih166; exact fL uh
   apply it <;> intro h19
   ·refine gd fun h20 => ?_
    have f18 := eq_true h20
    try simp only [en.down] at f18
    intro h; have f19 := ih166 _ _ h; clear h
    try simp only [en.down] at f19
    clear ih166; exact fL uh
   refine gd fun h21 => ?_
   have f20 := eq_true h21
   try simp only [en.down] at f20
   intro h; have f21 := ih166 _ _ h; clear h
   try simp only [en.down] at f21
   clear ih166; exact fL uh
  apply it <;> intro h22
  ·refine gd fun h23 => ?_
   have f22 := eq_true h23
   try simp only [en.down] at f22
   intro h; have f23 := ih166 _ _ h; clear h
   try simp only [en.down] at f23
   clear ih166; exact fL uh
  apply it <;> intro h24
  ·refine gd fun h25 => ?_
   have f24 : (s.length + 0 ≤ 2 ^ 62) = True := eq_true h25
   have f25 : (s.length ≤ 2 ^ 62) = True := eq_true h25
   intro h; have f26 := ih166 _ _ h; clear h
   try simp only [en.down] at f26
   clear ih166; exact fL uh
  apply it <;> intro h26
  ·refine bs fun v28 h27 => ?_
   have f27 := qmm h27
   try simp only [en.down] at f27
   refine gd fun h29 => ?_
   have f28 := eq_true h29
   try simp only [en.down] at f28
   intro h; have f29 := ih166 _ _ h; clear h
   try simp only [en.down] at f29
   clear ih166; exact fL uh
  apply it <;> intro h30
  ·apply it <;> intro h31
   ·refine gd fun h32 => ?_
    have f30 := eq_true h32
    try simp only [en.down] at f30
    intro h; have f31 := ih166 _ _ h; clear h
    try simp only [en.down] at f31
    clear ih166; exact fL uh
   refine gd fun h33 => ?_
   have f32 : (s.length + 0 ≤ 2 ^ 62) = True := eq_true h33
   have f33 : (s.length ≤ 2 ^ 62) = True := eq_true h33
   intro h; have f34 := ih166 _ _ h; clear h
   try simp only [en.down] at f34
   clear ih166; exact fL uh
  apply it <;> intro h34
  ·refine gd fun h35 => ?_
   have f35 := eq_true h35
   try simp only [en.down] at f35
   intro h; have f36 := ih166 _ _ h; clear h
   try simp only [en.down] at f36
   clear ih166; exact fL uh
  refine gd fun h36 => ?_
  have f37 := eq_true h36
  try simp only [en.down] at f37
  intro h; have f38 := ih166 _ _ h; clear h
  try simp only [en.down] at f38
  clear ih166; exact fL uh
 rintro ⟨⟩
 clear ih166; exact fL uh
theorem zlq {fs parts r} (h : qcf fs parts = some r) : O.call 125 [v_l 5 T.Fmt.enc fs,v_l 1 qh parts] [] = some (v_s r,[]) := by
 revert h; unfold qcf
 refine bs fun v2 h1 => ?_
 have f1 := qot h1
 try simp only [en.down] at f1
 apply it <;> intro h3
 ·rintro ⟨⟩
  exact fF uh
 refine bs fun v5 h4 => ?_
 have f2 := qqr _ _ h4
 try simp only [en.down] at f2
 rintro ⟨⟩
 exact fF uh
theorem qf7 {f s m r} (h : q76 f s m = some r) : O.call 104 [v_g (T.Form.enc f),v_s s,v_g (T.qp.enc m)] [] = some (v_s r,[]) := by
 revert h; unfold q76
 refine b2s fun r2 h1 f1 f2 f3 f4 f5 => ?_
 refine bs fun v4 h3 => ?_
 have f6 := zgg _ _ h3
 try simp only [en.down] at f6
 refine bs fun v6 h5 => ?_
 have f7 := zlq h5
 try simp only [en.down] at f7
 rintro ⟨⟩
 exact fF qdt
def qkf (s : Bytes) (left : Int) (f : T.Form) : ((Bytes × Int × Int × Bytes × Int) ⊕ (Bytes × Int)) → Ex × St
 | .inl y => (Ex.ret,⟨[(1,v_s s),(6,v_s y.1),(7,v_i y.2.1),(8,v_i y.2.2.1),(10,v_i left),(14,v_s y.2.2.2.1),(15,v_i y.2.2.2.2)],[(0,b_x (T.Form.enc f))],1⟩)
 | .inr y => (Ex.normal,⟨[(1,v_s s),(6,AV.undef),(7,AV.undef),(8,AV.undef),(10,v_i left),(14,v_s y.1),(15,v_i y.2)],[(0,b_x (T.Form.enc f))],1⟩)
attribute [local go_sem] qkf
theorem zpp : ∀ p r,q53 p = some r → O.loop 81 0 ⟨[(1,v_s p.1),(3,AV.ptr 0 0),(9,v_l 3 T.qp.enc p.2.1),(10,v_i p.2.2.1),(14,v_s p.2.2.2.1),(15,v_i p.2.2.2.2.1),(16,v_i p.2.2.2.2.2.1)],[(0,b_x (T.Form.enc p.2.2.2.2.2.2))],1⟩ = some (qkf p.1 p.2.2.1 p.2.2.2.2.2.2 r) := by
 refine q53.partial_correctness _ ?_
 rintro q53 ih162 ⟨s,ms,left,out,at_,i,f⟩ r; dsimp only
 apply it <;> intro h1
 ·refine bg T.qp.enc fun x3 h2 f1 f2 f3 => ?_
  refine b2s fun r5 h4 f4 f5 f6 f7 f8 => ?_
  refine gd fun h6 => ?_
  have f9 := eq_true h6
  try simp only [en.down] at f9
  refine bs fun v8 h7 => ?_
  have f10 := qf7 h7
  try simp only [en.down] at f10
  refine gd fun h9 => ?_
  have f11 := eq_true h9
  try simp only [en.down] at f11
  apply it <;> intro h10
  ·rintro ⟨⟩
   clear ih162; exact fL jg
  intro h; have f12 := ih162 _ _ h; clear h
  try simp only [en.down] at f12
  clear ih162; exact fL jg
 rintro ⟨⟩
 clear ih162; exact fL jg
theorem qvi {m ok b r} (h : qct m ok b = some r) : O.call 124 [AV.ptr 0 0,v_g (T.qp.enc m),v_b ok] [(0,b_x (T.qo.enc b))] = some (AV.tup [v_g (T.qp.enc r.1),v_i r.2.1,v_b r.2.2.1,v_i r.2.2.2],[(0,b_x (T.qo.enc b))]) := by
 revert h; unfold qct
 apply it <;> intro h1
 ·rintro ⟨⟩
  exact fF qml
 rintro ⟨⟩
 exact fF qml
theorem zkk {x fold s at_ fuel r} (h : q9y x fold s at_ fuel = some r) : O.call 103 [v_g (T.Rx.enc x),v_b fold,v_s s,v_i at_,v_i fuel] [] = some (AV.tup [v_g (T.qp.enc r.1),v_i r.2.1,v_b r.2.2.1,v_i r.2.2.2],[]) := by
 revert h; unfold q9y
 refine bs fun v2 h1 => ?_
 have f1 := qfi h1
 try simp only [en.down] at f1
 apply it <;> intro h3
 ·rintro ⟨⟩
  exact fF qgt
 refine bs fun v5 h4 => ?_
 have f2 := qpg h4
 try simp only [en.down] at f2
 refine bs fun v7 h6 => ?_
 have f3 := qhw h6
 try simp only [en.down] at f3
 apply it <;> intro h8
 ·rintro ⟨⟩
  exact fF qgt
 refine bs fun v10 h9 => ?_
 have f4 := ql8 h9
 try simp only [en.down] at f4
 refine bs fun v12 h11 => ?_
 have f5 := qvi h11
 try simp only [en.down] at f5
 rintro ⟨⟩
 exact fF qgt
def qnl (s : Bytes) (left : Int) (f : T.Form) (b1_ : T.qp) (r2_ : (List T.qp)) (ms : (List T.qp)) : ((Bytes × Int × Int × Bytes × Int) ⊕ (Bytes × Int)) → Ex × St
 | .inl y => (Ex.ret,⟨[(1,v_s s),(6,v_s y.1),(7,v_i y.2.1),(8,v_i y.2.2.1),(10,v_i left),(14,v_s y.2.2.2.1),(15,v_i y.2.2.2.2)],[(0,b_x (T.Form.enc f)),(1,b_x (T.qp.enc b1_)),(2,Blk.row false 3 (List.map T.qp.enc r2_)),(3,Blk.row false 3 (List.map T.qp.enc ms))],4⟩)
 | .inr y => (Ex.normal,⟨[(1,v_s s),(6,AV.undef),(7,AV.undef),(8,AV.undef),(10,v_i left),(14,v_s y.1),(15,v_i y.2)],[(0,b_x (T.Form.enc f)),(1,b_x (T.qp.enc b1_)),(2,Blk.row false 3 (List.map T.qp.enc r2_)),(3,Blk.row false 3 (List.map T.qp.enc ms))],4⟩)
attribute [local go_sem] qnl
theorem qxy : ∀ p r,q4o p = some r → O.loop 81 0 ⟨[(1,v_s p.1),(3,AV.ptr 0 0),(9,v_r 3 p.2.2.2.2.2.2.2.2),(10,v_i p.2.1),(14,v_s p.2.2.1),(15,v_i p.2.2.2.1),(16,v_i p.2.2.2.2.1)],[(0,b_x (T.Form.enc p.2.2.2.2.2.1)),(1,b_x (T.qp.enc p.2.2.2.2.2.2.1)),(2,Blk.row false 3 (List.map T.qp.enc p.2.2.2.2.2.2.2.1)),(3,Blk.row false 3 (List.map T.qp.enc p.2.2.2.2.2.2.2.2))],4⟩ = some (qnl p.1 p.2.1 p.2.2.2.2.2.1 p.2.2.2.2.2.2.1 p.2.2.2.2.2.2.2.1 p.2.2.2.2.2.2.2.2 r) := by
 refine q4o.partial_correctness _ ?_
 rintro q4o ih179 ⟨s,left,out,at_,i,f,b1_,r2_,ms⟩ r; dsimp only
 apply it <;> intro h1
 ·refine bw T.qp.enc fun x3 h2 f1 f2 f3 => ?_
  refine b2s fun r5 h4 f4 f5 f6 f7 f8 => ?_
  refine gd fun h6 => ?_
  have f9 := eq_true h6
  try simp only [en.down] at f9
  refine bs fun v8 h7 => ?_
  have f10 := qf7 h7
  try simp only [en.down] at f10
  refine gd fun h9 => ?_
  have f11 := eq_true h9
  try simp only [en.down] at f11
  apply it <;> intro h10
  ·rintro ⟨⟩
   clear ih179; exact fL jg
  intro h; have f12 := ih179 _ _ h; clear h
  try simp only [en.down] at f12
  clear ih179; exact fL jg
 rintro ⟨⟩
 clear ih179; exact fL jg
def qku (s : Bytes) (left : Int) (f : T.Form) (b1_ : T.qp) : ((Bytes × Int × Int × Bytes × Int) ⊕ (Bytes × Int)) → Ex × St
 | .inl y => (Ex.ret,⟨[(1,v_s s),(6,v_s y.1),(7,v_i y.2.1),(8,v_i y.2.2.1),(10,v_i left),(14,v_s y.2.2.2.1),(15,v_i y.2.2.2.2)],[(0,b_x (T.Form.enc f)),(1,b_x (T.qp.enc b1_))],2⟩)
 | .inr y => (Ex.normal,⟨[(1,v_s s),(6,AV.undef),(7,AV.undef),(8,AV.undef),(10,v_i left),(14,v_s y.1),(15,v_i y.2)],[(0,b_x (T.Form.enc f)),(1,b_x (T.qp.enc b1_))],2⟩)
attribute [local go_sem] qku
theorem qvx : ∀ p r,qbe p = some r → O.loop 81 0 ⟨[(1,v_s p.1),(3,AV.ptr 0 0),(9,v_l 3 T.qp.enc p.2.1),(10,v_i p.2.2.1),(14,v_s p.2.2.2.1),(15,v_i p.2.2.2.2.1),(16,v_i p.2.2.2.2.2.1)],[(0,b_x (T.Form.enc p.2.2.2.2.2.2.1)),(1,b_x (T.qp.enc p.2.2.2.2.2.2.2))],2⟩ = some (qku p.1 p.2.2.1 p.2.2.2.2.2.2.1 p.2.2.2.2.2.2.2 r) := by
 refine qbe.partial_correctness _ ?_
 rintro qbe ih180 ⟨s,ms,left,out,at_,i,f,b1_⟩ r; dsimp only
 apply it <;> intro h1
 ·refine bg T.qp.enc fun x3 h2 f1 f2 f3 => ?_
  refine b2s fun r5 h4 f4 f5 f6 f7 f8 => ?_
  refine gd fun h6 => ?_
  have f9 := eq_true h6
  try simp only [en.down] at f9
  refine bs fun v8 h7 => ?_
  have f10 := qf7 h7
  try simp only [en.down] at f10
  refine gd fun h9 => ?_
  have f11 := eq_true h9
  try simp only [en.down] at f11
  apply it <;> intro h10
  ·rintro ⟨⟩
   clear ih180; exact fL jg
  intro h; have f12 := ih180 _ _ h; clear h
  try simp only [en.down] at f12
  clear ih180; exact fL jg
 rintro ⟨⟩
 clear ih180; exact fL jg
theorem qho {f s fuel r} (h : q57 f s fuel = some r) : O.call 81 [v_g (T.Form.enc f),v_s s,v_i fuel] [] = some (AV.tup [v_s r.1,v_i r.2.1,v_i r.2.2],[]) := by
 revert h; unfold q57
 refine bs fun v2 h1 => ?_
 have f1 := qla h1
 try simp only [en.down] at f1
 apply it <;> intro h3
 ·rintro ⟨⟩
  exact fF jg
 apply it <;> intro h4
 ·refine bs fun v6 h5 => ?_
  have f2 := zb7 h5
  try simp only [en.down] at f2
  apply it <;> intro h7
  ·try simp only [h4] at f1 f2
   rintro ⟨⟩
   exact fF jg
  apply it <;> intro h8
  ·try simp only [h4] at f1 f2
   rintro ⟨⟩
   exact fF jg
  refine bs fun v10 h9 => ?_
  have f3 := zpp _ _ h9
  try simp only [en.down] at f3
  rcases v10 with y11 | y12
  ·dsimp only
   try simp only [h4] at f1 f2 f3
   rintro ⟨⟩
   exact fF jg
  dsimp only
  apply it <;> intro h13
  ·try simp only [h4] at f1 f2 f3
   rintro ⟨⟩
   exact fF jg
  refine bFs fun r15 h14 f4 f5 f6 => ?_
  refine gd fun h16 => ?_
  have f7 := eq_true h16
  try simp only [en.down] at f7
  try simp only [h4] at f1 f2 f3
  rintro ⟨⟩
  exact fF jg
 refine bs fun v18 h17 => ?_
 have f8 := zkk h17
 try simp only [en.down] at f8
 apply it <;> intro h19
 ·refine gd fun h20 => ?_
  apply it <;> intro h21
  ·try simp only [h4,h19] at f1 f8
   rintro ⟨⟩
   exact fF jg
  apply it <;> intro h22
  ·try simp only [h4,h19] at f1 f8
   rintro ⟨⟩
   exact fF jg
  refine bs fun v24 h23 => ?_
  have f9 := qxy _ _ h23
  try simp only [en.down] at f9
  rcases v24 with y25 | y26
  ·dsimp only
   try simp only [h4,h19] at f1 f8 f9
   rintro ⟨⟩
   exact fF jg
  dsimp only
  apply it <;> intro h27
  ·try simp only [h4,h19] at f1 f8 f9
   rintro ⟨⟩
   exact fF jg
  refine bFs fun r29 h28 f10 f11 f12 => ?_
  refine gd fun h30 => ?_
  have f13 := eq_true h30
  try simp only [en.down] at f13
  try simp only [h4,h19] at f1 f8 f9
  rintro ⟨⟩
  exact fF jg
 apply it <;> intro h31
 ·try simp only [h4,h19] at f1 f8
  rintro ⟨⟩
  exact fF jg
 apply it <;> intro h32
 ·try simp only [h4,h19] at f1 f8
  rintro ⟨⟩
  exact fF jg
 refine bs fun v34 h33 => ?_
 have f14 := qvx _ _ h33
 try simp only [en.down] at f14
 rcases v34 with y35 | y36
 ·dsimp only
  try simp only [h4,h19] at f1 f8 f14
  rintro ⟨⟩
  exact fF jg
 dsimp only
 apply it <;> intro h37
 ·try simp only [h4,h19] at f1 f8 f14
  rintro ⟨⟩
  exact fF jg
 refine bFs fun r39 h38 f15 f16 f17 => ?_
 refine gd fun h40 => ?_
 have f18 := eq_true h40
 try simp only [en.down] at f18
 try simp only [h4,h19] at f1 f8 f14
 rintro ⟨⟩
 exact fF jg
end Go.Proofs.YtdhgdeelagmbpaaGreat
