/-
  What the machine's calls come to: the plain functions.
-/
import Derived.Test.YtdhgdeelagmbpaaGreatVak
import Derived.Test.YtdhgdeelagmbpaaGreatVal
import Derived.Test.YtdhgdeelagmbpaaGreatVam
set_option linter.unusedSimpArgs false
set_option linter.unusedVariables false
set_option maxRecDepth 100000
namespace Go.Proofs.YtdhgdeelagmbpaaGreat
open Go Go.Gm
set_option maxHeartbeats 4000000
def qme : ((Int × (Sl T.Span) × Bool × T.qo) ⊕ (T.qo)) → Ex × St
 | .inl y => (Ex.ret,⟨[(8,v_i y.1),(9,v_l 2 T.Span.enc y.2.1),(10,v_b y.2.2.1)],[(0,b_x (T.qo.enc y.2.2.2))],1⟩)
 | .inr y => (Ex.normal,⟨[(8,AV.undef),(9,AV.undef),(10,AV.undef)],[(0,b_x (T.qo.enc y))],1⟩)
attribute [local go_sem] qme
theorem z4c : (∀ p r,zz p = some r → O.call 144 [AV.ptr 0 0,AV.pv (T.qy.jk p.1),v_i p.2.1,v_l 2 T.Span.enc p.2.2.1] [(0,b_x (T.qo.enc p.2.2.2))] = some (AV.tup [v_i r.1,v_l 2 T.Span.enc r.2.1,v_b r.2.2.1],[(0,b_x (T.qo.enc r.2.2.2))])) ∧ (∀ p r,qbk p = some r → O.call 154 [AV.ptr 0 0,AV.pv (T.qy.jk p.1),v_i p.2.1,v_l 2 T.Span.enc p.2.2.1] [(0,b_x (T.qo.enc p.2.2.2))] = some (AV.tup [v_i r.1,v_l 2 T.Span.enc r.2.1,v_b r.2.2.1],[(0,b_x (T.qo.enc r.2.2.2))])) ∧ (∀ p r,q4j p = some r → O.loop 144 3 ⟨[(0,AV.ptr 0 0),(1,AV.pv (T.qy.jk p.1)),(2,v_i p.2.1),(3,v_l 2 T.Span.enc p.2.2.1),(15,v_i p.2.2.2.1),(16,v_i p.2.2.2.2.1)],[(0,b_x (T.qo.enc p.2.2.2.2.2))],1⟩ = some (qme r)) ∧ (∀ p r,q5s p = some r → O.call 153 [AV.ptr 0 0,AV.pv (T.qy.jk p.1),v_i p.2.1,v_l 2 T.Span.enc p.2.2.1] [(0,b_x (T.qo.enc p.2.2.2))] = some (AV.tup [v_i r.1,v_l 2 T.Span.enc r.2.1,v_b r.2.2.1],[(0,b_x (T.qo.enc r.2.2.2))])) ∧ (∀ p r,q0b p = some r → O.call 156 [AV.ptr 0 0,AV.pv (T.qy.jk p.1),v_i p.2.1,v_l 2 T.Span.enc p.2.2.1] [(0,b_x (T.qo.enc p.2.2.2))] = some (AV.tup [v_i r.1,v_l 2 T.Span.enc r.2.1,v_b r.2.2.1],[(0,b_x (T.qo.enc r.2.2.2))])) := by
 refine zz.mutual_partial_correctness _ _ _ _ _ ?_ ?_ ?_ ?_ ?_
 ·rintro zz qbk q4j q5s ih147 ih153 ih152 ih148 ⟨k,i,parts,b⟩ r; dsimp only
  have f1 := T.qy.znu k
  apply it <;> intro h1
  ·rintro ⟨⟩
   clear ih147 ih148 ih152 ih153; exact fF bz
  refine bs fun x3 h2 => ?_
  have f2 := T.qy.q7o h2
  try simp only [en.down] at f2
  apply it <;> intro h4
  ·have f3 := jd 2 T.Span.enc parts.l
   refine gd fun h5 => ?_
   refine bg qf fun x7 h6 f4 f5 f6 => ?_
   refine bg qf fun x9 h8 f7 f8 f9 => ?_
   refine bw T.Span.enc fun x11 h10 f10 f11 f12 => ?_
   have f13 := map_set T.Span.enc parts.l x3.g.toNat (T.Span.mk x7 x9)
   try simp only [en.down] at f13
   refine bs fun v13 h12 => ?_
   have f14 := ih147 _ _ h12
   try simp only [en.down,f2] at f14
   try simp only [h1,f2] at f13 f14
   rintro ⟨⟩
   clear ih147 ih148 ih152 ih153; exact fF bz
  apply it <;> intro h14
  ·apply it <;> intro h15
   ·apply it <;> intro h16
    ·rintro ⟨⟩
     clear ih147 ih148 ih152 ih153; exact fF bz
    refine bs fun v18 h17 => ?_
    have f15 := ih148 _ _ h17
    try simp only [en.down,f2] at f15
    try simp only [h1,f2] at f15
    rintro ⟨⟩
    clear ih147 ih148 ih152 ih153; exact fF bz
   refine bs fun v20 h19 => ?_
   have f16 := ih148 _ _ h19
   try simp only [en.down,f2] at f16
   try simp only [h1,f2] at f16
   rintro ⟨⟩
   clear ih147 ih148 ih152 ih153; exact fF bz
  apply it <;> intro h21
  ·refine bs fun v23 h22 => ?_
   have f17 := q9t.1 _ _ h22
   try simp only [en.down,f2] at f17
   refine bs fun v25 h24 => ?_
   have f18 := zge _ _ h24
   try simp only [en.down,f2] at f18
   refine bs fun v27 h26 => ?_
   have f19 := ih147 _ _ h26
   try simp only [en.down,f2] at f19
   try simp only [h1,f2] at f17 f18 f19
   rintro ⟨⟩
   clear ih147 ih148 ih152 ih153; exact fF bz
  apply it <;> intro h28
  ·refine bs fun v30 h29 => ?_
   have f20 := ih152 _ _ h29
   try simp only [en.down,f2] at f20
   rcases v30 with y31 | y32
   ·dsimp only
    try simp only [h1,f2] at f20
    rintro ⟨⟩
    clear ih147 ih148 ih152 ih153; exact fF bz
   dsimp only
   try simp only [h1,f2] at f20
   rintro ⟨⟩
   clear ih147 ih148 ih152 ih153; exact fF bz
  apply it <;> intro h33
  ·refine bs fun v35 h34 => ?_
   have f21 := ih148 _ _ h34
   try simp only [en.down,f2] at f21
   try simp only [h1,f2] at f21
   rintro ⟨⟩
   clear ih147 ih148 ih152 ih153; exact fF bz
  refine bs fun v37 h36 => ?_
  have f22 := ih153 _ _ h36
  try simp only [en.down,f2] at f22
  try simp only [h1,f2] at f22
  rintro ⟨⟩
  clear ih147 ih148 ih152 ih153; exact fF bz
 ·rintro zz ih147 ⟨k,i,parts,b⟩ r; dsimp only
  apply it <;> intro h1
  ·rintro ⟨⟩
   clear ih147; exact fF qbe
  refine bs fun x3 h2 => ?_
  have f1 := T.qy.q7o h2
  try simp only [en.down] at f1
  apply it <;> intro h4
  ·refine bg T.Rx.enc fun x6 h5 f2 f3 f4 => ?_
   refine bs fun v8 h7 => ?_
   have f5 := ih147 _ _ h7
   try simp only [en.down,f1] at f5
   try simp only [f1] at f5
   rintro ⟨⟩
   clear ih147; exact fF qbe
  apply it <;> intro h9
  ·refine bg T.Rx.enc fun x11 h10 f6 f7 f8 => ?_
   refine bs fun v13 h12 => ?_
   have f9 := ih147 _ _ h12
   try simp only [en.down,f1] at f9
   try simp only [f1] at f9
   rintro ⟨⟩
   clear ih147; exact fF qbe
  refine bs fun v15 h14 => ?_
  have f10 := z3w h14
  try simp only [en.down,f1] at f10
  apply it <;> intro h16
  ·try simp only [f1] at f10
   rintro ⟨⟩
   clear ih147; exact fF qbe
  refine bs fun v18 h17 => ?_
  have f11 := ih147 _ _ h17
  try simp only [en.down,f1] at f11
  try simp only [f1] at f10 f11
  rintro ⟨⟩
  clear ih147; exact fF qbe
 ·rintro zz q4j ih147 ih152 ⟨k,i,parts,g,j,r_⟩ r; dsimp only
  refine bs fun x2 h1 => ?_
  have f1 := T.qy.q7o h1
  try simp only [en.down] at f1
  apply it <;> intro h3
  ·refine bg T.Rx.enc fun x5 h4 f2 f3 f4 => ?_
   refine bs fun v7 h6 => ?_
   have f5 := ih147 _ _ h6
   try simp only [en.down,f1] at f5
   refine xy ?_ (fun h8 h9 => ?_)
   ·rintro (⟨h8,h9⟩ | ⟨h8,h9⟩)
    all_goals
    try simp only [h8,h9,f1] at f5
    rintro ⟨⟩
    clear ih147 ih152; exact fL bz
   refine bs fun v11 h10 => ?_
   have f6 := q9t.1 _ _ h10
   try simp only [en.down,f1] at f6
   try simp only [h8,h9,f1] at f5 f6
   intro h; have f7 := ih152 _ _ h; clear h
   try simp only [en.down,f1] at f7
   try simp only [h8,h9,f1] at f7
   clear ih147 ih152; exact fL bz
  rintro ⟨⟩
  clear ih147 ih152; exact fL bz
 ·rintro zz q0b ih147 ih149 ⟨k,i,parts,b⟩ r; dsimp only
  refine bs fun x2 h1 => ?_
  have f1 := T.qy.q7o h1
  try simp only [en.down] at f1
  apply it <;> intro h3
  ·apply it <;> intro h4
   ·refine bs fun v6 h5 => ?_
    have f2 := ih149 _ _ h5
    try simp only [en.down,f1] at f2
    try simp only [f1] at f2
    rintro ⟨⟩
    clear ih147 ih149; exact fF q1d
   apply it <;> intro h7
   ·refine bs fun v9 h8 => ?_
    have f3 := ih147 _ _ h8
    try simp only [en.down,f1] at f3
    refine xy ?_ (fun h10 h11 => ?_)
    ·rintro (⟨h10,h11⟩ | ⟨h10,h11⟩)
     all_goals
     try simp only [h7,h10,h11,f1] at f3
     rintro ⟨⟩
     clear ih147 ih149; exact fF q1d
    refine bs fun v13 h12 => ?_
    have f4 := ih149 _ _ h12
    try simp only [en.down,f1] at f4
    try simp only [h7,h10,h11,f1] at f3 f4
    rintro ⟨⟩
    clear ih147 ih149; exact fF q1d
   refine bs fun v15 h14 => ?_
   have f5 := ih149 _ _ h14
   try simp only [en.down,f1] at f5
   refine xy ?_ (fun h16 h17 => ?_)
   ·rintro (⟨h16,h17⟩ | ⟨h16,h17⟩)
    all_goals
    try simp only [h7,h16,h17,f1] at f5
    rintro ⟨⟩
    clear ih147 ih149; exact fF q1d
   refine bs fun v19 h18 => ?_
   have f6 := ih147 _ _ h18
   try simp only [en.down,f1] at f6
   try simp only [h7,h16,h17,f1] at f5 f6
   rintro ⟨⟩
   clear ih147 ih149; exact fF q1d
  apply it <;> intro h20
  ·refine bs fun v22 h21 => ?_
   have f7 := ih149 _ _ h21
   try simp only [en.down,f1] at f7
   try simp only [f1] at f7
   rintro ⟨⟩
   clear ih147 ih149; exact fF q1d
  apply it <;> intro h23
  ·refine bs fun v25 h24 => ?_
   have f8 := ih147 _ _ h24
   try simp only [en.down,f1] at f8
   refine qcn ?_ (fun h26 h27 h28 => ?_)
   ·rintro (⟨h26,h27,h28⟩ | ⟨h26,h27,h28⟩ | ⟨h26,h27,h28⟩)
    all_goals
    try simp only [h23,h26,h27,f1] at f8
    rintro ⟨⟩
    clear ih147 ih149; exact fF q1d
   refine bs fun v30 h29 => ?_
   have f9 := ih149 _ _ h29
   try simp only [en.down,f1] at f9
   try simp only [h23,h26,h27,f1] at f8 f9
   rintro ⟨⟩
   clear ih147 ih149; exact fF q1d
  apply it <;> intro h31
  ·refine bs fun v33 h32 => ?_
   have f10 := ih149 _ _ h32
   try simp only [en.down,f1] at f10
   refine xy ?_ (fun h34 h35 => ?_)
   ·rintro (⟨h34,h35⟩ | ⟨h34,h35⟩)
    all_goals
    try simp only [h23,h34,h35,f1] at f10
    rintro ⟨⟩
    clear ih147 ih149; exact fF q1d
   refine bs fun v37 h36 => ?_
   have f11 := ih147 _ _ h36
   try simp only [en.down,f1] at f11
   try simp only [h23,h34,h35,f1] at f10 f11
   rintro ⟨⟩
   clear ih147 ih149; exact fF q1d
  refine bs fun v39 h38 => ?_
  have f12 := ih147 _ _ h38
  try simp only [en.down,f1] at f12
  try simp only [h23,f1] at f12
  rintro ⟨⟩
  clear ih147 ih149; exact fF q1d
 ·rintro zz ih147 ⟨k,i,parts,b⟩ r; dsimp only
  have f1 := jd 2 T.Span.enc parts.l
  refine gd fun h1 => ?_
  refine bs fun v3 h2 => ?_
  have f2 := zfn _ _ h2
  try simp only [en.down] at f2
  refine bs fun x5 h4 => ?_
  have f3 := T.qy.q7o h4
  try simp only [en.down] at f3
  refine bg T.Rx.enc fun x7 h6 f4 f5 f6 => ?_
  refine bs fun v9 h8 => ?_
  have f7 := ih147 _ _ h8
  try simp only [en.down,f3] at f7
  try simp only [f3] at f2 f7
  rintro ⟨⟩
  clear ih147; exact fF qhm
theorem qw1 {x i b r} (h : qb3 x i b = some r) : O.call 134 [AV.ptr 0 0,v_g (T.Rx.enc x),v_i i] [(0,b_x (T.qo.enc b))] = some (AV.tup [v_g (T.qw.enc r.1),v_b r.2.1],[(0,b_x (T.qo.enc r.2.2))]) := by
 revert h; unfold qb3
 refine bs fun v2 h1 => ?_
 have f1 := qy2 _ _ h1
 try simp only [en.down] at f1
 refine bs fun v4 h3 => ?_
 have f2 := z4c.1 _ _ h3
 try simp only [en.down] at f2
 apply it <;> intro h5
 ·rintro ⟨⟩
  exact fF qem
 refine bg qf fun x7 h6 f3 f4 f5 => ?_
 refine bg qf fun x9 h8 f6 f7 f8 => ?_
 rintro ⟨⟩
 exact fF qem
def qnc (x : T.Rx) (t6 : T.qw) : ((Bool × T.qo × T.qw) ⊕ (T.qo)) → Ex × St
 | .inl y => (Ex.ret,⟨[(6,AV.ptr 2 0),(7,v_b y.1)],[(0,b_x (T.qo.enc y.2.1)),(1,b_x (T.Rx.enc x)),(2,b_x (T.qw.enc y.2.2))],3⟩)
 | .inr y => (Ex.normal,⟨[(6,AV.ptr 2 0),(7,AV.undef)],[(0,b_x (T.qo.enc y)),(1,b_x (T.Rx.enc x)),(2,b_x (T.qw.enc t6))],3⟩)
attribute [local go_sem] qnc
theorem z96 : ∀ p r,q6j p = some r → O.loop 122 0 ⟨[(0,AV.ptr 0 0),(2,v_i p.1),(4,AV.ptr 1 0),(6,AV.ptr 2 0)],[(0,b_x (T.qo.enc p.2.1)),(1,b_x (T.Rx.enc p.2.2.1)),(2,b_x (T.qw.enc p.2.2.2))],3⟩ = some (qnc p.2.2.1 p.2.2.2 r) := by
 refine q6j.partial_correctness _ ?_
 rintro q6j ih142 ⟨i,r_,x,t6⟩ r; dsimp only
 apply it <;> intro h1
 ·refine bs fun v3 h2 => ?_
  have f1 := qw1 h2
  try simp only [en.down] at f1
  refine xy ?_ (fun h4 h5 => ?_)
  ·rintro (⟨h4,h5⟩ | ⟨h4,h5⟩)
   all_goals
   try simp only [h4,h5] at f1
   rintro ⟨⟩
   clear ih142; exact fL qa4
  try simp only [h4,h5] at f1
  intro h; have f2 := ih142 _ _ h; clear h
  try simp only [en.down] at f2
  try simp only [h4,h5] at f2
  clear ih142; exact fL qa4
 rintro ⟨⟩
 clear ih142; exact fL qa4
theorem qiu {x i b r} (h : q87 x i b = some r) : O.call 122 [AV.ptr 0 0,v_g (T.Rx.enc x),v_i i] [(0,b_x (T.qo.enc b))] = some (AV.tup [v_g (T.qw.enc r.1),v_b r.2.1],[(0,b_x (T.qo.enc r.2.2))]) := by
 revert h; unfold q87
 refine bs fun v2 h1 => ?_
 have f1 := z96 _ _ h1
 try simp only [en.down] at f1
 rcases v2 with y3 | y4
 ·dsimp only
  rintro ⟨⟩
  exact fF qa4
 dsimp only
 rintro ⟨⟩
 exact fF qa4
def qoa (r_ : T.qo) : ((Int) ⊕ (Unit)) → Ex × St
 | .inl y => (Ex.ret,⟨[(4,v_i y)],[(0,b_x (T.qo.enc r_))],1⟩)
 | .inr y => (Ex.normal,⟨[(4,AV.undef)],[(0,b_x (T.qo.enc r_))],1⟩)
attribute [local go_sem] qoa
theorem qz5 : ∀ p r,q5m p = some r → O.loop 123 0 ⟨[(0,AV.ptr 0 0),(1,v_i p.1),(5,v_i p.2.1)],[(0,b_x (T.qo.enc p.2.2))],1⟩ = some (qoa p.2.2 r) := by
 refine q5m.partial_correctness _ ?_
 rintro q5m ih162 ⟨at_,i,r_⟩ r; dsimp only
 apply it <;> intro h1
 ·refine bg qf fun x3 h2 f1 f2 f3 => ?_
  apply it <;> intro h4
  ·rintro ⟨⟩
   clear ih162; exact fL qaj
  intro h; have f4 := ih162 _ _ h; clear h
  try simp only [en.down] at f4
  clear ih162; exact fL qaj
 rintro ⟨⟩
 clear ih162; exact fL qaj
theorem qp4 {at_ b r} (h : q8d at_ b = some r) : O.call 123 [AV.ptr 0 0,v_i at_] [(0,b_x (T.qo.enc b))] = some (v_i r,[(0,b_x (T.qo.enc b))]) := by
 revert h; unfold q8d
 refine bs fun v2 h1 => ?_
 have f1 := qz5 _ _ h1
 try simp only [en.down] at f1
 rcases v2 with y3 | y4
 ·dsimp only
  rintro ⟨⟩
  exact fF qaj
 dsimp only
 rintro ⟨⟩
 exact fF qaj
def qnz (x : T.Rx) : (((Sl T.qw) × Int × Int × T.qo × (List T.qw)) ⊕ (T.qo × (List T.qw))) → Ex × St
 | .inl y => (Ex.ret,⟨[(8,v_l 3 T.qw.enc y.1),(9,v_i y.2.1),(10,v_i y.2.2.1),(11,AV.ptr 1 0),(12,v_r 2 y.2.2.2.2)],[(0,b_x (T.Rx.enc x)),(1,b_x (T.qo.enc y.2.2.2.1)),(2,b_r 3 T.qw.enc y.2.2.2.2)],3⟩)
 | .inr y => (Ex.normal,⟨[(8,AV.undef),(9,AV.undef),(10,AV.undef),(11,AV.ptr 1 0),(12,v_r 2 y.2)],[(0,b_x (T.Rx.enc x)),(1,b_x (T.qo.enc y.1)),(2,b_r 3 T.qw.enc y.2)],3⟩)
attribute [local go_sem] qnz
theorem z81 : ∀ p r,q5c p = some r → O.loop 102 0 ⟨[(4,AV.ptr 0 0),(11,AV.ptr 1 0),(12,v_r 2 p.2.2.2),(13,v_i p.1)],[(0,b_x (T.Rx.enc p.2.1)),(1,b_x (T.qo.enc p.2.2.1)),(2,b_r 3 T.qw.enc p.2.2.2)],3⟩ = some (qnz p.2.1 r) := by
 refine q5c.partial_correctness _ ?_
 rintro q5c ih140 ⟨i,x,r_,out⟩ r; dsimp only
 apply it <;> intro h1
 ·refine bs fun v3 h2 => ?_
  have f1 := qiu h2
  try simp only [en.down] at f1
  apply it <;> intro h4
  ·try simp only [h4] at f1
   rintro ⟨⟩
   clear ih140; exact fL q63
  apply it <;> intro h5
  ·try simp only [h4] at f1
   rintro ⟨⟩
   clear ih140; exact fL q63
  refine gd fun h6 => ?_
  have f2 := rG 3 T.qw.enc out
  refine bs fun v8 h7 => ?_
  have f3 := qp4 h7
  try simp only [en.down] at f3
  apply it <;> intro h9
  ·have f4 : List.map T.qw.enc out ++ [[PV.int IntKind.i64 v3.1.span.frm,PV.int IntKind.i64 v3.1.span.to,PV.sl v3.1.parts.nil (szc 2 v3.1.parts.l) (List.map T.Span.enc v3.1.parts.l)]] = List.map T.qw.enc (out ++ [v3.1]) := by simp only [List.map_append,List.map_cons,List.map_nil,za,z8,zb,T.qw.qx] <;> rfl
   try simp only [h4] at f1 f3
   intro h; have f5 := ih140 _ _ h; clear h
   try simp only [en.down] at f5
   try simp only [h4] at f5
   clear ih140; exact fL q63
  have f6 : List.map T.qw.enc out ++ [[PV.int IntKind.i64 v3.1.span.frm,PV.int IntKind.i64 v3.1.span.to,PV.sl v3.1.parts.nil (szc 2 v3.1.parts.l) (List.map T.Span.enc v3.1.parts.l)]] = List.map T.qw.enc (out ++ [v3.1]) := by simp only [List.map_append,List.map_cons,List.map_nil,za,z8,zb,T.qw.qx] <;> rfl
  try simp only [h4] at f1 f3
  intro h; have f7 := ih140 _ _ h; clear h
  try simp only [en.down] at f7
  try simp only [h4] at f7
  clear ih140; exact fL q63
 rintro ⟨⟩
 clear ih140; exact fL q63
theorem qsp {x fold s fuel r} (h : qbc x fold s fuel = some r) : O.call 102 [v_g (T.Rx.enc x),v_b fold,v_s s,v_i fuel] [] = some (AV.tup [v_l 3 T.qw.enc r.1,v_i r.2.1,v_i r.2.2],[]) := by
 revert h; unfold qbc
 refine bs fun v2 h1 => ?_
 have f1 := qgd h1
 try simp only [en.down] at f1
 apply it <;> intro h3
 ·rintro ⟨⟩
  exact fF q63
 refine bs fun v5 h4 => ?_
 have f2 := qla h4
 try simp only [en.down] at f2
 refine bs fun v7 h6 => ?_
 have f3 := z81 _ _ h6
 try simp only [en.down] at f3
 rcases v7 with y8 | y9
 ·dsimp only
  rintro ⟨⟩
  exact fF q63
 dsimp only
 rintro ⟨⟩
 exact fF q63
theorem zlx : ∀ p r,q3m p = some r → O.loop 104 0 ⟨[(1,v_s p.1),(3,AV.ptr 0 0),(5,AV.ptr 1 0),(7,v_r 2 p.2.2.2.2),(8,v_i p.2.1)],[(0,b_x (T.Form.enc p.2.2.1)),(1,b_x (T.qw.enc p.2.2.2.1)),(2,Blk.row false 1 (List.map qg p.2.2.2.2))],3⟩ = some (Ex.normal,⟨[(3,AV.ptr 0 0),(7,v_r 2 r)],[(0,b_x (T.Form.enc p.2.2.1)),(1,b_x (T.qw.enc p.2.2.2.1)),(2,Blk.row false 1 (List.map qg r))],3⟩) := by
 refine q3m.partial_correctness _ ?_
 rintro q3m ih165 ⟨s,i,f,m,parts⟩ r; dsimp only
 apply it <;> intro h1
 ·refine bg T.Span.enc fun x3 h2 f1 f2 f3 => ?_
  apply it <;> intro h4
  ·refine b2s fun r6 h5 f4 f5 f6 f7 f8 => ?_
   refine gd fun h7 => ?_
   have f9 : List.map qg parts ++ [[PV.str r6]] = List.map qg (parts ++ [r6]) := by simp only [List.map_append,List.map_cons,List.map_nil,za,z8,zb,qg] <;> rfl
   intro h; have f10 := ih165 _ _ h; clear h
   try simp only [en.down] at f10
   clear ih165; exact fL qe1
  refine gd fun h8 => ?_
  have f11 : List.map qg parts ++ [[PV.str ([] : Bytes)]] = List.map qg (parts ++ [([] : Bytes)]) := by simp only [List.map_append,List.map_cons,List.map_nil,za,z8,zb,qg] <;> rfl
  intro h; have f12 := ih165 _ _ h; clear h
  try simp only [en.down] at f12
  clear ih165; exact fL qe1
 rintro ⟨⟩
 clear ih165; exact fL qe1
theorem qf9 {c r} (h : q6d c = some r) : O.call 145 [AV.pv (PV.int IntKind.u8 (c.toNat : Int))] [] = some (AV.pv (PV.int IntKind.u8 (r.toNat : Int)),[]) := by
 revert h; unfold q6d
 refine zn (fun h1 h2 => ?_) ?_
 ·rintro ⟨⟩
  exact fF qks
 rintro (⟨h1,h2⟩ | ⟨h1,h2⟩)
 all_goals
 rintro ⟨⟩
 exact fF qks
theorem z5h : ∀ p r,q7j p = some r → O.loop 135 1 ⟨[(6,v_r 0 p.2),(7,v_i p.1)],[(0,Blk.row false 1 (List.map qj p.2))],1⟩ = some (Ex.normal,⟨[(6,v_r 0 r)],[(0,Blk.row false 1 (List.map qj r))],1⟩) := by
 refine q7j.partial_correctness _ ?_
 rintro q7j ih169 ⟨i,b⟩ r; dsimp only
 apply it <;> intro h1
 ·refine bw qj fun x3 h2 f1 f2 f3 => ?_
  refine bs fun v5 h4 => ?_
  have f4 := qf9 h4
  try simp only [en.down] at f4
  have f5 := map_set qj b i.toNat v5
  try simp only [en.down] at f5
  intro h; have f6 := ih169 _ _ h; clear h
  try simp only [en.down] at f6
  clear ih169; exact fL q0f
 rintro ⟨⟩
 clear ih169; exact fL q0f
theorem qi3 {c r} (h : q7s c = some r) : O.call 146 [AV.pv (PV.int IntKind.u8 (c.toNat : Int))] [] = some (AV.pv (PV.int IntKind.u8 (r.toNat : Int)),[]) := by
 revert h; unfold q7s
 refine zn (fun h1 h2 => ?_) ?_
 ·rintro ⟨⟩
  exact fF qne
 rintro (⟨h1,h2⟩ | ⟨h1,h2⟩)
 all_goals
 rintro ⟨⟩
 exact fF qne
theorem qz0 : ∀ p r,q7k p = some r → O.loop 135 3 ⟨[(6,v_r 0 p.2),(8,v_i p.1)],[(0,Blk.row false 1 (List.map qj p.2))],1⟩ = some (Ex.normal,⟨[(6,v_r 0 r)],[(0,Blk.row false 1 (List.map qj r))],1⟩) := by
 refine q7k.partial_correctness _ ?_
 rintro q7k ih171 ⟨i,b⟩ r; dsimp only
 apply it <;> intro h1
 ·refine bw qj fun x3 h2 f1 f2 f3 => ?_
  refine bs fun v5 h4 => ?_
  have f4 := qi3 h4
  try simp only [en.down] at f4
  have f5 := map_set qj b i.toNat v5
  try simp only [en.down] at f5
  intro h; have f6 := ih171 _ _ h; clear h
  try simp only [en.down] at f6
  clear ih171; exact fL q0f
 rintro ⟨⟩
 clear ih171; exact fL q0f
theorem zfi {c r} (h : qdw c = some r) : O.call 158 [AV.pv (PV.int IntKind.u8 (c.toNat : Int))] [] = some (v_b r,[]) := by
 revert h; unfold qdw
 refine zn (fun h1 h2 => ?_) ?_
 ·rintro ⟨⟩
  exact fF qfr
 rintro (⟨h1,h2⟩ | ⟨h1,h2⟩)
 all_goals
 apply it <;> intro h4
 ·rintro ⟨⟩
  exact fF qfr
 rintro ⟨⟩
 exact fF qfr
theorem qok {c r} (h : q7g c = some r) : O.call 155 [AV.pv (PV.int IntKind.u8 (c.toNat : Int))] [] = some (v_b r,[]) := by
 revert h; unfold q7g
 refine bs fun v2 h1 => ?_
 have f1 := zfi h1
 try simp only [en.down] at f1
 refine qcf ?_ ?_
 ·rintro (⟨h3,h4,h5⟩ | ⟨h3,h4,h5⟩)
  all_goals
  try simp only [h3] at f1
  rintro ⟨⟩
  exact fF qou
 rintro (⟨h3,h4,h5⟩ | ⟨h3,h4,h5⟩)
 all_goals
 try simp only [h3] at f1
 rintro ⟨⟩
 exact fF qou
theorem zeh : ∀ p r,q0k p = some r → O.loop 147 0 ⟨[(0,v_s p.1),(3,v_r 0 p.2.2),(4,v_i p.2.1)],[(0,b_r 1 qg p.2.2)],1⟩ = some (Ex.normal,⟨[(3,v_r 0 r)],[(0,b_r 1 qg r)],1⟩) := by
 refine q0k.partial_correctness _ ?_
 rintro q0k ih174 ⟨s,i,l⟩ r; dsimp only
 apply it <;> intro h1
 ·refine bc fun b3 h2 f1 f2 => ?_
  refine bs fun v5 h4 => ?_
  have f3 := qok h4
  try simp only [en.down] at f3
  apply it <;> intro h6
  ·intro h; have f4 := ih174 _ _ h; clear h
   try simp only [en.down] at f4
   clear ih174; exact fL q86
  apply it <;> intro h7
  ·refine gd fun h8 => ?_
   have f5 := rG 1 qg l
   have f6 : List.map qg l ++ [[PV.str ([] : Bytes)]] = List.map qg (l ++ [([] : Bytes)]) := by simp only [List.map_append,List.map_cons,List.map_nil,za,z8,zb,qg] <;> rfl
   refine bw qg fun x10 h9 f7 f8 f9 => ?_
   refine b2s fun r12 h11 f10 f11 f12 f13 f14 => ?_
   refine gd fun h13 => ?_
   have f15 := eq_true h13
   try simp only [en.down] at f15
   have f16 := map_set qg (l ++ [([] : Bytes)]) ((IntKind.i64.wrap (((l ++ [([] : Bytes)]).length : Int) - (1 : Int))).toNat) (x10 ++ r12)
   try simp only [en.down] at f16
   intro h; have f17 := ih174 _ _ h; clear h
   try simp only [en.down] at f17
   clear ih174; exact fL q86
  refine bc fun b15 h14 f18 f19 => ?_
  refine bs fun v17 h16 => ?_
  have f20 := qok h16
  try simp only [en.down] at f20
  apply it <;> intro h18
  ·refine gd fun h19 => ?_
   have f21 := rG 1 qg l
   have f22 : List.map qg l ++ [[PV.str ([] : Bytes)]] = List.map qg (l ++ [([] : Bytes)]) := by simp only [List.map_append,List.map_cons,List.map_nil,za,z8,zb,qg] <;> rfl
   refine bw qg fun x21 h20 f23 f24 f25 => ?_
   refine b2s fun r23 h22 f26 f27 f28 f29 f30 => ?_
   refine gd fun h24 => ?_
   have f31 := eq_true h24
   try simp only [en.down] at f31
   have f32 := map_set qg (l ++ [([] : Bytes)]) ((IntKind.i64.wrap (((l ++ [([] : Bytes)]).length : Int) - (1 : Int))).toNat) (x21 ++ r23)
   try simp only [en.down] at f32
   intro h; have f33 := ih174 _ _ h; clear h
   try simp only [en.down] at f33
   clear ih174; exact fL q86
  refine bW qg 1 fun x26 h25 f34 f35 f36 f37 f38 => ?_
  refine b2s fun r28 h27 f39 f40 f41 f42 f43 => ?_
  refine gd fun h29 => ?_
  have f44 := eq_true h29
  try simp only [en.down] at f44
  have f45 := map_set qg l ((IntKind.i64.wrap ((l.length : Int) - (1 : Int))).toNat) (x26 ++ r28)
  try simp only [en.down] at f45
  try simp only [f37,f38] at f3 f20 f45
  intro h; have f46 := ih174 _ _ h; clear h
  try simp only [en.down,f37,f38] at f46
  try simp only [f37,f38] at f46
  clear ih174; exact fL q86
 rintro ⟨⟩
 clear ih174; exact fL q86
theorem quf {s r} (h : qbs s = some r) : O.call 147 [v_s s] [] = some (v_l 1 qg r,[]) := by
 revert h; unfold qbs
 refine bs fun v2 h1 => ?_
 have f1 := zeh _ _ h1
 try simp only [en.down] at f1
 rintro ⟨⟩
 exact fF q86
theorem zmr : ∀ p r,q35 p = some r → O.loop 135 5 ⟨[(1,v_i p.1),(9,v_l 1 qg p.2.1),(10,v_s p.2.2.1),(11,v_i p.2.2.2.1)],[(0,Blk.row false 1 (List.map qj p.2.2.2.2))],1⟩ = some (Ex.normal,⟨[(10,v_s r)],[(0,Blk.row false 1 (List.map qj p.2.2.2.2))],1⟩) := by
 refine q35.partial_correctness _ ?_
 rintro q35 ih177 ⟨way,l,out,i,r0_⟩ r; dsimp only
 apply it <;> intro h1
 ·refine bg qg fun x3 h2 f1 f2 f3 => ?_
  refine zn (fun h4 h5 => ?_) ?_
  ·refine bw qj fun x7 h6 f4 f5 f6 => ?_
   refine bs fun v9 h8 => ?_
   have f7 := qi3 h8
   try simp only [en.down] at f7
   have f8 := map_set qj x3 ((0 : Int).toNat) v9
   try simp only [en.down] at f8
   have f9 := jd 1 qj (x3.set ((0 : Int).toNat) v9)
   try simp only [en.down] at f9
   have f10 := bytesOf_map (x3.set ((0 : Int).toNat) v9)
   refine gd fun h10 => ?_
   have f11 := eq_true h10
   try simp only [en.down] at f11
   intro h; have f12 := ih177 _ _ h; clear h
   try simp only [en.down] at f12
   clear ih177; exact fL q0f
  rintro (⟨h4,h5⟩ | ⟨h4,h5⟩)
  all_goals
  refine bw qj fun x17 h16 f13 f14 f15 => ?_
  refine bs fun v19 h18 => ?_
  have f16 := qf9 h18
  try simp only [en.down] at f16
  have f17 := map_set qj x3 ((0 : Int).toNat) v19
  try simp only [en.down] at f17
  have f18 := jd 1 qj (x3.set ((0 : Int).toNat) v19)
  try simp only [en.down] at f18
  have f19 := bytesOf_map (x3.set ((0 : Int).toNat) v19)
  refine gd fun h20 => ?_
  have f20 := eq_true h20
  try simp only [en.down] at f20
  intro h; have f21 := ih177 _ _ h; clear h
  try simp only [en.down] at f21
  clear ih177; exact fL q0f
 rintro ⟨⟩
 clear ih177; exact fL q0f
theorem qjd {s way r} (h : q9d s way = some r) : O.call 135 [v_s s,v_i way] [] = some (AV.tup [v_s r.1,v_i r.2],[]) := by
 revert h; unfold q9d
 apply it <;> intro h1
 ·refine bs fun v3 h2 => ?_
  have f1 := z5h _ _ h2
  try simp only [en.down] at f1
  have f2 := jd 1 qj v3
  have f3 := bytesOf_map v3
  rintro ⟨⟩
  exact fF q0f
 apply it <;> intro h4
 ·refine bs fun v6 h5 => ?_
  have f4 := qz0 _ _ h5
  try simp only [en.down] at f4
  have f5 := jd 1 qj v6
  have f6 := bytesOf_map v6
  rintro ⟨⟩
  exact fF q0f
 apply it <;> intro h7
 ·apply it <;> intro h8
  ·refine bw qj fun x10 h9 f7 f8 f9 => ?_
   refine bs fun v12 h11 => ?_
   have f10 := qf9 h11
   try simp only [en.down] at f10
   have f11 := map_set qj s ((0 : Int).toNat) v12
   try simp only [en.down] at f11
   have f12 := jd 1 qj (s.set ((0 : Int).toNat) v12)
   try simp only [en.down] at f12
   have f13 := bytesOf_map (s.set ((0 : Int).toNat) v12)
   rintro ⟨⟩
   exact fF q0f
  have f14 := jd 1 qj s
  have f15 := bytesOf_map s
  rintro ⟨⟩
  exact fF q0f
 refine xy ?_ (fun h13 h18 => ?_)
 ·rintro (⟨h13,h18⟩ | ⟨h13,h18⟩)
  all_goals
  refine bs fun v15 h14 => ?_
  have f16 := quf h14
  try simp only [en.down] at f16
  refine bs fun v17 h16 => ?_
  have f17 := zmr _ _ h16
  try simp only [en.down] at f17
  rintro ⟨⟩
  exact fF q0f
 rintro ⟨⟩
 exact fF q0f
theorem qxf : ∀ p r,kr p = some r → O.loop 125 0 ⟨[(0,v_l 5 T.Fmt.enc p.1),(1,v_l 1 qg p.2.1),(5,v_s p.2.2.1),(6,v_i p.2.2.2)],[],0⟩ = some (Ex.normal,⟨[(5,v_s r)],[],0⟩) := by
 refine kr.partial_correctness _ ?_
 rintro kr ih167 ⟨fs,parts,s,i⟩ r; dsimp only
 apply it <;> intro h1
 ·refine bg T.Fmt.enc fun x3 h2 f1 f2 f3 => ?_
  apply it <;> intro h4
  ·refine bg qg fun x6 h5 f4 f5 f6 => ?_
   apply it <;> intro h7
   ·refine gd fun h8 => ?_
    have f7 := eq_true h8
    try simp only [en.down] at f7
    intro h; have f8 := ih167 _ _ h; clear h
    try simp only [en.down] at f8
    clear ih167; exact fL uh
   apply it <;> intro h9
   ·refine gd fun h10 => ?_
    have f9 := eq_true h10
    try simp only [en.down] at f9
    intro h; have f10 := ih167 _ _ h; clear h
    try simp only [en.down] at f10
    clear ih167; exact fL uh
   apply it <;> intro h11
   ·refine bs fun v13 h12 => ?_
    have f11 := qjd h12
    try simp only [en.down] at f11
    refine gd fun h14 => ?_
    have f12 := eq_true h14
    try simp only [en.down] at f12
    intro h; have f13 := ih167 _ _ h; clear h
    try simp only [en.down] at f13
    clear ih167; exact fL uh
   apply it <;> intro h15
   ·apply it <;> intro h16
    ·refine gd fun h17 => ?_
     have f14 := eq_true h17
     try simp only [en.down] at f14
     intro h; have f15 := ih167 _ _ h; clear h
     try simp only [en.down] at f15
     clear ih167; exact fL uh
    refine gd fun h18 => ?_
    have f16 := eq_true h18
    try simp only [en.down] at f16
    intro h; have f17 := ih167 _ _ h; clear h
    try simp only [en.down] at f17
    clear ih167; exact fL uh
   apply it <;> intro h19
   ·refine gd fun h20 => ?_
    have f18 := eq_true h20
    try simp only [en.down] at f18
    intro h; have f19 := ih167 _ _ h; clear h
    try simp only [en.down] at f19
    clear ih167; exact fL uh
   refine gd fun h21 => ?_
   have f20 := eq_true h21
   try simp only [en.down] at f20
   intro h; have f21 := ih167 _ _ h; clear h
   try simp only [en.down] at f21
   clear ih167; exact fL uh
  apply it <;> intro h22
  ·refine gd fun h23 => ?_
   have f22 := eq_true h23
   try simp only [en.down] at f22
   intro h; have f23 := ih167 _ _ h; clear h
   try simp only [en.down] at f23
   clear ih167; exact fL uh
  apply it <;> intro h24
  ·refine gd fun h25 => ?_
   have f24 : (s.length + 0 ≤ 2 ^ 62) = True := eq_true h25
   have f25 : (s.length ≤ 2 ^ 62) = True := eq_true h25
   intro h; have f26 := ih167 _ _ h; clear h
   try simp only [en.down] at f26
   clear ih167; exact fL uh
  apply it <;> intro h26
  ·refine bs fun v28 h27 => ?_
   have f27 := qjd h27
   try simp only [en.down] at f27
   refine gd fun h29 => ?_
   have f28 := eq_true h29
   try simp only [en.down] at f28
   intro h; have f29 := ih167 _ _ h; clear h
   try simp only [en.down] at f29
   clear ih167; exact fL uh
  apply it <;> intro h30
  ·apply it <;> intro h31
   ·refine gd fun h32 => ?_
    have f30 := eq_true h32
    try simp only [en.down] at f30
    intro h; have f31 := ih167 _ _ h; clear h
    try simp only [en.down] at f31
    clear ih167; exact fL uh
   refine gd fun h33 => ?_
   have f32 : (s.length + 0 ≤ 2 ^ 62) = True := eq_true h33
   have f33 : (s.length ≤ 2 ^ 62) = True := eq_true h33
   intro h; have f34 := ih167 _ _ h; clear h
   try simp only [en.down] at f34
   clear ih167; exact fL uh
  apply it <;> intro h34
  ·refine gd fun h35 => ?_
   have f35 := eq_true h35
   try simp only [en.down] at f35
   intro h; have f36 := ih167 _ _ h; clear h
   try simp only [en.down] at f36
   clear ih167; exact fL uh
  refine gd fun h36 => ?_
  have f37 := eq_true h36
  try simp only [en.down] at f37
  intro h; have f38 := ih167 _ _ h; clear h
  try simp only [en.down] at f38
  clear ih167; exact fL uh
 rintro ⟨⟩
 clear ih167; exact fL uh
theorem qxg {fs parts r} (h : qb1 fs parts = some r) : O.call 125 [v_l 5 T.Fmt.enc fs,v_l 1 qg parts] [] = some (v_s r,[]) := by
 revert h; unfold qb1
 refine bs fun v2 h1 => ?_
 have f1 := qmd h1
 try simp only [en.down] at f1
 apply it <;> intro h3
 ·rintro ⟨⟩
  exact fF uh
 refine bs fun v5 h4 => ?_
 have f2 := qxf _ _ h4
 try simp only [en.down] at f2
 rintro ⟨⟩
 exact fF uh
theorem qgb {f s m r} (h : q7r f s m = some r) : O.call 104 [v_g (T.Form.enc f),v_s s,v_g (T.qw.enc m)] [] = some (v_s r,[]) := by
 revert h; unfold q7r
 refine b2s fun r2 h1 f1 f2 f3 f4 f5 => ?_
 refine bs fun v4 h3 => ?_
 have f6 := zlx _ _ h3
 try simp only [en.down] at f6
 refine bs fun v6 h5 => ?_
 have f7 := qxg h5
 try simp only [en.down] at f7
 rintro ⟨⟩
 exact fF qe1
def qmq (s : Bytes) (left : Int) (f : T.Form) : ((Bytes × Int × Int × Bytes × Int) ⊕ (Bytes × Int)) → Ex × St
 | .inl y => (Ex.ret,⟨[(1,v_s s),(6,v_s y.1),(7,v_i y.2.1),(8,v_i y.2.2.1),(10,v_i left),(14,v_s y.2.2.2.1),(15,v_i y.2.2.2.2)],[(0,b_x (T.Form.enc f))],1⟩)
 | .inr y => (Ex.normal,⟨[(1,v_s s),(6,AV.undef),(7,AV.undef),(8,AV.undef),(10,v_i left),(14,v_s y.1),(15,v_i y.2)],[(0,b_x (T.Form.enc f))],1⟩)
attribute [local go_sem] qmq
theorem z3q : ∀ p r,q4c p = some r → O.loop 81 0 ⟨[(1,v_s p.1),(3,AV.ptr 0 0),(9,v_l 3 T.qw.enc p.2.1),(10,v_i p.2.2.1),(14,v_s p.2.2.2.1),(15,v_i p.2.2.2.2.1),(16,v_i p.2.2.2.2.2.1)],[(0,b_x (T.Form.enc p.2.2.2.2.2.2))],1⟩ = some (qmq p.1 p.2.2.1 p.2.2.2.2.2.2 r) := by
 refine q4c.partial_correctness _ ?_
 rintro q4c ih163 ⟨s,ms,left,out,at_,i,f⟩ r; dsimp only
 apply it <;> intro h1
 ·refine bg T.qw.enc fun x3 h2 f1 f2 f3 => ?_
  refine b2s fun r5 h4 f4 f5 f6 f7 f8 => ?_
  refine gd fun h6 => ?_
  have f9 := eq_true h6
  try simp only [en.down] at f9
  refine bs fun v8 h7 => ?_
  have f10 := qgb h7
  try simp only [en.down] at f10
  refine gd fun h9 => ?_
  have f11 := eq_true h9
  try simp only [en.down] at f11
  apply it <;> intro h10
  ·rintro ⟨⟩
   clear ih163; exact fL jf
  intro h; have f12 := ih163 _ _ h; clear h
  try simp only [en.down] at f12
  clear ih163; exact fL jf
 rintro ⟨⟩
 clear ih163; exact fL jf
theorem zei {m ok b r} (h : qct m ok b = some r) : O.call 124 [AV.ptr 0 0,v_g (T.qw.enc m),v_b ok] [(0,b_x (T.qo.enc b))] = some (AV.tup [v_g (T.qw.enc r.1),v_i r.2.1,v_b r.2.2.1,v_i r.2.2.2],[(0,b_x (T.qo.enc b))]) := by
 revert h; unfold qct
 apply it <;> intro h1
 ·rintro ⟨⟩
  exact fF qnn
 rintro ⟨⟩
 exact fF qnn
theorem zbn {x fold s at_ fuel r} (h : qan x fold s at_ fuel = some r) : O.call 103 [v_g (T.Rx.enc x),v_b fold,v_s s,v_i at_,v_i fuel] [] = some (AV.tup [v_g (T.qw.enc r.1),v_i r.2.1,v_b r.2.2.1,v_i r.2.2.2],[]) := by
 revert h; unfold qan
 refine bs fun v2 h1 => ?_
 have f1 := qgd h1
 try simp only [en.down] at f1
 apply it <;> intro h3
 ·rintro ⟨⟩
  exact fF qfq
 refine bs fun v5 h4 => ?_
 have f2 := qla h4
 try simp only [en.down] at f2
 refine bs fun v7 h6 => ?_
 have f3 := qp4 h6
 try simp only [en.down] at f3
 apply it <;> intro h8
 ·rintro ⟨⟩
  exact fF qfq
 refine bs fun v10 h9 => ?_
 have f4 := qiu h9
 try simp only [en.down] at f4
 refine bs fun v12 h11 => ?_
 have f5 := zei h11
 try simp only [en.down] at f5
 rintro ⟨⟩
 exact fF qfq
def qii (s : Bytes) (left : Int) (f : T.Form) (b1_ : T.qw) (r2_ : (List T.qw)) (ms : (List T.qw)) : ((Bytes × Int × Int × Bytes × Int) ⊕ (Bytes × Int)) → Ex × St
 | .inl y => (Ex.ret,⟨[(1,v_s s),(6,v_s y.1),(7,v_i y.2.1),(8,v_i y.2.2.1),(10,v_i left),(14,v_s y.2.2.2.1),(15,v_i y.2.2.2.2)],[(0,b_x (T.Form.enc f)),(1,b_x (T.qw.enc b1_)),(2,Blk.row false 3 (List.map T.qw.enc r2_)),(3,Blk.row false 3 (List.map T.qw.enc ms))],4⟩)
 | .inr y => (Ex.normal,⟨[(1,v_s s),(6,AV.undef),(7,AV.undef),(8,AV.undef),(10,v_i left),(14,v_s y.1),(15,v_i y.2)],[(0,b_x (T.Form.enc f)),(1,b_x (T.qw.enc b1_)),(2,Blk.row false 3 (List.map T.qw.enc r2_)),(3,Blk.row false 3 (List.map T.qw.enc ms))],4⟩)
attribute [local go_sem] qii
theorem z5k : ∀ p r,q54 p = some r → O.loop 81 0 ⟨[(1,v_s p.1),(3,AV.ptr 0 0),(9,v_r 3 p.2.2.2.2.2.2.2.2),(10,v_i p.2.1),(14,v_s p.2.2.1),(15,v_i p.2.2.2.1),(16,v_i p.2.2.2.2.1)],[(0,b_x (T.Form.enc p.2.2.2.2.2.1)),(1,b_x (T.qw.enc p.2.2.2.2.2.2.1)),(2,Blk.row false 3 (List.map T.qw.enc p.2.2.2.2.2.2.2.1)),(3,Blk.row false 3 (List.map T.qw.enc p.2.2.2.2.2.2.2.2))],4⟩ = some (qii p.1 p.2.1 p.2.2.2.2.2.1 p.2.2.2.2.2.2.1 p.2.2.2.2.2.2.2.1 p.2.2.2.2.2.2.2.2 r) := by
 refine q54.partial_correctness _ ?_
 rintro q54 ih180 ⟨s,left,out,at_,i,f,b1_,r2_,ms⟩ r; dsimp only
 apply it <;> intro h1
 ·refine bw T.qw.enc fun x3 h2 f1 f2 f3 => ?_
  refine b2s fun r5 h4 f4 f5 f6 f7 f8 => ?_
  refine gd fun h6 => ?_
  have f9 := eq_true h6
  try simp only [en.down] at f9
  refine bs fun v8 h7 => ?_
  have f10 := qgb h7
  try simp only [en.down] at f10
  refine gd fun h9 => ?_
  have f11 := eq_true h9
  try simp only [en.down] at f11
  apply it <;> intro h10
  ·rintro ⟨⟩
   clear ih180; exact fL jf
  intro h; have f12 := ih180 _ _ h; clear h
  try simp only [en.down] at f12
  clear ih180; exact fL jf
 rintro ⟨⟩
 clear ih180; exact fL jf
def qnq (s : Bytes) (left : Int) (f : T.Form) (b1_ : T.qw) : ((Bytes × Int × Int × Bytes × Int) ⊕ (Bytes × Int)) → Ex × St
 | .inl y => (Ex.ret,⟨[(1,v_s s),(6,v_s y.1),(7,v_i y.2.1),(8,v_i y.2.2.1),(10,v_i left),(14,v_s y.2.2.2.1),(15,v_i y.2.2.2.2)],[(0,b_x (T.Form.enc f)),(1,b_x (T.qw.enc b1_))],2⟩)
 | .inr y => (Ex.normal,⟨[(1,v_s s),(6,AV.undef),(7,AV.undef),(8,AV.undef),(10,v_i left),(14,v_s y.1),(15,v_i y.2)],[(0,b_x (T.Form.enc f)),(1,b_x (T.qw.enc b1_))],2⟩)
attribute [local go_sem] qnq
theorem z9l : ∀ p r,qcc p = some r → O.loop 81 0 ⟨[(1,v_s p.1),(3,AV.ptr 0 0),(9,v_l 3 T.qw.enc p.2.1),(10,v_i p.2.2.1),(14,v_s p.2.2.2.1),(15,v_i p.2.2.2.2.1),(16,v_i p.2.2.2.2.2.1)],[(0,b_x (T.Form.enc p.2.2.2.2.2.2.1)),(1,b_x (T.qw.enc p.2.2.2.2.2.2.2))],2⟩ = some (qnq p.1 p.2.2.1 p.2.2.2.2.2.2.1 p.2.2.2.2.2.2.2 r) := by
 refine qcc.partial_correctness _ ?_
 rintro qcc ih181 ⟨s,ms,left,out,at_,i,f,b1_⟩ r; dsimp only
 apply it <;> intro h1
 ·refine bg T.qw.enc fun x3 h2 f1 f2 f3 => ?_
  refine b2s fun r5 h4 f4 f5 f6 f7 f8 => ?_
  refine gd fun h6 => ?_
  have f9 := eq_true h6
  try simp only [en.down] at f9
  refine bs fun v8 h7 => ?_
  have f10 := qgb h7
  try simp only [en.down] at f10
  refine gd fun h9 => ?_
  have f11 := eq_true h9
  try simp only [en.down] at f11
  apply it <;> intro h10
  ·rintro ⟨⟩
   clear ih181; exact fL jf
  intro h; have f12 := ih181 _ _ h; clear h
  try simp only [en.down] at f12
  clear ih181; exact fL jf
 rintro ⟨⟩
 clear ih181; exact fL jf
theorem qhe {f s fuel r} (h : q5o f s fuel = some r) : O.call 81 [v_g (T.Form.enc f),v_s s,v_i fuel] [] = some (AV.tup [v_s r.1,v_i r.2.1,v_i r.2.2],[]) := by
 revert h; unfold q5o
 refine bs fun v2 h1 => ?_
 have f1 := qm0 h1
 try simp only [en.down] at f1
 apply it <;> intro h3
 ·rintro ⟨⟩
  exact fF jf
 apply it <;> intro h4
 ·refine bs fun v6 h5 => ?_
  have f2 := qsp h5
  try simp only [en.down] at f2
  apply it <;> intro h7
  ·try simp only [h4] at f1 f2
   rintro ⟨⟩
   exact fF jf
  apply it <;> intro h8
  ·try simp only [h4] at f1 f2
   rintro ⟨⟩
   exact fF jf
  refine bs fun v10 h9 => ?_
  have f3 := z3q _ _ h9
  try simp only [en.down] at f3
  rcases v10 with y11 | y12
  ·dsimp only
   try simp only [h4] at f1 f2 f3
   rintro ⟨⟩
   exact fF jf
  dsimp only
  apply it <;> intro h13
  ·try simp only [h4] at f1 f2 f3
   rintro ⟨⟩
   exact fF jf
  refine bFs fun r15 h14 f4 f5 f6 => ?_
  refine gd fun h16 => ?_
  have f7 := eq_true h16
  try simp only [en.down] at f7
  try simp only [h4] at f1 f2 f3
  rintro ⟨⟩
  exact fF jf
 refine bs fun v18 h17 => ?_
 have f8 := zbn h17
 try simp only [en.down] at f8
 apply it <;> intro h19
 ·refine gd fun h20 => ?_
  apply it <;> intro h21
  ·try simp only [h4,h19] at f1 f8
   rintro ⟨⟩
   exact fF jf
  apply it <;> intro h22
  ·try simp only [h4,h19] at f1 f8
   rintro ⟨⟩
   exact fF jf
  refine bs fun v24 h23 => ?_
  have f9 := z5k _ _ h23
  try simp only [en.down] at f9
  rcases v24 with y25 | y26
  ·dsimp only
   try simp only [h4,h19] at f1 f8 f9
   rintro ⟨⟩
   exact fF jf
  dsimp only
  apply it <;> intro h27
  ·try simp only [h4,h19] at f1 f8 f9
   rintro ⟨⟩
   exact fF jf
  refine bFs fun r29 h28 f10 f11 f12 => ?_
  refine gd fun h30 => ?_
  have f13 := eq_true h30
  try simp only [en.down] at f13
  try simp only [h4,h19] at f1 f8 f9
  rintro ⟨⟩
  exact fF jf
 apply it <;> intro h31
 ·try simp only [h4,h19] at f1 f8
  rintro ⟨⟩
  exact fF jf
 apply it <;> intro h32
 ·try simp only [h4,h19] at f1 f8
  rintro ⟨⟩
  exact fF jf
 refine bs fun v34 h33 => ?_
 have f14 := z9l _ _ h33
 try simp only [en.down] at f14
 rcases v34 with y35 | y36
 ·dsimp only
  try simp only [h4,h19] at f1 f8 f14
  rintro ⟨⟩
  exact fF jf
 dsimp only
 apply it <;> intro h37
 ·try simp only [h4,h19] at f1 f8 f14
  rintro ⟨⟩
  exact fF jf
 refine bFs fun r39 h38 f15 f16 f17 => ?_
 refine gd fun h40 => ?_
 have f18 := eq_true h40
 try simp only [en.down] at f18
 try simp only [h4,h19] at f1 f8 f14
 rintro ⟨⟩
 exact fF jf
def qmf : ((Bytes × Int × Bytes × (Sl T.qi) × Bytes × Bytes × (List T.qc) × (List Int) × (List Bytes) × (List Int) × (List Bytes)) ⊕ (Bytes × (Sl T.qi) × Bytes × Bytes × (List T.qc) × (List Int) × (List Bytes) × (List Int) × (List Bytes))) → Ex × St
 | .inl y => (Ex.ret,⟨[(8,v_s y.1),(9,v_i y.2.1),(10,v_s y.2.2.1)],[(0,Blk.box [v_l 2 T.qi.enc y.2.2.2.1,v_s y.2.2.2.2.1,v_s y.2.2.2.2.2.1,v_r 2 y.2.2.2.2.2.2.1,v_r 3 y.2.2.2.2.2.2.2.1,v_r 4 y.2.2.2.2.2.2.2.2.1]),(1,Blk.box [v_r 5 y.2.2.2.2.2.2.2.2.2.1,v_r 6 y.2.2.2.2.2.2.2.2.2.2]),(2,b_r 20 T.qc.enc y.2.2.2.2.2.2.1),(3,b_r 1 qf y.2.2.2.2.2.2.2.1),(4,b_r 1 qg y.2.2.2.2.2.2.2.2.1),(5,b_r 1 qf y.2.2.2.2.2.2.2.2.2.1),(6,b_r 1 qg y.2.2.2.2.2.2.2.2.2.2)],7⟩)
 | .inr y => (Ex.normal,⟨[(8,AV.undef),(9,AV.undef),(10,v_s y.1)],[(0,Blk.box [v_l 2 T.qi.enc y.2.1,v_s y.2.2.1,v_s y.2.2.2.1,v_r 2 y.2.2.2.2.1,v_r 3 y.2.2.2.2.2.1,v_r 4 y.2.2.2.2.2.2.1]),(1,Blk.box [v_r 5 y.2.2.2.2.2.2.2.1,v_r 6 y.2.2.2.2.2.2.2.2]),(2,b_r 20 T.qc.enc y.2.2.2.2.1),(3,b_r 1 qf y.2.2.2.2.2.1),(4,b_r 1 qg y.2.2.2.2.2.2.1),(5,b_r 1 qf y.2.2.2.2.2.2.2.1),(6,b_r 1 qg y.2.2.2.2.2.2.2.2)],7⟩)
attribute [local go_sem] qmf
theorem qfh : (∀ p r,q04 p = some r → O.call 67 [AV.ptr 0 0,AV.ptr 1 0,v_i p.1] [(0,Blk.box [v_l 2 T.qi.enc p.2.1,v_s p.2.2.1,v_s p.2.2.2.1,v_r 2 p.2.2.2.2.1,v_r 3 p.2.2.2.2.2.1,v_r 4 p.2.2.2.2.2.2.1]),(1,Blk.box [v_r 5 p.2.2.2.2.2.2.2.1,v_r 6 p.2.2.2.2.2.2.2.2]),(2,b_r 20 T.qc.enc p.2.2.2.2.1),(3,b_r 1 qf p.2.2.2.2.2.1),(4,b_r 1 qg p.2.2.2.2.2.2.1),(5,b_r 1 qf p.2.2.2.2.2.2.2.1),(6,b_r 1 qg p.2.2.2.2.2.2.2.2)] = some (AV.tup [v_s r.1,v_i r.2.1],[(0,Blk.box [v_l 2 T.qi.enc r.2.2.1,v_s r.2.2.2.1,v_s r.2.2.2.2.1,v_r 2 r.2.2.2.2.2.1,v_r 3 r.2.2.2.2.2.2.1,v_r 4 r.2.2.2.2.2.2.2.1]),(1,Blk.box [v_r 5 r.2.2.2.2.2.2.2.2.1,v_r 6 r.2.2.2.2.2.2.2.2.2]),(2,b_r 20 T.qc.enc r.2.2.2.2.2.1),(3,b_r 1 qf r.2.2.2.2.2.2.1),(4,b_r 1 qg r.2.2.2.2.2.2.2.1),(5,b_r 1 qf r.2.2.2.2.2.2.2.2.1),(6,b_r 1 qg r.2.2.2.2.2.2.2.2.2)])) ∧ (∀ p r,q93 p = some r → O.call 80 [AV.ptr 0 0,AV.ptr 1 0,v_i p.1] [(0,Blk.box [v_l 2 T.qi.enc p.2.1,v_s p.2.2.1,v_s p.2.2.2.1,v_r 2 p.2.2.2.2.1,v_r 3 p.2.2.2.2.2.1,v_r 4 p.2.2.2.2.2.2.1]),(1,Blk.box [v_r 5 p.2.2.2.2.2.2.2.1,v_r 6 p.2.2.2.2.2.2.2.2]),(2,b_r 20 T.qc.enc p.2.2.2.2.1),(3,b_r 1 qf p.2.2.2.2.2.1),(4,b_r 1 qg p.2.2.2.2.2.2.1),(5,b_r 1 qf p.2.2.2.2.2.2.2.1),(6,b_r 1 qg p.2.2.2.2.2.2.2.2)] = some (AV.tup [v_s r.1,v_i r.2.1],[(0,Blk.box [v_l 2 T.qi.enc r.2.2.1,v_s r.2.2.2.1,v_s r.2.2.2.2.1,v_r 2 r.2.2.2.2.2.1,v_r 3 r.2.2.2.2.2.2.1,v_r 4 r.2.2.2.2.2.2.2.1]),(1,Blk.box [v_r 5 r.2.2.2.2.2.2.2.2.1,v_r 6 r.2.2.2.2.2.2.2.2.2]),(2,b_r 20 T.qc.enc r.2.2.2.2.2.1),(3,b_r 1 qf r.2.2.2.2.2.2.1),(4,b_r 1 qg r.2.2.2.2.2.2.2.1),(5,b_r 1 qf r.2.2.2.2.2.2.2.2.1),(6,b_r 1 qg r.2.2.2.2.2.2.2.2.2)])) ∧ (∀ p r,qbv p = some r → O.call 44 [AV.ptr 0 0,AV.ptr 1 0,v_i p.1,v_i p.2.1] [(0,Blk.box [v_l 2 T.qi.enc p.2.2.1,v_s p.2.2.2.1,v_s p.2.2.2.2.1,v_r 2 p.2.2.2.2.2.1,v_r 3 p.2.2.2.2.2.2.1,v_r 4 p.2.2.2.2.2.2.2.1]),(1,Blk.box [v_r 5 p.2.2.2.2.2.2.2.2.1,v_r 6 p.2.2.2.2.2.2.2.2.2]),(2,b_r 20 T.qc.enc p.2.2.2.2.2.1),(3,b_r 1 qf p.2.2.2.2.2.2.1),(4,b_r 1 qg p.2.2.2.2.2.2.2.1),(5,b_r 1 qf p.2.2.2.2.2.2.2.2.1),(6,b_r 1 qg p.2.2.2.2.2.2.2.2.2)] = some (AV.tup [v_s r.1,v_i r.2.1],[(0,Blk.box [v_l 2 T.qi.enc r.2.2.1,v_s r.2.2.2.1,v_s r.2.2.2.2.1,v_r 2 r.2.2.2.2.2.1,v_r 3 r.2.2.2.2.2.2.1,v_r 4 r.2.2.2.2.2.2.2.1]),(1,Blk.box [v_r 5 r.2.2.2.2.2.2.2.2.1,v_r 6 r.2.2.2.2.2.2.2.2.2]),(2,b_r 20 T.qc.enc r.2.2.2.2.2.1),(3,b_r 1 qf r.2.2.2.2.2.2.1),(4,b_r 1 qg r.2.2.2.2.2.2.2.1),(5,b_r 1 qf r.2.2.2.2.2.2.2.2.1),(6,b_r 1 qg r.2.2.2.2.2.2.2.2.2)])) ∧ (∀ p r,q5v p = some r → O.loop 44 0 ⟨[(0,AV.ptr 0 0),(1,AV.ptr 1 0),(3,v_i p.1),(10,v_s p.2.1),(11,v_i p.2.2.1)],[(0,Blk.box [v_l 2 T.qi.enc p.2.2.2.1,v_s p.2.2.2.2.1,v_s p.2.2.2.2.2.1,v_r 2 p.2.2.2.2.2.2.1,v_r 3 p.2.2.2.2.2.2.2.1,v_r 4 p.2.2.2.2.2.2.2.2.1]),(1,Blk.box [v_r 5 p.2.2.2.2.2.2.2.2.2.1,v_r 6 p.2.2.2.2.2.2.2.2.2.2]),(2,b_r 20 T.qc.enc p.2.2.2.2.2.2.1),(3,b_r 1 qf p.2.2.2.2.2.2.2.1),(4,b_r 1 qg p.2.2.2.2.2.2.2.2.1),(5,b_r 1 qf p.2.2.2.2.2.2.2.2.2.1),(6,b_r 1 qg p.2.2.2.2.2.2.2.2.2.2)],7⟩ = some (qmf r)) := by
 refine q04.mutual_partial_correctness _ _ _ _ ?_ ?_ ?_ ?_
 ·rintro q93 ih132 ⟨i,b,b_2,b_3,r_,r_2,r_3,r_4,r_5⟩ r; dsimp only
  refine bW T.qc.enc 20 fun x2 h1 f1 f2 f3 f4 f5 => ?_
  apply it <;> intro h3
  ·refine bs fun v5 h4 => ?_
   have f6 := z6i h4
   try simp only [en.down,f4,f5] at f6
   apply it <;> intro h6
   ·refine bs fun v8 h7 => ?_
    have f7 := ih132 _ _ h7
    try simp only [en.down,f4,f5] at f7
    apply it <;> intro h9
    ·try simp only [f4,f5] at f6 f7
     rintro ⟨⟩
     clear ih132; exact fF q6a
    refine gd fun h10 => ?_
    have f8 := rG 1 qf v8.2.2.2.2.2.2.2.2.1
    refine gd fun h11 => ?_
    have f9 := rG 1 qg v8.2.2.2.2.2.2.2.2.2
    have f10 : List.map qg v8.2.2.2.2.2.2.2.2.2 ++ [[PV.str v8.1]] = List.map qg (v8.2.2.2.2.2.2.2.2.2 ++ [v8.1]) := by simp only [List.map_append,List.map_cons,List.map_nil,za,z8,zb,qg] <;> rfl
    refine bw qg fun x13 h12 f11 f12 f13 => ?_
    apply it <;> intro h14
    ·refine bs fun v16 h15 => ?_
     have f14 := qhe h15
     try simp only [en.down,f4,f5] at f14
     have f15 : List.map qf v8.2.2.2.2.2.2.2.2.1 ++ [[PV.int IntKind.i64 x2.n]] = List.map qf (v8.2.2.2.2.2.2.2.2.1 ++ [x2.n]) := by simp only [List.map_append,List.map_cons,List.map_nil,za,z8,zb,qf] <;> rfl
     try simp only [h14,f4,f5] at f6 f7 f14
     rintro ⟨⟩
     clear ih132; exact fF q6a
    have f16 : List.map qf v8.2.2.2.2.2.2.2.2.1 ++ [[PV.int IntKind.i64 x2.n]] = List.map qf (v8.2.2.2.2.2.2.2.2.1 ++ [x2.n]) := by simp only [List.map_append,List.map_cons,List.map_nil,za,z8,zb,qf] <;> rfl
    try simp only [h14,f4,f5] at f6 f7
    rintro ⟨⟩
    clear ih132; exact fF q6a
   refine bW qg 1 fun x18 h17 f17 f18 f19 f20 f21 => ?_
   apply it <;> intro h19
   ·refine bs fun v21 h20 => ?_
    have f22 := qhe h20
    try simp only [en.down,f4,f5,f20,f21] at f22
    try simp only [h19,f4,f5,f20,f21] at f6 f22
    rintro ⟨⟩
    clear ih132; exact fF q6a
   try simp only [h19,f4,f5,f20,f21] at f6
   rintro ⟨⟩
   clear ih132; exact fF q6a
  apply it <;> intro h22
  ·refine bs fun v24 h23 => ?_
   have f23 := qhe h23
   try simp only [en.down,f4,f5] at f23
   try simp only [h22,f4,f5] at f23
   rintro ⟨⟩
   clear ih132; exact fF q6a
  rintro ⟨⟩
  clear ih132; exact fF q6a
 ·rintro qbv ih133 ⟨n,b,b_2,b_3,r_,r_2,r_3,r_4,r_5⟩ r; dsimp only
  refine bs fun v2 h1 => ?_
  have f1 := qgp h1
  try simp only [en.down] at f1
  apply it <;> intro h3
  ·rintro ⟨⟩
   clear ih133; exact fF qei
  refine bW T.qc.enc 20 fun x5 h4 f2 f3 f4 f5 f6 => ?_
  apply it <;> intro h6
  ·refine bg qg fun x8 h7 f7 f8 f9 => ?_
   apply it <;> intro h9
   ·try simp only [f5,f6] at f1
    rintro ⟨⟩
    clear ih133; exact fF qei
   try simp only [f5,f6] at f1
   rintro ⟨⟩
   clear ih133; exact fF qei
  refine bs fun v11 h10 => ?_
  have f10 := ih133 _ _ h10
  try simp only [en.down,f5,f6] at f10
  try simp only [f5,f6] at f1 f10
  rintro ⟨⟩
  clear ih133; exact fF qei
 ·rintro q5v ih134 ⟨frm,to,b,b_2,b_3,r_,r_2,r_3,r_4,r_5⟩ r; dsimp only
  refine bs fun v2 h1 => ?_
  have f1 := ih134 _ _ h1
  try simp only [en.down] at f1
  rcases v2 with y3 | y4
  ·dsimp only
   rintro ⟨⟩
   clear ih134; exact fF q0s
  dsimp only
  rintro ⟨⟩
  clear ih134; exact fF q0s
 ·rintro q04 q5v ih129 ih134 ⟨to,s,i,w,w2,w3,r2_,r3_,r4_,r5_,r6_⟩ r; dsimp only
  apply it <;> intro h1
  ·refine bs fun v3 h2 => ?_
   have f1 := ih129 _ _ h2
   try simp only [en.down] at f1
   apply it <;> intro h4
   ·rintro ⟨⟩
    clear ih129 ih134; exact fL q0s
   refine gd fun h5 => ?_
   have f2 := eq_true h5
   try simp only [en.down] at f2
   apply it <;> intro h6
   ·rintro ⟨⟩
    clear ih129 ih134; exact fL q0s
   refine bW T.qc.enc 20 fun x8 h7 f3 f4 f5 f6 f7 => ?_
   try simp only [f6,f7] at f1
   intro h; have f8 := ih134 _ _ h; clear h
   try simp only [en.down,f6,f7] at f8
   try simp only [f6,f7] at f8
   clear ih129 ih134; exact fL q0s
  rintro ⟨⟩
  clear ih129 ih134; exact fL q0s
def qop : ((Bytes × Int × Bytes × (Sl T.qi) × Bytes × Bytes × (List T.qc) × (List Int) × (List Bytes) × (List Int) × (List Bytes)) ⊕ (Bytes × (Sl T.qi) × Bytes × Bytes × (List T.qc) × (List Int) × (List Bytes) × (List Int) × (List Bytes))) → Ex × St
 | .inl y => (Ex.ret,⟨[(8,v_s y.1),(9,v_i y.2.1),(10,v_s y.2.2.1)],[(0,Blk.box [v_l 2 T.qi.enc y.2.2.2.1,v_s y.2.2.2.2.1,v_s y.2.2.2.2.2.1,v_r 2 y.2.2.2.2.2.2.1,v_r 3 y.2.2.2.2.2.2.2.1,v_r 4 y.2.2.2.2.2.2.2.2.1]),(1,Blk.box [v_r 5 y.2.2.2.2.2.2.2.2.2.1,v_r 6 y.2.2.2.2.2.2.2.2.2.2]),(2,b_r 20 T.qc.enc y.2.2.2.2.2.2.1),(3,b_r 1 qf y.2.2.2.2.2.2.2.1),(4,b_r 1 qg y.2.2.2.2.2.2.2.2.1),(5,b_r 1 qf y.2.2.2.2.2.2.2.2.2.1),(6,b_r 1 qg y.2.2.2.2.2.2.2.2.2.2)],7⟩)
 | .inr y => (Ex.normal,⟨[(8,AV.undef),(9,AV.undef),(10,v_s y.1)],[(0,Blk.box [v_l 2 T.qi.enc y.2.1,v_s y.2.2.1,v_s y.2.2.2.1,v_r 2 y.2.2.2.2.1,v_r 3 y.2.2.2.2.2.1,v_r 4 y.2.2.2.2.2.2.1]),(1,Blk.box [v_r 5 y.2.2.2.2.2.2.2.1,v_r 6 y.2.2.2.2.2.2.2.2]),(2,b_r 20 T.qc.enc y.2.2.2.2.1),(3,b_r 1 qf y.2.2.2.2.2.1),(4,b_r 1 qg y.2.2.2.2.2.2.1),(5,b_r 1 qf y.2.2.2.2.2.2.2.1),(6,b_r 1 qg y.2.2.2.2.2.2.2.2)],7⟩)
attribute [local go_sem] qop
theorem zn5 : ∀ p r,q4t p = some r → O.loop 44 0 ⟨[(0,AV.ptr 0 0),(1,AV.ptr 1 0),(3,v_i p.1),(10,v_s p.2.1),(11,v_i p.2.2.1)],[(0,Blk.box [v_l 2 T.qi.enc p.2.2.2.1,v_s p.2.2.2.2.1,v_s p.2.2.2.2.2.1,v_r 2 p.2.2.2.2.2.2.1,v_r 3 p.2.2.2.2.2.2.2.1,v_r 4 p.2.2.2.2.2.2.2.2.1]),(1,Blk.box [v_r 5 p.2.2.2.2.2.2.2.2.2.1,v_r 6 p.2.2.2.2.2.2.2.2.2.2]),(2,b_r 20 T.qc.enc p.2.2.2.2.2.2.1),(3,b_r 1 qf p.2.2.2.2.2.2.2.1),(4,b_r 1 qg p.2.2.2.2.2.2.2.2.1),(5,b_r 1 qf p.2.2.2.2.2.2.2.2.2.1),(6,b_r 1 qg p.2.2.2.2.2.2.2.2.2.2)],7⟩ = some (qop r) := by
 refine q4t.partial_correctness _ ?_
 rintro q4t ih128 ⟨to,s,i,w,w2,w3,r2_,r3_,r4_,r5_,r6_⟩ r; dsimp only
 apply it <;> intro h1
 ·refine bs fun v3 h2 => ?_
  have f1 := qfh.1 _ _ h2
  try simp only [en.down] at f1
  apply it <;> intro h4
  ·rintro ⟨⟩
   clear ih128; exact fL q0s
  refine gd fun h5 => ?_
  have f2 := eq_true h5
  try simp only [en.down] at f2
  apply it <;> intro h6
  ·rintro ⟨⟩
   clear ih128; exact fL q0s
  refine bW T.qc.enc 20 fun x8 h7 f3 f4 f5 f6 f7 => ?_
  try simp only [f6,f7] at f1
  intro h; have f8 := ih128 _ _ h; clear h
  try simp only [en.down,f6,f7] at f8
  try simp only [f6,f7] at f8
  clear ih128; exact fL q0s
 rintro ⟨⟩
 clear ih128; exact fL q0s
theorem qpy {frm to b b_2 b_3 r_ r_2 r_3 r} (h : qas frm to b b_2 b_3 r_ r_2 r_3 = some r) : O.call 44 [AV.ptr 0 0,AV.ptr 1 0,v_i frm,v_i to] [(0,Blk.box [v_l 2 T.qi.enc b,v_s b_2,v_s b_3,v_r 2 r_,v_r 3 r_2,v_r 4 r_3]),(1,Blk.box [AV.pv (PV.sl true 0 []),AV.pv (PV.sl true 0 [])]),(2,b_r 20 T.qc.enc r_),(3,b_r 1 qf r_2),(4,b_r 1 qg r_3)] = some (AV.tup [v_s r.1,v_i r.2.1],[(0,Blk.box [v_l 2 T.qi.enc r.2.2.1,v_s r.2.2.2.1,v_s r.2.2.2.2.1,v_r 2 r.2.2.2.2.2.1,v_r 3 r.2.2.2.2.2.2.1,v_r 4 r.2.2.2.2.2.2.2.1]),(1,Blk.box [v_r 5 r.2.2.2.2.2.2.2.2.1,v_r 6 r.2.2.2.2.2.2.2.2.2]),(2,b_r 20 T.qc.enc r.2.2.2.2.2.1),(3,b_r 1 qf r.2.2.2.2.2.2.1),(4,b_r 1 qg r.2.2.2.2.2.2.2.1),(5,b_r 1 qf r.2.2.2.2.2.2.2.2.1),(6,b_r 1 qg r.2.2.2.2.2.2.2.2.2)]) := by
 revert h; unfold qas
 refine bs fun v2 h1 => ?_
 have f1 := zn5 _ _ h1
 try simp only [en.down] at f1
 rcases v2 with y3 | y4
 ·dsimp only
  rintro ⟨⟩
  exact fF q0s
 dsimp only
 rintro ⟨⟩
 exact fF q0s
end Go.Proofs.YtdhgdeelagmbpaaGreat
