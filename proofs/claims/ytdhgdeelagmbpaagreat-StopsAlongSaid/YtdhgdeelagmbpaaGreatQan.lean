/-
  What the machine's calls come to: the plain functions.
-/
import Derived.Test.YtdhgdeelagmbpaaGreatQaj
import Derived.Test.YtdhgdeelagmbpaaGreatQak
import Derived.Test.YtdhgdeelagmbpaaGreatQal
import Derived.Test.YtdhgdeelagmbpaaGreatQam
set_option linter.unusedSimpArgs false
set_option linter.unusedVariables false
set_option maxRecDepth 100000
namespace Go.Proofs.YtdhgdeelagmbpaaGreat
open Go Go.Gm
set_option maxHeartbeats 4000000
theorem qve : ∀ p r,q3w p = some r → O.loop 17 2 ⟨[(0,v_i p.1),(5,v_r 1 p.2.2.2.2.2.2.2.1),(10,v_r 0 p.2.2.2.2.2.2.1),(11,v_i p.2.1),(12,v_i p.2.2.1),(17,v_l 18 T.Stop.enc p.2.2.2.1),(18,v_i p.2.2.2.2.1),(19,v_i p.2.2.2.2.2.1)],[(0,Blk.row false 3 (List.map T.qj.enc p.2.2.2.2.2.2.1)),(1,b_r 2 T.Span.enc p.2.2.2.2.2.2.2.1),(2,b_x (T.qj.enc p.2.2.2.2.2.2.2.2))],3⟩ = some (Ex.normal,⟨[(0,v_i p.1),(5,v_r 1 r),(10,v_r 0 p.2.2.2.2.2.2.1),(11,v_i p.2.1),(12,v_i p.2.2.1)],[(0,Blk.row false 3 (List.map T.qj.enc p.2.2.2.2.2.2.1)),(1,b_r 2 T.Span.enc r),(2,b_x (T.qj.enc p.2.2.2.2.2.2.2.2))],3⟩) := by
 refine q3w.partial_correctness _ ?_
 rintro q3w ih243 ⟨n,t11,t12,t17,t18,t19,t10,out,b2_⟩ r; dsimp only
 apply it <;> intro h1
 ·refine bg T.Stop.enc fun x3 h2 f1 f2 f3 => ?_
  refine zw (fun h4 h5 => ?_) ?_
  ·refine gd fun h6 => ?_
   have f4 := rG 2 T.Span.enc out
   have f5 : List.map T.Span.enc out ++ [[PV.int IntKind.i64 x3.span.frm,PV.int IntKind.i64 x3.span.to]] = List.map T.Span.enc (out ++ [x3.span]) := by simp only [List.map_append,List.map_cons,List.map_nil,zf,zb,ze,T.Span.za] <;> rfl
   intro h; have f6 := ih243 _ _ h; clear h
   try simp only [en.down] at f6
   clear ih243; exact fL q8o
  rintro (⟨h4,h5⟩ | ⟨h4,h5⟩)
  all_goals
  intro h; have f7 := ih243 _ _ h; clear h
  try simp only [en.down] at f7
  clear ih243; exact fL q8o
 rintro ⟨⟩
 clear ih243; exact fL q8o
theorem zgf : ∀ p r,q64 p = some r → O.loop 17 0 ⟨[(0,v_i p.1),(5,v_r 1 p.2.2.2.2),(10,v_r 0 p.2.2.2.1),(11,v_i p.2.1),(12,v_i p.2.2.1)],[(0,Blk.row false 3 (List.map T.qj.enc p.2.2.2.1)),(1,b_r 2 T.Span.enc p.2.2.2.2)],2⟩ = some (Ex.normal,⟨[(5,v_r 1 r)],[(0,Blk.row false 3 (List.map T.qj.enc p.2.2.2.1)),(1,b_r 2 T.Span.enc r)],2⟩) := by
 refine q64.partial_correctness _ ?_
 rintro q64 ih242 ⟨n,t11,t12,t10,out⟩ r; dsimp only
 apply it <;> intro h1
 ·refine bw T.qj.enc fun x3 h2 f1 f2 f3 => ?_
  refine bs fun v5 h4 => ?_
  have f4 := qve _ _ h4
  try simp only [en.down] at f4
  intro h; have f5 := ih242 _ _ h; clear h
  try simp only [en.down] at f5
  clear ih242; exact fL q8o
 rintro ⟨⟩
 clear ih242; exact fL q8o
theorem qkd {n r_ r} (h : q9z n r_ = some r) : O.call 17 [v_i n,v_r 0 r_] [(0,Blk.row false 3 (List.map T.qj.enc r_))] = some (v_l 2 T.Span.enc r,[(0,Blk.row false 3 (List.map T.qj.enc r_))]) := by
 revert h; unfold q9z
 refine bs fun v2 h1 => ?_
 have f1 := zgf _ _ h1
 try simp only [en.down] at f1
 rintro ⟨⟩
 exact fF q8o
theorem zgv : ∀ p r,gp p = some r → O.loop 18 0 ⟨[(1,v_i p.1),(2,v_l 1 q0h p.2.1),(3,AV.ptr 0 0),(7,v_i p.2.2.1),(8,v_i p.2.2.2.1),(9,v_i p.2.2.2.2.1),(10,v_i p.2.2.2.2.2.1)],[(0,b_x (T.qj.enc p.2.2.2.2.2.2))],1⟩ = some (Ex.normal,⟨[(7,v_i r.1),(8,v_i r.2.1),(9,v_i r.2.2)],[(0,b_x (T.qj.enc p.2.2.2.2.2.2))],1⟩) := by
 refine gp.partial_correctness _ ?_
 rintro gp ih245 ⟨n,held,of,first,any_,k,i⟩ r; dsimp only
 apply it <;> intro h1
 ·refine bg T.Stop.enc fun x3 h2 f1 f2 f3 => ?_
  refine xq ?_ (fun h4 h5 => ?_)
  ·rintro (⟨h4,h5⟩ | ⟨h4,h5⟩)
   all_goals
   intro h; have f4 := ih245 _ _ h; clear h
   try simp only [en.down] at f4
   try simp only [h5] at f4
   clear ih245; exact fL q1i
  apply it <;> intro h6
  ·apply it <;> intro h7
   ·refine bg q0h fun x9 h8 f5 f6 f7 => ?_
    apply it <;> intro h10
    ·intro h; have f8 := ih245 _ _ h; clear h
     try simp only [en.down] at f8
     try simp only [h5,h6,h10] at f8
     clear ih245; exact fL q1i
    intro h; have f9 := ih245 _ _ h; clear h
    try simp only [en.down] at f9
    try simp only [h5,h6,h10] at f9
    clear ih245; exact fL q1i
   intro h; have f10 := ih245 _ _ h; clear h
   try simp only [en.down] at f10
   try simp only [h5,h6] at f10
   clear ih245; exact fL q1i
  apply it <;> intro h11
  ·refine bg q0h fun x13 h12 f11 f12 f13 => ?_
   apply it <;> intro h14
   ·intro h; have f14 := ih245 _ _ h; clear h
    try simp only [en.down] at f14
    try simp only [h5,h6,h14] at f14
    clear ih245; exact fL q1i
   intro h; have f15 := ih245 _ _ h; clear h
   try simp only [en.down] at f15
   try simp only [h5,h6,h14] at f15
   clear ih245; exact fL q1i
  intro h; have f16 := ih245 _ _ h; clear h
  try simp only [en.down] at f16
  try simp only [h5,h6] at f16
  clear ih245; exact fL q1i
 rintro ⟨⟩
 clear ih245; exact fL q1i
theorem qlb {i n held r} (h : q80 i n held = some r) : O.call 18 [v_g (T.qj.enc i),v_i n,v_l 1 q0h held] [] = some (v_i r,[]) := by
 revert h; unfold q80
 refine bs fun v2 h1 => ?_
 have f1 := zgv _ _ h1
 try simp only [en.down] at f1
 apply it <;> intro h3
 ·rintro ⟨⟩
  exact fF q1i
 apply it <;> intro h4
 ·rintro ⟨⟩
  exact fF q1i
 rintro ⟨⟩
 exact fF q1i
def qoc (held : (Sl Bool)) (k : Int) (i : Int) (a : T.qj) (b : T.qj) (ns : (List Int)) (r4_ : (List T.qj)) (r5_ : (List Int)) (r6_ : (List T.qj)) (r7_ : (List T.qj)) : ((Bool) ⊕ (Unit)) → Ex × St
 | .inl y => (Ex.ret,⟨[(2,v_l 1 q0h held),(6,v_b y),(7,v_i k),(8,AV.ptr 0 0),(10,AV.ptr 1 0),(12,v_r 3 ns),(13,v_i i)],[(0,b_x (T.qj.enc a)),(1,b_x (T.qj.enc b)),(2,Blk.dead),(3,b_r 1 qc ns),(4,Blk.row false 3 (List.map T.qj.enc r4_)),(5,b_r 1 qc r5_),(6,Blk.row false 3 (List.map T.qj.enc r6_)),(7,Blk.row false 3 (List.map T.qj.enc r7_))],8⟩)
 | .inr y => (Ex.normal,⟨[(2,v_l 1 q0h held),(6,AV.undef),(7,v_i k),(8,AV.ptr 0 0),(10,AV.ptr 1 0),(12,v_r 3 ns),(13,v_i i)],[(0,b_x (T.qj.enc a)),(1,b_x (T.qj.enc b)),(2,Blk.dead),(3,b_r 1 qc ns),(4,Blk.row false 3 (List.map T.qj.enc r4_)),(5,b_r 1 qc r5_),(6,Blk.row false 3 (List.map T.qj.enc r6_)),(7,Blk.row false 3 (List.map T.qj.enc r7_))],8⟩)
attribute [local go_sem] qoc
theorem zua : ∀ p r,q68 p = some r → O.loop 6 2 ⟨[(2,v_l 1 q0h p.1),(7,v_i p.2.1),(8,AV.ptr 0 0),(10,AV.ptr 1 0),(12,v_r 3 p.2.2.2.2.2.2.2.2.1),(13,v_i p.2.2.1),(14,v_l 2 T.Span.enc p.2.2.2.1),(15,v_l 2 T.Span.enc p.2.2.2.2.1),(16,v_i p.2.2.2.2.2.1)],[(0,b_x (T.qj.enc p.2.2.2.2.2.2.1)),(1,b_x (T.qj.enc p.2.2.2.2.2.2.2.1)),(2,Blk.dead),(3,b_r 1 qc p.2.2.2.2.2.2.2.2.1),(4,Blk.row false 3 (List.map T.qj.enc p.2.2.2.2.2.2.2.2.2.1)),(5,b_r 1 qc p.2.2.2.2.2.2.2.2.2.2.1),(6,Blk.row false 3 (List.map T.qj.enc p.2.2.2.2.2.2.2.2.2.2.2.1)),(7,Blk.row false 3 (List.map T.qj.enc p.2.2.2.2.2.2.2.2.2.2.2.2))],8⟩ = some (qoc p.1 p.2.1 p.2.2.1 p.2.2.2.2.2.2.1 p.2.2.2.2.2.2.2.1 p.2.2.2.2.2.2.2.2.1 p.2.2.2.2.2.2.2.2.2.1 p.2.2.2.2.2.2.2.2.2.2.1 p.2.2.2.2.2.2.2.2.2.2.2.1 p.2.2.2.2.2.2.2.2.2.2.2.2 r) := by
 refine q68.partial_correctness _ ?_
 rintro q68 ih246 ⟨held,k,i,x,y,j,a,b,ns,r4_,r5_,r6_,r7_⟩ r; dsimp only
 apply it <;> intro h1
 ·refine bg T.Span.enc fun x3 h2 f1 f2 f3 => ?_
  refine bg T.Span.enc fun x5 h4 f4 f5 f6 => ?_
  apply it <;> intro h6
  ·rintro ⟨⟩
   clear ih246; exact fL fn6
  apply it <;> intro h7
  ·rintro ⟨⟩
   clear ih246; exact fL fn6
  intro h; have f7 := ih246 _ _ h; clear h
  try simp only [en.down] at f7
  clear ih246; exact fL fn6
 rintro ⟨⟩
 clear ih246; exact fL fn6
def qoj (a : T.qj) (b : T.qj) (ns : (List Int)) (r4_ : (List T.qj)) (r5_ : (List Int)) : ((Bool) ⊕ (Unit)) → Ex × St
 | .inl y => (Ex.ret,⟨[(6,v_b y)],[(0,b_x (T.qj.enc a)),(1,b_x (T.qj.enc b)),(2,Blk.dead),(3,b_r 1 qc ns),(4,Blk.row false 3 (List.map T.qj.enc r4_)),(5,b_r 1 qc r5_)],6⟩)
 | .inr y => (Ex.normal,⟨[(6,AV.undef)],[(0,b_x (T.qj.enc a)),(1,b_x (T.qj.enc b)),(2,Blk.dead),(3,b_r 1 qc ns),(4,Blk.row false 3 (List.map T.qj.enc r4_)),(5,b_r 1 qc r5_)],6⟩)
attribute [local go_sem] qoj
theorem qkf : ∀ p r,q3j p = some r → O.loop 6 0 ⟨[(2,v_l 1 q0h p.1),(7,v_i p.2.1),(8,AV.ptr 0 0),(10,AV.ptr 1 0),(12,v_r 3 p.2.2.2.2.2.1),(13,v_i p.2.2.1)],[(0,b_x (T.qj.enc p.2.2.2.1)),(1,b_x (T.qj.enc p.2.2.2.2.1)),(2,Blk.dead),(3,b_r 1 qc p.2.2.2.2.2.1),(4,Blk.row false 3 (List.map T.qj.enc p.2.2.2.2.2.2.1)),(5,b_r 1 qc p.2.2.2.2.2.2.2)],6⟩ = some (qoj p.2.2.2.1 p.2.2.2.2.1 p.2.2.2.2.2.1 p.2.2.2.2.2.2.1 p.2.2.2.2.2.2.2 r) := by
 refine q3j.partial_correctness _ ?_
 rintro q3j ih240 ⟨held,k,i,a,b,ns,r4_,r5_⟩ r; dsimp only
 apply it <;> intro h1
 ·refine bW qc 1 fun x3 h2 f1 f2 f3 f4 f5 => ?_
  refine bs fun v5 h4 => ?_
  have f6 := qkd h4
  try simp only [en.down,f4,f5] at f6
  refine bs fun v7 h6 => ?_
  have f7 := qkd h6
  try simp only [en.down,f4,f5] at f7
  apply it <;> intro h8
  ·try simp only [f4,f5] at f6 f7
   rintro ⟨⟩
   clear ih240; exact fL fn6
  refine bs fun v10 h9 => ?_
  have f8 := qlb h9
  try simp only [en.down,f4,f5] at f8
  refine bs fun v12 h11 => ?_
  have f9 := qlb h11
  try simp only [en.down,f4,f5] at f9
  apply it <;> intro h13
  ·try simp only [f4,f5] at f6 f7 f8 f9
   rintro ⟨⟩
   clear ih240; exact fL fn6
  refine bs fun v15 h14 => ?_
  have f10 := zua _ _ h14
  try simp only [en.down,f4,f5] at f10
  rcases v15 with y16 | y17
  ·dsimp only
   try simp only [f4,f5] at f6 f7 f8 f9 f10
   rintro ⟨⟩
   clear ih240; exact fL fn6
  dsimp only
  try simp only [f4,f5] at f6 f7 f8 f9 f10
  intro h; have f11 := ih240 _ _ h; clear h
  try simp only [en.down,f4,f5] at f11
  try simp only [f4,f5] at f11
  clear ih240; exact fL fn6
 rintro ⟨⟩
 clear ih240; exact fL fn6
theorem qzd {s by_ held r} (h : qe8 s by_ held = some r) : O.call 6 [v_s s,v_i by_,v_l 1 q0h held] [] = some (v_b r,[]) := by
 revert h; unfold qe8
 refine xq ?_ (fun h1 h4 => ?_)
 ·rintro (⟨h1,h4⟩ | ⟨h1,h4⟩)
  all_goals
  refine bs fun v3 h2 => ?_
  have f1 := qdu h2
  try simp only [en.down] at f1
  rintro ⟨⟩
  exact fF fn6
 refine bs fun v8 h7 => ?_
 have f2 := qyn h7
 try simp only [en.down] at f2
 refine bs fun v10 h9 => ?_
 have f3 := ql3 h9
 try simp only [en.down] at f3
 refine bs fun v12 h11 => ?_
 have f4 := ql3 h11
 try simp only [en.down] at f4
 refine xq ?_ (fun h13 h16 => ?_)
 ·rintro (⟨h13,h16⟩ | ⟨h13,h16⟩)
  all_goals
  refine bs fun v15 h14 => ?_
  have f5 := qdu h14
  try simp only [en.down] at f5
  rintro ⟨⟩
  exact fF fn6
 refine bs fun v20 h19 => ?_
 have f6 := qiu h19
 try simp only [en.down] at f6
 apply it <;> intro h21
 ·rintro ⟨⟩
  exact fF fn6
 refine bs fun v23 h22 => ?_
 have f7 := qiu h22
 try simp only [en.down] at f7
 apply it <;> intro h24
 ·rintro ⟨⟩
  exact fF fn6
 apply it <;> intro h25
 ·refine bs fun v27 h26 => ?_
  have f8 := qiu h26
  try simp only [en.down] at f8
  apply it <;> intro h28
  ·try simp only [h28] at f2 f3 f4 f6 f7 f8
   rintro ⟨⟩
   exact fF fn6
  refine bs fun v30 h29 => ?_
  have f9 := qky h29
  try simp only [en.down] at f9
  refine bs fun v32 h31 => ?_
  have f10 := qm4 h31
  try simp only [en.down] at f10
  refine bs fun v34 h33 => ?_
  have f11 := ql7 h33
  try simp only [en.down] at f11
  apply it <;> intro h35
  ·try simp only [h28] at f2 f3 f4 f6 f7 f8 f9 f10 f11
   rintro ⟨⟩
   exact fF fn6
  refine bs fun v37 h36 => ?_
  have f12 := qdz h36
  try simp only [en.down] at f12
  refine bs fun v39 h38 => ?_
  have f13 := qdz h38
  try simp only [en.down] at f13
  refine bs fun v41 h40 => ?_
  have f14 := qlj h40
  try simp only [en.down] at f14
  apply it <;> intro h42
  ·try simp only [h28] at f2 f3 f4 f6 f7 f8 f9 f10 f11 f12 f13 f14
   rintro ⟨⟩
   exact fF fn6
  refine bs fun v44 h43 => ?_
  have f15 := qkf _ _ h43
  try simp only [en.down] at f15
  rcases v44 with y45 | y46
  ·dsimp only
   try simp only [h28] at f2 f3 f4 f6 f7 f8 f9 f10 f11 f12 f13 f14 f15
   rintro ⟨⟩
   exact fF fn6
  dsimp only
  refine bs fun v48 h47 => ?_
  have f16 := qdu h47
  try simp only [en.down] at f16
  try simp only [h28] at f2 f3 f4 f6 f7 f8 f9 f10 f11 f12 f13 f14 f15 f16
  rintro ⟨⟩
  exact fF fn6
 refine bs fun v50 h49 => ?_
 have f17 := qky h49
 try simp only [en.down] at f17
 refine bs fun v52 h51 => ?_
 have f18 := qm4 h51
 try simp only [en.down] at f18
 refine bs fun v54 h53 => ?_
 have f19 := ql7 h53
 try simp only [en.down] at f19
 apply it <;> intro h55
 ·rintro ⟨⟩
  exact fF fn6
 refine bs fun v57 h56 => ?_
 have f20 := qdz h56
 try simp only [en.down] at f20
 refine bs fun v59 h58 => ?_
 have f21 := qdz h58
 try simp only [en.down] at f21
 refine bs fun v61 h60 => ?_
 have f22 := qlj h60
 try simp only [en.down] at f22
 apply it <;> intro h62
 ·rintro ⟨⟩
  exact fF fn6
 refine bs fun v64 h63 => ?_
 have f23 := qkf _ _ h63
 try simp only [en.down] at f23
 rcases v64 with y65 | y66
 ·dsimp only
  rintro ⟨⟩
  exact fF fn6
 dsimp only
 refine bs fun v68 h67 => ?_
 have f24 := qdu h67
 try simp only [en.down] at f24
 rintro ⟨⟩
 exact fF fn6
end Go.Proofs.YtdhgdeelagmbpaaGreat
