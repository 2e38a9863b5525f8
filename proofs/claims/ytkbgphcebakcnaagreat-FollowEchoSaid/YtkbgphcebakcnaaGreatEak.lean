/-
  What the machine's calls come to: the plain functions.
-/
import Derived.Test.YtkbgphcebakcnaaGreatEaj
set_option linter.unusedSimpArgs false
set_option linter.unusedVariables false
set_option maxRecDepth 100000
namespace Go.Proofs.YtkbgphcebakcnaaGreat
open Go Go.Gm
attribute [local go_sem] qcm
set_option maxHeartbeats 4000000
theorem znm : ∀ p r,q3o p = some r → O.loop 33 0 ⟨[(0,v_i p.1),(5,v_r 0 p.2.2.2.2),(10,v_l 3 T.qa.enc p.2.1),(11,v_i p.2.2.1),(12,v_i p.2.2.2.1)],[(0,b_r 2 T.Span.enc p.2.2.2.2)],1⟩ = some (Ex.normal,⟨[(5,v_r 0 r)],[(0,b_r 2 T.Span.enc r)],1⟩) := by
 refine q3o.partial_correctness _ ?_
 rintro q3o ih52 ⟨n,t10,t11,t12,out⟩ r; dsimp only
 apply it <;> intro h1
 ·refine bg T.qa.enc fun x3 h2 f1 f2 f3 => ?_
  refine bs fun v5 h4 => ?_
  have f4 := zbw _ _ h4
  try simp only [en.down] at f4
  intro h; have f5 := ih52 _ _ h; clear h
  try simp only [en.down] at f5
  clear ih52; exact fL q5w
 rintro ⟨⟩
 clear ih52; exact fL q5w
theorem qgj {n is r} (h : q6f n is = some r) : O.call 33 [v_i n,v_l 3 T.qa.enc is] [] = some (v_l 2 T.Span.enc r,[]) := by
 revert h; unfold q6f
 refine bs fun v2 h1 => ?_
 have f1 := znm _ _ h1
 try simp only [en.down] at f1
 rintro ⟨⟩
 exact fF q5w
def qer (b0_ : T.State) : ((Bool) ⊕ (Unit)) → Ex × St
 | .inl y => (Ex.ret,⟨[(2,v_b y)],[(0,b_x (T.State.enc b0_))],1⟩)
 | .inr y => (Ex.normal,⟨[(2,AV.undef)],[(0,b_x (T.State.enc b0_))],1⟩)
attribute [local go_sem] qer
theorem qzj : ∀ p r,q4a p = some r → O.loop 16 0 ⟨[(3,v_i p.1),(6,v_l 2 T.Span.enc p.2.1),(42,v_l 2 T.qf.enc p.2.2.1),(43,v_i p.2.2.2.1),(44,v_i p.2.2.2.2.1)],[(0,b_x (T.State.enc p.2.2.2.2.2))],1⟩ = some (qer p.2.2.2.2.2 r) := by
 refine q4a.partial_correctness _ ?_
 rintro q4a ih38 ⟨n,around,t42,t43,t44,b0_⟩ r; dsimp only
 apply it <;> intro h1
 ·refine bg T.qf.enc fun x3 h2 f1 f2 f3 => ?_
  apply it <;> intro h4
  ·rintro ⟨⟩
   clear ih38; exact fL yh
  refine bs fun v6 h5 => ?_
  have f4 := qp0 _ _ h5
  try simp only [en.down] at f4
  rcases v6 with y7 | y8
  ·dsimp only
   rintro ⟨⟩
   clear ih38; exact fL yh
  dsimp only
  refine bs fun v10 h9 => ?_
  have f5 := qgj h9
  try simp only [en.down] at f5
  intro h; have f6 := ih38 _ _ h; clear h
  try simp only [en.down] at f6
  clear ih38; exact fL yh
 rintro ⟨⟩
 clear ih38; exact fL yh
theorem qtp {st r} (h : q8s st = some r) : O.call 16 [v_g (T.State.enc st)] [] = some (v_b r,[]) := by
 revert h; unfold q8s
 refine bs fun v2 h1 => ?_
 have f1 := zld h1
 try simp only [en.down] at f1
 refine q2l ?_ (fun h3 h4 => ?_)
 ·rintro (⟨h3,h4⟩ | ⟨h3,h4⟩)
  all_goals
  rintro ⟨⟩
  exact fF yh
 refine bs fun v6 h5 => ?_
 have f2 := zrz h5
 try simp only [en.down] at f2
 refine q2l ?_ (fun h7 h8 => ?_)
 ·rintro (⟨h7,h8⟩ | ⟨h7,h8⟩)
  all_goals
  rintro ⟨⟩
  exact fF yh
 refine bs fun v10 h9 => ?_
 have f3 := qzj _ _ h9
 try simp only [en.down] at f3
 rcases v10 with y11 | y12
 ·dsimp only
  rintro ⟨⟩
  exact fF yh
 dsimp only
 rintro ⟨⟩
 exact fF yh
def qft (n : Int) (es : (Sl T.qb)) : ((Int) ⊕ (Unit)) → Ex × St
 | .inl y => (Ex.ret,⟨[(0,v_i n),(1,v_l 3 T.qb.enc es),(4,v_i y)],[],0⟩)
 | .inr y => (Ex.normal,⟨[(0,v_i n),(1,v_l 3 T.qb.enc es),(4,AV.undef)],[],0⟩)
attribute [local go_sem] qft
theorem zlj : ∀ p r,q4b p = some r → O.loop 12 0 ⟨[(0,v_i p.1),(1,v_l 3 T.qb.enc p.2.1),(7,v_l 3 T.qb.enc p.2.2.1),(8,v_i p.2.2.2.1),(9,v_i p.2.2.2.2)],[],0⟩ = some (qft p.1 p.2.1 r) := by
 refine q4b.partial_correctness _ ?_
 rintro q4b ih55 ⟨n,es,t7,t8,t9⟩ r; dsimp only
 apply it <;> intro h1
 ·refine bg T.qb.enc fun x3 h2 f1 f2 f3 => ?_
  refine bs fun v5 h4 => ?_
  have f4 := qb6 h4
  try simp only [en.down] at f4
  apply it <;> intro h6
  ·rintro ⟨⟩
   clear ih55; exact fL q2v
  intro h; have f5 := ih55 _ _ h; clear h
  try simp only [en.down] at f5
  clear ih55; exact fL q2v
 rintro ⟨⟩
 clear ih55; exact fL q2v
theorem znh : ∀ p r,q2t p = some r → O.loop 26 0 ⟨[(3,v_r 0 p.2.2.2),(6,v_l 3 T.qb.enc p.1),(7,v_i p.2.1),(8,v_i p.2.2.1)],[(0,b_r 2 T.Span.enc p.2.2.2)],1⟩ = some (Ex.normal,⟨[(3,v_r 0 r)],[(0,b_r 2 T.Span.enc r)],1⟩) := by
 refine q2t.partial_correctness _ ?_
 rintro q2t ih57 ⟨t6,t7,t8,out⟩ r; dsimp only
 apply it <;> intro h1
 ·refine bg T.qb.enc fun x3 h2 f1 f2 f3 => ?_
  refine gd fun h4 => ?_
  have f4 := rG 2 T.Span.enc out
  have f5 : List.map T.Span.enc out ++ [[PV.int IntKind.i64 x3.span.frm,PV.int IntKind.i64 x3.span.to]] = List.map T.Span.enc (out ++ [x3.span]) := by simp only [List.map_append,List.map_cons,List.map_nil,qx,qy,qw,T.Span.qi] <;> rfl
  intro h; have f6 := ih57 _ _ h; clear h
  try simp only [en.down] at f6
  clear ih57; exact fL qb3
 rintro ⟨⟩
 clear ih57; exact fL qb3
theorem z9c {es r} (h : q6l es = some r) : O.call 26 [v_l 3 T.qb.enc es] [] = some (v_l 2 T.Span.enc r,[]) := by
 revert h; unfold q6l
 refine bs fun v2 h1 => ?_
 have f1 := znh _ _ h1
 try simp only [en.down] at f1
 rintro ⟨⟩
 exact fF qb3
def qe9 : (((Sl T.Span)) ⊕ ((List T.Span))) → AV × Heap
 | .inl y => (v_l 2 T.Span.enc y,[])
 | .inr y => (v_r 0 y,[(0,Blk.row false 2 (List.map T.Span.enc y))])
attribute [local go_sem] qe9
theorem zpc {s r} (h : q94 s = some r) : O.call 45 [v_l 2 T.Span.enc s] [] = some (qe9 r) := by
 revert h; unfold q94
 apply it <;> intro h1
 ·rintro ⟨⟩
  exact fF qih
 have f1 := q4c 2 T.Span.enc s.l
 refine gd fun h2 => ?_
 rintro ⟨⟩
 exact fF qih
theorem qk0 {a b r} (h : q5n a b = some r) : O.call 47 [v_g (T.Span.enc a),v_g (T.Span.enc b)] [] = some (v_i r,[]) := by
 revert h; unfold q5n
 refine bs fun v2 h1 => ?_
 have f1 := q5r h1
 try simp only [en.down] at f1
 refine bs fun v4 h3 => ?_
 have f2 := q5r h3
 try simp only [en.down] at f2
 refine bs fun v6 h5 => ?_
 have f3 := qdm h5
 try simp only [en.down] at f3
 rintro ⟨⟩
 exact fF znk
theorem zit {data a b i j r} (h : qbu data a b i j = some r) : O.loop 95 2 ⟨[(0,v_l 2 T.Span.enc data),(1,v_i a),(2,v_i b),(3,AV.pv (PV.fn 47)),(8,v_i i),(9,v_i j)],[],0⟩ = some (Ex.normal,⟨[(0,v_l 2 T.Span.enc data),(1,v_i a),(2,v_i b),(3,AV.pv (PV.fn 47)),(8,v_i i)],[],0⟩) := by
 revert h; unfold qbu
 apply it <;> intro h1
 ·refine bg T.Span.enc fun x3 h2 f1 f2 f3 => ?_
  refine bg T.Span.enc fun x5 h4 f4 f5 f6 => ?_
  refine bs fun v7 h6 => ?_
  have f7 := qk0 h6
  try simp only [en.down] at f7
  apply it <;> intro h8
  ·rintro ⟨⟩
  rintro ⟨⟩
  exact fL pg
 rintro ⟨⟩
 exact fL pg
theorem qpq : ∀ p r,q8b p = some r → O.loop 95 0 ⟨[(0,v_l 2 T.Span.enc p.1),(1,v_i p.2.1),(2,v_i p.2.2.1),(3,AV.pv (PV.fn 47)),(8,v_i p.2.2.2)],[],0⟩ = some (Ex.normal,⟨[],[],0⟩) := by
 refine q8b.partial_correctness _ ?_
 rintro q8b ih64 ⟨data,a,b,i⟩ r; dsimp only
 apply it <;> intro h1
 ·refine bs fun v3 h2 => ?_
  have f1 := zit h2
  try simp only [en.down] at f1
  intro h; have f2 := ih64 _ _ h; clear h
  try simp only [en.down] at f2
  clear ih64; exact fL pg
 rintro ⟨⟩
 clear ih64; exact fL pg
theorem qh1 {data a b r} (h : q9k data a b = some r) : O.call 95 [v_l 2 T.Span.enc data,v_i a,v_i b,AV.pv (PV.fn 47)] [] = some (AV.tup [],[]) := by
 revert h; unfold q9k
 refine bs fun v2 h1 => ?_
 have f1 := qpq _ _ h1
 try simp only [en.down] at f1
 rintro ⟨⟩
 exact fF pg
theorem qna : ∀ p r,q7j p = some r → O.loop 75 0 ⟨[(0,v_l 2 T.Span.enc p.1),(1,v_i p.2.1),(2,AV.pv (PV.fn 47)),(6,v_i p.2.2.1),(7,v_i p.2.2.2.1),(8,v_i p.2.2.2.2)],[],0⟩ = some (Ex.normal,⟨[(0,v_l 2 T.Span.enc p.1),(1,v_i p.2.1),(2,AV.pv (PV.fn 47)),(6,v_i p.2.2.1),(7,v_i r)],[],0⟩) := by
 refine q7j.partial_correctness _ ?_
 rintro q7j ih62 ⟨data,n,blockSize,a,b⟩ r; dsimp only
 apply it <;> intro h1
 ·refine bs fun v3 h2 => ?_
  have f1 := qh1 h2
  try simp only [en.down] at f1
  intro h; have f2 := ih62 _ _ h; clear h
  try simp only [en.down] at f2
  clear ih62; exact fL ug
 rintro ⟨⟩
 clear ih62; exact fL ug
theorem zmk {data n blockSize a b r} (h : qch data n blockSize a b = some r) : O.loop 75 4 ⟨[(0,v_l 2 T.Span.enc data),(1,v_i n),(2,AV.pv (PV.fn 47)),(6,v_i blockSize),(7,v_i a),(8,v_i b)],[],0⟩ = some (Ex.normal,⟨[(0,v_l 2 T.Span.enc data),(1,v_i n),(2,AV.pv (PV.fn 47)),(6,v_i blockSize),(7,v_i a)],[],0⟩) := by
 revert h; unfold qch
 apply it <;> intro h1
 ·rintro ⟨⟩
 rintro ⟨⟩
 exact fL ug
theorem zmo : ∀ p r,q7p p = some r → O.loop 75 2 ⟨[(0,v_l 2 T.Span.enc p.1),(1,v_i p.2.1),(2,AV.pv (PV.fn 47)),(6,v_i p.2.2)],[],0⟩ = some (Ex.normal,⟨[],[],0⟩) := by
 refine q7p.partial_correctness _ ?_
 rintro q7p ih67 ⟨data,n,blockSize⟩ r; dsimp only
 apply it <;> intro h1
 ·refine bs fun v3 h2 => ?_
  have f1 := zmk h2
  try simp only [en.down] at f1
  apply it <;> intro h4
  ·rintro ⟨⟩
  intro h; have f2 := ih67 _ _ h; clear h
  try simp only [en.down] at f2
  clear ih67; exact fL ug
 rintro ⟨⟩
 clear ih67; exact fL ug
theorem zro {data n r} (h : qdw data n = some r) : O.call 75 [v_l 2 T.Span.enc data,v_i n,AV.pv (PV.fn 47)] [] = some (AV.tup [],[]) := by
 revert h; unfold qdw
 refine bs fun v2 h1 => ?_
 have f1 := qna _ _ h1
 try simp only [en.down] at f1
 refine bs fun v4 h3 => ?_
 have f2 := qh1 h3
 try simp only [en.down] at f2
 refine bs fun v6 h5 => ?_
 have f3 := zmo _ _ h5
 try simp only [en.down] at f3
 rintro ⟨⟩
 exact fF ug
theorem qxh {x r} (h : qe2 x = some r) : O.call 46 [v_l 2 T.Span.enc x,AV.pv (PV.fn 47)] [] = some (AV.tup [],[]) := by
 revert h; unfold qe2
 refine bs fun v2 h1 => ?_
 have f1 := zro h1
 try simp only [en.down] at f1
 rintro ⟨⟩
 exact fF qjb
def qjk : ((Bool) ⊕ (Unit)) → Ex × St
 | .inl y => (Ex.ret,⟨[(2,v_b y)],[],0⟩)
 | .inr y => (Ex.normal,⟨[(2,AV.undef)],[],0⟩)
attribute [local go_sem] qjk
theorem z1c : ∀ p r,q5a p = some r → O.loop 25 0 ⟨[(3,v_l 2 T.Span.enc p.1),(10,v_l 2 T.Span.enc p.2.1),(11,v_i p.2.2.1),(12,v_i p.2.2.2)],[],0⟩ = some (qjk r) := by
 refine q5a.partial_correctness _ ?_
 rintro q5a ih69 ⟨in_,t10,t11,t12⟩ r; dsimp only
 apply it <;> intro h1
 ·refine bg T.Span.enc fun x3 h2 f1 f2 f3 => ?_
  apply it <;> intro h4
  ·rintro ⟨⟩
   clear ih69; exact fL ko
  apply it <;> intro h5
  ·refine bg T.Span.enc fun x7 h6 f4 f5 f6 => ?_
   apply it <;> intro h8
   ·rintro ⟨⟩
    clear ih69; exact fL ko
   apply it <;> intro h9
   ·rintro ⟨⟩
    clear ih69; exact fL ko
   intro h; have f7 := ih69 _ _ h; clear h
   try simp only [en.down] at f7
   clear ih69; exact fL ko
  intro h; have f8 := ih69 _ _ h; clear h
  try simp only [en.down] at f8
  clear ih69; exact fL ko
 rintro ⟨⟩
 clear ih69; exact fL ko
theorem ql3 : ∀ p r,q3w p = some r → r.length = p.2.2.2.2.length ∧ O.loop 95 2 ⟨[(0,v_r 0 p.2.2.2.2),(1,v_i p.1),(2,v_i p.2.1),(3,AV.pv (PV.fn 47)),(8,v_i p.2.2.1),(9,v_i p.2.2.2.1)],[(0,Blk.row false 2 (List.map T.Span.enc p.2.2.2.2))],1⟩ = some (Ex.normal,⟨[(0,v_r 0 r),(1,v_i p.1),(2,v_i p.2.1),(3,AV.pv (PV.fn 47)),(8,v_i p.2.2.1)],[(0,Blk.row false 2 (List.map T.Span.enc r))],1⟩) := by
 refine q3w.partial_correctness _ ?_
 rintro q3w ih75 ⟨a,b,i,j,data⟩ r; dsimp only
 apply it <;> intro h1
 ·refine bw T.Span.enc fun x3 h2 f1 f2 f3 => ?_
  refine bw T.Span.enc fun x5 h4 f4 f5 f6 => ?_
  refine bs fun v7 h6 => ?_
  have f7 := qk0 h6
  try simp only [en.down] at f7
  apply it <;> intro h8
  ·have f8 := map_set T.Span.enc data j.toNat x5
   try simp only [en.down] at f8
   refine bw T.Span.enc fun x10 h9 f9 f10 f11 => ?_
   try simp only [List.length_set] at f11
   have f12 := map_set T.Span.enc (data.set j.toNat x5) ((IntKind.i64.wrap (j - (1 : Int))).toNat) x3
   try simp only [en.down] at f12
   intro h; obtain ⟨f13L,f13⟩ := ih75 _ _ h; clear h
   try simp only [en.down] at f13
   clear ih75; exact ⟨by first | rfl | (simp only [List.length_set,f13L]; done),fL pg⟩
  rintro ⟨⟩
  clear ih75; exact ⟨by first | rfl | (simp only [List.length_set]; done),fL pg⟩
 rintro ⟨⟩
 clear ih75; exact ⟨by first | rfl | (simp only [List.length_set]; done),fL pg⟩
theorem qqd : ∀ p r,q2x p = some r → r.length = p.2.2.2.length ∧ O.loop 95 0 ⟨[(0,v_r 0 p.2.2.2),(1,v_i p.1),(2,v_i p.2.1),(3,AV.pv (PV.fn 47)),(8,v_i p.2.2.1)],[(0,Blk.row false 2 (List.map T.Span.enc p.2.2.2))],1⟩ = some (Ex.normal,⟨[],[(0,Blk.row false 2 (List.map T.Span.enc r))],1⟩) := by
 refine q2x.partial_correctness _ ?_
 rintro q2x ih74 ⟨a,b,i,data⟩ r; dsimp only
 apply it <;> intro h1
 ·refine bs fun v3 h2 => ?_
  obtain ⟨f1L,f1⟩ := ql3 _ _ h2
  try simp only [List.length_set] at f1L
  try simp only [en.down,f1L] at f1
  try simp only [f1L] at f1
  intro h; obtain ⟨f2L,f2⟩ := ih74 _ _ h; clear h
  try simp only [en.down,f1L] at f2
  try simp only [f1L] at f2
  clear ih74; exact ⟨by first | rfl | (simp only [List.length_set,f2L,f1L]; done),fL pg⟩
 rintro ⟨⟩
 clear ih74; exact ⟨by first | rfl | (simp only [List.length_set]; done),fL pg⟩
theorem qfz {a b r_ r} (h : q8r a b r_ = some r) : r.length = r_.length ∧ O.call 95 [v_r 0 r_,v_i a,v_i b,AV.pv (PV.fn 47)] [(0,Blk.row false 2 (List.map T.Span.enc r_))] = some (AV.tup [],[(0,Blk.row false 2 (List.map T.Span.enc r))]) := by
 revert h; unfold q8r
 refine bs fun v2 h1 => ?_
 obtain ⟨f1L,f1⟩ := qqd _ _ h1
 try simp only [List.length_set] at f1L
 try simp only [en.down,f1L] at f1
 try simp only [f1L] at f1
 rintro ⟨⟩
 exact ⟨by first | rfl | (simp only [List.length_set,f1L]; done),fF pg⟩
theorem zhz : ∀ p r,q5i p = some r → r.2.length = p.2.2.2.2.length ∧ O.loop 75 0 ⟨[(0,v_r 0 p.2.2.2.2),(1,v_i p.1),(2,AV.pv (PV.fn 47)),(6,v_i p.2.1),(7,v_i p.2.2.1),(8,v_i p.2.2.2.1)],[(0,Blk.row false 2 (List.map T.Span.enc p.2.2.2.2))],1⟩ = some (Ex.normal,⟨[(0,v_r 0 r.2),(1,v_i p.1),(2,AV.pv (PV.fn 47)),(6,v_i p.2.1),(7,v_i r.1)],[(0,Blk.row false 2 (List.map T.Span.enc r.2))],1⟩) := by
 refine q5i.partial_correctness _ ?_
 rintro q5i ih72 ⟨n,blockSize,a,b,data⟩ r; dsimp only
 apply it <;> intro h1
 ·refine bs fun v3 h2 => ?_
  obtain ⟨f1L,f1⟩ := qfz h2
  try simp only [List.length_set] at f1L
  try simp only [en.down,f1L] at f1
  try simp only [f1L] at f1
  intro h; obtain ⟨f2L,f2⟩ := ih72 _ _ h; clear h
  try simp only [en.down,f1L] at f2
  try simp only [f1L] at f2
  clear ih72; exact ⟨by first | rfl | (simp only [List.length_set,f2L,f1L]; done),fL ug⟩
 rintro ⟨⟩
 clear ih72; exact ⟨by first | rfl | (simp only [List.length_set]; done),fL ug⟩
theorem z1a {n blockSize a b data r} (h : qbo n blockSize a b data = some r) : O.loop 75 4 ⟨[(0,v_r 0 data),(1,v_i n),(2,AV.pv (PV.fn 47)),(6,v_i blockSize),(7,v_i a),(8,v_i b)],[(0,Blk.row false 2 (List.map T.Span.enc data))],1⟩ = some (Ex.normal,⟨[(0,v_r 0 data),(1,v_i n),(2,AV.pv (PV.fn 47)),(6,v_i blockSize),(7,v_i a)],[(0,Blk.row false 2 (List.map T.Span.enc data))],1⟩) := by
 revert h; unfold qbo
 apply it <;> intro h1
 ·rintro ⟨⟩
 rintro ⟨⟩
 exact fL ug
theorem qzv : ∀ p r,q4q p = some r → O.loop 75 2 ⟨[(0,v_r 0 p.2.2),(1,v_i p.1),(2,AV.pv (PV.fn 47)),(6,v_i p.2.1)],[(0,Blk.row false 2 (List.map T.Span.enc p.2.2))],1⟩ = some (Ex.normal,⟨[],[(0,Blk.row false 2 (List.map T.Span.enc p.2.2))],1⟩) := by
 refine q4q.partial_correctness _ ?_
 rintro q4q ih76 ⟨n,blockSize,data⟩ r; dsimp only
 apply it <;> intro h1
 ·refine bs fun v3 h2 => ?_
  have f1 := z1a h2
  try simp only [en.down] at f1
  apply it <;> intro h4
  ·rintro ⟨⟩
  intro h; have f2 := ih76 _ _ h; clear h
  try simp only [en.down] at f2
  clear ih76; exact fL ug
 rintro ⟨⟩
 clear ih76; exact fL ug
theorem zk6 {n r_ r} (h : q9c n r_ = some r) : r.length = r_.length ∧ O.call 75 [v_r 0 r_,v_i n,AV.pv (PV.fn 47)] [(0,Blk.row false 2 (List.map T.Span.enc r_))] = some (AV.tup [],[(0,Blk.row false 2 (List.map T.Span.enc r))]) := by
 revert h; unfold q9c
 refine bs fun v2 h1 => ?_
 obtain ⟨f1L,f1⟩ := zhz _ _ h1
 try simp only [List.length_set] at f1L
 try simp only [en.down,f1L] at f1
 refine bs fun v4 h3 => ?_
 obtain ⟨f2L,f2⟩ := qfz h3
 try simp only [List.length_set,f1L] at f2L
 try simp only [en.down,f1L,f2L] at f2
 refine bs fun v6 h5 => ?_
 have f3 := qzv _ _ h5
 try simp only [en.down,f1L,f2L] at f3
 try simp only [f1L,f2L] at f1 f2 f3
 rintro ⟨⟩
 exact ⟨by first | rfl | (simp only [List.length_set,f1L,f2L]; done),fF ug⟩
theorem qn1 {r_ r} (h : q70 r_ = some r) : r.length = r_.length ∧ O.call 46 [v_r 0 r_,AV.pv (PV.fn 47)] [(0,Blk.row false 2 (List.map T.Span.enc r_))] = some (AV.tup [],[(0,Blk.row false 2 (List.map T.Span.enc r))]) := by
 revert h; unfold q70
 refine bs fun v2 h1 => ?_
 obtain ⟨f1L,f1⟩ := zk6 h1
 try simp only [List.length_set] at f1L
 try simp only [en.down,f1L] at f1
 try simp only [f1L] at f1
 rintro ⟨⟩
 exact ⟨by first | rfl | (simp only [List.length_set,f1L]; done),fF qjb⟩
def qfk (in_ : (List T.Span)) : ((Bool) ⊕ (Unit)) → Ex × St
 | .inl y => (Ex.ret,⟨[(2,v_b y)],[(0,Blk.row false 2 (List.map T.Span.enc in_))],1⟩)
 | .inr y => (Ex.normal,⟨[(2,AV.undef)],[(0,Blk.row false 2 (List.map T.Span.enc in_))],1⟩)
attribute [local go_sem] qfk
theorem z9g : ∀ p r,q20 p = some r → O.loop 25 0 ⟨[(3,v_r 0 p.2.2),(10,v_r 0 p.2.2),(11,v_i p.1),(12,v_i p.2.1)],[(0,Blk.row false 2 (List.map T.Span.enc p.2.2))],1⟩ = some (qfk p.2.2 r) := by
 refine q20.partial_correctness _ ?_
 rintro q20 ih78 ⟨t11,t12,in_⟩ r; dsimp only
 apply it <;> intro h1
 ·refine bw T.Span.enc fun x3 h2 f1 f2 f3 => ?_
  apply it <;> intro h4
  ·rintro ⟨⟩
   clear ih78; exact fL ko
  apply it <;> intro h5
  ·refine bw T.Span.enc fun x7 h6 f4 f5 f6 => ?_
   apply it <;> intro h8
   ·rintro ⟨⟩
    clear ih78; exact fL ko
   apply it <;> intro h9
   ·rintro ⟨⟩
    clear ih78; exact fL ko
   intro h; have f7 := ih78 _ _ h; clear h
   try simp only [en.down] at f7
   clear ih78; exact fL ko
  intro h; have f8 := ih78 _ _ h; clear h
  try simp only [en.down] at f8
  clear ih78; exact fL ko
 rintro ⟨⟩
 clear ih78; exact fL ko
theorem z90 {l r} (h : q72 l = some r) : O.call 25 [v_l 2 T.Span.enc l] [] = some (v_b r,[]) := by
 revert h; unfold q72
 refine bs fun v2 h1 => ?_
 have f1 := zpc h1
 try simp only [en.down] at f1
 rcases v2 with y3 | y10
 ·dsimp only
  refine bs fun v5 h4 => ?_
  have f2 := qxh h4
  try simp only [en.down] at f2
  refine bs fun v7 h6 => ?_
  have f3 := z1c _ _ h6
  try simp only [en.down] at f3
  rcases v7 with y8 | y9
  ·dsimp only
   rintro ⟨⟩
   exact fF ko
  dsimp only
  rintro ⟨⟩
  exact fF ko
 dsimp only
 refine bs fun v12 h11 => ?_
 obtain ⟨f4L,f4⟩ := qn1 h11
 try simp only [List.length_set] at f4L
 try simp only [en.down,f4L] at f4
 refine bs fun v14 h13 => ?_
 have f5 := z9g _ _ h13
 try simp only [en.down,f4L] at f5
 rcases v14 with y15 | y16
 ·dsimp only
  try simp only [f4L] at f1 f4 f5
  rintro ⟨⟩
  exact fF ko
 dsimp only
 try simp only [f4L] at f1 f4 f5
 rintro ⟨⟩
 exact fF ko
theorem q1h {s r} (h : kv s = some r) : O.call 48 [v_g (T.Span.enc s)] [] = some (v_i r,[]) := by
 revert h; unfold kv
 rintro ⟨⟩
 exact fF zpv
theorem zq3 : ∀ p r,q43 p = some r → O.loop 27 0 ⟨[(0,v_i p.1),(7,v_l 3 T.qb.enc p.2.1),(8,v_i p.2.2.1),(9,v_i p.2.2.2)],[],0⟩ = some (Ex.normal,⟨[(0,v_i r)],[],0⟩) := by
 refine q43.partial_correctness _ ?_
 rintro q43 ih80 ⟨n,t7,t8,t9⟩ r; dsimp only
 apply it <;> intro h1
 ·refine bg T.qb.enc fun x3 h2 f1 f2 f3 => ?_
  refine bs fun v5 h4 => ?_
  have f4 := q1h h4
  try simp only [en.down] at f4
  intro h; have f5 := ih80 _ _ h; clear h
  try simp only [en.down] at f5
  clear ih80; exact fL qbk
 rintro ⟨⟩
 clear ih80; exact fL qbk
theorem zq7 {n es r} (h : q8y n es = some r) : O.call 27 [v_i n,v_l 3 T.qb.enc es] [] = some (v_i r,[]) := by
 revert h; unfold q8y
 refine bs fun v2 h1 => ?_
 have f1 := zq3 _ _ h1
 try simp only [en.down] at f1
 rintro ⟨⟩
 exact fF qbk
theorem zn8 {n es r} (h : q7r n es = some r) : O.call 12 [v_i n,v_l 3 T.qb.enc es] [] = some (v_i r,[]) := by
 revert h; unfold q7r
 refine bs fun v2 h1 => ?_
 have f1 := zlj _ _ h1
 try simp only [en.down] at f1
 rcases v2 with y3 | y4
 ·dsimp only
  rintro ⟨⟩
  exact fF q2v
 dsimp only
 refine bs fun v6 h5 => ?_
 have f2 := z9c h5
 try simp only [en.down] at f2
 refine bs fun v8 h7 => ?_
 have f3 := z90 h7
 try simp only [en.down] at f3
 apply it <;> intro h9
 ·rintro ⟨⟩
  exact fF q2v
 refine bs fun v11 h10 => ?_
 have f4 := zq7 h10
 try simp only [en.down] at f4
 apply it <;> intro h12
 ·rintro ⟨⟩
  exact fF q2v
 rintro ⟨⟩
 exact fF q2v
theorem qkw {s r} (h : qam s = some r) : O.call 145 [v_l 2 T.Row.enc s] [] = some (v_l 2 T.Row.enc r,[]) := by
 revert h; unfold qam
 apply it <;> intro h1
 ·rintro ⟨⟩
  exact fF qkk
 have f1 := q4c 2 T.Row.enc s.l
 refine gd fun h2 => ?_
 rintro ⟨⟩
 exact fF qkk
theorem qmc : (∀ p r,q3t p = some r → O.call 117 [v_g (T.Rx.enc p)] [] = some (v_g (T.Rx.enc r),[])) ∧ (∀ p r,q5f p = some r → O.loop 117 0 ⟨[(1,AV.ptr 0 0),(2,AV.ptr 1 0),(3,v_r 2 p.2.2.2.2.2),(11,v_l 8 T.Rx.enc p.1),(12,v_i p.2.1),(13,v_i p.2.2.1)],[(0,b_x (T.Rx.enc p.2.2.2.1)),(1,b_x (T.Rx.enc p.2.2.2.2.1)),(2,b_r 8 T.Rx.enc p.2.2.2.2.2)],3⟩ = some (Ex.normal,⟨[(1,AV.ptr 0 0),(2,AV.ptr 1 0),(3,v_r 2 r)],[(0,b_x (T.Rx.enc p.2.2.2.1)),(1,b_x (T.Rx.enc p.2.2.2.2.1)),(2,b_r 8 T.Rx.enc r)],3⟩)) := by
 refine q3t.mutual_partial_correctness _ _ ?_ ?_
 ·rintro q5f ih92 x r; try dsimp only
  refine bs fun v2 h1 => ?_
  have f1 := qkw h1
  try simp only [en.down] at f1
  refine bs fun v4 h3 => ?_
  have f2 := ih92 _ _ h3
  try simp only [en.down] at f2
  rintro ⟨⟩
  clear ih92; exact fF qdk
 ·rintro q3t q5f ih90 ih92 ⟨t11,t12,t13,x,t2,kids⟩ r; dsimp only
  apply it <;> intro h1
  ·refine bg T.Rx.enc fun x3 h2 f1 f2 f3 => ?_
   refine bs fun v5 h4 => ?_
   have f4 := ih90 _ _ h4
   try simp only [en.down] at f4
   refine gd fun h6 => ?_
   have f5 := rG 8 T.Rx.enc kids
   have f6 : List.map T.Rx.enc kids ++ [[PV.int IntKind.i64 v5.kind,PV.str v5.char,PV.bool v5.not,PV.sl v5.rows.nil (szc 2 v5.rows.l) (List.map T.Row.enc v5.rows.l),PV.int IntKind.i64 v5.min,PV.int IntKind.i64 v5.max,PV.bool v5.lazy,PV.sl v5.kids.nil (szc 8 v5.kids.l) (List.map T.Rx.enc v5.kids.l)]] = List.map T.Rx.enc (kids ++ [v5]) := by simp only [List.map_append,List.map_cons,List.map_nil,qx,qy,qw,T.Rx.qi] <;> rfl
   intro h; have f7 := ih92 _ _ h; clear h
   try simp only [en.down] at f7
   clear ih90 ih92; exact fL qdk
  rintro ⟨⟩
  clear ih90 ih92; exact fL qdk
theorem zmw {s r} (h : qa8 s = some r) : O.call 118 [v_l 5 T.Fmt.enc s] [] = some (v_l 5 T.Fmt.enc r,[]) := by
 revert h; unfold qa8
 apply it <;> intro h1
 ·rintro ⟨⟩
  exact fF qh3
 have f1 := q4c 5 T.Fmt.enc s.l
 refine gd fun h2 => ?_
 rintro ⟨⟩
 exact fF qh3
theorem zho {f r} (h : q79 f = some r) : O.call 92 [v_g (T.Form.enc f)] [] = some (v_g (T.Form.enc r),[]) := by
 revert h; unfold q79
 refine bs fun v2 h1 => ?_
 have f1 := qmc.1 _ _ h1
 try simp only [en.down] at f1
 refine bs fun v4 h3 => ?_
 have f2 := zmw h3
 try simp only [en.down] at f2
 rintro ⟨⟩
 exact fF zf5
theorem zp7 {s r} (h : q8d s = some r) : O.call 93 [v_l 1 zn s] [] = some (v_l 1 zn r,[]) := by
 revert h; unfold q8d
 apply it <;> intro h1
 ·rintro ⟨⟩
  exact fF qg5
 have f1 := q4c 1 zn s.l
 refine gd fun h2 => ?_
 rintro ⟨⟩
 exact fF qg5
theorem zaw : ∀ p r,q1u p = some r → O.loop 72 2 ⟨[(1,AV.ptr 0 0),(2,AV.ptr 1 0),(3,v_r 2 p.2.2.2.2.2.2.2.2.1),(5,AV.ptr 3 0),(6,v_r 4 p.2.2.2.2.2.2.2.2.2.2),(10,v_l 3 T.qa.enc p.1),(11,v_i p.2.1),(12,v_i p.2.2.1),(17,v_l 18 T.Stop.enc p.2.2.2.1),(18,v_i p.2.2.2.2.1),(19,v_i p.2.2.2.2.2.1)],[(0,b_x (T.qf.enc p.2.2.2.2.2.2.1)),(1,b_x (T.qf.enc p.2.2.2.2.2.2.2.1)),(2,b_r 3 T.qa.enc p.2.2.2.2.2.2.2.2.1),(3,b_x (T.qa.enc p.2.2.2.2.2.2.2.2.2.1)),(4,b_r 18 T.Stop.enc p.2.2.2.2.2.2.2.2.2.2)],5⟩ = some (Ex.normal,⟨[(1,AV.ptr 0 0),(2,AV.ptr 1 0),(3,v_r 2 p.2.2.2.2.2.2.2.2.1),(5,AV.ptr 3 0),(6,v_r 4 r),(10,v_l 3 T.qa.enc p.1),(11,v_i p.2.1),(12,v_i p.2.2.1)],[(0,b_x (T.qf.enc p.2.2.2.2.2.2.1)),(1,b_x (T.qf.enc p.2.2.2.2.2.2.2.1)),(2,b_r 3 T.qa.enc p.2.2.2.2.2.2.2.2.1),(3,b_x (T.qa.enc p.2.2.2.2.2.2.2.2.2.1)),(4,b_r 18 T.Stop.enc r)],5⟩) := by
 refine q1u.partial_correctness _ ?_
 rintro q1u ih88 ⟨t10,t11,t12,t17,t18,t19,s,t2,insts,i,all_⟩ r; dsimp only
 apply it <;> intro h1
 ·refine bg T.Stop.enc fun x3 h2 f1 f2 f3 => ?_
  refine bs fun v5 h4 => ?_
  have f4 := zho h4
  try simp only [en.down] at f4
  refine bs fun v7 h6 => ?_
  have f5 := zp7 h6
  try simp only [en.down] at f5
  refine gd fun h8 => ?_
  have f6 := rG 18 T.Stop.enc all_
  have f7 : List.map T.Stop.enc all_ ++ [[PV.int IntKind.i64 x3.span.frm,PV.int IntKind.i64 x3.span.to,PV.int IntKind.i64 x3.n,PV.int IntKind.i64 x3.up,PV.bool x3.first,PV.bool x3.turned,PV.int IntKind.i64 v5.rx.kind,PV.str v5.rx.char,PV.bool v5.rx.not,PV.sl v5.rx.rows.nil (szc 2 v5.rx.rows.l) (List.map T.Row.enc v5.rx.rows.l),PV.int IntKind.i64 v5.rx.min,PV.int IntKind.i64 v5.rx.max,PV.bool v5.rx.lazy,PV.sl v5.rx.kids.nil (szc 8 v5.rx.kids.l) (List.map T.Rx.enc v5.rx.kids.l),PV.sl v5.fmts.nil (szc 5 v5.fmts.l) (List.map T.Fmt.enc v5.fmts.l),PV.bool v5.fold,PV.bool v5.all,PV.sl v7.nil (szc 1 v7.l) (List.map zn v7.l)]] = List.map T.Stop.enc (all_ ++ [(T.Stop.mk x3.span x3.n x3.up x3.first x3.turned v5 v7)]) := by simp only [List.map_append,List.map_cons,List.map_nil,qx,qy,qw,T.Stop.qi] <;> rfl
  intro h; have f8 := ih88 _ _ h; clear h
  try simp only [en.down] at f8
  clear ih88; exact fL q88
 rintro ⟨⟩
 clear ih88; exact fL q88
theorem qo0 : ∀ p r,q3k p = some r → O.loop 72 0 ⟨[(1,AV.ptr 0 0),(2,AV.ptr 1 0),(3,v_r 2 p.2.2.2.2.2),(10,v_l 3 T.qa.enc p.1),(11,v_i p.2.1),(12,v_i p.2.2.1)],[(0,b_x (T.qf.enc p.2.2.2.1)),(1,b_x (T.qf.enc p.2.2.2.2.1)),(2,b_r 3 T.qa.enc p.2.2.2.2.2)],3⟩ = some (Ex.normal,⟨[(1,AV.ptr 0 0),(2,AV.ptr 1 0),(3,v_r 2 r)],[(0,b_x (T.qf.enc p.2.2.2.1)),(1,b_x (T.qf.enc p.2.2.2.2.1)),(2,b_r 3 T.qa.enc r)],3⟩) := by
 refine q3k.partial_correctness _ ?_
 rintro q3k ih87 ⟨t10,t11,t12,s,t2,insts⟩ r; dsimp only
 apply it <;> intro h1
 ·refine bg T.qa.enc fun x3 h2 f1 f2 f3 => ?_
  refine bs fun v5 h4 => ?_
  have f4 := zaw _ _ h4
  try simp only [en.down] at f4
  refine gd fun h6 => ?_
  have f5 := rG 3 T.qa.enc insts
  have f6 : List.map T.qa.enc insts ++ [[PV.int IntKind.i64 x3.span.frm,PV.int IntKind.i64 x3.span.to,PV.sl v5.isEmpty (szc 18 v5) (List.map T.Stop.enc v5)]] = List.map T.qa.enc (insts ++ [(T.qa.mk x3.span (⟨v5.isEmpty,v5⟩ : (Sl T.Stop)))]) := by simp only [List.map_append,List.map_cons,List.map_nil,qx,qy,qw,T.qa.qi] <;> rfl
  intro h; have f7 := ih87 _ _ h; clear h
  try simp only [en.down] at f7
  clear ih87; exact fL q88
 rintro ⟨⟩
 clear ih87; exact fL q88
theorem qgq {s r} (h : q55 s = some r) : O.call 72 [v_g (T.qf.enc s)] [] = some (v_g (T.qf.enc r),[]) := by
 revert h; unfold q55
 refine bs fun v2 h1 => ?_
 have f1 := qo0 _ _ h1
 try simp only [en.down] at f1
 rintro ⟨⟩
 exact fF q88
theorem z8o : ∀ p r,q1i p = some r → O.loop 58 2 ⟨[(2,AV.ptr 1 0),(3,AV.ptr 2 0),(6,v_r 5 p.2.2.2.2.2.2.2.2.2.2.2),(12,v_l 3 T.qa.enc p.1),(13,v_i p.2.1),(14,v_i p.2.2.1),(23,v_i p.2.2.2.1),(24,v_i p.2.2.2.2.1)],[(0,b_x (T.qf.enc p.2.2.2.2.2.1)),(1,b_x (T.qc.enc p.2.2.2.2.2.2.1)),(2,Blk.box [v_i p.2.2.2.2.2.2.2.1,v_l 3 T.qa.enc p.2.2.2.2.2.2.2.2.1,v_r 3 p.2.2.2.2.2.2.2.2.2.1]),(3,b_r 1 (slE 2 T.qd.enc) p.2.2.2.2.2.2.2.2.2.1),(4,b_x (T.qa.enc p.2.2.2.2.2.2.2.2.2.2.1)),(5,Blk.row false 2 (List.map T.qd.enc p.2.2.2.2.2.2.2.2.2.2.2))],6⟩ = some (Ex.normal,⟨[(2,AV.ptr 1 0),(3,AV.ptr 2 0),(6,v_r 5 r),(12,v_l 3 T.qa.enc p.1),(13,v_i p.2.1),(14,v_i p.2.2.1)],[(0,b_x (T.qf.enc p.2.2.2.2.2.1)),(1,b_x (T.qc.enc p.2.2.2.2.2.2.1)),(2,Blk.box [v_i p.2.2.2.2.2.2.2.1,v_l 3 T.qa.enc p.2.2.2.2.2.2.2.2.1,v_r 3 p.2.2.2.2.2.2.2.2.2.1]),(3,b_r 1 (slE 2 T.qd.enc) p.2.2.2.2.2.2.2.2.2.1),(4,b_x (T.qa.enc p.2.2.2.2.2.2.2.2.2.2.1)),(5,Blk.row false 2 (List.map T.qd.enc r))],6⟩) := by
 refine q1i.partial_correctness _ ?_
 rintro q1i ih96 ⟨t12,t13,t14,t23,t24,b0_,t2,out,out2,r3_,b4_,marks⟩ r; dsimp only
 apply it <;> intro h1
 ·refine bw T.qd.enc fun x3 h2 f1 f2 f3 => ?_
  have f4 := map_set T.qd.enc marks t24.toNat (T.qd.mk t24 x3.held)
  try simp only [en.down] at f4
  intro h; have f5 := ih96 _ _ h; clear h
  try simp only [en.down] at f5
  clear ih96; exact fL q7f
 rintro ⟨⟩
 clear ih96; exact fL q7f
theorem qt4 : ∀ p r,q47 p = some r → O.loop 58 0 ⟨[(2,AV.ptr 1 0),(3,AV.ptr 2 0),(12,v_l 3 T.qa.enc p.1),(13,v_i p.2.1),(14,v_i p.2.2.1)],[(0,b_x (T.qf.enc p.2.2.2.1)),(1,b_x (T.qc.enc p.2.2.2.2.1)),(2,Blk.box [v_i p.2.2.2.2.2.1,v_l 3 T.qa.enc p.2.2.2.2.2.2.1,v_r 3 p.2.2.2.2.2.2.2]),(3,b_r 1 (slE 2 T.qd.enc) p.2.2.2.2.2.2.2)],4⟩ = some (Ex.normal,⟨[(2,AV.ptr 1 0),(3,AV.ptr 2 0)],[(0,b_x (T.qf.enc p.2.2.2.1)),(1,b_x (T.qc.enc p.2.2.2.2.1)),(2,Blk.box [v_i p.2.2.2.2.2.1,v_l 3 T.qa.enc p.2.2.2.2.2.2.1,v_r 3 r]),(3,b_r 1 (slE 2 T.qd.enc) r)],4⟩) := by
 refine q47.partial_correctness _ ?_
 rintro q47 ih95 ⟨t12,t13,t14,b0_,t2,out,out2,r3_⟩ r; dsimp only
 apply it <;> intro h1
 ·refine bg T.qa.enc fun x3 h2 f1 f2 f3 => ?_
  refine gd fun h4 => ?_
  have f4 := q1j IntKind.i64 h4
  refine gd fun h5 => ?_
  have f5 : List.replicate (x3.stops.l.length : Int).toNat [PV.int IntKind.i64 (0 : Int),PV.bool false] = List.map T.qd.enc (List.replicate (x3.stops.l.length : Int).toNat (T.qd.mk (0 : Int) false)) := by rw [List.map_replicate]; rfl
  refine bs fun v7 h6 => ?_
  have f6 := z8o _ _ h6
  try simp only [en.down] at f6
  refine gd fun h8 => ?_
  have f7 := rG 1 (slE 2 T.qd.enc) r3_
  have f8 : List.map (slE 2 T.qd.enc) r3_ ++ [[PV.sl false (szc 2 v7) (List.map T.qd.enc v7)]] = List.map (slE 2 T.qd.enc) (r3_ ++ [(⟨false,v7⟩ : (Sl T.qd))]) := by simp only [List.map_append,List.map_cons,List.map_nil,qx,qy,qw,T.qd.qi,slE] <;> rfl
  intro h; have f9 := ih95 _ _ h; clear h
  try simp only [en.down] at f9
  clear ih95; exact fL q7f
 rintro ⟨⟩
 clear ih95; exact fL q7f
theorem qe8 {s r} (h : q5t s = some r) : O.call 58 [v_g (T.qf.enc s)] [] = some (v_g (T.qc.enc r),[]) := by
 revert h; unfold q5t
 refine bs fun v2 h1 => ?_
 have f1 := qgq h1
 try simp only [en.down] at f1
 refine bs fun v4 h3 => ?_
 have f2 := qt4 _ _ h3
 try simp only [en.down] at f2
 rintro ⟨⟩
 exact fF q7f
theorem zh5 {s b b_2 r_ r} (h : qct s b b_2 r_ = some r) : O.call 35 [AV.ptr 0 0,v_g (T.qf.enc s)] [(0,Blk.box [v_s b,v_l 2 T.Sel.enc b_2,v_r 1 r_]),(1,b_r 3 T.qc.enc r_)] = some (AV.tup [],[(0,Blk.box [v_s b,v_l 2 T.Sel.enc b_2,v_r 1 r]),(1,b_r 3 T.qc.enc r)]) := by
 revert h; unfold qct
 refine bs fun v2 h1 => ?_
 have f1 := qe8 h1
 try simp only [en.down] at f1
 refine gd fun h3 => ?_
 have f2 := rG 3 T.qc.enc r_
 have f3 : List.map T.qc.enc r_ ++ [[PV.int IntKind.i64 v2.session.cur,PV.sl v2.session.insts.nil (szc 3 v2.session.insts.l) (List.map T.qa.enc v2.session.insts.l),PV.sl v2.marks.nil (szc 1 v2.marks.l) (List.map (slE 2 T.qd.enc) v2.marks.l)]] = List.map T.qc.enc (r_ ++ [v2]) := by simp only [List.map_append,List.map_cons,List.map_nil,qx,qy,qw,T.qc.qi] <;> rfl
 rintro ⟨⟩
 exact fF qf6
theorem zly : ∀ p r,q8q p = some r → O.loop 17 0 ⟨[(3,AV.ptr 1 0),(14,v_l 2 T.qf.enc p.1),(15,v_i p.2.1),(16,v_i p.2.2.1)],[(0,b_x (T.State.enc p.2.2.2.1)),(1,Blk.box [v_s p.2.2.2.2.1,v_l 2 T.Sel.enc p.2.2.2.2.2.1,v_r 2 p.2.2.2.2.2.2]),(2,b_r 3 T.qc.enc p.2.2.2.2.2.2)],3⟩ = some (Ex.normal,⟨[(3,AV.ptr 1 0)],[(0,b_x (T.State.enc p.2.2.2.1)),(1,Blk.box [v_s p.2.2.2.2.1,v_l 2 T.Sel.enc p.2.2.2.2.2.1,v_r 2 r]),(2,b_r 3 T.qc.enc r)],3⟩) := by
 refine q8q.partial_correctness _ ?_
 rintro q8q ih83 ⟨t14,t15,t16,b0_,w,w2,r2_⟩ r; dsimp only
 apply it <;> intro h1
 ·refine bg T.qf.enc fun x3 h2 f1 f2 f3 => ?_
  refine bs fun v5 h4 => ?_
  have f4 := zh5 h4
  try simp only [en.down] at f4
  intro h; have f5 := ih83 _ _ h; clear h
  try simp only [en.down] at f5
  clear ih83; exact fL q6i
 rintro ⟨⟩
 clear ih83; exact fL q6i
end Go.Proofs.YtkbgphcebakcnaaGreat
