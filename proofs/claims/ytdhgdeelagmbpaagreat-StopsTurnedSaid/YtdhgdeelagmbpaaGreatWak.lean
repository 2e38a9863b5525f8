/-
  What the machine's calls come to: the plain functions.
-/
import Derived.Test.YtdhgdeelagmbpaaGreatWaj
set_option linter.unusedSimpArgs false
set_option linter.unusedVariables false
set_option maxRecDepth 100000
namespace Go.Proofs.YtdhgdeelagmbpaaGreat
open Go Go.Gm
set_option maxHeartbeats 4000000
theorem zhk {at_ b r_ r_2 r} (h : qbg at_ b r_ r_2 = some r) : O.call 37 [AV.ptr 0 0,v_i at_] [(0,Blk.box [v_s b,v_r 1 r_,v_r 2 r_2]),(1,Blk.row false 18 (List.map T.qb.enc r_)),(2,Blk.row false 1 (List.map qg r_2))] = some (AV.tup [v_g (T.qb.enc r.1),v_i r.2.1,v_b r.2.2],[(0,Blk.box [v_s b,v_r 1 r_,v_r 2 r_2]),(1,Blk.row false 18 (List.map T.qb.enc r_)),(2,Blk.row false 1 (List.map qg r_2))]) := by
 revert h; unfold qbg
 refine bs fun v2 h1 => ?_
 have f1 := qli h1
 try simp only [en.down] at f1
 apply it <;> intro h3
 ·try simp only [h3] at f1
  rintro ⟨⟩
  exact fF q2r
 apply it <;> intro h4
 ·try simp only [h3] at f1
  rintro ⟨⟩
  exact fF q2r
 refine bc fun b6 h5 f2 f3 => ?_
 apply it <;> intro h7
 ·try simp only [h3] at f1
  rintro ⟨⟩
  exact fF q2r
 refine bs fun v9 h8 => ?_
 have f4 := qli h8
 try simp only [en.down] at f4
 refine xe ?_ (fun h10 h11 => ?_)
 ·rintro (⟨h10,h11⟩ | ⟨h10,h11⟩)
  all_goals
  try simp only [h3] at f1 f4
  rintro ⟨⟩
  exact fF q2r
 refine bc fun b13 h12 f5 f6 => ?_
 apply it <;> intro h14
 ·try simp only [h3] at f1 f4
  rintro ⟨⟩
  exact fF q2r
 apply it <;> intro h15
 ·refine bs fun v17 h16 => ?_
  have f7 := qms h16
  try simp only [en.down] at f7
  try simp only [h3] at f1 f4 f7
  rintro ⟨⟩
  exact fF q2r
 apply it <;> intro h18
 ·refine bs fun v20 h19 => ?_
  have f8 := zni h19
  try simp only [en.down] at f8
  try simp only [h3] at f1 f4 f8
  rintro ⟨⟩
  exact fF q2r
 refine zl (fun h21 h22 => ?_) ?_
 ·refine bs fun v24 h23 => ?_
  have f9 := zs8 h23
  try simp only [en.down] at f9
  refine zl (fun h25 h26 => ?_) ?_
  ·refine bc fun b28 h27 f10 f11 => ?_
   try simp only [h3] at f1 f4 f9
   rintro ⟨⟩
   exact fF q2r
  rintro (⟨h25,h26⟩ | ⟨h25,h26⟩)
  all_goals
  try simp only [h3] at f1 f4 f9
  rintro ⟨⟩
  exact fF q2r
 rintro (⟨h21,h22⟩ | ⟨h21,h22⟩)
 all_goals
 try simp only [h3] at f1 f4
 rintro ⟨⟩
 exact fF q2r
theorem zcb : ∀ p r,q44 p = some r → O.loop 19 0 ⟨[(0,v_s p.1),(4,AV.ptr 2 0),(5,v_i p.2.1)],[(0,Blk.row false 18 (List.map T.qb.enc p.2.2.1)),(1,Blk.row false 1 (List.map qg p.2.2.2.1)),(2,Blk.box [v_s p.2.2.2.2,v_r 0 p.2.2.1,v_r 1 p.2.2.2.1])],3⟩ = some (Ex.normal,⟨[(4,AV.ptr 2 0)],[(0,Blk.row false 18 (List.map T.qb.enc r.1)),(1,Blk.row false 1 (List.map qg r.2)),(2,Blk.box [v_s p.2.2.2.2,v_r 0 r.1,v_r 1 r.2])],3⟩) := by
 refine q44.partial_correctness _ ?_
 rintro q44 ih3 ⟨s,at_,r0_,r1_,r_⟩ r; dsimp only
 apply it <;> intro h1
 ·refine bc fun b3 h2 f1 f2 => ?_
  apply it <;> intro h4
  ·refine bs fun v6 h5 => ?_
   have f3 := zhk h5
   try simp only [en.down] at f3
   apply it <;> intro h7
   ·refine bw T.qb.enc fun x9 h8 f4 f5 f6 => ?_
    have f7 := map_set T.qb.enc r0_ at_.toNat v6.1
    try simp only [en.down] at f7
    refine bw qg fun x11 h10 f8 f9 f10 => ?_
    have f11 := map_set qg r1_ at_.toNat v6.2.1
    try simp only [en.down] at f11
    try simp only [h7] at f3 f7 f11
    intro h; have f12 := ih3 _ _ h; clear h
    try simp only [en.down] at f12
    try simp only [h7] at f12
    clear ih3; exact fL q6j
   try simp only [h7] at f3
   intro h; have f13 := ih3 _ _ h; clear h
   try simp only [en.down] at f13
   try simp only [h7] at f13
   clear ih3; exact fL q6j
  intro h; have f14 := ih3 _ _ h; clear h
  try simp only [en.down] at f14
  clear ih3; exact fL q6j
 rintro ⟨⟩
 clear ih3; exact fL q6j
theorem qmb : (∀ p r,q4q p = some r → O.call 39 [v_l 18 T.qb.enc p] [] = some (v_i r,[])) ∧ (∀ p r,q3j p = some r → O.loop 39 0 ⟨[(0,v_l 18 T.qb.enc p.1),(3,v_i p.2.1),(4,v_i p.2.2)],[],0⟩ = some (Ex.normal,⟨[(3,v_i r)],[],0⟩)) := by
 refine q4q.mutual_partial_correctness _ _ ?_ ?_
 ·rintro q3j ih65 l r; try dsimp only
  refine bs fun v2 h1 => ?_
  have f1 := ih65 _ _ h1
  try simp only [en.down] at f1
  rintro ⟨⟩
  clear ih65; exact fF qck
 ·rintro q4q q3j ih64 ih65 ⟨l,n,i⟩ r; dsimp only
  apply it <;> intro h1
  ·refine bg T.qb.enc fun x3 h2 f1 f2 f3 => ?_
   refine bs fun v5 h4 => ?_
   have f4 := ih64 _ _ h4
   try simp only [en.down] at f4
   apply it <;> intro h6
   ·try simp only [h6] at f4
    intro h; have f5 := ih65 _ _ h; clear h
    try simp only [en.down] at f5
    try simp only [h6] at f5
    clear ih64 ih65; exact fL qck
   try simp only [h6] at f4
   intro h; have f6 := ih65 _ _ h; clear h
   try simp only [en.down] at f6
   try simp only [h6] at f6
   clear ih64 ih65; exact fL qck
  rintro ⟨⟩
  clear ih64 ih65; exact fL qck
theorem zqp {s r} (h : qbu s = some r) : O.call 19 [v_s s] [] = some (AV.tup [v_l 18 T.qb.enc r.1,v_i r.2],[]) := by
 revert h; unfold qbu
 apply it <;> intro h1
 ·rintro ⟨⟩
  exact fF q6j
 refine gd fun h2 => ?_
 have f1 := qhs IntKind.i64 h2
 refine gd fun h3 => ?_
 have f2 : List.replicate (s.length : Int).toNat [PV.int IntKind.i64 (0 : Int),PV.str ([] : Bytes),PV.int IntKind.i64 (0 : Int),PV.bool false,PV.bool false,PV.int IntKind.i64 (0 : Int),PV.str ([] : Bytes),PV.bool false,PV.sl true 0 [],PV.int IntKind.i64 (0 : Int),PV.int IntKind.i64 (0 : Int),PV.bool false,PV.sl true 0 [],PV.sl true 0 [],PV.bool false,PV.bool false,PV.sl true 0 [],PV.sl true 0 []] = List.map T.qb.enc (List.replicate (s.length : Int).toNat (T.qb.mk (0 : Int) ([] : Bytes) (0 : Int) false false (T.Form.mk (T.Rx.mk (0 : Int) ([] : Bytes) false (⟨true,[]⟩ : (Sl T.Row)) (0 : Int) (0 : Int) false (⟨true,[]⟩ : (Sl T.Rx))) (⟨true,[]⟩ : (Sl T.Fmt)) false false) (⟨true,[]⟩ : (Sl Bytes)) (⟨true,[]⟩ : (Sl T.qb)))) := by rw [List.map_replicate]; rfl
 refine gd fun h4 => ?_
 have f3 := qhs IntKind.i64 h4
 refine gd fun h5 => ?_
 have f4 : List.replicate (s.length : Int).toNat [PV.int IntKind.i64 (0 : Int)] = List.map qg (List.replicate (s.length : Int).toNat (0 : Int)) := by rw [List.map_replicate]; rfl
 refine bs fun v7 h6 => ?_
 have f5 := zcb _ _ h6
 try simp only [en.down] at f5
 refine bs fun v9 h8 => ?_
 have f6 := qms h8
 try simp only [en.down] at f6
 refine bs fun v11 h10 => ?_
 have f7 := qmb.1 _ _ h10
 try simp only [en.down] at f7
 apply it <;> intro h12
 ·rintro ⟨⟩
  exact fF q6j
 rintro ⟨⟩
 exact fF q6j
def qj1 (a : T.Rx) (b : T.Rx) : ((Bool) ⊕ (Unit)) → Ex × St
 | .inl y => (Ex.ret,⟨[(2,AV.ptr 0 0),(3,AV.ptr 1 0),(4,v_b y)],[(0,b_x (T.Rx.enc a)),(1,b_x (T.Rx.enc b))],2⟩)
 | .inr y => (Ex.normal,⟨[(2,AV.ptr 0 0),(3,AV.ptr 1 0),(4,AV.undef)],[(0,b_x (T.Rx.enc a)),(1,b_x (T.Rx.enc b))],2⟩)
attribute [local go_sem] qj1
theorem z3j : ∀ p r,q91 p = some r → O.loop 100 0 ⟨[(2,AV.ptr 0 0),(3,AV.ptr 1 0),(5,v_i p.1)],[(0,b_x (T.Rx.enc p.2.1)),(1,b_x (T.Rx.enc p.2.2))],2⟩ = some (qj1 p.2.1 p.2.2 r) := by
 refine q91.partial_correctness _ ?_
 rintro q91 ih72 ⟨i,a,b⟩ r; dsimp only
 apply it <;> intro h1
 ·refine bg T.Row.enc fun x3 h2 f1 f2 f3 => ?_
  refine bg T.Row.enc fun x5 h4 f4 f5 f6 => ?_
  apply it <;> intro h6
  ·rintro ⟨⟩
   clear ih72; exact fL q2f
  intro h; have f7 := ih72 _ _ h; clear h
  try simp only [en.down] at f7
  clear ih72; exact fL q2f
 rintro ⟨⟩
 clear ih72; exact fL q2f
def qlp (a : T.Rx) (b : T.Rx) : ((Bool) ⊕ (Unit)) → Ex × St
 | .inl y => (Ex.ret,⟨[(4,v_b y)],[(0,b_x (T.Rx.enc a)),(1,b_x (T.Rx.enc b))],2⟩)
 | .inr y => (Ex.normal,⟨[(4,AV.undef)],[(0,b_x (T.Rx.enc a)),(1,b_x (T.Rx.enc b))],2⟩)
attribute [local go_sem] qlp
theorem zo1 : (∀ p r,q62 p = some r → O.call 100 [v_g (T.Rx.enc p.1),v_g (T.Rx.enc p.2)] [] = some (v_b r,[])) ∧ (∀ p r,q7r p = some r → O.loop 100 2 ⟨[(2,AV.ptr 0 0),(3,AV.ptr 1 0),(6,v_i p.1)],[(0,b_x (T.Rx.enc p.2.1)),(1,b_x (T.Rx.enc p.2.2))],2⟩ = some (qlp p.2.1 p.2.2 r)) := by
 refine q62.mutual_partial_correctness _ _ ?_ ?_
 ·rintro q7r ih73 ⟨a,b⟩ r; dsimp only
  refine zg7 ?_ (fun h1 h2 h3 h4 h5 h6 h7 h8 => ?_)
  ·rintro (⟨h1,h2,h3,h4,h5,h6,h7,h8⟩ | ⟨h1,h2,h3,h4,h5,h6,h7,h8⟩ | ⟨h1,h2,h3,h4,h5,h6,h7,h8⟩ | ⟨h1,h2,h3,h4,h5,h6,h7,h8⟩ | ⟨h1,h2,h3,h4,h5,h6,h7,h8⟩ | ⟨h1,h2,h3,h4,h5,h6,h7,h8⟩ | ⟨h1,h2,h3,h4,h5,h6,h7,h8⟩ | ⟨h1,h2,h3,h4,h5,h6,h7,h8⟩)
   all_goals
   rintro ⟨⟩
   clear ih73; exact fF q2f
  refine bs fun v10 h9 => ?_
  have f1 := z3j _ _ h9
  try simp only [en.down] at f1
  rcases v10 with y11 | y12
  ·dsimp only
   rintro ⟨⟩
   clear ih73; exact fF q2f
  dsimp only
  refine bs fun v14 h13 => ?_
  have f2 := ih73 _ _ h13
  try simp only [en.down] at f2
  rcases v14 with y15 | y16
  ·dsimp only
   rintro ⟨⟩
   clear ih73; exact fF q2f
  dsimp only
  rintro ⟨⟩
  clear ih73; exact fF q2f
 ·rintro q62 q7r ih71 ih73 ⟨i,a,b⟩ r; dsimp only
  apply it <;> intro h1
  ·refine bg T.Rx.enc fun x3 h2 f1 f2 f3 => ?_
   refine bg T.Rx.enc fun x5 h4 f4 f5 f6 => ?_
   refine bs fun v7 h6 => ?_
   have f7 := ih71 _ _ h6
   try simp only [en.down] at f7
   apply it <;> intro h8
   ·rintro ⟨⟩
    clear ih71 ih73; exact fL q2f
   intro h; have f8 := ih73 _ _ h; clear h
   try simp only [en.down] at f8
   clear ih71 ih73; exact fL q2f
  rintro ⟨⟩
  clear ih71 ih73; exact fL q2f
def qkc (a : T.Form) (b : T.Form) : ((Bool) ⊕ (Unit)) → Ex × St
 | .inl y => (Ex.ret,⟨[(4,v_b y)],[(0,b_x (T.Form.enc a)),(1,b_x (T.Form.enc b))],2⟩)
 | .inr y => (Ex.normal,⟨[(4,AV.undef)],[(0,b_x (T.Form.enc a)),(1,b_x (T.Form.enc b))],2⟩)
attribute [local go_sem] qkc
theorem zdm : ∀ p r,q8a p = some r → O.loop 75 0 ⟨[(2,AV.ptr 0 0),(3,AV.ptr 1 0),(5,v_i p.1)],[(0,b_x (T.Form.enc p.2.1)),(1,b_x (T.Form.enc p.2.2))],2⟩ = some (qkc p.2.1 p.2.2 r) := by
 refine q8a.partial_correctness _ ?_
 rintro q8a ih74 ⟨i,a,b⟩ r; dsimp only
 apply it <;> intro h1
 ·refine bg T.Fmt.enc fun x3 h2 f1 f2 f3 => ?_
  refine bg T.Fmt.enc fun x5 h4 f4 f5 f6 => ?_
  apply it <;> intro h6
  ·rintro ⟨⟩
   clear ih74; exact fL q8f
  intro h; have f7 := ih74 _ _ h; clear h
  try simp only [en.down] at f7
  clear ih74; exact fL q8f
 rintro ⟨⟩
 clear ih74; exact fL q8f
theorem qex {a b r} (h : q6n a b = some r) : O.call 75 [v_g (T.Form.enc a),v_g (T.Form.enc b)] [] = some (v_b r,[]) := by
 revert h; unfold q6n
 refine bs fun v2 h1 => ?_
 have f1 := zo1.1 _ _ h1
 try simp only [en.down] at f1
 refine qfb ?_ (fun h3 h4 h5 h6 => ?_)
 ·rintro (⟨h3,h4,h5,h6⟩ | ⟨h3,h4,h5,h6⟩ | ⟨h3,h4,h5,h6⟩ | ⟨h3,h4,h5,h6⟩)
  all_goals
  rintro ⟨⟩
  exact fF q8f
 refine bs fun v8 h7 => ?_
 have f2 := zdm _ _ h7
 try simp only [en.down] at f2
 rcases v8 with y9 | y10
 ·dsimp only
  rintro ⟨⟩
  exact fF q8f
 dsimp only
 rintro ⟨⟩
 exact fF q8f
theorem z3k : (∀ p r,q5r p = some r → O.call 130 [v_g (T.Rx.enc p)] [] = some (v_i r,[])) ∧ (∀ p r,q50 p = some r → O.loop 130 0 ⟨[(1,AV.ptr 0 0),(3,v_i p.1),(4,v_i p.2.1)],[(0,b_x (T.Rx.enc p.2.2))],1⟩ = some (Ex.normal,⟨[(3,v_i r)],[(0,b_x (T.Rx.enc p.2.2))],1⟩)) := by
 refine q5r.mutual_partial_correctness _ _ ?_ ?_
 ·rintro q50 ih79 x r; try dsimp only
  refine bs fun v2 h1 => ?_
  have f1 := ih79 _ _ h1
  try simp only [en.down] at f1
  rintro ⟨⟩
  clear ih79; exact fF qgd
 ·rintro q5r q50 ih78 ih79 ⟨n,i,x⟩ r; dsimp only
  apply it <;> intro h1
  ·refine bg T.Rx.enc fun x3 h2 f1 f2 f3 => ?_
   refine bs fun v5 h4 => ?_
   have f4 := ih78 _ _ h4
   try simp only [en.down] at f4
   intro h; have f5 := ih79 _ _ h; clear h
   try simp only [en.down] at f5
   clear ih78 ih79; exact fL qgd
  rintro ⟨⟩
  clear ih78 ih79; exact fL qgd
theorem zju : (∀ p r,q4n p = some r → O.call 131 [v_g (T.Rx.enc p)] [] = some (v_i r,[])) ∧ (∀ p r,q58 p = some r → O.loop 131 0 ⟨[(1,AV.ptr 0 0),(3,v_i p.1),(4,v_i p.2.1)],[(0,b_x (T.Rx.enc p.2.2))],1⟩ = some (Ex.normal,⟨[(1,AV.ptr 0 0),(3,v_i r)],[(0,b_x (T.Rx.enc p.2.2))],1⟩)) := by
 refine q4n.mutual_partial_correctness _ _ ?_ ?_
 ·rintro q58 ih81 x r; try dsimp only
  refine bs fun v2 h1 => ?_
  have f1 := ih81 _ _ h1
  try simp only [en.down] at f1
  refine xe ?_ (fun h3 h4 => ?_)
  ·rintro (⟨h3,h4⟩ | ⟨h3,h4⟩)
   all_goals
   rintro ⟨⟩
   clear ih81; exact fF qco
  rintro ⟨⟩
  clear ih81; exact fF qco
 ·rintro q4n q58 ih80 ih81 ⟨n,i,x⟩ r; dsimp only
  apply it <;> intro h1
  ·refine bg T.Rx.enc fun x3 h2 f1 f2 f3 => ?_
   refine bs fun v5 h4 => ?_
   have f4 := ih80 _ _ h4
   try simp only [en.down] at f4
   intro h; have f5 := ih81 _ _ h; clear h
   try simp only [en.down] at f5
   clear ih80 ih81; exact fL qco
  rintro ⟨⟩
  clear ih80 ih81; exact fL qco
def qk9 (n : Int) (x : T.Rx) : ((Bool) ⊕ (Unit)) → Ex × St
 | .inl y => (Ex.ret,⟨[(1,AV.ptr 0 0),(2,v_b y),(3,v_i n)],[(0,b_x (T.Rx.enc x))],1⟩)
 | .inr y => (Ex.normal,⟨[(1,AV.ptr 0 0),(2,AV.undef),(3,v_i n)],[(0,b_x (T.Rx.enc x))],1⟩)
attribute [local go_sem] qk9
theorem z1z : ∀ p r,q5e p = some r → O.loop 132 3 ⟨[(1,AV.ptr 0 0),(3,v_i p.1),(5,v_i p.2.1)],[(0,b_x (T.Rx.enc p.2.2))],1⟩ = some (qk9 p.1 p.2.2 r) := by
 refine q5e.partial_correctness _ ?_
 rintro q5e ih84 ⟨n,i,x⟩ r; dsimp only
 apply it <;> intro h1
 ·refine bg T.Rx.enc fun x3 h2 f1 f2 f3 => ?_
  apply it <;> intro h4
  ·rintro ⟨⟩
   clear ih84; exact fL xx
  apply it <;> intro h5
  ·rintro ⟨⟩
   clear ih84; exact fL xx
  intro h; have f4 := ih84 _ _ h; clear h
  try simp only [en.down] at f4
  clear ih84; exact fL xx
 rintro ⟨⟩
 clear ih84; exact fL xx
theorem q7j {x r} (h : q14 x = some r) : O.call 140 [v_g (T.Rx.enc x)] [] = some (v_b r,[]) := by
 revert h; unfold q14
 refine qry (fun h1 h2 h3 h4 h5 => ?_) ?_
 ·rintro ⟨⟩
  exact fF qkt
 rintro (⟨h1,h2,h3,h4,h5⟩ | ⟨h1,h2,h3,h4,h5⟩ | ⟨h1,h2,h3,h4,h5⟩ | ⟨h1,h2,h3,h4,h5⟩ | ⟨h1,h2,h3,h4,h5⟩)
 all_goals
 rintro ⟨⟩
 exact fF qkt
def qiu (n : Int) (x : T.Rx) : ((Bool) ⊕ (Unit)) → Ex × St
 | .inl y => (Ex.ret,⟨[(1,AV.ptr 0 0),(2,v_b y),(3,v_i n)],[(0,b_x (T.Rx.enc x))],1⟩)
 | .inr y => (Ex.normal,⟨[(1,AV.ptr 0 0),(2,AV.undef),(3,v_i n)],[(0,b_x (T.Rx.enc x))],1⟩)
attribute [local go_sem] qiu
theorem zsh : ∀ p r,q4f p = some r → O.loop 132 5 ⟨[(1,AV.ptr 0 0),(3,v_i p.1),(6,v_i p.2.1)],[(0,b_x (T.Rx.enc p.2.2))],1⟩ = some (qiu p.1 p.2.2 r) := by
 refine q4f.partial_correctness _ ?_
 rintro q4f ih86 ⟨n,i,x⟩ r; dsimp only
 apply it <;> intro h1
 ·refine bg T.Rx.enc fun x3 h2 f1 f2 f3 => ?_
  apply it <;> intro h4
  ·rintro ⟨⟩
   clear ih86; exact fL xx
  intro h; have f4 := ih86 _ _ h; clear h
  try simp only [en.down] at f4
  clear ih86; exact fL xx
 rintro ⟨⟩
 clear ih86; exact fL xx
def qn7 : ((Bool) ⊕ (Unit)) → Ex × St
 | .inl y => (Ex.ret,⟨[(2,v_b y)],[],0⟩)
 | .inr y => (Ex.normal,⟨[(2,AV.undef)],[],0⟩)
attribute [local go_sem] qn7
theorem z16 : ∀ p r,q3x p = some r → O.loop 141 0 ⟨[(0,v_l 2 T.Row.enc p.1),(3,v_i p.2)],[],0⟩ = some (qn7 r) := by
 refine q3x.partial_correctness _ ?_
 rintro q3x ih88 ⟨rows,i⟩ r; dsimp only
 apply it <;> intro h1
 ·refine bg T.Row.enc fun x3 h2 f1 f2 f3 => ?_
  refine bs fun v5 h4 => ?_
  have f4 := q7p h4
  try simp only [en.down] at f4
  apply it <;> intro h6
  ·rintro ⟨⟩
   clear ih88; exact fL q5u
  refine bs fun v8 h7 => ?_
  have f5 := q7p h7
  try simp only [en.down] at f5
  refine xe ?_ (fun h9 h10 => ?_)
  ·rintro (⟨h9,h10⟩ | ⟨h9,h10⟩)
   all_goals
   rintro ⟨⟩
   clear ih88; exact fL q5u
  apply it <;> intro h11
  ·refine bg T.Row.enc fun x13 h12 f6 f7 f8 => ?_
   apply it <;> intro h14
   ·rintro ⟨⟩
    clear ih88; exact fL q5u
   intro h; have f9 := ih88 _ _ h; clear h
   try simp only [en.down] at f9
   clear ih88; exact fL q5u
  intro h; have f10 := ih88 _ _ h; clear h
  try simp only [en.down] at f10
  clear ih88; exact fL q5u
 rintro ⟨⟩
 clear ih88; exact fL q5u
theorem quc {rows r} (h : qa4 rows = some r) : O.call 141 [v_l 2 T.Row.enc rows] [] = some (v_b r,[]) := by
 revert h; unfold qa4
 refine bs fun v2 h1 => ?_
 have f1 := z16 _ _ h1
 try simp only [en.down] at f1
 rcases v2 with y3 | y4
 ·dsimp only
  rintro ⟨⟩
  exact fF q5u
 dsimp only
 rintro ⟨⟩
 exact fF q5u
theorem z8o {x r} (h : qb5 x = some r) : O.call 142 [v_g (T.Rx.enc x)] [] = some (v_b r,[]) := by
 revert h; unfold qb5
 refine z4m ?_ ?_
 ·rintro (⟨h1,h2,h3,h4,h5,h6⟩ | ⟨h1,h2,h3,h4,h5,h6⟩ | ⟨h1,h2,h3,h4,h5,h6⟩ | ⟨h1,h2,h3,h4,h5,h6⟩ | ⟨h1,h2,h3,h4,h5,h6⟩)
  all_goals
  rintro ⟨⟩
  exact fF qd6
 rintro (⟨h1,h2,h3,h4,h5,h6⟩ | ⟨h1,h2,h3,h4,h5,h6⟩)
 all_goals
 refine bg T.Rx.enc fun x17 h16 f1 f2 f3 => ?_
 refine bs fun v19 h18 => ?_
 have f4 := q7j h18
 try simp only [en.down] at f4
 apply it <;> intro h20
 ·refine qfb ?_ (fun h21 h22 h23 h24 => ?_)
  ·rintro (⟨h21,h22,h23,h24⟩ | ⟨h21,h22,h23,h24⟩ | ⟨h21,h22,h23,h24⟩ | ⟨h21,h22,h23,h24⟩)
   all_goals
    try simp only [h20] at f4
    rintro ⟨⟩
    exact fF qd6
  try simp only [h20] at f4
  rintro ⟨⟩
  exact fF qd6
 try simp only [h20] at f4
 rintro ⟨⟩
 exact fF qd6
def qk4 (n : Int) (x : T.Rx) : ((Bool) ⊕ (Unit)) → Ex × St
 | .inl y => (Ex.ret,⟨[(1,AV.ptr 0 0),(2,v_b y),(3,v_i n)],[(0,b_x (T.Rx.enc x))],1⟩)
 | .inr y => (Ex.normal,⟨[(1,AV.ptr 0 0),(2,AV.undef),(3,v_i n)],[(0,b_x (T.Rx.enc x))],1⟩)
attribute [local go_sem] qk4
theorem z8y : (∀ p r,q4d p = some r → O.call 132 [v_g (T.Rx.enc p)] [] = some (v_b r,[])) ∧ (∀ p r,q4g p = some r → O.loop 132 0 ⟨[(1,AV.ptr 0 0),(3,v_i p.1),(4,v_i p.2.1)],[(0,b_x (T.Rx.enc p.2.2))],1⟩ = some (qk4 p.1 p.2.2 r)) := by
 refine q4d.mutual_partial_correctness _ _ ?_ ?_
 ·rintro q4g ih83 x r; try dsimp only
  refine bs fun v2 h1 => ?_
  have f1 := ih83 _ _ h1
  try simp only [en.down] at f1
  rcases v2 with y3 | y4
  ·dsimp only
   rintro ⟨⟩
   clear ih83; exact fF xx
  dsimp only
  apply it <;> intro h5
  ·refine bs fun v7 h6 => ?_
   have f2 := z1z _ _ h6
   try simp only [en.down] at f2
   rcases v7 with y8 | y9
   ·dsimp only
    rintro ⟨⟩
    clear ih83; exact fF xx
   dsimp only
   refine bs fun v11 h10 => ?_
   have f3 := q7j h10
   try simp only [en.down] at f3
   apply it <;> intro h12
   ·try simp only [h12] at f1 f2 f3
    rintro ⟨⟩
    clear ih83; exact fF xx
   try simp only [h12] at f1 f2 f3
   rintro ⟨⟩
   clear ih83; exact fF xx
  apply it <;> intro h13
  ·refine bs fun v15 h14 => ?_
   have f4 := zsh _ _ h14
   try simp only [en.down] at f4
   rcases v15 with y16 | y17
   ·dsimp only
    rintro ⟨⟩
    clear ih83; exact fF xx
   dsimp only
   refine bs fun v19 h18 => ?_
   have f5 := q7j h18
   try simp only [en.down] at f5
   apply it <;> intro h20
   ·try simp only [h20] at f1 f4 f5
    rintro ⟨⟩
    clear ih83; exact fF xx
   try simp only [h20] at f1 f4 f5
   rintro ⟨⟩
   clear ih83; exact fF xx
  apply it <;> intro h21
  ·refine bs fun v23 h22 => ?_
   have f6 := q7j h22
   try simp only [en.down] at f6
   refine zl (fun h24 h25 => ?_) ?_
   ·refine bs fun v27 h26 => ?_
    have f7 := q7p h26
    try simp only [en.down] at f7
    try simp only [h24] at f1 f6 f7
    rintro ⟨⟩
    clear ih83; exact fF xx
   rintro (⟨h24,h25⟩ | ⟨h24,h25⟩)
   all_goals
   try simp only [h24] at f1 f6
   rintro ⟨⟩
   clear ih83; exact fF xx
  refine qj6 ?_ (fun h28 h32 h36 h40 h44 => ?_)
  ·rintro (⟨h28,h32,h36,h40,h44⟩ | ⟨h28,h32,h36,h40,h44⟩ | ⟨h28,h32,h36,h40,h44⟩ | ⟨h28,h32,h36,h40,h44⟩ | ⟨h28,h32,h36,h40,h44⟩)
   all_goals
   refine bs fun v30 h29 => ?_
   have f8 := q7j h29
   try simp only [en.down] at f8
   apply it <;> intro h31
   ·try simp only [h31] at f1 f8
    rintro ⟨⟩
    clear ih83; exact fF xx
   try simp only [h31] at f1 f8
   rintro ⟨⟩
   clear ih83; exact fF xx
  apply it <;> intro h48
  ·refine bs fun v50 h49 => ?_
   have f9 := q7j h49
   try simp only [en.down] at f9
   refine zl (fun h51 h52 => ?_) ?_
   ·refine bs fun v54 h53 => ?_
    have f10 := quc h53
    try simp only [en.down] at f10
    try simp only [h51] at f1 f9 f10
    rintro ⟨⟩
    clear ih83; exact fF xx
   rintro (⟨h51,h52⟩ | ⟨h51,h52⟩)
   all_goals
   try simp only [h51] at f1 f9
   rintro ⟨⟩
   clear ih83; exact fF xx
  refine xe ?_ (fun h55 h59 => ?_)
  ·rintro (⟨h55,h59⟩ | ⟨h55,h59⟩)
   all_goals
   refine bs fun v57 h56 => ?_
   have f11 := q7j h56
   try simp only [en.down] at f11
   apply it <;> intro h58
   ·try simp only [h58] at f1 f11
    rintro ⟨⟩
    clear ih83; exact fF xx
   try simp only [h58] at f1 f11
   rintro ⟨⟩
   clear ih83; exact fF xx
  apply it <;> intro h63
  ·refine bs fun v65 h64 => ?_
   have f12 := z8o h64
   try simp only [en.down] at f12
   rintro ⟨⟩
   clear ih83; exact fF xx
  rintro ⟨⟩
  clear ih83; exact fF xx
 ·rintro q4d q4g ih82 ih83 ⟨n,i,x⟩ r; dsimp only
  apply it <;> intro h1
  ·refine bg T.Rx.enc fun x3 h2 f1 f2 f3 => ?_
   refine bs fun v5 h4 => ?_
   have f4 := ih82 _ _ h4
   try simp only [en.down] at f4
   apply it <;> intro h6
   ·rintro ⟨⟩
    clear ih82 ih83; exact fL xx
   intro h; have f5 := ih83 _ _ h; clear h
   try simp only [en.down] at f5
   clear ih82 ih83; exact fL xx
  rintro ⟨⟩
  clear ih82 ih83; exact fL xx
theorem qfi {x r} (h : q7l x = some r) : O.call 119 [v_g (T.Rx.enc x)] [] = some (v_b r,[]) := by
 revert h; unfold q7l
 refine bs fun v2 h1 => ?_
 have f1 := z3k.1 _ _ h1
 try simp only [en.down] at f1
 apply it <;> intro h3
 ·refine bs fun v5 h4 => ?_
  have f2 := zju.1 _ _ h4
  try simp only [en.down] at f2
  apply it <;> intro h6
  ·refine bs fun v8 h7 => ?_
   have f3 := z8y.1 _ _ h7
   try simp only [en.down] at f3
   rintro ⟨⟩
   exact fF qfs
  rintro ⟨⟩
  exact fF qfs
 rintro ⟨⟩
 exact fF qfs
def qkz : ((Bool) ⊕ (Unit)) → Ex × St
 | .inl y => (Ex.ret,⟨[(2,v_b y)],[],0⟩)
 | .inr y => (Ex.normal,⟨[(2,AV.undef)],[],0⟩)
attribute [local go_sem] qkz
theorem qvv : ∀ p r,uk p = some r → O.loop 120 0 ⟨[(0,v_l 5 T.Fmt.enc p.1),(3,v_i p.2)],[],0⟩ = some (qkz r) := by
 refine uk.partial_correctness _ ?_
 rintro uk ih91 ⟨fs,i⟩ r; dsimp only
 apply it <;> intro h1
 ·refine bg T.Fmt.enc fun x3 h2 f1 f2 f3 => ?_
  apply it <;> intro h4
  ·apply it <;> intro h5
   ·refine qee (fun h6 h7 h8 h9 => ?_) ?_
    ·apply it <;> intro h10
     ·intro h; have f4 := ih91 _ _ h; clear h
      try simp only [en.down] at f4
      clear ih91; exact fL xn
     refine bg T.Fmt.enc fun x12 h11 f5 f6 f7 => ?_
     apply it <;> intro h13
     ·rintro ⟨⟩
      clear ih91; exact fL xn
     intro h; have f8 := ih91 _ _ h; clear h
     try simp only [en.down] at f8
     clear ih91; exact fL xn
    rintro (⟨h6,h7,h8,h9⟩ | ⟨h6,h7,h8,h9⟩ | ⟨h6,h7,h8,h9⟩ | ⟨h6,h7,h8,h9⟩)
    all_goals
    rintro ⟨⟩
    clear ih91; exact fL xn
   apply it <;> intro h14
   ·refine qog (fun h15 h16 h17 => ?_) ?_
    ·apply it <;> intro h18
     ·rintro ⟨⟩
      clear ih91; exact fL xn
     intro h; have f9 := ih91 _ _ h; clear h
     try simp only [en.down] at f9
     clear ih91; exact fL xn
    rintro (⟨h15,h16,h17⟩ | ⟨h15,h16,h17⟩ | ⟨h15,h16,h17⟩)
    all_goals
    rintro ⟨⟩
    clear ih91; exact fL xn
   apply it <;> intro h19
   ·apply it <;> intro h20
    ·refine bs fun v22 h21 => ?_
     have f10 := qjr h21
     try simp only [en.down] at f10
     refine zl (fun h23 h24 => ?_) ?_
     ·apply it <;> intro h25
      ·rintro ⟨⟩
       clear ih91; exact fL xn
      intro h; have f11 := ih91 _ _ h; clear h
      try simp only [en.down] at f11
      clear ih91; exact fL xn
     rintro (⟨h23,h24⟩ | ⟨h23,h24⟩)
     all_goals
     rintro ⟨⟩
     clear ih91; exact fL xn
    rintro ⟨⟩
    clear ih91; exact fL xn
   apply it <;> intro h26
   ·refine zl (fun h27 h28 => ?_) ?_
    ·apply it <;> intro h29
     ·rintro ⟨⟩
      clear ih91; exact fL xn
     intro h; have f12 := ih91 _ _ h; clear h
     try simp only [en.down] at f12
     clear ih91; exact fL xn
    rintro (⟨h27,h28⟩ | ⟨h27,h28⟩)
    all_goals
    rintro ⟨⟩
    clear ih91; exact fL xn
   apply it <;> intro h30
   ·refine zl (fun h31 h32 => ?_) ?_
    ·apply it <;> intro h33
     ·rintro ⟨⟩
      clear ih91; exact fL xn
     intro h; have f13 := ih91 _ _ h; clear h
     try simp only [en.down] at f13
     clear ih91; exact fL xn
    rintro (⟨h31,h32⟩ | ⟨h31,h32⟩)
    all_goals
    rintro ⟨⟩
    clear ih91; exact fL xn
   refine zl (fun h34 h35 => ?_) ?_
   ·apply it <;> intro h36
    ·rintro ⟨⟩
     clear ih91; exact fL xn
    intro h; have f14 := ih91 _ _ h; clear h
    try simp only [en.down] at f14
    clear ih91; exact fL xn
   rintro (⟨h34,h35⟩ | ⟨h34,h35⟩)
   all_goals
   rintro ⟨⟩
   clear ih91; exact fL xn
  apply it <;> intro h37
  ·refine qee (fun h38 h39 h40 h41 => ?_) ?_
   ·apply it <;> intro h42
    ·intro h; have f15 := ih91 _ _ h; clear h
     try simp only [en.down] at f15
     clear ih91; exact fL xn
    refine bg T.Fmt.enc fun x44 h43 f16 f17 f18 => ?_
    apply it <;> intro h45
    ·rintro ⟨⟩
     clear ih91; exact fL xn
    intro h; have f19 := ih91 _ _ h; clear h
    try simp only [en.down] at f19
    clear ih91; exact fL xn
   rintro (⟨h38,h39,h40,h41⟩ | ⟨h38,h39,h40,h41⟩ | ⟨h38,h39,h40,h41⟩ | ⟨h38,h39,h40,h41⟩)
   all_goals
   rintro ⟨⟩
   clear ih91; exact fL xn
  refine qj6 ?_ (fun h46 h47 h48 h49 h50 => ?_)
  ·rintro (⟨h46,h47,h48,h49,h50⟩ | ⟨h46,h47,h48,h49,h50⟩ | ⟨h46,h47,h48,h49,h50⟩ | ⟨h46,h47,h48,h49,h50⟩ | ⟨h46,h47,h48,h49,h50⟩)
   all_goals
   rintro ⟨⟩
   clear ih91; exact fL xn
  rintro ⟨⟩
  clear ih91; exact fL xn
 rintro ⟨⟩
 clear ih91; exact fL xn
theorem qot {fs r} (h : q95 fs = some r) : O.call 120 [v_l 5 T.Fmt.enc fs] [] = some (v_b r,[]) := by
 revert h; unfold q95
 refine bs fun v2 h1 => ?_
 have f1 := qvv _ _ h1
 try simp only [en.down] at f1
 rcases v2 with y3 | y4
 ·dsimp only
  rintro ⟨⟩
  exact fF xn
 dsimp only
 rintro ⟨⟩
 exact fF xn
theorem qla {f r} (h : q8u f = some r) : O.call 101 [v_g (T.Form.enc f)] [] = some (v_b r,[]) := by
 revert h; unfold q8u
 refine bs fun v2 h1 => ?_
 have f1 := qfi h1
 try simp only [en.down] at f1
 apply it <;> intro h3
 ·refine bs fun v5 h4 => ?_
  have f2 := qot h4
  try simp only [en.down] at f2
  try simp only [h3] at f1 f2
  rintro ⟨⟩
  exact fF qmp
 try simp only [h3] at f1
 rintro ⟨⟩
 exact fF qmp
def qm1 : ((Bool) ⊕ (Unit)) → Ex × St
 | .inl y => (Ex.ret,⟨[(2,v_b y)],[],0⟩)
 | .inr y => (Ex.normal,⟨[(2,AV.undef)],[],0⟩)
attribute [local go_sem] qm1
theorem zlp : (∀ p r,q2m p = some r → O.call 57 [v_l 18 T.qb.enc p] [] = some (v_b r,[])) ∧ (∀ p r,kg p = some r → O.loop 57 0 ⟨[(0,v_l 18 T.qb.enc p.1),(3,v_i p.2)],[],0⟩ = some (qm1 r)) ∧ (∀ p r,ny p = some r → O.call 76 [v_g (T.qb.enc p)] [] = some (v_b r,[])) := by
 refine q2m.mutual_partial_correctness _ _ _ ?_ ?_ ?_
 ·rintro kg ih69 l r; try dsimp only
  refine bs fun v2 h1 => ?_
  have f1 := ih69 _ _ h1
  try simp only [en.down] at f1
  rcases v2 with y3 | y4
  ·dsimp only
   rintro ⟨⟩
   clear ih69; exact fF zg
  dsimp only
  rintro ⟨⟩
  clear ih69; exact fF zg
 ·rintro kg ny ih69 ih75 ⟨l,i⟩ r; dsimp only
  apply it <;> intro h1
  ·refine bg T.qb.enc fun x3 h2 f1 f2 f3 => ?_
   refine zl (fun h4 h5 => ?_) ?_
   ·refine bs fun v7 h6 => ?_
    have f4 := qex h6
    try simp only [en.down] at f4
    apply it <;> intro h8
    ·apply it <;> intro h9
     ·apply it <;> intro h10
      ·refine qee (fun h11 h12 h13 h14 => ?_) ?_
       ·apply it <;> intro h15
        ·try simp only [h8] at f4
         intro h; have f5 := ih69 _ _ h; clear h
         try simp only [en.down] at f5
         try simp only [h8] at f5
         clear ih69 ih75; exact fL zg
        refine bg T.qb.enc fun x17 h16 f6 f7 f8 => ?_
        apply it <;> intro h18
        ·try simp only [h8] at f4
         rintro ⟨⟩
         clear ih69 ih75; exact fL zg
        try simp only [h8] at f4
        intro h; have f9 := ih69 _ _ h; clear h
        try simp only [en.down] at f9
        try simp only [h8] at f9
        clear ih69 ih75; exact fL zg
       rintro (⟨h11,h12,h13,h14⟩ | ⟨h11,h12,h13,h14⟩ | ⟨h11,h12,h13,h14⟩ | ⟨h11,h12,h13,h14⟩)
       all_goals
       try simp only [h8] at f4
       rintro ⟨⟩
       clear ih69 ih75; exact fL zg
      apply it <;> intro h19
      ·refine zl (fun h20 h21 => ?_) ?_
       ·refine bs fun v23 h22 => ?_
        have f10 := ih75 _ _ h22
        try simp only [en.down] at f10
        apply it <;> intro h24
        ·try simp only [h8] at f4 f10
         rintro ⟨⟩
         clear ih69 ih75; exact fL zg
        try simp only [h8] at f4 f10
        intro h; have f11 := ih69 _ _ h; clear h
        try simp only [en.down] at f11
        try simp only [h8] at f11
        clear ih69 ih75; exact fL zg
       rintro (⟨h20,h21⟩ | ⟨h20,h21⟩)
       all_goals
       try simp only [h8] at f4
       rintro ⟨⟩
       clear ih69 ih75; exact fL zg
      apply it <;> intro h25
      ·refine qog (fun h26 h27 h28 => ?_) ?_
       ·apply it <;> intro h29
        ·try simp only [h8] at f4
         rintro ⟨⟩
         clear ih69 ih75; exact fL zg
        try simp only [h8] at f4
        intro h; have f12 := ih69 _ _ h; clear h
        try simp only [en.down] at f12
        try simp only [h8] at f12
        clear ih69 ih75; exact fL zg
       rintro (⟨h26,h27,h28⟩ | ⟨h26,h27,h28⟩ | ⟨h26,h27,h28⟩)
       all_goals
       try simp only [h8] at f4
       rintro ⟨⟩
       clear ih69 ih75; exact fL zg
      refine zl (fun h30 h31 => ?_) ?_
      ·refine bs fun v33 h32 => ?_
       have f13 := q6y h32
       try simp only [en.down] at f13
       apply it <;> intro h34
       ·refine bs fun v36 h35 => ?_
        have f14 := ih75 _ _ h35
        try simp only [en.down] at f14
        apply it <;> intro h37
        ·try simp only [h8,h34] at f4 f13 f14
         rintro ⟨⟩
         clear ih69 ih75; exact fL zg
        try simp only [h8,h34] at f4 f13 f14
        intro h; have f15 := ih69 _ _ h; clear h
        try simp only [en.down] at f15
        try simp only [h8,h34] at f15
        clear ih69 ih75; exact fL zg
       try simp only [h8,h34] at f4 f13
       rintro ⟨⟩
       clear ih69 ih75; exact fL zg
      rintro (⟨h30,h31⟩ | ⟨h30,h31⟩)
      all_goals
      try simp only [h8] at f4
      rintro ⟨⟩
      clear ih69 ih75; exact fL zg
     apply it <;> intro h38
     ·refine qee (fun h39 h40 h41 h42 => ?_) ?_
      ·apply it <;> intro h43
       ·try simp only [h8] at f4
        intro h; have f16 := ih69 _ _ h; clear h
        try simp only [en.down] at f16
        try simp only [h8] at f16
        clear ih69 ih75; exact fL zg
       refine bg T.qb.enc fun x45 h44 f17 f18 f19 => ?_
       apply it <;> intro h46
       ·try simp only [h8] at f4
        rintro ⟨⟩
        clear ih69 ih75; exact fL zg
       try simp only [h8] at f4
       intro h; have f20 := ih69 _ _ h; clear h
       try simp only [en.down] at f20
       try simp only [h8] at f20
       clear ih69 ih75; exact fL zg
      rintro (⟨h39,h40,h41,h42⟩ | ⟨h39,h40,h41,h42⟩ | ⟨h39,h40,h41,h42⟩ | ⟨h39,h40,h41,h42⟩)
      all_goals
      try simp only [h8] at f4
      rintro ⟨⟩
      clear ih69 ih75; exact fL zg
     refine xe ?_ (fun h47 h48 => ?_)
     ·rintro (⟨h47,h48⟩ | ⟨h47,h48⟩)
      all_goals
      try simp only [h8] at f4
      rintro ⟨⟩
      clear ih69 ih75; exact fL zg
     refine zl (fun h49 h50 => ?_) ?_
     ·refine bs fun v52 h51 => ?_
      have f21 := q6y h51
      try simp only [en.down] at f21
      apply it <;> intro h53
      ·refine bs fun v55 h54 => ?_
       have f22 := ih75 _ _ h54
       try simp only [en.down] at f22
       apply it <;> intro h56
       ·try simp only [h8,h53] at f4 f21 f22
        rintro ⟨⟩
        clear ih69 ih75; exact fL zg
       try simp only [h8,h53] at f4 f21 f22
       intro h; have f23 := ih69 _ _ h; clear h
       try simp only [en.down] at f23
       try simp only [h8,h53] at f23
       clear ih69 ih75; exact fL zg
      try simp only [h8,h53] at f4 f21
      rintro ⟨⟩
      clear ih69 ih75; exact fL zg
     rintro (⟨h49,h50⟩ | ⟨h49,h50⟩)
     all_goals
     try simp only [h8] at f4
     rintro ⟨⟩
     clear ih69 ih75; exact fL zg
    apply it <;> intro h57
    ·apply it <;> intro h58
     ·try simp only [h8] at f4
      rintro ⟨⟩
      clear ih69 ih75; exact fL zg
     apply it <;> intro h59
     ·refine zl (fun h60 h61 => ?_) ?_
      ·refine bs fun v63 h62 => ?_
       have f24 := ih75 _ _ h62
       try simp only [en.down] at f24
       apply it <;> intro h64
       ·try simp only [h8] at f4 f24
        rintro ⟨⟩
        clear ih69 ih75; exact fL zg
       try simp only [h8] at f4 f24
       intro h; have f25 := ih69 _ _ h; clear h
       try simp only [en.down] at f25
       try simp only [h8] at f25
       clear ih69 ih75; exact fL zg
      rintro (⟨h60,h61⟩ | ⟨h60,h61⟩)
      all_goals
      try simp only [h8] at f4
      rintro ⟨⟩
      clear ih69 ih75; exact fL zg
     apply it <;> intro h65
     ·refine zl (fun h66 h67 => ?_) ?_
      ·try simp only [h8] at f4
       rintro ⟨⟩
       clear ih69 ih75; exact fL zg
      rintro (⟨h66,h67⟩ | ⟨h66,h67⟩)
      all_goals
      try simp only [h8] at f4
      rintro ⟨⟩
      clear ih69 ih75; exact fL zg
     refine zl (fun h68 h69 => ?_) ?_
     ·refine bs fun v71 h70 => ?_
      have f26 := q6y h70
      try simp only [en.down] at f26
      apply it <;> intro h72
      ·refine bs fun v74 h73 => ?_
       have f27 := ih75 _ _ h73
       try simp only [en.down] at f27
       apply it <;> intro h75
       ·try simp only [h8,h72] at f4 f26 f27
        rintro ⟨⟩
        clear ih69 ih75; exact fL zg
       try simp only [h8,h72] at f4 f26 f27
       intro h; have f28 := ih69 _ _ h; clear h
       try simp only [en.down] at f28
       try simp only [h8,h72] at f28
       clear ih69 ih75; exact fL zg
      try simp only [h8,h72] at f4 f26
      rintro ⟨⟩
      clear ih69 ih75; exact fL zg
     rintro (⟨h68,h69⟩ | ⟨h68,h69⟩)
     all_goals
     try simp only [h8] at f4
     rintro ⟨⟩
     clear ih69 ih75; exact fL zg
    refine qb8 ?_ (fun h76 h77 h78 => ?_)
    ·rintro (⟨h76,h77,h78⟩ | ⟨h76,h77,h78⟩ | ⟨h76,h77,h78⟩)
     all_goals
     try simp only [h8] at f4
     rintro ⟨⟩
     clear ih69 ih75; exact fL zg
    refine zl (fun h79 h80 => ?_) ?_
    ·refine bs fun v82 h81 => ?_
     have f29 := q6y h81
     try simp only [en.down] at f29
     apply it <;> intro h83
     ·refine bs fun v85 h84 => ?_
      have f30 := ih75 _ _ h84
      try simp only [en.down] at f30
      apply it <;> intro h86
      ·try simp only [h8,h83] at f4 f29 f30
       rintro ⟨⟩
       clear ih69 ih75; exact fL zg
      try simp only [h8,h83] at f4 f29 f30
      intro h; have f31 := ih69 _ _ h; clear h
      try simp only [en.down] at f31
      try simp only [h8,h83] at f31
      clear ih69 ih75; exact fL zg
     try simp only [h8,h83] at f4 f29
     rintro ⟨⟩
     clear ih69 ih75; exact fL zg
    rintro (⟨h79,h80⟩ | ⟨h79,h80⟩)
    all_goals
    try simp only [h8] at f4
    rintro ⟨⟩
    clear ih69 ih75; exact fL zg
   rintro (⟨h4,h5⟩ | ⟨h4,h5⟩)
   all_goals
   apply it <;> intro h117
   ·apply it <;> intro h118
    ·rintro ⟨⟩
     clear ih69 ih75; exact fL zg
    apply it <;> intro h119
    ·refine zl (fun h120 h121 => ?_) ?_
     ·refine bs fun v123 h122 => ?_
      have f32 := ih75 _ _ h122
      try simp only [en.down] at f32
      apply it <;> intro h124
      ·rintro ⟨⟩
       clear ih69 ih75; exact fL zg
      intro h; have f33 := ih69 _ _ h; clear h
      try simp only [en.down] at f33
      clear ih69 ih75; exact fL zg
     rintro (⟨h120,h121⟩ | ⟨h120,h121⟩)
     all_goals
      rintro ⟨⟩
      clear ih69 ih75; exact fL zg
    apply it <;> intro h125
    ·refine zl (fun h126 h127 => ?_) ?_
     ·rintro ⟨⟩
      clear ih69 ih75; exact fL zg
     rintro (⟨h126,h127⟩ | ⟨h126,h127⟩)
     all_goals
      rintro ⟨⟩
      clear ih69 ih75; exact fL zg
    refine zl (fun h128 h129 => ?_) ?_
    ·refine bs fun v131 h130 => ?_
     have f34 := q6y h130
     try simp only [en.down] at f34
     apply it <;> intro h132
     ·refine bs fun v134 h133 => ?_
      have f35 := ih75 _ _ h133
      try simp only [en.down] at f35
      apply it <;> intro h135
      ·try simp only [h132] at f34 f35
       rintro ⟨⟩
       clear ih69 ih75; exact fL zg
      try simp only [h132] at f34 f35
      intro h; have f36 := ih69 _ _ h; clear h
      try simp only [en.down] at f36
      try simp only [h132] at f36
      clear ih69 ih75; exact fL zg
     try simp only [h132] at f34
     rintro ⟨⟩
     clear ih69 ih75; exact fL zg
    rintro (⟨h128,h129⟩ | ⟨h128,h129⟩)
    all_goals
     rintro ⟨⟩
     clear ih69 ih75; exact fL zg
   refine qb8 ?_ (fun h136 h137 h138 => ?_)
   ·rintro (⟨h136,h137,h138⟩ | ⟨h136,h137,h138⟩ | ⟨h136,h137,h138⟩)
    all_goals
     rintro ⟨⟩
     clear ih69 ih75; exact fL zg
   refine zl (fun h139 h140 => ?_) ?_
   ·refine bs fun v142 h141 => ?_
    have f37 := q6y h141
    try simp only [en.down] at f37
    apply it <;> intro h143
    ·refine bs fun v145 h144 => ?_
     have f38 := ih75 _ _ h144
     try simp only [en.down] at f38
     apply it <;> intro h146
     ·try simp only [h143] at f37 f38
      rintro ⟨⟩
      clear ih69 ih75; exact fL zg
     try simp only [h143] at f37 f38
     intro h; have f39 := ih69 _ _ h; clear h
     try simp only [en.down] at f39
     try simp only [h143] at f39
     clear ih69 ih75; exact fL zg
    try simp only [h143] at f37
    rintro ⟨⟩
    clear ih69 ih75; exact fL zg
   rintro (⟨h139,h140⟩ | ⟨h139,h140⟩)
   all_goals
    rintro ⟨⟩
    clear ih69 ih75; exact fL zg
  rintro ⟨⟩
  clear ih69 ih75; exact fL zg
 ·rintro q2m ih68 x r; try dsimp only
  apply it <;> intro h1
  ·rintro ⟨⟩
   clear ih68; exact fF q4e
  apply it <;> intro h2
  ·apply it <;> intro h3
   ·rintro ⟨⟩
    clear ih68; exact fF q4e
   refine bs fun v5 h4 => ?_
   have f1 := qex h4
   try simp only [en.down] at f1
   apply it <;> intro h6
   ·refine bs fun v8 h7 => ?_
    have f2 := ih68 _ _ h7
    try simp only [en.down] at f2
    try simp only [h2,h3,h6] at f1 f2
    rintro ⟨⟩
    clear ih68; exact fF q4e
   try simp only [h2,h3,h6] at f1
   rintro ⟨⟩
   clear ih68; exact fF q4e
  apply it <;> intro h9
  ·rintro ⟨⟩
   clear ih68; exact fF q4e
  apply it <;> intro h10
  ·refine bs fun v12 h11 => ?_
   have f3 := qla h11
   try simp only [en.down] at f3
   try simp only [h2,h10] at f3
   rintro ⟨⟩
   clear ih68; exact fF q4e
  refine bs fun v14 h13 => ?_
  have f4 := qex h13
  try simp only [en.down] at f4
  apply it <;> intro h15
  ·refine bs fun v17 h16 => ?_
   have f5 := ih68 _ _ h16
   try simp only [en.down] at f5
   try simp only [h2,h10,h15] at f4 f5
   rintro ⟨⟩
   clear ih68; exact fF q4e
  try simp only [h2,h10,h15] at f4
  rintro ⟨⟩
  clear ih68; exact fF q4e
theorem zlk {l r} (h : qab l = some r) : O.call 40 [v_l 18 T.qb.enc l] [] = some (v_b r,[]) := by
 revert h; unfold qab
 refine bs fun v2 h1 => ?_
 have f1 := qmb.1 _ _ h1
 try simp only [en.down] at f1
 apply it <;> intro h3
 ·refine bs fun v5 h4 => ?_
  have f2 := zlp.1 _ _ h4
  try simp only [en.down] at f2
  rintro ⟨⟩
  exact fF qo4
 rintro ⟨⟩
 exact fF qo4
theorem zlb : ∀ p r,um p = some r → O.loop 59 0 ⟨[(0,v_s p.1),(1,v_s p.2.1),(2,v_s p.2.2.1),(7,v_r 0 p.2.2.2.2.2),(8,v_b p.2.2.2.1),(9,v_i p.2.2.2.2.1)],[(0,b_r 1 qj p.2.2.2.2.2)],1⟩ = some (Ex.normal,⟨[(7,v_r 0 r)],[(0,b_r 1 qj r)],1⟩) := by
 refine um.partial_correctness _ ?_
 rintro um ih95 ⟨s,lead,unit,behind,i,b⟩ r; dsimp only
 apply it <;> intro h1
 ·apply it <;> intro h2
  ·refine bc fun b4 h3 f1 f2 => ?_
   apply it <;> intro h5
   ·apply it <;> intro h6
    ·apply it <;> intro h7
     ·have f3 := rA qj h7
      intro h; have f4 := ih95 _ _ h; clear h
      try simp only [en.down] at f4
      try simp only [h2] at f4
      clear ih95; exact fL q2n
     refine gd fun h8 => ?_
     have f5 := rB qj h7
     have f6 : (b ++ unit).isEmpty = false := by cases b <;> cases unit <;> simp_all
     have f7 : szc 1 (b ++ unit) = 1 := q92 h7 _
     have f8 : List.map qj b ++ List.map qj unit = List.map qj (b ++ unit) := q7k _ _ _
     intro h; have f9 := ih95 _ _ h; clear h
     try simp only [en.down,f6,f7] at f9
     try simp only [h2,f6,f7] at f9
     clear ih95; exact fL q2n
    refine gd fun h9 => ?_
    have f10 := rG 1 qj b
    apply it <;> intro h10
    ·have f11 : List.map qj b ++ [[PV.int IntKind.u8 (b4.toNat : Int)]] = List.map qj (b ++ [b4]) := by simp only [List.map_append,List.map_cons,List.map_nil,zb,za,ze,qj] <;> rfl
     refine gd fun h11 => ?_
     have f12 : ((b ++ [b4]) ++ lead).isEmpty = false := by first | simp | simp_all
     have f13 : szc 1 ((b ++ [b4]) ++ lead) = 1 := q92 (by first | simp | simp_all : ((b ++ [b4]).isEmpty && lead.isEmpty) = false) _
     have f14 : List.map qj (b ++ [b4]) ++ List.map qj lead = List.map qj ((b ++ [b4]) ++ lead) := q7k _ _ _
     intro h; have f15 := ih95 _ _ h; clear h
     try simp only [en.down,f12,f13] at f15
     try simp only [h2,f12,f13] at f15
     clear ih95; exact fL q2n
    have f16 : List.map qj b ++ [[PV.int IntKind.u8 (b4.toNat : Int)]] = List.map qj (b ++ [b4]) := by simp only [List.map_append,List.map_cons,List.map_nil,zb,za,ze,qj] <;> rfl
    intro h; have f17 := ih95 _ _ h; clear h
    try simp only [en.down] at f17
    try simp only [h2] at f17
    clear ih95; exact fL q2n
   refine gd fun h12 => ?_
   have f18 := rG 1 qj b
   apply it <;> intro h13
   ·have f19 : List.map qj b ++ [[PV.int IntKind.u8 (b4.toNat : Int)]] = List.map qj (b ++ [b4]) := by simp only [List.map_append,List.map_cons,List.map_nil,zb,za,ze,qj] <;> rfl
    refine gd fun h14 => ?_
    have f20 : ((b ++ [b4]) ++ lead).isEmpty = false := by first | simp | simp_all
    have f21 : szc 1 ((b ++ [b4]) ++ lead) = 1 := q92 (by first | simp | simp_all : ((b ++ [b4]).isEmpty && lead.isEmpty) = false) _
    have f22 : List.map qj (b ++ [b4]) ++ List.map qj lead = List.map qj ((b ++ [b4]) ++ lead) := q7k _ _ _
    intro h; have f23 := ih95 _ _ h; clear h
    try simp only [en.down,f20,f21] at f23
    try simp only [h2,h13,f20,f21] at f23
    clear ih95; exact fL q2n
   have f24 : List.map qj b ++ [[PV.int IntKind.u8 (b4.toNat : Int)]] = List.map qj (b ++ [b4]) := by simp only [List.map_append,List.map_cons,List.map_nil,zb,za,ze,qj] <;> rfl
   intro h; have f25 := ih95 _ _ h; clear h
   try simp only [en.down] at f25
   try simp only [h2,h13] at f25
   clear ih95; exact fL q2n
  refine bc fun b16 h15 f26 f27 => ?_
  refine gd fun h17 => ?_
  have f28 := rG 1 qj b
  apply it <;> intro h18
  ·have f29 : List.map qj b ++ [[PV.int IntKind.u8 (b16.toNat : Int)]] = List.map qj (b ++ [b16]) := by simp only [List.map_append,List.map_cons,List.map_nil,zb,za,ze,qj] <;> rfl
   refine gd fun h19 => ?_
   have f30 : ((b ++ [b16]) ++ lead).isEmpty = false := by first | simp | simp_all
   have f31 : szc 1 ((b ++ [b16]) ++ lead) = 1 := q92 (by first | simp | simp_all : ((b ++ [b16]).isEmpty && lead.isEmpty) = false) _
   have f32 : List.map qj (b ++ [b16]) ++ List.map qj lead = List.map qj ((b ++ [b16]) ++ lead) := q7k _ _ _
   intro h; have f33 := ih95 _ _ h; clear h
   try simp only [en.down,f30,f31] at f33
   try simp only [h2,h18,f30,f31] at f33
   clear ih95; exact fL q2n
  have f34 : List.map qj b ++ [[PV.int IntKind.u8 (b16.toNat : Int)]] = List.map qj (b ++ [b16]) := by simp only [List.map_append,List.map_cons,List.map_nil,zb,za,ze,qj] <;> rfl
  intro h; have f35 := ih95 _ _ h; clear h
  try simp only [en.down] at f35
  try simp only [h2,h18] at f35
  clear ih95; exact fL q2n
 rintro ⟨⟩
 clear ih95; exact fL q2n
theorem qe5 {s lead unit r} (h : q5o s lead unit = some r) : O.call 59 [v_s s,v_s lead,v_s unit] [] = some (v_s r,[]) := by
 revert h; unfold q5o
 refine bs fun v2 h1 => ?_
 have f1 := zlb _ _ h1
 try simp only [en.down] at f1
 have f2 := jd 1 qj v2
 have f3 := bytesOf_map v2
 rintro ⟨⟩
 exact fF q2n
theorem q0p {p_ b b_2 b_3 r_ r_2 r_3 r} (h : uo p_ b b_2 b_3 r_ r_2 r_3 = some r) : O.call 58 [AV.ptr 0 0,v_g (T.qd.enc p_)] [(0,Blk.box [v_l 2 T.qi.enc b,v_s b_2,v_s b_3,v_r 1 r_,v_r 2 r_2,v_r 3 r_3]),(1,b_r 20 T.qd.enc r_),(2,b_r 1 qg r_2),(3,b_r 1 qh r_3)] = some (AV.tup [],[(0,Blk.box [v_l 2 T.qi.enc b,v_s b_2,v_s b_3,v_r 1 r,v_r 2 r_2,v_r 3 r_3]),(1,b_r 20 T.qd.enc r),(2,b_r 1 qg r_2),(3,b_r 1 qh r_3)]) := by
 revert h; unfold uo
 refine gd fun h1 => ?_
 have f1 := rG 20 T.qd.enc r_
 have f2 : List.map T.qd.enc r_ ++ [[PV.int IntKind.i64 p_.kind,PV.str p_.text,PV.int IntKind.i64 p_.n,PV.bool p_.def_,PV.bool p_.first,PV.bool p_.turned,PV.int IntKind.i64 p_.form.rx.kind,PV.str p_.form.rx.char,PV.bool p_.form.rx.not,PV.sl p_.form.rx.rows.nil (szc 2 p_.form.rx.rows.l) (List.map T.Row.enc p_.form.rx.rows.l),PV.int IntKind.i64 p_.form.rx.min,PV.int IntKind.i64 p_.form.rx.max,PV.bool p_.form.rx.lazy,PV.sl p_.form.rx.kids.nil (szc 8 p_.form.rx.kids.l) (List.map T.Rx.enc p_.form.rx.kids.l),PV.sl p_.form.fmts.nil (szc 5 p_.form.fmts.l) (List.map T.Fmt.enc p_.form.fmts.l),PV.bool p_.form.fold,PV.bool p_.form.all,PV.sl p_.opts.nil (szc 1 p_.opts.l) (List.map qh p_.opts.l),PV.int IntKind.i64 p_.up,PV.int IntKind.i64 (IntKind.i64.wrap ((r_.length : Int) + (1 : Int)))]] = List.map T.qd.enc (r_ ++ [(T.qd.mk p_.kind p_.text p_.n p_.def_ p_.first p_.turned p_.form p_.opts p_.up (IntKind.i64.wrap ((r_.length : Int) + (1 : Int))))]) := by simp only [List.map_append,List.map_cons,List.map_nil,zb,za,ze,T.qd.qz] <;> rfl
 rintro ⟨⟩
 exact fF zst
def qie : ((Bytes × Bool) ⊕ (Unit)) → Ex × St
 | .inl y => (Ex.ret,⟨[(4,v_s y.1),(5,v_b y.2)],[],0⟩)
 | .inr y => (Ex.normal,⟨[(4,AV.undef),(5,AV.undef)],[],0⟩)
attribute [local go_sem] qie
theorem zq0 : ∀ p r,q4k p = some r → O.loop 60 0 ⟨[(0,v_s p.1),(1,v_l 2 T.qi.enc p.2.1),(6,v_i p.2.2)],[],0⟩ = some (qie r) := by
 refine q4k.partial_correctness _ ?_
 rintro q4k ih98 ⟨name,env,i⟩ r; dsimp only
 apply it <;> intro h1
 ·refine bg T.qi.enc fun x3 h2 f1 f2 f3 => ?_
  apply it <;> intro h4
  ·rintro ⟨⟩
   clear ih98; exact fL qak
  intro h; have f4 := ih98 _ _ h; clear h
  try simp only [en.down] at f4
  clear ih98; exact fL qak
 rintro ⟨⟩
 clear ih98; exact fL qak
theorem qi4 {name env r} (h : q8b name env = some r) : O.call 60 [v_s name,v_l 2 T.qi.enc env] [] = some (AV.tup [v_s r.1,v_b r.2],[]) := by
 revert h; unfold q8b
 refine bs fun v2 h1 => ?_
 have f1 := zq0 _ _ h1
 try simp only [en.down] at f1
 rcases v2 with y3 | y4
 ·dsimp only
  rintro ⟨⟩
  exact fF qak
 dsimp only
 rintro ⟨⟩
 exact fF qak
theorem z10 {r} (h : qcq = some r) : O.call 78 [] [] = some (v_l 1 qh r,[]) := by
 revert h; unfold qcq
 rintro ⟨⟩
 exact fF zqa
def qmn : ((Bool) ⊕ (Unit)) → Ex × St
 | .inl y => (Ex.ret,⟨[(2,v_b y)],[],0⟩)
 | .inr y => (Ex.normal,⟨[(2,AV.undef)],[],0⟩)
attribute [local go_sem] qmn
theorem qxb : ∀ p r,q4b p = some r → O.loop 61 0 ⟨[(0,v_s p.1),(3,v_l 1 qh p.2.1),(4,v_i p.2.2)],[],0⟩ = some (qmn r) := by
 refine q4b.partial_correctness _ ?_
 rintro q4b ih103 ⟨name,l,i⟩ r; dsimp only
 apply it <;> intro h1
 ·refine bg qh fun x3 h2 f1 f2 f3 => ?_
  apply it <;> intro h4
  ·rintro ⟨⟩
   clear ih103; exact fL q9v
  intro h; have f4 := ih103 _ _ h; clear h
  try simp only [en.down] at f4
  clear ih103; exact fL q9v
 rintro ⟨⟩
 clear ih103; exact fL q9v
theorem qol {name r} (h : q7s name = some r) : O.call 61 [v_s name] [] = some (v_b r,[]) := by
 revert h; unfold q7s
 refine bs fun v2 h1 => ?_
 have f1 := z10 h1
 try simp only [en.down] at f1
 refine bs fun v4 h3 => ?_
 have f2 := qxb _ _ h3
 try simp only [en.down] at f2
 rcases v4 with y5 | y6
 ·dsimp only
  rintro ⟨⟩
  exact fF q9v
 dsimp only
 rintro ⟨⟩
 exact fF q9v
def qma (name : Bytes) (w : (Sl T.qi)) (w2 : Bytes) (w3 : Bytes) (r1_ : (List T.qd)) (r2_ : (List Int)) (r3_ : (List Bytes)) : ((Int) ⊕ (Unit)) → Ex × St
 | .inl y => (Ex.ret,⟨[(0,AV.ptr 0 0),(1,v_s name),(4,v_i y)],[(0,Blk.box [v_l 2 T.qi.enc w,v_s w2,v_s w3,v_r 1 r1_,v_r 2 r2_,v_r 3 r3_]),(1,b_r 20 T.qd.enc r1_),(2,b_r 1 qg r2_),(3,b_r 1 qh r3_)],4⟩)
 | .inr y => (Ex.normal,⟨[(0,AV.ptr 0 0),(1,v_s name),(4,AV.undef)],[(0,Blk.box [v_l 2 T.qi.enc w,v_s w2,v_s w3,v_r 1 r1_,v_r 2 r2_,v_r 3 r3_]),(1,b_r 20 T.qd.enc r1_),(2,b_r 1 qg r2_),(3,b_r 1 qh r3_)],4⟩)
attribute [local go_sem] qma
theorem z9d : ∀ p r,q4s p = some r → O.loop 63 0 ⟨[(0,AV.ptr 0 0),(1,v_s p.1),(5,v_i p.2.1)],[(0,Blk.box [v_l 2 T.qi.enc p.2.2.1,v_s p.2.2.2.1,v_s p.2.2.2.2.1,v_r 1 p.2.2.2.2.2.1,v_r 2 p.2.2.2.2.2.2.1,v_r 3 p.2.2.2.2.2.2.2]),(1,b_r 20 T.qd.enc p.2.2.2.2.2.1),(2,b_r 1 qg p.2.2.2.2.2.2.1),(3,b_r 1 qh p.2.2.2.2.2.2.2)],4⟩ = some (qma p.1 p.2.2.1 p.2.2.2.1 p.2.2.2.2.1 p.2.2.2.2.2.1 p.2.2.2.2.2.2.1 p.2.2.2.2.2.2.2 r) := by
 refine q4s.partial_correctness _ ?_
 rintro q4s ih105 ⟨name,i,w,w2,w3,r1_,r2_,r3_⟩ r; dsimp only
 apply it <;> intro h1
 ·refine bW qh 1 fun x3 h2 f1 f2 f3 f4 f5 => ?_
  apply it <;> intro h4
  ·rintro ⟨⟩
   clear ih105; exact fL q9x
  intro h; have f6 := ih105 _ _ h; clear h
  try simp only [en.down,f4,f5] at f6
  try simp only [f4,f5] at f6
  clear ih105; exact fL q9x
 rintro ⟨⟩
 clear ih105; exact fL q9x
theorem qp8 {name b b_2 b_3 r_ r_2 r_3 r} (h : q7q name b b_2 b_3 r_ r_2 r_3 = some r) : O.call 63 [AV.ptr 0 0,v_s name] [(0,Blk.box [v_l 2 T.qi.enc b,v_s b_2,v_s b_3,v_r 1 r_,v_r 2 r_2,v_r 3 r_3]),(1,b_r 20 T.qd.enc r_),(2,b_r 1 qg r_2),(3,b_r 1 qh r_3)] = some (v_i r.1,[(0,Blk.box [v_l 2 T.qi.enc b,v_s b_2,v_s b_3,v_r 1 r_,v_r 2 r_2,v_r 3 r.2]),(1,b_r 20 T.qd.enc r_),(2,b_r 1 qg r_2),(3,b_r 1 qh r.2)]) := by
 revert h; unfold q7q
 refine bs fun v2 h1 => ?_
 have f1 := z9d _ _ h1
 try simp only [en.down] at f1
 rcases v2 with y3 | y4
 ·dsimp only
  rintro ⟨⟩
  exact fF q9x
 dsimp only
 refine gd fun h5 => ?_
 have f2 := rG 1 qh r_3
 have f3 : List.map qh r_3 ++ [[PV.str name]] = List.map qh (r_3 ++ [name]) := by simp only [List.map_append,List.map_cons,List.map_nil,zb,za,ze,qh] <;> rfl
 rintro ⟨⟩
 exact fF q9x
def qkp (l : (List Int)) : ((Bool) ⊕ (Unit)) → Ex × St
 | .inl y => (Ex.ret,⟨[(4,v_b y)],[(0,b_r 1 qg l)],1⟩)
 | .inr y => (Ex.normal,⟨[(4,AV.undef)],[(0,b_r 1 qg l)],1⟩)
attribute [local go_sem] qkp
theorem qwd : ∀ p r,q5b p = some r → O.loop 65 0 ⟨[(0,v_r 0 p.2.2),(1,v_i p.1),(5,v_i p.2.1)],[(0,b_r 1 qg p.2.2)],1⟩ = some (qkp p.2.2 r) := by
 refine q5b.partial_correctness _ ?_
 rintro q5b ih108 ⟨n,i,l⟩ r; dsimp only
 apply it <;> intro h1
 ·refine bW qg 1 fun x3 h2 f1 f2 f3 f4 f5 => ?_
  apply it <;> intro h4
  ·rintro ⟨⟩
   clear ih108; exact fL qal
  intro h; have f6 := ih108 _ _ h; clear h
  try simp only [en.down,f4,f5] at f6
  try simp only [f4,f5] at f6
  clear ih108; exact fL qal
 rintro ⟨⟩
 clear ih108; exact fL qal
theorem q81 {n r_ r} (h : q2u n r_ = some r) : O.call 65 [v_r 0 r_,v_i n] [(0,b_r 1 qg r_)] = some (v_b r,[(0,b_r 1 qg r_)]) := by
 revert h; unfold q2u
 refine bs fun v2 h1 => ?_
 have f1 := qwd _ _ h1
 try simp only [en.down] at f1
 rcases v2 with y3 | y4
 ·dsimp only
  rintro ⟨⟩
  exact fF qal
 dsimp only
 rintro ⟨⟩
 exact fF qal
theorem qo0 : ∀ p r,q6c p = some r → O.loop 62 0 ⟨[(0,AV.ptr 0 0),(3,v_b p.1),(5,AV.ptr 5 0),(8,v_i p.2.1),(9,AV.ptr 6 0),(10,v_i p.2.2.1)],[(0,Blk.box [v_l 2 T.qi.enc p.2.2.2.1,v_s p.2.2.2.2.1,v_s p.2.2.2.2.2.1,v_r 2 p.2.2.2.2.2.2.2.1,v_r 3 p.2.2.2.2.2.2.2.2.1,v_r 4 p.2.2.2.2.2.2.2.2.2.1]),(1,Blk.row false 18 (List.map T.qb.enc p.2.2.2.2.2.2.1)),(2,b_r 20 T.qd.enc p.2.2.2.2.2.2.2.1),(3,b_r 1 qg p.2.2.2.2.2.2.2.2.1),(4,b_r 1 qh p.2.2.2.2.2.2.2.2.2.1),(5,Blk.box [v_i p.2.2.2.2.2.2.2.2.2.2.1,v_s p.2.2.2.2.2.2.2.2.2.2.2.1,v_i p.2.2.2.2.2.2.2.2.2.2.2.2.1,v_b p.2.2.2.2.2.2.2.2.2.2.2.2.2.1,v_b p.2.2.2.2.2.2.2.2.2.2.2.2.2.2.1,v_i p.2.2.2.2.2.2.2.2.2.2.2.2.2.2.2.1,v_s p.2.2.2.2.2.2.2.2.2.2.2.2.2.2.2.2.1,v_b p.2.2.2.2.2.2.2.2.2.2.2.2.2.2.2.2.2.1,v_l 2 T.Row.enc p.2.2.2.2.2.2.2.2.2.2.2.2.2.2.2.2.2.2.1,v_i p.2.2.2.2.2.2.2.2.2.2.2.2.2.2.2.2.2.2.2.1,v_i p.2.2.2.2.2.2.2.2.2.2.2.2.2.2.2.2.2.2.2.2.1,v_b p.2.2.2.2.2.2.2.2.2.2.2.2.2.2.2.2.2.2.2.2.2.1,v_l 8 T.Rx.enc p.2.2.2.2.2.2.2.2.2.2.2.2.2.2.2.2.2.2.2.2.2.2.1,v_l 5 T.Fmt.enc p.2.2.2.2.2.2.2.2.2.2.2.2.2.2.2.2.2.2.2.2.2.2.2.1,v_b p.2.2.2.2.2.2.2.2.2.2.2.2.2.2.2.2.2.2.2.2.2.2.2.2.1,v_b p.2.2.2.2.2.2.2.2.2.2.2.2.2.2.2.2.2.2.2.2.2.2.2.2.2.1,v_l 1 qh p.2.2.2.2.2.2.2.2.2.2.2.2.2.2.2.2.2.2.2.2.2.2.2.2.2.2.1,v_r 1 p.2.2.2.2.2.2.1]),(6,Blk.box [v_i p.2.2.2.2.2.2.2.2.2.2.2.2.2.2.2.2.2.2.2.2.2.2.2.2.2.2.2.1,v_s p.2.2.2.2.2.2.2.2.2.2.2.2.2.2.2.2.2.2.2.2.2.2.2.2.2.2.2.2.1,v_i p.2.2.2.2.2.2.2.2.2.2.2.2.2.2.2.2.2.2.2.2.2.2.2.2.2.2.2.2.2.1,v_b p.2.2.2.2.2.2.2.2.2.2.2.2.2.2.2.2.2.2.2.2.2.2.2.2.2.2.2.2.2.2.1,v_b p.2.2.2.2.2.2.2.2.2.2.2.2.2.2.2.2.2.2.2.2.2.2.2.2.2.2.2.2.2.2.2.1,v_b p.2.2.2.2.2.2.2.2.2.2.2.2.2.2.2.2.2.2.2.2.2.2.2.2.2.2.2.2.2.2.2.2.1,v_i p.2.2.2.2.2.2.2.2.2.2.2.2.2.2.2.2.2.2.2.2.2.2.2.2.2.2.2.2.2.2.2.2.2.1,v_s p.2.2.2.2.2.2.2.2.2.2.2.2.2.2.2.2.2.2.2.2.2.2.2.2.2.2.2.2.2.2.2.2.2.2.1,v_b p.2.2.2.2.2.2.2.2.2.2.2.2.2.2.2.2.2.2.2.2.2.2.2.2.2.2.2.2.2.2.2.2.2.2.2.1,v_l 2 T.Row.enc p.2.2.2.2.2.2.2.2.2.2.2.2.2.2.2.2.2.2.2.2.2.2.2.2.2.2.2.2.2.2.2.2.2.2.2.2.1,v_i p.2.2.2.2.2.2.2.2.2.2.2.2.2.2.2.2.2.2.2.2.2.2.2.2.2.2.2.2.2.2.2.2.2.2.2.2.2.1,v_i p.2.2.2.2.2.2.2.2.2.2.2.2.2.2.2.2.2.2.2.2.2.2.2.2.2.2.2.2.2.2.2.2.2.2.2.2.2.2.1,v_b p.2.2.2.2.2.2.2.2.2.2.2.2.2.2.2.2.2.2.2.2.2.2.2.2.2.2.2.2.2.2.2.2.2.2.2.2.2.2.2.1,v_l 8 T.Rx.enc p.2.2.2.2.2.2.2.2.2.2.2.2.2.2.2.2.2.2.2.2.2.2.2.2.2.2.2.2.2.2.2.2.2.2.2.2.2.2.2.2.1,v_l 5 T.Fmt.enc p.2.2.2.2.2.2.2.2.2.2.2.2.2.2.2.2.2.2.2.2.2.2.2.2.2.2.2.2.2.2.2.2.2.2.2.2.2.2.2.2.2.1,v_b p.2.2.2.2.2.2.2.2.2.2.2.2.2.2.2.2.2.2.2.2.2.2.2.2.2.2.2.2.2.2.2.2.2.2.2.2.2.2.2.2.2.2.1,v_b p.2.2.2.2.2.2.2.2.2.2.2.2.2.2.2.2.2.2.2.2.2.2.2.2.2.2.2.2.2.2.2.2.2.2.2.2.2.2.2.2.2.2.2.1,v_r 7 p.2.2.2.2.2.2.2.2.2.2.2.2.2.2.2.2.2.2.2.2.2.2.2.2.2.2.2.2.2.2.2.2.2.2.2.2.2.2.2.2.2.2.2.2.2.2,v_i p.2.2.2.2.2.2.2.2.2.2.2.2.2.2.2.2.2.2.2.2.2.2.2.2.2.2.2.2.2.2.2.2.2.2.2.2.2.2.2.2.2.2.2.2.1,v_i p.2.2.2.2.2.2.2.2.2.2.2.2.2.2.2.2.2.2.2.2.2.2.2.2.2.2.2.2.2.2.2.2.2.2.2.2.2.2.2.2.2.2.2.2.2.1]),(7,b_r 1 qh p.2.2.2.2.2.2.2.2.2.2.2.2.2.2.2.2.2.2.2.2.2.2.2.2.2.2.2.2.2.2.2.2.2.2.2.2.2.2.2.2.2.2.2.2.2.2)],8⟩ = some (Ex.normal,⟨[(0,AV.ptr 0 0),(3,v_b p.1),(5,AV.ptr 5 0),(8,v_i p.2.1),(9,AV.ptr 6 0)],[(0,Blk.box [v_l 2 T.qi.enc p.2.2.2.1,v_s p.2.2.2.2.1,v_s p.2.2.2.2.2.1,v_r 2 p.2.2.2.2.2.2.2.1,v_r 3 p.2.2.2.2.2.2.2.2.1,v_r 4 p.2.2.2.2.2.2.2.2.2.1]),(1,Blk.row false 18 (List.map T.qb.enc p.2.2.2.2.2.2.1)),(2,b_r 20 T.qd.enc p.2.2.2.2.2.2.2.1),(3,b_r 1 qg p.2.2.2.2.2.2.2.2.1),(4,b_r 1 qh p.2.2.2.2.2.2.2.2.2.1),(5,Blk.box [v_i p.2.2.2.2.2.2.2.2.2.2.1,v_s p.2.2.2.2.2.2.2.2.2.2.2.1,v_i p.2.2.2.2.2.2.2.2.2.2.2.2.1,v_b p.2.2.2.2.2.2.2.2.2.2.2.2.2.1,v_b p.2.2.2.2.2.2.2.2.2.2.2.2.2.2.1,v_i p.2.2.2.2.2.2.2.2.2.2.2.2.2.2.2.1,v_s p.2.2.2.2.2.2.2.2.2.2.2.2.2.2.2.2.1,v_b p.2.2.2.2.2.2.2.2.2.2.2.2.2.2.2.2.2.1,v_l 2 T.Row.enc p.2.2.2.2.2.2.2.2.2.2.2.2.2.2.2.2.2.2.1,v_i p.2.2.2.2.2.2.2.2.2.2.2.2.2.2.2.2.2.2.2.1,v_i p.2.2.2.2.2.2.2.2.2.2.2.2.2.2.2.2.2.2.2.2.1,v_b p.2.2.2.2.2.2.2.2.2.2.2.2.2.2.2.2.2.2.2.2.2.1,v_l 8 T.Rx.enc p.2.2.2.2.2.2.2.2.2.2.2.2.2.2.2.2.2.2.2.2.2.2.1,v_l 5 T.Fmt.enc p.2.2.2.2.2.2.2.2.2.2.2.2.2.2.2.2.2.2.2.2.2.2.2.1,v_b p.2.2.2.2.2.2.2.2.2.2.2.2.2.2.2.2.2.2.2.2.2.2.2.2.1,v_b p.2.2.2.2.2.2.2.2.2.2.2.2.2.2.2.2.2.2.2.2.2.2.2.2.2.1,v_l 1 qh p.2.2.2.2.2.2.2.2.2.2.2.2.2.2.2.2.2.2.2.2.2.2.2.2.2.2.1,v_r 1 p.2.2.2.2.2.2.1]),(6,Blk.box [v_i p.2.2.2.2.2.2.2.2.2.2.2.2.2.2.2.2.2.2.2.2.2.2.2.2.2.2.2.1,v_s p.2.2.2.2.2.2.2.2.2.2.2.2.2.2.2.2.2.2.2.2.2.2.2.2.2.2.2.2.1,v_i p.2.2.2.2.2.2.2.2.2.2.2.2.2.2.2.2.2.2.2.2.2.2.2.2.2.2.2.2.2.1,v_b p.2.2.2.2.2.2.2.2.2.2.2.2.2.2.2.2.2.2.2.2.2.2.2.2.2.2.2.2.2.2.1,v_b p.2.2.2.2.2.2.2.2.2.2.2.2.2.2.2.2.2.2.2.2.2.2.2.2.2.2.2.2.2.2.2.1,v_b p.2.2.2.2.2.2.2.2.2.2.2.2.2.2.2.2.2.2.2.2.2.2.2.2.2.2.2.2.2.2.2.2.1,v_i p.2.2.2.2.2.2.2.2.2.2.2.2.2.2.2.2.2.2.2.2.2.2.2.2.2.2.2.2.2.2.2.2.2.1,v_s p.2.2.2.2.2.2.2.2.2.2.2.2.2.2.2.2.2.2.2.2.2.2.2.2.2.2.2.2.2.2.2.2.2.2.1,v_b p.2.2.2.2.2.2.2.2.2.2.2.2.2.2.2.2.2.2.2.2.2.2.2.2.2.2.2.2.2.2.2.2.2.2.2.1,v_l 2 T.Row.enc p.2.2.2.2.2.2.2.2.2.2.2.2.2.2.2.2.2.2.2.2.2.2.2.2.2.2.2.2.2.2.2.2.2.2.2.2.1,v_i p.2.2.2.2.2.2.2.2.2.2.2.2.2.2.2.2.2.2.2.2.2.2.2.2.2.2.2.2.2.2.2.2.2.2.2.2.2.1,v_i p.2.2.2.2.2.2.2.2.2.2.2.2.2.2.2.2.2.2.2.2.2.2.2.2.2.2.2.2.2.2.2.2.2.2.2.2.2.2.1,v_b p.2.2.2.2.2.2.2.2.2.2.2.2.2.2.2.2.2.2.2.2.2.2.2.2.2.2.2.2.2.2.2.2.2.2.2.2.2.2.2.1,v_l 8 T.Rx.enc p.2.2.2.2.2.2.2.2.2.2.2.2.2.2.2.2.2.2.2.2.2.2.2.2.2.2.2.2.2.2.2.2.2.2.2.2.2.2.2.2.1,v_l 5 T.Fmt.enc p.2.2.2.2.2.2.2.2.2.2.2.2.2.2.2.2.2.2.2.2.2.2.2.2.2.2.2.2.2.2.2.2.2.2.2.2.2.2.2.2.2.1,v_b p.2.2.2.2.2.2.2.2.2.2.2.2.2.2.2.2.2.2.2.2.2.2.2.2.2.2.2.2.2.2.2.2.2.2.2.2.2.2.2.2.2.2.1,v_b p.2.2.2.2.2.2.2.2.2.2.2.2.2.2.2.2.2.2.2.2.2.2.2.2.2.2.2.2.2.2.2.2.2.2.2.2.2.2.2.2.2.2.2.1,v_r 7 r,v_i p.2.2.2.2.2.2.2.2.2.2.2.2.2.2.2.2.2.2.2.2.2.2.2.2.2.2.2.2.2.2.2.2.2.2.2.2.2.2.2.2.2.2.2.2.1,v_i p.2.2.2.2.2.2.2.2.2.2.2.2.2.2.2.2.2.2.2.2.2.2.2.2.2.2.2.2.2.2.2.2.2.2.2.2.2.2.2.2.2.2.2.2.2.1]),(7,b_r 1 qh r)],8⟩) := by
 refine q6c.partial_correctness _ ?_
 rintro q6c ih109 ⟨plain,at_,i,w,w2,w3,r1_,r2_,r3_,r4_,x,x_2,x_3,x_4,x_5,x_6,x_7,x_8,x_9,x_10,x_11,x_12,x_13,x_14,x_15,x_16,x_17,p_,p_2,p_3,p_4,p_5,p_6,p_7,p_8,p_9,p_10,p_11,p_12,p_13,p_14,p_15,p_16,p_17,p_18,p_19,r7_⟩ r; dsimp only
 refine zl (fun h1 h2 => ?_) ?_
 ·refine bg qh fun x4 h3 f1 f2 f3 => ?_
  refine bs fun v6 h5 => ?_
  have f4 := qe5 h5
  try simp only [en.down] at f4
  refine gd fun h7 => ?_
  have f5 := rG 1 qh r7_
  have f6 : List.map qh r7_ ++ [[PV.str v6]] = List.map qh (r7_ ++ [v6]) := by simp only [List.map_append,List.map_cons,List.map_nil,zb,za,ze,qh] <;> rfl
  try simp only [h1] at f4
  intro h; have f7 := ih109 _ _ h; clear h
  try simp only [en.down] at f7
  try simp only [h1] at f7
  clear ih109; exact fL q0v
 rintro (⟨h1,h2⟩ | ⟨h1,h2⟩)
 all_goals
 rintro ⟨⟩
 clear ih109; exact fL q0v
theorem qi3 : ∀ p r,q1d p = some r → O.loop 62 0 ⟨[(0,AV.ptr 0 0),(3,v_b p.1),(5,AV.ptr 4 0),(8,v_i p.2.1),(9,AV.ptr 5 0),(10,v_i p.2.2.1)],[(0,Blk.box [v_l 2 T.qi.enc p.2.2.2.1,v_s p.2.2.2.2.1,v_s p.2.2.2.2.2.1,v_r 1 p.2.2.2.2.2.2.1,v_r 2 p.2.2.2.2.2.2.2.1,v_r 3 p.2.2.2.2.2.2.2.2.1]),(1,b_r 20 T.qd.enc p.2.2.2.2.2.2.1),(2,b_r 1 qg p.2.2.2.2.2.2.2.1),(3,b_r 1 qh p.2.2.2.2.2.2.2.2.1),(4,b_x (T.qb.enc p.2.2.2.2.2.2.2.2.2.1)),(5,Blk.box [v_i p.2.2.2.2.2.2.2.2.2.2.1,v_s p.2.2.2.2.2.2.2.2.2.2.2.1,v_i p.2.2.2.2.2.2.2.2.2.2.2.2.1,v_b p.2.2.2.2.2.2.2.2.2.2.2.2.2.1,v_b p.2.2.2.2.2.2.2.2.2.2.2.2.2.2.1,v_b p.2.2.2.2.2.2.2.2.2.2.2.2.2.2.2.1,v_i p.2.2.2.2.2.2.2.2.2.2.2.2.2.2.2.2.1,v_s p.2.2.2.2.2.2.2.2.2.2.2.2.2.2.2.2.2.1,v_b p.2.2.2.2.2.2.2.2.2.2.2.2.2.2.2.2.2.2.1,v_l 2 T.Row.enc p.2.2.2.2.2.2.2.2.2.2.2.2.2.2.2.2.2.2.2.1,v_i p.2.2.2.2.2.2.2.2.2.2.2.2.2.2.2.2.2.2.2.2.1,v_i p.2.2.2.2.2.2.2.2.2.2.2.2.2.2.2.2.2.2.2.2.2.1,v_b p.2.2.2.2.2.2.2.2.2.2.2.2.2.2.2.2.2.2.2.2.2.2.1,v_l 8 T.Rx.enc p.2.2.2.2.2.2.2.2.2.2.2.2.2.2.2.2.2.2.2.2.2.2.2.1,v_l 5 T.Fmt.enc p.2.2.2.2.2.2.2.2.2.2.2.2.2.2.2.2.2.2.2.2.2.2.2.2.1,v_b p.2.2.2.2.2.2.2.2.2.2.2.2.2.2.2.2.2.2.2.2.2.2.2.2.2.1,v_b p.2.2.2.2.2.2.2.2.2.2.2.2.2.2.2.2.2.2.2.2.2.2.2.2.2.2.1,v_r 6 p.2.2.2.2.2.2.2.2.2.2.2.2.2.2.2.2.2.2.2.2.2.2.2.2.2.2.2.2.2,v_i p.2.2.2.2.2.2.2.2.2.2.2.2.2.2.2.2.2.2.2.2.2.2.2.2.2.2.2.1,v_i p.2.2.2.2.2.2.2.2.2.2.2.2.2.2.2.2.2.2.2.2.2.2.2.2.2.2.2.2.1]),(6,b_r 1 qh p.2.2.2.2.2.2.2.2.2.2.2.2.2.2.2.2.2.2.2.2.2.2.2.2.2.2.2.2.2)],7⟩ = some (Ex.normal,⟨[(0,AV.ptr 0 0),(3,v_b p.1),(5,AV.ptr 4 0),(8,v_i p.2.1),(9,AV.ptr 5 0)],[(0,Blk.box [v_l 2 T.qi.enc p.2.2.2.1,v_s p.2.2.2.2.1,v_s p.2.2.2.2.2.1,v_r 1 p.2.2.2.2.2.2.1,v_r 2 p.2.2.2.2.2.2.2.1,v_r 3 p.2.2.2.2.2.2.2.2.1]),(1,b_r 20 T.qd.enc p.2.2.2.2.2.2.1),(2,b_r 1 qg p.2.2.2.2.2.2.2.1),(3,b_r 1 qh p.2.2.2.2.2.2.2.2.1),(4,b_x (T.qb.enc p.2.2.2.2.2.2.2.2.2.1)),(5,Blk.box [v_i p.2.2.2.2.2.2.2.2.2.2.1,v_s p.2.2.2.2.2.2.2.2.2.2.2.1,v_i p.2.2.2.2.2.2.2.2.2.2.2.2.1,v_b p.2.2.2.2.2.2.2.2.2.2.2.2.2.1,v_b p.2.2.2.2.2.2.2.2.2.2.2.2.2.2.1,v_b p.2.2.2.2.2.2.2.2.2.2.2.2.2.2.2.1,v_i p.2.2.2.2.2.2.2.2.2.2.2.2.2.2.2.2.1,v_s p.2.2.2.2.2.2.2.2.2.2.2.2.2.2.2.2.2.1,v_b p.2.2.2.2.2.2.2.2.2.2.2.2.2.2.2.2.2.2.1,v_l 2 T.Row.enc p.2.2.2.2.2.2.2.2.2.2.2.2.2.2.2.2.2.2.2.1,v_i p.2.2.2.2.2.2.2.2.2.2.2.2.2.2.2.2.2.2.2.2.1,v_i p.2.2.2.2.2.2.2.2.2.2.2.2.2.2.2.2.2.2.2.2.2.1,v_b p.2.2.2.2.2.2.2.2.2.2.2.2.2.2.2.2.2.2.2.2.2.2.1,v_l 8 T.Rx.enc p.2.2.2.2.2.2.2.2.2.2.2.2.2.2.2.2.2.2.2.2.2.2.2.1,v_l 5 T.Fmt.enc p.2.2.2.2.2.2.2.2.2.2.2.2.2.2.2.2.2.2.2.2.2.2.2.2.1,v_b p.2.2.2.2.2.2.2.2.2.2.2.2.2.2.2.2.2.2.2.2.2.2.2.2.2.1,v_b p.2.2.2.2.2.2.2.2.2.2.2.2.2.2.2.2.2.2.2.2.2.2.2.2.2.2.1,v_r 6 r,v_i p.2.2.2.2.2.2.2.2.2.2.2.2.2.2.2.2.2.2.2.2.2.2.2.2.2.2.2.1,v_i p.2.2.2.2.2.2.2.2.2.2.2.2.2.2.2.2.2.2.2.2.2.2.2.2.2.2.2.2.1]),(6,b_r 1 qh r)],7⟩) := by
 refine q1d.partial_correctness _ ?_
 rintro q1d ih111 ⟨plain,at_,i,w,w2,w3,r1_,r2_,r3_,x,p_,p_2,p_3,p_4,p_5,p_6,p_7,p_8,p_9,p_10,p_11,p_12,p_13,p_14,p_15,p_16,p_17,p_18,p_19,r6_⟩ r; dsimp only
 refine zl (fun h1 h2 => ?_) ?_
 ·refine bg qh fun x4 h3 f1 f2 f3 => ?_
  refine bs fun v6 h5 => ?_
  have f4 := qe5 h5
  try simp only [en.down] at f4
  refine gd fun h7 => ?_
  have f5 := rG 1 qh r6_
  have f6 : List.map qh r6_ ++ [[PV.str v6]] = List.map qh (r6_ ++ [v6]) := by simp only [List.map_append,List.map_cons,List.map_nil,zb,za,ze,qh] <;> rfl
  try simp only [h1] at f4
  intro h; have f7 := ih111 _ _ h; clear h
  try simp only [en.down] at f7
  try simp only [h1] at f7
  clear ih111; exact fL q0v
 rintro (⟨h1,h2⟩ | ⟨h1,h2⟩)
 all_goals
 rintro ⟨⟩
 clear ih111; exact fL q0v
def qns (b : (Sl T.qi)) (b_2 : Bytes) (b_3 : Bytes) (r_ : (List T.qb)) (r_4 : (List Bytes)) : (((List T.qd) × (List Int)) ⊕ ((Sl T.qi) × Bytes × Bytes × (List T.qd) × (List Int) × (List Bytes))) → AV × Heap
 | .inl y => (AV.tup [],[(0,Blk.box [v_l 2 T.qi.enc b,v_s b_2,v_s b_3,v_r 2 y.1,v_r 3 y.2,v_r 4 r_4]),(1,Blk.row false 18 (List.map T.qb.enc r_)),(2,b_r 20 T.qd.enc y.1),(3,b_r 1 qg y.2),(4,b_r 1 qh r_4)])
 | .inr y => (AV.tup [],[(0,Blk.box [v_l 2 T.qi.enc y.1,v_s y.2.1,v_s y.2.2.1,v_r 2 y.2.2.2.1,v_r 3 y.2.2.2.2.1,v_r 4 y.2.2.2.2.2]),(1,Blk.dead),(2,b_r 20 T.qd.enc y.2.2.2.1),(3,b_r 1 qg y.2.2.2.2.1),(4,b_r 1 qh y.2.2.2.2.2)])
attribute [local go_sem] qns
theorem qg8 : (∀ p r,q0q p = some r → O.call 41 [AV.ptr 0 0,v_l 18 T.qb.enc p.1,v_i p.2.1] [(0,Blk.box [v_l 2 T.qi.enc p.2.2.1,v_s p.2.2.2.1,v_s p.2.2.2.2.1,v_r 1 p.2.2.2.2.2.1,v_r 2 p.2.2.2.2.2.2.1,v_r 3 p.2.2.2.2.2.2.2]),(1,b_r 20 T.qd.enc p.2.2.2.2.2.1),(2,b_r 1 qg p.2.2.2.2.2.2.1),(3,b_r 1 qh p.2.2.2.2.2.2.2)] = some (AV.tup [],[(0,Blk.box [v_l 2 T.qi.enc r.1,v_s r.2.1,v_s r.2.2.1,v_r 1 r.2.2.2.1,v_r 2 r.2.2.2.2.1,v_r 3 r.2.2.2.2.2]),(1,b_r 20 T.qd.enc r.2.2.2.1),(2,b_r 1 qg r.2.2.2.2.1),(3,b_r 1 qh r.2.2.2.2.2)])) ∧ (∀ p r,bz p = some r → O.loop 41 0 ⟨[(0,AV.ptr 0 0),(1,v_l 18 T.qb.enc p.1),(2,v_i p.2.1),(6,v_i p.2.2.1)],[(0,Blk.box [v_l 2 T.qi.enc p.2.2.2.1,v_s p.2.2.2.2.1,v_s p.2.2.2.2.2.1,v_r 1 p.2.2.2.2.2.2.1,v_r 2 p.2.2.2.2.2.2.2.1,v_r 3 p.2.2.2.2.2.2.2.2]),(1,b_r 20 T.qd.enc p.2.2.2.2.2.2.1),(2,b_r 1 qg p.2.2.2.2.2.2.2.1),(3,b_r 1 qh p.2.2.2.2.2.2.2.2)],4⟩ = some (Ex.normal,⟨[],[(0,Blk.box [v_l 2 T.qi.enc r.1,v_s r.2.1,v_s r.2.2.1,v_r 1 r.2.2.2.1,v_r 2 r.2.2.2.2.1,v_r 3 r.2.2.2.2.2]),(1,b_r 20 T.qd.enc r.2.2.2.1),(2,b_r 1 qg r.2.2.2.2.1),(3,b_r 1 qh r.2.2.2.2.2)],4⟩)) ∧ (∀ p r,q87 p = some r → O.call 62 [AV.ptr 0 0,v_g (T.qb.enc p.1),v_i p.2.1,v_b p.2.2.1] [(0,Blk.box [v_l 2 T.qi.enc p.2.2.2.1,v_s p.2.2.2.2.1,v_s p.2.2.2.2.2.1,v_r 1 p.2.2.2.2.2.2.1,v_r 2 p.2.2.2.2.2.2.2.1,v_r 3 p.2.2.2.2.2.2.2.2]),(1,b_r 20 T.qd.enc p.2.2.2.2.2.2.1),(2,b_r 1 qg p.2.2.2.2.2.2.2.1),(3,b_r 1 qh p.2.2.2.2.2.2.2.2)] = some (AV.tup [],[(0,Blk.box [v_l 2 T.qi.enc r.1,v_s r.2.1,v_s r.2.2.1,v_r 1 r.2.2.2.1,v_r 2 r.2.2.2.2.1,v_r 3 r.2.2.2.2.2]),(1,b_r 20 T.qd.enc r.2.2.2.1),(2,b_r 1 qg r.2.2.2.2.1),(3,b_r 1 qh r.2.2.2.2.2)])) ∧ (∀ p r,q7z p = some r → O.call 62 [AV.ptr 0 0,AV.agg [v_i p.1,v_s p.2.1,v_i p.2.2.1,v_b p.2.2.2.1,v_b p.2.2.2.2.1,v_i p.2.2.2.2.2.1,v_s p.2.2.2.2.2.2.1,v_b p.2.2.2.2.2.2.2.1,v_l 2 T.Row.enc p.2.2.2.2.2.2.2.2.1,v_i p.2.2.2.2.2.2.2.2.2.1,v_i p.2.2.2.2.2.2.2.2.2.2.1,v_b p.2.2.2.2.2.2.2.2.2.2.2.1,v_l 8 T.Rx.enc p.2.2.2.2.2.2.2.2.2.2.2.2.1,v_l 5 T.Fmt.enc p.2.2.2.2.2.2.2.2.2.2.2.2.2.1,v_b p.2.2.2.2.2.2.2.2.2.2.2.2.2.2.1,v_b p.2.2.2.2.2.2.2.2.2.2.2.2.2.2.2.1,v_l 1 qh p.2.2.2.2.2.2.2.2.2.2.2.2.2.2.2.2.1,v_r 1 p.2.2.2.2.2.2.2.2.2.2.2.2.2.2.2.2.2.2.2.2.2.2.1],v_i p.2.2.2.2.2.2.2.2.2.2.2.2.2.2.2.2.2.1,v_b p.2.2.2.2.2.2.2.2.2.2.2.2.2.2.2.2.2.2.1] [(0,Blk.box [v_l 2 T.qi.enc p.2.2.2.2.2.2.2.2.2.2.2.2.2.2.2.2.2.2.2.1,v_s p.2.2.2.2.2.2.2.2.2.2.2.2.2.2.2.2.2.2.2.2.1,v_s p.2.2.2.2.2.2.2.2.2.2.2.2.2.2.2.2.2.2.2.2.2.1,v_r 2 p.2.2.2.2.2.2.2.2.2.2.2.2.2.2.2.2.2.2.2.2.2.2.2.1,v_r 3 p.2.2.2.2.2.2.2.2.2.2.2.2.2.2.2.2.2.2.2.2.2.2.2.2.1,v_r 4 p.2.2.2.2.2.2.2.2.2.2.2.2.2.2.2.2.2.2.2.2.2.2.2.2.2]),(1,Blk.row false 18 (List.map T.qb.enc p.2.2.2.2.2.2.2.2.2.2.2.2.2.2.2.2.2.2.2.2.2.2.1)),(2,b_r 20 T.qd.enc p.2.2.2.2.2.2.2.2.2.2.2.2.2.2.2.2.2.2.2.2.2.2.2.1),(3,b_r 1 qg p.2.2.2.2.2.2.2.2.2.2.2.2.2.2.2.2.2.2.2.2.2.2.2.2.1),(4,b_r 1 qh p.2.2.2.2.2.2.2.2.2.2.2.2.2.2.2.2.2.2.2.2.2.2.2.2.2)] = some (qns p.2.2.2.2.2.2.2.2.2.2.2.2.2.2.2.2.2.2.2.1 p.2.2.2.2.2.2.2.2.2.2.2.2.2.2.2.2.2.2.2.2.1 p.2.2.2.2.2.2.2.2.2.2.2.2.2.2.2.2.2.2.2.2.2.1 p.2.2.2.2.2.2.2.2.2.2.2.2.2.2.2.2.2.2.2.2.2.2.1 p.2.2.2.2.2.2.2.2.2.2.2.2.2.2.2.2.2.2.2.2.2.2.2.2.2 r)) := by
 refine q0q.mutual_partial_correctness _ _ _ _ ?_ ?_ ?_ ?_
 ·rintro bz ih100 ⟨l,up,b,b_2,b_3,r_,r_2,r_3⟩ r; dsimp only
  refine bs fun v2 h1 => ?_
  have f1 := ih100 _ _ h1
  try simp only [en.down] at f1
  rintro ⟨⟩
  clear ih100; exact fF yl
 ·rintro q0q bz q87 q7z ih99 ih100 ih110 ih106 ⟨l,up,i,w,w2,w3,r1_,r2_,r3_⟩ r; dsimp only
  apply it <;> intro h1
  ·refine bg T.qb.enc fun x3 h2 f1 f2 f3 => ?_
   apply it <;> intro h4
   ·refine bs fun v6 h5 => ?_
    have f4 := qe5 h5
    try simp only [en.down] at f4
    refine bs fun v8 h7 => ?_
    have f5 := q0p h7
    try simp only [en.down] at f5
    intro h; have f6 := ih100 _ _ h; clear h
    try simp only [en.down] at f6
    clear ih99 ih100 ih106 ih110; exact fL yl
   apply it <;> intro h9
   ·refine bs fun v11 h10 => ?_
    have f7 := qi4 h10
    try simp only [en.down] at f7
    apply it <;> intro h12
    ·refine bs fun v14 h13 => ?_
     have f8 := q0p h13
     try simp only [en.down] at f8
     try simp only [h12] at f7 f8
     intro h; have f9 := ih100 _ _ h; clear h
     try simp only [en.down] at f9
     try simp only [h12] at f9
     clear ih99 ih100 ih106 ih110; exact fL yl
    apply it <;> intro h15
    ·refine bs fun v17 h16 => ?_
     have f10 := ih99 _ _ h16
     try simp only [en.down] at f10
     try simp only [h12,h15] at f7 f10
     intro h; have f11 := ih100 _ _ h; clear h
     try simp only [en.down] at f11
     try simp only [h12,h15] at f11
     clear ih99 ih100 ih106 ih110; exact fL yl
    refine bs fun v19 h18 => ?_
    have f12 := qol h18
    try simp only [en.down] at f12
    refine xe ?_ (fun h20 h23 => ?_)
    ·rintro (⟨h20,h23⟩ | ⟨h20,h23⟩)
     all_goals
     refine bs fun v22 h21 => ?_
     have f13 := q0p h21
     try simp only [en.down] at f13
     try simp only [h12,h15,h20,h23] at f7 f12 f13
     intro h; have f14 := ih100 _ _ h; clear h
     try simp only [en.down] at f14
     try simp only [h12,h15,h20,h23] at f14
     clear ih99 ih100 ih106 ih110; exact fL yl
    refine bs fun v27 h26 => ?_
    have f15 := qp8 h26
    try simp only [en.down] at f15
    refine bs fun v29 h28 => ?_
    have f16 := ih106 _ _ h28
    try simp only [en.down] at f16
    rcases v29 with y30 | y31
    ·dsimp only
     try simp only [h12,h15,h20,h23] at f7 f12 f15 f16
     intro h; have f17 := ih100 _ _ h; clear h
     try simp only [en.down] at f17
     try simp only [h12,h15,h20,h23] at f17
     clear ih99 ih100 ih106 ih110; exact fL yl
    dsimp only
    try simp only [h12,h15,h20,h23] at f7 f12 f15 f16
    intro h; have f18 := ih100 _ _ h; clear h
    try simp only [en.down] at f18
    try simp only [h12,h15,h20,h23] at f18
    clear ih99 ih100 ih106 ih110; exact fL yl
   refine bs fun v33 h32 => ?_
   have f19 := ih110 _ _ h32
   try simp only [en.down] at f19
   intro h; have f20 := ih100 _ _ h; clear h
   try simp only [en.down] at f20
   clear ih99 ih100 ih106 ih110; exact fL yl
  rintro ⟨⟩
  clear ih99 ih100 ih106 ih110; exact fL yl
 ·rintro q0q ih99 ⟨x,up,plain,b,b_2,b_3,r_,r_2,r_3⟩ r; dsimp only
  refine xe ?_ (fun h1 h21 => ?_)
  ·rintro (⟨h1,h21⟩ | ⟨h1,h21⟩)
   all_goals
   refine bs fun v3 h2 => ?_
   have f1 := q81 h2
   try simp only [en.down] at f1
   refine bs fun v5 h4 => ?_
   have f2 := qi3 _ _ h4
   try simp only [en.down] at f2
   refine bs fun v7 h6 => ?_
   have f3 := q0p h6
   try simp only [en.down] at f3
   apply it <;> intro h8
   ·try simp only [h1] at f1 f2 f3
    rintro ⟨⟩
    clear ih99; exact fF q0v
   refine gd fun h9 => ?_
   have f4 := rG 1 qg r_2
   apply it <;> intro h10
   ·refine bg T.qb.enc fun x12 h11 f5 f6 f7 => ?_
    have f8 : List.map qg r_2 ++ [[PV.int IntKind.i64 x.n]] = List.map qg (r_2 ++ [x.n]) := by simp only [List.map_append,List.map_cons,List.map_nil,zb,za,ze,qg] <;> rfl
    refine bs fun v14 h13 => ?_
    have f9 := q0p h13
    try simp only [en.down] at f9
    refine bW T.qd.enc 20 fun x16 h15 f10 f11 f12 f13 f14 => ?_
    have f15 := map_set T.qd.enc v14 ((r_.length : Int).toNat) (T.qd.mk x16.kind x16.text x16.n x16.def_ x16.first x16.turned x16.form x16.opts x16.up (v14.length : Int))
    try simp only [en.down] at f15
    try simp only [h1,h10,f13,f14] at f1 f2 f3 f9 f15
    rintro ⟨⟩
    clear ih99; exact fF q0v
   have f16 : List.map qg r_2 ++ [[PV.int IntKind.i64 x.n]] = List.map qg (r_2 ++ [x.n]) := by simp only [List.map_append,List.map_cons,List.map_nil,zb,za,ze,qg] <;> rfl
   refine bs fun v18 h17 => ?_
   have f17 := ih99 _ _ h17
   try simp only [en.down] at f17
   refine bW T.qd.enc 20 fun x20 h19 f18 f19 f20 f21 f22 => ?_
   have f23 := map_set T.qd.enc v18.2.2.2.1 ((r_.length : Int).toNat) (T.qd.mk x20.kind x20.text x20.n x20.def_ x20.first x20.turned x20.form x20.opts x20.up (v18.2.2.2.1.length : Int))
   try simp only [en.down] at f23
   try simp only [h1,h10,f21,f22] at f1 f2 f3 f17 f23
   rintro ⟨⟩
   clear ih99; exact fF q0v
  refine bs fun v42 h41 => ?_
  have f24 := qi3 _ _ h41
  try simp only [en.down] at f24
  refine bs fun v44 h43 => ?_
  have f25 := q0p h43
  try simp only [en.down] at f25
  try simp only [h1] at f24 f25
  rintro ⟨⟩
  clear ih99; exact fF q0v
 ·rintro q0q ih99 ⟨x,x_2,x_3,x_4,x_5,x_6,x_7,x_8,x_9,x_10,x_11,x_12,x_13,x_14,x_15,x_16,x_17,up,plain,b,b_2,b_3,r_,r_2,r_3,r_4⟩ r; dsimp only
  refine xe ?_ (fun h1 h21 => ?_)
  ·rintro (⟨h1,h21⟩ | ⟨h1,h21⟩)
   all_goals
   refine bs fun v3 h2 => ?_
   have f1 := q81 h2
   try simp only [en.down] at f1
   refine bs fun v5 h4 => ?_
   have f2 := qo0 _ _ h4
   try simp only [en.down] at f2
   refine bs fun v7 h6 => ?_
   have f3 := q0p h6
   try simp only [en.down] at f3
   apply it <;> intro h8
   ·try simp only [h1] at f1 f2 f3
    rintro ⟨⟩
    clear ih99; exact fF q0v
   refine gd fun h9 => ?_
   have f4 := rG 1 qg r_3
   apply it <;> intro h10
   ·refine bw T.qb.enc fun x12 h11 f5 f6 f7 => ?_
    have f8 : List.map qg r_3 ++ [[PV.int IntKind.i64 x_3]] = List.map qg (r_3 ++ [x_3]) := by simp only [List.map_append,List.map_cons,List.map_nil,zb,za,ze,qg] <;> rfl
    refine bs fun v14 h13 => ?_
    have f9 := q0p h13
    try simp only [en.down] at f9
    refine bW T.qd.enc 20 fun x16 h15 f10 f11 f12 f13 f14 => ?_
    have f15 := map_set T.qd.enc v14 ((r_2.length : Int).toNat) (T.qd.mk x16.kind x16.text x16.n x16.def_ x16.first x16.turned x16.form x16.opts x16.up (v14.length : Int))
    try simp only [en.down] at f15
    try simp only [h1,h10,f13,f14] at f1 f2 f3 f9 f15
    rintro ⟨⟩
    clear ih99; exact fF q0v
   have f16 : List.map qg r_3 ++ [[PV.int IntKind.i64 x_3]] = List.map qg (r_3 ++ [x_3]) := by simp only [List.map_append,List.map_cons,List.map_nil,zb,za,ze,qg] <;> rfl
   refine bs fun v18 h17 => ?_
   have f17 := ih99 _ _ h17
   try simp only [en.down] at f17
   refine bW T.qd.enc 20 fun x20 h19 f18 f19 f20 f21 f22 => ?_
   have f23 := map_set T.qd.enc v18.2.2.2.1 ((r_2.length : Int).toNat) (T.qd.mk x20.kind x20.text x20.n x20.def_ x20.first x20.turned x20.form x20.opts x20.up (v18.2.2.2.1.length : Int))
   try simp only [en.down] at f23
   try simp only [h1,h10,f21,f22] at f1 f2 f3 f17 f23
   rintro ⟨⟩
   clear ih99; exact fF q0v
  refine bs fun v42 h41 => ?_
  have f24 := qo0 _ _ h41
  try simp only [en.down] at f24
  refine bs fun v44 h43 => ?_
  have f25 := q0p h43
  try simp only [en.down] at f25
  try simp only [h1] at f24 f25
  rintro ⟨⟩
  clear ih99; exact fF q0v
theorem z0e : ∀ p r,gm p = some r → O.loop 41 0 ⟨[(0,AV.ptr 0 0),(1,v_l 18 T.qb.enc p.1),(2,v_i p.2.1),(6,v_i p.2.2.1)],[(0,Blk.box [v_l 2 T.qi.enc p.2.2.2.1,v_s p.2.2.2.2.1,v_s p.2.2.2.2.2.1,v_r 1 p.2.2.2.2.2.2.1,v_r 2 p.2.2.2.2.2.2.2.1,v_r 3 p.2.2.2.2.2.2.2.2]),(1,b_r 20 T.qd.enc p.2.2.2.2.2.2.1),(2,b_r 1 qg p.2.2.2.2.2.2.2.1),(3,b_r 1 qh p.2.2.2.2.2.2.2.2)],4⟩ = some (Ex.normal,⟨[],[(0,Blk.box [v_l 2 T.qi.enc r.1,v_s r.2.1,v_s r.2.2.1,v_r 1 r.2.2.2.1,v_r 2 r.2.2.2.2.1,v_r 3 r.2.2.2.2.2]),(1,b_r 20 T.qd.enc r.2.2.2.1),(2,b_r 1 qg r.2.2.2.2.1),(3,b_r 1 qh r.2.2.2.2.2)],4⟩) := by
 refine gm.partial_correctness _ ?_
 rintro gm ih93 ⟨l,up,i,w,w2,w3,r1_,r2_,r3_⟩ r; dsimp only
 apply it <;> intro h1
 ·refine bg T.qb.enc fun x3 h2 f1 f2 f3 => ?_
  apply it <;> intro h4
  ·refine bs fun v6 h5 => ?_
   have f4 := qe5 h5
   try simp only [en.down] at f4
   refine bs fun v8 h7 => ?_
   have f5 := q0p h7
   try simp only [en.down] at f5
   intro h; have f6 := ih93 _ _ h; clear h
   try simp only [en.down] at f6
   clear ih93; exact fL yl
  apply it <;> intro h9
  ·refine bs fun v11 h10 => ?_
   have f7 := qi4 h10
   try simp only [en.down] at f7
   apply it <;> intro h12
   ·refine bs fun v14 h13 => ?_
    have f8 := q0p h13
    try simp only [en.down] at f8
    try simp only [h12] at f7 f8
    intro h; have f9 := ih93 _ _ h; clear h
    try simp only [en.down] at f9
    try simp only [h12] at f9
    clear ih93; exact fL yl
   apply it <;> intro h15
   ·refine bs fun v17 h16 => ?_
    have f10 := qg8.1 _ _ h16
    try simp only [en.down] at f10
    try simp only [h12,h15] at f7 f10
    intro h; have f11 := ih93 _ _ h; clear h
    try simp only [en.down] at f11
    try simp only [h12,h15] at f11
    clear ih93; exact fL yl
   refine bs fun v19 h18 => ?_
   have f12 := qol h18
   try simp only [en.down] at f12
   refine xe ?_ (fun h20 h23 => ?_)
   ·rintro (⟨h20,h23⟩ | ⟨h20,h23⟩)
    all_goals
    refine bs fun v22 h21 => ?_
    have f13 := q0p h21
    try simp only [en.down] at f13
    try simp only [h12,h15,h20,h23] at f7 f12 f13
    intro h; have f14 := ih93 _ _ h; clear h
    try simp only [en.down] at f14
    try simp only [h12,h15,h20,h23] at f14
    clear ih93; exact fL yl
   refine bs fun v27 h26 => ?_
   have f15 := qp8 h26
   try simp only [en.down] at f15
   refine bs fun v29 h28 => ?_
   have f16 := qg8.2.2.2 _ _ h28
   try simp only [en.down] at f16
   rcases v29 with y30 | y31
   ·dsimp only
    try simp only [h12,h15,h20,h23] at f7 f12 f15 f16
    intro h; have f17 := ih93 _ _ h; clear h
    try simp only [en.down] at f17
    try simp only [h12,h15,h20,h23] at f17
    clear ih93; exact fL yl
   dsimp only
   try simp only [h12,h15,h20,h23] at f7 f12 f15 f16
   intro h; have f18 := ih93 _ _ h; clear h
   try simp only [en.down] at f18
   try simp only [h12,h15,h20,h23] at f18
   clear ih93; exact fL yl
  refine bs fun v33 h32 => ?_
  have f19 := qg8.2.2.1 _ _ h32
  try simp only [en.down] at f19
  intro h; have f20 := ih93 _ _ h; clear h
  try simp only [en.down] at f20
  clear ih93; exact fL yl
 rintro ⟨⟩
 clear ih93; exact fL yl
end Go.Proofs.YtdhgdeelagmbpaaGreat
