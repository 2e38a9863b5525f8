/-
  What the machine's calls come to: the plain functions.
-/
import Derived.Test.YtdhgdeelagmbpaaGreatQaj
set_option linter.unusedSimpArgs false
set_option linter.unusedVariables false
set_option maxRecDepth 100000
namespace Go.Proofs.YtdhgdeelagmbpaaGreat
open Go Go.Gm
set_option maxHeartbeats 4000000
theorem zfz {at_ b r_ r_2 r} (h : qav at_ b r_ r_2 = some r) : O.call 37 [AV.ptr 0 0,v_i at_] [(0,Blk.box [v_s b,v_r 1 r_,v_r 2 r_2]),(1,Blk.row false 18 (List.map T.qc.enc r_)),(2,Blk.row false 1 (List.map qb r_2))] = some (AV.tup [v_g (T.qc.enc r.1),v_i r.2.1,v_b r.2.2],[(0,Blk.box [v_s b,v_r 1 r_,v_r 2 r_2]),(1,Blk.row false 18 (List.map T.qc.enc r_)),(2,Blk.row false 1 (List.map qb r_2))]) := by
 revert h; unfold qav
 refine bs fun v2 h1 => ?_
 have f1 := qj0 h1
 try simp only [en.down] at f1
 apply it <;> intro h3
 ·try simp only [h3] at f1
  rintro ⟨⟩
  exact fF q29
 apply it <;> intro h4
 ·try simp only [h3] at f1
  rintro ⟨⟩
  exact fF q29
 refine bc fun b6 h5 f2 f3 => ?_
 apply it <;> intro h7
 ·try simp only [h3] at f1
  rintro ⟨⟩
  exact fF q29
 refine bs fun v9 h8 => ?_
 have f4 := qj0 h8
 try simp only [en.down] at f4
 refine xy ?_ (fun h10 h11 => ?_)
 ·rintro (⟨h10,h11⟩ | ⟨h10,h11⟩)
  all_goals
  try simp only [h3] at f1 f4
  rintro ⟨⟩
  exact fF q29
 refine bc fun b13 h12 f5 f6 => ?_
 apply it <;> intro h14
 ·try simp only [h3] at f1 f4
  rintro ⟨⟩
  exact fF q29
 apply it <;> intro h15
 ·refine bs fun v17 h16 => ?_
  have f7 := qla h16
  try simp only [en.down] at f7
  try simp only [h3] at f1 f4 f7
  rintro ⟨⟩
  exact fF q29
 apply it <;> intro h18
 ·refine bs fun v20 h19 => ?_
  have f8 := ztd h19
  try simp only [en.down] at f8
  try simp only [h3] at f1 f4 f8
  rintro ⟨⟩
  exact fF q29
 refine zo (fun h21 h22 => ?_) ?_
 ·refine bs fun v24 h23 => ?_
  have f9 := zae h23
  try simp only [en.down] at f9
  refine zo (fun h25 h26 => ?_) ?_
  ·refine bc fun b28 h27 f10 f11 => ?_
   try simp only [h3] at f1 f4 f9
   rintro ⟨⟩
   exact fF q29
  rintro (⟨h25,h26⟩ | ⟨h25,h26⟩)
  all_goals
  try simp only [h3] at f1 f4 f9
  rintro ⟨⟩
  exact fF q29
 rintro (⟨h21,h22⟩ | ⟨h21,h22⟩)
 all_goals
 try simp only [h3] at f1 f4
 rintro ⟨⟩
 exact fF q29
theorem z1i : ∀ p r,q3t p = some r → O.loop 19 0 ⟨[(0,v_s p.1),(4,AV.ptr 2 0),(5,v_i p.2.1)],[(0,Blk.row false 18 (List.map T.qc.enc p.2.2.1)),(1,Blk.row false 1 (List.map qb p.2.2.2.1)),(2,Blk.box [v_s p.2.2.2.2,v_r 0 p.2.2.1,v_r 1 p.2.2.2.1])],3⟩ = some (Ex.normal,⟨[(4,AV.ptr 2 0)],[(0,Blk.row false 18 (List.map T.qc.enc r.1)),(1,Blk.row false 1 (List.map qb r.2)),(2,Blk.box [v_s p.2.2.2.2,v_r 0 r.1,v_r 1 r.2])],3⟩) := by
 refine q3t.partial_correctness _ ?_
 rintro q3t ih3 ⟨s,at_,r0_,r1_,r_⟩ r; dsimp only
 apply it <;> intro h1
 ·refine bc fun b3 h2 f1 f2 => ?_
  apply it <;> intro h4
  ·refine bs fun v6 h5 => ?_
   have f3 := zfz h5
   try simp only [en.down] at f3
   apply it <;> intro h7
   ·refine bw T.qc.enc fun x9 h8 f4 f5 f6 => ?_
    have f7 := map_set T.qc.enc r0_ at_.toNat v6.1
    try simp only [en.down] at f7
    refine bw qb fun x11 h10 f8 f9 f10 => ?_
    have f11 := map_set qb r1_ at_.toNat v6.2.1
    try simp only [en.down] at f11
    try simp only [h7] at f3 f7 f11
    intro h; have f12 := ih3 _ _ h; clear h
    try simp only [en.down] at f12
    try simp only [h7] at f12
    clear ih3; exact fL q6b
   try simp only [h7] at f3
   intro h; have f13 := ih3 _ _ h; clear h
   try simp only [en.down] at f13
   try simp only [h7] at f13
   clear ih3; exact fL q6b
  intro h; have f14 := ih3 _ _ h; clear h
  try simp only [en.down] at f14
  clear ih3; exact fL q6b
 rintro ⟨⟩
 clear ih3; exact fL q6b
theorem qio : (∀ p r,q5k p = some r → O.call 39 [v_l 18 T.qc.enc p] [] = some (v_i r,[])) ∧ (∀ p r,q3c p = some r → O.loop 39 0 ⟨[(0,v_l 18 T.qc.enc p.1),(3,v_i p.2.1),(4,v_i p.2.2)],[],0⟩ = some (Ex.normal,⟨[(3,v_i r)],[],0⟩)) := by
 refine q5k.mutual_partial_correctness _ _ ?_ ?_
 ·rintro q3c ih65 l r; try dsimp only
  refine bs fun v2 h1 => ?_
  have f1 := ih65 _ _ h1
  try simp only [en.down] at f1
  rintro ⟨⟩
  clear ih65; exact fF qdu
 ·rintro q5k q3c ih64 ih65 ⟨l,n,i⟩ r; dsimp only
  apply it <;> intro h1
  ·refine bg T.qc.enc fun x3 h2 f1 f2 f3 => ?_
   refine bs fun v5 h4 => ?_
   have f4 := ih64 _ _ h4
   try simp only [en.down] at f4
   apply it <;> intro h6
   ·try simp only [h6] at f4
    intro h; have f5 := ih65 _ _ h; clear h
    try simp only [en.down] at f5
    try simp only [h6] at f5
    clear ih64 ih65; exact fL qdu
   try simp only [h6] at f4
   intro h; have f6 := ih65 _ _ h; clear h
   try simp only [en.down] at f6
   try simp only [h6] at f6
   clear ih64 ih65; exact fL qdu
  rintro ⟨⟩
  clear ih64 ih65; exact fL qdu
theorem zbv {s r} (h : qbx s = some r) : O.call 19 [v_s s] [] = some (AV.tup [v_l 18 T.qc.enc r.1,v_i r.2],[]) := by
 revert h; unfold qbx
 apply it <;> intro h1
 ·rintro ⟨⟩
  exact fF q6b
 refine gd fun h2 => ?_
 have f1 := qgd IntKind.i64 h2
 refine gd fun h3 => ?_
 have f2 : List.replicate (s.length : Int).toNat [PV.int IntKind.i64 (0 : Int),PV.str ([] : Bytes),PV.int IntKind.i64 (0 : Int),PV.bool false,PV.bool false,PV.int IntKind.i64 (0 : Int),PV.str ([] : Bytes),PV.bool false,PV.sl true 0 [],PV.int IntKind.i64 (0 : Int),PV.int IntKind.i64 (0 : Int),PV.bool false,PV.sl true 0 [],PV.sl true 0 [],PV.bool false,PV.bool false,PV.sl true 0 [],PV.sl true 0 []] = List.map T.qc.enc (List.replicate (s.length : Int).toNat (T.qc.mk (0 : Int) ([] : Bytes) (0 : Int) false false (T.Form.mk (T.Rx.mk (0 : Int) ([] : Bytes) false (⟨true,[]⟩ : (Sl T.Row)) (0 : Int) (0 : Int) false (⟨true,[]⟩ : (Sl T.Rx))) (⟨true,[]⟩ : (Sl T.Fmt)) false false) (⟨true,[]⟩ : (Sl Bytes)) (⟨true,[]⟩ : (Sl T.qc)))) := by rw [List.map_replicate]; rfl
 refine gd fun h4 => ?_
 have f3 := qgd IntKind.i64 h4
 refine gd fun h5 => ?_
 have f4 : List.replicate (s.length : Int).toNat [PV.int IntKind.i64 (0 : Int)] = List.map qb (List.replicate (s.length : Int).toNat (0 : Int)) := by rw [List.map_replicate]; rfl
 refine bs fun v7 h6 => ?_
 have f5 := z1i _ _ h6
 try simp only [en.down] at f5
 refine bs fun v9 h8 => ?_
 have f6 := qla h8
 try simp only [en.down] at f6
 refine bs fun v11 h10 => ?_
 have f7 := qio.1 _ _ h10
 try simp only [en.down] at f7
 apply it <;> intro h12
 ·rintro ⟨⟩
  exact fF q6b
 rintro ⟨⟩
 exact fF q6b
def qoq (a : T.Rx) (b : T.Rx) : ((Bool) ⊕ (Unit)) → Ex × St
 | .inl y => (Ex.ret,⟨[(2,AV.ptr 0 0),(3,AV.ptr 1 0),(4,v_b y)],[(0,b_x (T.Rx.enc a)),(1,b_x (T.Rx.enc b))],2⟩)
 | .inr y => (Ex.normal,⟨[(2,AV.ptr 0 0),(3,AV.ptr 1 0),(4,AV.undef)],[(0,b_x (T.Rx.enc a)),(1,b_x (T.Rx.enc b))],2⟩)
attribute [local go_sem] qoq
theorem z9c : ∀ p r,q82 p = some r → O.loop 100 0 ⟨[(2,AV.ptr 0 0),(3,AV.ptr 1 0),(5,v_i p.1)],[(0,b_x (T.Rx.enc p.2.1)),(1,b_x (T.Rx.enc p.2.2))],2⟩ = some (qoq p.2.1 p.2.2 r) := by
 refine q82.partial_correctness _ ?_
 rintro q82 ih72 ⟨i,a,b⟩ r; dsimp only
 apply it <;> intro h1
 ·refine bg T.Row.enc fun x3 h2 f1 f2 f3 => ?_
  refine bg T.Row.enc fun x5 h4 f4 f5 f6 => ?_
  apply it <;> intro h6
  ·rintro ⟨⟩
   clear ih72; exact fL q2u
  intro h; have f7 := ih72 _ _ h; clear h
  try simp only [en.down] at f7
  clear ih72; exact fL q2u
 rintro ⟨⟩
 clear ih72; exact fL q2u
def qkp (a : T.Rx) (b : T.Rx) : ((Bool) ⊕ (Unit)) → Ex × St
 | .inl y => (Ex.ret,⟨[(4,v_b y)],[(0,b_x (T.Rx.enc a)),(1,b_x (T.Rx.enc b))],2⟩)
 | .inr y => (Ex.normal,⟨[(4,AV.undef)],[(0,b_x (T.Rx.enc a)),(1,b_x (T.Rx.enc b))],2⟩)
attribute [local go_sem] qkp
theorem qth : (∀ p r,q6o p = some r → O.call 100 [v_g (T.Rx.enc p.1),v_g (T.Rx.enc p.2)] [] = some (v_b r,[])) ∧ (∀ p r,q8t p = some r → O.loop 100 2 ⟨[(2,AV.ptr 0 0),(3,AV.ptr 1 0),(6,v_i p.1)],[(0,b_x (T.Rx.enc p.2.1)),(1,b_x (T.Rx.enc p.2.2))],2⟩ = some (qkp p.2.1 p.2.2 r)) := by
 refine q6o.mutual_partial_correctness _ _ ?_ ?_
 ·rintro q8t ih73 ⟨a,b⟩ r; dsimp only
  refine zrz ?_ (fun h1 h2 h3 h4 h5 h6 h7 h8 => ?_)
  ·rintro (⟨h1,h2,h3,h4,h5,h6,h7,h8⟩ | ⟨h1,h2,h3,h4,h5,h6,h7,h8⟩ | ⟨h1,h2,h3,h4,h5,h6,h7,h8⟩ | ⟨h1,h2,h3,h4,h5,h6,h7,h8⟩ | ⟨h1,h2,h3,h4,h5,h6,h7,h8⟩ | ⟨h1,h2,h3,h4,h5,h6,h7,h8⟩ | ⟨h1,h2,h3,h4,h5,h6,h7,h8⟩ | ⟨h1,h2,h3,h4,h5,h6,h7,h8⟩)
   all_goals
   rintro ⟨⟩
   clear ih73; exact fF q2u
  refine bs fun v10 h9 => ?_
  have f1 := z9c _ _ h9
  try simp only [en.down] at f1
  rcases v10 with y11 | y12
  ·dsimp only
   rintro ⟨⟩
   clear ih73; exact fF q2u
  dsimp only
  refine bs fun v14 h13 => ?_
  have f2 := ih73 _ _ h13
  try simp only [en.down] at f2
  rcases v14 with y15 | y16
  ·dsimp only
   rintro ⟨⟩
   clear ih73; exact fF q2u
  dsimp only
  rintro ⟨⟩
  clear ih73; exact fF q2u
 ·rintro q6o q8t ih71 ih73 ⟨i,a,b⟩ r; dsimp only
  apply it <;> intro h1
  ·refine bg T.Rx.enc fun x3 h2 f1 f2 f3 => ?_
   refine bg T.Rx.enc fun x5 h4 f4 f5 f6 => ?_
   refine bs fun v7 h6 => ?_
   have f7 := ih71 _ _ h6
   try simp only [en.down] at f7
   apply it <;> intro h8
   ·rintro ⟨⟩
    clear ih71 ih73; exact fL q2u
   intro h; have f8 := ih73 _ _ h; clear h
   try simp only [en.down] at f8
   clear ih71 ih73; exact fL q2u
  rintro ⟨⟩
  clear ih71 ih73; exact fL q2u
def qk4 (a : T.Form) (b : T.Form) : ((Bool) ⊕ (Unit)) → Ex × St
 | .inl y => (Ex.ret,⟨[(4,v_b y)],[(0,b_x (T.Form.enc a)),(1,b_x (T.Form.enc b))],2⟩)
 | .inr y => (Ex.normal,⟨[(4,AV.undef)],[(0,b_x (T.Form.enc a)),(1,b_x (T.Form.enc b))],2⟩)
attribute [local go_sem] qk4
theorem zm6 : ∀ p r,q96 p = some r → O.loop 75 0 ⟨[(2,AV.ptr 0 0),(3,AV.ptr 1 0),(5,v_i p.1)],[(0,b_x (T.Form.enc p.2.1)),(1,b_x (T.Form.enc p.2.2))],2⟩ = some (qk4 p.2.1 p.2.2 r) := by
 refine q96.partial_correctness _ ?_
 rintro q96 ih74 ⟨i,a,b⟩ r; dsimp only
 apply it <;> intro h1
 ·refine bg T.Fmt.enc fun x3 h2 f1 f2 f3 => ?_
  refine bg T.Fmt.enc fun x5 h4 f4 f5 f6 => ?_
  apply it <;> intro h6
  ·rintro ⟨⟩
   clear ih74; exact fL q8w
  intro h; have f7 := ih74 _ _ h; clear h
  try simp only [en.down] at f7
  clear ih74; exact fL q8w
 rintro ⟨⟩
 clear ih74; exact fL q8w
theorem qhk {a b r} (h : q79 a b = some r) : O.call 75 [v_g (T.Form.enc a),v_g (T.Form.enc b)] [] = some (v_b r,[]) := by
 revert h; unfold q79
 refine bs fun v2 h1 => ?_
 have f1 := qth.1 _ _ h1
 try simp only [en.down] at f1
 refine qh5 ?_ (fun h3 h4 h5 h6 => ?_)
 ·rintro (⟨h3,h4,h5,h6⟩ | ⟨h3,h4,h5,h6⟩ | ⟨h3,h4,h5,h6⟩ | ⟨h3,h4,h5,h6⟩)
  all_goals
  rintro ⟨⟩
  exact fF q8w
 refine bs fun v8 h7 => ?_
 have f2 := zm6 _ _ h7
 try simp only [en.down] at f2
 rcases v8 with y9 | y10
 ·dsimp only
  rintro ⟨⟩
  exact fF q8w
 dsimp only
 rintro ⟨⟩
 exact fF q8w
theorem zkm : (∀ p r,q5d p = some r → O.call 130 [v_g (T.Rx.enc p)] [] = some (v_i r,[])) ∧ (∀ p r,q4u p = some r → O.loop 130 0 ⟨[(1,AV.ptr 0 0),(3,v_i p.1),(4,v_i p.2.1)],[(0,b_x (T.Rx.enc p.2.2))],1⟩ = some (Ex.normal,⟨[(3,v_i r)],[(0,b_x (T.Rx.enc p.2.2))],1⟩)) := by
 refine q5d.mutual_partial_correctness _ _ ?_ ?_
 ·rintro q4u ih79 x r; try dsimp only
  refine bs fun v2 h1 => ?_
  have f1 := ih79 _ _ h1
  try simp only [en.down] at f1
  rintro ⟨⟩
  clear ih79; exact fF qhs
 ·rintro q5d q4u ih78 ih79 ⟨n,i,x⟩ r; dsimp only
  apply it <;> intro h1
  ·refine bg T.Rx.enc fun x3 h2 f1 f2 f3 => ?_
   refine bs fun v5 h4 => ?_
   have f4 := ih78 _ _ h4
   try simp only [en.down] at f4
   intro h; have f5 := ih79 _ _ h; clear h
   try simp only [en.down] at f5
   clear ih78 ih79; exact fL qhs
  rintro ⟨⟩
  clear ih78 ih79; exact fL qhs
theorem zbi : (∀ p r,q4e p = some r → O.call 131 [v_g (T.Rx.enc p)] [] = some (v_i r,[])) ∧ (∀ p r,q61 p = some r → O.loop 131 0 ⟨[(1,AV.ptr 0 0),(3,v_i p.1),(4,v_i p.2.1)],[(0,b_x (T.Rx.enc p.2.2))],1⟩ = some (Ex.normal,⟨[(1,AV.ptr 0 0),(3,v_i r)],[(0,b_x (T.Rx.enc p.2.2))],1⟩)) := by
 refine q4e.mutual_partial_correctness _ _ ?_ ?_
 ·rintro q61 ih81 x r; try dsimp only
  refine bs fun v2 h1 => ?_
  have f1 := ih81 _ _ h1
  try simp only [en.down] at f1
  refine xy ?_ (fun h3 h4 => ?_)
  ·rintro (⟨h3,h4⟩ | ⟨h3,h4⟩)
   all_goals
   rintro ⟨⟩
   clear ih81; exact fF qdz
  rintro ⟨⟩
  clear ih81; exact fF qdz
 ·rintro q4e q61 ih80 ih81 ⟨n,i,x⟩ r; dsimp only
  apply it <;> intro h1
  ·refine bg T.Rx.enc fun x3 h2 f1 f2 f3 => ?_
   refine bs fun v5 h4 => ?_
   have f4 := ih80 _ _ h4
   try simp only [en.down] at f4
   intro h; have f5 := ih81 _ _ h; clear h
   try simp only [en.down] at f5
   clear ih80 ih81; exact fL qdz
  rintro ⟨⟩
  clear ih80 ih81; exact fL qdz
def qll (n : Int) (x : T.Rx) : ((Bool) ⊕ (Unit)) → Ex × St
 | .inl y => (Ex.ret,⟨[(1,AV.ptr 0 0),(2,v_b y),(3,v_i n)],[(0,b_x (T.Rx.enc x))],1⟩)
 | .inr y => (Ex.normal,⟨[(1,AV.ptr 0 0),(2,AV.undef),(3,v_i n)],[(0,b_x (T.Rx.enc x))],1⟩)
attribute [local go_sem] qll
theorem qt7 : ∀ p r,q4o p = some r → O.loop 132 3 ⟨[(1,AV.ptr 0 0),(3,v_i p.1),(5,v_i p.2.1)],[(0,b_x (T.Rx.enc p.2.2))],1⟩ = some (qll p.1 p.2.2 r) := by
 refine q4o.partial_correctness _ ?_
 rintro q4o ih84 ⟨n,i,x⟩ r; dsimp only
 apply it <;> intro h1
 ·refine bg T.Rx.enc fun x3 h2 f1 f2 f3 => ?_
  apply it <;> intro h4
  ·rintro ⟨⟩
   clear ih84; exact fL ja
  apply it <;> intro h5
  ·rintro ⟨⟩
   clear ih84; exact fL ja
  intro h; have f4 := ih84 _ _ h; clear h
  try simp only [en.down] at f4
  clear ih84; exact fL ja
 rintro ⟨⟩
 clear ih84; exact fL ja
theorem q6t {x r} (h : q1t x = some r) : O.call 140 [v_g (T.Rx.enc x)] [] = some (v_b r,[]) := by
 revert h; unfold q1t
 refine zn2 (fun h1 h2 h3 h4 h5 => ?_) ?_
 ·rintro ⟨⟩
  exact fF qpg
 rintro (⟨h1,h2,h3,h4,h5⟩ | ⟨h1,h2,h3,h4,h5⟩ | ⟨h1,h2,h3,h4,h5⟩ | ⟨h1,h2,h3,h4,h5⟩ | ⟨h1,h2,h3,h4,h5⟩)
 all_goals
 rintro ⟨⟩
 exact fF qpg
def qpe (n : Int) (x : T.Rx) : ((Bool) ⊕ (Unit)) → Ex × St
 | .inl y => (Ex.ret,⟨[(1,AV.ptr 0 0),(2,v_b y),(3,v_i n)],[(0,b_x (T.Rx.enc x))],1⟩)
 | .inr y => (Ex.normal,⟨[(1,AV.ptr 0 0),(2,AV.undef),(3,v_i n)],[(0,b_x (T.Rx.enc x))],1⟩)
attribute [local go_sem] qpe
theorem zn9 : ∀ p r,q57 p = some r → O.loop 132 5 ⟨[(1,AV.ptr 0 0),(3,v_i p.1),(6,v_i p.2.1)],[(0,b_x (T.Rx.enc p.2.2))],1⟩ = some (qpe p.1 p.2.2 r) := by
 refine q57.partial_correctness _ ?_
 rintro q57 ih86 ⟨n,i,x⟩ r; dsimp only
 apply it <;> intro h1
 ·refine bg T.Rx.enc fun x3 h2 f1 f2 f3 => ?_
  apply it <;> intro h4
  ·rintro ⟨⟩
   clear ih86; exact fL ja
  intro h; have f4 := ih86 _ _ h; clear h
  try simp only [en.down] at f4
  clear ih86; exact fL ja
 rintro ⟨⟩
 clear ih86; exact fL ja
def qov : ((Bool) ⊕ (Unit)) → Ex × St
 | .inl y => (Ex.ret,⟨[(2,v_b y)],[],0⟩)
 | .inr y => (Ex.normal,⟨[(2,AV.undef)],[],0⟩)
attribute [local go_sem] qov
theorem zsr : ∀ p r,q3b p = some r → O.loop 141 0 ⟨[(0,v_l 2 T.Row.enc p.1),(3,v_i p.2)],[],0⟩ = some (qov r) := by
 refine q3b.partial_correctness _ ?_
 rintro q3b ih88 ⟨rows,i⟩ r; dsimp only
 apply it <;> intro h1
 ·refine bg T.Row.enc fun x3 h2 f1 f2 f3 => ?_
  refine bs fun v5 h4 => ?_
  have f4 := q9c h4
  try simp only [en.down] at f4
  apply it <;> intro h6
  ·rintro ⟨⟩
   clear ih88; exact fL q5n
  refine bs fun v8 h7 => ?_
  have f5 := q9c h7
  try simp only [en.down] at f5
  refine xy ?_ (fun h9 h10 => ?_)
  ·rintro (⟨h9,h10⟩ | ⟨h9,h10⟩)
   all_goals
   rintro ⟨⟩
   clear ih88; exact fL q5n
  apply it <;> intro h11
  ·refine bg T.Row.enc fun x13 h12 f6 f7 f8 => ?_
   apply it <;> intro h14
   ·rintro ⟨⟩
    clear ih88; exact fL q5n
   intro h; have f9 := ih88 _ _ h; clear h
   try simp only [en.down] at f9
   clear ih88; exact fL q5n
  intro h; have f10 := ih88 _ _ h; clear h
  try simp only [en.down] at f10
  clear ih88; exact fL q5n
 rintro ⟨⟩
 clear ih88; exact fL q5n
theorem z8q {rows r} (h : qb5 rows = some r) : O.call 141 [v_l 2 T.Row.enc rows] [] = some (v_b r,[]) := by
 revert h; unfold qb5
 refine bs fun v2 h1 => ?_
 have f1 := zsr _ _ h1
 try simp only [en.down] at f1
 rcases v2 with y3 | y4
 ·dsimp only
  rintro ⟨⟩
  exact fF q5n
 dsimp only
 rintro ⟨⟩
 exact fF q5n
theorem zs7 {x r} (h : qbr x = some r) : O.call 142 [v_g (T.Rx.enc x)] [] = some (v_b r,[]) := by
 revert h; unfold qbr
 refine zjb ?_ ?_
 ·rintro (⟨h1,h2,h3,h4,h5,h6⟩ | ⟨h1,h2,h3,h4,h5,h6⟩ | ⟨h1,h2,h3,h4,h5,h6⟩ | ⟨h1,h2,h3,h4,h5,h6⟩ | ⟨h1,h2,h3,h4,h5,h6⟩)
  all_goals
  rintro ⟨⟩
  exact fF qf5
 rintro (⟨h1,h2,h3,h4,h5,h6⟩ | ⟨h1,h2,h3,h4,h5,h6⟩)
 all_goals
 refine bg T.Rx.enc fun x17 h16 f1 f2 f3 => ?_
 refine bs fun v19 h18 => ?_
 have f4 := q6t h18
 try simp only [en.down] at f4
 apply it <;> intro h20
 ·refine qh5 ?_ (fun h21 h22 h23 h24 => ?_)
  ·rintro (⟨h21,h22,h23,h24⟩ | ⟨h21,h22,h23,h24⟩ | ⟨h21,h22,h23,h24⟩ | ⟨h21,h22,h23,h24⟩)
   all_goals
    try simp only [h20] at f4
    rintro ⟨⟩
    exact fF qf5
  try simp only [h20] at f4
  rintro ⟨⟩
  exact fF qf5
 try simp only [h20] at f4
 rintro ⟨⟩
 exact fF qf5
def qmb (n : Int) (x : T.Rx) : ((Bool) ⊕ (Unit)) → Ex × St
 | .inl y => (Ex.ret,⟨[(1,AV.ptr 0 0),(2,v_b y),(3,v_i n)],[(0,b_x (T.Rx.enc x))],1⟩)
 | .inr y => (Ex.normal,⟨[(1,AV.ptr 0 0),(2,AV.undef),(3,v_i n)],[(0,b_x (T.Rx.enc x))],1⟩)
attribute [local go_sem] qmb
theorem z8u : (∀ p r,q5c p = some r → O.call 132 [v_g (T.Rx.enc p)] [] = some (v_b r,[])) ∧ (∀ p r,q4q p = some r → O.loop 132 0 ⟨[(1,AV.ptr 0 0),(3,v_i p.1),(4,v_i p.2.1)],[(0,b_x (T.Rx.enc p.2.2))],1⟩ = some (qmb p.1 p.2.2 r)) := by
 refine q5c.mutual_partial_correctness _ _ ?_ ?_
 ·rintro q4q ih83 x r; try dsimp only
  refine bs fun v2 h1 => ?_
  have f1 := ih83 _ _ h1
  try simp only [en.down] at f1
  rcases v2 with y3 | y4
  ·dsimp only
   rintro ⟨⟩
   clear ih83; exact fF ja
  dsimp only
  apply it <;> intro h5
  ·refine bs fun v7 h6 => ?_
   have f2 := qt7 _ _ h6
   try simp only [en.down] at f2
   rcases v7 with y8 | y9
   ·dsimp only
    rintro ⟨⟩
    clear ih83; exact fF ja
   dsimp only
   refine bs fun v11 h10 => ?_
   have f3 := q6t h10
   try simp only [en.down] at f3
   apply it <;> intro h12
   ·try simp only [h12] at f1 f2 f3
    rintro ⟨⟩
    clear ih83; exact fF ja
   try simp only [h12] at f1 f2 f3
   rintro ⟨⟩
   clear ih83; exact fF ja
  apply it <;> intro h13
  ·refine bs fun v15 h14 => ?_
   have f4 := zn9 _ _ h14
   try simp only [en.down] at f4
   rcases v15 with y16 | y17
   ·dsimp only
    rintro ⟨⟩
    clear ih83; exact fF ja
   dsimp only
   refine bs fun v19 h18 => ?_
   have f5 := q6t h18
   try simp only [en.down] at f5
   apply it <;> intro h20
   ·try simp only [h20] at f1 f4 f5
    rintro ⟨⟩
    clear ih83; exact fF ja
   try simp only [h20] at f1 f4 f5
   rintro ⟨⟩
   clear ih83; exact fF ja
  apply it <;> intro h21
  ·refine bs fun v23 h22 => ?_
   have f6 := q6t h22
   try simp only [en.down] at f6
   refine zo (fun h24 h25 => ?_) ?_
   ·refine bs fun v27 h26 => ?_
    have f7 := q9c h26
    try simp only [en.down] at f7
    try simp only [h24] at f1 f6 f7
    rintro ⟨⟩
    clear ih83; exact fF ja
   rintro (⟨h24,h25⟩ | ⟨h24,h25⟩)
   all_goals
   try simp only [h24] at f1 f6
   rintro ⟨⟩
   clear ih83; exact fF ja
  refine qlx ?_ (fun h28 h32 h36 h40 h44 => ?_)
  ·rintro (⟨h28,h32,h36,h40,h44⟩ | ⟨h28,h32,h36,h40,h44⟩ | ⟨h28,h32,h36,h40,h44⟩ | ⟨h28,h32,h36,h40,h44⟩ | ⟨h28,h32,h36,h40,h44⟩)
   all_goals
   refine bs fun v30 h29 => ?_
   have f8 := q6t h29
   try simp only [en.down] at f8
   apply it <;> intro h31
   ·try simp only [h31] at f1 f8
    rintro ⟨⟩
    clear ih83; exact fF ja
   try simp only [h31] at f1 f8
   rintro ⟨⟩
   clear ih83; exact fF ja
  apply it <;> intro h48
  ·refine bs fun v50 h49 => ?_
   have f9 := q6t h49
   try simp only [en.down] at f9
   refine zo (fun h51 h52 => ?_) ?_
   ·refine bs fun v54 h53 => ?_
    have f10 := z8q h53
    try simp only [en.down] at f10
    try simp only [h51] at f1 f9 f10
    rintro ⟨⟩
    clear ih83; exact fF ja
   rintro (⟨h51,h52⟩ | ⟨h51,h52⟩)
   all_goals
   try simp only [h51] at f1 f9
   rintro ⟨⟩
   clear ih83; exact fF ja
  refine xy ?_ (fun h55 h59 => ?_)
  ·rintro (⟨h55,h59⟩ | ⟨h55,h59⟩)
   all_goals
   refine bs fun v57 h56 => ?_
   have f11 := q6t h56
   try simp only [en.down] at f11
   apply it <;> intro h58
   ·try simp only [h58] at f1 f11
    rintro ⟨⟩
    clear ih83; exact fF ja
   try simp only [h58] at f1 f11
   rintro ⟨⟩
   clear ih83; exact fF ja
  apply it <;> intro h63
  ·refine bs fun v65 h64 => ?_
   have f12 := zs7 h64
   try simp only [en.down] at f12
   rintro ⟨⟩
   clear ih83; exact fF ja
  rintro ⟨⟩
  clear ih83; exact fF ja
 ·rintro q5c q4q ih82 ih83 ⟨n,i,x⟩ r; dsimp only
  apply it <;> intro h1
  ·refine bg T.Rx.enc fun x3 h2 f1 f2 f3 => ?_
   refine bs fun v5 h4 => ?_
   have f4 := ih82 _ _ h4
   try simp only [en.down] at f4
   apply it <;> intro h6
   ·rintro ⟨⟩
    clear ih82 ih83; exact fL ja
   intro h; have f5 := ih83 _ _ h; clear h
   try simp only [en.down] at f5
   clear ih82 ih83; exact fL ja
  rintro ⟨⟩
  clear ih82 ih83; exact fL ja
theorem qfc {x r} (h : q6r x = some r) : O.call 119 [v_g (T.Rx.enc x)] [] = some (v_b r,[]) := by
 revert h; unfold q6r
 refine bs fun v2 h1 => ?_
 have f1 := zkm.1 _ _ h1
 try simp only [en.down] at f1
 apply it <;> intro h3
 ·refine bs fun v5 h4 => ?_
  have f2 := zbi.1 _ _ h4
  try simp only [en.down] at f2
  apply it <;> intro h6
  ·refine bs fun v8 h7 => ?_
   have f3 := z8u.1 _ _ h7
   try simp only [en.down] at f3
   rintro ⟨⟩
   exact fF qgk
  rintro ⟨⟩
  exact fF qgk
 rintro ⟨⟩
 exact fF qgk
def qiw : ((Bool) ⊕ (Unit)) → Ex × St
 | .inl y => (Ex.ret,⟨[(2,v_b y)],[],0⟩)
 | .inr y => (Ex.normal,⟨[(2,AV.undef)],[],0⟩)
attribute [local go_sem] qiw
theorem zs5 : ∀ p r,ug p = some r → O.loop 120 0 ⟨[(0,v_l 5 T.Fmt.enc p.1),(3,v_i p.2)],[],0⟩ = some (qiw r) := by
 refine ug.partial_correctness _ ?_
 rintro ug ih91 ⟨fs,i⟩ r; dsimp only
 apply it <;> intro h1
 ·refine bg T.Fmt.enc fun x3 h2 f1 f2 f3 => ?_
  apply it <;> intro h4
  ·apply it <;> intro h5
   ·refine qef (fun h6 h7 h8 h9 => ?_) ?_
    ·apply it <;> intro h10
     ·intro h; have f4 := ih91 _ _ h; clear h
      try simp only [en.down] at f4
      clear ih91; exact fL xn
     refine bg T.Fmt.enc fun x12 h11 f5 f6 f7 => ?_
     apply it <;> intro h13
     ·rintro ⟨⟩
      clear ih91; exact fL xn
     intro h; have f8 := ih91 _ _ h; clear h
     try simp only [en.down] at f8
     clear ih91; exact fL xn
    rintro (⟨h6,h7,h8,h9⟩ | ⟨h6,h7,h8,h9⟩ | ⟨h6,h7,h8,h9⟩ | ⟨h6,h7,h8,h9⟩)
    all_goals
    rintro ⟨⟩
    clear ih91; exact fL xn
   apply it <;> intro h14
   ·refine qja (fun h15 h16 h17 => ?_) ?_
    ·apply it <;> intro h18
     ·rintro ⟨⟩
      clear ih91; exact fL xn
     intro h; have f9 := ih91 _ _ h; clear h
     try simp only [en.down] at f9
     clear ih91; exact fL xn
    rintro (⟨h15,h16,h17⟩ | ⟨h15,h16,h17⟩ | ⟨h15,h16,h17⟩)
    all_goals
    rintro ⟨⟩
    clear ih91; exact fL xn
   apply it <;> intro h19
   ·apply it <;> intro h20
    ·refine bs fun v22 h21 => ?_
     have f10 := qls h21
     try simp only [en.down] at f10
     refine zo (fun h23 h24 => ?_) ?_
     ·apply it <;> intro h25
      ·rintro ⟨⟩
       clear ih91; exact fL xn
      intro h; have f11 := ih91 _ _ h; clear h
      try simp only [en.down] at f11
      clear ih91; exact fL xn
     rintro (⟨h23,h24⟩ | ⟨h23,h24⟩)
     all_goals
     rintro ⟨⟩
     clear ih91; exact fL xn
    rintro ⟨⟩
    clear ih91; exact fL xn
   apply it <;> intro h26
   ·refine zo (fun h27 h28 => ?_) ?_
    ·apply it <;> intro h29
     ·rintro ⟨⟩
      clear ih91; exact fL xn
     intro h; have f12 := ih91 _ _ h; clear h
     try simp only [en.down] at f12
     clear ih91; exact fL xn
    rintro (⟨h27,h28⟩ | ⟨h27,h28⟩)
    all_goals
    rintro ⟨⟩
    clear ih91; exact fL xn
   apply it <;> intro h30
   ·refine zo (fun h31 h32 => ?_) ?_
    ·apply it <;> intro h33
     ·rintro ⟨⟩
      clear ih91; exact fL xn
     intro h; have f13 := ih91 _ _ h; clear h
     try simp only [en.down] at f13
     clear ih91; exact fL xn
    rintro (⟨h31,h32⟩ | ⟨h31,h32⟩)
    all_goals
    rintro ⟨⟩
    clear ih91; exact fL xn
   refine zo (fun h34 h35 => ?_) ?_
   ·apply it <;> intro h36
    ·rintro ⟨⟩
     clear ih91; exact fL xn
    intro h; have f14 := ih91 _ _ h; clear h
    try simp only [en.down] at f14
    clear ih91; exact fL xn
   rintro (⟨h34,h35⟩ | ⟨h34,h35⟩)
   all_goals
   rintro ⟨⟩
   clear ih91; exact fL xn
  apply it <;> intro h37
  ·refine qef (fun h38 h39 h40 h41 => ?_) ?_
   ·apply it <;> intro h42
    ·intro h; have f15 := ih91 _ _ h; clear h
     try simp only [en.down] at f15
     clear ih91; exact fL xn
    refine bg T.Fmt.enc fun x44 h43 f16 f17 f18 => ?_
    apply it <;> intro h45
    ·rintro ⟨⟩
     clear ih91; exact fL xn
    intro h; have f19 := ih91 _ _ h; clear h
    try simp only [en.down] at f19
    clear ih91; exact fL xn
   rintro (⟨h38,h39,h40,h41⟩ | ⟨h38,h39,h40,h41⟩ | ⟨h38,h39,h40,h41⟩ | ⟨h38,h39,h40,h41⟩)
   all_goals
   rintro ⟨⟩
   clear ih91; exact fL xn
  refine qlx ?_ (fun h46 h47 h48 h49 h50 => ?_)
  ·rintro (⟨h46,h47,h48,h49,h50⟩ | ⟨h46,h47,h48,h49,h50⟩ | ⟨h46,h47,h48,h49,h50⟩ | ⟨h46,h47,h48,h49,h50⟩ | ⟨h46,h47,h48,h49,h50⟩)
   all_goals
   rintro ⟨⟩
   clear ih91; exact fL xn
  rintro ⟨⟩
  clear ih91; exact fL xn
 rintro ⟨⟩
 clear ih91; exact fL xn
theorem qnw {fs r} (h : q85 fs = some r) : O.call 120 [v_l 5 T.Fmt.enc fs] [] = some (v_b r,[]) := by
 revert h; unfold q85
 refine bs fun v2 h1 => ?_
 have f1 := zs5 _ _ h1
 try simp only [en.down] at f1
 rcases v2 with y3 | y4
 ·dsimp only
  rintro ⟨⟩
  exact fF xn
 dsimp only
 rintro ⟨⟩
 exact fF xn
theorem qpd {f r} (h : q8m f = some r) : O.call 101 [v_g (T.Form.enc f)] [] = some (v_b r,[]) := by
 revert h; unfold q8m
 refine bs fun v2 h1 => ?_
 have f1 := qfc h1
 try simp only [en.down] at f1
 apply it <;> intro h3
 ·refine bs fun v5 h4 => ?_
  have f2 := qnw h4
  try simp only [en.down] at f2
  try simp only [h3] at f1 f2
  rintro ⟨⟩
  exact fF qm6
 try simp only [h3] at f1
 rintro ⟨⟩
 exact fF qm6
def qjm : ((Bool) ⊕ (Unit)) → Ex × St
 | .inl y => (Ex.ret,⟨[(2,v_b y)],[],0⟩)
 | .inr y => (Ex.normal,⟨[(2,AV.undef)],[],0⟩)
attribute [local go_sem] qjm
theorem zt7 : (∀ p r,q2d p = some r → O.call 57 [v_l 18 T.qc.enc p] [] = some (v_b r,[])) ∧ (∀ p r,ku p = some r → O.loop 57 0 ⟨[(0,v_l 18 T.qc.enc p.1),(3,v_i p.2)],[],0⟩ = some (qjm r)) ∧ (∀ p r,nz p = some r → O.call 76 [v_g (T.qc.enc p)] [] = some (v_b r,[])) := by
 refine q2d.mutual_partial_correctness _ _ _ ?_ ?_ ?_
 ·rintro ku ih69 l r; try dsimp only
  refine bs fun v2 h1 => ?_
  have f1 := ih69 _ _ h1
  try simp only [en.down] at f1
  rcases v2 with y3 | y4
  ·dsimp only
   rintro ⟨⟩
   clear ih69; exact fF zh
  dsimp only
  rintro ⟨⟩
  clear ih69; exact fF zh
 ·rintro ku nz ih69 ih75 ⟨l,i⟩ r; dsimp only
  apply it <;> intro h1
  ·refine bg T.qc.enc fun x3 h2 f1 f2 f3 => ?_
   refine zo (fun h4 h5 => ?_) ?_
   ·refine bs fun v7 h6 => ?_
    have f4 := qhk h6
    try simp only [en.down] at f4
    apply it <;> intro h8
    ·apply it <;> intro h9
     ·apply it <;> intro h10
      ·refine qef (fun h11 h12 h13 h14 => ?_) ?_
       ·apply it <;> intro h15
        ·try simp only [h8] at f4
         intro h; have f5 := ih69 _ _ h; clear h
         try simp only [en.down] at f5
         try simp only [h8] at f5
         clear ih69 ih75; exact fL zh
        refine bg T.qc.enc fun x17 h16 f6 f7 f8 => ?_
        apply it <;> intro h18
        ·try simp only [h8] at f4
         rintro ⟨⟩
         clear ih69 ih75; exact fL zh
        try simp only [h8] at f4
        intro h; have f9 := ih69 _ _ h; clear h
        try simp only [en.down] at f9
        try simp only [h8] at f9
        clear ih69 ih75; exact fL zh
       rintro (⟨h11,h12,h13,h14⟩ | ⟨h11,h12,h13,h14⟩ | ⟨h11,h12,h13,h14⟩ | ⟨h11,h12,h13,h14⟩)
       all_goals
       try simp only [h8] at f4
       rintro ⟨⟩
       clear ih69 ih75; exact fL zh
      apply it <;> intro h19
      ·refine zo (fun h20 h21 => ?_) ?_
       ·refine bs fun v23 h22 => ?_
        have f10 := ih75 _ _ h22
        try simp only [en.down] at f10
        apply it <;> intro h24
        ·try simp only [h8] at f4 f10
         rintro ⟨⟩
         clear ih69 ih75; exact fL zh
        try simp only [h8] at f4 f10
        intro h; have f11 := ih69 _ _ h; clear h
        try simp only [en.down] at f11
        try simp only [h8] at f11
        clear ih69 ih75; exact fL zh
       rintro (⟨h20,h21⟩ | ⟨h20,h21⟩)
       all_goals
       try simp only [h8] at f4
       rintro ⟨⟩
       clear ih69 ih75; exact fL zh
      apply it <;> intro h25
      ·refine qja (fun h26 h27 h28 => ?_) ?_
       ·apply it <;> intro h29
        ·try simp only [h8] at f4
         rintro ⟨⟩
         clear ih69 ih75; exact fL zh
        try simp only [h8] at f4
        intro h; have f12 := ih69 _ _ h; clear h
        try simp only [en.down] at f12
        try simp only [h8] at f12
        clear ih69 ih75; exact fL zh
       rintro (⟨h26,h27,h28⟩ | ⟨h26,h27,h28⟩ | ⟨h26,h27,h28⟩)
       all_goals
       try simp only [h8] at f4
       rintro ⟨⟩
       clear ih69 ih75; exact fL zh
      refine zo (fun h30 h31 => ?_) ?_
      ·refine bs fun v33 h32 => ?_
       have f13 := q7u h32
       try simp only [en.down] at f13
       apply it <;> intro h34
       ·refine bs fun v36 h35 => ?_
        have f14 := ih75 _ _ h35
        try simp only [en.down] at f14
        apply it <;> intro h37
        ·try simp only [h8,h34] at f4 f13 f14
         rintro ⟨⟩
         clear ih69 ih75; exact fL zh
        try simp only [h8,h34] at f4 f13 f14
        intro h; have f15 := ih69 _ _ h; clear h
        try simp only [en.down] at f15
        try simp only [h8,h34] at f15
        clear ih69 ih75; exact fL zh
       try simp only [h8,h34] at f4 f13
       rintro ⟨⟩
       clear ih69 ih75; exact fL zh
      rintro (⟨h30,h31⟩ | ⟨h30,h31⟩)
      all_goals
      try simp only [h8] at f4
      rintro ⟨⟩
      clear ih69 ih75; exact fL zh
     apply it <;> intro h38
     ·refine qef (fun h39 h40 h41 h42 => ?_) ?_
      ·apply it <;> intro h43
       ·try simp only [h8] at f4
        intro h; have f16 := ih69 _ _ h; clear h
        try simp only [en.down] at f16
        try simp only [h8] at f16
        clear ih69 ih75; exact fL zh
       refine bg T.qc.enc fun x45 h44 f17 f18 f19 => ?_
       apply it <;> intro h46
       ·try simp only [h8] at f4
        rintro ⟨⟩
        clear ih69 ih75; exact fL zh
       try simp only [h8] at f4
       intro h; have f20 := ih69 _ _ h; clear h
       try simp only [en.down] at f20
       try simp only [h8] at f20
       clear ih69 ih75; exact fL zh
      rintro (⟨h39,h40,h41,h42⟩ | ⟨h39,h40,h41,h42⟩ | ⟨h39,h40,h41,h42⟩ | ⟨h39,h40,h41,h42⟩)
      all_goals
      try simp only [h8] at f4
      rintro ⟨⟩
      clear ih69 ih75; exact fL zh
     refine xy ?_ (fun h47 h48 => ?_)
     ·rintro (⟨h47,h48⟩ | ⟨h47,h48⟩)
      all_goals
      try simp only [h8] at f4
      rintro ⟨⟩
      clear ih69 ih75; exact fL zh
     refine zo (fun h49 h50 => ?_) ?_
     ·refine bs fun v52 h51 => ?_
      have f21 := q7u h51
      try simp only [en.down] at f21
      apply it <;> intro h53
      ·refine bs fun v55 h54 => ?_
       have f22 := ih75 _ _ h54
       try simp only [en.down] at f22
       apply it <;> intro h56
       ·try simp only [h8,h53] at f4 f21 f22
        rintro ⟨⟩
        clear ih69 ih75; exact fL zh
       try simp only [h8,h53] at f4 f21 f22
       intro h; have f23 := ih69 _ _ h; clear h
       try simp only [en.down] at f23
       try simp only [h8,h53] at f23
       clear ih69 ih75; exact fL zh
      try simp only [h8,h53] at f4 f21
      rintro ⟨⟩
      clear ih69 ih75; exact fL zh
     rintro (⟨h49,h50⟩ | ⟨h49,h50⟩)
     all_goals
     try simp only [h8] at f4
     rintro ⟨⟩
     clear ih69 ih75; exact fL zh
    apply it <;> intro h57
    ·apply it <;> intro h58
     ·try simp only [h8] at f4
      rintro ⟨⟩
      clear ih69 ih75; exact fL zh
     apply it <;> intro h59
     ·refine zo (fun h60 h61 => ?_) ?_
      ·refine bs fun v63 h62 => ?_
       have f24 := ih75 _ _ h62
       try simp only [en.down] at f24
       apply it <;> intro h64
       ·try simp only [h8] at f4 f24
        rintro ⟨⟩
        clear ih69 ih75; exact fL zh
       try simp only [h8] at f4 f24
       intro h; have f25 := ih69 _ _ h; clear h
       try simp only [en.down] at f25
       try simp only [h8] at f25
       clear ih69 ih75; exact fL zh
      rintro (⟨h60,h61⟩ | ⟨h60,h61⟩)
      all_goals
      try simp only [h8] at f4
      rintro ⟨⟩
      clear ih69 ih75; exact fL zh
     apply it <;> intro h65
     ·refine zo (fun h66 h67 => ?_) ?_
      ·try simp only [h8] at f4
       rintro ⟨⟩
       clear ih69 ih75; exact fL zh
      rintro (⟨h66,h67⟩ | ⟨h66,h67⟩)
      all_goals
      try simp only [h8] at f4
      rintro ⟨⟩
      clear ih69 ih75; exact fL zh
     refine zo (fun h68 h69 => ?_) ?_
     ·refine bs fun v71 h70 => ?_
      have f26 := q7u h70
      try simp only [en.down] at f26
      apply it <;> intro h72
      ·refine bs fun v74 h73 => ?_
       have f27 := ih75 _ _ h73
       try simp only [en.down] at f27
       apply it <;> intro h75
       ·try simp only [h8,h72] at f4 f26 f27
        rintro ⟨⟩
        clear ih69 ih75; exact fL zh
       try simp only [h8,h72] at f4 f26 f27
       intro h; have f28 := ih69 _ _ h; clear h
       try simp only [en.down] at f28
       try simp only [h8,h72] at f28
       clear ih69 ih75; exact fL zh
      try simp only [h8,h72] at f4 f26
      rintro ⟨⟩
      clear ih69 ih75; exact fL zh
     rintro (⟨h68,h69⟩ | ⟨h68,h69⟩)
     all_goals
     try simp only [h8] at f4
     rintro ⟨⟩
     clear ih69 ih75; exact fL zh
    refine q9x ?_ (fun h76 h77 h78 => ?_)
    ·rintro (⟨h76,h77,h78⟩ | ⟨h76,h77,h78⟩ | ⟨h76,h77,h78⟩)
     all_goals
     try simp only [h8] at f4
     rintro ⟨⟩
     clear ih69 ih75; exact fL zh
    refine zo (fun h79 h80 => ?_) ?_
    ·refine bs fun v82 h81 => ?_
     have f29 := q7u h81
     try simp only [en.down] at f29
     apply it <;> intro h83
     ·refine bs fun v85 h84 => ?_
      have f30 := ih75 _ _ h84
      try simp only [en.down] at f30
      apply it <;> intro h86
      ·try simp only [h8,h83] at f4 f29 f30
       rintro ⟨⟩
       clear ih69 ih75; exact fL zh
      try simp only [h8,h83] at f4 f29 f30
      intro h; have f31 := ih69 _ _ h; clear h
      try simp only [en.down] at f31
      try simp only [h8,h83] at f31
      clear ih69 ih75; exact fL zh
     try simp only [h8,h83] at f4 f29
     rintro ⟨⟩
     clear ih69 ih75; exact fL zh
    rintro (⟨h79,h80⟩ | ⟨h79,h80⟩)
    all_goals
    try simp only [h8] at f4
    rintro ⟨⟩
    clear ih69 ih75; exact fL zh
   rintro (⟨h4,h5⟩ | ⟨h4,h5⟩)
   all_goals
   apply it <;> intro h117
   ·apply it <;> intro h118
    ·rintro ⟨⟩
     clear ih69 ih75; exact fL zh
    apply it <;> intro h119
    ·refine zo (fun h120 h121 => ?_) ?_
     ·refine bs fun v123 h122 => ?_
      have f32 := ih75 _ _ h122
      try simp only [en.down] at f32
      apply it <;> intro h124
      ·rintro ⟨⟩
       clear ih69 ih75; exact fL zh
      intro h; have f33 := ih69 _ _ h; clear h
      try simp only [en.down] at f33
      clear ih69 ih75; exact fL zh
     rintro (⟨h120,h121⟩ | ⟨h120,h121⟩)
     all_goals
      rintro ⟨⟩
      clear ih69 ih75; exact fL zh
    apply it <;> intro h125
    ·refine zo (fun h126 h127 => ?_) ?_
     ·rintro ⟨⟩
      clear ih69 ih75; exact fL zh
     rintro (⟨h126,h127⟩ | ⟨h126,h127⟩)
     all_goals
      rintro ⟨⟩
      clear ih69 ih75; exact fL zh
    refine zo (fun h128 h129 => ?_) ?_
    ·refine bs fun v131 h130 => ?_
     have f34 := q7u h130
     try simp only [en.down] at f34
     apply it <;> intro h132
     ·refine bs fun v134 h133 => ?_
      have f35 := ih75 _ _ h133
      try simp only [en.down] at f35
      apply it <;> intro h135
      ·try simp only [h132] at f34 f35
       rintro ⟨⟩
       clear ih69 ih75; exact fL zh
      try simp only [h132] at f34 f35
      intro h; have f36 := ih69 _ _ h; clear h
      try simp only [en.down] at f36
      try simp only [h132] at f36
      clear ih69 ih75; exact fL zh
     try simp only [h132] at f34
     rintro ⟨⟩
     clear ih69 ih75; exact fL zh
    rintro (⟨h128,h129⟩ | ⟨h128,h129⟩)
    all_goals
     rintro ⟨⟩
     clear ih69 ih75; exact fL zh
   refine q9x ?_ (fun h136 h137 h138 => ?_)
   ·rintro (⟨h136,h137,h138⟩ | ⟨h136,h137,h138⟩ | ⟨h136,h137,h138⟩)
    all_goals
     rintro ⟨⟩
     clear ih69 ih75; exact fL zh
   refine zo (fun h139 h140 => ?_) ?_
   ·refine bs fun v142 h141 => ?_
    have f37 := q7u h141
    try simp only [en.down] at f37
    apply it <;> intro h143
    ·refine bs fun v145 h144 => ?_
     have f38 := ih75 _ _ h144
     try simp only [en.down] at f38
     apply it <;> intro h146
     ·try simp only [h143] at f37 f38
      rintro ⟨⟩
      clear ih69 ih75; exact fL zh
     try simp only [h143] at f37 f38
     intro h; have f39 := ih69 _ _ h; clear h
     try simp only [en.down] at f39
     try simp only [h143] at f39
     clear ih69 ih75; exact fL zh
    try simp only [h143] at f37
    rintro ⟨⟩
    clear ih69 ih75; exact fL zh
   rintro (⟨h139,h140⟩ | ⟨h139,h140⟩)
   all_goals
    rintro ⟨⟩
    clear ih69 ih75; exact fL zh
  rintro ⟨⟩
  clear ih69 ih75; exact fL zh
 ·rintro q2d ih68 x r; try dsimp only
  apply it <;> intro h1
  ·rintro ⟨⟩
   clear ih68; exact fF q5t
  apply it <;> intro h2
  ·apply it <;> intro h3
   ·rintro ⟨⟩
    clear ih68; exact fF q5t
   refine bs fun v5 h4 => ?_
   have f1 := qhk h4
   try simp only [en.down] at f1
   apply it <;> intro h6
   ·refine bs fun v8 h7 => ?_
    have f2 := ih68 _ _ h7
    try simp only [en.down] at f2
    try simp only [h2,h3,h6] at f1 f2
    rintro ⟨⟩
    clear ih68; exact fF q5t
   try simp only [h2,h3,h6] at f1
   rintro ⟨⟩
   clear ih68; exact fF q5t
  apply it <;> intro h9
  ·rintro ⟨⟩
   clear ih68; exact fF q5t
  apply it <;> intro h10
  ·refine bs fun v12 h11 => ?_
   have f3 := qpd h11
   try simp only [en.down] at f3
   try simp only [h2,h10] at f3
   rintro ⟨⟩
   clear ih68; exact fF q5t
  refine bs fun v14 h13 => ?_
  have f4 := qhk h13
  try simp only [en.down] at f4
  apply it <;> intro h15
  ·refine bs fun v17 h16 => ?_
   have f5 := ih68 _ _ h16
   try simp only [en.down] at f5
   try simp only [h2,h10,h15] at f4 f5
   rintro ⟨⟩
   clear ih68; exact fF q5t
  try simp only [h2,h10,h15] at f4
  rintro ⟨⟩
  clear ih68; exact fF q5t
theorem zhk {l r} (h : qcr l = some r) : O.call 40 [v_l 18 T.qc.enc l] [] = some (v_b r,[]) := by
 revert h; unfold qcr
 refine bs fun v2 h1 => ?_
 have f1 := qio.1 _ _ h1
 try simp only [en.down] at f1
 apply it <;> intro h3
 ·refine bs fun v5 h4 => ?_
  have f2 := zt7.1 _ _ h4
  try simp only [en.down] at f2
  rintro ⟨⟩
  exact fF qk6
 rintro ⟨⟩
 exact fF qk6
theorem zif : ∀ p r,um p = some r → O.loop 59 0 ⟨[(0,v_s p.1),(1,v_s p.2.1),(2,v_s p.2.2.1),(7,v_r 0 p.2.2.2.2.2),(8,v_b p.2.2.2.1),(9,v_i p.2.2.2.2.1)],[(0,b_r 1 ql p.2.2.2.2.2)],1⟩ = some (Ex.normal,⟨[(7,v_r 0 r)],[(0,b_r 1 ql r)],1⟩) := by
 refine um.partial_correctness _ ?_
 rintro um ih95 ⟨s,lead,unit,behind,i,b⟩ r; dsimp only
 apply it <;> intro h1
 ·apply it <;> intro h2
  ·refine bc fun b4 h3 f1 f2 => ?_
   apply it <;> intro h5
   ·apply it <;> intro h6
    ·apply it <;> intro h7
     ·have f3 := rA ql h7
      intro h; have f4 := ih95 _ _ h; clear h
      try simp only [en.down] at f4
      try simp only [h2] at f4
      clear ih95; exact fL q2k
     refine gd fun h8 => ?_
     have f5 := rB ql h7
     have f6 : (b ++ unit).isEmpty = false := by cases b <;> cases unit <;> simp_all
     have f7 : szc 1 (b ++ unit) = 1 := q87 h7 _
     have f8 : List.map ql b ++ List.map ql unit = List.map ql (b ++ unit) := q31 _ _ _
     intro h; have f9 := ih95 _ _ h; clear h
     try simp only [en.down,f6,f7] at f9
     try simp only [h2,f6,f7] at f9
     clear ih95; exact fL q2k
    refine gd fun h9 => ?_
    have f10 := rG 1 ql b
    apply it <;> intro h10
    ·have f11 : List.map ql b ++ [[PV.int IntKind.u8 (b4.toNat : Int)]] = List.map ql (b ++ [b4]) := by simp only [List.map_append,List.map_cons,List.map_nil,ze,z8,zb,ql] <;> rfl
     refine gd fun h11 => ?_
     have f12 : ((b ++ [b4]) ++ lead).isEmpty = false := by first | simp | simp_all
     have f13 : szc 1 ((b ++ [b4]) ++ lead) = 1 := q87 (by first | simp | simp_all : ((b ++ [b4]).isEmpty && lead.isEmpty) = false) _
     have f14 : List.map ql (b ++ [b4]) ++ List.map ql lead = List.map ql ((b ++ [b4]) ++ lead) := q31 _ _ _
     intro h; have f15 := ih95 _ _ h; clear h
     try simp only [en.down,f12,f13] at f15
     try simp only [h2,f12,f13] at f15
     clear ih95; exact fL q2k
    have f16 : List.map ql b ++ [[PV.int IntKind.u8 (b4.toNat : Int)]] = List.map ql (b ++ [b4]) := by simp only [List.map_append,List.map_cons,List.map_nil,ze,z8,zb,ql] <;> rfl
    intro h; have f17 := ih95 _ _ h; clear h
    try simp only [en.down] at f17
    try simp only [h2] at f17
    clear ih95; exact fL q2k
   refine gd fun h12 => ?_
   have f18 := rG 1 ql b
   apply it <;> intro h13
   ·have f19 : List.map ql b ++ [[PV.int IntKind.u8 (b4.toNat : Int)]] = List.map ql (b ++ [b4]) := by simp only [List.map_append,List.map_cons,List.map_nil,ze,z8,zb,ql] <;> rfl
    refine gd fun h14 => ?_
    have f20 : ((b ++ [b4]) ++ lead).isEmpty = false := by first | simp | simp_all
    have f21 : szc 1 ((b ++ [b4]) ++ lead) = 1 := q87 (by first | simp | simp_all : ((b ++ [b4]).isEmpty && lead.isEmpty) = false) _
    have f22 : List.map ql (b ++ [b4]) ++ List.map ql lead = List.map ql ((b ++ [b4]) ++ lead) := q31 _ _ _
    intro h; have f23 := ih95 _ _ h; clear h
    try simp only [en.down,f20,f21] at f23
    try simp only [h2,h13,f20,f21] at f23
    clear ih95; exact fL q2k
   have f24 : List.map ql b ++ [[PV.int IntKind.u8 (b4.toNat : Int)]] = List.map ql (b ++ [b4]) := by simp only [List.map_append,List.map_cons,List.map_nil,ze,z8,zb,ql] <;> rfl
   intro h; have f25 := ih95 _ _ h; clear h
   try simp only [en.down] at f25
   try simp only [h2,h13] at f25
   clear ih95; exact fL q2k
  refine bc fun b16 h15 f26 f27 => ?_
  refine gd fun h17 => ?_
  have f28 := rG 1 ql b
  apply it <;> intro h18
  ·have f29 : List.map ql b ++ [[PV.int IntKind.u8 (b16.toNat : Int)]] = List.map ql (b ++ [b16]) := by simp only [List.map_append,List.map_cons,List.map_nil,ze,z8,zb,ql] <;> rfl
   refine gd fun h19 => ?_
   have f30 : ((b ++ [b16]) ++ lead).isEmpty = false := by first | simp | simp_all
   have f31 : szc 1 ((b ++ [b16]) ++ lead) = 1 := q87 (by first | simp | simp_all : ((b ++ [b16]).isEmpty && lead.isEmpty) = false) _
   have f32 : List.map ql (b ++ [b16]) ++ List.map ql lead = List.map ql ((b ++ [b16]) ++ lead) := q31 _ _ _
   intro h; have f33 := ih95 _ _ h; clear h
   try simp only [en.down,f30,f31] at f33
   try simp only [h2,h18,f30,f31] at f33
   clear ih95; exact fL q2k
  have f34 : List.map ql b ++ [[PV.int IntKind.u8 (b16.toNat : Int)]] = List.map ql (b ++ [b16]) := by simp only [List.map_append,List.map_cons,List.map_nil,ze,z8,zb,ql] <;> rfl
  intro h; have f35 := ih95 _ _ h; clear h
  try simp only [en.down] at f35
  try simp only [h2,h18] at f35
  clear ih95; exact fL q2k
 rintro ⟨⟩
 clear ih95; exact fL q2k
theorem qdp {s lead unit r} (h : q4k s lead unit = some r) : O.call 59 [v_s s,v_s lead,v_s unit] [] = some (v_s r,[]) := by
 revert h; unfold q4k
 refine bs fun v2 h1 => ?_
 have f1 := zif _ _ h1
 try simp only [en.down] at f1
 have f2 := xc 1 ql v2
 have f3 := bytesOf_map v2
 rintro ⟨⟩
 exact fF q2k
theorem q0r {p_ b b_2 b_3 r_ r_2 r_3 r} (h : uy p_ b b_2 b_3 r_ r_2 r_3 = some r) : O.call 58 [AV.ptr 0 0,v_g (T.qf.enc p_)] [(0,Blk.box [v_l 2 T.qi.enc b,v_s b_2,v_s b_3,v_r 1 r_,v_r 2 r_2,v_r 3 r_3]),(1,b_r 20 T.qf.enc r_),(2,b_r 1 qb r_2),(3,b_r 1 qh r_3)] = some (AV.tup [],[(0,Blk.box [v_l 2 T.qi.enc b,v_s b_2,v_s b_3,v_r 1 r,v_r 2 r_2,v_r 3 r_3]),(1,b_r 20 T.qf.enc r),(2,b_r 1 qb r_2),(3,b_r 1 qh r_3)]) := by
 revert h; unfold uy
 refine gd fun h1 => ?_
 have f1 := rG 20 T.qf.enc r_
 have f2 : List.map T.qf.enc r_ ++ [[PV.int IntKind.i64 p_.kind,PV.str p_.text,PV.int IntKind.i64 p_.n,PV.bool p_.def_,PV.bool p_.first,PV.bool p_.turned,PV.int IntKind.i64 p_.form.rx.kind,PV.str p_.form.rx.char,PV.bool p_.form.rx.not,PV.sl p_.form.rx.rows.nil (szc 2 p_.form.rx.rows.l) (List.map T.Row.enc p_.form.rx.rows.l),PV.int IntKind.i64 p_.form.rx.min,PV.int IntKind.i64 p_.form.rx.max,PV.bool p_.form.rx.lazy,PV.sl p_.form.rx.kids.nil (szc 8 p_.form.rx.kids.l) (List.map T.Rx.enc p_.form.rx.kids.l),PV.sl p_.form.fmts.nil (szc 5 p_.form.fmts.l) (List.map T.Fmt.enc p_.form.fmts.l),PV.bool p_.form.fold,PV.bool p_.form.all,PV.sl p_.opts.nil (szc 1 p_.opts.l) (List.map qh p_.opts.l),PV.int IntKind.i64 p_.up,PV.int IntKind.i64 (IntKind.i64.wrap ((r_.length : Int) + (1 : Int)))]] = List.map T.qf.enc (r_ ++ [(T.qf.mk p_.kind p_.text p_.n p_.def_ p_.first p_.turned p_.form p_.opts p_.up (IntKind.i64.wrap ((r_.length : Int) + (1 : Int))))]) := by simp only [List.map_append,List.map_cons,List.map_nil,ze,z8,zb,T.qf.qz] <;> rfl
 rintro ⟨⟩
 exact fF z0c
def qmp : ((Bytes × Bool) ⊕ (Unit)) → Ex × St
 | .inl y => (Ex.ret,⟨[(4,v_s y.1),(5,v_b y.2)],[],0⟩)
 | .inr y => (Ex.normal,⟨[(4,AV.undef),(5,AV.undef)],[],0⟩)
attribute [local go_sem] qmp
theorem z8t : ∀ p r,q5o p = some r → O.loop 60 0 ⟨[(0,v_s p.1),(1,v_l 2 T.qi.enc p.2.1),(6,v_i p.2.2)],[],0⟩ = some (qmp r) := by
 refine q5o.partial_correctness _ ?_
 rintro q5o ih98 ⟨name,env,i⟩ r; dsimp only
 apply it <;> intro h1
 ·refine bg T.qi.enc fun x3 h2 f1 f2 f3 => ?_
  apply it <;> intro h4
  ·rintro ⟨⟩
   clear ih98; exact fL qcs
  intro h; have f4 := ih98 _ _ h; clear h
  try simp only [en.down] at f4
  clear ih98; exact fL qcs
 rintro ⟨⟩
 clear ih98; exact fL qcs
theorem qj8 {name env r} (h : q7z name env = some r) : O.call 60 [v_s name,v_l 2 T.qi.enc env] [] = some (AV.tup [v_s r.1,v_b r.2],[]) := by
 revert h; unfold q7z
 refine bs fun v2 h1 => ?_
 have f1 := z8t _ _ h1
 try simp only [en.down] at f1
 rcases v2 with y3 | y4
 ·dsimp only
  rintro ⟨⟩
  exact fF qcs
 dsimp only
 rintro ⟨⟩
 exact fF qcs
theorem qsx {r} (h : qec = some r) : O.call 78 [] [] = some (v_l 1 qh r,[]) := by
 revert h; unfold qec
 rintro ⟨⟩
 exact fF zcq
def qnf : ((Bool) ⊕ (Unit)) → Ex × St
 | .inl y => (Ex.ret,⟨[(2,v_b y)],[],0⟩)
 | .inr y => (Ex.normal,⟨[(2,AV.undef)],[],0⟩)
attribute [local go_sem] qnf
theorem zs2 : ∀ p r,q5r p = some r → O.loop 61 0 ⟨[(0,v_s p.1),(3,v_l 1 qh p.2.1),(4,v_i p.2.2)],[],0⟩ = some (qnf r) := by
 refine q5r.partial_correctness _ ?_
 rintro q5r ih103 ⟨name,l,i⟩ r; dsimp only
 apply it <;> intro h1
 ·refine bg qh fun x3 h2 f1 f2 f3 => ?_
  apply it <;> intro h4
  ·rintro ⟨⟩
   clear ih103; exact fL qcm
  intro h; have f4 := ih103 _ _ h; clear h
  try simp only [en.down] at f4
  clear ih103; exact fL qcm
 rintro ⟨⟩
 clear ih103; exact fL qcm
theorem qk9 {name r} (h : q94 name = some r) : O.call 61 [v_s name] [] = some (v_b r,[]) := by
 revert h; unfold q94
 refine bs fun v2 h1 => ?_
 have f1 := qsx h1
 try simp only [en.down] at f1
 refine bs fun v4 h3 => ?_
 have f2 := zs2 _ _ h3
 try simp only [en.down] at f2
 rcases v4 with y5 | y6
 ·dsimp only
  rintro ⟨⟩
  exact fF qcm
 dsimp only
 rintro ⟨⟩
 exact fF qcm
def qo2 (name : Bytes) (w : (Sl T.qi)) (w2 : Bytes) (w3 : Bytes) (r1_ : (List T.qf)) (r2_ : (List Int)) (r3_ : (List Bytes)) : ((Int) ⊕ (Unit)) → Ex × St
 | .inl y => (Ex.ret,⟨[(0,AV.ptr 0 0),(1,v_s name),(4,v_i y)],[(0,Blk.box [v_l 2 T.qi.enc w,v_s w2,v_s w3,v_r 1 r1_,v_r 2 r2_,v_r 3 r3_]),(1,b_r 20 T.qf.enc r1_),(2,b_r 1 qb r2_),(3,b_r 1 qh r3_)],4⟩)
 | .inr y => (Ex.normal,⟨[(0,AV.ptr 0 0),(1,v_s name),(4,AV.undef)],[(0,Blk.box [v_l 2 T.qi.enc w,v_s w2,v_s w3,v_r 1 r1_,v_r 2 r2_,v_r 3 r3_]),(1,b_r 20 T.qf.enc r1_),(2,b_r 1 qb r2_),(3,b_r 1 qh r3_)],4⟩)
attribute [local go_sem] qo2
theorem zmu : ∀ p r,q5l p = some r → O.loop 63 0 ⟨[(0,AV.ptr 0 0),(1,v_s p.1),(5,v_i p.2.1)],[(0,Blk.box [v_l 2 T.qi.enc p.2.2.1,v_s p.2.2.2.1,v_s p.2.2.2.2.1,v_r 1 p.2.2.2.2.2.1,v_r 2 p.2.2.2.2.2.2.1,v_r 3 p.2.2.2.2.2.2.2]),(1,b_r 20 T.qf.enc p.2.2.2.2.2.1),(2,b_r 1 qb p.2.2.2.2.2.2.1),(3,b_r 1 qh p.2.2.2.2.2.2.2)],4⟩ = some (qo2 p.1 p.2.2.1 p.2.2.2.1 p.2.2.2.2.1 p.2.2.2.2.2.1 p.2.2.2.2.2.2.1 p.2.2.2.2.2.2.2 r) := by
 refine q5l.partial_correctness _ ?_
 rintro q5l ih105 ⟨name,i,w,w2,w3,r1_,r2_,r3_⟩ r; dsimp only
 apply it <;> intro h1
 ·refine bW qh 1 fun x3 h2 f1 f2 f3 f4 f5 => ?_
  apply it <;> intro h4
  ·rintro ⟨⟩
   clear ih105; exact fL qbb
  intro h; have f6 := ih105 _ _ h; clear h
  try simp only [en.down,f4,f5] at f6
  try simp only [f4,f5] at f6
  clear ih105; exact fL qbb
 rintro ⟨⟩
 clear ih105; exact fL qbb
theorem qli {name b b_2 b_3 r_ r_2 r_3 r} (h : q9t name b b_2 b_3 r_ r_2 r_3 = some r) : O.call 63 [AV.ptr 0 0,v_s name] [(0,Blk.box [v_l 2 T.qi.enc b,v_s b_2,v_s b_3,v_r 1 r_,v_r 2 r_2,v_r 3 r_3]),(1,b_r 20 T.qf.enc r_),(2,b_r 1 qb r_2),(3,b_r 1 qh r_3)] = some (v_i r.1,[(0,Blk.box [v_l 2 T.qi.enc b,v_s b_2,v_s b_3,v_r 1 r_,v_r 2 r_2,v_r 3 r.2]),(1,b_r 20 T.qf.enc r_),(2,b_r 1 qb r_2),(3,b_r 1 qh r.2)]) := by
 revert h; unfold q9t
 refine bs fun v2 h1 => ?_
 have f1 := zmu _ _ h1
 try simp only [en.down] at f1
 rcases v2 with y3 | y4
 ·dsimp only
  rintro ⟨⟩
  exact fF qbb
 dsimp only
 refine gd fun h5 => ?_
 have f2 := rG 1 qh r_3
 have f3 : List.map qh r_3 ++ [[PV.str name]] = List.map qh (r_3 ++ [name]) := by simp only [List.map_append,List.map_cons,List.map_nil,ze,z8,zb,qh] <;> rfl
 rintro ⟨⟩
 exact fF qbb
def qk7 (l : (List Int)) : ((Bool) ⊕ (Unit)) → Ex × St
 | .inl y => (Ex.ret,⟨[(4,v_b y)],[(0,b_r 1 qb l)],1⟩)
 | .inr y => (Ex.normal,⟨[(4,AV.undef)],[(0,b_r 1 qb l)],1⟩)
attribute [local go_sem] qk7
theorem qrv : ∀ p r,q47 p = some r → O.loop 65 0 ⟨[(0,v_r 0 p.2.2),(1,v_i p.1),(5,v_i p.2.1)],[(0,b_r 1 qb p.2.2)],1⟩ = some (qk7 p.2.2 r) := by
 refine q47.partial_correctness _ ?_
 rintro q47 ih108 ⟨n,i,l⟩ r; dsimp only
 apply it <;> intro h1
 ·refine bW qb 1 fun x3 h2 f1 f2 f3 f4 f5 => ?_
  apply it <;> intro h4
  ·rintro ⟨⟩
   clear ih108; exact fL qaq
  intro h; have f6 := ih108 _ _ h; clear h
  try simp only [en.down,f4,f5] at f6
  try simp only [f4,f5] at f6
  clear ih108; exact fL qaq
 rintro ⟨⟩
 clear ih108; exact fL qaq
theorem q9n {n r_ r} (h : q26 n r_ = some r) : O.call 65 [v_r 0 r_,v_i n] [(0,b_r 1 qb r_)] = some (v_b r,[(0,b_r 1 qb r_)]) := by
 revert h; unfold q26
 refine bs fun v2 h1 => ?_
 have f1 := qrv _ _ h1
 try simp only [en.down] at f1
 rcases v2 with y3 | y4
 ·dsimp only
  rintro ⟨⟩
  exact fF qaq
 dsimp only
 rintro ⟨⟩
 exact fF qaq
theorem ql6 : ∀ p r,q70 p = some r → O.loop 62 0 ⟨[(0,AV.ptr 0 0),(3,v_b p.1),(5,AV.ptr 5 0),(8,v_i p.2.1),(9,AV.ptr 6 0),(10,v_i p.2.2.1)],[(0,Blk.box [v_l 2 T.qi.enc p.2.2.2.1,v_s p.2.2.2.2.1,v_s p.2.2.2.2.2.1,v_r 2 p.2.2.2.2.2.2.2.1,v_r 3 p.2.2.2.2.2.2.2.2.1,v_r 4 p.2.2.2.2.2.2.2.2.2.1]),(1,Blk.row false 18 (List.map T.qc.enc p.2.2.2.2.2.2.1)),(2,b_r 20 T.qf.enc p.2.2.2.2.2.2.2.1),(3,b_r 1 qb p.2.2.2.2.2.2.2.2.1),(4,b_r 1 qh p.2.2.2.2.2.2.2.2.2.1),(5,Blk.box [v_i p.2.2.2.2.2.2.2.2.2.2.1,v_s p.2.2.2.2.2.2.2.2.2.2.2.1,v_i p.2.2.2.2.2.2.2.2.2.2.2.2.1,v_b p.2.2.2.2.2.2.2.2.2.2.2.2.2.1,v_b p.2.2.2.2.2.2.2.2.2.2.2.2.2.2.1,v_i p.2.2.2.2.2.2.2.2.2.2.2.2.2.2.2.1,v_s p.2.2.2.2.2.2.2.2.2.2.2.2.2.2.2.2.1,v_b p.2.2.2.2.2.2.2.2.2.2.2.2.2.2.2.2.2.1,v_l 2 T.Row.enc p.2.2.2.2.2.2.2.2.2.2.2.2.2.2.2.2.2.2.1,v_i p.2.2.2.2.2.2.2.2.2.2.2.2.2.2.2.2.2.2.2.1,v_i p.2.2.2.2.2.2.2.2.2.2.2.2.2.2.2.2.2.2.2.2.1,v_b p.2.2.2.2.2.2.2.2.2.2.2.2.2.2.2.2.2.2.2.2.2.1,v_l 8 T.Rx.enc p.2.2.2.2.2.2.2.2.2.2.2.2.2.2.2.2.2.2.2.2.2.2.1,v_l 5 T.Fmt.enc p.2.2.2.2.2.2.2.2.2.2.2.2.2.2.2.2.2.2.2.2.2.2.2.1,v_b p.2.2.2.2.2.2.2.2.2.2.2.2.2.2.2.2.2.2.2.2.2.2.2.2.1,v_b p.2.2.2.2.2.2.2.2.2.2.2.2.2.2.2.2.2.2.2.2.2.2.2.2.2.1,v_l 1 qh p.2.2.2.2.2.2.2.2.2.2.2.2.2.2.2.2.2.2.2.2.2.2.2.2.2.2.1,v_r 1 p.2.2.2.2.2.2.1]),(6,Blk.box [v_i p.2.2.2.2.2.2.2.2.2.2.2.2.2.2.2.2.2.2.2.2.2.2.2.2.2.2.2.1,v_s p.2.2.2.2.2.2.2.2.2.2.2.2.2.2.2.2.2.2.2.2.2.2.2.2.2.2.2.2.1,v_i p.2.2.2.2.2.2.2.2.2.2.2.2.2.2.2.2.2.2.2.2.2.2.2.2.2.2.2.2.2.1,v_b p.2.2.2.2.2.2.2.2.2.2.2.2.2.2.2.2.2.2.2.2.2.2.2.2.2.2.2.2.2.2.1,v_b p.2.2.2.2.2.2.2.2.2.2.2.2.2.2.2.2.2.2.2.2.2.2.2.2.2.2.2.2.2.2.2.1,v_b p.2.2.2.2.2.2.2.2.2.2.2.2.2.2.2.2.2.2.2.2.2.2.2.2.2.2.2.2.2.2.2.2.1,v_i p.2.2.2.2.2.2.2.2.2.2.2.2.2.2.2.2.2.2.2.2.2.2.2.2.2.2.2.2.2.2.2.2.2.1,v_s p.2.2.2.2.2.2.2.2.2.2.2.2.2.2.2.2.2.2.2.2.2.2.2.2.2.2.2.2.2.2.2.2.2.2.1,v_b p.2.2.2.2.2.2.2.2.2.2.2.2.2.2.2.2.2.2.2.2.2.2.2.2.2.2.2.2.2.2.2.2.2.2.2.1,v_l 2 T.Row.enc p.2.2.2.2.2.2.2.2.2.2.2.2.2.2.2.2.2.2.2.2.2.2.2.2.2.2.2.2.2.2.2.2.2.2.2.2.1,v_i p.2.2.2.2.2.2.2.2.2.2.2.2.2.2.2.2.2.2.2.2.2.2.2.2.2.2.2.2.2.2.2.2.2.2.2.2.2.1,v_i p.2.2.2.2.2.2.2.2.2.2.2.2.2.2.2.2.2.2.2.2.2.2.2.2.2.2.2.2.2.2.2.2.2.2.2.2.2.2.1,v_b p.2.2.2.2.2.2.2.2.2.2.2.2.2.2.2.2.2.2.2.2.2.2.2.2.2.2.2.2.2.2.2.2.2.2.2.2.2.2.2.1,v_l 8 T.Rx.enc p.2.2.2.2.2.2.2.2.2.2.2.2.2.2.2.2.2.2.2.2.2.2.2.2.2.2.2.2.2.2.2.2.2.2.2.2.2.2.2.2.1,v_l 5 T.Fmt.enc p.2.2.2.2.2.2.2.2.2.2.2.2.2.2.2.2.2.2.2.2.2.2.2.2.2.2.2.2.2.2.2.2.2.2.2.2.2.2.2.2.2.1,v_b p.2.2.2.2.2.2.2.2.2.2.2.2.2.2.2.2.2.2.2.2.2.2.2.2.2.2.2.2.2.2.2.2.2.2.2.2.2.2.2.2.2.2.1,v_b p.2.2.2.2.2.2.2.2.2.2.2.2.2.2.2.2.2.2.2.2.2.2.2.2.2.2.2.2.2.2.2.2.2.2.2.2.2.2.2.2.2.2.2.1,v_r 7 p.2.2.2.2.2.2.2.2.2.2.2.2.2.2.2.2.2.2.2.2.2.2.2.2.2.2.2.2.2.2.2.2.2.2.2.2.2.2.2.2.2.2.2.2.2.2,v_i p.2.2.2.2.2.2.2.2.2.2.2.2.2.2.2.2.2.2.2.2.2.2.2.2.2.2.2.2.2.2.2.2.2.2.2.2.2.2.2.2.2.2.2.2.1,v_i p.2.2.2.2.2.2.2.2.2.2.2.2.2.2.2.2.2.2.2.2.2.2.2.2.2.2.2.2.2.2.2.2.2.2.2.2.2.2.2.2.2.2.2.2.2.1]),(7,b_r 1 qh p.2.2.2.2.2.2.2.2.2.2.2.2.2.2.2.2.2.2.2.2.2.2.2.2.2.2.2.2.2.2.2.2.2.2.2.2.2.2.2.2.2.2.2.2.2.2)],8⟩ = some (Ex.normal,⟨[(0,AV.ptr 0 0),(3,v_b p.1),(5,AV.ptr 5 0),(8,v_i p.2.1),(9,AV.ptr 6 0)],[(0,Blk.box [v_l 2 T.qi.enc p.2.2.2.1,v_s p.2.2.2.2.1,v_s p.2.2.2.2.2.1,v_r 2 p.2.2.2.2.2.2.2.1,v_r 3 p.2.2.2.2.2.2.2.2.1,v_r 4 p.2.2.2.2.2.2.2.2.2.1]),(1,Blk.row false 18 (List.map T.qc.enc p.2.2.2.2.2.2.1)),(2,b_r 20 T.qf.enc p.2.2.2.2.2.2.2.1),(3,b_r 1 qb p.2.2.2.2.2.2.2.2.1),(4,b_r 1 qh p.2.2.2.2.2.2.2.2.2.1),(5,Blk.box [v_i p.2.2.2.2.2.2.2.2.2.2.1,v_s p.2.2.2.2.2.2.2.2.2.2.2.1,v_i p.2.2.2.2.2.2.2.2.2.2.2.2.1,v_b p.2.2.2.2.2.2.2.2.2.2.2.2.2.1,v_b p.2.2.2.2.2.2.2.2.2.2.2.2.2.2.1,v_i p.2.2.2.2.2.2.2.2.2.2.2.2.2.2.2.1,v_s p.2.2.2.2.2.2.2.2.2.2.2.2.2.2.2.2.1,v_b p.2.2.2.2.2.2.2.2.2.2.2.2.2.2.2.2.2.1,v_l 2 T.Row.enc p.2.2.2.2.2.2.2.2.2.2.2.2.2.2.2.2.2.2.1,v_i p.2.2.2.2.2.2.2.2.2.2.2.2.2.2.2.2.2.2.2.1,v_i p.2.2.2.2.2.2.2.2.2.2.2.2.2.2.2.2.2.2.2.2.1,v_b p.2.2.2.2.2.2.2.2.2.2.2.2.2.2.2.2.2.2.2.2.2.1,v_l 8 T.Rx.enc p.2.2.2.2.2.2.2.2.2.2.2.2.2.2.2.2.2.2.2.2.2.2.1,v_l 5 T.Fmt.enc p.2.2.2.2.2.2.2.2.2.2.2.2.2.2.2.2.2.2.2.2.2.2.2.1,v_b p.2.2.2.2.2.2.2.2.2.2.2.2.2.2.2.2.2.2.2.2.2.2.2.2.1,v_b p.2.2.2.2.2.2.2.2.2.2.2.2.2.2.2.2.2.2.2.2.2.2.2.2.2.1,v_l 1 qh p.2.2.2.2.2.2.2.2.2.2.2.2.2.2.2.2.2.2.2.2.2.2.2.2.2.2.1,v_r 1 p.2.2.2.2.2.2.1]),(6,Blk.box [v_i p.2.2.2.2.2.2.2.2.2.2.2.2.2.2.2.2.2.2.2.2.2.2.2.2.2.2.2.1,v_s p.2.2.2.2.2.2.2.2.2.2.2.2.2.2.2.2.2.2.2.2.2.2.2.2.2.2.2.2.1,v_i p.2.2.2.2.2.2.2.2.2.2.2.2.2.2.2.2.2.2.2.2.2.2.2.2.2.2.2.2.2.1,v_b p.2.2.2.2.2.2.2.2.2.2.2.2.2.2.2.2.2.2.2.2.2.2.2.2.2.2.2.2.2.2.1,v_b p.2.2.2.2.2.2.2.2.2.2.2.2.2.2.2.2.2.2.2.2.2.2.2.2.2.2.2.2.2.2.2.1,v_b p.2.2.2.2.2.2.2.2.2.2.2.2.2.2.2.2.2.2.2.2.2.2.2.2.2.2.2.2.2.2.2.2.1,v_i p.2.2.2.2.2.2.2.2.2.2.2.2.2.2.2.2.2.2.2.2.2.2.2.2.2.2.2.2.2.2.2.2.2.1,v_s p.2.2.2.2.2.2.2.2.2.2.2.2.2.2.2.2.2.2.2.2.2.2.2.2.2.2.2.2.2.2.2.2.2.2.1,v_b p.2.2.2.2.2.2.2.2.2.2.2.2.2.2.2.2.2.2.2.2.2.2.2.2.2.2.2.2.2.2.2.2.2.2.2.1,v_l 2 T.Row.enc p.2.2.2.2.2.2.2.2.2.2.2.2.2.2.2.2.2.2.2.2.2.2.2.2.2.2.2.2.2.2.2.2.2.2.2.2.1,v_i p.2.2.2.2.2.2.2.2.2.2.2.2.2.2.2.2.2.2.2.2.2.2.2.2.2.2.2.2.2.2.2.2.2.2.2.2.2.1,v_i p.2.2.2.2.2.2.2.2.2.2.2.2.2.2.2.2.2.2.2.2.2.2.2.2.2.2.2.2.2.2.2.2.2.2.2.2.2.2.1,v_b p.2.2.2.2.2.2.2.2.2.2.2.2.2.2.2.2.2.2.2.2.2.2.2.2.2.2.2.2.2.2.2.2.2.2.2.2.2.2.2.1,v_l 8 T.Rx.enc p.2.2.2.2.2.2.2.2.2.2.2.2.2.2.2.2.2.2.2.2.2.2.2.2.2.2.2.2.2.2.2.2.2.2.2.2.2.2.2.2.1,v_l 5 T.Fmt.enc p.2.2.2.2.2.2.2.2.2.2.2.2.2.2.2.2.2.2.2.2.2.2.2.2.2.2.2.2.2.2.2.2.2.2.2.2.2.2.2.2.2.1,v_b p.2.2.2.2.2.2.2.2.2.2.2.2.2.2.2.2.2.2.2.2.2.2.2.2.2.2.2.2.2.2.2.2.2.2.2.2.2.2.2.2.2.2.1,v_b p.2.2.2.2.2.2.2.2.2.2.2.2.2.2.2.2.2.2.2.2.2.2.2.2.2.2.2.2.2.2.2.2.2.2.2.2.2.2.2.2.2.2.2.1,v_r 7 r,v_i p.2.2.2.2.2.2.2.2.2.2.2.2.2.2.2.2.2.2.2.2.2.2.2.2.2.2.2.2.2.2.2.2.2.2.2.2.2.2.2.2.2.2.2.2.1,v_i p.2.2.2.2.2.2.2.2.2.2.2.2.2.2.2.2.2.2.2.2.2.2.2.2.2.2.2.2.2.2.2.2.2.2.2.2.2.2.2.2.2.2.2.2.2.1]),(7,b_r 1 qh r)],8⟩) := by
 refine q70.partial_correctness _ ?_
 rintro q70 ih109 ⟨plain,at_,i,w,w2,w3,r1_,r2_,r3_,r4_,x,x_2,x_3,x_4,x_5,x_6,x_7,x_8,x_9,x_10,x_11,x_12,x_13,x_14,x_15,x_16,x_17,p_,p_2,p_3,p_4,p_5,p_6,p_7,p_8,p_9,p_10,p_11,p_12,p_13,p_14,p_15,p_16,p_17,p_18,p_19,r7_⟩ r; dsimp only
 refine zo (fun h1 h2 => ?_) ?_
 ·refine bg qh fun x4 h3 f1 f2 f3 => ?_
  refine bs fun v6 h5 => ?_
  have f4 := qdp h5
  try simp only [en.down] at f4
  refine gd fun h7 => ?_
  have f5 := rG 1 qh r7_
  have f6 : List.map qh r7_ ++ [[PV.str v6]] = List.map qh (r7_ ++ [v6]) := by simp only [List.map_append,List.map_cons,List.map_nil,ze,z8,zb,qh] <;> rfl
  try simp only [h1] at f4
  intro h; have f7 := ih109 _ _ h; clear h
  try simp only [en.down] at f7
  try simp only [h1] at f7
  clear ih109; exact fL q0y
 rintro (⟨h1,h2⟩ | ⟨h1,h2⟩)
 all_goals
 rintro ⟨⟩
 clear ih109; exact fL q0y
theorem qnx : ∀ p r,q1b p = some r → O.loop 62 0 ⟨[(0,AV.ptr 0 0),(3,v_b p.1),(5,AV.ptr 4 0),(8,v_i p.2.1),(9,AV.ptr 5 0),(10,v_i p.2.2.1)],[(0,Blk.box [v_l 2 T.qi.enc p.2.2.2.1,v_s p.2.2.2.2.1,v_s p.2.2.2.2.2.1,v_r 1 p.2.2.2.2.2.2.1,v_r 2 p.2.2.2.2.2.2.2.1,v_r 3 p.2.2.2.2.2.2.2.2.1]),(1,b_r 20 T.qf.enc p.2.2.2.2.2.2.1),(2,b_r 1 qb p.2.2.2.2.2.2.2.1),(3,b_r 1 qh p.2.2.2.2.2.2.2.2.1),(4,b_x (T.qc.enc p.2.2.2.2.2.2.2.2.2.1)),(5,Blk.box [v_i p.2.2.2.2.2.2.2.2.2.2.1,v_s p.2.2.2.2.2.2.2.2.2.2.2.1,v_i p.2.2.2.2.2.2.2.2.2.2.2.2.1,v_b p.2.2.2.2.2.2.2.2.2.2.2.2.2.1,v_b p.2.2.2.2.2.2.2.2.2.2.2.2.2.2.1,v_b p.2.2.2.2.2.2.2.2.2.2.2.2.2.2.2.1,v_i p.2.2.2.2.2.2.2.2.2.2.2.2.2.2.2.2.1,v_s p.2.2.2.2.2.2.2.2.2.2.2.2.2.2.2.2.2.1,v_b p.2.2.2.2.2.2.2.2.2.2.2.2.2.2.2.2.2.2.1,v_l 2 T.Row.enc p.2.2.2.2.2.2.2.2.2.2.2.2.2.2.2.2.2.2.2.1,v_i p.2.2.2.2.2.2.2.2.2.2.2.2.2.2.2.2.2.2.2.2.1,v_i p.2.2.2.2.2.2.2.2.2.2.2.2.2.2.2.2.2.2.2.2.2.1,v_b p.2.2.2.2.2.2.2.2.2.2.2.2.2.2.2.2.2.2.2.2.2.2.1,v_l 8 T.Rx.enc p.2.2.2.2.2.2.2.2.2.2.2.2.2.2.2.2.2.2.2.2.2.2.2.1,v_l 5 T.Fmt.enc p.2.2.2.2.2.2.2.2.2.2.2.2.2.2.2.2.2.2.2.2.2.2.2.2.1,v_b p.2.2.2.2.2.2.2.2.2.2.2.2.2.2.2.2.2.2.2.2.2.2.2.2.2.1,v_b p.2.2.2.2.2.2.2.2.2.2.2.2.2.2.2.2.2.2.2.2.2.2.2.2.2.2.1,v_r 6 p.2.2.2.2.2.2.2.2.2.2.2.2.2.2.2.2.2.2.2.2.2.2.2.2.2.2.2.2.2,v_i p.2.2.2.2.2.2.2.2.2.2.2.2.2.2.2.2.2.2.2.2.2.2.2.2.2.2.2.1,v_i p.2.2.2.2.2.2.2.2.2.2.2.2.2.2.2.2.2.2.2.2.2.2.2.2.2.2.2.2.1]),(6,b_r 1 qh p.2.2.2.2.2.2.2.2.2.2.2.2.2.2.2.2.2.2.2.2.2.2.2.2.2.2.2.2.2)],7⟩ = some (Ex.normal,⟨[(0,AV.ptr 0 0),(3,v_b p.1),(5,AV.ptr 4 0),(8,v_i p.2.1),(9,AV.ptr 5 0)],[(0,Blk.box [v_l 2 T.qi.enc p.2.2.2.1,v_s p.2.2.2.2.1,v_s p.2.2.2.2.2.1,v_r 1 p.2.2.2.2.2.2.1,v_r 2 p.2.2.2.2.2.2.2.1,v_r 3 p.2.2.2.2.2.2.2.2.1]),(1,b_r 20 T.qf.enc p.2.2.2.2.2.2.1),(2,b_r 1 qb p.2.2.2.2.2.2.2.1),(3,b_r 1 qh p.2.2.2.2.2.2.2.2.1),(4,b_x (T.qc.enc p.2.2.2.2.2.2.2.2.2.1)),(5,Blk.box [v_i p.2.2.2.2.2.2.2.2.2.2.1,v_s p.2.2.2.2.2.2.2.2.2.2.2.1,v_i p.2.2.2.2.2.2.2.2.2.2.2.2.1,v_b p.2.2.2.2.2.2.2.2.2.2.2.2.2.1,v_b p.2.2.2.2.2.2.2.2.2.2.2.2.2.2.1,v_b p.2.2.2.2.2.2.2.2.2.2.2.2.2.2.2.1,v_i p.2.2.2.2.2.2.2.2.2.2.2.2.2.2.2.2.1,v_s p.2.2.2.2.2.2.2.2.2.2.2.2.2.2.2.2.2.1,v_b p.2.2.2.2.2.2.2.2.2.2.2.2.2.2.2.2.2.2.1,v_l 2 T.Row.enc p.2.2.2.2.2.2.2.2.2.2.2.2.2.2.2.2.2.2.2.1,v_i p.2.2.2.2.2.2.2.2.2.2.2.2.2.2.2.2.2.2.2.2.1,v_i p.2.2.2.2.2.2.2.2.2.2.2.2.2.2.2.2.2.2.2.2.2.1,v_b p.2.2.2.2.2.2.2.2.2.2.2.2.2.2.2.2.2.2.2.2.2.2.1,v_l 8 T.Rx.enc p.2.2.2.2.2.2.2.2.2.2.2.2.2.2.2.2.2.2.2.2.2.2.2.1,v_l 5 T.Fmt.enc p.2.2.2.2.2.2.2.2.2.2.2.2.2.2.2.2.2.2.2.2.2.2.2.2.1,v_b p.2.2.2.2.2.2.2.2.2.2.2.2.2.2.2.2.2.2.2.2.2.2.2.2.2.1,v_b p.2.2.2.2.2.2.2.2.2.2.2.2.2.2.2.2.2.2.2.2.2.2.2.2.2.2.1,v_r 6 r,v_i p.2.2.2.2.2.2.2.2.2.2.2.2.2.2.2.2.2.2.2.2.2.2.2.2.2.2.2.1,v_i p.2.2.2.2.2.2.2.2.2.2.2.2.2.2.2.2.2.2.2.2.2.2.2.2.2.2.2.2.1]),(6,b_r 1 qh r)],7⟩) := by
 refine q1b.partial_correctness _ ?_
 rintro q1b ih111 ⟨plain,at_,i,w,w2,w3,r1_,r2_,r3_,x,p_,p_2,p_3,p_4,p_5,p_6,p_7,p_8,p_9,p_10,p_11,p_12,p_13,p_14,p_15,p_16,p_17,p_18,p_19,r6_⟩ r; dsimp only
 refine zo (fun h1 h2 => ?_) ?_
 ·refine bg qh fun x4 h3 f1 f2 f3 => ?_
  refine bs fun v6 h5 => ?_
  have f4 := qdp h5
  try simp only [en.down] at f4
  refine gd fun h7 => ?_
  have f5 := rG 1 qh r6_
  have f6 : List.map qh r6_ ++ [[PV.str v6]] = List.map qh (r6_ ++ [v6]) := by simp only [List.map_append,List.map_cons,List.map_nil,ze,z8,zb,qh] <;> rfl
  try simp only [h1] at f4
  intro h; have f7 := ih111 _ _ h; clear h
  try simp only [en.down] at f7
  try simp only [h1] at f7
  clear ih111; exact fL q0y
 rintro (⟨h1,h2⟩ | ⟨h1,h2⟩)
 all_goals
 rintro ⟨⟩
 clear ih111; exact fL q0y
def qnz (b : (Sl T.qi)) (b_2 : Bytes) (b_3 : Bytes) (r_ : (List T.qc)) (r_4 : (List Bytes)) : (((List T.qf) × (List Int)) ⊕ ((Sl T.qi) × Bytes × Bytes × (List T.qf) × (List Int) × (List Bytes))) → AV × Heap
 | .inl y => (AV.tup [],[(0,Blk.box [v_l 2 T.qi.enc b,v_s b_2,v_s b_3,v_r 2 y.1,v_r 3 y.2,v_r 4 r_4]),(1,Blk.row false 18 (List.map T.qc.enc r_)),(2,b_r 20 T.qf.enc y.1),(3,b_r 1 qb y.2),(4,b_r 1 qh r_4)])
 | .inr y => (AV.tup [],[(0,Blk.box [v_l 2 T.qi.enc y.1,v_s y.2.1,v_s y.2.2.1,v_r 2 y.2.2.2.1,v_r 3 y.2.2.2.2.1,v_r 4 y.2.2.2.2.2]),(1,Blk.dead),(2,b_r 20 T.qf.enc y.2.2.2.1),(3,b_r 1 qb y.2.2.2.2.1),(4,b_r 1 qh y.2.2.2.2.2)])
attribute [local go_sem] qnz
theorem qh3 : (∀ p r,q0n p = some r → O.call 41 [AV.ptr 0 0,v_l 18 T.qc.enc p.1,v_i p.2.1] [(0,Blk.box [v_l 2 T.qi.enc p.2.2.1,v_s p.2.2.2.1,v_s p.2.2.2.2.1,v_r 1 p.2.2.2.2.2.1,v_r 2 p.2.2.2.2.2.2.1,v_r 3 p.2.2.2.2.2.2.2]),(1,b_r 20 T.qf.enc p.2.2.2.2.2.1),(2,b_r 1 qb p.2.2.2.2.2.2.1),(3,b_r 1 qh p.2.2.2.2.2.2.2)] = some (AV.tup [],[(0,Blk.box [v_l 2 T.qi.enc r.1,v_s r.2.1,v_s r.2.2.1,v_r 1 r.2.2.2.1,v_r 2 r.2.2.2.2.1,v_r 3 r.2.2.2.2.2]),(1,b_r 20 T.qf.enc r.2.2.2.1),(2,b_r 1 qb r.2.2.2.2.1),(3,b_r 1 qh r.2.2.2.2.2)])) ∧ (∀ p r,gz p = some r → O.loop 41 0 ⟨[(0,AV.ptr 0 0),(1,v_l 18 T.qc.enc p.1),(2,v_i p.2.1),(6,v_i p.2.2.1)],[(0,Blk.box [v_l 2 T.qi.enc p.2.2.2.1,v_s p.2.2.2.2.1,v_s p.2.2.2.2.2.1,v_r 1 p.2.2.2.2.2.2.1,v_r 2 p.2.2.2.2.2.2.2.1,v_r 3 p.2.2.2.2.2.2.2.2]),(1,b_r 20 T.qf.enc p.2.2.2.2.2.2.1),(2,b_r 1 qb p.2.2.2.2.2.2.2.1),(3,b_r 1 qh p.2.2.2.2.2.2.2.2)],4⟩ = some (Ex.normal,⟨[],[(0,Blk.box [v_l 2 T.qi.enc r.1,v_s r.2.1,v_s r.2.2.1,v_r 1 r.2.2.2.1,v_r 2 r.2.2.2.2.1,v_r 3 r.2.2.2.2.2]),(1,b_r 20 T.qf.enc r.2.2.2.1),(2,b_r 1 qb r.2.2.2.2.1),(3,b_r 1 qh r.2.2.2.2.2)],4⟩)) ∧ (∀ p r,q8q p = some r → O.call 62 [AV.ptr 0 0,v_g (T.qc.enc p.1),v_i p.2.1,v_b p.2.2.1] [(0,Blk.box [v_l 2 T.qi.enc p.2.2.2.1,v_s p.2.2.2.2.1,v_s p.2.2.2.2.2.1,v_r 1 p.2.2.2.2.2.2.1,v_r 2 p.2.2.2.2.2.2.2.1,v_r 3 p.2.2.2.2.2.2.2.2]),(1,b_r 20 T.qf.enc p.2.2.2.2.2.2.1),(2,b_r 1 qb p.2.2.2.2.2.2.2.1),(3,b_r 1 qh p.2.2.2.2.2.2.2.2)] = some (AV.tup [],[(0,Blk.box [v_l 2 T.qi.enc r.1,v_s r.2.1,v_s r.2.2.1,v_r 1 r.2.2.2.1,v_r 2 r.2.2.2.2.1,v_r 3 r.2.2.2.2.2]),(1,b_r 20 T.qf.enc r.2.2.2.1),(2,b_r 1 qb r.2.2.2.2.1),(3,b_r 1 qh r.2.2.2.2.2)])) ∧ (∀ p r,q8j p = some r → O.call 62 [AV.ptr 0 0,AV.agg [v_i p.1,v_s p.2.1,v_i p.2.2.1,v_b p.2.2.2.1,v_b p.2.2.2.2.1,v_i p.2.2.2.2.2.1,v_s p.2.2.2.2.2.2.1,v_b p.2.2.2.2.2.2.2.1,v_l 2 T.Row.enc p.2.2.2.2.2.2.2.2.1,v_i p.2.2.2.2.2.2.2.2.2.1,v_i p.2.2.2.2.2.2.2.2.2.2.1,v_b p.2.2.2.2.2.2.2.2.2.2.2.1,v_l 8 T.Rx.enc p.2.2.2.2.2.2.2.2.2.2.2.2.1,v_l 5 T.Fmt.enc p.2.2.2.2.2.2.2.2.2.2.2.2.2.1,v_b p.2.2.2.2.2.2.2.2.2.2.2.2.2.2.1,v_b p.2.2.2.2.2.2.2.2.2.2.2.2.2.2.2.1,v_l 1 qh p.2.2.2.2.2.2.2.2.2.2.2.2.2.2.2.2.1,v_r 1 p.2.2.2.2.2.2.2.2.2.2.2.2.2.2.2.2.2.2.2.2.2.2.1],v_i p.2.2.2.2.2.2.2.2.2.2.2.2.2.2.2.2.2.1,v_b p.2.2.2.2.2.2.2.2.2.2.2.2.2.2.2.2.2.2.1] [(0,Blk.box [v_l 2 T.qi.enc p.2.2.2.2.2.2.2.2.2.2.2.2.2.2.2.2.2.2.2.1,v_s p.2.2.2.2.2.2.2.2.2.2.2.2.2.2.2.2.2.2.2.2.1,v_s p.2.2.2.2.2.2.2.2.2.2.2.2.2.2.2.2.2.2.2.2.2.1,v_r 2 p.2.2.2.2.2.2.2.2.2.2.2.2.2.2.2.2.2.2.2.2.2.2.2.1,v_r 3 p.2.2.2.2.2.2.2.2.2.2.2.2.2.2.2.2.2.2.2.2.2.2.2.2.1,v_r 4 p.2.2.2.2.2.2.2.2.2.2.2.2.2.2.2.2.2.2.2.2.2.2.2.2.2]),(1,Blk.row false 18 (List.map T.qc.enc p.2.2.2.2.2.2.2.2.2.2.2.2.2.2.2.2.2.2.2.2.2.2.1)),(2,b_r 20 T.qf.enc p.2.2.2.2.2.2.2.2.2.2.2.2.2.2.2.2.2.2.2.2.2.2.2.1),(3,b_r 1 qb p.2.2.2.2.2.2.2.2.2.2.2.2.2.2.2.2.2.2.2.2.2.2.2.2.1),(4,b_r 1 qh p.2.2.2.2.2.2.2.2.2.2.2.2.2.2.2.2.2.2.2.2.2.2.2.2.2)] = some (qnz p.2.2.2.2.2.2.2.2.2.2.2.2.2.2.2.2.2.2.2.1 p.2.2.2.2.2.2.2.2.2.2.2.2.2.2.2.2.2.2.2.2.1 p.2.2.2.2.2.2.2.2.2.2.2.2.2.2.2.2.2.2.2.2.2.1 p.2.2.2.2.2.2.2.2.2.2.2.2.2.2.2.2.2.2.2.2.2.2.1 p.2.2.2.2.2.2.2.2.2.2.2.2.2.2.2.2.2.2.2.2.2.2.2.2.2 r)) := by
 refine q0n.mutual_partial_correctness _ _ _ _ ?_ ?_ ?_ ?_
 ·rintro gz ih100 ⟨l,up,b,b_2,b_3,r_,r_2,r_3⟩ r; dsimp only
  refine bs fun v2 h1 => ?_
  have f1 := ih100 _ _ h1
  try simp only [en.down] at f1
  rintro ⟨⟩
  clear ih100; exact fF yu
 ·rintro q0n gz q8q q8j ih99 ih100 ih110 ih106 ⟨l,up,i,w,w2,w3,r1_,r2_,r3_⟩ r; dsimp only
  apply it <;> intro h1
  ·refine bg T.qc.enc fun x3 h2 f1 f2 f3 => ?_
   apply it <;> intro h4
   ·refine bs fun v6 h5 => ?_
    have f4 := qdp h5
    try simp only [en.down] at f4
    refine bs fun v8 h7 => ?_
    have f5 := q0r h7
    try simp only [en.down] at f5
    intro h; have f6 := ih100 _ _ h; clear h
    try simp only [en.down] at f6
    clear ih99 ih100 ih106 ih110; exact fL yu
   apply it <;> intro h9
   ·refine bs fun v11 h10 => ?_
    have f7 := qj8 h10
    try simp only [en.down] at f7
    apply it <;> intro h12
    ·refine bs fun v14 h13 => ?_
     have f8 := q0r h13
     try simp only [en.down] at f8
     try simp only [h12] at f7 f8
     intro h; have f9 := ih100 _ _ h; clear h
     try simp only [en.down] at f9
     try simp only [h12] at f9
     clear ih99 ih100 ih106 ih110; exact fL yu
    apply it <;> intro h15
    ·refine bs fun v17 h16 => ?_
     have f10 := ih99 _ _ h16
     try simp only [en.down] at f10
     try simp only [h12,h15] at f7 f10
     intro h; have f11 := ih100 _ _ h; clear h
     try simp only [en.down] at f11
     try simp only [h12,h15] at f11
     clear ih99 ih100 ih106 ih110; exact fL yu
    refine bs fun v19 h18 => ?_
    have f12 := qk9 h18
    try simp only [en.down] at f12
    refine xy ?_ (fun h20 h23 => ?_)
    ·rintro (⟨h20,h23⟩ | ⟨h20,h23⟩)
     all_goals
     refine bs fun v22 h21 => ?_
     have f13 := q0r h21
     try simp only [en.down] at f13
     try simp only [h12,h15,h20,h23] at f7 f12 f13
     intro h; have f14 := ih100 _ _ h; clear h
     try simp only [en.down] at f14
     try simp only [h12,h15,h20,h23] at f14
     clear ih99 ih100 ih106 ih110; exact fL yu
    refine bs fun v27 h26 => ?_
    have f15 := qli h26
    try simp only [en.down] at f15
    refine bs fun v29 h28 => ?_
    have f16 := ih106 _ _ h28
    try simp only [en.down] at f16
    rcases v29 with y30 | y31
    ·dsimp only
     try simp only [h12,h15,h20,h23] at f7 f12 f15 f16
     intro h; have f17 := ih100 _ _ h; clear h
     try simp only [en.down] at f17
     try simp only [h12,h15,h20,h23] at f17
     clear ih99 ih100 ih106 ih110; exact fL yu
    dsimp only
    try simp only [h12,h15,h20,h23] at f7 f12 f15 f16
    intro h; have f18 := ih100 _ _ h; clear h
    try simp only [en.down] at f18
    try simp only [h12,h15,h20,h23] at f18
    clear ih99 ih100 ih106 ih110; exact fL yu
   refine bs fun v33 h32 => ?_
   have f19 := ih110 _ _ h32
   try simp only [en.down] at f19
   intro h; have f20 := ih100 _ _ h; clear h
   try simp only [en.down] at f20
   clear ih99 ih100 ih106 ih110; exact fL yu
  rintro ⟨⟩
  clear ih99 ih100 ih106 ih110; exact fL yu
 ·rintro q0n ih99 ⟨x,up,plain,b,b_2,b_3,r_,r_2,r_3⟩ r; dsimp only
  refine xy ?_ (fun h1 h21 => ?_)
  ·rintro (⟨h1,h21⟩ | ⟨h1,h21⟩)
   all_goals
   refine bs fun v3 h2 => ?_
   have f1 := q9n h2
   try simp only [en.down] at f1
   refine bs fun v5 h4 => ?_
   have f2 := qnx _ _ h4
   try simp only [en.down] at f2
   refine bs fun v7 h6 => ?_
   have f3 := q0r h6
   try simp only [en.down] at f3
   apply it <;> intro h8
   ·try simp only [h1] at f1 f2 f3
    rintro ⟨⟩
    clear ih99; exact fF q0y
   refine gd fun h9 => ?_
   have f4 := rG 1 qb r_2
   apply it <;> intro h10
   ·refine bg T.qc.enc fun x12 h11 f5 f6 f7 => ?_
    have f8 : List.map qb r_2 ++ [[PV.int IntKind.i64 x.n]] = List.map qb (r_2 ++ [x.n]) := by simp only [List.map_append,List.map_cons,List.map_nil,ze,z8,zb,qb] <;> rfl
    refine bs fun v14 h13 => ?_
    have f9 := q0r h13
    try simp only [en.down] at f9
    refine bW T.qf.enc 20 fun x16 h15 f10 f11 f12 f13 f14 => ?_
    have f15 := map_set T.qf.enc v14 ((r_.length : Int).toNat) (T.qf.mk x16.kind x16.text x16.n x16.def_ x16.first x16.turned x16.form x16.opts x16.up (v14.length : Int))
    try simp only [en.down] at f15
    try simp only [h1,h10,f13,f14] at f1 f2 f3 f9 f15
    rintro ⟨⟩
    clear ih99; exact fF q0y
   have f16 : List.map qb r_2 ++ [[PV.int IntKind.i64 x.n]] = List.map qb (r_2 ++ [x.n]) := by simp only [List.map_append,List.map_cons,List.map_nil,ze,z8,zb,qb] <;> rfl
   refine bs fun v18 h17 => ?_
   have f17 := ih99 _ _ h17
   try simp only [en.down] at f17
   refine bW T.qf.enc 20 fun x20 h19 f18 f19 f20 f21 f22 => ?_
   have f23 := map_set T.qf.enc v18.2.2.2.1 ((r_.length : Int).toNat) (T.qf.mk x20.kind x20.text x20.n x20.def_ x20.first x20.turned x20.form x20.opts x20.up (v18.2.2.2.1.length : Int))
   try simp only [en.down] at f23
   try simp only [h1,h10,f21,f22] at f1 f2 f3 f17 f23
   rintro ⟨⟩
   clear ih99; exact fF q0y
  refine bs fun v42 h41 => ?_
  have f24 := qnx _ _ h41
  try simp only [en.down] at f24
  refine bs fun v44 h43 => ?_
  have f25 := q0r h43
  try simp only [en.down] at f25
  try simp only [h1] at f24 f25
  rintro ⟨⟩
  clear ih99; exact fF q0y
 ·rintro q0n ih99 ⟨x,x_2,x_3,x_4,x_5,x_6,x_7,x_8,x_9,x_10,x_11,x_12,x_13,x_14,x_15,x_16,x_17,up,plain,b,b_2,b_3,r_,r_2,r_3,r_4⟩ r; dsimp only
  refine xy ?_ (fun h1 h21 => ?_)
  ·rintro (⟨h1,h21⟩ | ⟨h1,h21⟩)
   all_goals
   refine bs fun v3 h2 => ?_
   have f1 := q9n h2
   try simp only [en.down] at f1
   refine bs fun v5 h4 => ?_
   have f2 := ql6 _ _ h4
   try simp only [en.down] at f2
   refine bs fun v7 h6 => ?_
   have f3 := q0r h6
   try simp only [en.down] at f3
   apply it <;> intro h8
   ·try simp only [h1] at f1 f2 f3
    rintro ⟨⟩
    clear ih99; exact fF q0y
   refine gd fun h9 => ?_
   have f4 := rG 1 qb r_3
   apply it <;> intro h10
   ·refine bw T.qc.enc fun x12 h11 f5 f6 f7 => ?_
    have f8 : List.map qb r_3 ++ [[PV.int IntKind.i64 x_3]] = List.map qb (r_3 ++ [x_3]) := by simp only [List.map_append,List.map_cons,List.map_nil,ze,z8,zb,qb] <;> rfl
    refine bs fun v14 h13 => ?_
    have f9 := q0r h13
    try simp only [en.down] at f9
    refine bW T.qf.enc 20 fun x16 h15 f10 f11 f12 f13 f14 => ?_
    have f15 := map_set T.qf.enc v14 ((r_2.length : Int).toNat) (T.qf.mk x16.kind x16.text x16.n x16.def_ x16.first x16.turned x16.form x16.opts x16.up (v14.length : Int))
    try simp only [en.down] at f15
    try simp only [h1,h10,f13,f14] at f1 f2 f3 f9 f15
    rintro ⟨⟩
    clear ih99; exact fF q0y
   have f16 : List.map qb r_3 ++ [[PV.int IntKind.i64 x_3]] = List.map qb (r_3 ++ [x_3]) := by simp only [List.map_append,List.map_cons,List.map_nil,ze,z8,zb,qb] <;> rfl
   refine bs fun v18 h17 => ?_
   have f17 := ih99 _ _ h17
   try simp only [en.down] at f17
   refine bW T.qf.enc 20 fun x20 h19 f18 f19 f20 f21 f22 => ?_
   have f23 := map_set T.qf.enc v18.2.2.2.1 ((r_2.length : Int).toNat) (T.qf.mk x20.kind x20.text x20.n x20.def_ x20.first x20.turned x20.form x20.opts x20.up (v18.2.2.2.1.length : Int))
   try simp only [en.down] at f23
   try simp only [h1,h10,f21,f22] at f1 f2 f3 f17 f23
   rintro ⟨⟩
   clear ih99; exact fF q0y
  refine bs fun v42 h41 => ?_
  have f24 := ql6 _ _ h41
  try simp only [en.down] at f24
  refine bs fun v44 h43 => ?_
  have f25 := q0r h43
  try simp only [en.down] at f25
  try simp only [h1] at f24 f25
  rintro ⟨⟩
  clear ih99; exact fF q0y
theorem zeg : ∀ p r,nk p = some r → O.loop 41 0 ⟨[(0,AV.ptr 0 0),(1,v_l 18 T.qc.enc p.1),(2,v_i p.2.1),(6,v_i p.2.2.1)],[(0,Blk.box [v_l 2 T.qi.enc p.2.2.2.1,v_s p.2.2.2.2.1,v_s p.2.2.2.2.2.1,v_r 1 p.2.2.2.2.2.2.1,v_r 2 p.2.2.2.2.2.2.2.1,v_r 3 p.2.2.2.2.2.2.2.2]),(1,b_r 20 T.qf.enc p.2.2.2.2.2.2.1),(2,b_r 1 qb p.2.2.2.2.2.2.2.1),(3,b_r 1 qh p.2.2.2.2.2.2.2.2)],4⟩ = some (Ex.normal,⟨[],[(0,Blk.box [v_l 2 T.qi.enc r.1,v_s r.2.1,v_s r.2.2.1,v_r 1 r.2.2.2.1,v_r 2 r.2.2.2.2.1,v_r 3 r.2.2.2.2.2]),(1,b_r 20 T.qf.enc r.2.2.2.1),(2,b_r 1 qb r.2.2.2.2.1),(3,b_r 1 qh r.2.2.2.2.2)],4⟩) := by
 refine nk.partial_correctness _ ?_
 rintro nk ih93 ⟨l,up,i,w,w2,w3,r1_,r2_,r3_⟩ r; dsimp only
 apply it <;> intro h1
 ·refine bg T.qc.enc fun x3 h2 f1 f2 f3 => ?_
  apply it <;> intro h4
  ·refine bs fun v6 h5 => ?_
   have f4 := qdp h5
   try simp only [en.down] at f4
   refine bs fun v8 h7 => ?_
   have f5 := q0r h7
   try simp only [en.down] at f5
   intro h; have f6 := ih93 _ _ h; clear h
   try simp only [en.down] at f6
   clear ih93; exact fL yu
  apply it <;> intro h9
  ·refine bs fun v11 h10 => ?_
   have f7 := qj8 h10
   try simp only [en.down] at f7
   apply it <;> intro h12
   ·refine bs fun v14 h13 => ?_
    have f8 := q0r h13
    try simp only [en.down] at f8
    try simp only [h12] at f7 f8
    intro h; have f9 := ih93 _ _ h; clear h
    try simp only [en.down] at f9
    try simp only [h12] at f9
    clear ih93; exact fL yu
   apply it <;> intro h15
   ·refine bs fun v17 h16 => ?_
    have f10 := qh3.1 _ _ h16
    try simp only [en.down] at f10
    try simp only [h12,h15] at f7 f10
    intro h; have f11 := ih93 _ _ h; clear h
    try simp only [en.down] at f11
    try simp only [h12,h15] at f11
    clear ih93; exact fL yu
   refine bs fun v19 h18 => ?_
   have f12 := qk9 h18
   try simp only [en.down] at f12
   refine xy ?_ (fun h20 h23 => ?_)
   ·rintro (⟨h20,h23⟩ | ⟨h20,h23⟩)
    all_goals
    refine bs fun v22 h21 => ?_
    have f13 := q0r h21
    try simp only [en.down] at f13
    try simp only [h12,h15,h20,h23] at f7 f12 f13
    intro h; have f14 := ih93 _ _ h; clear h
    try simp only [en.down] at f14
    try simp only [h12,h15,h20,h23] at f14
    clear ih93; exact fL yu
   refine bs fun v27 h26 => ?_
   have f15 := qli h26
   try simp only [en.down] at f15
   refine bs fun v29 h28 => ?_
   have f16 := qh3.2.2.2 _ _ h28
   try simp only [en.down] at f16
   rcases v29 with y30 | y31
   ·dsimp only
    try simp only [h12,h15,h20,h23] at f7 f12 f15 f16
    intro h; have f17 := ih93 _ _ h; clear h
    try simp only [en.down] at f17
    try simp only [h12,h15,h20,h23] at f17
    clear ih93; exact fL yu
   dsimp only
   try simp only [h12,h15,h20,h23] at f7 f12 f15 f16
   intro h; have f18 := ih93 _ _ h; clear h
   try simp only [en.down] at f18
   try simp only [h12,h15,h20,h23] at f18
   clear ih93; exact fL yu
  refine bs fun v33 h32 => ?_
  have f19 := qh3.2.2.1 _ _ h32
  try simp only [en.down] at f19
  intro h; have f20 := ih93 _ _ h; clear h
  try simp only [en.down] at f20
  clear ih93; exact fL yu
 rintro ⟨⟩
 clear ih93; exact fL yu
end Go.Proofs.YtdhgdeelagmbpaaGreat
