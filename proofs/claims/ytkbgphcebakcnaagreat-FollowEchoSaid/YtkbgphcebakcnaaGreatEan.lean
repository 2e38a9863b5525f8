/-
  What the machine's calls come to: the plain functions.
-/
import Derived.Test.YtkbgphcebakcnaaGreatEak
import Derived.Test.YtkbgphcebakcnaaGreatEal
import Derived.Test.YtkbgphcebakcnaaGreatEam
set_option linter.unusedSimpArgs false
set_option linter.unusedVariables false
set_option maxRecDepth 100000
namespace Go.Proofs.YtkbgphcebakcnaaGreat
open Go Go.Gm
attribute [local go_sem] qbv
attribute [local go_sem] qbm qb8
set_option maxHeartbeats 4000000
theorem zbg : ∀ p r,jo p = some r → O.loop 83 0 ⟨[(0,AV.ptr 0 0),(2,v_r 1 p.2.2.2.2.2.2.2.2.2.2.1),(3,v_l 2 T.qd.enc p.1),(4,v_b p.2.1),(6,AV.ptr 3 0),(10,AV.ptr 4 0),(12,AV.ptr 5 0),(13,v_r 7 p.2.2.2.2.2.2.2.2.2.2.2.2.2.2.2.2.1),(14,v_r 6 p.2.2.2.2.2.2.2.2.2.2.2.2.2.2.2.1),(32,v_l 18 T.Stop.enc p.2.2.1),(33,v_i p.2.2.2.1),(34,v_i p.2.2.2.2.1)],[(0,Blk.box [v_i p.2.2.2.2.2.1,v_i p.2.2.2.2.2.2.1,v_s p.2.2.2.2.2.2.2.1,AV.row 2 1 0 1,v_i p.2.2.2.2.2.2.2.2.1,v_i p.2.2.2.2.2.2.2.2.2.1]),(1,Blk.row false 1 (List.map qh p.2.2.2.2.2.2.2.2.2.2.1)),(2,Blk.qm 1 [[v_r 1 p.2.2.2.2.2.2.2.2.2.2.1]]),(3,b_x (T.qa.enc p.2.2.2.2.2.2.2.2.2.2.2.1)),(4,b_x (T.qa.enc p.2.2.2.2.2.2.2.2.2.2.2.2.1)),(5,Blk.box [v_i p.2.2.2.2.2.2.2.2.2.2.2.2.2.1,v_i p.2.2.2.2.2.2.2.2.2.2.2.2.2.2.1,v_r 8 p.2.2.2.2.2.2.2.2.2.2.2.2.2.2.2.2.2]),(6,Blk.row false 1 (List.map qh p.2.2.2.2.2.2.2.2.2.2.2.2.2.2.2.1)),(7,b_r 2 T.qd.enc p.2.2.2.2.2.2.2.2.2.2.2.2.2.2.2.2.1),(8,b_r 18 T.Stop.enc p.2.2.2.2.2.2.2.2.2.2.2.2.2.2.2.2.2)],9⟩ = some (Ex.normal,⟨[(10,AV.ptr 4 0),(12,AV.ptr 5 0),(13,v_r 7 r.2.1)],[(0,Blk.box [v_i p.2.2.2.2.2.1,v_i p.2.2.2.2.2.2.1,v_s p.2.2.2.2.2.2.2.1,AV.row 2 1 0 1,v_i p.2.2.2.2.2.2.2.2.1,v_i p.2.2.2.2.2.2.2.2.2.1]),(1,Blk.row false 1 (List.map qh p.2.2.2.2.2.2.2.2.2.2.1)),(2,Blk.qm 1 [[v_r 1 p.2.2.2.2.2.2.2.2.2.2.1]]),(3,b_x (T.qa.enc p.2.2.2.2.2.2.2.2.2.2.2.1)),(4,b_x (T.qa.enc p.2.2.2.2.2.2.2.2.2.2.2.2.1)),(5,Blk.box [v_i p.2.2.2.2.2.2.2.2.2.2.2.2.2.1,v_i p.2.2.2.2.2.2.2.2.2.2.2.2.2.2.1,v_r 8 r.2.2]),(6,Blk.row false 1 (List.map qh r.1)),(7,b_r 2 T.qd.enc r.2.1),(8,b_r 18 T.Stop.enc r.2.2)],9⟩) := by
 refine jo.partial_correctness _ ?_
 rintro jo ih162 ⟨marks,typed,t32,t33,t34,r_,r_2,r_3,r_4,r_5,does,i,t10,out,out2,places,kept,r8_⟩ r; dsimp only
 apply it <;> intro h1
 ·refine bg T.Stop.enc fun x3 h2 f1 f2 f3 => ?_
  refine bw qh fun x5 h4 f4 f5 f6 => ?_
  apply it <;> intro h6
  ·intro h; have f7 := ih162 _ _ h; clear h
   try simp only [en.down] at f7
   clear ih162; exact fL je
  refine bw qh fun x8 h7 f8 f9 f10 => ?_
  have f11 := map_set qh places t34.toNat (r8_.length : Int)
  try simp only [en.down] at f11
  refine bs fun v10 h9 => ?_
  have f12 := q56 h9
  try simp only [en.down] at f12
  apply it <;> intro h11
  ·refine bw qh fun x13 h12 f13 f14 f15 => ?_
   try simp only [List.length_set] at f15
   refine bs fun v15 h14 => ?_
   have f16 := qaz h14
   try simp only [en.down] at f16
   refine bg T.qd.enc fun x17 h16 f17 f18 f19 => ?_
   apply it <;> intro h18
   ·refine gd fun h19 => ?_
    have f20 := rG 18 T.Stop.enc r8_
    refine gd fun h20 => ?_
    have f21 := rG 2 T.qd.enc kept
    have f22 : List.map T.qd.enc kept ++ [[PV.int IntKind.i64 x17.id,PV.bool true]] = List.map T.qd.enc (kept ++ [(T.qd.mk x17.id true)]) := by simp only [List.map_append,List.map_cons,List.map_nil,qx,qy,qw,T.qd.qi] <;> rfl
    have f23 : List.map T.Stop.enc r8_ ++ [[PV.int IntKind.i64 v15.frm,PV.int IntKind.i64 v15.to,PV.int IntKind.i64 x3.n,PV.int IntKind.i64 x13,PV.bool x3.first,PV.bool x3.turned,PV.int IntKind.i64 x3.form.rx.kind,PV.str x3.form.rx.char,PV.bool x3.form.rx.not,PV.sl x3.form.rx.rows.nil (szc 2 x3.form.rx.rows.l) (List.map T.Row.enc x3.form.rx.rows.l),PV.int IntKind.i64 x3.form.rx.min,PV.int IntKind.i64 x3.form.rx.max,PV.bool x3.form.rx.lazy,PV.sl x3.form.rx.kids.nil (szc 8 x3.form.rx.kids.l) (List.map T.Rx.enc x3.form.rx.kids.l),PV.sl x3.form.fmts.nil (szc 5 x3.form.fmts.l) (List.map T.Fmt.enc x3.form.fmts.l),PV.bool x3.form.fold,PV.bool x3.form.all,PV.sl x3.opts.nil (szc 1 x3.opts.l) (List.map zn x3.opts.l)]] = List.map T.Stop.enc (r8_ ++ [(T.Stop.mk v15 x3.n x13 x3.first x3.turned x3.form x3.opts)]) := by simp only [List.map_append,List.map_cons,List.map_nil,qx,qy,qw,T.Stop.qi] <;> rfl
    try simp only [h18] at f11 f12 f16
    intro h; have f24 := ih162 _ _ h; clear h
    try simp only [en.down] at f24
    try simp only [h18] at f24
    clear ih162; exact fL je
   apply it <;> intro h21
   ·refine gd fun h22 => ?_
    have f25 := rG 18 T.Stop.enc r8_
    refine gd fun h23 => ?_
    have f26 := rG 2 T.qd.enc kept
    have f27 : List.map T.qd.enc kept ++ [[PV.int IntKind.i64 x17.id,PV.bool (x5 == (1 : Int))]] = List.map T.qd.enc (kept ++ [(T.qd.mk x17.id (x5 == (1 : Int)))]) := by simp only [List.map_append,List.map_cons,List.map_nil,qx,qy,qw,T.qd.qi] <;> rfl
    have f28 : List.map T.Stop.enc r8_ ++ [[PV.int IntKind.i64 v15.frm,PV.int IntKind.i64 v15.to,PV.int IntKind.i64 x3.n,PV.int IntKind.i64 x13,PV.bool x3.first,PV.bool x3.turned,PV.int IntKind.i64 x3.form.rx.kind,PV.str x3.form.rx.char,PV.bool x3.form.rx.not,PV.sl x3.form.rx.rows.nil (szc 2 x3.form.rx.rows.l) (List.map T.Row.enc x3.form.rx.rows.l),PV.int IntKind.i64 x3.form.rx.min,PV.int IntKind.i64 x3.form.rx.max,PV.bool x3.form.rx.lazy,PV.sl x3.form.rx.kids.nil (szc 8 x3.form.rx.kids.l) (List.map T.Rx.enc x3.form.rx.kids.l),PV.sl x3.form.fmts.nil (szc 5 x3.form.fmts.l) (List.map T.Fmt.enc x3.form.fmts.l),PV.bool x3.form.fold,PV.bool x3.form.all,PV.sl x3.opts.nil (szc 1 x3.opts.l) (List.map zn x3.opts.l)]] = List.map T.Stop.enc (r8_ ++ [(T.Stop.mk v15 x3.n x13 x3.first x3.turned x3.form x3.opts)]) := by simp only [List.map_append,List.map_cons,List.map_nil,qx,qy,qw,T.Stop.qi] <;> rfl
    try simp only [h18,h21] at f11 f12 f16
    intro h; have f29 := ih162 _ _ h; clear h
    try simp only [en.down] at f29
    try simp only [h18,h21] at f29
    clear ih162; exact fL je
   refine gd fun h24 => ?_
   have f30 := rG 18 T.Stop.enc r8_
   refine gd fun h25 => ?_
   have f31 := rG 2 T.qd.enc kept
   have f32 : List.map T.qd.enc kept ++ [[PV.int IntKind.i64 x17.id,PV.bool false]] = List.map T.qd.enc (kept ++ [(T.qd.mk x17.id false)]) := by simp only [List.map_append,List.map_cons,List.map_nil,qx,qy,qw,T.qd.qi] <;> rfl
   have f33 : List.map T.Stop.enc r8_ ++ [[PV.int IntKind.i64 v15.frm,PV.int IntKind.i64 v15.to,PV.int IntKind.i64 x3.n,PV.int IntKind.i64 x13,PV.bool x3.first,PV.bool x3.turned,PV.int IntKind.i64 x3.form.rx.kind,PV.str x3.form.rx.char,PV.bool x3.form.rx.not,PV.sl x3.form.rx.rows.nil (szc 2 x3.form.rx.rows.l) (List.map T.Row.enc x3.form.rx.rows.l),PV.int IntKind.i64 x3.form.rx.min,PV.int IntKind.i64 x3.form.rx.max,PV.bool x3.form.rx.lazy,PV.sl x3.form.rx.kids.nil (szc 8 x3.form.rx.kids.l) (List.map T.Rx.enc x3.form.rx.kids.l),PV.sl x3.form.fmts.nil (szc 5 x3.form.fmts.l) (List.map T.Fmt.enc x3.form.fmts.l),PV.bool x3.form.fold,PV.bool x3.form.all,PV.sl x3.opts.nil (szc 1 x3.opts.l) (List.map zn x3.opts.l)]] = List.map T.Stop.enc (r8_ ++ [(T.Stop.mk v15 x3.n x13 x3.first x3.turned x3.form x3.opts)]) := by simp only [List.map_append,List.map_cons,List.map_nil,qx,qy,qw,T.Stop.qi] <;> rfl
   try simp only [h18,h21] at f11 f12 f16
   intro h; have f34 := ih162 _ _ h; clear h
   try simp only [en.down] at f34
   try simp only [h18,h21] at f34
   clear ih162; exact fL je
  refine bs fun v27 h26 => ?_
  have f35 := qaz h26
  try simp only [en.down] at f35
  refine bg T.qd.enc fun x29 h28 f36 f37 f38 => ?_
  apply it <;> intro h30
  ·refine gd fun h31 => ?_
   have f39 := rG 18 T.Stop.enc r8_
   refine gd fun h32 => ?_
   have f40 := rG 2 T.qd.enc kept
   have f41 : List.map T.qd.enc kept ++ [[PV.int IntKind.i64 x29.id,PV.bool true]] = List.map T.qd.enc (kept ++ [(T.qd.mk x29.id true)]) := by simp only [List.map_append,List.map_cons,List.map_nil,qx,qy,qw,T.qd.qi] <;> rfl
   have f42 : List.map T.Stop.enc r8_ ++ [[PV.int IntKind.i64 v27.frm,PV.int IntKind.i64 v27.to,PV.int IntKind.i64 x3.n,PV.int IntKind.i64 x3.up,PV.bool x3.first,PV.bool x3.turned,PV.int IntKind.i64 x3.form.rx.kind,PV.str x3.form.rx.char,PV.bool x3.form.rx.not,PV.sl x3.form.rx.rows.nil (szc 2 x3.form.rx.rows.l) (List.map T.Row.enc x3.form.rx.rows.l),PV.int IntKind.i64 x3.form.rx.min,PV.int IntKind.i64 x3.form.rx.max,PV.bool x3.form.rx.lazy,PV.sl x3.form.rx.kids.nil (szc 8 x3.form.rx.kids.l) (List.map T.Rx.enc x3.form.rx.kids.l),PV.sl x3.form.fmts.nil (szc 5 x3.form.fmts.l) (List.map T.Fmt.enc x3.form.fmts.l),PV.bool x3.form.fold,PV.bool x3.form.all,PV.sl x3.opts.nil (szc 1 x3.opts.l) (List.map zn x3.opts.l)]] = List.map T.Stop.enc (r8_ ++ [(T.Stop.mk v27 x3.n x3.up x3.first x3.turned x3.form x3.opts)]) := by simp only [List.map_append,List.map_cons,List.map_nil,qx,qy,qw,T.Stop.qi] <;> rfl
   try simp only [h30] at f11 f12 f35
   intro h; have f43 := ih162 _ _ h; clear h
   try simp only [en.down] at f43
   try simp only [h30] at f43
   clear ih162; exact fL je
  apply it <;> intro h33
  ·refine gd fun h34 => ?_
   have f44 := rG 18 T.Stop.enc r8_
   refine gd fun h35 => ?_
   have f45 := rG 2 T.qd.enc kept
   have f46 : List.map T.qd.enc kept ++ [[PV.int IntKind.i64 x29.id,PV.bool (x5 == (1 : Int))]] = List.map T.qd.enc (kept ++ [(T.qd.mk x29.id (x5 == (1 : Int)))]) := by simp only [List.map_append,List.map_cons,List.map_nil,qx,qy,qw,T.qd.qi] <;> rfl
   have f47 : List.map T.Stop.enc r8_ ++ [[PV.int IntKind.i64 v27.frm,PV.int IntKind.i64 v27.to,PV.int IntKind.i64 x3.n,PV.int IntKind.i64 x3.up,PV.bool x3.first,PV.bool x3.turned,PV.int IntKind.i64 x3.form.rx.kind,PV.str x3.form.rx.char,PV.bool x3.form.rx.not,PV.sl x3.form.rx.rows.nil (szc 2 x3.form.rx.rows.l) (List.map T.Row.enc x3.form.rx.rows.l),PV.int IntKind.i64 x3.form.rx.min,PV.int IntKind.i64 x3.form.rx.max,PV.bool x3.form.rx.lazy,PV.sl x3.form.rx.kids.nil (szc 8 x3.form.rx.kids.l) (List.map T.Rx.enc x3.form.rx.kids.l),PV.sl x3.form.fmts.nil (szc 5 x3.form.fmts.l) (List.map T.Fmt.enc x3.form.fmts.l),PV.bool x3.form.fold,PV.bool x3.form.all,PV.sl x3.opts.nil (szc 1 x3.opts.l) (List.map zn x3.opts.l)]] = List.map T.Stop.enc (r8_ ++ [(T.Stop.mk v27 x3.n x3.up x3.first x3.turned x3.form x3.opts)]) := by simp only [List.map_append,List.map_cons,List.map_nil,qx,qy,qw,T.Stop.qi] <;> rfl
   try simp only [h30,h33] at f11 f12 f35
   intro h; have f48 := ih162 _ _ h; clear h
   try simp only [en.down] at f48
   try simp only [h30,h33] at f48
   clear ih162; exact fL je
  refine gd fun h36 => ?_
  have f49 := rG 18 T.Stop.enc r8_
  refine gd fun h37 => ?_
  have f50 := rG 2 T.qd.enc kept
  have f51 : List.map T.qd.enc kept ++ [[PV.int IntKind.i64 x29.id,PV.bool false]] = List.map T.qd.enc (kept ++ [(T.qd.mk x29.id false)]) := by simp only [List.map_append,List.map_cons,List.map_nil,qx,qy,qw,T.qd.qi] <;> rfl
  have f52 : List.map T.Stop.enc r8_ ++ [[PV.int IntKind.i64 v27.frm,PV.int IntKind.i64 v27.to,PV.int IntKind.i64 x3.n,PV.int IntKind.i64 x3.up,PV.bool x3.first,PV.bool x3.turned,PV.int IntKind.i64 x3.form.rx.kind,PV.str x3.form.rx.char,PV.bool x3.form.rx.not,PV.sl x3.form.rx.rows.nil (szc 2 x3.form.rx.rows.l) (List.map T.Row.enc x3.form.rx.rows.l),PV.int IntKind.i64 x3.form.rx.min,PV.int IntKind.i64 x3.form.rx.max,PV.bool x3.form.rx.lazy,PV.sl x3.form.rx.kids.nil (szc 8 x3.form.rx.kids.l) (List.map T.Rx.enc x3.form.rx.kids.l),PV.sl x3.form.fmts.nil (szc 5 x3.form.fmts.l) (List.map T.Fmt.enc x3.form.fmts.l),PV.bool x3.form.fold,PV.bool x3.form.all,PV.sl x3.opts.nil (szc 1 x3.opts.l) (List.map zn x3.opts.l)]] = List.map T.Stop.enc (r8_ ++ [(T.Stop.mk v27 x3.n x3.up x3.first x3.turned x3.form x3.opts)]) := by simp only [List.map_append,List.map_cons,List.map_nil,qx,qy,qw,T.Stop.qi] <;> rfl
  try simp only [h30,h33] at f11 f12 f35
  intro h; have f53 := ih162 _ _ h; clear h
  try simp only [en.down] at f53
  try simp only [h30,h33] at f53
  clear ih162; exact fL je
 rintro ⟨⟩
 clear ih162; exact fL je
theorem quj {i marks typed b b_2 b_3 b_4 b_5 r_ r} (h : q2a i marks typed b b_2 b_3 b_4 b_5 r_ = some r) : O.call 83 [AV.ptr 0 0,v_g (T.qa.enc i),v_r 1 r_,v_l 2 T.qd.enc marks,v_b typed] [(0,Blk.box [v_i b,v_i b_2,v_s b_3,AV.row 2 1 0 1,v_i b_4,v_i b_5]),(1,Blk.row false 1 (List.map qh r_)),(2,Blk.qm 1 [[v_r 1 r_]])] = some (AV.tup [v_g (T.qa.enc r.1),v_l 2 T.qd.enc r.2],[(0,Blk.box [v_i b,v_i b_2,v_s b_3,AV.row 2 1 0 1,v_i b_4,v_i b_5]),(1,Blk.row false 1 (List.map qh r_)),(2,Blk.qm 1 [[v_r 1 r_]])]) := by
 revert h; unfold q2a
 refine bw qh fun x2 h1 f1 f2 f3 => ?_
 refine bs fun v4 h3 => ?_
 have f4 := qaz h3
 try simp only [en.down] at f4
 refine gd fun h5 => ?_
 have f5 := q1j IntKind.i64 h5
 refine gd fun h6 => ?_
 have f6 : List.replicate (i.stops.l.length : Int).toNat [PV.int IntKind.i64 (0 : Int)] = List.map qh (List.replicate (i.stops.l.length : Int).toNat (0 : Int)) := by rw [List.map_replicate]; rfl
 refine bs fun v8 h7 => ?_
 have f7 := zbg _ _ h7
 try simp only [en.down] at f7
 rintro ⟨⟩
 exact fF je
theorem zez : ∀ p r,q14 p = some r → O.loop 63 0 ⟨[(5,v_b p.1),(6,AV.ptr 0 0),(12,AV.ptr 2 0),(13,AV.ptr 5 0),(14,AV.ptr 6 0),(34,v_l 3 T.qa.enc p.2.1),(35,v_i p.2.2.1),(36,v_i p.2.2.2.1)],[(0,b_x (T.qc.enc p.2.2.2.2.1)),(1,b_x (T.qb.enc p.2.2.2.2.2.1)),(2,b_x (T.qc.enc p.2.2.2.2.2.2.1)),(3,Blk.qm 1 [[v_r 4 p.2.2.2.2.2.2.2.1]]),(4,Blk.row false 1 (List.map qh p.2.2.2.2.2.2.2.1)),(5,Blk.box [v_i p.2.2.2.2.2.2.2.2.1,v_i p.2.2.2.2.2.2.2.2.2.1,v_s p.2.2.2.2.2.2.2.2.2.2.1,AV.row 3 1 0 1,v_i p.2.2.2.2.2.2.2.2.2.2.2.1,v_i p.2.2.2.2.2.2.2.2.2.2.2.2.1]),(6,Blk.box [v_i p.2.2.2.2.2.2.2.2.2.2.2.2.2.1,v_r 7 p.2.2.2.2.2.2.2.2.2.2.2.2.2.2.1,v_r 8 p.2.2.2.2.2.2.2.2.2.2.2.2.2.2.2]),(7,b_r 3 T.qa.enc p.2.2.2.2.2.2.2.2.2.2.2.2.2.2.1),(8,b_r 1 (slE 2 T.qd.enc) p.2.2.2.2.2.2.2.2.2.2.2.2.2.2.2)],9⟩ = some (Ex.normal,⟨[(12,AV.ptr 2 0),(14,AV.ptr 6 0)],[(0,b_x (T.qc.enc p.2.2.2.2.1)),(1,b_x (T.qb.enc p.2.2.2.2.2.1)),(2,b_x (T.qc.enc p.2.2.2.2.2.2.1)),(3,Blk.qm 1 [[v_r 4 p.2.2.2.2.2.2.2.1]]),(4,Blk.row false 1 (List.map qh p.2.2.2.2.2.2.2.1)),(5,Blk.box [v_i p.2.2.2.2.2.2.2.2.1,v_i p.2.2.2.2.2.2.2.2.2.1,v_s p.2.2.2.2.2.2.2.2.2.2.1,AV.row 3 1 0 1,v_i p.2.2.2.2.2.2.2.2.2.2.2.1,v_i p.2.2.2.2.2.2.2.2.2.2.2.2.1]),(6,Blk.box [v_i p.2.2.2.2.2.2.2.2.2.2.2.2.2.1,v_r 7 r.1,v_r 8 r.2]),(7,b_r 3 T.qa.enc r.1),(8,b_r 1 (slE 2 T.qd.enc) r.2)],9⟩) := by
 refine q14.partial_correctness _ ?_
 rintro q14 ih154 ⟨typed,t34,t35,t36,s,b1_,t12,r4_,r_,r_2,r_3,r_4,r_5,out,r7_,r8_⟩ r; dsimp only
 apply it <;> intro h1
 ·refine bg T.qa.enc fun x3 h2 f1 f2 f3 => ?_
  apply it <;> intro h4
  ·have f4z := qcx (n := 0) h4
   try simp only [f4z] at f1 f2 f3
   have f4 := qcc (n := 0) h4 IntKind.i64
   refine bw qh fun x6 h5 f5 f6 f7 => ?_
   try simp only [f4z] at f5 f6 f7
   apply it <;> intro h7
   ·refine bg (slE 2 T.qd.enc) fun x9 h8 f8 f9 f10 => ?_
    try simp only [f4z] at f8 f9 f10
    refine bs fun v11 h10 => ?_
    have f11 := quj h10
    try simp only [en.down] at f11
    refine gd fun h12 => ?_
    have f12 := rG 3 T.qa.enc r7_
    refine gd fun h13 => ?_
    have f13 := rG 1 (slE 2 T.qd.enc) r8_
    have f14 : List.map T.qa.enc r7_ ++ [[PV.int IntKind.i64 v11.1.span.frm,PV.int IntKind.i64 v11.1.span.to,PV.sl v11.1.stops.nil (szc 18 v11.1.stops.l) (List.map T.Stop.enc v11.1.stops.l)]] = List.map T.qa.enc (r7_ ++ [v11.1]) := by simp only [List.map_append,List.map_cons,List.map_nil,qx,qy,qw,T.qa.qi] <;> rfl
    have f15 : List.map (slE 2 T.qd.enc) r8_ ++ [[PV.sl v11.2.nil (szc 2 v11.2.l) (List.map T.qd.enc v11.2.l)]] = List.map (slE 2 T.qd.enc) (r8_ ++ [v11.2]) := by simp only [List.map_append,List.map_cons,List.map_nil,qx,qy,qw,T.qd.qi,slE] <;> rfl
    intro h; have f16 := ih154 _ _ h; clear h
    try simp only [en.down] at f16
    clear ih154; exact fL q1c
   intro h; have f17 := ih154 _ _ h; clear h
   try simp only [en.down] at f17
   clear ih154; exact fL q1c
  rintro ⟨⟩
 rintro ⟨⟩
 clear ih154; exact fL q1c
theorem qco {x does b r} (h : q6x x does b = some r) : O.call 105 [AV.ptr 0 0,v_g (T.Span.enc x),v_i does] [(0,b_x (T.z8.enc b))] = some (v_g (T.Span.enc r),[(0,b_x (T.z8.enc b))]) := by
 revert h; unfold q6x
 apply it <;> intro h1
 ·refine bs fun v3 h2 => ?_
  have f1 := q1h h2
  try simp only [en.down] at f1
  rintro ⟨⟩
  exact fF q9a
 refine bs fun v5 h4 => ?_
 have f2 := q99 h4
 try simp only [en.down] at f2
 refine bs fun v7 h6 => ?_
 have f3 := q99 h6
 try simp only [en.down] at f3
 rintro ⟨⟩
 exact fF q9a
theorem qqn : ∀ p r,mf p = some r → O.loop 83 0 ⟨[(0,AV.ptr 0 0),(2,v_l 1 qh p.1),(3,v_l 2 T.qd.enc p.2.1),(4,v_b p.2.2.1),(6,AV.ptr 1 0),(10,AV.ptr 2 0),(12,AV.ptr 3 0),(13,v_r 5 p.2.2.2.2.2.2.2.2.2.2.2.2.1),(14,v_r 4 p.2.2.2.2.2.2.2.2.2.2.2.1),(32,v_l 18 T.Stop.enc p.2.2.2.1),(33,v_i p.2.2.2.2.1),(34,v_i p.2.2.2.2.2.1)],[(0,b_x (T.z8.enc p.2.2.2.2.2.2.1)),(1,b_x (T.qa.enc p.2.2.2.2.2.2.2.1)),(2,b_x (T.qa.enc p.2.2.2.2.2.2.2.2.1)),(3,Blk.box [v_i p.2.2.2.2.2.2.2.2.2.1,v_i p.2.2.2.2.2.2.2.2.2.2.1,v_r 6 p.2.2.2.2.2.2.2.2.2.2.2.2.2]),(4,Blk.row false 1 (List.map qh p.2.2.2.2.2.2.2.2.2.2.2.1)),(5,b_r 2 T.qd.enc p.2.2.2.2.2.2.2.2.2.2.2.2.1),(6,b_r 18 T.Stop.enc p.2.2.2.2.2.2.2.2.2.2.2.2.2)],7⟩ = some (Ex.normal,⟨[(10,AV.ptr 2 0),(12,AV.ptr 3 0),(13,v_r 5 r.2.1)],[(0,b_x (T.z8.enc p.2.2.2.2.2.2.1)),(1,b_x (T.qa.enc p.2.2.2.2.2.2.2.1)),(2,b_x (T.qa.enc p.2.2.2.2.2.2.2.2.1)),(3,Blk.box [v_i p.2.2.2.2.2.2.2.2.2.1,v_i p.2.2.2.2.2.2.2.2.2.2.1,v_r 6 r.2.2]),(4,Blk.row false 1 (List.map qh r.1)),(5,b_r 2 T.qd.enc r.2.1),(6,b_r 18 T.Stop.enc r.2.2)],7⟩) := by
 refine mf.partial_correctness _ ?_
 rintro mf ih166 ⟨does,marks,typed,t32,t33,t34,r_,i,t10,out,out2,places,kept,r6_⟩ r; dsimp only
 apply it <;> intro h1
 ·refine bg T.Stop.enc fun x3 h2 f1 f2 f3 => ?_
  refine bg qh fun x5 h4 f4 f5 f6 => ?_
  apply it <;> intro h6
  ·intro h; have f7 := ih166 _ _ h; clear h
   try simp only [en.down] at f7
   clear ih166; exact fL je
  refine bw qh fun x8 h7 f8 f9 f10 => ?_
  have f11 := map_set qh places t34.toNat (r6_.length : Int)
  try simp only [en.down] at f11
  refine bs fun v10 h9 => ?_
  have f12 := q56 h9
  try simp only [en.down] at f12
  apply it <;> intro h11
  ·refine bw qh fun x13 h12 f13 f14 f15 => ?_
   try simp only [List.length_set] at f15
   refine bs fun v15 h14 => ?_
   have f16 := qco h14
   try simp only [en.down] at f16
   refine bg T.qd.enc fun x17 h16 f17 f18 f19 => ?_
   apply it <;> intro h18
   ·refine gd fun h19 => ?_
    have f20 := rG 18 T.Stop.enc r6_
    refine gd fun h20 => ?_
    have f21 := rG 2 T.qd.enc kept
    have f22 : List.map T.qd.enc kept ++ [[PV.int IntKind.i64 x17.id,PV.bool true]] = List.map T.qd.enc (kept ++ [(T.qd.mk x17.id true)]) := by simp only [List.map_append,List.map_cons,List.map_nil,qx,qy,qw,T.qd.qi] <;> rfl
    have f23 : List.map T.Stop.enc r6_ ++ [[PV.int IntKind.i64 v15.frm,PV.int IntKind.i64 v15.to,PV.int IntKind.i64 x3.n,PV.int IntKind.i64 x13,PV.bool x3.first,PV.bool x3.turned,PV.int IntKind.i64 x3.form.rx.kind,PV.str x3.form.rx.char,PV.bool x3.form.rx.not,PV.sl x3.form.rx.rows.nil (szc 2 x3.form.rx.rows.l) (List.map T.Row.enc x3.form.rx.rows.l),PV.int IntKind.i64 x3.form.rx.min,PV.int IntKind.i64 x3.form.rx.max,PV.bool x3.form.rx.lazy,PV.sl x3.form.rx.kids.nil (szc 8 x3.form.rx.kids.l) (List.map T.Rx.enc x3.form.rx.kids.l),PV.sl x3.form.fmts.nil (szc 5 x3.form.fmts.l) (List.map T.Fmt.enc x3.form.fmts.l),PV.bool x3.form.fold,PV.bool x3.form.all,PV.sl x3.opts.nil (szc 1 x3.opts.l) (List.map zn x3.opts.l)]] = List.map T.Stop.enc (r6_ ++ [(T.Stop.mk v15 x3.n x13 x3.first x3.turned x3.form x3.opts)]) := by simp only [List.map_append,List.map_cons,List.map_nil,qx,qy,qw,T.Stop.qi] <;> rfl
    try simp only [h18] at f11 f12 f16
    intro h; have f24 := ih166 _ _ h; clear h
    try simp only [en.down] at f24
    try simp only [h18] at f24
    clear ih166; exact fL je
   apply it <;> intro h21
   ·refine gd fun h22 => ?_
    have f25 := rG 18 T.Stop.enc r6_
    refine gd fun h23 => ?_
    have f26 := rG 2 T.qd.enc kept
    have f27 : List.map T.qd.enc kept ++ [[PV.int IntKind.i64 x17.id,PV.bool (x5 == (1 : Int))]] = List.map T.qd.enc (kept ++ [(T.qd.mk x17.id (x5 == (1 : Int)))]) := by simp only [List.map_append,List.map_cons,List.map_nil,qx,qy,qw,T.qd.qi] <;> rfl
    have f28 : List.map T.Stop.enc r6_ ++ [[PV.int IntKind.i64 v15.frm,PV.int IntKind.i64 v15.to,PV.int IntKind.i64 x3.n,PV.int IntKind.i64 x13,PV.bool x3.first,PV.bool x3.turned,PV.int IntKind.i64 x3.form.rx.kind,PV.str x3.form.rx.char,PV.bool x3.form.rx.not,PV.sl x3.form.rx.rows.nil (szc 2 x3.form.rx.rows.l) (List.map T.Row.enc x3.form.rx.rows.l),PV.int IntKind.i64 x3.form.rx.min,PV.int IntKind.i64 x3.form.rx.max,PV.bool x3.form.rx.lazy,PV.sl x3.form.rx.kids.nil (szc 8 x3.form.rx.kids.l) (List.map T.Rx.enc x3.form.rx.kids.l),PV.sl x3.form.fmts.nil (szc 5 x3.form.fmts.l) (List.map T.Fmt.enc x3.form.fmts.l),PV.bool x3.form.fold,PV.bool x3.form.all,PV.sl x3.opts.nil (szc 1 x3.opts.l) (List.map zn x3.opts.l)]] = List.map T.Stop.enc (r6_ ++ [(T.Stop.mk v15 x3.n x13 x3.first x3.turned x3.form x3.opts)]) := by simp only [List.map_append,List.map_cons,List.map_nil,qx,qy,qw,T.Stop.qi] <;> rfl
    try simp only [h18,h21] at f11 f12 f16
    intro h; have f29 := ih166 _ _ h; clear h
    try simp only [en.down] at f29
    try simp only [h18,h21] at f29
    clear ih166; exact fL je
   refine gd fun h24 => ?_
   have f30 := rG 18 T.Stop.enc r6_
   refine gd fun h25 => ?_
   have f31 := rG 2 T.qd.enc kept
   have f32 : List.map T.qd.enc kept ++ [[PV.int IntKind.i64 x17.id,PV.bool false]] = List.map T.qd.enc (kept ++ [(T.qd.mk x17.id false)]) := by simp only [List.map_append,List.map_cons,List.map_nil,qx,qy,qw,T.qd.qi] <;> rfl
   have f33 : List.map T.Stop.enc r6_ ++ [[PV.int IntKind.i64 v15.frm,PV.int IntKind.i64 v15.to,PV.int IntKind.i64 x3.n,PV.int IntKind.i64 x13,PV.bool x3.first,PV.bool x3.turned,PV.int IntKind.i64 x3.form.rx.kind,PV.str x3.form.rx.char,PV.bool x3.form.rx.not,PV.sl x3.form.rx.rows.nil (szc 2 x3.form.rx.rows.l) (List.map T.Row.enc x3.form.rx.rows.l),PV.int IntKind.i64 x3.form.rx.min,PV.int IntKind.i64 x3.form.rx.max,PV.bool x3.form.rx.lazy,PV.sl x3.form.rx.kids.nil (szc 8 x3.form.rx.kids.l) (List.map T.Rx.enc x3.form.rx.kids.l),PV.sl x3.form.fmts.nil (szc 5 x3.form.fmts.l) (List.map T.Fmt.enc x3.form.fmts.l),PV.bool x3.form.fold,PV.bool x3.form.all,PV.sl x3.opts.nil (szc 1 x3.opts.l) (List.map zn x3.opts.l)]] = List.map T.Stop.enc (r6_ ++ [(T.Stop.mk v15 x3.n x13 x3.first x3.turned x3.form x3.opts)]) := by simp only [List.map_append,List.map_cons,List.map_nil,qx,qy,qw,T.Stop.qi] <;> rfl
   try simp only [h18,h21] at f11 f12 f16
   intro h; have f34 := ih166 _ _ h; clear h
   try simp only [en.down] at f34
   try simp only [h18,h21] at f34
   clear ih166; exact fL je
  refine bs fun v27 h26 => ?_
  have f35 := qco h26
  try simp only [en.down] at f35
  refine bg T.qd.enc fun x29 h28 f36 f37 f38 => ?_
  apply it <;> intro h30
  ·refine gd fun h31 => ?_
   have f39 := rG 18 T.Stop.enc r6_
   refine gd fun h32 => ?_
   have f40 := rG 2 T.qd.enc kept
   have f41 : List.map T.qd.enc kept ++ [[PV.int IntKind.i64 x29.id,PV.bool true]] = List.map T.qd.enc (kept ++ [(T.qd.mk x29.id true)]) := by simp only [List.map_append,List.map_cons,List.map_nil,qx,qy,qw,T.qd.qi] <;> rfl
   have f42 : List.map T.Stop.enc r6_ ++ [[PV.int IntKind.i64 v27.frm,PV.int IntKind.i64 v27.to,PV.int IntKind.i64 x3.n,PV.int IntKind.i64 x3.up,PV.bool x3.first,PV.bool x3.turned,PV.int IntKind.i64 x3.form.rx.kind,PV.str x3.form.rx.char,PV.bool x3.form.rx.not,PV.sl x3.form.rx.rows.nil (szc 2 x3.form.rx.rows.l) (List.map T.Row.enc x3.form.rx.rows.l),PV.int IntKind.i64 x3.form.rx.min,PV.int IntKind.i64 x3.form.rx.max,PV.bool x3.form.rx.lazy,PV.sl x3.form.rx.kids.nil (szc 8 x3.form.rx.kids.l) (List.map T.Rx.enc x3.form.rx.kids.l),PV.sl x3.form.fmts.nil (szc 5 x3.form.fmts.l) (List.map T.Fmt.enc x3.form.fmts.l),PV.bool x3.form.fold,PV.bool x3.form.all,PV.sl x3.opts.nil (szc 1 x3.opts.l) (List.map zn x3.opts.l)]] = List.map T.Stop.enc (r6_ ++ [(T.Stop.mk v27 x3.n x3.up x3.first x3.turned x3.form x3.opts)]) := by simp only [List.map_append,List.map_cons,List.map_nil,qx,qy,qw,T.Stop.qi] <;> rfl
   try simp only [h30] at f11 f12 f35
   intro h; have f43 := ih166 _ _ h; clear h
   try simp only [en.down] at f43
   try simp only [h30] at f43
   clear ih166; exact fL je
  apply it <;> intro h33
  ·refine gd fun h34 => ?_
   have f44 := rG 18 T.Stop.enc r6_
   refine gd fun h35 => ?_
   have f45 := rG 2 T.qd.enc kept
   have f46 : List.map T.qd.enc kept ++ [[PV.int IntKind.i64 x29.id,PV.bool (x5 == (1 : Int))]] = List.map T.qd.enc (kept ++ [(T.qd.mk x29.id (x5 == (1 : Int)))]) := by simp only [List.map_append,List.map_cons,List.map_nil,qx,qy,qw,T.qd.qi] <;> rfl
   have f47 : List.map T.Stop.enc r6_ ++ [[PV.int IntKind.i64 v27.frm,PV.int IntKind.i64 v27.to,PV.int IntKind.i64 x3.n,PV.int IntKind.i64 x3.up,PV.bool x3.first,PV.bool x3.turned,PV.int IntKind.i64 x3.form.rx.kind,PV.str x3.form.rx.char,PV.bool x3.form.rx.not,PV.sl x3.form.rx.rows.nil (szc 2 x3.form.rx.rows.l) (List.map T.Row.enc x3.form.rx.rows.l),PV.int IntKind.i64 x3.form.rx.min,PV.int IntKind.i64 x3.form.rx.max,PV.bool x3.form.rx.lazy,PV.sl x3.form.rx.kids.nil (szc 8 x3.form.rx.kids.l) (List.map T.Rx.enc x3.form.rx.kids.l),PV.sl x3.form.fmts.nil (szc 5 x3.form.fmts.l) (List.map T.Fmt.enc x3.form.fmts.l),PV.bool x3.form.fold,PV.bool x3.form.all,PV.sl x3.opts.nil (szc 1 x3.opts.l) (List.map zn x3.opts.l)]] = List.map T.Stop.enc (r6_ ++ [(T.Stop.mk v27 x3.n x3.up x3.first x3.turned x3.form x3.opts)]) := by simp only [List.map_append,List.map_cons,List.map_nil,qx,qy,qw,T.Stop.qi] <;> rfl
   try simp only [h30,h33] at f11 f12 f35
   intro h; have f48 := ih166 _ _ h; clear h
   try simp only [en.down] at f48
   try simp only [h30,h33] at f48
   clear ih166; exact fL je
  refine gd fun h36 => ?_
  have f49 := rG 18 T.Stop.enc r6_
  refine gd fun h37 => ?_
  have f50 := rG 2 T.qd.enc kept
  have f51 : List.map T.qd.enc kept ++ [[PV.int IntKind.i64 x29.id,PV.bool false]] = List.map T.qd.enc (kept ++ [(T.qd.mk x29.id false)]) := by simp only [List.map_append,List.map_cons,List.map_nil,qx,qy,qw,T.qd.qi] <;> rfl
  have f52 : List.map T.Stop.enc r6_ ++ [[PV.int IntKind.i64 v27.frm,PV.int IntKind.i64 v27.to,PV.int IntKind.i64 x3.n,PV.int IntKind.i64 x3.up,PV.bool x3.first,PV.bool x3.turned,PV.int IntKind.i64 x3.form.rx.kind,PV.str x3.form.rx.char,PV.bool x3.form.rx.not,PV.sl x3.form.rx.rows.nil (szc 2 x3.form.rx.rows.l) (List.map T.Row.enc x3.form.rx.rows.l),PV.int IntKind.i64 x3.form.rx.min,PV.int IntKind.i64 x3.form.rx.max,PV.bool x3.form.rx.lazy,PV.sl x3.form.rx.kids.nil (szc 8 x3.form.rx.kids.l) (List.map T.Rx.enc x3.form.rx.kids.l),PV.sl x3.form.fmts.nil (szc 5 x3.form.fmts.l) (List.map T.Fmt.enc x3.form.fmts.l),PV.bool x3.form.fold,PV.bool x3.form.all,PV.sl x3.opts.nil (szc 1 x3.opts.l) (List.map zn x3.opts.l)]] = List.map T.Stop.enc (r6_ ++ [(T.Stop.mk v27 x3.n x3.up x3.first x3.turned x3.form x3.opts)]) := by simp only [List.map_append,List.map_cons,List.map_nil,qx,qy,qw,T.Stop.qi] <;> rfl
  try simp only [h30,h33] at f11 f12 f35
  intro h; have f53 := ih166 _ _ h; clear h
  try simp only [en.down] at f53
  try simp only [h30,h33] at f53
  clear ih166; exact fL je
 rintro ⟨⟩
 clear ih166; exact fL je
theorem zgh {i does marks typed b r} (h : qe0 i does marks typed b = some r) : O.call 83 [AV.ptr 0 0,v_g (T.qa.enc i),v_l 1 qh does,v_l 2 T.qd.enc marks,v_b typed] [(0,b_x (T.z8.enc b))] = some (AV.tup [v_g (T.qa.enc r.1),v_l 2 T.qd.enc r.2],[(0,b_x (T.z8.enc b))]) := by
 revert h; unfold qe0
 refine bg qh fun x2 h1 f1 f2 f3 => ?_
 refine bs fun v4 h3 => ?_
 have f4 := qco h3
 try simp only [en.down] at f4
 refine gd fun h5 => ?_
 have f5 := q1j IntKind.i64 h5
 refine gd fun h6 => ?_
 have f6 : List.replicate (i.stops.l.length : Int).toNat [PV.int IntKind.i64 (0 : Int)] = List.map qh (List.replicate (i.stops.l.length : Int).toNat (0 : Int)) := by rw [List.map_replicate]; rfl
 refine bs fun v8 h7 => ?_
 have f7 := qqn _ _ h7
 try simp only [en.down] at f7
 rintro ⟨⟩
 exact fF je
theorem z2d : ∀ p r,q4n p = some r → O.loop 63 0 ⟨[(5,v_b p.1),(6,AV.ptr 0 0),(12,AV.ptr 2 0),(13,AV.ptr 3 0),(14,AV.ptr 4 0),(34,v_l 3 T.qa.enc p.2.1),(35,v_i p.2.2.1),(36,v_i p.2.2.2.1)],[(0,b_x (T.qc.enc p.2.2.2.2.1)),(1,b_x (T.qb.enc p.2.2.2.2.2.1)),(2,b_x (T.qc.enc p.2.2.2.2.2.2.1)),(3,b_x (T.z8.enc p.2.2.2.2.2.2.2.1)),(4,Blk.box [v_i p.2.2.2.2.2.2.2.2.1,v_r 5 p.2.2.2.2.2.2.2.2.2.1,v_r 6 p.2.2.2.2.2.2.2.2.2.2]),(5,b_r 3 T.qa.enc p.2.2.2.2.2.2.2.2.2.1),(6,b_r 1 (slE 2 T.qd.enc) p.2.2.2.2.2.2.2.2.2.2)],7⟩ = some (Ex.normal,⟨[(12,AV.ptr 2 0),(14,AV.ptr 4 0)],[(0,b_x (T.qc.enc p.2.2.2.2.1)),(1,b_x (T.qb.enc p.2.2.2.2.2.1)),(2,b_x (T.qc.enc p.2.2.2.2.2.2.1)),(3,b_x (T.z8.enc p.2.2.2.2.2.2.2.1)),(4,Blk.box [v_i p.2.2.2.2.2.2.2.2.1,v_r 5 r.1,v_r 6 r.2]),(5,b_r 3 T.qa.enc r.1),(6,b_r 1 (slE 2 T.qd.enc) r.2)],7⟩) := by
 refine q4n.partial_correctness _ ?_
 rintro q4n ih163 ⟨typed,t34,t35,t36,s,b1_,t12,r_,out,r5_,r6_⟩ r; dsimp only
 apply it <;> intro h1
 ·refine bg T.qa.enc fun x3 h2 f1 f2 f3 => ?_
  refine bg (slE 1 qh) fun x5 h4 f4 f5 f6 => ?_
  refine bg qh fun x7 h6 f7 f8 f9 => ?_
  apply it <;> intro h8
  ·refine bg (slE 2 T.qd.enc) fun x10 h9 f10 f11 f12 => ?_
   refine bs fun v12 h11 => ?_
   have f13 := zgh h11
   try simp only [en.down] at f13
   refine gd fun h13 => ?_
   have f14 := rG 3 T.qa.enc r5_
   refine gd fun h14 => ?_
   have f15 := rG 1 (slE 2 T.qd.enc) r6_
   have f16 : List.map T.qa.enc r5_ ++ [[PV.int IntKind.i64 v12.1.span.frm,PV.int IntKind.i64 v12.1.span.to,PV.sl v12.1.stops.nil (szc 18 v12.1.stops.l) (List.map T.Stop.enc v12.1.stops.l)]] = List.map T.qa.enc (r5_ ++ [v12.1]) := by simp only [List.map_append,List.map_cons,List.map_nil,qx,qy,qw,T.qa.qi] <;> rfl
   have f17 : List.map (slE 2 T.qd.enc) r6_ ++ [[PV.sl v12.2.nil (szc 2 v12.2.l) (List.map T.qd.enc v12.2.l)]] = List.map (slE 2 T.qd.enc) (r6_ ++ [v12.2]) := by simp only [List.map_append,List.map_cons,List.map_nil,qx,qy,qw,T.qd.qi,slE] <;> rfl
   intro h; have f18 := ih163 _ _ h; clear h
   try simp only [en.down] at f18
   clear ih163; exact fL q1c
  intro h; have f19 := ih163 _ _ h; clear h
  try simp only [en.down] at f19
  clear ih163; exact fL q1c
 rintro ⟨⟩
 clear ih163; exact fL q1c
theorem qan {s inst stop e deep typed r} (h : ni s inst stop e deep typed = some r) : O.call 63 [v_g (T.qc.enc s),v_i inst,v_i stop,v_g (T.qb.enc e),v_b deep,v_b typed] [] = some (v_g (T.qc.enc r),[]) := by
 revert h; unfold ni
 refine bs fun v2 h1 => ?_
 have f1 := zlw h1
 try simp only [en.down] at f1
 rcases v2 with y3 | y6
 ·dsimp only
  refine bs fun v5 h4 => ?_
  have f2 := zez _ _ h4
  try simp only [en.down] at f2
  rintro ⟨⟩
  exact fF q1c
 dsimp only
 refine bs fun v8 h7 => ?_
 have f3 := z2d _ _ h7
 try simp only [en.down] at f3
 rintro ⟨⟩
 exact fF q1c
theorem zid : ∀ p r,q02 p = some r → O.loop 40 2 ⟨[(0,AV.ptr 0 0),(1,v_i p.1),(5,v_b p.2.1),(10,AV.ptr 2 0),(12,v_r 4 p.2.2.2.2.2.2.2.2.1),(91,v_r 1 p.2.2.2.2.2.2.1),(92,v_i p.2.2.1),(93,v_i p.2.2.2.1)],[(0,Blk.box [v_s p.2.2.2.2.1,v_l 2 T.Sel.enc p.2.2.2.2.2.1,v_r 1 p.2.2.2.2.2.2.1]),(1,b_r 3 T.qc.enc p.2.2.2.2.2.2.1),(2,b_x (T.qb.enc p.2.2.2.2.2.2.2.1)),(3,Blk.dead),(4,Blk.row false 2 (List.map (xq qh) p.2.2.2.2.2.2.2.2.1)),(5,b_x (T.Span.enc p.2.2.2.2.2.2.2.2.2))],6⟩ = some (Ex.normal,⟨[(0,AV.ptr 0 0),(10,AV.ptr 2 0)],[(0,Blk.box [v_s p.2.2.2.2.1,v_l 2 T.Sel.enc p.2.2.2.2.2.1,v_r 1 r]),(1,b_r 3 T.qc.enc r),(2,b_x (T.qb.enc p.2.2.2.2.2.2.2.1)),(3,Blk.dead),(4,Blk.row false 2 (List.map (xq qh) p.2.2.2.2.2.2.2.2.1)),(5,b_x (T.Span.enc p.2.2.2.2.2.2.2.2.2))],6⟩) := by
 refine q02.partial_correctness _ ?_
 rintro q02 ih135 ⟨depth,typed,t92,t93,w,w2,t91,e,owners,b5_⟩ r; dsimp only
 apply it <;> intro h1
 ·refine bW T.qc.enc 3 fun x3 h2 f1 f2 f3 f4 f5 => ?_
  refine bw (xq qh) fun x5 h4 f6 f7 f8 => ?_
  apply it <;> intro h6
  ·refine bs fun v8 h7 => ?_
   have f9 := qan h7
   try simp only [en.down,f4,f5] at f9
   have f10 := map_set T.qc.enc t91 t93.toNat v8
   try simp only [en.down] at f10
   try simp only [h6,f4,f5] at f9 f10
   intro h; have f11 := ih135 _ _ h; clear h
   try simp only [en.down,f4,f5] at f11
   try simp only [h6,f4,f5] at f11
   clear ih135; exact fL ma
  refine bs fun v10 h9 => ?_
  have f12 := qan h9
  try simp only [en.down,f4,f5] at f12
  have f13 := map_set T.qc.enc t91 t93.toNat v10
  try simp only [en.down] at f13
  try simp only [h6,f4,f5] at f12 f13
  intro h; have f14 := ih135 _ _ h; clear h
  try simp only [en.down,f4,f5] at f14
  try simp only [h6,f4,f5] at f14
  clear ih135; exact fL ma
 rintro ⟨⟩
 clear ih135; exact fL ma
theorem z8d : ∀ p r,q1e p = some r → O.loop 84 0 ⟨[(0,v_i p.1),(1,v_b p.2.1),(14,v_l 3 T.qb.enc p.2.2.1),(15,v_i p.2.2.2.1),(16,v_i p.2.2.2.2)],[],0⟩ = some (Ex.normal,⟨[(0,v_i r)],[],0⟩) := by
 refine q1e.partial_correctness _ ?_
 rintro q1e ih170 ⟨at_,right,t14,t15,t16⟩ r; dsimp only
 apply it <;> intro h1
 ·refine bg T.qb.enc fun x3 h2 f1 f2 f3 => ?_
  apply it <;> intro h4
  ·intro h; have f4 := ih170 _ _ h; clear h
   try simp only [en.down] at f4
   clear ih170; exact fL zz
  apply it <;> intro h5
  ·refine bs fun v7 h6 => ?_
   have f5 := q1h h6
   try simp only [en.down] at f5
   intro h; have f6 := ih170 _ _ h; clear h
   try simp only [en.down] at f6
   clear ih170; exact fL zz
  apply it <;> intro h8
  ·intro h; have f7 := ih170 _ _ h; clear h
   try simp only [en.down] at f7
   try simp only [h8] at f7
   clear ih170; exact fL zz
  intro h; have f8 := ih170 _ _ h; clear h
  try simp only [en.down] at f8
  try simp only [h8] at f8
  clear ih170; exact fL zz
 rintro ⟨⟩
 clear ih170; exact fL zz
theorem zim : ∀ p r,uz p = some r → O.loop 84 0 ⟨[(0,v_i p.1),(1,v_b p.2.1),(14,v_r 0 p.2.2.2.2),(15,v_i p.2.2.1),(16,v_i p.2.2.2.1)],[(0,Blk.row false 3 (List.map T.qb.enc p.2.2.2.2))],1⟩ = some (Ex.normal,⟨[(0,v_i r)],[(0,Blk.row false 3 (List.map T.qb.enc p.2.2.2.2))],1⟩) := by
 refine uz.partial_correctness _ ?_
 rintro uz ih171 ⟨at_,right,t15,t16,t14⟩ r; dsimp only
 apply it <;> intro h1
 ·refine bw T.qb.enc fun x3 h2 f1 f2 f3 => ?_
  apply it <;> intro h4
  ·intro h; have f4 := ih171 _ _ h; clear h
   try simp only [en.down] at f4
   clear ih171; exact fL zz
  apply it <;> intro h5
  ·refine bs fun v7 h6 => ?_
   have f5 := q1h h6
   try simp only [en.down] at f5
   intro h; have f6 := ih171 _ _ h; clear h
   try simp only [en.down] at f6
   clear ih171; exact fL zz
  apply it <;> intro h8
  ·intro h; have f7 := ih171 _ _ h; clear h
   try simp only [en.down] at f7
   try simp only [h8] at f7
   clear ih171; exact fL zz
  intro h; have f8 := ih171 _ _ h; clear h
  try simp only [en.down] at f8
  try simp only [h8] at f8
  clear ih171; exact fL zz
 rintro ⟨⟩
 clear ih171; exact fL zz
end Go.Proofs.YtkbgphcebakcnaaGreat
