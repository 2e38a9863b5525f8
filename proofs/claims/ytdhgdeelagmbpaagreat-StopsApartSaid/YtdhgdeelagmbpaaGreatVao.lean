/-
  What the machine's calls come to: the plain functions.
-/
import Derived.Test.YtdhgdeelagmbpaaGreatVaj
import Derived.Test.YtdhgdeelagmbpaaGreatVak
import Derived.Test.YtdhgdeelagmbpaaGreatVal
import Derived.Test.YtdhgdeelagmbpaaGreatVam
import Derived.Test.YtdhgdeelagmbpaaGreatVan
set_option linter.unusedSimpArgs false
set_option linter.unusedVariables false
set_option maxRecDepth 100000
namespace Go.Proofs.YtdhgdeelagmbpaaGreat
open Go Go.Gm
set_option maxHeartbeats 4000000
theorem qmv : (∀ p r,pz p = some r → r.2.2.2.2.2.1.length = p.2.2.2.2.2.2.2.1.length ∧ O.call 45 [AV.ptr 0 0,AV.ptr 1 0,v_r 2 p.2.2.2.2.2.2.1,v_r 3 p.2.2.2.2.2.2.2.1,v_i p.1,v_i p.2.1,v_i p.2.2.1] [(0,Blk.box [v_l 2 T.qi.enc p.2.2.2.1,v_s p.2.2.2.2.1,v_s p.2.2.2.2.2.1,v_r 4 p.2.2.2.2.2.2.2.2.1,v_r 5 p.2.2.2.2.2.2.2.2.2.1,v_r 6 p.2.2.2.2.2.2.2.2.2.2.1]),(1,Blk.box [v_r 7 p.2.2.2.2.2.2.2.2.2.2.2.1,v_r 8 p.2.2.2.2.2.2.2.2.2.2.2.2]),(2,b_r 18 T.Stop.enc p.2.2.2.2.2.2.1),(3,Blk.row false 1 (List.map qf p.2.2.2.2.2.2.2.1)),(4,b_r 20 T.qc.enc p.2.2.2.2.2.2.2.2.1),(5,b_r 1 qf p.2.2.2.2.2.2.2.2.2.1),(6,b_r 1 qg p.2.2.2.2.2.2.2.2.2.2.1),(7,b_r 1 qf p.2.2.2.2.2.2.2.2.2.2.2.1),(8,b_r 1 qg p.2.2.2.2.2.2.2.2.2.2.2.2)] = some (AV.tup [v_r 2 r.2.2.2.2.1,v_i r.1],[(0,Blk.box [v_l 2 T.qi.enc r.2.1,v_s r.2.2.1,v_s r.2.2.2.1,v_r 4 r.2.2.2.2.2.2.1,v_r 5 r.2.2.2.2.2.2.2.1,v_r 6 r.2.2.2.2.2.2.2.2.1]),(1,Blk.box [v_r 7 r.2.2.2.2.2.2.2.2.2.1,v_r 8 r.2.2.2.2.2.2.2.2.2.2]),(2,b_r 18 T.Stop.enc r.2.2.2.2.1),(3,Blk.row false 1 (List.map qf r.2.2.2.2.2.1)),(4,b_r 20 T.qc.enc r.2.2.2.2.2.2.1),(5,b_r 1 qf r.2.2.2.2.2.2.2.1),(6,b_r 1 qg r.2.2.2.2.2.2.2.2.1),(7,b_r 1 qf r.2.2.2.2.2.2.2.2.2.1),(8,b_r 1 qg r.2.2.2.2.2.2.2.2.2.2)])) ∧ (∀ p r,gz p = some r → r.2.2.2.2.2.1.length = p.2.2.2.2.2.2.2.1.length ∧ O.loop 45 0 ⟨[(0,AV.ptr 0 0),(1,AV.ptr 1 0),(2,v_r 2 p.2.2.2.2.2.2.1),(3,v_r 3 p.2.2.2.2.2.2.2.1),(5,v_i p.1),(6,v_i p.2.1),(16,v_i p.2.2.1)],[(0,Blk.box [v_l 2 T.qi.enc p.2.2.2.1,v_s p.2.2.2.2.1,v_s p.2.2.2.2.2.1,v_r 4 p.2.2.2.2.2.2.2.2.1,v_r 5 p.2.2.2.2.2.2.2.2.2.1,v_r 6 p.2.2.2.2.2.2.2.2.2.2.1]),(1,Blk.box [v_r 7 p.2.2.2.2.2.2.2.2.2.2.2.1,v_r 8 p.2.2.2.2.2.2.2.2.2.2.2.2]),(2,b_r 18 T.Stop.enc p.2.2.2.2.2.2.1),(3,Blk.row false 1 (List.map qf p.2.2.2.2.2.2.2.1)),(4,b_r 20 T.qc.enc p.2.2.2.2.2.2.2.2.1),(5,b_r 1 qf p.2.2.2.2.2.2.2.2.2.1),(6,b_r 1 qg p.2.2.2.2.2.2.2.2.2.2.1),(7,b_r 1 qf p.2.2.2.2.2.2.2.2.2.2.2.1),(8,b_r 1 qg p.2.2.2.2.2.2.2.2.2.2.2.2)],9⟩ = some (Ex.normal,⟨[(2,v_r 2 r.2.2.2.2.1),(6,v_i r.1)],[(0,Blk.box [v_l 2 T.qi.enc r.2.1,v_s r.2.2.1,v_s r.2.2.2.1,v_r 4 r.2.2.2.2.2.2.1,v_r 5 r.2.2.2.2.2.2.2.1,v_r 6 r.2.2.2.2.2.2.2.2.1]),(1,Blk.box [v_r 7 r.2.2.2.2.2.2.2.2.2.1,v_r 8 r.2.2.2.2.2.2.2.2.2.2]),(2,b_r 18 T.Stop.enc r.2.2.2.2.1),(3,Blk.row false 1 (List.map qf r.2.2.2.2.2.1)),(4,b_r 20 T.qc.enc r.2.2.2.2.2.2.1),(5,b_r 1 qf r.2.2.2.2.2.2.2.1),(6,b_r 1 qg r.2.2.2.2.2.2.2.2.1),(7,b_r 1 qf r.2.2.2.2.2.2.2.2.2.1),(8,b_r 1 qg r.2.2.2.2.2.2.2.2.2.2)],9⟩)) := by
 refine pz.mutual_partial_correctness _ _ ?_ ?_
 ·rintro gz ih185 ⟨frm,to,at_,b,b_2,b_3,r_,r_2,r_3,r_4,r_5,r_6,r_7⟩ r; dsimp only
  refine bs fun v2 h1 => ?_
  obtain ⟨f1L,f1⟩ := ih185 _ _ h1
  try simp only [List.length_set] at f1L
  try simp only [en.down,f1L] at f1
  try simp only [f1L] at f1
  rintro ⟨⟩
  clear ih185; exact ⟨by first | rfl | (simp only [List.length_set,f1L]; done),fF ma⟩
 ·rintro pz gz ih184 ih185 ⟨to,at_,i,w,w2,w3,out,place,r4_,r5_,r6_,r7_,r8_⟩ r; dsimp only
  apply it <;> intro h1
  ·refine bW T.qc.enc 20 fun x3 h2 f1 f2 f3 f4 f5 => ?_
   refine bs fun v5 h4 => ?_
   have f6 := qfh.1 _ _ h4
   try simp only [en.down,f4,f5] at f6
   apply it <;> intro h6
   ·apply it <;> intro h7
    ·refine bw qf fun x9 h8 f7 f8 f9 => ?_
     refine bw qf fun x11 h10 f10 f11 f12 => ?_
     have f13 := map_set qf place i.toNat (out.length : Int)
     try simp only [en.down] at f13
     refine gd fun h12 => ?_
     have f14 := rG 18 T.Stop.enc out
     apply it <;> intro h13
     ·have f15 : List.map T.Stop.enc out ++ [[PV.int IntKind.i64 at_,PV.int IntKind.i64 (IntKind.i64.wrap (at_ + (v5.1.length : Int))),PV.int IntKind.i64 x3.n,PV.int IntKind.i64 x9,PV.bool x3.first,PV.bool x3.turned,PV.int IntKind.i64 x3.form.rx.kind,PV.str x3.form.rx.char,PV.bool x3.form.rx.not,PV.sl x3.form.rx.rows.nil (szc 2 x3.form.rx.rows.l) (List.map T.Row.enc x3.form.rx.rows.l),PV.int IntKind.i64 x3.form.rx.min,PV.int IntKind.i64 x3.form.rx.max,PV.bool x3.form.rx.lazy,PV.sl x3.form.rx.kids.nil (szc 8 x3.form.rx.kids.l) (List.map T.Rx.enc x3.form.rx.kids.l),PV.sl x3.form.fmts.nil (szc 5 x3.form.fmts.l) (List.map T.Fmt.enc x3.form.fmts.l),PV.bool x3.form.fold,PV.bool x3.form.all,PV.sl x3.opts.nil (szc 1 x3.opts.l) (List.map qg x3.opts.l)]] = List.map T.Stop.enc (out ++ [(T.Stop.mk (T.Span.mk at_ (IntKind.i64.wrap (at_ + (v5.1.length : Int)))) x3.n x9 x3.first x3.turned x3.form x3.opts)]) := by simp only [List.map_append,List.map_cons,List.map_nil,za,z8,zb,T.Stop.qx] <;> rfl
      refine bs fun v15 h14 => ?_
      obtain ⟨f16L,f16⟩ := ih184 _ _ h14
      try simp only [List.length_set] at f16L
      try simp only [en.down,f4,f5,f16L] at f16
      refine bW T.qc.enc 20 fun x17 h16 f17 f18 f19 f20 f21 => ?_
      try simp only [h13,f4,f5,f16L,f20,f21] at f6 f13 f16
      intro h; obtain ⟨f22L,f22⟩ := ih185 _ _ h; clear h
      try simp only [en.down,f4,f5,f16L,f20,f21] at f22
      try simp only [h13,f4,f5,f16L,f20,f21] at f22
      clear ih184 ih185; exact ⟨by first | rfl | (simp only [List.length_set,f22L,f16L]; done),fL ma⟩
     refine bW T.qc.enc 20 fun x19 h18 f23 f24 f25 f26 f27 => ?_
     have f28 : List.map T.Stop.enc out ++ [[PV.int IntKind.i64 at_,PV.int IntKind.i64 (IntKind.i64.wrap (at_ + (v5.1.length : Int))),PV.int IntKind.i64 x3.n,PV.int IntKind.i64 x9,PV.bool x3.first,PV.bool x3.turned,PV.int IntKind.i64 x3.form.rx.kind,PV.str x3.form.rx.char,PV.bool x3.form.rx.not,PV.sl x3.form.rx.rows.nil (szc 2 x3.form.rx.rows.l) (List.map T.Row.enc x3.form.rx.rows.l),PV.int IntKind.i64 x3.form.rx.min,PV.int IntKind.i64 x3.form.rx.max,PV.bool x3.form.rx.lazy,PV.sl x3.form.rx.kids.nil (szc 8 x3.form.rx.kids.l) (List.map T.Rx.enc x3.form.rx.kids.l),PV.sl x3.form.fmts.nil (szc 5 x3.form.fmts.l) (List.map T.Fmt.enc x3.form.fmts.l),PV.bool x3.form.fold,PV.bool x3.form.all,PV.sl x3.opts.nil (szc 1 x3.opts.l) (List.map qg x3.opts.l)]] = List.map T.Stop.enc (out ++ [(T.Stop.mk (T.Span.mk at_ (IntKind.i64.wrap (at_ + (v5.1.length : Int)))) x3.n x9 x3.first x3.turned x3.form x3.opts)]) := by simp only [List.map_append,List.map_cons,List.map_nil,za,z8,zb,T.Stop.qx] <;> rfl
     try simp only [h13,f4,f5,f26,f27] at f6 f13
     intro h; obtain ⟨f29L,f29⟩ := ih185 _ _ h; clear h
     try simp only [en.down,f4,f5,f26,f27] at f29
     try simp only [h13,f4,f5,f26,f27] at f29
     clear ih184 ih185; exact ⟨by first | rfl | (simp only [List.length_set,f29L]; done),fL ma⟩
    refine bw qf fun x21 h20 f30 f31 f32 => ?_
    have f33 := map_set qf place i.toNat (out.length : Int)
    try simp only [en.down] at f33
    refine gd fun h22 => ?_
    have f34 := rG 18 T.Stop.enc out
    apply it <;> intro h23
    ·have f35 : List.map T.Stop.enc out ++ [[PV.int IntKind.i64 at_,PV.int IntKind.i64 (IntKind.i64.wrap (at_ + (v5.1.length : Int))),PV.int IntKind.i64 x3.n,PV.int IntKind.i64 ((-1) : Int),PV.bool x3.first,PV.bool x3.turned,PV.int IntKind.i64 x3.form.rx.kind,PV.str x3.form.rx.char,PV.bool x3.form.rx.not,PV.sl x3.form.rx.rows.nil (szc 2 x3.form.rx.rows.l) (List.map T.Row.enc x3.form.rx.rows.l),PV.int IntKind.i64 x3.form.rx.min,PV.int IntKind.i64 x3.form.rx.max,PV.bool x3.form.rx.lazy,PV.sl x3.form.rx.kids.nil (szc 8 x3.form.rx.kids.l) (List.map T.Rx.enc x3.form.rx.kids.l),PV.sl x3.form.fmts.nil (szc 5 x3.form.fmts.l) (List.map T.Fmt.enc x3.form.fmts.l),PV.bool x3.form.fold,PV.bool x3.form.all,PV.sl x3.opts.nil (szc 1 x3.opts.l) (List.map qg x3.opts.l)]] = List.map T.Stop.enc (out ++ [(T.Stop.mk (T.Span.mk at_ (IntKind.i64.wrap (at_ + (v5.1.length : Int)))) x3.n ((-1) : Int) x3.first x3.turned x3.form x3.opts)]) := by simp only [List.map_append,List.map_cons,List.map_nil,za,z8,zb,T.Stop.qx] <;> rfl
     refine bs fun v25 h24 => ?_
     obtain ⟨f36L,f36⟩ := ih184 _ _ h24
     try simp only [List.length_set] at f36L
     try simp only [en.down,f4,f5,f36L] at f36
     refine bW T.qc.enc 20 fun x27 h26 f37 f38 f39 f40 f41 => ?_
     try simp only [h23,f4,f5,f36L,f40,f41] at f6 f33 f36
     intro h; obtain ⟨f42L,f42⟩ := ih185 _ _ h; clear h
     try simp only [en.down,f4,f5,f36L,f40,f41] at f42
     try simp only [h23,f4,f5,f36L,f40,f41] at f42
     clear ih184 ih185; exact ⟨by first | rfl | (simp only [List.length_set,f42L,f36L]; done),fL ma⟩
    refine bW T.qc.enc 20 fun x29 h28 f43 f44 f45 f46 f47 => ?_
    have f48 : List.map T.Stop.enc out ++ [[PV.int IntKind.i64 at_,PV.int IntKind.i64 (IntKind.i64.wrap (at_ + (v5.1.length : Int))),PV.int IntKind.i64 x3.n,PV.int IntKind.i64 ((-1) : Int),PV.bool x3.first,PV.bool x3.turned,PV.int IntKind.i64 x3.form.rx.kind,PV.str x3.form.rx.char,PV.bool x3.form.rx.not,PV.sl x3.form.rx.rows.nil (szc 2 x3.form.rx.rows.l) (List.map T.Row.enc x3.form.rx.rows.l),PV.int IntKind.i64 x3.form.rx.min,PV.int IntKind.i64 x3.form.rx.max,PV.bool x3.form.rx.lazy,PV.sl x3.form.rx.kids.nil (szc 8 x3.form.rx.kids.l) (List.map T.Rx.enc x3.form.rx.kids.l),PV.sl x3.form.fmts.nil (szc 5 x3.form.fmts.l) (List.map T.Fmt.enc x3.form.fmts.l),PV.bool x3.form.fold,PV.bool x3.form.all,PV.sl x3.opts.nil (szc 1 x3.opts.l) (List.map qg x3.opts.l)]] = List.map T.Stop.enc (out ++ [(T.Stop.mk (T.Span.mk at_ (IntKind.i64.wrap (at_ + (v5.1.length : Int)))) x3.n ((-1) : Int) x3.first x3.turned x3.form x3.opts)]) := by simp only [List.map_append,List.map_cons,List.map_nil,za,z8,zb,T.Stop.qx] <;> rfl
    try simp only [h23,f4,f5,f46,f47] at f6 f33
    intro h; obtain ⟨f49L,f49⟩ := ih185 _ _ h; clear h
    try simp only [en.down,f4,f5,f46,f47] at f49
    try simp only [h23,f4,f5,f46,f47] at f49
    clear ih184 ih185; exact ⟨by first | rfl | (simp only [List.length_set,f49L]; done),fL ma⟩
   refine bW T.qc.enc 20 fun x31 h30 f50 f51 f52 f53 f54 => ?_
   try simp only [f4,f5,f53,f54] at f6
   intro h; obtain ⟨f55L,f55⟩ := ih185 _ _ h; clear h
   try simp only [en.down,f4,f5,f53,f54] at f55
   try simp only [f4,f5,f53,f54] at f55
   clear ih184 ih185; exact ⟨by first | rfl | (simp only [List.length_set,f55L]; done),fL ma⟩
  rintro ⟨⟩
  clear ih184 ih185; exact ⟨by first | rfl | (simp only [List.length_set]; done),fL ma⟩
theorem zii : ∀ p r,nk p = some r → O.loop 45 0 ⟨[(0,AV.ptr 0 0),(1,AV.ptr 1 0),(2,v_r 8 p.2.2.2.2.2.2.2.2.2.2.2.2),(3,v_r 2 p.2.2.2.2.2.2.1),(5,v_i p.1),(6,v_i p.2.1),(16,v_i p.2.2.1)],[(0,Blk.box [v_l 2 T.qi.enc p.2.2.2.1,v_s p.2.2.2.2.1,v_s p.2.2.2.2.2.1,v_r 3 p.2.2.2.2.2.2.2.1,v_r 4 p.2.2.2.2.2.2.2.2.1,v_r 5 p.2.2.2.2.2.2.2.2.2.1]),(1,Blk.box [v_r 6 p.2.2.2.2.2.2.2.2.2.2.1,v_r 7 p.2.2.2.2.2.2.2.2.2.2.2.1]),(2,Blk.row false 1 (List.map qf p.2.2.2.2.2.2.1)),(3,b_r 20 T.qc.enc p.2.2.2.2.2.2.2.1),(4,b_r 1 qf p.2.2.2.2.2.2.2.2.1),(5,b_r 1 qg p.2.2.2.2.2.2.2.2.2.1),(6,b_r 1 qf p.2.2.2.2.2.2.2.2.2.2.1),(7,b_r 1 qg p.2.2.2.2.2.2.2.2.2.2.2.1),(8,b_r 18 T.Stop.enc p.2.2.2.2.2.2.2.2.2.2.2.2)],9⟩ = some (Ex.normal,⟨[(2,v_r 8 r.2.2.2.2.2.2.2.2.2.2),(6,v_i r.1)],[(0,Blk.box [v_l 2 T.qi.enc r.2.1,v_s r.2.2.1,v_s r.2.2.2.1,v_r 3 r.2.2.2.2.2.1,v_r 4 r.2.2.2.2.2.2.1,v_r 5 r.2.2.2.2.2.2.2.1]),(1,Blk.box [v_r 6 r.2.2.2.2.2.2.2.2.1,v_r 7 r.2.2.2.2.2.2.2.2.2.1]),(2,Blk.row false 1 (List.map qf r.2.2.2.2.1)),(3,b_r 20 T.qc.enc r.2.2.2.2.2.1),(4,b_r 1 qf r.2.2.2.2.2.2.1),(5,b_r 1 qg r.2.2.2.2.2.2.2.1),(6,b_r 1 qf r.2.2.2.2.2.2.2.2.1),(7,b_r 1 qg r.2.2.2.2.2.2.2.2.2.1),(8,b_r 18 T.Stop.enc r.2.2.2.2.2.2.2.2.2.2)],9⟩) := by
 refine nk.partial_correctness _ ?_
 rintro nk ih183 ⟨to,at_,i,w,w2,w3,place,r3_,r4_,r5_,r6_,r7_,out⟩ r; dsimp only
 apply it <;> intro h1
 ·refine bW T.qc.enc 20 fun x3 h2 f1 f2 f3 f4 f5 => ?_
  refine bs fun v5 h4 => ?_
  have f6 := qfh.1 _ _ h4
  try simp only [en.down,f4,f5] at f6
  apply it <;> intro h6
  ·apply it <;> intro h7
   ·refine bw qf fun x9 h8 f7 f8 f9 => ?_
    refine bw qf fun x11 h10 f10 f11 f12 => ?_
    have f13 := map_set qf place i.toNat (out.length : Int)
    try simp only [en.down] at f13
    refine gd fun h12 => ?_
    have f14 := rG 18 T.Stop.enc out
    apply it <;> intro h13
    ·have f15 : List.map T.Stop.enc out ++ [[PV.int IntKind.i64 at_,PV.int IntKind.i64 (IntKind.i64.wrap (at_ + (v5.1.length : Int))),PV.int IntKind.i64 x3.n,PV.int IntKind.i64 x9,PV.bool x3.first,PV.bool x3.turned,PV.int IntKind.i64 x3.form.rx.kind,PV.str x3.form.rx.char,PV.bool x3.form.rx.not,PV.sl x3.form.rx.rows.nil (szc 2 x3.form.rx.rows.l) (List.map T.Row.enc x3.form.rx.rows.l),PV.int IntKind.i64 x3.form.rx.min,PV.int IntKind.i64 x3.form.rx.max,PV.bool x3.form.rx.lazy,PV.sl x3.form.rx.kids.nil (szc 8 x3.form.rx.kids.l) (List.map T.Rx.enc x3.form.rx.kids.l),PV.sl x3.form.fmts.nil (szc 5 x3.form.fmts.l) (List.map T.Fmt.enc x3.form.fmts.l),PV.bool x3.form.fold,PV.bool x3.form.all,PV.sl x3.opts.nil (szc 1 x3.opts.l) (List.map qg x3.opts.l)]] = List.map T.Stop.enc (out ++ [(T.Stop.mk (T.Span.mk at_ (IntKind.i64.wrap (at_ + (v5.1.length : Int)))) x3.n x9 x3.first x3.turned x3.form x3.opts)]) := by simp only [List.map_append,List.map_cons,List.map_nil,za,z8,zb,T.Stop.qx] <;> rfl
     refine bs fun v15 h14 => ?_
     obtain ⟨f16L,f16⟩ := qmv.1 _ _ h14
     try simp only [List.length_set] at f16L
     try simp only [en.down,f4,f5,f16L] at f16
     refine bW T.qc.enc 20 fun x17 h16 f17 f18 f19 f20 f21 => ?_
     try simp only [h13,f4,f5,f16L,f20,f21] at f6 f13 f16
     intro h; have f22 := ih183 _ _ h; clear h
     try simp only [en.down,f4,f5,f16L,f20,f21] at f22
     try simp only [h13,f4,f5,f16L,f20,f21] at f22
     clear ih183; exact fL ma
    refine bW T.qc.enc 20 fun x19 h18 f23 f24 f25 f26 f27 => ?_
    have f28 : List.map T.Stop.enc out ++ [[PV.int IntKind.i64 at_,PV.int IntKind.i64 (IntKind.i64.wrap (at_ + (v5.1.length : Int))),PV.int IntKind.i64 x3.n,PV.int IntKind.i64 x9,PV.bool x3.first,PV.bool x3.turned,PV.int IntKind.i64 x3.form.rx.kind,PV.str x3.form.rx.char,PV.bool x3.form.rx.not,PV.sl x3.form.rx.rows.nil (szc 2 x3.form.rx.rows.l) (List.map T.Row.enc x3.form.rx.rows.l),PV.int IntKind.i64 x3.form.rx.min,PV.int IntKind.i64 x3.form.rx.max,PV.bool x3.form.rx.lazy,PV.sl x3.form.rx.kids.nil (szc 8 x3.form.rx.kids.l) (List.map T.Rx.enc x3.form.rx.kids.l),PV.sl x3.form.fmts.nil (szc 5 x3.form.fmts.l) (List.map T.Fmt.enc x3.form.fmts.l),PV.bool x3.form.fold,PV.bool x3.form.all,PV.sl x3.opts.nil (szc 1 x3.opts.l) (List.map qg x3.opts.l)]] = List.map T.Stop.enc (out ++ [(T.Stop.mk (T.Span.mk at_ (IntKind.i64.wrap (at_ + (v5.1.length : Int)))) x3.n x9 x3.first x3.turned x3.form x3.opts)]) := by simp only [List.map_append,List.map_cons,List.map_nil,za,z8,zb,T.Stop.qx] <;> rfl
    try simp only [h13,f4,f5,f26,f27] at f6 f13
    intro h; have f29 := ih183 _ _ h; clear h
    try simp only [en.down,f4,f5,f26,f27] at f29
    try simp only [h13,f4,f5,f26,f27] at f29
    clear ih183; exact fL ma
   refine bw qf fun x21 h20 f30 f31 f32 => ?_
   have f33 := map_set qf place i.toNat (out.length : Int)
   try simp only [en.down] at f33
   refine gd fun h22 => ?_
   have f34 := rG 18 T.Stop.enc out
   apply it <;> intro h23
   ·have f35 : List.map T.Stop.enc out ++ [[PV.int IntKind.i64 at_,PV.int IntKind.i64 (IntKind.i64.wrap (at_ + (v5.1.length : Int))),PV.int IntKind.i64 x3.n,PV.int IntKind.i64 ((-1) : Int),PV.bool x3.first,PV.bool x3.turned,PV.int IntKind.i64 x3.form.rx.kind,PV.str x3.form.rx.char,PV.bool x3.form.rx.not,PV.sl x3.form.rx.rows.nil (szc 2 x3.form.rx.rows.l) (List.map T.Row.enc x3.form.rx.rows.l),PV.int IntKind.i64 x3.form.rx.min,PV.int IntKind.i64 x3.form.rx.max,PV.bool x3.form.rx.lazy,PV.sl x3.form.rx.kids.nil (szc 8 x3.form.rx.kids.l) (List.map T.Rx.enc x3.form.rx.kids.l),PV.sl x3.form.fmts.nil (szc 5 x3.form.fmts.l) (List.map T.Fmt.enc x3.form.fmts.l),PV.bool x3.form.fold,PV.bool x3.form.all,PV.sl x3.opts.nil (szc 1 x3.opts.l) (List.map qg x3.opts.l)]] = List.map T.Stop.enc (out ++ [(T.Stop.mk (T.Span.mk at_ (IntKind.i64.wrap (at_ + (v5.1.length : Int)))) x3.n ((-1) : Int) x3.first x3.turned x3.form x3.opts)]) := by simp only [List.map_append,List.map_cons,List.map_nil,za,z8,zb,T.Stop.qx] <;> rfl
    refine bs fun v25 h24 => ?_
    obtain ⟨f36L,f36⟩ := qmv.1 _ _ h24
    try simp only [List.length_set] at f36L
    try simp only [en.down,f4,f5,f36L] at f36
    refine bW T.qc.enc 20 fun x27 h26 f37 f38 f39 f40 f41 => ?_
    try simp only [h23,f4,f5,f36L,f40,f41] at f6 f33 f36
    intro h; have f42 := ih183 _ _ h; clear h
    try simp only [en.down,f4,f5,f36L,f40,f41] at f42
    try simp only [h23,f4,f5,f36L,f40,f41] at f42
    clear ih183; exact fL ma
   refine bW T.qc.enc 20 fun x29 h28 f43 f44 f45 f46 f47 => ?_
   have f48 : List.map T.Stop.enc out ++ [[PV.int IntKind.i64 at_,PV.int IntKind.i64 (IntKind.i64.wrap (at_ + (v5.1.length : Int))),PV.int IntKind.i64 x3.n,PV.int IntKind.i64 ((-1) : Int),PV.bool x3.first,PV.bool x3.turned,PV.int IntKind.i64 x3.form.rx.kind,PV.str x3.form.rx.char,PV.bool x3.form.rx.not,PV.sl x3.form.rx.rows.nil (szc 2 x3.form.rx.rows.l) (List.map T.Row.enc x3.form.rx.rows.l),PV.int IntKind.i64 x3.form.rx.min,PV.int IntKind.i64 x3.form.rx.max,PV.bool x3.form.rx.lazy,PV.sl x3.form.rx.kids.nil (szc 8 x3.form.rx.kids.l) (List.map T.Rx.enc x3.form.rx.kids.l),PV.sl x3.form.fmts.nil (szc 5 x3.form.fmts.l) (List.map T.Fmt.enc x3.form.fmts.l),PV.bool x3.form.fold,PV.bool x3.form.all,PV.sl x3.opts.nil (szc 1 x3.opts.l) (List.map qg x3.opts.l)]] = List.map T.Stop.enc (out ++ [(T.Stop.mk (T.Span.mk at_ (IntKind.i64.wrap (at_ + (v5.1.length : Int)))) x3.n ((-1) : Int) x3.first x3.turned x3.form x3.opts)]) := by simp only [List.map_append,List.map_cons,List.map_nil,za,z8,zb,T.Stop.qx] <;> rfl
   try simp only [h23,f4,f5,f46,f47] at f6 f33
   intro h; have f49 := ih183 _ _ h; clear h
   try simp only [en.down,f4,f5,f46,f47] at f49
   try simp only [h23,f4,f5,f46,f47] at f49
   clear ih183; exact fL ma
  refine bW T.qc.enc 20 fun x31 h30 f50 f51 f52 f53 f54 => ?_
  try simp only [f4,f5,f53,f54] at f6
  intro h; have f55 := ih183 _ _ h; clear h
  try simp only [en.down,f4,f5,f53,f54] at f55
  try simp only [f4,f5,f53,f54] at f55
  clear ih183; exact fL ma
 rintro ⟨⟩
 clear ih183; exact fL ma
theorem zif {frm to at_ b b_2 b_3 r_ r_2 r_3 r_4 r_5 r_6 r} (h : qby frm to at_ b b_2 b_3 r_ r_2 r_3 r_4 r_5 r_6 = some r) : O.call 45 [AV.ptr 0 0,AV.ptr 1 0,AV.pv (PV.sl true 0 []),v_r 2 r_,v_i frm,v_i to,v_i at_] [(0,Blk.box [v_l 2 T.qi.enc b,v_s b_2,v_s b_3,v_r 3 r_2,v_r 4 r_3,v_r 5 r_4]),(1,Blk.box [v_r 6 r_5,v_r 7 r_6]),(2,Blk.row false 1 (List.map qf r_)),(3,b_r 20 T.qc.enc r_2),(4,b_r 1 qf r_3),(5,b_r 1 qg r_4),(6,b_r 1 qf r_5),(7,b_r 1 qg r_6)] = some (AV.tup [v_r 8 r.2.2.2.2.2.2.2.2.2.2,v_i r.1],[(0,Blk.box [v_l 2 T.qi.enc r.2.1,v_s r.2.2.1,v_s r.2.2.2.1,v_r 3 r.2.2.2.2.2.1,v_r 4 r.2.2.2.2.2.2.1,v_r 5 r.2.2.2.2.2.2.2.1]),(1,Blk.box [v_r 6 r.2.2.2.2.2.2.2.2.1,v_r 7 r.2.2.2.2.2.2.2.2.2.1]),(2,Blk.row false 1 (List.map qf r.2.2.2.2.1)),(3,b_r 20 T.qc.enc r.2.2.2.2.2.1),(4,b_r 1 qf r.2.2.2.2.2.2.1),(5,b_r 1 qg r.2.2.2.2.2.2.2.1),(6,b_r 1 qf r.2.2.2.2.2.2.2.2.1),(7,b_r 1 qg r.2.2.2.2.2.2.2.2.2.1),(8,b_r 18 T.Stop.enc r.2.2.2.2.2.2.2.2.2.2)]) := by
 revert h; unfold qby
 refine bs fun v2 h1 => ?_
 have f1 := zii _ _ h1
 try simp only [en.down] at f1
 rintro ⟨⟩
 exact fF ma
theorem zir : ∀ p r,q2n p = some r → O.loop 20 2 ⟨[(15,v_s p.1),(17,v_r 8 p.2.2.2.2.2.2.2.2.2.2.2.2),(19,v_b p.2.1),(20,v_i p.2.2.1)],[(0,Blk.box [v_l 2 T.qi.enc p.2.2.2.1,v_s p.2.2.2.2.1,v_s p.2.2.2.2.2.1,v_r 1 p.2.2.2.2.2.2.1,v_r 2 p.2.2.2.2.2.2.2.1,v_r 3 p.2.2.2.2.2.2.2.2.1]),(1,b_r 20 T.qc.enc p.2.2.2.2.2.2.1),(2,b_r 1 qf p.2.2.2.2.2.2.2.1),(3,b_r 1 qg p.2.2.2.2.2.2.2.2.1),(4,Blk.box [v_r 5 p.2.2.2.2.2.2.2.2.2.1,v_r 6 p.2.2.2.2.2.2.2.2.2.2.1]),(5,b_r 1 qf p.2.2.2.2.2.2.2.2.2.1),(6,b_r 1 qg p.2.2.2.2.2.2.2.2.2.2.1),(7,Blk.row false 1 (List.map qf p.2.2.2.2.2.2.2.2.2.2.2.1)),(8,b_r 18 T.Stop.enc p.2.2.2.2.2.2.2.2.2.2.2.2)],9⟩ = some (Ex.normal,⟨[(15,v_s p.1),(17,v_r 8 p.2.2.2.2.2.2.2.2.2.2.2.2),(19,v_b r)],[(0,Blk.box [v_l 2 T.qi.enc p.2.2.2.1,v_s p.2.2.2.2.1,v_s p.2.2.2.2.2.1,v_r 1 p.2.2.2.2.2.2.1,v_r 2 p.2.2.2.2.2.2.2.1,v_r 3 p.2.2.2.2.2.2.2.2.1]),(1,b_r 20 T.qc.enc p.2.2.2.2.2.2.1),(2,b_r 1 qf p.2.2.2.2.2.2.2.1),(3,b_r 1 qg p.2.2.2.2.2.2.2.2.1),(4,Blk.box [v_r 5 p.2.2.2.2.2.2.2.2.2.1,v_r 6 p.2.2.2.2.2.2.2.2.2.2.1]),(5,b_r 1 qf p.2.2.2.2.2.2.2.2.2.1),(6,b_r 1 qg p.2.2.2.2.2.2.2.2.2.2.1),(7,Blk.row false 1 (List.map qf p.2.2.2.2.2.2.2.2.2.2.2.1)),(8,b_r 18 T.Stop.enc p.2.2.2.2.2.2.2.2.2.2.2.2)],9⟩) := by
 refine q2n.partial_correctness _ ?_
 rintro q2n ih186 ⟨s,zero,i,b0_,b0_2,b0_3,r1_,r2_,r3_,r5_,r6_,r7_,stops⟩ r; dsimp only
 apply it <;> intro h1
 ·apply it <;> intro h2
  ·intro h; have f1 := ih186 _ _ h; clear h
   try simp only [en.down] at f1
   try simp only [h2] at f1
   clear ih186; exact fL q07
  refine bW T.Stop.enc 18 fun x4 h3 f2 f3 f4 f5 f6 => ?_
  apply it <;> intro h5
  ·intro h; have f7 := ih186 _ _ h; clear h
   try simp only [en.down,f5,f6] at f7
   try simp only [h2,f5,f6] at f7
   clear ih186; exact fL q07
  intro h; have f8 := ih186 _ _ h; clear h
  try simp only [en.down,f5,f6] at f8
  try simp only [h2,f5,f6] at f8
  clear ih186; exact fL q07
 rintro ⟨⟩
 clear ih186; exact fL q07
theorem zfw {l env lead unit r} (h : qag l env lead unit = some r) : O.call 20 [v_l 18 T.qb.enc l,v_l 2 T.qi.enc env,v_s lead,v_s unit] [] = some (AV.tup [v_s r.1,v_l 18 T.Stop.enc r.2.1,v_i r.2.2],[]) := by
 revert h; unfold qag
 refine bs fun v2 h1 => ?_
 have f1 := zo3 h1
 try simp only [en.down] at f1
 apply it <;> intro h3
 ·rintro ⟨⟩
  exact fF q07
 refine bs fun v5 h4 => ?_
 have f2 := zaj h4
 try simp only [en.down] at f2
 refine bs fun v7 h6 => ?_
 have f3 := zil h6
 try simp only [en.down] at f3
 refine bs fun v9 h8 => ?_
 have f4 := zgu h8
 try simp only [en.down] at f4
 apply it <;> intro h10
 ·try simp only [h10] at f1 f2 f3 f4
  rintro ⟨⟩
  exact fF q07
 refine bs fun v12 h11 => ?_
 have f5 := z7m _ _ h11
 try simp only [en.down] at f5
 apply it <;> intro h13
 ·try simp only [h10] at f1 f2 f3 f4 f5
  rintro ⟨⟩
  exact fF q07
 refine bs fun v15 h14 => ?_
 have f6 := qpy h14
 try simp only [en.down] at f6
 apply it <;> intro h16
 ·try simp only [h10] at f1 f2 f3 f4 f5 f6
  rintro ⟨⟩
  exact fF q07
 refine gd fun h17 => ?_
 have f7 := qhj IntKind.i64 h17
 refine gd fun h18 => ?_
 have f8 : List.replicate (v15.2.2.2.2.2.1.length : Int).toNat [PV.int IntKind.i64 (0 : Int)] = List.map qf (List.replicate (v15.2.2.2.2.2.1.length : Int).toNat (0 : Int)) := by rw [List.map_replicate]; rfl
 refine bs fun v20 h19 => ?_
 have f9 := zif h19
 try simp only [en.down] at f9
 refine bs fun v22 h21 => ?_
 have f10 := zir _ _ h21
 try simp only [en.down] at f10
 apply it <;> intro h23
 ·refine gd fun h24 => ?_
  have f11 := rG 18 T.Stop.enc v20.2.2.2.2.2.2.2.2.2.2
  have f12 : List.map T.Stop.enc v20.2.2.2.2.2.2.2.2.2.2 ++ [[PV.int IntKind.i64 (v15.1.length : Int),PV.int IntKind.i64 (v15.1.length : Int),PV.int IntKind.i64 (0 : Int),PV.int IntKind.i64 ((-1) : Int),PV.bool true,PV.bool false,PV.int IntKind.i64 (0 : Int),PV.str ([] : Bytes),PV.bool false,PV.sl true 0 [],PV.int IntKind.i64 (0 : Int),PV.int IntKind.i64 (0 : Int),PV.bool false,PV.sl true 0 [],PV.sl true 0 [],PV.bool false,PV.bool false,PV.sl true 0 []]] = List.map T.Stop.enc (v20.2.2.2.2.2.2.2.2.2.2 ++ [(T.Stop.mk (T.Span.mk (v15.1.length : Int) (v15.1.length : Int)) (0 : Int) ((-1) : Int) true false (T.Form.mk (T.Rx.mk (0 : Int) ([] : Bytes) false (⟨true,[]⟩ : (Sl T.Row)) (0 : Int) (0 : Int) false (⟨true,[]⟩ : (Sl T.Rx))) (⟨true,[]⟩ : (Sl T.Fmt)) false false) (⟨true,[]⟩ : (Sl Bytes)))]) := by simp only [List.map_append,List.map_cons,List.map_nil,za,z8,zb,T.Stop.qx] <;> rfl
  try simp only [h10] at f1 f2 f3 f4 f5 f6 f9 f10
  rintro ⟨⟩
  exact fF q07
 try simp only [h10] at f1 f2 f3 f4 f5 f6 f9 f10
 rintro ⟨⟩
 exact fF q07
theorem zch : ∀ p r,q4n p = some r → O.loop 7 0 ⟨[(1,v_i p.1),(4,AV.ptr 0 0),(9,v_l 18 T.Stop.enc p.2.1),(11,AV.ptr 1 0),(12,v_i p.2.2.1)],[(0,b_x (T.zf.enc p.2.2.2.1)),(1,Blk.box [v_i p.2.2.2.2.1,v_i p.2.2.2.2.2.1,v_r 2 p.2.2.2.2.2.2]),(2,b_r 18 T.Stop.enc p.2.2.2.2.2.2)],3⟩ = some (Ex.normal,⟨[(4,AV.ptr 0 0),(11,AV.ptr 1 0)],[(0,b_x (T.zf.enc p.2.2.2.1)),(1,Blk.box [v_i p.2.2.2.2.1,v_i p.2.2.2.2.2.1,v_r 2 r]),(2,b_r 18 T.Stop.enc r)],3⟩) := by
 refine q4n.partial_correctness _ ?_
 rintro q4n ih187 ⟨at_,p_,i,t4,in_,in_2,r2_⟩ r; dsimp only
 apply it <;> intro h1
 ·refine bg T.Stop.enc fun x3 h2 f1 f2 f3 => ?_
  refine gd fun h4 => ?_
  have f4 := rG 18 T.Stop.enc r2_
  have f5 : List.map T.Stop.enc r2_ ++ [[PV.int IntKind.i64 (IntKind.i64.wrap (x3.span.frm + at_)),PV.int IntKind.i64 (IntKind.i64.wrap (x3.span.to + at_)),PV.int IntKind.i64 x3.n,PV.int IntKind.i64 x3.up,PV.bool x3.first,PV.bool x3.turned,PV.int IntKind.i64 x3.form.rx.kind,PV.str x3.form.rx.char,PV.bool x3.form.rx.not,PV.sl x3.form.rx.rows.nil (szc 2 x3.form.rx.rows.l) (List.map T.Row.enc x3.form.rx.rows.l),PV.int IntKind.i64 x3.form.rx.min,PV.int IntKind.i64 x3.form.rx.max,PV.bool x3.form.rx.lazy,PV.sl x3.form.rx.kids.nil (szc 8 x3.form.rx.kids.l) (List.map T.Rx.enc x3.form.rx.kids.l),PV.sl x3.form.fmts.nil (szc 5 x3.form.fmts.l) (List.map T.Fmt.enc x3.form.fmts.l),PV.bool x3.form.fold,PV.bool x3.form.all,PV.sl x3.opts.nil (szc 1 x3.opts.l) (List.map qg x3.opts.l)]] = List.map T.Stop.enc (r2_ ++ [(T.Stop.mk (T.Span.mk (IntKind.i64.wrap (x3.span.frm + at_)) (IntKind.i64.wrap (x3.span.to + at_))) x3.n x3.up x3.first x3.turned x3.form x3.opts)]) := by simp only [List.map_append,List.map_cons,List.map_nil,za,z8,zb,T.Stop.qx] <;> rfl
  intro h; have f6 := ih187 _ _ h; clear h
  try simp only [en.down] at f6
  clear ih187; exact fL fn7
 rintro ⟨⟩
 clear ih187; exact fL fn7
theorem zbd {s at_ r} (h : q9c s at_ = some r) : O.call 7 [v_s s,v_i at_] [] = some (AV.tup [v_g (T.zf.enc r.1),v_b r.2],[]) := by
 revert h; unfold q9c
 refine bs fun v2 h1 => ?_
 have f1 := zcr h1
 try simp only [en.down] at f1
 refine bs fun v4 h3 => ?_
 have f2 := zfw h3
 try simp only [en.down] at f2
 refine xy ?_ (fun h5 h6 => ?_)
 ·rintro (⟨h5,h6⟩ | ⟨h5,h6⟩)
  all_goals
  rintro ⟨⟩
  exact fF fn7
 refine bs fun v8 h7 => ?_
 have f3 := zch _ _ h7
 try simp only [en.down] at f3
 rintro ⟨⟩
 exact fF fn7
theorem z00 {s n r} (h : q9q s n = some r) : O.call 22 [v_g (T.Span.enc s),v_i n] [] = some (v_b r,[]) := by
 revert h; unfold q9q
 refine zn (fun h1 h2 => ?_) ?_
 ·rintro ⟨⟩
  exact fF qjl
 rintro (⟨h1,h2⟩ | ⟨h1,h2⟩)
 all_goals
 rintro ⟨⟩
 exact fF qjl
theorem zi8 {i k r} (h : q6h i k = some r) : O.call 48 [v_g (T.zf.enc i),v_i k] [] = some (v_i r,[]) := by
 revert h; unfold q6h
 refine bg T.Stop.enc fun x2 h1 f1 f2 f3 => ?_
 refine zn (fun h3 h4 => ?_) ?_
 ·rintro ⟨⟩
  exact fF qke
 rintro (⟨h3,h4⟩ | ⟨h3,h4⟩)
 all_goals
 rintro ⟨⟩
 exact fF qke
def qm4 (k : Int) (i : T.zf) : ((Bool) ⊕ (Unit)) → Ex × St
 | .inl y => (Ex.ret,⟨[(1,v_i k),(2,AV.ptr 0 0),(4,v_b y)],[(0,b_x (T.zf.enc i))],1⟩)
 | .inr y => (Ex.normal,⟨[(1,v_i k),(2,AV.ptr 0 0),(4,AV.undef)],[(0,b_x (T.zf.enc i))],1⟩)
attribute [local go_sem] qm4
theorem zim : ∀ p r,q14 p = some r → O.loop 23 0 ⟨[(1,v_i p.1),(2,AV.ptr 0 0),(5,v_i p.2.1)],[(0,b_x (T.zf.enc p.2.2))],1⟩ = some (qm4 p.1 p.2.2 r) := by
 refine q14.partial_correctness _ ?_
 rintro q14 ih192 ⟨k,u,i⟩ r; dsimp only
 apply it <;> intro h1
 ·refine bg T.Stop.enc fun x3 h2 f1 f2 f3 => ?_
  apply it <;> intro h4
  ·rintro ⟨⟩
   clear ih192; exact fL qah
  refine bs fun v6 h5 => ?_
  have f4 := zi8 h5
  try simp only [en.down] at f4
  intro h; have f5 := ih192 _ _ h; clear h
  try simp only [en.down] at f5
  clear ih192; exact fL qah
 rintro ⟨⟩
 clear ih192; exact fL qah
theorem z9n {i k r} (h : qc9 i k = some r) : O.call 23 [v_g (T.zf.enc i),v_i k] [] = some (v_b r,[]) := by
 revert h; unfold qc9
 refine bs fun v2 h1 => ?_
 have f1 := zim _ _ h1
 try simp only [en.down] at f1
 rcases v2 with y3 | y4
 ·dsimp only
  rintro ⟨⟩
  exact fF qah
 dsimp only
 refine bg T.Stop.enc fun x6 h5 f2 f3 f4 => ?_
 rintro ⟨⟩
 exact fF qah
theorem qmn {a b r} (h : q9h a b = some r) : O.call 24 [v_g (T.Span.enc a),v_g (T.Span.enc b)] [] = some (v_b r,[]) := by
 revert h; unfold q9h
 apply it <;> intro h1
 ·rintro ⟨⟩
  exact fF qoi
 rintro ⟨⟩
 exact fF qoi
def qo8 (i : T.zf) : ((Bool × jv) ⊕ (jv)) → Ex × St
 | .inl y => (Ex.ret,⟨[(4,v_b y.1)],[(0,b_x (T.zf.enc i)),(1,b_m y.2)],2⟩)
 | .inr y => (Ex.normal,⟨[(4,AV.undef)],[(0,b_x (T.zf.enc i)),(1,b_m y)],2⟩)
attribute [local go_sem] qo8
theorem zo8 : ∀ p r,q2i p = some r → O.loop 9 0 ⟨[(2,AV.ptr 0 0),(5,AV.map 1),(18,v_l 18 T.Stop.enc p.1),(19,v_i p.2.1),(20,v_i p.2.2.1)],[(0,b_x (T.zf.enc p.2.2.2.1)),(1,b_m p.2.2.2.2)],2⟩ = some (qo8 p.2.2.2.1 r) := by
 refine q2i.partial_correctness _ ?_
 rintro q2i ih190 ⟨t18,t19,t20,i,ends⟩ r; dsimp only
 apply it <;> intro h1
 ·refine bg T.Stop.enc fun x3 h2 f1 f2 f3 => ?_
  refine bs fun v5 h4 => ?_
  have f4 := z9n h4
  try simp only [en.down] at f4
  refine xy ?_ (fun h6 h7 => ?_)
  ·rintro (⟨h6,h7⟩ | ⟨h6,h7⟩)
   all_goals
   rintro ⟨⟩
   clear ih190; exact fL fn9
  apply it <;> intro h8
  ·refine bg T.Stop.enc fun x10 h9 f5 f6 f7 => ?_
   have f8 := mG2 ends x3.up
   try simp only [en.down] at f8
   refine bs fun v12 h11 => ?_
   have f9 := qmn h11
   try simp only [en.down] at f9
   refine qcf ?_ ?_
   ·rintro (⟨h13,h14,h15⟩ | ⟨h13,h14,h15⟩)
    all_goals
    rintro ⟨⟩
    clear ih190; exact fL fn9
   rintro (⟨h13,h14,h15⟩ | ⟨h13,h14,h15⟩)
   all_goals
   have f10 := mP ends x3.up x3.span.to
   try simp only [en.down] at f10
   intro h; have f11 := ih190 _ _ h; clear h
   try simp only [en.down] at f11
   clear ih190; exact fL fn9
  have f12 := mG2 ends x3.up
  try simp only [en.down] at f12
  refine bs fun v17 h16 => ?_
  have f13 := qmn h16
  try simp only [en.down] at f13
  refine qcf ?_ ?_
  ·rintro (⟨h18,h19,h20⟩ | ⟨h18,h19,h20⟩)
   all_goals
   rintro ⟨⟩
   clear ih190; exact fL fn9
  rintro (⟨h18,h19,h20⟩ | ⟨h18,h19,h20⟩)
  all_goals
  have f14 := mP ends x3.up x3.span.to
  try simp only [en.down] at f14
  intro h; have f15 := ih190 _ _ h; clear h
  try simp only [en.down] at f15
  clear ih190; exact fL fn9
 rintro ⟨⟩
 clear ih190; exact fL fn9
theorem z5p {i n r} (h : qb8 i n = some r) : O.call 9 [v_g (T.zf.enc i),v_i n] [] = some (v_b r,[]) := by
 revert h; unfold qb8
 refine bs fun v2 h1 => ?_
 have f1 := z00 h1
 try simp only [en.down] at f1
 apply it <;> intro h3
 ·rintro ⟨⟩
  exact fF fn9
 refine bs fun v5 h4 => ?_
 have f2 := zo8 _ _ h4
 try simp only [en.down] at f2
 rcases v5 with y6 | y7
 ·dsimp only
  rintro ⟨⟩
  exact fF fn9
 dsimp only
 rintro ⟨⟩
 exact fF fn9
theorem zqk : ∀ p r,q7p p = some r → O.loop 15 4 ⟨[(1,AV.ptr 0 0),(3,v_i p.1),(4,v_i p.2.1),(5,v_i p.2.2.1),(6,v_i p.2.2.2.1)],[(0,b_x (T.zf.enc p.2.2.2.2))],1⟩ = some (Ex.normal,⟨[(1,AV.ptr 0 0),(3,v_i p.1),(4,v_i p.2.1),(5,v_i r)],[(0,b_x (T.zf.enc p.2.2.2.2))],1⟩) := by
 refine q7p.partial_correctness _ ?_
 rintro q7p ih198 ⟨b,a,up,last,i⟩ r; dsimp only
 refine zn (fun h1 h2 => ?_) ?_
 ·refine bg T.Stop.enc fun x4 h3 f1 f2 f3 => ?_
  intro h; have f4 := ih198 _ _ h; clear h
  try simp only [en.down] at f4
  clear ih198; exact fL q23
 rintro (⟨h1,h2⟩ | ⟨h1,h2⟩)
 all_goals
 rintro ⟨⟩
 clear ih198; exact fL q23
theorem zkd {a b r} (h : qdf a b = some r) : O.call 36 [v_g (T.Span.enc a),v_g (T.Span.enc b)] [] = some (v_b r,[]) := by
 revert h; unfold qdf
 rintro ⟨⟩
 exact fF zm2
def qib (b : Int) (i : T.zf) : ((Bool) ⊕ (Unit)) → Ex × St
 | .inl y => (Ex.ret,⟨[(1,AV.ptr 0 0),(2,v_b y),(3,v_i b)],[(0,b_x (T.zf.enc i))],1⟩)
 | .inr y => (Ex.normal,⟨[(1,AV.ptr 0 0),(2,AV.undef),(3,v_i b)],[(0,b_x (T.zf.enc i))],1⟩)
attribute [local go_sem] qib
theorem zdk : ∀ p r,q4b p = some r → O.loop 15 2 ⟨[(1,AV.ptr 0 0),(3,v_i p.1),(4,v_i p.2.1)],[(0,b_x (T.zf.enc p.2.2))],1⟩ = some (qib p.1 p.2.2 r) := by
 refine q4b.partial_correctness _ ?_
 rintro q4b ih197 ⟨b,a,i⟩ r; dsimp only
 apply it <;> intro h1
 ·refine bg T.Stop.enc fun x3 h2 f1 f2 f3 => ?_
  refine bs fun v5 h4 => ?_
  have f4 := zqk _ _ h4
  try simp only [en.down] at f4
  refine bg T.Stop.enc fun x7 h6 f5 f6 f7 => ?_
  refine bs fun v9 h8 => ?_
  have f8 := zkd h8
  try simp only [en.down] at f8
  refine zn (fun h10 h11 => ?_) ?_
  ·try simp only [h10] at f4 f8
   rintro ⟨⟩
   clear ih197; exact fL q23
  rintro (⟨h10,h11⟩ | ⟨h10,h11⟩)
  all_goals
  try simp only [h10] at f4 f8
  intro h; have f9 := ih197 _ _ h; clear h
  try simp only [en.down] at f9
  try simp only [h10] at f9
  clear ih197; exact fL q23
 rintro ⟨⟩
 clear ih197; exact fL q23
def qir (i : T.zf) : ((Bool) ⊕ (Unit)) → Ex × St
 | .inl y => (Ex.ret,⟨[(2,v_b y)],[(0,b_x (T.zf.enc i))],1⟩)
 | .inr y => (Ex.normal,⟨[(2,AV.undef)],[(0,b_x (T.zf.enc i))],1⟩)
attribute [local go_sem] qir
theorem zgv : ∀ p r,q4x p = some r → O.loop 15 0 ⟨[(1,AV.ptr 0 0),(3,v_i p.1)],[(0,b_x (T.zf.enc p.2))],1⟩ = some (qir p.2 r) := by
 refine q4x.partial_correctness _ ?_
 rintro q4x ih196 ⟨b,i⟩ r; dsimp only
 apply it <;> intro h1
 ·refine bs fun v3 h2 => ?_
  have f1 := zdk _ _ h2
  try simp only [en.down] at f1
  rcases v3 with y4 | y5
  ·dsimp only
   rintro ⟨⟩
   clear ih196; exact fL q23
  dsimp only
  intro h; have f2 := ih196 _ _ h; clear h
  try simp only [en.down] at f2
  clear ih196; exact fL q23
 rintro ⟨⟩
 clear ih196; exact fL q23
theorem qhg {i r} (h : q42 i = some r) : O.call 15 [v_g (T.zf.enc i)] [] = some (v_b r,[]) := by
 revert h; unfold q42
 refine bs fun v2 h1 => ?_
 have f1 := zgv _ _ h1
 try simp only [en.down] at f1
 rcases v2 with y3 | y4
 ·dsimp only
  rintro ⟨⟩
  exact fF q23
 dsimp only
 rintro ⟨⟩
 exact fF q23
theorem qtn {i n s r} (h : qdi i n s = some r) : O.call 5 [v_g (T.zf.enc i),v_i n,v_s s] [] = some (v_b r,[]) := by
 revert h; unfold qdi
 refine xy ?_ (fun h1 h4 => ?_)
 ·rintro (⟨h1,h4⟩ | ⟨h1,h4⟩)
  all_goals
  refine bs fun v3 h2 => ?_
  have f1 := qa5 h2
  try simp only [en.down] at f1
  rintro ⟨⟩
  exact fF fn5
 refine bs fun v8 h7 => ?_
 have f2 := zbd h7
 try simp only [en.down] at f2
 refine bs fun v10 h9 => ?_
 have f3 := z5p h9
 try simp only [en.down] at f3
 apply it <;> intro h11
 ·refine bs fun v13 h12 => ?_
  have f4 := qhg h12
  try simp only [en.down] at f4
  apply it <;> intro h14
  ·try simp only [h11] at f2 f3 f4
   rintro ⟨⟩
   exact fF fn5
  apply it <;> intro h15
  ·refine bs fun v17 h16 => ?_
   have f5 := qhg h16
   try simp only [en.down] at f5
   apply it <;> intro h18
   ·try simp only [h11,h15] at f2 f3 f4 f5
    rintro ⟨⟩
    exact fF fn5
   refine bs fun v20 h19 => ?_
   have f6 := qa5 h19
   try simp only [en.down] at f6
   try simp only [h11,h15] at f2 f3 f4 f5 f6
   rintro ⟨⟩
   exact fF fn5
  refine bs fun v22 h21 => ?_
  have f7 := qa5 h21
  try simp only [en.down] at f7
  try simp only [h11,h15] at f2 f3 f4 f7
  rintro ⟨⟩
  exact fF fn5
 apply it <;> intro h23
 ·refine bs fun v25 h24 => ?_
  have f8 := qhg h24
  try simp only [en.down] at f8
  apply it <;> intro h26
  ·try simp only [h11,h23] at f2 f3 f8
   rintro ⟨⟩
   exact fF fn5
  refine bs fun v28 h27 => ?_
  have f9 := qa5 h27
  try simp only [en.down] at f9
  try simp only [h11,h23] at f2 f3 f8 f9
  rintro ⟨⟩
  exact fF fn5
 refine bs fun v30 h29 => ?_
 have f10 := qa5 h29
 try simp only [en.down] at f10
 try simp only [h11,h23] at f2 f3 f10
 rintro ⟨⟩
 exact fF fn5
end Go.Proofs.YtdhgdeelagmbpaaGreat
