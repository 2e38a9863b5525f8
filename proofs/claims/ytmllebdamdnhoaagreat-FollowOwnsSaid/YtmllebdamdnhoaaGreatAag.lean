/-
  What the walks look up by class.
-/
import Derived.Test.YtmllebdamdnhoaaGreatAad
import Derived.Test.YtmllebdamdnhoaaGreatAae
import Derived.Test.YtmllebdamdnhoaaGreatAaf
set_option linter.unusedSimpArgs false
set_option linter.unusedVariables false
set_option maxRecDepth 100000
namespace Go.Proofs.YtmllebdamdnhoaaGreat
open Go Go.Gm
theorem aw6_run:O.call 6 [] []=some (.pv (.bool true),[]):=GG (n:=100) (by kernel_rfl)
theorem aw6_ok{r:Bool}(h:aw6=some r):O.call 6 [] []=some (AV.pv (PV.bool r),[]):=by cases h;exact aw6_run
end Go.Proofs.YtmllebdamdnhoaaGreat
set_option maxRecDepth 512
namespace Go.Gm
open Go
theorem gF{G:GP}{f:FuncId}{S:nI}{nt:Nat}{ob:Option Code}{ra:Array ResultVar}[Z4:zM G f ⟨nt,ra.toList,ob.get!⟩]{c:Code}{rs:List ResultVar}{H:qn}{args:List AV}{r:Option (AV×qn)}
  (hs:S.call f=none:=by rfl) (hc:ob=some c:=by rfl) (hr:ra=⟨rs⟩:=by rfl) (hk:yV 0 H=true:=by rfl)
  (h:WN G f H.length rs (cont G (omega G S) f [.code c] (.normal,⟨pJ 0 args,H,H.length⟩))=r):
  (omega G S).call f args H=r:=TK hs Z4.h hc hr hk h
theorem gL{G:GP}{f:FuncId}{S:nI}{fi:FI}[Z4:zM G f fi]{id:Nat}{c:Code}{s:St}{r:Option (Ex×St)}
  (hc:zv fi.body id=some c:=by rfl)
  (h:dy G (omega G S) f id s.nx (cont G (omega G S) f [.code c] (.normal,s))=r):
  (omega G S).loop f id s=r:=TM Z4.h hc h
theorem gW{P:Prop}(h:P:=by
 intro r
 (try dsimp only)
 repeat' (first
  |(with_reducible refine iA ?_ ?_<;>(intro c;(try simp only[List.length_append,List.length_cons,List.length_nil,List.length_map,List.length_set,List.length_replicate,Nat.add_zero,Nat.zero_add,Nat.reduceAdd,List.isEmpty_iff,Option.isNone_iff_eq_none, *]at c)))
  |(with_reducible refine iO ?_ ?_<;>(intro c;(try simp only[List.length_append,List.length_cons,List.length_nil,List.length_map,List.length_set,List.length_replicate,Nat.add_zero,Nat.zero_add,Nat.reduceAdd,List.isEmpty_iff,Option.isNone_iff_eq_none, *]at c)))
  |(with_reducible refine it ?_ ?_<;>(intro c;(try simp only[List.length_append,List.length_cons,List.length_nil,List.length_map,List.length_set,List.length_replicate,Nat.add_zero,Nat.zero_add,Nat.reduceAdd,List.isEmpty_iff,Option.isNone_iff_eq_none, *]at c)))
  |(with_reducible refine gd fun c=>?_;(try simp only[go_sem,Nat.reduceLeDiff,Nat.reduceEqDiff,Nat.reduceLT,Nat.reduceAdd,Nat.reduceSub,Nat.reduceMul,Nat.reducePow,UInt8.reduceToNat,Int.reduceLT,Int.reduceLE,Int.reduceGT,Int.reduceGE,Int.reduceEq,Int.reduceNe,Int.reduceBEq,Int.reduceBNe,Int.reduceToNat, *]at c))
  |(with_reducible refine wgO fun _ _ f1 f2 f3 f4 f5 f6 f7=>?_;(try simp only[go_sem,Nat.reduceLeDiff,Nat.reduceEqDiff,Nat.reduceLT,Nat.reduceAdd,Nat.reduceSub,Nat.reduceMul,Nat.reducePow,UInt8.reduceToNat,Int.reduceLT,Int.reduceLE,Int.reduceGT,Int.reduceGE,Int.reduceEq,Int.reduceNe,Int.reduceBEq,Int.reduceBNe,Int.reduceToNat]at f1 f2 f3 f4 f5 f6 f7))
  |(with_reducible refine wgV fun _ _ f1 f2 f3 f4=>?_;(try simp only[go_sem,Nat.reduceLeDiff,Nat.reduceEqDiff,Nat.reduceLT,Nat.reduceAdd,Nat.reduceSub,Nat.reduceMul,Nat.reducePow,UInt8.reduceToNat,Int.reduceLT,Int.reduceLE,Int.reduceGT,Int.reduceGE,Int.reduceEq,Int.reduceNe,Int.reduceBEq,Int.reduceBNe,Int.reduceToNat]at f1 f2))
  |(with_reducible refine wg fun _ _ f1 f2 f3 f4 f5 f6=>?_;(try simp only[go_sem,Nat.reduceLeDiff,Nat.reduceEqDiff,Nat.reduceLT,Nat.reduceAdd,Nat.reduceSub,Nat.reduceMul,Nat.reducePow,UInt8.reduceToNat,Int.reduceLT,Int.reduceLE,Int.reduceGT,Int.reduceGE,Int.reduceEq,Int.reduceNe,Int.reduceBEq,Int.reduceBNe,Int.reduceToNat]at f1 f2 f3 f4 f5 f6))
  |(with_reducible refine w2 fun _ _ f1 f2 f3 f4 f5 f6 f7=>?_;(try simp only[go_sem,Nat.reduceLeDiff,Nat.reduceEqDiff,Nat.reduceLT,Nat.reduceAdd,Nat.reduceSub,Nat.reduceMul,Nat.reducePow,UInt8.reduceToNat,Int.reduceLT,Int.reduceLE,Int.reduceGT,Int.reduceGE,Int.reduceEq,Int.reduceNe,Int.reduceBEq,Int.reduceBNe,Int.reduceToNat]at f1 f2 f3 f4 f5 f6 f7))
  |(with_reducible refine wF fun _ _ f1 f2 f3 f4 f5=>?_;(try simp only[go_sem,Nat.reduceLeDiff,Nat.reduceEqDiff,Nat.reduceLT,Nat.reduceAdd,Nat.reduceSub,Nat.reduceMul,Nat.reducePow,UInt8.reduceToNat,Int.reduceLT,Int.reduceLE,Int.reduceGT,Int.reduceGE,Int.reduceEq,Int.reduceNe,Int.reduceBEq,Int.reduceBNe,Int.reduceToNat]at f1 f2 f3 f4 f5))
  |(with_reducible refine wT fun _ _ f1 f2 f3 f4 f5 f6=>?_;(try simp only[go_sem,Nat.reduceLeDiff,Nat.reduceEqDiff,Nat.reduceLT,Nat.reduceAdd,Nat.reduceSub,Nat.reduceMul,Nat.reducePow,UInt8.reduceToNat,Int.reduceLT,Int.reduceLE,Int.reduceGT,Int.reduceGE,Int.reduceEq,Int.reduceNe,Int.reduceBEq,Int.reduceBNe,Int.reduceToNat]at f1 f2 f3 f4 f5 f6))
  |(with_reducible refine bsS4 ?_ ?_ ?_ ?_<;>(intro y h;have q:=ze.ok _ h;clear h;(try simp only[go_sem,Nat.reduceLeDiff,Nat.reduceEqDiff,Nat.reduceLT,Nat.reduceAdd,Nat.reduceSub,Nat.reduceMul,Nat.reducePow,UInt8.reduceToNat,Int.reduceLT,Int.reduceLE,Int.reduceGT,Int.reduceGE,Int.reduceEq,Int.reduceNe,Int.reduceBEq,Int.reduceBNe,Int.reduceToNat]at q);(try (have q1:=And.left q;replace q:=And.right q));dsimp only))
  |(with_reducible refine bsS3 ?_ ?_ ?_<;>(intro y h;have q:=ze.ok _ h;clear h;(try simp only[go_sem,Nat.reduceLeDiff,Nat.reduceEqDiff,Nat.reduceLT,Nat.reduceAdd,Nat.reduceSub,Nat.reduceMul,Nat.reducePow,UInt8.reduceToNat,Int.reduceLT,Int.reduceLE,Int.reduceGT,Int.reduceGE,Int.reduceEq,Int.reduceNe,Int.reduceBEq,Int.reduceBNe,Int.reduceToNat]at q);(try (have q1:=And.left q;replace q:=And.right q));dsimp only))
  |(with_reducible refine bsS ?_ ?_<;>(intro y h;have q:=ze.ok _ h;clear h;(try simp only[go_sem,Nat.reduceLeDiff,Nat.reduceEqDiff,Nat.reduceLT,Nat.reduceAdd,Nat.reduceSub,Nat.reduceMul,Nat.reducePow,UInt8.reduceToNat,Int.reduceLT,Int.reduceLE,Int.reduceGT,Int.reduceGE,Int.reduceEq,Int.reduceNe,Int.reduceBEq,Int.reduceBNe,Int.reduceToNat]at q);(try (have q1:=And.left q;replace q:=And.right q));dsimp only))
  |(with_reducible refine bs fun v h=>?_;have q:=ze.ok _ h;clear h;(try simp only[go_sem,Nat.reduceLeDiff,Nat.reduceEqDiff,Nat.reduceLT,Nat.reduceAdd,Nat.reduceSub,Nat.reduceMul,Nat.reducePow,UInt8.reduceToNat,Int.reduceLT,Int.reduceLE,Int.reduceGT,Int.reduceGE,Int.reduceEq,Int.reduceNe,Int.reduceBEq,Int.reduceBNe,Int.reduceToNat]at q);(try (have q1:=And.left q;replace q:=And.right q)))
  |(with_reducible refine bs fun v h=>?_))
 all_goals (first|rintro⟨⟩|(intro h;have q:=ze.ok _ h;clear h;(try simp only[go_sem,Nat.reduceLeDiff,Nat.reduceEqDiff,Nat.reduceLT,Nat.reduceAdd,Nat.reduceSub,Nat.reduceMul,Nat.reducePow,UInt8.reduceToNat,Int.reduceLT,Int.reduceLE,Int.reduceGT,Int.reduceGE,Int.reduceEq,Int.reduceNe,Int.reduceBEq,Int.reduceBNe,Int.reduceToNat]at q);(try (have q1:=And.left q;replace q:=And.right q))))
 all_goals (first|((first|refine gL (h:=?_)|refine gF (h:=?_));simp(maxSteps:=2000000) (disch:=first|assumption|rfl|exact FT.mk (by kernel_rfl)|(refine Fit.mk ?_;(try simp only[List.length_append,List.length_map,List.length_set,List.length_cons,List.length_nil]);omega)|(simp only[*,Bool.and_true,Bool.and_false,Bool.true_and,Bool.false_and];done)|decide) only[go_sem,Nat.reduceLeDiff,Nat.reduceEqDiff,Nat.reduceLT,Nat.reduceAdd,Nat.reduceSub,Nat.reduceMul,Nat.reducePow,UInt8.reduceToNat,Int.reduceLT,Int.reduceLE,Int.reduceGT,Int.reduceGE,Int.reduceEq,Int.reduceNe,Int.reduceBEq,Int.reduceBNe,Int.reduceToNat,↓reduceIte,reduceCtorEq, *];done)|(
  (repeat (rename ((_:Option (Go.Gm.AV×Go.Gm.qn))=_)=>q;revert q))
  (repeat (rename ((_:Option (Go.Gm.Ex×Go.Gm.St))=_)=>q;revert q))
  (try simp only[go_sem,Nat.reduceLeDiff,Nat.reduceEqDiff,Nat.reduceLT,Nat.reduceAdd,Nat.reduceSub,Nat.reduceMul,Nat.reducePow,UInt8.reduceToNat,Int.reduceLT,Int.reduceLE,Int.reduceGT,Int.reduceGE,Int.reduceEq,Int.reduceNe,Int.reduceBEq,Int.reduceBNe,Int.reduceToNat, *])
  intros
  (first|refine gL (h:=?_)|refine gF (h:=?_))
  simp(maxSteps:=2000000) (disch:=first|assumption|rfl|exact FT.mk (by kernel_rfl)|(refine Fit.mk ?_;(try simp only[List.length_append,List.length_map,List.length_set,List.length_cons,List.length_nil]);omega)|(simp only[*,Bool.and_true,Bool.and_false,Bool.true_and,Bool.false_and];done)|decide) only[go_sem,Nat.reduceLeDiff,Nat.reduceEqDiff,Nat.reduceLT,Nat.reduceAdd,Nat.reduceSub,Nat.reduceMul,Nat.reducePow,UInt8.reduceToNat,Int.reduceLT,Int.reduceLE,Int.reduceGT,Int.reduceGE,Int.reduceEq,Int.reduceNe,Int.reduceBEq,Int.reduceBNe,Int.reduceToNat,↓reduceIte,reduceCtorEq, *];done)|(
  (repeat (rename ((_:Option (Go.Gm.AV×Go.Gm.qn))=_)=>q;clear q))
  (repeat (rename ((_:Option (Go.Gm.Ex×Go.Gm.St))=_)=>q;clear q))
  exfalso
  simp_all))):P:=h
end Go.Gm
set_option maxRecDepth 100000
namespace Go.Proofs.YtmllebdamdnhoaaGreat
open Go Go.Gm
instance:kY ql 2 ql.enc:=⟨trivial⟩
instance:kY qx 2 qx.enc:=⟨trivial⟩
instance:kY qT 2 qT.enc:=⟨trivial⟩
instance:kY qE 8 qE.enc:=⟨trivial⟩
instance:kY zl 5 zl.enc:=⟨trivial⟩
instance:kY zf 11 zf.enc:=⟨trivial⟩
instance:kY qu 18 qu.enc:=⟨trivial⟩
instance:kY qw 3 qw.enc:=⟨trivial⟩
instance:kY qc 2 qc.enc:=⟨trivial⟩
instance:kY qr 3 qr.enc:=⟨trivial⟩
instance:kY qo 3 qo.enc:=⟨trivial⟩
instance:kY gy 7 gy.enc:=⟨trivial⟩
instance:kY qt 2 qt.enc:=⟨trivial⟩
instance:kY zn 6 zn.enc:=⟨trivial⟩
instance:kY xd 2 xd.enc:=⟨trivial⟩
instance:kY xc 3 xc.enc:=⟨trivial⟩
instance:kY jt 3 jt.enc:=⟨trivial⟩
instance:kY zz 4 zz.enc:=⟨trivial⟩
instance:kY qA 18 qA.enc:=⟨trivial⟩
instance:kY zu 3 zu.enc:=⟨trivial⟩
instance:kY jY 6 jY.enc:=⟨trivial⟩
instance:kY ju 3 ju.enc:=⟨trivial⟩
instance:kY qU 4 qU.enc:=⟨trivial⟩
instance:kY qb 20 qb.enc:=⟨trivial⟩
instance:kY zH 6 zH.enc:=⟨trivial⟩
instance:kY zG 2 zG.enc:=⟨trivial⟩
instance:kY qM 11 qM.enc:=⟨trivial⟩
instance:kY kP 17 kP.enc:=⟨trivial⟩
instance:kY qh 3 qh.enc:=⟨trivial⟩
instance:kY qd 2 qd.enc:=⟨trivial⟩
instance:kY qz 3 qz.enc:=⟨trivial⟩
instance:kY qf 5 qf.enc:=⟨trivial⟩
instance:kY qe 13 qe.enc:=⟨trivial⟩
instance:VV ql (fun x=>o5 (ql.enc x)):=⟨trivial⟩
instance:VV qx (fun x=>o5 (qx.enc x)):=⟨trivial⟩
instance:VV qT (fun x=>o5 (qT.enc x)):=⟨trivial⟩
instance:VV qE (fun x=>o5 (qE.enc x)):=⟨trivial⟩
instance:VV zl (fun x=>o5 (zl.enc x)):=⟨trivial⟩
instance:VV zf (fun x=>o5 (zf.enc x)):=⟨trivial⟩
instance:VV qu (fun x=>o5 (qu.enc x)):=⟨trivial⟩
instance:VV qw (fun x=>o5 (qw.enc x)):=⟨trivial⟩
instance:VV qc (fun x=>o5 (qc.enc x)):=⟨trivial⟩
instance:VV qr (fun x=>o5 (qr.enc x)):=⟨trivial⟩
instance:VV qo (fun x=>o5 (qo.enc x)):=⟨trivial⟩
instance:VV gy (fun x=>o5 (gy.enc x)):=⟨trivial⟩
instance:VV qt (fun x=>o5 (qt.enc x)):=⟨trivial⟩
instance:VV zn (fun x=>o5 (zn.enc x)):=⟨trivial⟩
instance:VV xd (fun x=>o5 (xd.enc x)):=⟨trivial⟩
instance:VV xc (fun x=>o5 (xc.enc x)):=⟨trivial⟩
instance:VV jt (fun x=>o5 (jt.enc x)):=⟨trivial⟩
instance:VV zz (fun x=>o5 (zz.enc x)):=⟨trivial⟩
instance:VV qA (fun x=>o5 (qA.enc x)):=⟨trivial⟩
instance:VV zu (fun x=>o5 (zu.enc x)):=⟨trivial⟩
instance:VV jY (fun x=>o5 (jY.enc x)):=⟨trivial⟩
instance:VV ju (fun x=>o5 (ju.enc x)):=⟨trivial⟩
instance:VV qU (fun x=>o5 (qU.enc x)):=⟨trivial⟩
instance:VV qb (fun x=>o5 (qb.enc x)):=⟨trivial⟩
instance:VV zH (fun x=>o5 (zH.enc x)):=⟨trivial⟩
instance:VV zG (fun x=>o5 (zG.enc x)):=⟨trivial⟩
instance:VV qM (fun x=>o5 (qM.enc x)):=⟨trivial⟩
instance:VV kP (fun x=>o5 (kP.enc x)):=⟨trivial⟩
instance:VV qh (fun x=>o5 (qh.enc x)):=⟨trivial⟩
instance:VV qd (fun x=>o5 (qd.enc x)):=⟨trivial⟩
instance:VV qz (fun x=>o5 (qz.enc x)):=⟨trivial⟩
instance:VV qf (fun x=>o5 (qf.enc x)):=⟨trivial⟩
instance:VV qe (fun x=>o5 (qe.enc x)):=⟨trivial⟩
instance:ze (aw6) (fun r=>O.call 6 [] []=some (zt r,[])):=⟨fun r=>aw6_ok (r:=r)⟩
end Go.Proofs.YtmllebdamdnhoaaGreat
