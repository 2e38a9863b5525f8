/-
  What the walks look up by class.
-/
import Derived.Test.YtnojdepmnnebnaaGreatQad
import Derived.Test.YtnojdepmnnebnaaGreatQae
set_option linter.unusedSimpArgs false
set_option linter.unusedVariables false
set_option maxRecDepth 100000
namespace Go.Proofs.YtnojdepmnnebnaaGreat
open Go Go.Gm
theorem aw5_run:O.call 5 [] []=some (.pv (.bool true),[]):=NZ (n:=100) k?
theorem aw5_ok{r:Bool}(h:aw5=some r):O.call 5 [] []=some (AV.pv (PV.bool r),[]):=by cases h;exact aw5_run
end Go.Proofs.YtnojdepmnnebnaaGreat
set_option maxRecDepth 512
namespace Go.Gm
open Go
theorem gF{G:GP}{f:FuncId}{S:pj}{nt:Nat}{ra:Array ResultVar}{c:Code}{rs:List ResultVar}{H:qr}{args:List AV}{r:Option (AV×qr)}
  (XP:G.fn f=some ⟨nt,ra.toList,c⟩:=by rfl) (hs:S.call f=none:=by rfl) (hr:ra=⟨rs⟩:=by rfl) (hk:uL 0 H=true:=by rfl)
  (h:Yx G f H.length rs (cont G (omega G S) f [.code c] (.normal,⟨rK 0 args,H,H.length⟩))=r):
  (omega G S).call f args H=r:=Co (ob:=some c) hs XP rfl hr hk h
theorem gL{G:GP}{f:FuncId}{S:pj}{fi:FI}{id:Nat}{c:Code}{s:St}{r:Option (Ex×St)}
  (XP:G.fn f=some fi:=by rfl) (hc:zH fi.body id=some c:=by rfl)
  (h:ak G (omega G S) f id s.nx (cont G (omega G S) f [.code c] (.normal,s))=r):
  (omega G S).loop f id s=r:=Cp XP hc h
theorem gW{P:Prop}(h:P:=by
 intro r
 (try dsimp only)
 repeat' (first
  |(with_reducible refine iA ?_ ?_<;>(intro c;(try simp only[List.length_append,List.length_cons,List.length_nil,List.length_map,List.length_set,List.length_replicate,Nat.add_zero,Nat.zero_add,Nat.reduceAdd,List.isEmpty_iff,Option.isNone_iff_eq_none, *]at c)))
  |(with_reducible refine iO ?_ ?_<;>(intro c;(try simp only[List.length_append,List.length_cons,List.length_nil,List.length_map,List.length_set,List.length_replicate,Nat.add_zero,Nat.zero_add,Nat.reduceAdd,List.isEmpty_iff,Option.isNone_iff_eq_none, *]at c)))
  |(with_reducible refine it ?_ ?_<;>(intro c;(try simp only[List.length_append,List.length_cons,List.length_nil,List.length_map,List.length_set,List.length_replicate,Nat.add_zero,Nat.zero_add,Nat.reduceAdd,List.isEmpty_iff,Option.isNone_iff_eq_none, *]at c)))
  |(with_reducible refine gd fun c=>?_;(try simp only[go_sem,Nat.reduceLeDiff,Nat.reduceEqDiff,Nat.reduceLT,Nat.reduceAdd,Nat.reduceSub,Nat.reduceMul,Nat.reducePow,UInt8.reduceToNat,Int.reduceLT,Int.reduceLE,Int.reduceGT,Int.reduceGE,Int.reduceEq,Int.reduceNe,Int.reduceBEq,Int.reduceBNe,Int.reduceToNat, *]at c))
  |(with_reducible refine wgO fun _ _ f1 f2 f3 f4 f5 f6 f7=>?_;(try simp only[go_sem,Nat.reduceLeDiff,Nat.reduceEqDiff,Nat.reduceLT,Nat.reduceAdd,Nat.reduceSub,Nat.reduceMul,Nat.reducePow,UInt8.reduceToNat,Int.reduceLT,Int.reduceLE,Int.reduceGT,Int.reduceGE,Int.reduceEq,Int.reduceNe,Int.reduceBEq,Int.reduceBNe,Int.reduceToNat]at f1 f2 f3 f4 f5 f6 f7))
  |(with_reducible refine wgV fun _ _ f1 f2 f3 f4=>?_;(try simp only[go_sem,Nat.reduceLeDiff,Nat.reduceEqDiff,Nat.reduceLT,Nat.reduceAdd,Nat.reduceSub,Nat.reduceMul,Nat.reducePow,UInt8.reduceToNat,Int.reduceLT,Int.reduceLE,Int.reduceGT,Int.reduceGE,Int.reduceEq,Int.reduceNe,Int.reduceBEq,Int.reduceBNe,Int.reduceToNat]at f1 f2 f4))
  |(with_reducible refine wg fun _ _ f1 f2 f3 f4 f5 f6=>?_;(try simp only[go_sem,Nat.reduceLeDiff,Nat.reduceEqDiff,Nat.reduceLT,Nat.reduceAdd,Nat.reduceSub,Nat.reduceMul,Nat.reducePow,UInt8.reduceToNat,Int.reduceLT,Int.reduceLE,Int.reduceGT,Int.reduceGE,Int.reduceEq,Int.reduceNe,Int.reduceBEq,Int.reduceBNe,Int.reduceToNat]at f1 f2 f3 f4 f5 f6))
  |(with_reducible refine w2 fun _ _ f1 f2 f3 f4 f5 f6 f7=>?_;(try simp only[go_sem,Nat.reduceLeDiff,Nat.reduceEqDiff,Nat.reduceLT,Nat.reduceAdd,Nat.reduceSub,Nat.reduceMul,Nat.reducePow,UInt8.reduceToNat,Int.reduceLT,Int.reduceLE,Int.reduceGT,Int.reduceGE,Int.reduceEq,Int.reduceNe,Int.reduceBEq,Int.reduceBNe,Int.reduceToNat]at f1 f2 f3 f4 f5 f6 f7))
  |(with_reducible refine wF fun _ _ f1 f2 f3 f4 f5=>?_;(try simp only[go_sem,Nat.reduceLeDiff,Nat.reduceEqDiff,Nat.reduceLT,Nat.reduceAdd,Nat.reduceSub,Nat.reduceMul,Nat.reducePow,UInt8.reduceToNat,Int.reduceLT,Int.reduceLE,Int.reduceGT,Int.reduceGE,Int.reduceEq,Int.reduceNe,Int.reduceBEq,Int.reduceBNe,Int.reduceToNat]at f1 f2 f3 f4 f5))
  |(with_reducible refine wT fun _ _ f1 f2 f3 f4 f5 f6=>?_;(try simp only[go_sem,Nat.reduceLeDiff,Nat.reduceEqDiff,Nat.reduceLT,Nat.reduceAdd,Nat.reduceSub,Nat.reduceMul,Nat.reducePow,UInt8.reduceToNat,Int.reduceLT,Int.reduceLE,Int.reduceGT,Int.reduceGE,Int.reduceEq,Int.reduceNe,Int.reduceBEq,Int.reduceBNe,Int.reduceToNat]at f1 f2 f3 f4 f5 f6))
  |(with_reducible refine bsS4 ?_ ?_ ?_ ?_<;>(intro y h;have q:=zf.ok _ h;clear h;(try simp only[go_sem,Nat.reduceLeDiff,Nat.reduceEqDiff,Nat.reduceLT,Nat.reduceAdd,Nat.reduceSub,Nat.reduceMul,Nat.reducePow,UInt8.reduceToNat,Int.reduceLT,Int.reduceLE,Int.reduceGT,Int.reduceGE,Int.reduceEq,Int.reduceNe,Int.reduceBEq,Int.reduceBNe,Int.reduceToNat]at q);(try (have q1:=And.left q;replace q:=And.right q));dsimp only))
  |(with_reducible refine bsS3 ?_ ?_ ?_<;>(intro y h;have q:=zf.ok _ h;clear h;(try simp only[go_sem,Nat.reduceLeDiff,Nat.reduceEqDiff,Nat.reduceLT,Nat.reduceAdd,Nat.reduceSub,Nat.reduceMul,Nat.reducePow,UInt8.reduceToNat,Int.reduceLT,Int.reduceLE,Int.reduceGT,Int.reduceGE,Int.reduceEq,Int.reduceNe,Int.reduceBEq,Int.reduceBNe,Int.reduceToNat]at q);(try (have q1:=And.left q;replace q:=And.right q));dsimp only))
  |(with_reducible refine bsS ?_ ?_<;>(intro y h;have q:=zf.ok _ h;clear h;(try simp only[go_sem,Nat.reduceLeDiff,Nat.reduceEqDiff,Nat.reduceLT,Nat.reduceAdd,Nat.reduceSub,Nat.reduceMul,Nat.reducePow,UInt8.reduceToNat,Int.reduceLT,Int.reduceLE,Int.reduceGT,Int.reduceGE,Int.reduceEq,Int.reduceNe,Int.reduceBEq,Int.reduceBNe,Int.reduceToNat]at q);(try (have q1:=And.left q;replace q:=And.right q));dsimp only))
  |(with_reducible refine bs fun v h=>?_;have q:=zf.ok _ h;clear h;(try simp only[go_sem,Nat.reduceLeDiff,Nat.reduceEqDiff,Nat.reduceLT,Nat.reduceAdd,Nat.reduceSub,Nat.reduceMul,Nat.reducePow,UInt8.reduceToNat,Int.reduceLT,Int.reduceLE,Int.reduceGT,Int.reduceGE,Int.reduceEq,Int.reduceNe,Int.reduceBEq,Int.reduceBNe,Int.reduceToNat]at q);(try (have q1:=And.left q;replace q:=And.right q)))
  |(with_reducible refine bs fun v h=>?_))
 all_goals (first|rintro⟨⟩|(intro h;have q:=zf.ok _ h;clear h;(try simp only[go_sem,Nat.reduceLeDiff,Nat.reduceEqDiff,Nat.reduceLT,Nat.reduceAdd,Nat.reduceSub,Nat.reduceMul,Nat.reducePow,UInt8.reduceToNat,Int.reduceLT,Int.reduceLE,Int.reduceGT,Int.reduceGE,Int.reduceEq,Int.reduceNe,Int.reduceBEq,Int.reduceBNe,Int.reduceToNat]at q);(try (have q1:=And.left q;replace q:=And.right q))))
 all_goals (first|((first|refine gL (h:=?_)|refine gF (h:=?_));simp(maxSteps:=2000000) (disch:=first|assumption|rfl|exact O3.mk (by kernel_rfl)|(refine Fit.mk ?_;(try simp only[List.length_append,List.length_map,List.length_set,List.length_cons,List.length_nil]);omega)|(simp only[*,Bool.and_true,Bool.and_false,Bool.true_and,Bool.false_and];done)|decide) only[go_sem,Nat.reduceLeDiff,Nat.reduceEqDiff,Nat.reduceLT,Nat.reduceAdd,Nat.reduceSub,Nat.reduceMul,Nat.reducePow,UInt8.reduceToNat,Int.reduceLT,Int.reduceLE,Int.reduceGT,Int.reduceGE,Int.reduceEq,Int.reduceNe,Int.reduceBEq,Int.reduceBNe,Int.reduceToNat,↓reduceIte,reduceCtorEq, *];done)|(
  (repeat (rename ((_:Option (Go.Gm.AV×Go.Gm.qr))=_)=>q;revert q))
  (repeat (rename ((_:Option (Go.Gm.Ex×Go.Gm.St))=_)=>q;revert q))
  (try simp only[go_sem,Nat.reduceLeDiff,Nat.reduceEqDiff,Nat.reduceLT,Nat.reduceAdd,Nat.reduceSub,Nat.reduceMul,Nat.reducePow,UInt8.reduceToNat,Int.reduceLT,Int.reduceLE,Int.reduceGT,Int.reduceGE,Int.reduceEq,Int.reduceNe,Int.reduceBEq,Int.reduceBNe,Int.reduceToNat, *])
  intros
  (first|refine gL (h:=?_)|refine gF (h:=?_))
  simp(maxSteps:=2000000) (disch:=first|assumption|rfl|exact O3.mk (by kernel_rfl)|(refine Fit.mk ?_;(try simp only[List.length_append,List.length_map,List.length_set,List.length_cons,List.length_nil]);omega)|(simp only[*,Bool.and_true,Bool.and_false,Bool.true_and,Bool.false_and];done)|decide) only[go_sem,Nat.reduceLeDiff,Nat.reduceEqDiff,Nat.reduceLT,Nat.reduceAdd,Nat.reduceSub,Nat.reduceMul,Nat.reducePow,UInt8.reduceToNat,Int.reduceLT,Int.reduceLE,Int.reduceGT,Int.reduceGE,Int.reduceEq,Int.reduceNe,Int.reduceBEq,Int.reduceBNe,Int.reduceToNat,↓reduceIte,reduceCtorEq, *];done)|(
  (repeat (rename ((_:Option (Go.Gm.AV×Go.Gm.qr))=_)=>q;clear q))
  (repeat (rename ((_:Option (Go.Gm.Ex×Go.Gm.St))=_)=>q;clear q))
  exfalso
  simp_all))):P:=h
end Go.Gm
set_option maxRecDepth 100000
namespace Go.Proofs.YtnojdepmnnebnaaGreat
open Go Go.Gm
instance:wx qn 2 qn.enc:=⟨trivial⟩
instance:wx ql 3 ql.enc:=⟨trivial⟩
instance:wx qy 2 qy.enc:=⟨trivial⟩
instance:wx qV 2 qV.enc:=⟨trivial⟩
instance:wx qG 8 qG.enc:=⟨trivial⟩
instance:wx zt 5 zt.enc:=⟨trivial⟩
instance:wx zn 11 zn.enc:=⟨trivial⟩
instance:wx qq 18 qq.enc:=⟨trivial⟩
instance:wx qj 3 qj.enc:=⟨trivial⟩
instance:wx qb 2 qb.enc:=⟨trivial⟩
instance:wx qv 3 qv.enc:=⟨trivial⟩
instance:wx bO 7 bO.enc:=⟨trivial⟩
instance:wx qw 2 qw.enc:=⟨trivial⟩
instance:wx zy 6 zy.enc:=⟨trivial⟩
instance:wx qN 2 qN.enc:=⟨trivial⟩
instance:wx zh 3 zh.enc:=⟨trivial⟩
instance:wx zK 6 zK.enc:=⟨trivial⟩
instance:wx jG 3 jG.enc:=⟨trivial⟩
instance:wx zP 4 zP.enc:=⟨trivial⟩
instance:wx qD 18 qD.enc:=⟨trivial⟩
instance:wx zG 3 zG.enc:=⟨trivial⟩
instance:wx jH 3 jH.enc:=⟨trivial⟩
instance:wx qW 4 qW.enc:=⟨trivial⟩
instance:wx qc 20 qc.enc:=⟨trivial⟩
instance:wx zX 6 zX.enc:=⟨trivial⟩
instance:wx zW 2 zW.enc:=⟨trivial⟩
instance:wx qP 11 qP.enc:=⟨trivial⟩
instance:wx wk 17 wk.enc:=⟨trivial⟩
instance:wx qk 3 qk.enc:=⟨trivial⟩
instance:wx qd 2 qd.enc:=⟨trivial⟩
instance:wx qC 3 qC.enc:=⟨trivial⟩
instance:wx qf 5 qf.enc:=⟨trivial⟩
instance:wx qe 13 qe.enc:=⟨trivial⟩
instance:VV qn (fun x=>Qa (qn.enc x)):=⟨trivial⟩
instance:VV ql (fun x=>Qa (ql.enc x)):=⟨trivial⟩
instance:VV qy (fun x=>Qa (qy.enc x)):=⟨trivial⟩
instance:VV qV (fun x=>Qa (qV.enc x)):=⟨trivial⟩
instance:VV qG (fun x=>Qa (qG.enc x)):=⟨trivial⟩
instance:VV zt (fun x=>Qa (zt.enc x)):=⟨trivial⟩
instance:VV zn (fun x=>Qa (zn.enc x)):=⟨trivial⟩
instance:VV qq (fun x=>Qa (qq.enc x)):=⟨trivial⟩
instance:VV qj (fun x=>Qa (qj.enc x)):=⟨trivial⟩
instance:VV qb (fun x=>Qa (qb.enc x)):=⟨trivial⟩
instance:VV qv (fun x=>Qa (qv.enc x)):=⟨trivial⟩
instance:VV bO (fun x=>Qa (bO.enc x)):=⟨trivial⟩
instance:VV qw (fun x=>Qa (qw.enc x)):=⟨trivial⟩
instance:VV zy (fun x=>Qa (zy.enc x)):=⟨trivial⟩
instance:VV qN (fun x=>Qa (qN.enc x)):=⟨trivial⟩
instance:VV zh (fun x=>Qa (zh.enc x)):=⟨trivial⟩
instance:VV zK (fun x=>Qa (zK.enc x)):=⟨trivial⟩
instance:VV jG (fun x=>Qa (jG.enc x)):=⟨trivial⟩
instance:VV zP (fun x=>Qa (zP.enc x)):=⟨trivial⟩
instance:VV qD (fun x=>Qa (qD.enc x)):=⟨trivial⟩
instance:VV zG (fun x=>Qa (zG.enc x)):=⟨trivial⟩
instance:VV jH (fun x=>Qa (jH.enc x)):=⟨trivial⟩
instance:VV qW (fun x=>Qa (qW.enc x)):=⟨trivial⟩
instance:VV qc (fun x=>Qa (qc.enc x)):=⟨trivial⟩
instance:VV zX (fun x=>Qa (zX.enc x)):=⟨trivial⟩
instance:VV zW (fun x=>Qa (zW.enc x)):=⟨trivial⟩
instance:VV qP (fun x=>Qa (qP.enc x)):=⟨trivial⟩
instance:VV wk (fun x=>Qa (wk.enc x)):=⟨trivial⟩
instance:VV qk (fun x=>Qa (qk.enc x)):=⟨trivial⟩
instance:VV qd (fun x=>Qa (qd.enc x)):=⟨trivial⟩
instance:VV qC (fun x=>Qa (qC.enc x)):=⟨trivial⟩
instance:VV qf (fun x=>Qa (qf.enc x)):=⟨trivial⟩
instance:VV qe (fun x=>Qa (qe.enc x)):=⟨trivial⟩
instance:zf (aw5) (fun r=>O.call 5 [] []=some (zu r,[])):=⟨fun r=>aw5_ok (r:=r)⟩
end Go.Proofs.YtnojdepmnnebnaaGreat
