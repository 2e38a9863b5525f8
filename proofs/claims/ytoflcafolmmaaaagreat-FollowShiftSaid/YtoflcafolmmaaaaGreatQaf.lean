/-
  What the walks look up by class.
-/
import Derived.Test.YtoflcafolmmaaaaGreatQad
import Derived.Test.YtoflcafolmmaaaaGreatQae
set_option linter.unusedSimpArgs false
set_option linter.unusedVariables false
set_option maxRecDepth 100000
namespace Go.Proofs.YtoflcafolmmaaaaGreat
open Go Go.Gm
theorem aw5_run:O.call 5 [] []=some (.pv (.bool true),[]):=Nx (n:=100) k?
theorem aw5_ok{r:Bool}(h:O8=some r):O.call 5 [] []=some (AV.pv (PV.bool r),[]):=by cases h;exact aw5_run
end Go.Proofs.YtoflcafolmmaaaaGreat
set_option maxRecDepth 512
namespace Go.Gm
open Go
theorem gF{G:GP}{f:FuncId}{S:pd}{nt:Nat}{ra:Array ResultVar}{c:Code}{rs:List ResultVar}{H:qp}{args:List AV}{r:Option (AV×qp)}
  (XF:G.fn f=some ⟨nt,ra.toList,c⟩:=by rfl) (hs:S.call f=none:=by rfl) (hr:ra=⟨rs⟩:=by rfl) (hk:uM 0 H=true:=by rfl)
  (h:Ye G f H.length rs (cont G (omega G S) f [.code c] (.normal,⟨rA 0 args,H,H.length⟩))=r):
  (omega G S).call f args H=r:=SY (ob:=some c) hs XF rfl hr hk h
theorem gL{G:GP}{f:FuncId}{S:pd}{fi:FI}{id:Nat}{c:Code}{s:St}{r:Option (Ex×St)}
  (XF:G.fn f=some fi:=by rfl) (hc:zF fi.body id=some c:=by rfl)
  (h:aj G (omega G S) f id s.nx (cont G (omega G S) f [.code c] (.normal,s))=r):
  (omega G S).loop f id s=r:=SZ XF hc h
theorem gW{P:Prop}(h:P:=by
 intro r
 (try dsimp only)
 repeat' (first
  |(with_reducible refine iA ?_ ?_<;>(intro c;(try simp only[List.length_append,List.length_cons,List.length_nil,List.length_map,List.length_set,List.length_replicate,Nat.add_zero,Nat.zero_add,Nat.reduceAdd,List.isEmpty_iff,Option.isNone_iff_eq_none, *]at c)))
  |(with_reducible refine iO ?_ ?_<;>(intro c;(try simp only[List.length_append,List.length_cons,List.length_nil,List.length_map,List.length_set,List.length_replicate,Nat.add_zero,Nat.zero_add,Nat.reduceAdd,List.isEmpty_iff,Option.isNone_iff_eq_none, *]at c)))
  |(with_reducible refine it ?_ ?_<;>(intro c;(try simp only[List.length_append,List.length_cons,List.length_nil,List.length_map,List.length_set,List.length_replicate,Nat.add_zero,Nat.zero_add,Nat.reduceAdd,List.isEmpty_iff,Option.isNone_iff_eq_none, *]at c)))
  |(with_reducible refine gd fun c=>?_;(try simp only[go_sem,Nat.reduceLeDiff,Nat.reduceEqDiff,Nat.reduceLT,Nat.reduceAdd,Nat.reduceSub,Nat.reduceMul,Nat.reducePow,UInt8.reduceToNat,Int.reduceLT,Int.reduceLE,Int.reduceGT,Int.reduceGE,Int.reduceEq,Int.reduceNe,Int.reduceBEq,Int.reduceBNe,Int.reduceToNat, *]at c))
  |(with_reducible refine wgO fun _ _ f1 f2 f3 f4 f5 f6 f7=>?_;(try simp only[go_sem,Nat.reduceLeDiff,Nat.reduceEqDiff,Nat.reduceLT,Nat.reduceAdd,Nat.reduceSub,Nat.reduceMul,Nat.reducePow,UInt8.reduceToNat,Int.reduceLT,Int.reduceLE,Int.reduceGT,Int.reduceGE,Int.reduceEq,Int.reduceNe,Int.reduceBEq,Int.reduceBNe,Int.reduceToNat]at f1 f2 f3 f4 f5 f6 f7))
  |(with_reducible refine wgV fun _ _ f1 f2 f3 f4=>?_;(try simp only[go_sem,Nat.reduceLeDiff,Nat.reduceEqDiff,Nat.reduceLT,Nat.reduceAdd,Nat.reduceSub,Nat.reduceMul,Nat.reducePow,UInt8.reduceToNat,Int.reduceLT,Int.reduceLE,Int.reduceGT,Int.reduceGE,Int.reduceEq,Int.reduceNe,Int.reduceBEq,Int.reduceBNe,Int.reduceToNat]at f1 f2 f4))
  |(with_reducible refine wg fun _ _ f1 f2 f3 f4 f5 f6=>?_;(try simp only[go_sem,Nat.reduceLeDiff,Nat.reduceEqDiff,Nat.reduceLT,Nat.reduceAdd,Nat.reduceSub,Nat.reduceMul,Nat.reducePow,UInt8.reduceToNat,Int.reduceLT,Int.reduceLE,Int.reduceGT,Int.reduceGE,Int.reduceEq,Int.reduceNe,Int.reduceBEq,Int.reduceBNe,Int.reduceToNat]at f1 f2 f3 f4 f5 f6))
  |(with_reducible refine w2 fun _ _ f1 f2 f3 f4 f5 f6 f7=>?_;(try simp only[go_sem,Nat.reduceLeDiff,Nat.reduceEqDiff,Nat.reduceLT,Nat.reduceAdd,Nat.reduceSub,Nat.reduceMul,Nat.reducePow,UInt8.reduceToNat,Int.reduceLT,Int.reduceLE,Int.reduceGT,Int.reduceGE,Int.reduceEq,Int.reduceNe,Int.reduceBEq,Int.reduceBNe,Int.reduceToNat]at f1 f2 f3 f4 f5 f6 f7))
  |(with_reducible refine wF fun _ _ f1 f2 f3 f4 f5=>?_;(try simp only[go_sem,Nat.reduceLeDiff,Nat.reduceEqDiff,Nat.reduceLT,Nat.reduceAdd,Nat.reduceSub,Nat.reduceMul,Nat.reducePow,UInt8.reduceToNat,Int.reduceLT,Int.reduceLE,Int.reduceGT,Int.reduceGE,Int.reduceEq,Int.reduceNe,Int.reduceBEq,Int.reduceBNe,Int.reduceToNat]at f1 f2 f3 f4 f5))
  |(with_reducible refine wT fun _ _ f1 f2 f3 f4 f5 f6=>?_;(try simp only[go_sem,Nat.reduceLeDiff,Nat.reduceEqDiff,Nat.reduceLT,Nat.reduceAdd,Nat.reduceSub,Nat.reduceMul,Nat.reducePow,UInt8.reduceToNat,Int.reduceLT,Int.reduceLE,Int.reduceGT,Int.reduceGE,Int.reduceEq,Int.reduceNe,Int.reduceBEq,Int.reduceBNe,Int.reduceToNat]at f1 f2 f3 f4 f5 f6))
  |(with_reducible refine bsS4 ?_ ?_ ?_ ?_<;>(intro y h;have q:=zf.ok _ h;clear h;(try simp only[go_sem,Nat.reduceLeDiff,Nat.reduceEqDiff,Nat.reduceLT,Nat.reduceAdd,Nat.reduceSub,Nat.reduceMul,Nat.reducePow,UInt8.reduceToNat,Int.reduceLT,Int.reduceLE,Int.reduceGT,Int.reduceGE,Int.reduceEq,Int.reduceNe,Int.reduceBEq,Int.reduceBNe,Int.reduceToNat]at q);(try (have q1:=And.left q;replace q:=And.right q));dsimp only))
  |(with_reducible refine bsS3 ?_ ?_ ?_<;>(intro y h;have q:=zf.ok _ h;clear h;(try simp only[go_sem,Nat.reduceLeDiff,Nat.reduceEqDiff,Nat.reduceLT,Nat.reduceAdd,Nat.reduceSub,Nat.reduceMul,Nat.reducePow,UInt8.reduceToNat,Int.reduceLT,Int.reduceLE,Int.reduceGT,Int.reduceGE,Int.reduceEq,Int.reduceNe,Int.reduceBEq,Int.reduceBNe,Int.reduceToNat]at q);(try (have q1:=And.left q;replace q:=And.right q));dsimp only))
  |(with_reducible refine bsS ?_ ?_<;>(intro y h;have q:=zf.ok _ h;clear h;(try simp only[go_sem,Nat.reduceLeDiff,Nat.reduceEqDiff,Nat.reduceLT,Nat.reduceAdd,Nat.reduceSub,Nat.reduceMul,Nat.reducePow,UInt8.reduceToNat,Int.reduceLT,Int.reduceLE,Int.reduceGT,Int.reduceGE,Int.reduceEq,Int.reduceNe,Int.reduceBEq,Int.reduceBNe,Int.reduceToNat]at q);(try (have q1:=And.left q;replace q:=And.right q));dsimp only))
  |(with_reducible refine bs fun v h=>?_;have q:=zf.ok _ h;clear h;(try simp only[go_sem,Nat.reduceLeDiff,Nat.reduceEqDiff,Nat.reduceLT,Nat.reduceAdd,Nat.reduceSub,Nat.reduceMul,Nat.reducePow,UInt8.reduceToNat,Int.reduceLT,Int.reduceLE,Int.reduceGT,Int.reduceGE,Int.reduceEq,Int.reduceNe,Int.reduceBEq,Int.reduceBNe,Int.reduceToNat]at q);(try (have q1:=And.left q;replace q:=And.right q)))
  |(with_reducible refine bs fun v h=>?_))
 all_goals (first|rintro⟨⟩|(intro h;have q:=zf.ok _ h;clear h;(try simp only[go_sem,Nat.reduceLeDiff,Nat.reduceEqDiff,Nat.reduceLT,Nat.reduceAdd,Nat.reduceSub,Nat.reduceMul,Nat.reducePow,UInt8.reduceToNat,Int.reduceLT,Int.reduceLE,Int.reduceGT,Int.reduceGE,Int.reduceEq,Int.reduceNe,Int.reduceBEq,Int.reduceBNe,Int.reduceToNat]at q);(try (have q1:=And.left q;replace q:=And.right q))))
 all_goals (first|((first|refine gL (h:=?_)|refine gF (h:=?_));simp(maxSteps:=2000000) (disch:=first|assumption|rfl|exact IB.mk (by kernel_rfl)|(refine Fit.mk ?_;(try simp only[List.length_append,List.length_map,List.length_set,List.length_cons,List.length_nil]);omega)|(simp only[*,Bool.and_true,Bool.and_false,Bool.true_and,Bool.false_and];done)|decide) only[go_sem,Nat.reduceLeDiff,Nat.reduceEqDiff,Nat.reduceLT,Nat.reduceAdd,Nat.reduceSub,Nat.reduceMul,Nat.reducePow,UInt8.reduceToNat,Int.reduceLT,Int.reduceLE,Int.reduceGT,Int.reduceGE,Int.reduceEq,Int.reduceNe,Int.reduceBEq,Int.reduceBNe,Int.reduceToNat,↓reduceIte,reduceCtorEq, *];done)|(
  (repeat (rename ((_:Option (Go.Gm.AV×Go.Gm.qp))=_)=>q;revert q))
  (repeat (rename ((_:Option (Go.Gm.Ex×Go.Gm.St))=_)=>q;revert q))
  (try simp only[go_sem,Nat.reduceLeDiff,Nat.reduceEqDiff,Nat.reduceLT,Nat.reduceAdd,Nat.reduceSub,Nat.reduceMul,Nat.reducePow,UInt8.reduceToNat,Int.reduceLT,Int.reduceLE,Int.reduceGT,Int.reduceGE,Int.reduceEq,Int.reduceNe,Int.reduceBEq,Int.reduceBNe,Int.reduceToNat, *])
  intros
  (first|refine gL (h:=?_)|refine gF (h:=?_))
  simp(maxSteps:=2000000) (disch:=first|assumption|rfl|exact IB.mk (by kernel_rfl)|(refine Fit.mk ?_;(try simp only[List.length_append,List.length_map,List.length_set,List.length_cons,List.length_nil]);omega)|(simp only[*,Bool.and_true,Bool.and_false,Bool.true_and,Bool.false_and];done)|decide) only[go_sem,Nat.reduceLeDiff,Nat.reduceEqDiff,Nat.reduceLT,Nat.reduceAdd,Nat.reduceSub,Nat.reduceMul,Nat.reducePow,UInt8.reduceToNat,Int.reduceLT,Int.reduceLE,Int.reduceGT,Int.reduceGE,Int.reduceEq,Int.reduceNe,Int.reduceBEq,Int.reduceBNe,Int.reduceToNat,↓reduceIte,reduceCtorEq, *];done)|(
  (repeat (rename ((_:Option (Go.Gm.AV×Go.Gm.qp))=_)=>q;clear q))
  (repeat (rename ((_:Option (Go.Gm.Ex×Go.Gm.St))=_)=>q;clear q))
  exfalso
  simp_all))):P:=h
end Go.Gm
set_option maxRecDepth 100000
namespace Go.Proofs.YtoflcafolmmaaaaGreat
open Go Go.Gm
instance:wz qn 2 qn.enc:=⟨trivial⟩
instance:wz ql 3 ql.enc:=⟨trivial⟩
instance:wz qy 2 qy.enc:=⟨trivial⟩
instance:wz qV 2 qV.enc:=⟨trivial⟩
instance:wz qE 8 qE.enc:=⟨trivial⟩
instance:wz zs 5 zs.enc:=⟨trivial⟩
instance:wz zn 11 zn.enc:=⟨trivial⟩
instance:wz qr 18 qr.enc:=⟨trivial⟩
instance:wz qk 3 qk.enc:=⟨trivial⟩
instance:wz qb 2 qb.enc:=⟨trivial⟩
instance:wz qw 3 qw.enc:=⟨trivial⟩
instance:wz bJ 7 bJ.enc:=⟨trivial⟩
instance:wz qv 2 qv.enc:=⟨trivial⟩
instance:wz zx 6 zx.enc:=⟨trivial⟩
instance:wz qN 2 qN.enc:=⟨trivial⟩
instance:wz zh 3 zh.enc:=⟨trivial⟩
instance:wz zI 6 zI.enc:=⟨trivial⟩
instance:wz jF 3 jF.enc:=⟨trivial⟩
instance:wz qB 3 qB.enc:=⟨trivial⟩
instance:wz zN 4 zN.enc:=⟨trivial⟩
instance:wz qC 18 qC.enc:=⟨trivial⟩
instance:wz zE 3 zE.enc:=⟨trivial⟩
instance:wz jG 3 jG.enc:=⟨trivial⟩
instance:wz qX 4 qX.enc:=⟨trivial⟩
instance:wz qc 20 qc.enc:=⟨trivial⟩
instance:wz zV 6 zV.enc:=⟨trivial⟩
instance:wz zU 2 zU.enc:=⟨trivial⟩
instance:wz qP 11 qP.enc:=⟨trivial⟩
instance:wz wq 17 wq.enc:=⟨trivial⟩
instance:wz qj 3 qj.enc:=⟨trivial⟩
instance:wz qd 2 qd.enc:=⟨trivial⟩
instance:wz qf 5 qf.enc:=⟨trivial⟩
instance:wz qe 13 qe.enc:=⟨trivial⟩
instance:VV qn (fun x=>Q6 (qn.enc x)):=⟨trivial⟩
instance:VV ql (fun x=>Q6 (ql.enc x)):=⟨trivial⟩
instance:VV qy (fun x=>Q6 (qy.enc x)):=⟨trivial⟩
instance:VV qV (fun x=>Q6 (qV.enc x)):=⟨trivial⟩
instance:VV qE (fun x=>Q6 (qE.enc x)):=⟨trivial⟩
instance:VV zs (fun x=>Q6 (zs.enc x)):=⟨trivial⟩
instance:VV zn (fun x=>Q6 (zn.enc x)):=⟨trivial⟩
instance:VV qr (fun x=>Q6 (qr.enc x)):=⟨trivial⟩
instance:VV qk (fun x=>Q6 (qk.enc x)):=⟨trivial⟩
instance:VV qb (fun x=>Q6 (qb.enc x)):=⟨trivial⟩
instance:VV qw (fun x=>Q6 (qw.enc x)):=⟨trivial⟩
instance:VV bJ (fun x=>Q6 (bJ.enc x)):=⟨trivial⟩
instance:VV qv (fun x=>Q6 (qv.enc x)):=⟨trivial⟩
instance:VV zx (fun x=>Q6 (zx.enc x)):=⟨trivial⟩
instance:VV qN (fun x=>Q6 (qN.enc x)):=⟨trivial⟩
instance:VV zh (fun x=>Q6 (zh.enc x)):=⟨trivial⟩
instance:VV zI (fun x=>Q6 (zI.enc x)):=⟨trivial⟩
instance:VV jF (fun x=>Q6 (jF.enc x)):=⟨trivial⟩
instance:VV qB (fun x=>Q6 (qB.enc x)):=⟨trivial⟩
instance:VV zN (fun x=>Q6 (zN.enc x)):=⟨trivial⟩
instance:VV qC (fun x=>Q6 (qC.enc x)):=⟨trivial⟩
instance:VV zE (fun x=>Q6 (zE.enc x)):=⟨trivial⟩
instance:VV jG (fun x=>Q6 (jG.enc x)):=⟨trivial⟩
instance:VV qX (fun x=>Q6 (qX.enc x)):=⟨trivial⟩
instance:VV qc (fun x=>Q6 (qc.enc x)):=⟨trivial⟩
instance:VV zV (fun x=>Q6 (zV.enc x)):=⟨trivial⟩
instance:VV zU (fun x=>Q6 (zU.enc x)):=⟨trivial⟩
instance:VV qP (fun x=>Q6 (qP.enc x)):=⟨trivial⟩
instance:VV wq (fun x=>Q6 (wq.enc x)):=⟨trivial⟩
instance:VV qj (fun x=>Q6 (qj.enc x)):=⟨trivial⟩
instance:VV qd (fun x=>Q6 (qd.enc x)):=⟨trivial⟩
instance:VV qf (fun x=>Q6 (qf.enc x)):=⟨trivial⟩
instance:VV qe (fun x=>Q6 (qe.enc x)):=⟨trivial⟩
instance:zf (O8) (fun r=>O.call 5 [] []=some (zu r,[])):=⟨fun r=>aw5_ok (r:=r)⟩
end Go.Proofs.YtoflcafolmmaaaaGreat
