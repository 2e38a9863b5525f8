/-
  What the walks look up by class.
-/
import Derived.Test.YtnfdnckadgcifaaGreatQad
import Derived.Test.YtnfdnckadgcifaaGreatQae
set_option linter.unusedSimpArgs false
set_option linter.unusedVariables false
set_option maxRecDepth 100000
namespace Go.Proofs.YtnfdnckadgcifaaGreat
open Go Go.Gm
theorem aw5_run:O.call 5 [] []=some (.pv (.bool true),[]):=NM (n:=100) k?
theorem aw5_ok{r:Bool}(h:S8=some r):O.call 5 [] []=some (AV.pv (PV.bool r),[]):=by cases h;exact aw5_run
end Go.Proofs.YtnfdnckadgcifaaGreat
set_option maxRecDepth 512
namespace Go.Gm
open Go
theorem gF{G:GP}{f:FuncId}{S:mX}{nt:Nat}{ra:Array ResultVar}{c:Code}{rs:List ResultVar}{H:qp}{args:List AV}{r:Option (AV×qp)}
  (XG:G.fn f=some ⟨nt,ra.toList,c⟩:=by rfl) (hs:S.call f=none:=by rfl) (hr:ra=⟨rs⟩:=by rfl) (hk:uU 0 H=true:=by rfl)
  (h:Yy G f H.length rs (cont G (omega G S) f [.code c] (.normal,⟨rF 0 args,H,H.length⟩))=r):
  (omega G S).call f args H=r:=SV (ob:=some c) hs XG rfl hr hk h
theorem gL{G:GP}{f:FuncId}{S:mX}{fi:FI}{id:Nat}{c:Code}{s:St}{r:Option (Ex×St)}
  (XG:G.fn f=some fi:=by rfl) (hc:zQ fi.body id=some c:=by rfl)
  (h:aj G (omega G S) f id s.nx (cont G (omega G S) f [.code c] (.normal,s))=r):
  (omega G S).loop f id s=r:=SW XG hc h
theorem gW{P:Prop}(h:P:=by
 intro r
 (try dsimp only)
 repeat' (first
  |(with_reducible refine iA ?_ ?_<;>(intro c;(try simp only[List.length_append,List.length_cons,List.length_nil,List.length_map,List.length_set,List.length_replicate,Nat.add_zero,Nat.zero_add,Nat.reduceAdd,List.isEmpty_iff,Option.isNone_iff_eq_none, *]at c)))
  |(with_reducible refine iO ?_ ?_<;>(intro c;(try simp only[List.length_append,List.length_cons,List.length_nil,List.length_map,List.length_set,List.length_replicate,Nat.add_zero,Nat.zero_add,Nat.reduceAdd,List.isEmpty_iff,Option.isNone_iff_eq_none, *]at c)))
  |(with_reducible refine it ?_ ?_<;>(intro c;(try simp only[List.length_append,List.length_cons,List.length_nil,List.length_map,List.length_set,List.length_replicate,Nat.add_zero,Nat.zero_add,Nat.reduceAdd,List.isEmpty_iff,Option.isNone_iff_eq_none, *]at c)))
  |(with_reducible refine gd fun c=>?_;(try simp only[go_sem,Nat.reduceLeDiff,Nat.reduceEqDiff,Nat.reduceLT,Nat.reduceAdd,Nat.reduceSub,Nat.reduceMul,Nat.reducePow,UInt8.reduceToNat,Int.reduceLT,Int.reduceLE,Int.reduceGT,Int.reduceGE,Int.reduceEq,Int.reduceNe,Int.reduceBEq,Int.reduceBNe,Int.reduceToNat, *]at c))
  |(with_reducible refine wgO fun _ _ f1 f2 f3 f4 f5 f6 f7=>?_;(try simp only[go_sem,Nat.reduceLeDiff,Nat.reduceEqDiff,Nat.reduceLT,Nat.reduceAdd,Nat.reduceSub,Nat.reduceMul,Nat.reducePow,UInt8.reduceToNat,Int.reduceLT,Int.reduceLE,Int.reduceGT,Int.reduceGE,Int.reduceEq,Int.reduceNe,Int.reduceBEq,Int.reduceBNe,Int.reduceToNat]at f1 f2 f3 f4 f5 f6 f7))
  |(with_reducible refine wgV fun _ _ f1 f2 f3 f4=>?_;(try simp only[go_sem,Nat.reduceLeDiff,Nat.reduceEqDiff,Nat.reduceLT,Nat.reduceAdd,Nat.reduceSub,Nat.reduceMul,Nat.reducePow,UInt8.reduceToNat,Int.reduceLT,Int.reduceLE,Int.reduceGT,Int.reduceGE,Int.reduceEq,Int.reduceNe,Int.reduceBEq,Int.reduceBNe,Int.reduceToNat]at f1 f2 f4))
  |(with_reducible refine wg fun _ _ f1 f2 f3 f4 f5 f6=>?_;(try simp only[go_sem,Nat.reduceLeDiff,Nat.reduceEqDiff,Nat.reduceLT,Nat.reduceAdd,Nat.reduceSub,Nat.reduceMul,Nat.reducePow,UInt8.reduceToNat,Int.reduceLT,Int.reduceLE,Int.reduceGT,Int.reduceGE,Int.reduceEq,Int.reduceNe,Int.reduceBEq,Int.reduceBNe,Int.reduceToNat]at f1 f2 f3 f4 f5 f6))
  |(with_reducible refine w2 fun _ _ f1 f2 f3 f4 f5 f6 f7=>?_;(try simp only[go_sem,Nat.reduceLeDiff,Nat.reduceEqDiff,Nat.reduceLT,Nat.reduceAdd,Nat.reduceSub,Nat.reduceMul,Nat.reducePow,UInt8.reduceToNat,Int.reduceLT,Int.reduceLE,Int.reduceGT,Int.reduceGE,Int.reduceEq,Int.reduceNe,Int.reduceBEq,Int.reduceBNe,Int.reduceToNat]at f1 f2 f3 f4 f5 f6 f7))
  |(with_reducible refine wF fun _ _ f1 f2 f3 f4 f5=>?_;(try simp only[go_sem,Nat.reduceLeDiff,Nat.reduceEqDiff,Nat.reduceLT,Nat.reduceAdd,Nat.reduceSub,Nat.reduceMul,Nat.reducePow,UInt8.reduceToNat,Int.reduceLT,Int.reduceLE,Int.reduceGT,Int.reduceGE,Int.reduceEq,Int.reduceNe,Int.reduceBEq,Int.reduceBNe,Int.reduceToNat]at f1 f2 f3 f4 f5))
  |(with_reducible refine wT fun _ _ f1 f2 f3 f4 f5 f6=>?_;(try simp only[go_sem,Nat.reduceLeDiff,Nat.reduceEqDiff,Nat.reduceLT,Nat.reduceAdd,Nat.reduceSub,Nat.reduceMul,Nat.reducePow,UInt8.reduceToNat,Int.reduceLT,Int.reduceLE,Int.reduceGT,Int.reduceGE,Int.reduceEq,Int.reduceNe,Int.reduceBEq,Int.reduceBNe,Int.reduceToNat]at f1 f2 f3 f4 f5 f6))
  |(with_reducible refine bsS4 ?_ ?_ ?_ ?_<;>(intro y h;have q:=zl.ok _ h;clear h;(try simp only[go_sem,Nat.reduceLeDiff,Nat.reduceEqDiff,Nat.reduceLT,Nat.reduceAdd,Nat.reduceSub,Nat.reduceMul,Nat.reducePow,UInt8.reduceToNat,Int.reduceLT,Int.reduceLE,Int.reduceGT,Int.reduceGE,Int.reduceEq,Int.reduceNe,Int.reduceBEq,Int.reduceBNe,Int.reduceToNat]at q);(try (have q1:=And.left q;replace q:=And.right q));dsimp only))
  |(with_reducible refine bsS3 ?_ ?_ ?_<;>(intro y h;have q:=zl.ok _ h;clear h;(try simp only[go_sem,Nat.reduceLeDiff,Nat.reduceEqDiff,Nat.reduceLT,Nat.reduceAdd,Nat.reduceSub,Nat.reduceMul,Nat.reducePow,UInt8.reduceToNat,Int.reduceLT,Int.reduceLE,Int.reduceGT,Int.reduceGE,Int.reduceEq,Int.reduceNe,Int.reduceBEq,Int.reduceBNe,Int.reduceToNat]at q);(try (have q1:=And.left q;replace q:=And.right q));dsimp only))
  |(with_reducible refine bsS ?_ ?_<;>(intro y h;have q:=zl.ok _ h;clear h;(try simp only[go_sem,Nat.reduceLeDiff,Nat.reduceEqDiff,Nat.reduceLT,Nat.reduceAdd,Nat.reduceSub,Nat.reduceMul,Nat.reducePow,UInt8.reduceToNat,Int.reduceLT,Int.reduceLE,Int.reduceGT,Int.reduceGE,Int.reduceEq,Int.reduceNe,Int.reduceBEq,Int.reduceBNe,Int.reduceToNat]at q);(try (have q1:=And.left q;replace q:=And.right q));dsimp only))
  |(with_reducible refine bs fun v h=>?_;have q:=zl.ok _ h;clear h;(try simp only[go_sem,Nat.reduceLeDiff,Nat.reduceEqDiff,Nat.reduceLT,Nat.reduceAdd,Nat.reduceSub,Nat.reduceMul,Nat.reducePow,UInt8.reduceToNat,Int.reduceLT,Int.reduceLE,Int.reduceGT,Int.reduceGE,Int.reduceEq,Int.reduceNe,Int.reduceBEq,Int.reduceBNe,Int.reduceToNat]at q);(try (have q1:=And.left q;replace q:=And.right q)))
  |(with_reducible refine bs fun v h=>?_))
 all_goals (first|rintro⟨⟩|(intro h;have q:=zl.ok _ h;clear h;(try simp only[go_sem,Nat.reduceLeDiff,Nat.reduceEqDiff,Nat.reduceLT,Nat.reduceAdd,Nat.reduceSub,Nat.reduceMul,Nat.reducePow,UInt8.reduceToNat,Int.reduceLT,Int.reduceLE,Int.reduceGT,Int.reduceGE,Int.reduceEq,Int.reduceNe,Int.reduceBEq,Int.reduceBNe,Int.reduceToNat]at q);(try (have q1:=And.left q;replace q:=And.right q))))
 all_goals (first|((first|refine gL (h:=?_)|refine gF (h:=?_));simp(maxSteps:=2000000) (disch:=first|assumption|rfl|exact Iu.mk (by kernel_rfl)|(refine Fit.mk ?_;(try simp only[List.length_append,List.length_map,List.length_set,List.length_cons,List.length_nil]);omega)|(simp only[*,Bool.and_true,Bool.and_false,Bool.true_and,Bool.false_and];done)|decide) only[go_sem,Nat.reduceLeDiff,Nat.reduceEqDiff,Nat.reduceLT,Nat.reduceAdd,Nat.reduceSub,Nat.reduceMul,Nat.reducePow,UInt8.reduceToNat,Int.reduceLT,Int.reduceLE,Int.reduceGT,Int.reduceGE,Int.reduceEq,Int.reduceNe,Int.reduceBEq,Int.reduceBNe,Int.reduceToNat,↓reduceIte,reduceCtorEq, *];done)|(
  (repeat (rename ((_:Option (Go.Gm.AV×Go.Gm.qp))=_)=>q;revert q))
  (repeat (rename ((_:Option (Go.Gm.Ex×Go.Gm.St))=_)=>q;revert q))
  (try simp only[go_sem,Nat.reduceLeDiff,Nat.reduceEqDiff,Nat.reduceLT,Nat.reduceAdd,Nat.reduceSub,Nat.reduceMul,Nat.reducePow,UInt8.reduceToNat,Int.reduceLT,Int.reduceLE,Int.reduceGT,Int.reduceGE,Int.reduceEq,Int.reduceNe,Int.reduceBEq,Int.reduceBNe,Int.reduceToNat, *])
  intros
  (first|refine gL (h:=?_)|refine gF (h:=?_))
  simp(maxSteps:=2000000) (disch:=first|assumption|rfl|exact Iu.mk (by kernel_rfl)|(refine Fit.mk ?_;(try simp only[List.length_append,List.length_map,List.length_set,List.length_cons,List.length_nil]);omega)|(simp only[*,Bool.and_true,Bool.and_false,Bool.true_and,Bool.false_and];done)|decide) only[go_sem,Nat.reduceLeDiff,Nat.reduceEqDiff,Nat.reduceLT,Nat.reduceAdd,Nat.reduceSub,Nat.reduceMul,Nat.reducePow,UInt8.reduceToNat,Int.reduceLT,Int.reduceLE,Int.reduceGT,Int.reduceGE,Int.reduceEq,Int.reduceNe,Int.reduceBEq,Int.reduceBNe,Int.reduceToNat,↓reduceIte,reduceCtorEq, *];done)|(
  (repeat (rename ((_:Option (Go.Gm.AV×Go.Gm.qp))=_)=>q;clear q))
  (repeat (rename ((_:Option (Go.Gm.Ex×Go.Gm.St))=_)=>q;clear q))
  exfalso
  simp_all))):P:=h
end Go.Gm
set_option maxRecDepth 100000
namespace Go.Proofs.YtnfdnckadgcifaaGreat
open Go Go.Gm
instance:wM qm 2 qm.enc:=⟨trivial⟩
instance:wM qk 2 qk.enc:=⟨trivial⟩
instance:wM qW 2 qW.enc:=⟨trivial⟩
instance:wM qF 8 qF.enc:=⟨trivial⟩
instance:wM zw 5 zw.enc:=⟨trivial⟩
instance:wM zo 11 zo.enc:=⟨trivial⟩
instance:wM qt 18 qt.enc:=⟨trivial⟩
instance:wM qu 3 qu.enc:=⟨trivial⟩
instance:wM qc 2 qc.enc:=⟨trivial⟩
instance:wM qq 3 qq.enc:=⟨trivial⟩
instance:wM qz 3 qz.enc:=⟨trivial⟩
instance:wM yD 7 yD.enc:=⟨trivial⟩
instance:wM qx 2 qx.enc:=⟨trivial⟩
instance:wM zF 6 zF.enc:=⟨trivial⟩
instance:wM xD 2 xD.enc:=⟨trivial⟩
instance:wM xC 3 xC.enc:=⟨trivial⟩
instance:wM jS 3 jS.enc:=⟨trivial⟩
instance:wM zV 4 zV.enc:=⟨trivial⟩
instance:wM qA 18 qA.enc:=⟨trivial⟩
instance:wM zO 3 zO.enc:=⟨trivial⟩
instance:wM kD 6 kD.enc:=⟨trivial⟩
instance:wM jT 3 jT.enc:=⟨trivial⟩
instance:wM z8 4 z8.enc:=⟨trivial⟩
instance:wM qb 20 qb.enc:=⟨trivial⟩
instance:wM xf 6 xf.enc:=⟨trivial⟩
instance:wM xe 2 xe.enc:=⟨trivial⟩
instance:wM qC 11 qC.enc:=⟨trivial⟩
instance:wM wI 17 wI.enc:=⟨trivial⟩
instance:wM ql 3 ql.enc:=⟨trivial⟩
instance:wM qd 2 qd.enc:=⟨trivial⟩
instance:wM qE 3 qE.enc:=⟨trivial⟩
instance:wM qg 5 qg.enc:=⟨trivial⟩
instance:wM qe 13 qe.enc:=⟨trivial⟩
instance:VV qm (fun x=>lY (qm.enc x)):=⟨trivial⟩
instance:VV qk (fun x=>lY (qk.enc x)):=⟨trivial⟩
instance:VV qW (fun x=>lY (qW.enc x)):=⟨trivial⟩
instance:VV qF (fun x=>lY (qF.enc x)):=⟨trivial⟩
instance:VV zw (fun x=>lY (zw.enc x)):=⟨trivial⟩
instance:VV zo (fun x=>lY (zo.enc x)):=⟨trivial⟩
instance:VV qt (fun x=>lY (qt.enc x)):=⟨trivial⟩
instance:VV qu (fun x=>lY (qu.enc x)):=⟨trivial⟩
instance:VV qc (fun x=>lY (qc.enc x)):=⟨trivial⟩
instance:VV qq (fun x=>lY (qq.enc x)):=⟨trivial⟩
instance:VV qz (fun x=>lY (qz.enc x)):=⟨trivial⟩
instance:VV yD (fun x=>lY (yD.enc x)):=⟨trivial⟩
instance:VV qx (fun x=>lY (qx.enc x)):=⟨trivial⟩
instance:VV zF (fun x=>lY (zF.enc x)):=⟨trivial⟩
instance:VV xD (fun x=>lY (xD.enc x)):=⟨trivial⟩
instance:VV xC (fun x=>lY (xC.enc x)):=⟨trivial⟩
instance:VV jS (fun x=>lY (jS.enc x)):=⟨trivial⟩
instance:VV zV (fun x=>lY (zV.enc x)):=⟨trivial⟩
instance:VV qA (fun x=>lY (qA.enc x)):=⟨trivial⟩
instance:VV zO (fun x=>lY (zO.enc x)):=⟨trivial⟩
instance:VV kD (fun x=>lY (kD.enc x)):=⟨trivial⟩
instance:VV jT (fun x=>lY (jT.enc x)):=⟨trivial⟩
instance:VV z8 (fun x=>lY (z8.enc x)):=⟨trivial⟩
instance:VV qb (fun x=>lY (qb.enc x)):=⟨trivial⟩
instance:VV xf (fun x=>lY (xf.enc x)):=⟨trivial⟩
instance:VV xe (fun x=>lY (xe.enc x)):=⟨trivial⟩
instance:VV qC (fun x=>lY (qC.enc x)):=⟨trivial⟩
instance:VV wI (fun x=>lY (wI.enc x)):=⟨trivial⟩
instance:VV ql (fun x=>lY (ql.enc x)):=⟨trivial⟩
instance:VV qd (fun x=>lY (qd.enc x)):=⟨trivial⟩
instance:VV qE (fun x=>lY (qE.enc x)):=⟨trivial⟩
instance:VV qg (fun x=>lY (qg.enc x)):=⟨trivial⟩
instance:VV qe (fun x=>lY (qe.enc x)):=⟨trivial⟩
instance:zl (S8) (fun r=>O.call 5 [] []=some (zD r,[])):=⟨fun r=>aw5_ok (r:=r)⟩
end Go.Proofs.YtnfdnckadgcifaaGreat
