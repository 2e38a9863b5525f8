/-
  What the walks look up by class.
-/
import Derived.Test.YtadahlbndbmdeaaGreatQad
import Derived.Test.YtadahlbndbmdeaaGreatQae
open Go.Gm renaming XF->Z
set_option linter.unusedSimpArgs false
set_option linter.unusedVariables false
set_option maxRecDepth 100000
namespace Go.Proofs.YtadahlbndbmdeaaGreat
open Go Go.Gm
theorem aw6_run:O.call 6 [] []=some (.pv (.bool true),[]):=Ru (n:=100) k?
theorem aw6_ok{r:Bool}(h:aw6=some r):O.call 6 [] []=some (AV.pv (PV.bool r),[]):=by cases h;exact aw6_run
end Go.Proofs.YtadahlbndbmdeaaGreat
set_option maxRecDepth 512
namespace Go.Gm
open Go
theorem gF{G:GP}{f:FuncId}{S:rX}{nt:Nat}{ra:Array ResultVar}{c:Code}{rs:List ResultVar}{H:qt}{args:List AV}{r:Option (AV×qt)}
  (Wm:G.fn f=some ⟨nt,ra.toList,c⟩:=by rfl) (hs:S.call f=none:=by rfl) (hr:ra=⟨rs⟩:=by rfl) (hk:bS 0 H=true:=by rfl)
  (h:GD G f H.length rs (cont G (omega G S) f [.code c] (.normal,⟨dd 0 args,H,H.length⟩))=r):
  (omega G S).call f args H=r:=Ea (ob:=some c) hs Wm rfl hr hk h
theorem gL{G:GP}{f:FuncId}{S:rX}{fi:FI}{id:Nat}{c:Code}{s:St}{r:Option (Ex×St)}
  (Wm:G.fn f=some fi:=by rfl) (hc:xj fi.body id=some c:=by rfl)
  (h:om G (omega G S) f id s.nx (cont G (omega G S) f [.code c] (.normal,s))=r):
  (omega G S).loop f id s=r:=Eb Wm hc h
theorem gW{P:Prop}(h:P:=by
 intro r
 (try dsimp only)
 repeat' (first
  |(with_reducible refine iA ?_ ?_<;>(intro c;(try simp only[List.length_append,List.length_cons,List.length_nil,List.length_map,List.length_set,List.length_replicate,Nat.add_zero,Nat.zero_add,Nat.reduceAdd,List.isEmpty_iff,Option.isNone_iff_eq_none, *]at c)))
  |(with_reducible refine iO ?_ ?_<;>(intro c;(try simp only[List.length_append,List.length_cons,List.length_nil,List.length_map,List.length_set,List.length_replicate,Nat.add_zero,Nat.zero_add,Nat.reduceAdd,List.isEmpty_iff,Option.isNone_iff_eq_none, *]at c)))
  |(with_reducible refine it ?_ ?_<;>(intro c;(try simp only[List.length_append,List.length_cons,List.length_nil,List.length_map,List.length_set,List.length_replicate,Nat.add_zero,Nat.zero_add,Nat.reduceAdd,List.isEmpty_iff,Option.isNone_iff_eq_none, *]at c)))
  |(with_reducible refine gd λc=>?_;(try simp only[go_sem,Nat.reduceLeDiff,Nat.reduceEqDiff,Nat.reduceLT,Nat.reduceAdd,Nat.reduceSub,Nat.reduceMul,Nat.reducePow,UInt8.reduceToNat,Int.reduceLT,Int.reduceLE,Int.reduceGT,Int.reduceGE,Int.reduceEq,Int.reduceNe,Int.reduceBEq,Int.reduceBNe,Int.reduceToNat, *]at c))
  |(with_reducible refine wgO λ_ _ f1 f2 f3 f4 f5 f6 f7=>?_;(try simp only[go_sem,Nat.reduceLeDiff,Nat.reduceEqDiff,Nat.reduceLT,Nat.reduceAdd,Nat.reduceSub,Nat.reduceMul,Nat.reducePow,UInt8.reduceToNat,Int.reduceLT,Int.reduceLE,Int.reduceGT,Int.reduceGE,Int.reduceEq,Int.reduceNe,Int.reduceBEq,Int.reduceBNe,Int.reduceToNat]at f1 f2 f3 f4 f5 f6 f7))
  |(with_reducible refine wgV λ_ _ f1 f2 f3 f4=>?_;(try simp only[go_sem,Nat.reduceLeDiff,Nat.reduceEqDiff,Nat.reduceLT,Nat.reduceAdd,Nat.reduceSub,Nat.reduceMul,Nat.reducePow,UInt8.reduceToNat,Int.reduceLT,Int.reduceLE,Int.reduceGT,Int.reduceGE,Int.reduceEq,Int.reduceNe,Int.reduceBEq,Int.reduceBNe,Int.reduceToNat]at f1 f2 f4))
  |(with_reducible refine wg λ_ _ f1 f2 f3 f4 f5 f6=>?_;(try simp only[go_sem,Nat.reduceLeDiff,Nat.reduceEqDiff,Nat.reduceLT,Nat.reduceAdd,Nat.reduceSub,Nat.reduceMul,Nat.reducePow,UInt8.reduceToNat,Int.reduceLT,Int.reduceLE,Int.reduceGT,Int.reduceGE,Int.reduceEq,Int.reduceNe,Int.reduceBEq,Int.reduceBNe,Int.reduceToNat]at f1 f2 f3 f4 f5 f6))
  |(with_reducible refine w2 λ_ _ f1 f2 f3 f4 f5 f6 f7=>?_;(try simp only[go_sem,Nat.reduceLeDiff,Nat.reduceEqDiff,Nat.reduceLT,Nat.reduceAdd,Nat.reduceSub,Nat.reduceMul,Nat.reducePow,UInt8.reduceToNat,Int.reduceLT,Int.reduceLE,Int.reduceGT,Int.reduceGE,Int.reduceEq,Int.reduceNe,Int.reduceBEq,Int.reduceBNe,Int.reduceToNat]at f1 f2 f3 f4 f5 f6 f7))
  |(with_reducible refine wF λ_ _ f1 f2 f3 f4 f5=>?_;(try simp only[go_sem,Nat.reduceLeDiff,Nat.reduceEqDiff,Nat.reduceLT,Nat.reduceAdd,Nat.reduceSub,Nat.reduceMul,Nat.reducePow,UInt8.reduceToNat,Int.reduceLT,Int.reduceLE,Int.reduceGT,Int.reduceGE,Int.reduceEq,Int.reduceNe,Int.reduceBEq,Int.reduceBNe,Int.reduceToNat]at f1 f2 f3 f4 f5))
  |(with_reducible refine wT λ_ _ f1 f2 f3 f4 f5 f6=>?_;(try simp only[go_sem,Nat.reduceLeDiff,Nat.reduceEqDiff,Nat.reduceLT,Nat.reduceAdd,Nat.reduceSub,Nat.reduceMul,Nat.reducePow,UInt8.reduceToNat,Int.reduceLT,Int.reduceLE,Int.reduceGT,Int.reduceGE,Int.reduceEq,Int.reduceNe,Int.reduceBEq,Int.reduceBNe,Int.reduceToNat]at f1 f2 f3 f4 f5 f6))
  |(with_reducible refine bsS4 ?_ ?_ ?_ ?_<;>(intro y h;have q:=z7.ok _ h;clear h;(try simp only[go_sem,Nat.reduceLeDiff,Nat.reduceEqDiff,Nat.reduceLT,Nat.reduceAdd,Nat.reduceSub,Nat.reduceMul,Nat.reducePow,UInt8.reduceToNat,Int.reduceLT,Int.reduceLE,Int.reduceGT,Int.reduceGE,Int.reduceEq,Int.reduceNe,Int.reduceBEq,Int.reduceBNe,Int.reduceToNat]at q);(try (have q1:=And.left q;replace q:=And.right q));dsimp only))
  |(with_reducible refine bsS3 ?_ ?_ ?_<;>(intro y h;have q:=z7.ok _ h;clear h;(try simp only[go_sem,Nat.reduceLeDiff,Nat.reduceEqDiff,Nat.reduceLT,Nat.reduceAdd,Nat.reduceSub,Nat.reduceMul,Nat.reducePow,UInt8.reduceToNat,Int.reduceLT,Int.reduceLE,Int.reduceGT,Int.reduceGE,Int.reduceEq,Int.reduceNe,Int.reduceBEq,Int.reduceBNe,Int.reduceToNat]at q);(try (have q1:=And.left q;replace q:=And.right q));dsimp only))
  |(with_reducible refine bsS ?_ ?_<;>(intro y h;have q:=z7.ok _ h;clear h;(try simp only[go_sem,Nat.reduceLeDiff,Nat.reduceEqDiff,Nat.reduceLT,Nat.reduceAdd,Nat.reduceSub,Nat.reduceMul,Nat.reducePow,UInt8.reduceToNat,Int.reduceLT,Int.reduceLE,Int.reduceGT,Int.reduceGE,Int.reduceEq,Int.reduceNe,Int.reduceBEq,Int.reduceBNe,Int.reduceToNat]at q);(try (have q1:=And.left q;replace q:=And.right q));dsimp only))
  |(with_reducible refine bs λv h=>?_;have q:=z7.ok _ h;clear h;(try simp only[go_sem,Nat.reduceLeDiff,Nat.reduceEqDiff,Nat.reduceLT,Nat.reduceAdd,Nat.reduceSub,Nat.reduceMul,Nat.reducePow,UInt8.reduceToNat,Int.reduceLT,Int.reduceLE,Int.reduceGT,Int.reduceGE,Int.reduceEq,Int.reduceNe,Int.reduceBEq,Int.reduceBNe,Int.reduceToNat]at q);(try (have q1:=And.left q;replace q:=And.right q)))
  |(with_reducible refine bs λv h=>?_))
 all_goals (first|rintro⟨⟩|(intro h;have q:=z7.ok _ h;clear h;(try simp only[go_sem,Nat.reduceLeDiff,Nat.reduceEqDiff,Nat.reduceLT,Nat.reduceAdd,Nat.reduceSub,Nat.reduceMul,Nat.reducePow,UInt8.reduceToNat,Int.reduceLT,Int.reduceLE,Int.reduceGT,Int.reduceGE,Int.reduceEq,Int.reduceNe,Int.reduceBEq,Int.reduceBNe,Int.reduceToNat]at q);(try (have q1:=And.left q;replace q:=And.right q))))
 all_goals (first|((first|refine gL (h:=?_)|refine gF (h:=?_));simp(maxSteps:=2000000) (disch:=first|assumption|rfl|exact Sure.mk (by kernel_rfl)|(refine Fit.mk ?_;(try simp only[List.length_append,List.length_map,List.length_set,List.length_cons,List.length_nil]);omega)|(simp only[*,Bool.and_true,Bool.and_false,Bool.true_and,Bool.false_and];done)|decide) only[go_sem,Nat.reduceLeDiff,Nat.reduceEqDiff,Nat.reduceLT,Nat.reduceAdd,Nat.reduceSub,Nat.reduceMul,Nat.reducePow,UInt8.reduceToNat,Int.reduceLT,Int.reduceLE,Int.reduceGT,Int.reduceGE,Int.reduceEq,Int.reduceNe,Int.reduceBEq,Int.reduceBNe,Int.reduceToNat,↓reduceIte,reduceCtorEq, *];done)|(
  (repeat (rename ((_:Option (Go.Gm.AV×Go.Gm.qt))=_)=>q;revert q))
  (repeat (rename ((_:Option (Go.Gm.Ex×Go.Gm.St))=_)=>q;revert q))
  (try simp only[go_sem,Nat.reduceLeDiff,Nat.reduceEqDiff,Nat.reduceLT,Nat.reduceAdd,Nat.reduceSub,Nat.reduceMul,Nat.reducePow,UInt8.reduceToNat,Int.reduceLT,Int.reduceLE,Int.reduceGT,Int.reduceGE,Int.reduceEq,Int.reduceNe,Int.reduceBEq,Int.reduceBNe,Int.reduceToNat, *])
  intros
  (first|refine gL (h:=?_)|refine gF (h:=?_))
  simp(maxSteps:=2000000) (disch:=first|assumption|rfl|exact Sure.mk (by kernel_rfl)|(refine Fit.mk ?_;(try simp only[List.length_append,List.length_map,List.length_set,List.length_cons,List.length_nil]);omega)|(simp only[*,Bool.and_true,Bool.and_false,Bool.true_and,Bool.false_and];done)|decide) only[go_sem,Nat.reduceLeDiff,Nat.reduceEqDiff,Nat.reduceLT,Nat.reduceAdd,Nat.reduceSub,Nat.reduceMul,Nat.reducePow,UInt8.reduceToNat,Int.reduceLT,Int.reduceLE,Int.reduceGT,Int.reduceGE,Int.reduceEq,Int.reduceNe,Int.reduceBEq,Int.reduceBNe,Int.reduceToNat,↓reduceIte,reduceCtorEq, *];done)|(
  (repeat (rename ((_:Option (Go.Gm.AV×Go.Gm.qt))=_)=>q;clear q))
  (repeat (rename ((_:Option (Go.Gm.Ex×Go.Gm.St))=_)=>q;clear q))
  exfalso
  simp_all))):P:=h
end Go.Gm
set_option maxRecDepth 100000
namespace Go.Proofs.YtadahlbndbmdeaaGreat
open Go Go.Gm
instance:ye qm 2 qm.enc:=⟨trivial⟩
instance:ye qg 2 qg.enc:=⟨trivial⟩
instance:ye zf 2 zf.enc:=⟨trivial⟩
instance:ye qI 8 qI.enc:=⟨trivial⟩
instance:ye zQ 5 zQ.enc:=⟨trivial⟩
instance:ye zG 11 zG.enc:=⟨trivial⟩
instance:ye qu 18 qu.enc:=⟨trivial⟩
instance:ye qr 3 qr.enc:=⟨trivial⟩
instance:ye qb 2 qb.enc:=⟨trivial⟩
instance:ye qv 3 qv.enc:=⟨trivial⟩
instance:ye qf 3 qf.enc:=⟨trivial⟩
instance:ye pq 7 pq.enc:=⟨trivial⟩
instance:ye qz 2 qz.enc:=⟨trivial⟩
instance:ye zW 6 zW.enc:=⟨trivial⟩
instance:ye zo 2 zo.enc:=⟨trivial⟩
instance:ye qN 3 qN.enc:=⟨trivial⟩
instance:ye zg 3 zg.enc:=⟨trivial⟩
instance:ye xv 4 xv.enc:=⟨trivial⟩
instance:ye qF 18 qF.enc:=⟨trivial⟩
instance:ye xi 3 xi.enc:=⟨trivial⟩
instance:ye wI 6 wI.enc:=⟨trivial⟩
instance:ye kM 3 kM.enc:=⟨trivial⟩
instance:ye zi 4 zi.enc:=⟨trivial⟩
instance:ye qc 20 qc.enc:=⟨trivial⟩
instance:ye xJ 6 xJ.enc:=⟨trivial⟩
instance:ye xI 2 xI.enc:=⟨trivial⟩
instance:ye qT 11 qT.enc:=⟨trivial⟩
instance:ye vV 17 vV.enc:=⟨trivial⟩
instance:ye qo 3 qo.enc:=⟨trivial⟩
instance:ye qd 2 qd.enc:=⟨trivial⟩
instance:ye qE 3 qE.enc:=⟨trivial⟩
instance:ye qj 5 qj.enc:=⟨trivial⟩
instance:ye qe 13 qe.enc:=⟨trivial⟩
instance:VV qm (λx=>Z (qm.enc x)):=⟨trivial⟩
instance:VV qg (λx=>Z (qg.enc x)):=⟨trivial⟩
instance:VV zf (λx=>Z (zf.enc x)):=⟨trivial⟩
instance:VV qI (λx=>Z (qI.enc x)):=⟨trivial⟩
instance:VV zQ (λx=>Z (zQ.enc x)):=⟨trivial⟩
instance:VV zG (λx=>Z (zG.enc x)):=⟨trivial⟩
instance:VV qu (λx=>Z (qu.enc x)):=⟨trivial⟩
instance:VV qr (λx=>Z (qr.enc x)):=⟨trivial⟩
instance:VV qb (λx=>Z (qb.enc x)):=⟨trivial⟩
instance:VV qv (λx=>Z (qv.enc x)):=⟨trivial⟩
instance:VV qf (λx=>Z (qf.enc x)):=⟨trivial⟩
instance:VV pq (λx=>Z (pq.enc x)):=⟨trivial⟩
instance:VV qz (λx=>Z (qz.enc x)):=⟨trivial⟩
instance:VV zW (λx=>Z (zW.enc x)):=⟨trivial⟩
instance:VV zo (λx=>Z (zo.enc x)):=⟨trivial⟩
instance:VV qN (λx=>Z (qN.enc x)):=⟨trivial⟩
instance:VV zg (λx=>Z (zg.enc x)):=⟨trivial⟩
instance:VV xv (λx=>Z (xv.enc x)):=⟨trivial⟩
instance:VV qF (λx=>Z (qF.enc x)):=⟨trivial⟩
instance:VV xi (λx=>Z (xi.enc x)):=⟨trivial⟩
instance:VV wI (λx=>Z (wI.enc x)):=⟨trivial⟩
instance:VV kM (λx=>Z (kM.enc x)):=⟨trivial⟩
instance:VV zi (λx=>Z (zi.enc x)):=⟨trivial⟩
instance:VV qc (λx=>Z (qc.enc x)):=⟨trivial⟩
instance:VV xJ (λx=>Z (xJ.enc x)):=⟨trivial⟩
instance:VV xI (λx=>Z (xI.enc x)):=⟨trivial⟩
instance:VV qT (λx=>Z (qT.enc x)):=⟨trivial⟩
instance:VV vV (λx=>Z (vV.enc x)):=⟨trivial⟩
instance:VV qo (λx=>Z (qo.enc x)):=⟨trivial⟩
instance:VV qd (λx=>Z (qd.enc x)):=⟨trivial⟩
instance:VV qE (λx=>Z (qE.enc x)):=⟨trivial⟩
instance:VV qj (λx=>Z (qj.enc x)):=⟨trivial⟩
instance:VV qe (λx=>Z (qe.enc x)):=⟨trivial⟩
instance:z7 (aw6) (λr=>O.call 6 [] []=some (zN r,[])):=⟨λr=>aw6_ok (r:=r)⟩
end Go.Proofs.YtadahlbndbmdeaaGreat
