/-
  What the machine's calls come to: the plain functions.
-/
import Derived.Test.YtljbbncgpbgboaaGreatDoorCaf
import Derived.Test.YtljbbncgpbgboaaGreatDoorCah
import Derived.Test.YtljbbncgpbgboaaGreatDoorCai
set_option linter.unusedSimpArgs false
set_option linter.unusedVariables false
set_option maxRecDepth 100000
namespace Go.Proofs.YtljbbncgpbgboaaGreatDoor
open Go Go.Gm
attribute [go_sem] needs aop q3f yx List.toList_toArray q3h q2a y8 List.take List.drop List.length_cons List.length_nil List.length_map uz AV.q07 List.append q31 List.getElem?_cons_zero List.getElem?_cons_succ AV.refs AV.ren AV.rows if_true if_false List.nil_append List.append_nil List.cons_append gq unz ma uq q0j q6x List.getElem?_nil touched List.isEmpty_nil Option.some.injEq aUn q0m PV.cells List.replicate List.set_cons_zero List.set_cons_succ ny q3n xg eq_self AV.thaw Blk.thaw uh q2g aEq j3 fitAll za q2m q0n q26 Blk.ren Blk.refs List.flatMap_nil List.flatMap_cons q1g q6w gm List.map_cons List.map_nil List.drop_zero Option.isSome_none Option.isNone_none Option.isSome_some Option.isNone_some q0t.eq_def qhm refsOf qr5 za8 z5n z4t qjz qz3 z4v z6m z0u qoi qwp z9j qmb zba qqg qca qt8 q9r qvv qov z0r z2o qyk qyf freezes.eq_1 freezes.eq_2 ev.eq_1 ev.eq_2 ev.eq_3 ev.eq_4 Env.get.eq_1 Env.get.eq_2 zm.eq_1 zm.eq_2 qc.eq_1 qc.eq_2 q0x.eq_1 xc.eq_1 xc.eq_2 q0d.eq_1 q0d.eq_2 jq.eq_1 jq.eq_2 q2x.eq_1 ldP.eq_1 ldP.eq_2 ldA.eq_1 ldA.eq_2 TI.isAgg.eq_1 mh.eq_1 Heap.get.eq_1 Heap.get.eq_2 Heap.put.eq_1 Heap.put.eq_2 qmj qlf qll qh2 qba qq7 z8b qfs qhl qgj qc9 qsd zaw qih qcf qpw qpn qte qn9 z7j jy.eq_1 AV.refs.refsL.eq_1 AV.refs.refsL.eq_2 AV.ren.renL.eq_1 AV.ren.renL.eq_2 zw.eq_1 zw.eq_2 xh.eq_1 xh.eq_2 qni qd0 qxn narrow.eq_1 q1a.eq_1 restrict.eq_1 restrict.eq_2 Heap.upto.eq_1 Heap.upto.eq_2 Heap.below.eq_1 Heap.below.eq_2 Env.below.eq_1 Env.below.eq_2 q06.eq_1 q06.eq_2 decide_true and_self AV.rows.rowsL.eq_1 AV.rows.rowsL.eq_2 Nat.zero_lt_one Nat.lt_add_one Nat.zero_le Nat.le_refl Nat.zero_add Nat.add_zero and_true true_and Bool.and_true Bool.true_and decide_false Bool.false_eq_true ko.eq_1 ko.eq_2 qcj z5u kz.eq_1 kz.eq_2 q1j.eq_1 q1j.eq_2 finish.eq_1 List.range_zero pos.eq_1 pos.eq_2 reach.eq_1 reach.eq_2 reach.eq_3 enter.eq_1 zg.eq_1 zg.eq_2 ze.eq_1 ze.eq_2 ku.eq_1 ku.eq_2 setEnv.eq_1 setEnv.eq_2 qch quv qez z0t qke qb9 qpx Bool.not_false Bool.not_true Bool.or_self Bool.or_false Bool.false_or Bool.or_true Bool.true_or qa5 qth qyh Bool.and_self Bool.and_false Bool.false_and yu.eq_1 yu.eq_2 Nat.mul_one Nat.one_mul true_or or_true false_or or_false or_self and_false false_and Gm.freeze.eq_1 AV.thaw.thawL.eq_1 AV.thaw.thawL.eq_2 qz.eq_1 qz.eq_2 q21.eq_1 ve.eq_1 ve.eq_2 q5d.eq_1 closedIn.eq_1 closedIn.eq_2 pick.eq_1 pick.eq_2 bz.eq_1 bz.eq_2 yz.eq_1 yz.eq_2 xx.eq_1 backTo.eq_1 jb.eq_1 jb.eq_2 jr.eq_1 q0b.eq_1 z2g z3i z9d qay qus qp1 qxf qsv qgl qu4 qi3 qyt qoq qea qrx qhe z5o qvx canon.eq_1 q11.eq_1 q11.eq_2 q1r.eq_1 q1r.eq_2 bg.eq_1 bg.eq_2 qep z0q qd7 qq0 uw.eq_1 orT.eq_1 orT.eq_2 isBytes.eq_1 q14.eq_1 q1d.eq_1 qp3 qr3 q7p q6m q7g q69 z2m q8y q79 q7o q6f take_len za2 qxx qn2 z6n q2y.eq_1 q2y.eq_2 kE.eq_1 qlq z0m qle qol qap qoo qh9 z3v qtp qgh qzi z81 qo9 qfk q7l z6e qd9 qcv qfv qxo qdf qj9 qq3 z8z qjw qn4 qu5 qk6 qtu qw4 Int.natCast_zero q7h q9j take_set List.take_length v_i v_b v_s v_g v_l v_r b_x b_r b_m q17 q1o j6 q81 slE q61 T.Span.qb T.jv.qb T.Sel.qb T.Op.qb T.Row.qb T.Rx.qb T.Fmt.qb T.Form.qb T.Stop.qb T.jg.qb T.jw.qb T.State.qb T.ug.qb T.p9.qb T.pz.qb T.q05.qb T.mq.qb T.q0g.qb T.q04.qb T.ky.qb T.wm.qb T.mg.qb T.ql.qb T.Range.qb T.q0k.qb T.q08.qb T.mo.qb T.qo.qb T.qm.qb T.p8.qb T.pq.qb T.uk.qb T.mi.qb z7l kp3 pr3 zbc kp4 pr4 qp2 kp5 pr5 z2w kp6 pr6 qj6 qyx qg4 fz1 fz2 fz3 fz4 fz5 fz6 fz7 fz8 fz9 qxj z8g qar z6u z18 qqv qgt qvg qs9 qyg qpv qrg qim qwb qog qdo qz5 z97 qc7 z8c qbe qh7 qcp qt6 qli z6f qpf ql3 qf5 qnu z0i z7f qjq qj8 qzn z15 qcw qz7 qut qxt qrv qbc qva z3f qpk qrp qqh qu7 qrh qtv qr9 qfh z9w z8w qfg qpt ql4 zb7 z88 qzx qjr qg1 z0x qmp qh3 qq4 qld ql7 ql5 qga qhu qwy qe7 zbf z9b z2q ql6 qje z1e qwd zaa qqi qg6 z8e qql z0n qj0 z4g qip qgb qkv z6a qqk qra qkb qw2 z5k qoj qkg qu2 qex qnj qsi qil qhq z98 qsz qv2 zaj z2z z01 z5c z5w qfz z2e qln qa8 z7v zbe z10 qzc qas qtg qmo qjp qxy que z7o z1f qh5 qdc za3 z1o zb5 qcl qaa qjf qzj z6w qj4 qwa qp7 qiw qa2 qty z2a qqc zb3 qzq qeh qgd qpy qbx qeb qp4 z8m qs8 z3p qr1 qhz qz4 qtf z2u zaf qhk qk0 qx6 qce qpo qps qx9 qdg z5x zav qyi qnf zab qc8 qv5 qcy qcc qhh qoc z1p z4m qm4 qem qq9 qmq qwl z7z qqb qpl qs3 qwt z1g qzr qfu qqx qsk z1h qvr z1u z2s z7m qtj qw7 qnc z9q qg7 qvl z0c z4f qq6 qjl qvn qwm qwc qdd qv0 qaj qx0 qes qen qmv qs5 z5b qm6 z6b qvm z8i qin qna qms qvt z9x zak qdn qlk qtx qu3 z1w qss qp9 qsj qui qjd qjm qpz qor z14 z6h z5i qpp z7s qtz z4o qpa qxz qmf qru qxk qf0 qs4 qyo qpe z8t qgg qh8 qh0 qn3 qhj qxa qqj qso z8f qod qda qhx qgx qzv qi5 qoy qny qrm qjj qd8 z9s qpb qux z9n qtr qi9 qub qhd qv3 zb0 qec qk1 qa3 qnw quj qwg qdr qve qie qw0 qge z0e z4k z8h z7t qcg qmz qsy qis qnh qvq z6i z5d qei qfb qcz z7b z4y q9v qdt z07 qan qxw qff z7g qmr qj1 qvh qkp z2h qn7 z1z qm8 qsp qj2 qwj qu0 qtn qyv qfo qq8 z3r qwu qbg qbn qlw qro qit qah qot qfq qci qjx qng z7p qlx qm9 qbz za4 qqq qbj qk7 qx7 z7c qrb qjg z9u qtl qok qyr zai qwi zac qv9 qk5 qic qrc qk2 qyj qif z9f qw9 qxm qhr qkl qe1 qrj qox qu6 qn0 qe5 qha qtd qb5 qpi zay z5f qlt qla z6d zam q9s qk4 qug z3e qai quy qmt qyn za7 qtk z95 qrk qsq z2f quc qp8 z2c qnl z3u qrd qtm qew qaf z8u z09 qa1 qko qbv qik qlh z4z z6g qy6 qd5 qrl z0v z2v q9t qf6 qrn z0p qgu qqm qr4 qyl z9a z4b z6l qe3 qpm qp6 z8x qag qzo qnn qyw qf3 mf1 mf2 mf3 mf4 mf5 mf6 mf7 mf8 mf9 zb2 qej z4h qlp ql0 qt7 qn1 qrw qxh z0z qwe qdv qrz z4i z5v qzs qaz quk qee qbh qb6 qpc qd3 z1b z4l z7d qf4 qls qrt qx3 qa0 qe6 qnb qat qdx qqz qd1 z1q qiq z4j z9t qlr qzl z3o qkn qvy qmk qx2 qki qju qa6 qht qdu qdy qde zae qdm z5z qg2 q9w qbb qkz qyc q9n z7r qk8 qy1 z03 qi0 qi7 qdh qlc qw5 qdw z8q qt0 z4r qvd qzm z3l qt4 qno qcr qb2 z5a qab zb6 z0k z8n z0a z4n zb8 qum qww qxr qvb qcq qoa qxb qeo quh qxc qq5 qmn qdb z6o qeq z7e qwh z1d zax qoe qrr qfa qhw qw3 qxd z5l qcx z5s qku qyu z5y z0o zaz qt1 qzd qjv qk9 qqn qvc qp0 z94 qfy qhb qvi qxq qz0 qb3 z8l z1r qpu qbd qdp z1n qvu z3g qz1 z9k z1j zal z4c qm5 qfe qc0 z9h za5 qon z0l qv6 qkk zb9 qvs qt5 qs2 qzg qg3 qpg qbu qgr qnr qy0 qu1 qm2 z0h z5t qnx z0s qfi zbd z9y qta qcd z6r qal z8k qud qjo qgo qkw qhc qqo qks qiy z1s qwq z8o z3w qhn qob qxi qcs qou z8j qfm qw6 qu8 z9e z2k qvw qf2 zb1 qof qwv qkx qy7 qto z90 qsf qsl z8y qkq qnm ql1 qb0 qir qq1 qm1 qhv qt9 qmh qnz z5q qiu z7a qel qqs qig z1t qho qnk qz6 z5g z3a qu9 qe8 z3s qgm qgi qbp qh4 z9g q9y qlj qvf qyd z19 qy2 z05 qo8 qy4 qr6 qkm zan qr2 z7q qfp qns z6t qf7 qxe qf8 z6q qhg qtw z6z qf9 qx4 qbq z7x z4q z2t z2d qeu qij qkh qd6 qs6 qsh qhs qib qbr qm3 qjc qix qi8 qja qau q9x z2l z4s z4x qgv qze z9i qa9 z1x qyz qz9 qyb z3j qef qqr z8a qdi z2i qgc qcn qsm qt2 qo0 qtc zas qr8 qe9 za1 qsn qmu qoz qfd qfn qfw zar z1v z5p qul qbk z1k qqu qfr qbi qgz zbg qgk qzy z0d qo2 qn5 qby qow qma qsu q9z qfc z5m qo6 z2x qwk qka qwn qzf qjn z2n qao qg5 qii qoh qf1 z1l qhp ql8 z0j qmw zat qup qxu qsw qak z6v z1m qym qqw qi2 z16 qly qr7 z7n qx5 z92 z0w qct qev z5e qn8 quf z11 qri qre qvj qdq qlz quq qa4 z6p qjk qo3 qv8 qfj z5h q9m z7k qio qid qgf qq2 qyy qys qet qed quu z3d z3x qgp z2r qw1 z3q qzz qqy qi4 z1a qad qzt qbs z7u qqp qjy z00 qj7 z3z qfx qop qbl z3n qlo qp5 z3t z99 qdj zaq qji qb4 qbo z0g qe4 ql9 qwx qco qz8 z02 za6 qm0 z1y z6j qcb qdz ti3 ti5 ti9
set_option maxHeartbeats 4000000
theorem qz2 : ∀ p r,mr p = some r → O.loop 5 0 ⟨[(0,v_s p.1),(3,v_i p.2.1),(4,v_i p.2.2)],[],0⟩ = some (Ex.normal,⟨[(3,v_i r)],[],0⟩) := by
 refine mr.partial_correctness _ ?_
 rintro mr ih3 ⟨s,n,i⟩ r; dsimp only
 apply it <;> intro h1
 ·refine bc fun b3 h2 f1 f2 => ?_
  have f3 : ((1000003 : Int) = 0) = False := by decide
  intro h; have f4 := ih3 _ _ h; clear h
  try simp only [en.down] at f4
  clear ih3; exact fL fn5
 rintro ⟨⟩
 clear ih3; exact fL fn5
theorem q68 {s r} (h : q1v s = some r) : O.call 5 [v_s s] [] = some (v_i r,[]) := by
 revert h; unfold q1v
 refine bs fun v2 h1 => ?_
 have f1 := qz2 _ _ h1
 try simp only [en.down] at f1
 rintro ⟨⟩
 exact fF fn5
theorem qdk : ∀ p r,q09 p = some r → O.loop 3 0 ⟨[(0,v_s p.1),(1,v_s p.2.1),(5,v_i p.2.2.1),(6,v_i p.2.2.2)],[],0⟩ = some (Ex.normal,⟨[(0,v_s p.1),(1,v_s p.2.1),(5,v_i r)],[],0⟩) := by
 refine q09.partial_correctness _ ?_
 rintro q09 ih4 ⟨s,t,n,i⟩ r; dsimp only
 apply it <;> intro h1
 ·refine bc fun b3 h2 f1 f2 => ?_
  have f3 : ((1000003 : Int) = 0) = False := by decide
  intro h; have f4 := ih4 _ _ h; clear h
  try simp only [en.down] at f4
  clear ih4; exact fL fn3
 rintro ⟨⟩
 clear ih4; exact fL fn3
theorem qlb : ∀ p r,q0a p = some r → O.loop 6 0 ⟨[(0,v_s p.1),(3,v_i p.2.1),(4,v_i p.2.2)],[],0⟩ = some (Ex.normal,⟨[(3,v_i r)],[],0⟩) := by
 refine q0a.partial_correctness _ ?_
 rintro q0a ih6 ⟨s,n,i⟩ r; dsimp only
 apply it <;> intro h1
 ·refine bc fun b3 h2 f1 f2 => ?_
  have f3 : ((1000003 : Int) = 0) = False := by decide
  intro h; have f4 := ih6 _ _ h; clear h
  try simp only [en.down] at f4
  clear ih6; exact fL fn6
 rintro ⟨⟩
 clear ih6; exact fL fn6
theorem q9o {s r} (h : q2i s = some r) : O.call 6 [v_s s] [] = some (v_i r,[]) := by
 revert h; unfold q2i
 refine bs fun v2 h1 => ?_
 have f1 := qlb _ _ h1
 try simp only [en.down] at f1
 rintro ⟨⟩
 exact fF fn6
theorem qzh {s t r} (h : q2w s t = some r) : O.call 3 [v_s s,v_s t] [] = some (v_b r,[]) := by
 revert h; unfold q2w
 refine z9m ?_ (fun h1 h4 => ?_)
 ·rintro (⟨h1,h4⟩ | ⟨h1,h4⟩)
  all_goals
  refine bs fun v3 h2 => ?_
  have f1 := q91 h2
  try simp only [en.down] at f1
  rintro ⟨⟩
  exact fF fn3
 refine bs fun v8 h7 => ?_
 have f2 := q68 h7
 try simp only [en.down] at f2
 refine bs fun v10 h9 => ?_
 have f3 := qdk _ _ h9
 try simp only [en.down] at f3
 refine bs fun v12 h11 => ?_
 have f4 := q9o h11
 try simp only [en.down] at f4
 apply it <;> intro h13
 ·refine gd fun h14 => ?_
  have f5 := eq_true h14
  try simp only [en.down] at f5
  refine bs fun v16 h15 => ?_
  have f6 := q68 h15
  try simp only [en.down] at f6
  apply it <;> intro h17
  ·refine bs fun v19 h18 => ?_
   have f7 := q91 h18
   try simp only [en.down] at f7
   rintro ⟨⟩
   exact fF fn3
  rintro ⟨⟩
  exact fF fn3
 rintro ⟨⟩
 exact fF fn3
end Go.Proofs.YtljbbncgpbgboaaGreatDoor
