/-
  What the machine's calls come to: the plain functions.
-/
import Derived.Test.YtkbgphcebakcnaaGreatFaf
import Derived.Test.YtkbgphcebakcnaaGreatFah
import Derived.Test.YtkbgphcebakcnaaGreatFai
set_option linter.unusedSimpArgs false
set_option linter.unusedVariables false
set_option maxRecDepth 100000
namespace Go.Proofs.YtkbgphcebakcnaaGreat
open Go Go.Gm
attribute [go_sem] needs aop q67 uu List.toList_toArray q72 q55 y7 List.take List.drop List.length_cons List.length_nil List.length_map pq AV.q05 List.append q6x List.getElem?_cons_zero List.getElem?_cons_succ AV.refs AV.ren AV.rows if_true if_false List.nil_append List.append_nil List.cons_append pz unz p9 bu ng q09 qat qa2 List.getElem?_nil touched List.isEmpty_nil Option.some.injEq aUn q26 PV.cells List.replicate List.set_cons_zero List.set_cons_succ nu q7a xh eq_self AV.thaw Blk.thaw gp q4v aEq j3 fitAll zb q58 q19 q5d Blk.ren Blk.refs List.flatMap_nil List.flatMap_cons q31 List.map_cons List.map_nil List.drop_zero Option.isSome_none Option.isNone_none Option.isSome_some Option.isNone_some q1i.eq_def z1e refsOf qpl z5y zan qm1 qrn qfk qr3 qjl qnk z4v qfy qsq qxj z5r zfj z0t z4n z6l z6x zaf qyz qq4 qhi qke freezes.eq_1 freezes.eq_2 ev.eq_1 ev.eq_2 ev.eq_3 ev.eq_4 Env.get.eq_1 Env.get.eq_2 zn.eq_1 zn.eq_2 qf.eq_1 qf.eq_2 q0u.eq_1 xe.eq_1 xe.eq_2 q0j.eq_1 q0j.eq_2 kv.eq_1 kv.eq_2 q78.eq_1 ldP.eq_1 ldP.eq_2 ldA.eq_1 ldA.eq_2 TI.isAgg.eq_1 q0a.eq_1 Heap.get.eq_1 Heap.get.eq_2 Heap.put.eq_1 Heap.put.eq_2 qkw z3z zd7 z1q zbm qgh qtg zcj qj3 z4a qp8 z4b z2s z5n qiv ql4 qzx ze4 z7s z8d jq.eq_1 AV.refs.refsL.eq_1 AV.refs.refsL.eq_2 AV.ren.renL.eq_1 AV.ren.renL.eq_2 zw.eq_1 zw.eq_2 xc.eq_1 xc.eq_2 z1p qgi qxl narrow.eq_1 q2e.eq_1 restrict.eq_1 restrict.eq_2 Heap.upto.eq_1 Heap.upto.eq_2 Heap.below.eq_1 Heap.below.eq_2 Env.below.eq_1 Env.below.eq_2 q0c.eq_1 q0c.eq_2 decide_true and_self AV.rows.rowsL.eq_1 AV.rows.rowsL.eq_2 Nat.zero_lt_one Nat.lt_add_one Nat.zero_le Nat.le_refl Nat.zero_add Nat.add_zero and_true true_and Bool.and_true Bool.true_and decide_false Bool.false_eq_true jm.eq_1 jm.eq_2 z3d qh9 wh.eq_1 wh.eq_2 q3q.eq_1 q3q.eq_2 finish.eq_1 List.range_zero pos.eq_1 pos.eq_2 reach.eq_1 reach.eq_2 reach.eq_3 enter.eq_1 zl.eq_1 zl.eq_2 zf.eq_1 zf.eq_2 jr.eq_1 jr.eq_2 setEnv.eq_1 setEnv.eq_2 z16 zay z2i qje z1u qw7 qrv Bool.not_false Bool.not_true Bool.or_self Bool.or_false Bool.false_or Bool.or_true Bool.true_or zc7 zb9 qht Bool.and_self Bool.and_false Bool.false_and ug.eq_1 ug.eq_2 Nat.mul_one Nat.one_mul true_or or_true false_or or_false or_self and_false false_and Gm.freeze.eq_1 AV.thaw.thawL.eq_1 AV.thaw.thawL.eq_2 qy.eq_1 qy.eq_2 q45.eq_1 yc.eq_1 yc.eq_2 q95.eq_1 closedIn.eq_1 closedIn.eq_2 pick.eq_1 pick.eq_2 nz.eq_1 nz.eq_2 um.eq_1 um.eq_2 xq.eq_1 backTo.eq_1 xy.eq_1 xy.eq_2 kg.eq_1 q0v.eq_1 qi2 qr8 zf3 qpw z8g z2x za3 qnh z5m za0 qll qf3 qu8 qwk z8q zc2 z1d qw1 canon.eq_1 q1m.eq_1 q1m.eq_2 q3a.eq_1 q3a.eq_2 mo.eq_1 mo.eq_2 q30.eq_1 qcl z4o yn qdf qca qc7 qex qc8 qd2 qct qau take_len qf7 qwh qmz z5b q68.eq_1 q68.eq_2 kE.eq_1 qup z9w qf2 qxw qyo qys qvq qz0 qit qyc qkv qkq zd1 z5g qd6 qmb qis z9m zdw zeb qz5 qnx z1w qve qxn zfn zcg qg8 zb1 z8a Int.natCast_zero uf yg take_set List.take_length v_i v_b v_s v_g v_l v_r b_x b_r b_m q7r qw q0s qb3 slE x8 T.Sel.qh T.Span.qh T.Row.qh T.Rx.qh T.Fmt.qh T.Form.qh T.Stop.qh T.qz.qh T.qg.qh T.State.qh T.q9.qh T.zo.qh T.qb.qh T.q02.qh T.q03.qh T.q0p.qh T.qm.qh T.q08.qh qga kp4 pr4 quz kp5 pr5 z4c kp7 pr7 qnv z9z qjh qto qij qsf qwj qsh qtl z2v qzl z1m z8p zdt qv8 qu5 qk0 qq5 z6i qnj z9y qz4 qsr qye qgj qhj qro z7g qxv zdr zb7 qz3 ze3 zae z7l z4d qwl qsm qt0 z0o qk6 qsy qk9 zba z3v qyd z2p zbh zai qub z3h qio zdq qlz qti zg9 qr0 qi3 zcn zdp zek qgs qx1 ql3 qh4 qlw qtc zg8 zcw qoj zc9 z6k qi0 za1 qku qlq qhy qst qy5 qm2 qyk qj6 qwr qs5 qik qnl qh7 qpm z03 qg5 qjo qjm z3y qse qm3 qmx qli z6p z9k qxi z0j qjt z3x qu3 z99 qjz qgn z7m qtk qzi zdv qjb qyh z5x zdi z4q qin qzn z0y zbe qgx z5q z0u qyn zep qxo zey qfr z1f qfm zda z1z qsg qgu qt6 qi8 qu2 zb8 zc8 qvr z2e qu7 qm0 qno qte z9j qix zde qhe qze qkp qsk zfd qwe qim qo0 qof z8m qm7 z5s qvj zcf z7j qqs qp0 zf4 qv2 zd3 zaw qtp z9h z90 qqe qfb qhs qqt qn5 zc1 zbn qpd qks qmp z6j zb5 zbv qpq z4e z3g ql9 qvy zg4 qr1 z1x qiq zas qjs qwt z1v qow zat zal zfe qgy z6u qsb z1n z6q qfa qni z15 zdl qng qfo z5i z6m qf6 zem qkt qrh ze8 zer qt4 z9x z3p zao zac z7o zen qz9 zes zbj qiz qrc z0x z5j qz7 z3n qha z3e zfb qp4 zck qid qwm z9i qxu qui qra qg6 qw0 qv5 qsa zby zg0 z6n zca zbp za6 qig z9a z2z zbr qfh fz1 fz2 fz3 fz4 fz5 fz6 fz7 fz8 fz9 z0q qt8 qwv qoy qoq qp2 qw6 z3a zew qq0 qw3 zdj zdz qvm zbb qzz qs8 z5f zbo zg6 qlj zfs qge zcv qg0 zch qkz zg1 z8t zc6 qk4 za5 qso qzj qj1 zfx qw4 z0i qld z6z z00 qvz qqg z8o qp1 zb3 qrw z0z zb0 qqu qi5 zdm qf5 qkm qmw z7p qus qxt qfq zf5 z2m qzv qtn zg2 z8u quv z8j z4x qnm qyr zff z8v z4t z9t qwg z0w zct qvt qy6 zco qq1 qy8 qhl qvs z6h qmh qnq qoo z92 zeq qhu z7v z10 qxc za4 zcp qqi qo5 qmo qmy z5d qms qmm qr4 qs6 z2j qju qj8 qkn z8r qk3 zah qho qmg qs4 zfu qy4 zf0 z3t z0p z0a zbq qhf z2l zd6 z7a z94 qkc qwy qkf quh qnn ql6 qwz qoa z7t qr6 qre qgv qy2 zcd qrg qki qrx z6f z3i qqo z7q zef zfh z8s qlu qw9 z7b qi9 qqm z0c qtr qol z0r z0g qkg qfc z5e zd4 zga qhq qvw z7y qw5 zbu zb2 zaa qv1 qml qpp z1a z6y qma qza qss zbd qrp z3j qpe zee qtt zfa qkk zd8 z6r qya qn9 zg3 z9l z4k qx7 qif qhz qtq qgp qvp z4u qfs zau qlh qg3 qzg zbc z7i qhm qsw qlg za8 zfy qnt qgw qk8 zex qk5 qgq zd0 qyu qkl qko qj7 qqk qvi qvu ql5 z9p qyv qn7 zev z7d zbg qm5 qwb qn4 z5w z4y z6w qlm z7n qru z3b zej z1k qfu qjq qj2 z13 z06 z8e qpg qvh qv9 mf1 mf2 mf3 mf4 mf5 mf6 mf7 mf8 mf9 z5p qta z0b qlc qtu qkh qqj zeg qtw qhv z9q zd9 qtj zfg qqq qug z5v zcb qj9 qih qx9 qxf qo8 qom qn6 qfw qie ze7 qjj z7h qjp zcx zbs ze0 zfr qhg qm8 qhx qu9 qp5 qym zdu qul qwd qyt qxx qwa qn1 zcz z5k qws qqa qpa zbw qnp qn3 z3c z9v qxs qhw z0d qgb zax qmc qv4 quw z7z qic qxg z4s qxd qqh z07 qvg qz8 qy7 qfl zdo qo6 qzp qgg quq z5h qpf qxz qvc qzm qsj qz2 qr7 qqr qqv z0l qpy qj0 qfv z8b z1s qh5 qtv z14 z8n z2c zdn qq3 z09 qwc z2r z3s zcq qwu qu0 z4p qh6 qvn qt5 qp6 qy0 zg7 qgz qfd qkx qo9 qrb qme z97 qsz qfp qot zbx z3f zfp z02 qn8 qww zc4 qox qt1 zfc qfx ze6 qyw qk1 qny zf1 qov qlr qna qx2 qhb qpc qln zb4 qzy z4z zez qip z01 zcy qw2 qn0 qf9 qvo qrk z7x qpr qfi qkd qyj zcs zfq z3k zcr qfe ql8 qz6 qhr qua qut qnb quf qq8 z7e qs9 qqp z3r z4j qur que qfj z04 zeo z8y qh2 z2y qgr qj4 z88 qp9 zg5 qsn qx0 qfg qjy z4m qu4 qqn z1t qgf qsv qt7 z1r zab qh8 z19 qwx qrz qlf z2q qi7 qiy qtf z1y qq6 z6g z2u qon qwf zc5 qmn qv3 qph qx6 qib qoh z9u zcu z6d z4f z95 qx3 zcc qvv z2o qzh zad z1g qzd qt2 z0f zbz qql ze1 z9r qpv z1j qop ti3 ti9 qnc z6b qo4 qpn zdc zbt qvk qpx z9n z4h qmt qky qjx qlx qyf qs0 qjd ze2 qqx z5o qr2 qj5
set_option maxHeartbeats 4000000
def qe8 : ((Bool) ⊕ (Unit)) → Ex × St
 | .inl y => (Ex.ret,⟨[(6,v_b y)],[],0⟩)
 | .inr y => (Ex.normal,⟨[(6,AV.undef)],[],0⟩)
attribute [local go_sem] qe8
theorem qm9 : ∀ p r,q23 p = some r → O.loop 11 0 ⟨[(1,v_i p.1),(2,v_l 3 T.q9.enc p.2.1),(7,v_i p.2.2)],[],0⟩ = some (qe8 r) := by
 refine q23.partial_correctness _ ?_
 rintro q23 ih3 ⟨n,es,i⟩ r; dsimp only
 apply it <;> intro h1
 ·refine bg T.q9.enc fun x3 h2 f1 f2 f3 => ?_
  apply it <;> intro h4
  ·rintro ⟨⟩
   clear ih3; exact fL q2v
  intro h; have f4 := ih3 _ _ h; clear h
  try simp only [en.down] at f4
  clear ih3; exact fL q2v
 rintro ⟨⟩
 clear ih3; exact fL q2v
theorem qlt {many n es r} (h : q43 many n es = some r) : O.call 11 [v_i many,v_i n,v_l 3 T.q9.enc es] [] = some (v_b r,[]) := by
 revert h; unfold q43
 apply it <;> intro h1
 ·rintro ⟨⟩
  exact fF q2v
 refine bs fun v3 h2 => ?_
 have f1 := qm9 _ _ h2
 try simp only [en.down] at f1
 rcases v3 with y4 | y5
 ·dsimp only
  rintro ⟨⟩
  exact fF q2v
 dsimp only
 rintro ⟨⟩
 exact fF q2v
theorem q1g {s r} (h : gm s = some r) : O.call 28 [v_g (T.Sel.enc s)] [] = some (v_g (T.Span.enc r),[]) := by
 revert h; unfold gm
 rintro ⟨⟩
 exact fF qmd
theorem qcg {s n r} (h : q1b s n = some r) : O.call 24 [v_g (T.Span.enc s),v_i n] [] = some (v_b r,[]) := by
 revert h; unfold q1b
 refine z1l (fun h1 h2 => ?_) ?_
 ·rintro ⟨⟩
  exact fF qem
 rintro (⟨h1,h2⟩ | ⟨h1,h2⟩)
 all_goals
 rintro ⟨⟩
 exact fF qem
def qak (l : (Sl T.Sel)) : (((Sl T.Sel) × Int) ⊕ (Unit)) → Ex × St
 | .inl y => (Ex.ret,⟨[(1,v_l 2 T.Sel.enc l),(4,v_l 2 T.Sel.enc y.1),(5,v_i y.2)],[],0⟩)
 | .inr y => (Ex.normal,⟨[(1,v_l 2 T.Sel.enc l),(4,AV.undef),(5,AV.undef)],[],0⟩)
attribute [local go_sem] qak
theorem z5c : ∀ p r,q27 p = some r → O.loop 13 0 ⟨[(0,v_i p.1),(1,v_l 2 T.Sel.enc p.2.1),(14,v_l 2 T.Sel.enc p.2.2.1),(15,v_i p.2.2.2.1),(16,v_i p.2.2.2.2)],[],0⟩ = some (qak p.2.1 r) := by
 refine q27.partial_correctness _ ?_
 rintro q27 ih7 ⟨n,l,t14,t15,t16⟩ r; dsimp only
 apply it <;> intro h1
 ·refine bg T.Sel.enc fun x3 h2 f1 f2 f3 => ?_
  refine bs fun v5 h4 => ?_
  have f4 := q1g h4
  try simp only [en.down] at f4
  refine bs fun v7 h6 => ?_
  have f5 := qcg h6
  try simp only [en.down] at f5
  apply it <;> intro h8
  ·rintro ⟨⟩
   clear ih7; exact fL q1t
  intro h; have f6 := ih7 _ _ h; clear h
  try simp only [en.down] at f6
  clear ih7; exact fL q1t
 rintro ⟨⟩
 clear ih7; exact fL q1t
def q6h : (((Sl T.Sel)) ⊕ ((List T.Sel))) → AV × Heap
 | .inl y => (v_l 2 T.Sel.enc y,[])
 | .inr y => (v_r 0 y,[(0,Blk.row false 2 (List.map T.Sel.enc y))])
attribute [local go_sem] q6h
theorem q9m {s r} (h : ni s = some r) : O.call 34 [v_l 2 T.Sel.enc s] [] = some (q6h r) := by
 revert h; unfold ni
 apply it <;> intro h1
 ·rintro ⟨⟩
  exact fF qdy
 have f1 := q70 2 T.Sel.enc s.l
 refine gd fun h2 => ?_
 rintro ⟨⟩
 exact fF qdy
theorem qdm {x r} (h : cmp_isNaN_int x = some r) : O.call 77 [v_i x] [] = some (v_b r,[]) := by
 revert h; unfold cmp_isNaN_int
 rintro ⟨⟩
 exact fF qm4
theorem q3n {x y r} (h : cmp_Compare_int x y = some r) : O.call 52 [v_i x,v_i y] [] = some (v_i r,[]) := by
 revert h; unfold cmp_Compare_int
 refine bs fun v2 h1 => ?_
 have f1 := qdm h1
 try simp only [en.down] at f1
 refine bs fun v4 h3 => ?_
 have f2 := qdm h3
 try simp only [en.down] at f2
 apply it <;> intro h5
 ·apply it <;> intro h6
  ·try simp only [h5,h6] at f1 f2
   rintro ⟨⟩
   exact fF q2l
  try simp only [h5,h6] at f1 f2
  rintro ⟨⟩
  exact fF q2l
 apply it <;> intro h7
 ·try simp only [h5,h7] at f1 f2
  rintro ⟨⟩
  exact fF q2l
 apply it <;> intro h8
 ·try simp only [h5,h7] at f1 f2
  rintro ⟨⟩
  exact fF q2l
 apply it <;> intro h9
 ·try simp only [h5,h7] at f1 f2
  rintro ⟨⟩
  exact fF q2l
 try simp only [h5,h7] at f1 f2
 rintro ⟨⟩
 exact fF q2l
def qb9 (zero : Int) (t6 : (List Int)) : ((Int) ⊕ (Unit)) → Ex × St
 | .inl y => (Ex.ret,⟨[(2,v_i y),(3,v_i zero)],[(0,Blk.row false 1 (List.map qw t6))],1⟩)
 | .inr y => (Ex.normal,⟨[(2,AV.undef),(3,v_i zero)],[(0,Blk.row false 1 (List.map qw t6))],1⟩)
attribute [local go_sem] qb9
theorem qqc : ∀ p r,q0f p = some r → O.loop 51 0 ⟨[(3,v_i p.1),(6,v_r 0 p.2.2.2),(7,v_i p.2.1),(8,v_i p.2.2.1)],[(0,Blk.row false 1 (List.map qw p.2.2.2))],1⟩ = some (qb9 p.1 p.2.2.2 r) := by
 refine q0f.partial_correctness _ ?_
 rintro q0f ih22 ⟨zero,t7,t8,t6⟩ r; dsimp only
 apply it <;> intro h1
 ·refine bw qw fun x3 h2 f1 f2 f3 => ?_
  apply it <;> intro h4
  ·rintro ⟨⟩
   clear ih22; exact fL q4w
  intro h; have f4 := ih22 _ _ h; clear h
  try simp only [en.down] at f4
  clear ih22; exact fL q4w
 rintro ⟨⟩
 clear ih22; exact fL q4w
theorem q7j {r_ r} (h : q06 r_ = some r) : O.call 51 [v_r 0 r_] [(0,Blk.row false 1 (List.map qw r_))] = some (v_i r,[(0,Blk.row false 1 (List.map qw r_))]) := by
 revert h; unfold q06
 refine bs fun v2 h1 => ?_
 have f1 := qqc _ _ h1
 try simp only [en.down] at f1
 rcases v2 with y3 | y4
 ·dsimp only
  rintro ⟨⟩
  exact fF q4w
 dsimp only
 rintro ⟨⟩
 exact fF q4w
theorem qbn {a b r} (h : q3w a b = some r) : O.call 50 [v_g (T.Sel.enc a),v_g (T.Sel.enc b)] [] = some (v_i r,[]) := by
 revert h; unfold q3w
 refine bs fun v2 h1 => ?_
 have f1 := q1g h1
 try simp only [en.down] at f1
 refine bs fun v4 h3 => ?_
 have f2 := q1g h3
 try simp only [en.down] at f2
 refine bs fun v6 h5 => ?_
 have f3 := q3n h5
 try simp only [en.down] at f3
 refine bs fun v8 h7 => ?_
 have f4 := q3n h7
 try simp only [en.down] at f4
 refine bs fun v10 h9 => ?_
 have f5 := q7j h9
 try simp only [en.down] at f5
 rintro ⟨⟩
 exact fF ze5
theorem ze9 {data a b i j r} (h : q7f data a b i j = some r) : O.loop 97 2 ⟨[(0,v_l 2 T.Sel.enc data),(1,v_i a),(2,v_i b),(3,AV.pv (PV.fn 50)),(8,v_i i),(9,v_i j)],[],0⟩ = some (Ex.normal,⟨[(0,v_l 2 T.Sel.enc data),(1,v_i a),(2,v_i b),(3,AV.pv (PV.fn 50)),(8,v_i i)],[],0⟩) := by
 revert h; unfold q7f
 apply it <;> intro h1
 ·refine bg T.Sel.enc fun x3 h2 f1 f2 f3 => ?_
  refine bg T.Sel.enc fun x5 h4 f4 f5 f6 => ?_
  refine bs fun v7 h6 => ?_
  have f7 := qbn h6
  try simp only [en.down] at f7
  apply it <;> intro h8
  ·rintro ⟨⟩
  rintro ⟨⟩
  exact fL vw
 rintro ⟨⟩
 exact fL vw
theorem z0h : ∀ p r,q2i p = some r → O.loop 97 0 ⟨[(0,v_l 2 T.Sel.enc p.1),(1,v_i p.2.1),(2,v_i p.2.2.1),(3,AV.pv (PV.fn 50)),(8,v_i p.2.2.2)],[],0⟩ = some (Ex.normal,⟨[],[],0⟩) := by
 refine q2i.partial_correctness _ ?_
 rintro q2i ih16 ⟨data,a,b,i⟩ r; dsimp only
 apply it <;> intro h1
 ·refine bs fun v3 h2 => ?_
  have f1 := ze9 h2
  try simp only [en.down] at f1
  intro h; have f2 := ih16 _ _ h; clear h
  try simp only [en.down] at f2
  clear ih16; exact fL vw
 rintro ⟨⟩
 clear ih16; exact fL vw
theorem qce {data a b r} (h : q5h data a b = some r) : O.call 97 [v_l 2 T.Sel.enc data,v_i a,v_i b,AV.pv (PV.fn 50)] [] = some (AV.tup [],[]) := by
 revert h; unfold q5h
 refine bs fun v2 h1 => ?_
 have f1 := z0h _ _ h1
 try simp only [en.down] at f1
 rintro ⟨⟩
 exact fF vw
theorem z4l : ∀ p r,q3u p = some r → O.loop 76 0 ⟨[(0,v_l 2 T.Sel.enc p.1),(1,v_i p.2.1),(2,AV.pv (PV.fn 50)),(6,v_i p.2.2.1),(7,v_i p.2.2.2.1),(8,v_i p.2.2.2.2)],[],0⟩ = some (Ex.normal,⟨[(0,v_l 2 T.Sel.enc p.1),(1,v_i p.2.1),(2,AV.pv (PV.fn 50)),(6,v_i p.2.2.1),(7,v_i r)],[],0⟩) := by
 refine q3u.partial_correctness _ ?_
 rintro q3u ih14 ⟨data,n,blockSize,a,b⟩ r; dsimp only
 apply it <;> intro h1
 ·refine bs fun v3 h2 => ?_
  have f1 := qce h2
  try simp only [en.down] at f1
  intro h; have f2 := ih14 _ _ h; clear h
  try simp only [en.down] at f2
  clear ih14; exact fL jw
 rintro ⟨⟩
 clear ih14; exact fL jw
theorem qgc {data n blockSize a b r} (h : q81 data n blockSize a b = some r) : O.loop 76 4 ⟨[(0,v_l 2 T.Sel.enc data),(1,v_i n),(2,AV.pv (PV.fn 50)),(6,v_i blockSize),(7,v_i a),(8,v_i b)],[],0⟩ = some (Ex.normal,⟨[(0,v_l 2 T.Sel.enc data),(1,v_i n),(2,AV.pv (PV.fn 50)),(6,v_i blockSize),(7,v_i a)],[],0⟩) := by
 revert h; unfold q81
 apply it <;> intro h1
 ·rintro ⟨⟩
 rintro ⟨⟩
 exact fL jw
theorem qjn : ∀ p r,q3k p = some r → O.loop 76 2 ⟨[(0,v_l 2 T.Sel.enc p.1),(1,v_i p.2.1),(2,AV.pv (PV.fn 50)),(6,v_i p.2.2)],[],0⟩ = some (Ex.normal,⟨[],[],0⟩) := by
 refine q3k.partial_correctness _ ?_
 rintro q3k ih23 ⟨data,n,blockSize⟩ r; dsimp only
 apply it <;> intro h1
 ·refine bs fun v3 h2 => ?_
  have f1 := qgc h2
  try simp only [en.down] at f1
  apply it <;> intro h4
  ·rintro ⟨⟩
  intro h; have f2 := ih23 _ _ h; clear h
  try simp only [en.down] at f2
  clear ih23; exact fL jw
 rintro ⟨⟩
 clear ih23; exact fL jw
theorem qrr {data n r} (h : q6c data n = some r) : O.call 76 [v_l 2 T.Sel.enc data,v_i n,AV.pv (PV.fn 50)] [] = some (AV.tup [],[]) := by
 revert h; unfold q6c
 refine bs fun v2 h1 => ?_
 have f1 := z4l _ _ h1
 try simp only [en.down] at f1
 refine bs fun v4 h3 => ?_
 have f2 := qce h3
 try simp only [en.down] at f2
 refine bs fun v6 h5 => ?_
 have f3 := qjn _ _ h5
 try simp only [en.down] at f3
 rintro ⟨⟩
 exact fF jw
theorem qhk {x r} (h : q4h x = some r) : O.call 49 [v_l 2 T.Sel.enc x,AV.pv (PV.fn 50)] [] = some (AV.tup [],[]) := by
 revert h; unfold q4h
 refine bs fun v2 h1 => ?_
 have f1 := qrr h1
 try simp only [en.down] at f1
 rintro ⟨⟩
 exact fF qb2
theorem qde {a b r} (h : q5x a b = some r) : O.call 53 [v_g (T.Span.enc a),v_g (T.Span.enc b)] [] = some (v_b r,[]) := by
 revert h; unfold q5x
 rintro ⟨⟩
 exact fF zfo
theorem qne : ∀ p r,mr p = some r → O.loop 29 0 ⟨[(4,v_r 0 p.2.2.2),(14,v_l 2 T.Sel.enc p.1),(15,v_i p.2.1),(16,v_i p.2.2.1)],[(0,b_r 2 T.Sel.enc p.2.2.2)],1⟩ = some (Ex.normal,⟨[(4,v_r 0 r)],[(0,b_r 2 T.Sel.enc r)],1⟩) := by
 refine mr.partial_correctness _ ?_
 rintro mr ih25 ⟨t14,t15,t16,out⟩ r; dsimp only
 apply it <;> intro h1
 ·refine bg T.Sel.enc fun x3 h2 f1 f2 f3 => ?_
  apply it <;> intro h4
  ·refine gd fun h5 => ?_
   have f4 := rG 2 T.Sel.enc out
   have f5 : List.map T.Sel.enc out ++ [[PV.int IntKind.i64 x3.anchor,PV.int IntKind.i64 x3.head]] = List.map T.Sel.enc (out ++ [x3]) := by simp only [List.map_append,List.map_cons,List.map_nil,uf,yg,yn,T.Sel.qh] <;> rfl
   intro h; have f6 := ih25 _ _ h; clear h
   try simp only [en.down] at f6
   clear ih25; exact fL jv
  refine bW T.Sel.enc 2 fun x7 h6 f7 f8 f9 f10 f11 => ?_
  refine bs fun v9 h8 => ?_
  have f12 := q1g h8
  try simp only [en.down,f10,f11] at f12
  refine bs fun v11 h10 => ?_
  have f13 := q1g h10
  try simp only [en.down,f10,f11] at f13
  refine bs fun v13 h12 => ?_
  have f14 := qde h12
  try simp only [en.down,f10,f11] at f14
  apply it <;> intro h14
  ·refine gd fun h15 => ?_
   have f15 : List.map T.Sel.enc out ++ [[PV.int IntKind.i64 x3.anchor,PV.int IntKind.i64 x3.head]] = List.map T.Sel.enc (out ++ [x3]) := by simp only [List.map_append,List.map_cons,List.map_nil,uf,yg,yn,T.Sel.qh] <;> rfl
   try simp only [f10,f11] at f12 f13 f14
   intro h; have f16 := ih25 _ _ h; clear h
   try simp only [en.down,f10,f11] at f16
   try simp only [f10,f11] at f16
   clear ih25; exact fL jv
  apply it <;> intro h16
  ·have f17 := map_set T.Sel.enc out ((IntKind.i64.wrap ((out.length : Int) - (1 : Int))).toNat) (T.Sel.mk (if v11.to > v9.to then v11.to else v9.to) v9.frm)
   try simp only [en.down] at f17
   try simp only [f10,f11] at f12 f13 f14 f17
   intro h; have f18 := ih25 _ _ h; clear h
   try simp only [en.down,f10,f11] at f18
   try simp only [f10,f11] at f18
   clear ih25; exact fL jv
  have f19 := map_set T.Sel.enc out ((IntKind.i64.wrap ((out.length : Int) - (1 : Int))).toNat) (T.Sel.mk v9.frm (if v11.to > v9.to then v11.to else v9.to))
  try simp only [en.down] at f19
  try simp only [f10,f11] at f12 f13 f14 f19
  intro h; have f20 := ih25 _ _ h; clear h
  try simp only [en.down,f10,f11] at f20
  try simp only [f10,f11] at f20
  clear ih25; exact fL jv
 rintro ⟨⟩
 clear ih25; exact fL jv
theorem qg2 : ∀ p r,q1w p = some r → r.length = p.2.2.2.2.length ∧ O.loop 97 2 ⟨[(0,v_r 0 p.2.2.2.2),(1,v_i p.1),(2,v_i p.2.1),(3,AV.pv (PV.fn 50)),(8,v_i p.2.2.1),(9,v_i p.2.2.2.1)],[(0,Blk.row false 2 (List.map T.Sel.enc p.2.2.2.2))],1⟩ = some (Ex.normal,⟨[(0,v_r 0 r),(1,v_i p.1),(2,v_i p.2.1),(3,AV.pv (PV.fn 50)),(8,v_i p.2.2.1)],[(0,Blk.row false 2 (List.map T.Sel.enc r))],1⟩) := by
 refine q1w.partial_correctness _ ?_
 rintro q1w ih32 ⟨a,b,i,j,data⟩ r; dsimp only
 apply it <;> intro h1
 ·refine bw T.Sel.enc fun x3 h2 f1 f2 f3 => ?_
  refine bw T.Sel.enc fun x5 h4 f4 f5 f6 => ?_
  refine bs fun v7 h6 => ?_
  have f7 := qbn h6
  try simp only [en.down] at f7
  apply it <;> intro h8
  ·have f8 := map_set T.Sel.enc data j.toNat x5
   try simp only [en.down] at f8
   refine bw T.Sel.enc fun x10 h9 f9 f10 f11 => ?_
   have f12 := map_set T.Sel.enc (data.set j.toNat x5) ((IntKind.i64.wrap (j - (1 : Int))).toNat) x3
   try simp only [en.down] at f12
   intro h; obtain ⟨f13L,f13⟩ := ih32 _ _ h; clear h
   try simp only [en.down] at f13
   clear ih32; exact ⟨by first | rfl | (simp only [List.length_set,f13L]; done),fL vw⟩
  rintro ⟨⟩
  clear ih32; exact ⟨by first | rfl | (simp only [List.length_set]; done),fL vw⟩
 rintro ⟨⟩
 clear ih32; exact ⟨by first | rfl | (simp only [List.length_set]; done),fL vw⟩
theorem qrs : ∀ p r,q1e p = some r → r.length = p.2.2.2.length ∧ O.loop 97 0 ⟨[(0,v_r 0 p.2.2.2),(1,v_i p.1),(2,v_i p.2.1),(3,AV.pv (PV.fn 50)),(8,v_i p.2.2.1)],[(0,Blk.row false 2 (List.map T.Sel.enc p.2.2.2))],1⟩ = some (Ex.normal,⟨[],[(0,Blk.row false 2 (List.map T.Sel.enc r))],1⟩) := by
 refine q1e.partial_correctness _ ?_
 rintro q1e ih31 ⟨a,b,i,data⟩ r; dsimp only
 apply it <;> intro h1
 ·refine bs fun v3 h2 => ?_
  obtain ⟨f1L,f1⟩ := qg2 _ _ h2
  try simp only [List.length_set] at f1L
  try simp only [en.down,f1L] at f1
  try simp only [f1L] at f1
  intro h; obtain ⟨f2L,f2⟩ := ih31 _ _ h; clear h
  try simp only [en.down,f1L] at f2
  try simp only [f1L] at f2
  clear ih31; exact ⟨by first | rfl | (simp only [List.length_set,f2L,f1L]; done),fL vw⟩
 rintro ⟨⟩
 clear ih31; exact ⟨by first | rfl | (simp only [List.length_set]; done),fL vw⟩
theorem qbr {a b r_ r} (h : q4c a b r_ = some r) : r.length = r_.length ∧ O.call 97 [v_r 0 r_,v_i a,v_i b,AV.pv (PV.fn 50)] [(0,Blk.row false 2 (List.map T.Sel.enc r_))] = some (AV.tup [],[(0,Blk.row false 2 (List.map T.Sel.enc r))]) := by
 revert h; unfold q4c
 refine bs fun v2 h1 => ?_
 obtain ⟨f1L,f1⟩ := qrs _ _ h1
 try simp only [List.length_set] at f1L
 try simp only [en.down,f1L] at f1
 try simp only [f1L] at f1
 rintro ⟨⟩
 exact ⟨by first | rfl | (simp only [List.length_set,f1L]; done),fF vw⟩
theorem qg9 : ∀ p r,q36 p = some r → r.2.length = p.2.2.2.2.length ∧ O.loop 76 0 ⟨[(0,v_r 0 p.2.2.2.2),(1,v_i p.1),(2,AV.pv (PV.fn 50)),(6,v_i p.2.1),(7,v_i p.2.2.1),(8,v_i p.2.2.2.1)],[(0,Blk.row false 2 (List.map T.Sel.enc p.2.2.2.2))],1⟩ = some (Ex.normal,⟨[(0,v_r 0 r.2),(1,v_i p.1),(2,AV.pv (PV.fn 50)),(6,v_i p.2.1),(7,v_i r.1)],[(0,Blk.row false 2 (List.map T.Sel.enc r.2))],1⟩) := by
 refine q36.partial_correctness _ ?_
 rintro q36 ih29 ⟨n,blockSize,a,b,data⟩ r; dsimp only
 apply it <;> intro h1
 ·refine bs fun v3 h2 => ?_
  obtain ⟨f1L,f1⟩ := qbr h2
  try simp only [List.length_set] at f1L
  try simp only [en.down,f1L] at f1
  try simp only [f1L] at f1
  intro h; obtain ⟨f2L,f2⟩ := ih29 _ _ h; clear h
  try simp only [en.down,f1L] at f2
  try simp only [f1L] at f2
  clear ih29; exact ⟨by first | rfl | (simp only [List.length_set,f2L,f1L]; done),fL jw⟩
 rintro ⟨⟩
 clear ih29; exact ⟨by first | rfl | (simp only [List.length_set]; done),fL jw⟩
theorem qil {n blockSize a b data r} (h : q7q n blockSize a b data = some r) : O.loop 76 4 ⟨[(0,v_r 0 data),(1,v_i n),(2,AV.pv (PV.fn 50)),(6,v_i blockSize),(7,v_i a),(8,v_i b)],[(0,Blk.row false 2 (List.map T.Sel.enc data))],1⟩ = some (Ex.normal,⟨[(0,v_r 0 data),(1,v_i n),(2,AV.pv (PV.fn 50)),(6,v_i blockSize),(7,v_i a)],[(0,Blk.row false 2 (List.map T.Sel.enc data))],1⟩) := by
 revert h; unfold q7q
 apply it <;> intro h1
 ·rintro ⟨⟩
 rintro ⟨⟩
 exact fL jw
theorem quc : ∀ p r,q34 p = some r → O.loop 76 2 ⟨[(0,v_r 0 p.2.2),(1,v_i p.1),(2,AV.pv (PV.fn 50)),(6,v_i p.2.1)],[(0,Blk.row false 2 (List.map T.Sel.enc p.2.2))],1⟩ = some (Ex.normal,⟨[],[(0,Blk.row false 2 (List.map T.Sel.enc p.2.2))],1⟩) := by
 refine q34.partial_correctness _ ?_
 rintro q34 ih33 ⟨n,blockSize,data⟩ r; dsimp only
 apply it <;> intro h1
 ·refine bs fun v3 h2 => ?_
  have f1 := qil h2
  try simp only [en.down] at f1
  apply it <;> intro h4
  ·rintro ⟨⟩
  intro h; have f2 := ih33 _ _ h; clear h
  try simp only [en.down] at f2
  clear ih33; exact fL jw
 rintro ⟨⟩
 clear ih33; exact fL jw
theorem ql0 {n r_ r} (h : q5s n r_ = some r) : r.length = r_.length ∧ O.call 76 [v_r 0 r_,v_i n,AV.pv (PV.fn 50)] [(0,Blk.row false 2 (List.map T.Sel.enc r_))] = some (AV.tup [],[(0,Blk.row false 2 (List.map T.Sel.enc r))]) := by
 revert h; unfold q5s
 refine bs fun v2 h1 => ?_
 obtain ⟨f1L,f1⟩ := qg9 _ _ h1
 try simp only [List.length_set] at f1L
 try simp only [en.down,f1L] at f1
 refine bs fun v4 h3 => ?_
 obtain ⟨f2L,f2⟩ := qbr h3
 try simp only [List.length_set,f1L] at f2L
 try simp only [en.down,f1L,f2L] at f2
 refine bs fun v6 h5 => ?_
 have f3 := quc _ _ h5
 try simp only [en.down,f1L,f2L] at f3
 try simp only [f1L,f2L] at f1 f2 f3
 rintro ⟨⟩
 exact ⟨by first | rfl | (simp only [List.length_set,f1L,f2L]; done),fF jw⟩
theorem z9b {r_ r} (h : q4m r_ = some r) : r.length = r_.length ∧ O.call 49 [v_r 0 r_,AV.pv (PV.fn 50)] [(0,Blk.row false 2 (List.map T.Sel.enc r_))] = some (AV.tup [],[(0,Blk.row false 2 (List.map T.Sel.enc r))]) := by
 revert h; unfold q4m
 refine bs fun v2 h1 => ?_
 obtain ⟨f1L,f1⟩ := ql0 h1
 try simp only [List.length_set] at f1L
 try simp only [en.down,f1L] at f1
 try simp only [f1L] at f1
 rintro ⟨⟩
 exact ⟨by first | rfl | (simp only [List.length_set,f1L]; done),fF qb2⟩
theorem qt3 : ∀ p r,gy p = some r → O.loop 29 0 ⟨[(4,v_r 1 p.2.2.2),(14,v_r 0 p.2.2.1),(15,v_i p.1),(16,v_i p.2.1)],[(0,Blk.row false 2 (List.map T.Sel.enc p.2.2.1)),(1,b_r 2 T.Sel.enc p.2.2.2)],2⟩ = some (Ex.normal,⟨[(4,v_r 1 r)],[(0,Blk.row false 2 (List.map T.Sel.enc p.2.2.1)),(1,b_r 2 T.Sel.enc r)],2⟩) := by
 refine gy.partial_correctness _ ?_
 rintro gy ih35 ⟨t15,t16,t14,out⟩ r; dsimp only
 apply it <;> intro h1
 ·refine bw T.Sel.enc fun x3 h2 f1 f2 f3 => ?_
  apply it <;> intro h4
  ·refine gd fun h5 => ?_
   have f4 := rG 2 T.Sel.enc out
   have f5 : List.map T.Sel.enc out ++ [[PV.int IntKind.i64 x3.anchor,PV.int IntKind.i64 x3.head]] = List.map T.Sel.enc (out ++ [x3]) := by simp only [List.map_append,List.map_cons,List.map_nil,uf,yg,yn,T.Sel.qh] <;> rfl
   intro h; have f6 := ih35 _ _ h; clear h
   try simp only [en.down] at f6
   clear ih35; exact fL jv
  refine bW T.Sel.enc 2 fun x7 h6 f7 f8 f9 f10 f11 => ?_
  refine bs fun v9 h8 => ?_
  have f12 := q1g h8
  try simp only [en.down,f10,f11] at f12
  refine bs fun v11 h10 => ?_
  have f13 := q1g h10
  try simp only [en.down,f10,f11] at f13
  refine bs fun v13 h12 => ?_
  have f14 := qde h12
  try simp only [en.down,f10,f11] at f14
  apply it <;> intro h14
  ·refine gd fun h15 => ?_
   have f15 : List.map T.Sel.enc out ++ [[PV.int IntKind.i64 x3.anchor,PV.int IntKind.i64 x3.head]] = List.map T.Sel.enc (out ++ [x3]) := by simp only [List.map_append,List.map_cons,List.map_nil,uf,yg,yn,T.Sel.qh] <;> rfl
   try simp only [f10,f11] at f12 f13 f14
   intro h; have f16 := ih35 _ _ h; clear h
   try simp only [en.down,f10,f11] at f16
   try simp only [f10,f11] at f16
   clear ih35; exact fL jv
  apply it <;> intro h16
  ·have f17 := map_set T.Sel.enc out ((IntKind.i64.wrap ((out.length : Int) - (1 : Int))).toNat) (T.Sel.mk (if v11.to > v9.to then v11.to else v9.to) v9.frm)
   try simp only [en.down] at f17
   try simp only [f10,f11] at f12 f13 f14 f17
   intro h; have f18 := ih35 _ _ h; clear h
   try simp only [en.down,f10,f11] at f18
   try simp only [f10,f11] at f18
   clear ih35; exact fL jv
  have f19 := map_set T.Sel.enc out ((IntKind.i64.wrap ((out.length : Int) - (1 : Int))).toNat) (T.Sel.mk v9.frm (if v11.to > v9.to then v11.to else v9.to))
  try simp only [en.down] at f19
  try simp only [f10,f11] at f12 f13 f14 f19
  intro h; have f20 := ih35 _ _ h; clear h
  try simp only [en.down,f10,f11] at f20
  try simp only [f10,f11] at f20
  clear ih35; exact fL jv
 rintro ⟨⟩
 clear ih35; exact fL jv
theorem qe5 {l r} (h : q3j l = some r) : O.call 29 [v_l 2 T.Sel.enc l] [] = some (v_l 2 T.Sel.enc r,[]) := by
 revert h; unfold q3j
 refine bs fun v2 h1 => ?_
 have f1 := q9m h1
 try simp only [en.down] at f1
 rcases v2 with y3 | y8
 ·dsimp only
  refine bs fun v5 h4 => ?_
  have f2 := qhk h4
  try simp only [en.down] at f2
  refine bs fun v7 h6 => ?_
  have f3 := qne _ _ h6
  try simp only [en.down] at f3
  rintro ⟨⟩
  exact fF jv
 dsimp only
 refine bs fun v10 h9 => ?_
 obtain ⟨f4L,f4⟩ := z9b h9
 try simp only [List.length_set] at f4L
 try simp only [en.down,f4L] at f4
 refine bs fun v12 h11 => ?_
 have f5 := qt3 _ _ h11
 try simp only [en.down,f4L] at f5
 try simp only [f4L] at f1 f4 f5
 rintro ⟨⟩
 exact fF jv
theorem qas {n l r} (h : q1h n l = some r) : O.call 13 [v_i n,v_l 2 T.Sel.enc l] [] = some (AV.tup [v_l 2 T.Sel.enc r.1,v_i r.2],[]) := by
 revert h; unfold q1h
 apply it <;> intro h1
 ·rintro ⟨⟩
  exact fF q1t
 apply it <;> intro h2
 ·rintro ⟨⟩
  exact fF q1t
 refine bs fun v4 h3 => ?_
 have f1 := z5c _ _ h3
 try simp only [en.down] at f1
 rcases v4 with y5 | y6
 ·dsimp only
  rintro ⟨⟩
  exact fF q1t
 dsimp only
 refine bs fun v8 h7 => ?_
 have f2 := qe5 h7
 try simp only [en.down] at f2
 rintro ⟨⟩
 exact fF q1t
def qep : ((Bool) ⊕ (Unit)) → Ex × St
 | .inl y => (Ex.ret,⟨[(4,v_b y)],[],0⟩)
 | .inr y => (Ex.normal,⟨[(4,AV.undef)],[],0⟩)
attribute [local go_sem] qep
theorem qob : ∀ p r,q15 p = some r → O.loop 30 0 ⟨[(0,v_l 2 T.Sel.enc p.1),(1,v_l 2 T.Sel.enc p.2.1),(12,v_i p.2.2.1),(13,v_i p.2.2.2)],[],0⟩ = some (qep r) := by
 refine q15.partial_correctness _ ?_
 rintro q15 ih37 ⟨s1,s2,t12,t13⟩ r; dsimp only
 apply it <;> intro h1
 ·refine bg T.Sel.enc fun x3 h2 f1 f2 f3 => ?_
  refine bg T.Sel.enc fun x5 h4 f4 f5 f6 => ?_
  apply it <;> intro h6
  ·rintro ⟨⟩
   clear ih37; exact fL q2r
  intro h; have f7 := ih37 _ _ h; clear h
  try simp only [en.down] at f7
  clear ih37; exact fL q2r
 rintro ⟨⟩
 clear ih37; exact fL q2r
theorem zd2 {s1 s2 r} (h : q13 s1 s2 = some r) : O.call 30 [v_l 2 T.Sel.enc s1,v_l 2 T.Sel.enc s2] [] = some (v_b r,[]) := by
 revert h; unfold q13
 apply it <;> intro h1
 ·rintro ⟨⟩
  exact fF q2r
 refine bs fun v3 h2 => ?_
 have f1 := qob _ _ h2
 try simp only [en.down] at f1
 rcases v3 with y4 | y5
 ·dsimp only
  rintro ⟨⟩
  exact fF q2r
 dsimp only
 rintro ⟨⟩
 exact fF q2r
theorem qsx {n around k end_ t42 t43 t44 t54 t55 t56 b0_ b0_2 s r} (h : q7h n around k end_ t42 t43 t44 t54 t55 t56 b0_ b0_2 s = some r) : O.loop 16 2 ⟨[(3,v_i n),(6,v_l 2 T.Span.enc around),(7,v_i k),(8,AV.ptr 1 0),(9,v_i end_),(42,v_l 2 T.qg.enc t42),(43,v_i t43),(44,v_i t44),(54,v_l 3 T.qz.enc t54),(55,v_i t55),(56,v_i t56)],[(0,Blk.box [v_s b0_,v_l 2 T.Sel.enc b0_2,AV.pv (PV.sl true 0 [])]),(1,b_x (T.qg.enc s))],2⟩ = some (Ex.normal,⟨[(2,AV.undef),(3,v_i n),(8,AV.ptr 1 0),(42,v_l 2 T.qg.enc t42),(43,v_i t43),(44,v_i t44)],[(0,Blk.box [v_s b0_,v_l 2 T.Sel.enc b0_2,AV.pv (PV.sl true 0 [])]),(1,b_x (T.qg.enc s))],2⟩) := by
 revert h; unfold q7h
 apply it <;> intro h1
 ·refine bg T.qz.enc fun x3 h2 f1 f2 f3 => ?_
  rintro ⟨⟩
 rintro ⟨⟩
 exact fL q0x
def qad (b0_ : Bytes) (b0_2 : (Sl T.Sel)) : ((Bool) ⊕ (Unit)) → Ex × St
 | .inl y => (Ex.ret,⟨[(2,v_b y)],[(0,Blk.box [v_s b0_,v_l 2 T.Sel.enc b0_2,AV.pv (PV.sl true 0 [])])],1⟩)
 | .inr y => (Ex.normal,⟨[(2,AV.undef)],[(0,Blk.box [v_s b0_,v_l 2 T.Sel.enc b0_2,AV.pv (PV.sl true 0 [])])],1⟩)
attribute [local go_sem] qad
theorem qri {n around t42 t43 t44 b0_ b0_2 r} (h : q4r n around t42 t43 t44 b0_ b0_2 = some r) : O.loop 16 0 ⟨[(3,v_i n),(6,v_l 2 T.Span.enc around),(42,v_l 2 T.qg.enc t42),(43,v_i t43),(44,v_i t44)],[(0,Blk.box [v_s b0_,v_l 2 T.Sel.enc b0_2,AV.pv (PV.sl true 0 [])])],1⟩ = some (qad b0_ b0_2 r) := by
 revert h; unfold q4r
 apply it <;> intro h1
 ·refine bg T.qg.enc fun x3 h2 f1 f2 f3 => ?_
  apply it <;> intro h4
  ·rintro ⟨⟩
   exact fL q0x
  refine bs fun v6 h5 => ?_
  have f4 := qsx h5
  try simp only [en.down] at f4
  rintro ⟨⟩
 rintro ⟨⟩
 exact fL q0x
theorem zar {st st2 r} (h : q56 st st2 = some r) : O.call 16 [AV.pv (PV.agg [PV.str st,PV.sl st2.nil (szc 2 st2.l) (List.map T.Sel.enc st2.l),PV.sl true 0 []])] [] = some (v_b r,[]) := by
 revert h; unfold q56
 refine bs fun v2 h1 => ?_
 have f1 := qas h1
 try simp only [en.down] at f1
 refine q8t ?_ (fun h3 h4 => ?_)
 ·rintro (⟨h3,h4⟩ | ⟨h3,h4⟩)
  all_goals
  rintro ⟨⟩
  exact fF q0x
 refine bs fun v6 h5 => ?_
 have f2 := zd2 h5
 try simp only [en.down] at f2
 apply it <;> intro h7
 ·rintro ⟨⟩
  exact fF q0x
 have f3 : (decide ((0 : Int) > (8 : Int))) = false := by decide
 refine bs fun v9 h8 => ?_
 have f4 := qri h8
 try simp only [en.down] at f4
 rcases v9 with y10 | y11
 ·dsimp only
  rintro ⟨⟩
  exact fF q0x
 dsimp only
 rintro ⟨⟩
 exact fF q0x
def q90 (n : Int) (es : (Sl T.q9)) : ((Int) ⊕ (Unit)) → Ex × St
 | .inl y => (Ex.ret,⟨[(0,v_i n),(1,v_l 3 T.q9.enc es),(4,v_i y)],[],0⟩)
 | .inr y => (Ex.normal,⟨[(0,v_i n),(1,v_l 3 T.q9.enc es),(4,AV.undef)],[],0⟩)
attribute [local go_sem] q90
theorem qhn : ∀ p r,q18 p = some r → O.loop 12 0 ⟨[(0,v_i p.1),(1,v_l 3 T.q9.enc p.2.1),(7,v_l 3 T.q9.enc p.2.2.1),(8,v_i p.2.2.2.1),(9,v_i p.2.2.2.2)],[],0⟩ = some (q90 p.1 p.2.1 r) := by
 refine q18.partial_correctness _ ?_
 rintro q18 ih41 ⟨n,es,t7,t8,t9⟩ r; dsimp only
 apply it <;> intro h1
 ·refine bg T.q9.enc fun x3 h2 f1 f2 f3 => ?_
  refine bs fun v5 h4 => ?_
  have f4 := qcg h4
  try simp only [en.down] at f4
  apply it <;> intro h6
  ·rintro ⟨⟩
   clear ih41; exact fL q2a
  intro h; have f5 := ih41 _ _ h; clear h
  try simp only [en.down] at f5
  clear ih41; exact fL q2a
 rintro ⟨⟩
 clear ih41; exact fL q2a
theorem z0e : ∀ p r,q0o p = some r → O.loop 26 0 ⟨[(3,v_r 0 p.2.2.2),(6,v_l 3 T.q9.enc p.1),(7,v_i p.2.1),(8,v_i p.2.2.1)],[(0,b_r 2 T.Span.enc p.2.2.2)],1⟩ = some (Ex.normal,⟨[(3,v_r 0 r)],[(0,b_r 2 T.Span.enc r)],1⟩) := by
 refine q0o.partial_correctness _ ?_
 rintro q0o ih43 ⟨t6,t7,t8,out⟩ r; dsimp only
 apply it <;> intro h1
 ·refine bg T.q9.enc fun x3 h2 f1 f2 f3 => ?_
  refine gd fun h4 => ?_
  have f4 := rG 2 T.Span.enc out
  have f5 : List.map T.Span.enc out ++ [[PV.int IntKind.i64 x3.span.frm,PV.int IntKind.i64 x3.span.to]] = List.map T.Span.enc (out ++ [x3.span]) := by simp only [List.map_append,List.map_cons,List.map_nil,uf,yg,yn,T.Span.qh] <;> rfl
  intro h; have f6 := ih43 _ _ h; clear h
  try simp only [en.down] at f6
  clear ih43; exact fL q9v
 rintro ⟨⟩
 clear ih43; exact fL q9v
theorem zc0 {es r} (h : q48 es = some r) : O.call 26 [v_l 3 T.q9.enc es] [] = some (v_l 2 T.Span.enc r,[]) := by
 revert h; unfold q48
 refine bs fun v2 h1 => ?_
 have f1 := z0e _ _ h1
 try simp only [en.down] at f1
 rintro ⟨⟩
 exact fF q9v
def q7k : (((Sl T.Span)) ⊕ ((List T.Span))) → AV × Heap
 | .inl y => (v_l 2 T.Span.enc y,[])
 | .inr y => (v_r 0 y,[(0,Blk.row false 2 (List.map T.Span.enc y))])
attribute [local go_sem] q7k
theorem qmq {s r} (h : q5y s = some r) : O.call 45 [v_l 2 T.Span.enc s] [] = some (q7k r) := by
 revert h; unfold q5y
 apply it <;> intro h1
 ·rintro ⟨⟩
  exact fF qci
 have f1 := q70 2 T.Span.enc s.l
 refine gd fun h2 => ?_
 rintro ⟨⟩
 exact fF qci
theorem qd3 {a b r} (h : q3i a b = some r) : O.call 47 [v_g (T.Span.enc a),v_g (T.Span.enc b)] [] = some (v_i r,[]) := by
 revert h; unfold q3i
 refine bs fun v2 h1 => ?_
 have f1 := q3n h1
 try simp only [en.down] at f1
 refine bs fun v4 h3 => ?_
 have f2 := q3n h3
 try simp only [en.down] at f2
 refine bs fun v6 h5 => ?_
 have f3 := q7j h5
 try simp only [en.down] at f3
 rintro ⟨⟩
 exact fF qvb
theorem qwp {data a b i j r} (h : q9c data a b i j = some r) : O.loop 95 2 ⟨[(0,v_l 2 T.Span.enc data),(1,v_i a),(2,v_i b),(3,AV.pv (PV.fn 47)),(8,v_i i),(9,v_i j)],[],0⟩ = some (Ex.normal,⟨[(0,v_l 2 T.Span.enc data),(1,v_i a),(2,v_i b),(3,AV.pv (PV.fn 47)),(8,v_i i)],[],0⟩) := by
 revert h; unfold q9c
 apply it <;> intro h1
 ·refine bg T.Span.enc fun x3 h2 f1 f2 f3 => ?_
  refine bg T.Span.enc fun x5 h4 f4 f5 f6 => ?_
  refine bs fun v7 h6 => ?_
  have f7 := qd3 h6
  try simp only [en.down] at f7
  apply it <;> intro h8
  ·rintro ⟨⟩
  rintro ⟨⟩
  exact fL yu
 rintro ⟨⟩
 exact fL yu
theorem qyi : ∀ p r,q2c p = some r → O.loop 95 0 ⟨[(0,v_l 2 T.Span.enc p.1),(1,v_i p.2.1),(2,v_i p.2.2.1),(3,AV.pv (PV.fn 47)),(8,v_i p.2.2.2)],[],0⟩ = some (Ex.normal,⟨[],[],0⟩) := by
 refine q2c.partial_correctness _ ?_
 rintro q2c ih50 ⟨data,a,b,i⟩ r; dsimp only
 apply it <;> intro h1
 ·refine bs fun v3 h2 => ?_
  have f1 := qwp h2
  try simp only [en.down] at f1
  intro h; have f2 := ih50 _ _ h; clear h
  try simp only [en.down] at f2
  clear ih50; exact fL yu
 rintro ⟨⟩
 clear ih50; exact fL yu
theorem qdd {data a b r} (h : q44 data a b = some r) : O.call 95 [v_l 2 T.Span.enc data,v_i a,v_i b,AV.pv (PV.fn 47)] [] = some (AV.tup [],[]) := by
 revert h; unfold q44
 refine bs fun v2 h1 => ?_
 have f1 := qyi _ _ h1
 try simp only [en.down] at f1
 rintro ⟨⟩
 exact fF yu
theorem qnu : ∀ p r,q2m p = some r → O.loop 75 0 ⟨[(0,v_l 2 T.Span.enc p.1),(1,v_i p.2.1),(2,AV.pv (PV.fn 47)),(6,v_i p.2.2.1),(7,v_i p.2.2.2.1),(8,v_i p.2.2.2.2)],[],0⟩ = some (Ex.normal,⟨[(0,v_l 2 T.Span.enc p.1),(1,v_i p.2.1),(2,AV.pv (PV.fn 47)),(6,v_i p.2.2.1),(7,v_i r)],[],0⟩) := by
 refine q2m.partial_correctness _ ?_
 rintro q2m ih48 ⟨data,n,blockSize,a,b⟩ r; dsimp only
 apply it <;> intro h1
 ·refine bs fun v3 h2 => ?_
  have f1 := qdd h2
  try simp only [en.down] at f1
  intro h; have f2 := ih48 _ _ h; clear h
  try simp only [en.down] at f2
  clear ih48; exact fL w9
 rintro ⟨⟩
 clear ih48; exact fL w9
theorem qg1 {data n blockSize a b r} (h : q92 data n blockSize a b = some r) : O.loop 75 4 ⟨[(0,v_l 2 T.Span.enc data),(1,v_i n),(2,AV.pv (PV.fn 47)),(6,v_i blockSize),(7,v_i a),(8,v_i b)],[],0⟩ = some (Ex.normal,⟨[(0,v_l 2 T.Span.enc data),(1,v_i n),(2,AV.pv (PV.fn 47)),(6,v_i blockSize),(7,v_i a)],[],0⟩) := by
 revert h; unfold q92
 apply it <;> intro h1
 ·rintro ⟨⟩
 rintro ⟨⟩
 exact fL w9
theorem qzk : ∀ p r,q40 p = some r → O.loop 75 2 ⟨[(0,v_l 2 T.Span.enc p.1),(1,v_i p.2.1),(2,AV.pv (PV.fn 47)),(6,v_i p.2.2)],[],0⟩ = some (Ex.normal,⟨[],[],0⟩) := by
 refine q40.partial_correctness _ ?_
 rintro q40 ih53 ⟨data,n,blockSize⟩ r; dsimp only
 apply it <;> intro h1
 ·refine bs fun v3 h2 => ?_
  have f1 := qg1 h2
  try simp only [en.down] at f1
  apply it <;> intro h4
  ·rintro ⟨⟩
  intro h; have f2 := ih53 _ _ h; clear h
  try simp only [en.down] at f2
  clear ih53; exact fL w9
 rintro ⟨⟩
 clear ih53; exact fL w9
end Go.Proofs.YtkbgphcebakcnaaGreat
