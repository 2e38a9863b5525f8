/-
  What the machine's calls come to: the plain functions.
-/
import Derived.Test.YtdhgdeelagmbpaaGreatQaf
import Derived.Test.YtdhgdeelagmbpaaGreatQah
import Derived.Test.YtdhgdeelagmbpaaGreatQai
set_option linter.unusedSimpArgs false
set_option linter.unusedVariables false
set_option maxRecDepth 100000
namespace Go.Proofs.YtdhgdeelagmbpaaGreat
open Go Go.Gm
attribute [go_sem] needs aop qee q2i List.toList_toArray qeu qcu q25 List.take List.drop List.length_cons List.length_nil List.length_map q3h AV.q7k List.append qf4 List.getElem?_cons_zero List.getElem?_cons_succ AV.refs AV.ren AV.rows if_true if_false List.nil_append List.append_nil List.cons_append q3l unz q3r q47 q5l qr9 List.getElem?_nil touched List.isEmpty_nil Option.some.injEq aUn q7f PV.cells List.replicate List.set_cons_zero List.set_cons_succ q3t qej ui eq_self AV.thaw Blk.thaw q34 qae aEq uk fitAll xx qau q84 qcy Blk.ren Blk.refs List.flatMap_nil List.flatMap_cons qa4 List.map_cons List.map_nil List.drop_zero Option.isSome_none Option.isNone_none Option.isSome_some Option.isNone_some q3g.eq_def zch refsOf qsb z7k z01 zsr zk7 qzl quh zrj zrv qy5 zj7 qwl zgp z6a zin qzf qy2 qt6 qtp qzb z94 qu8 zry qxu freezes.eq_1 freezes.eq_2 ev.eq_1 ev.eq_2 ev.eq_3 ev.eq_4 Env.get.eq_1 Env.get.eq_2 kg.eq_1 kg.eq_2 zg.eq_1 zg.eq_2 q7s.eq_1 vg.eq_1 vg.eq_2 q6c.eq_1 q6c.eq_2 q0w.eq_1 q0w.eq_2 qf1.eq_1 ldP.eq_1 ldP.eq_2 ldA.eq_1 ldA.eq_2 TI.isAgg.eq_1 q4y.eq_1 Heap.get.eq_1 Heap.get.eq_2 Heap.put.eq_1 Heap.put.eq_2 znq qxx qzh z0c z1n zhr zhh zs4 qx7 zhe zow zf1 qz8 z3o z9j ztt zcd z08 ziv qvt q07.eq_1 AV.refs.refsL.eq_1 AV.refs.refsL.eq_2 AV.ren.renL.eq_1 AV.ren.renL.eq_2 wu.eq_1 wu.eq_2 yc.eq_1 yc.eq_2 zg1 zjk zca narrow.eq_1 q8g.eq_1 restrict.eq_1 restrict.eq_2 Heap.upto.eq_1 Heap.upto.eq_2 Heap.below.eq_1 Heap.below.eq_2 Env.below.eq_1 Env.below.eq_2 q6g.eq_1 q6g.eq_2 decide_true and_self AV.rows.rowsL.eq_1 AV.rows.rowsL.eq_2 Nat.zero_lt_one Nat.lt_add_one Nat.zero_le Nat.le_refl Nat.zero_add Nat.add_zero and_true true_and Bool.and_true Bool.true_and decide_false Bool.false_eq_true q09.eq_1 q09.eq_2 zj1 zh8 q13.eq_1 q13.eq_2 qa9.eq_1 qa9.eq_2 finish.eq_1 List.range_zero pos.eq_1 pos.eq_2 reach.eq_1 reach.eq_2 reach.eq_3 enter.eq_1 ku.eq_1 ku.eq_2 jr.eq_1 jr.eq_2 q0e.eq_1 q0e.eq_2 setEnv.eq_1 setEnv.eq_2 z4z qxh qs4 z8o zuj zsb zny Bool.not_false Bool.not_true Bool.or_self Bool.or_false Bool.false_or Bool.or_true Bool.true_or zs1 qv6 zk2 Bool.and_self Bool.and_false Bool.false_and q1g.eq_1 q1g.eq_2 Nat.mul_one Nat.one_mul true_or or_true false_or or_false or_self and_false false_and Gm.freeze.eq_1 AV.thaw.thawL.eq_1 AV.thaw.thawL.eq_2 xh.eq_1 xh.eq_2 qbi.eq_1 q1p.eq_1 q1p.eq_2 qgb.eq_1 closedIn.eq_1 closedIn.eq_2 pick.eq_1 pick.eq_2 q3m.eq_1 q3m.eq_2 q2t.eq_1 q2t.eq_2 yz.eq_1 backTo.eq_1 yg.eq_1 yg.eq_2 mr.eq_1 q72.eq_1 zun quk zp4 zcq zu0 z99 zo6 zpn z2u qvr qv9 zdq zpb z9c zr9 qwo qx2 zb9 canon.eq_1 q7q.eq_1 q7q.eq_2 q91.eq_1 q91.eq_2 q3x.eq_1 q3x.eq_2 q8i.eq_1 qq5 zrt ze qq0 qnd qkj qmm qn0 qjt qko qq3 take_len qze zrl zkj qu1 qef.eq_1 qef.eq_2 kE.eq_1 zie qs3 z7t z8h zat zej zjw zta zoe zi5 z3f zb5 zih qvz qm3 zar qxf z19 z8b zd0 z2c qvg z3q zqi z9q z5z z16 z5o zup zet zf zb take_set List.take_length v_i v_b v_s v_g v_l v_r b_x b_r b_m qm qc qh q0h slE qo6 T.Span.za T.Row.za T.Rx.za T.Fmt.za T.Form.za T.Stop.za T.qj.za T.qb.za T.q4w.za T.qi.za T.qf.za T.q5w.za T.q4q.za T.qo.za T.qw.za T.qp.za T.qy.qog T.qy.qqq T.qy.qlo T.qy.qhb T.qy.za qxe kp6 pr6 z4u kp7 pr7 z3c kp8 pr8 z4v kp9 pr9 zd1 zf0 z7m z7q zki z2w zep za0 zjd zla ztu qti zkf z5i zjv zst zik ztl quu qv8 qxg zuf qsr z7o z3v zj2 zd8 zpu z4m z8i zn7 qw9 zh4 zci z6r qzj z6e zc1 qvk zaz zes qwv zpl qz1 qzg zir z7s zi0 qty zqj zc9 zkr z6s zse zl1 zt3 qt2 zgn zug zon z1w zs8 za8 qsa quc qwt zbk ze4 qsk qs5 z2p zcn qta zl8 z2n qwd zo1 z8u zp3 qsq zt7 zu3 z0p zut zed qws zc4 ztf z6i zbu znf zqc qz9 ze2 z92 z6g zjq zk9 zln qyq quw z04 zje zhu zv5 zjo zq9 zty zs2 ziu qtc zr7 zco qup zdt z8g z5w z4o zex z8z qsu zf8 z1t zr2 z1f zr3 zav zp1 zhf zm8 z3y z8e zrr zbm qxv zbr z5b zu7 zqs qtx qsm zm1 qvv zsf z9d qua z4h zft zhc qza z6d zlh zc8 zox qtf zpf qsc zv9 qsf zi2 qy0 zct ziw zgj zt2 zi3 qx0 zsm zt8 zhm zdh z1b znk z1e zld znm z9a zil zdp zol z1o qrn zr8 ztq zuh zmp qts zeh zji za9 zbv zlb z7d zee zqm zr4 qy7 zlo zd6 zoh zer z1z z8y qtd zdx zhn zt0 zva qy1 ztw qsv zot zhs zk6 zi8 zra zpp zql zsq z3m zhy zfl zml zif qs2 zpd z9s z4w zrn z9r qry quv qw1 zs5 qzn z5p qsn za6 z6w zq2 qzm qwq z06 zps z3i qux zeg zc0 zj9 z6v z4b qro zjs z6n zhq zec qyp zkl zru zau zsd qtt z3z zab z14 qzt zo2 zmz zrb zl9 zja zqh zsp zdo z9e zqr z5h z95 znc qtk zku zb3 qye z8c qur zg9 zm5 z7g z2e z3r zt6 z4e zj5 zte zo5 qzu qxw znh zv0 zg7 zf3 zfs zpo zha zdu z88 qrm zjt qva zrf zfe zsi zel z6y zoy zky zsw z7c zrw z1x qtb znd zos qwc zmu ze1 zm3 z6p z1m zlp qyl zpt zl7 zqf z0q qy9 qx4 zh7 qyz qwx zf6 za3 zsn za7 zic z3l z4k qz6 zrp zka z1k z6q qrp qss zg2 zlf qv2 z1s zi6 zff zmw zvd z2f zri zbo zp2 z9i zbi z0m z0z z8v zof zad zuo z1u qyu qz7 zhj qt9 zo7 zgz ze7 z03 zmy zi1 zax znb z7h zk0 ztr zbh qse qv5 zm2 zjz zog qyh zfy zdc zn0 qzv qvp zrk z5t qs0 zsx qvb zre zsj zn2 qs6 zlc zrd zgr zqt qut zpi z5v z0l zjn qub zk5 qz2 zgw zcu que z6h qwj qyi zp5 zfu qxj zvg zoo z2d zfk z07 zu6 zgg qyy z6b zmr zgu zj0 qvi zp7 qsw zgl qtr z3g z0b zjf zht z13 zd3 zan zb6 quy qsd zlv qtg z7w qsp zc7 zde zp0 zdr zdv z1a zkz qyb zbl zfa zmg za5 z0t zr5 z5g zm6 zbs zme zux zqo qsz qyc zj6 z1d qz0 zss qs7 zkd zbt qxc z0f zd9 za2 zaq ze8 ze0 ztk zrh fz1 fz2 fz3 fz4 fz5 fz6 fz7 fz8 fz9 zai qwn z3e zkm qw6 qwg qu6 zni qvd zkg zac zok zcb zmc zdf ztp z6x qy8 zv4 qu0 zro zfp zh9 zcj zm7 z5c zgo zq1 z9o qyt z1p qx3 zl5 zaf zgk qzp zl2 z6k zfd qy6 zg0 zb7 z3k z2v z81 zjj zj8 zjr z0h zlg qzq qrv qwz zeb zdb znu qyj qx8 z5e zb8 zk4 zsu z1h z9n ze6 z4f zqx z2t zsg z6z qx6 zei z4s z8q z0r zl6 zju zqn qun qzs zno zq7 z8d zns zkh zcv qw7 zrm z2l qt1 qww zg5 qys zv1 zdy zb1 qsx z4p qtz z0o qxs z7i zv8 zbn zm9 zce z5d zgt qzz zmn qvc zhd qw2 qt7 zpe zuv zl0 zlz zng zbj qt3 z7v zoc zbb znl z9x zus ztj z9p ziy z4c zmm qvm zaa qwu qwy ztg zhz qxk qyr zda zlm zmi qvq qu5 zr1 qxd qw0 zf2 zom zt1 qxt zd7 qsh zh2 zi9 zf9 qs1 z8n z8r zcf zsc zba z9k z0j zr6 zbq zkv zbf zkk qxy z9f z2y z2j zor qyk z9m ztd ztm zpg zpc zh1 zo8 z6t zlx qw8 zfz zh6 zmq zdn z6o z7r zue zu4 zib zl4 zuu zph zb0 zqk zk3 ztv ti3 ti4 ti5 ti9 zs6 zdg zfb qto zqe zdz qzw z5q z0y qzx zqq zd2 qud znw zfw z7a zdj z2x qy3 zcw z96 qru z6c zpr zga qv7 zb4 z5x z0w z0d zv2 z3b z9g z6u z6f
set_option maxHeartbeats 4000000
theorem q75 {c r} (h : q1r c = some r) : O.call 93 [AV.pv (PV.int IntKind.u8 (c.toNat : Int))] [] = some (v_b r,[]) := by
 revert h; unfold q1r
 apply it <;> intro h1
 ·rintro ⟨⟩
  exact fF qqt
 rintro ⟨⟩
 exact fF qqt
theorem z2a : ∀ p r,q7b p = some r → O.loop 71 0 ⟨[(0,v_s p.1),(1,v_i p.2.1),(7,v_i p.2.2.1),(8,v_i p.2.2.2)],[],0⟩ = some (Ex.normal,⟨[(0,v_s p.1),(1,v_i p.2.1),(7,v_i r.1),(8,v_i r.2)],[],0⟩) := by
 refine q7b.partial_correctness _ ?_
 rintro q7b ih7 ⟨s,at_,n,end_⟩ r; dsimp only
 refine zw (fun h1 h2 => ?_) ?_
 ·refine bc fun b4 h3 f1 f2 => ?_
  refine bs fun v6 h5 => ?_
  have f3 := q75 h5
  try simp only [en.down] at f3
  apply it <;> intro h7
  ·try simp only [h7] at f3
   intro h; have f4 := ih7 _ _ h; clear h
   try simp only [en.down] at f4
   try simp only [h7] at f4
   clear ih7; exact fL q6n
  try simp only [h7] at f3
  rintro ⟨⟩
  clear ih7; exact fL q6n
 rintro (⟨h1,h2⟩ | ⟨h1,h2⟩)
 all_goals
 rintro ⟨⟩
 clear ih7; exact fL q6n
theorem qj5 {s at_ r} (h : q70 s at_ = some r) : O.call 71 [v_s s,v_i at_] [] = some (AV.tup [v_i r.1,v_i r.2.1,v_b r.2.2],[]) := by
 revert h; unfold q70
 refine bs fun v2 h1 => ?_
 have f1 := z2a _ _ h1
 try simp only [en.down] at f1
 apply it <;> intro h3
 ·rintro ⟨⟩
  exact fF q6n
 apply it <;> intro h4
 ·refine bc fun b6 h5 f2 f3 => ?_
  refine bs fun v8 h7 => ?_
  have f4 := q75 h7
  try simp only [en.down] at f4
  apply it <;> intro h9
  ·try simp only [h9] at f1 f4
   rintro ⟨⟩
   exact fF q6n
  try simp only [h9] at f1 f4
  rintro ⟨⟩
  exact fF q6n
 rintro ⟨⟩
 exact fF q6n
theorem qfk {c r} (h : q5a c = some r) : O.call 94 [AV.pv (PV.int IntKind.u8 (c.toNat : Int))] [] = some (v_b r,[]) := by
 revert h; unfold q5a
 refine zw (fun h1 h2 => ?_) ?_
 ·rintro ⟨⟩
  exact fF qj2
 rintro (⟨h1,h2⟩ | ⟨h1,h2⟩)
 all_goals
 apply it <;> intro h4
 ·rintro ⟨⟩
  exact fF qj2
 rintro ⟨⟩
 exact fF qj2
theorem z9l : ∀ p r,q45 p = some r → O.loop 72 0 ⟨[(0,AV.ptr 0 0),(1,v_i p.1),(7,v_i p.2.1)],[(0,Blk.box [v_s p.2.2.1,v_r 1 p.2.2.2.1,v_r 2 p.2.2.2.2]),(1,Blk.row false 18 (List.map T.qb.enc p.2.2.2.1)),(2,Blk.row false 1 (List.map qc p.2.2.2.2))],3⟩ = some (Ex.normal,⟨[(0,AV.ptr 0 0),(1,v_i p.1),(7,v_i r)],[(0,Blk.box [v_s p.2.2.1,v_r 1 p.2.2.2.1,v_r 2 p.2.2.2.2]),(1,Blk.row false 18 (List.map T.qb.enc p.2.2.2.1)),(2,Blk.row false 1 (List.map qc p.2.2.2.2))],3⟩) := by
 refine q45.partial_correctness _ ?_
 rintro q45 ih10 ⟨at_,end_,r_,r1_,r2_⟩ r; dsimp only
 apply it <;> intro h1
 ·refine bc fun b3 h2 f1 f2 => ?_
  refine bs fun v5 h4 => ?_
  have f3 := qfk h4
  try simp only [en.down] at f3
  apply it <;> intro h6
  ·try simp only [h6] at f3
   intro h; have f4 := ih10 _ _ h; clear h
   try simp only [en.down] at f4
   try simp only [h6] at f4
   clear ih10; exact fL q6s
  apply it <;> intro h7
  ·try simp only [h6] at f3
   intro h; have f5 := ih10 _ _ h; clear h
   try simp only [en.down] at f5
   try simp only [h6] at f5
   clear ih10; exact fL q6s
  apply it <;> intro h8
  ·refine bs fun v10 h9 => ?_
   have f6 := q75 h9
   try simp only [en.down] at f6
   apply it <;> intro h11
   ·try simp only [h6,h11] at f3 f6
    intro h; have f7 := ih10 _ _ h; clear h
    try simp only [en.down] at f7
    try simp only [h6,h11] at f7
    clear ih10; exact fL q6s
   try simp only [h6,h11] at f3 f6
   rintro ⟨⟩
   clear ih10; exact fL q6s
  try simp only [h6] at f3
  rintro ⟨⟩
  clear ih10; exact fL q6s
 rintro ⟨⟩
 clear ih10; exact fL q6s
def qoo : ((Bool) ⊕ (Unit)) → Ex × St
 | .inl y => (Ex.ret,⟨[(2,v_b y)],[],0⟩)
 | .inr y => (Ex.normal,⟨[(2,AV.undef)],[],0⟩)
attribute [local go_sem] qoo
theorem z7p : ∀ p r,q0v p = some r → O.loop 77 0 ⟨[(0,v_s p.1),(3,v_i p.2)],[],0⟩ = some (qoo r) := by
 refine q0v.partial_correctness _ ?_
 rintro q0v ih13 ⟨s,i⟩ r; dsimp only
 apply it <;> intro h1
 ·refine bc fun b3 h2 f1 f2 => ?_
  refine bs fun v5 h4 => ?_
  have f3 := qfk h4
  try simp only [en.down] at f3
  apply it <;> intro h6
  ·apply it <;> intro h7
   ·apply it <;> intro h8
    ·rintro ⟨⟩
     clear ih13; exact fL q4k
    refine bs fun v10 h9 => ?_
    have f4 := q75 h9
    try simp only [en.down] at f4
    apply it <;> intro h11
    ·rintro ⟨⟩
     clear ih13; exact fL q4k
    intro h; have f5 := ih13 _ _ h; clear h
    try simp only [en.down] at f5
    clear ih13; exact fL q4k
   intro h; have f6 := ih13 _ _ h; clear h
   try simp only [en.down] at f6
   clear ih13; exact fL q4k
  intro h; have f7 := ih13 _ _ h; clear h
  try simp only [en.down] at f7
  clear ih13; exact fL q4k
 rintro ⟨⟩
 clear ih13; exact fL q4k
theorem q6w {s r} (h : bq s = some r) : O.call 77 [v_s s] [] = some (v_b r,[]) := by
 revert h; unfold bq
 refine xq ?_ (fun h1 h2 => ?_)
 ·rintro (⟨h1,h2⟩ | ⟨h1,h2⟩)
  all_goals
  rintro ⟨⟩
  exact fF q4k
 refine bs fun v4 h3 => ?_
 have f1 := z7p _ _ h3
 try simp only [en.down] at f1
 rcases v4 with y5 | y6
 ·dsimp only
  rintro ⟨⟩
  exact fF q4k
 dsimp only
 rintro ⟨⟩
 exact fF q4k
theorem qvl {at_ b r_ r_2 r} (h : qcp at_ b r_ r_2 = some r) : O.call 72 [AV.ptr 0 0,v_i at_] [(0,Blk.box [v_s b,v_r 1 r_,v_r 2 r_2]),(1,Blk.row false 18 (List.map T.qb.enc r_)),(2,Blk.row false 1 (List.map qc r_2))] = some (AV.tup [v_s r.1,v_i r.2.1,v_b r.2.2],[(0,Blk.box [v_s b,v_r 1 r_,v_r 2 r_2]),(1,Blk.row false 18 (List.map T.qb.enc r_)),(2,Blk.row false 1 (List.map qc r_2))]) := by
 revert h; unfold qcp
 refine bs fun v2 h1 => ?_
 have f1 := z9l _ _ h1
 try simp only [en.down] at f1
 refine b2s fun r4 h3 f2 f3 f4 f5 f6 => ?_
 refine bs fun v6 h5 => ?_
 have f7 := q6w h5
 try simp only [en.down] at f7
 rintro ⟨⟩
 exact fF q6s
theorem qrj {at_ b r_ r_2 r} (h : q9e at_ b r_ r_2 = some r) : O.call 52 [AV.ptr 0 0,v_i at_] [(0,Blk.box [v_s b,v_r 1 r_,v_r 2 r_2]),(1,Blk.row false 18 (List.map T.qb.enc r_)),(2,Blk.row false 1 (List.map qc r_2))] = some (AV.tup [v_g (T.qb.enc r.1),v_i r.2.1,v_b r.2.2],[(0,Blk.box [v_s b,v_r 1 r_,v_r 2 r_2]),(1,Blk.row false 18 (List.map T.qb.enc r_)),(2,Blk.row false 1 (List.map qc r_2))]) := by
 revert h; unfold q9e
 refine bs fun v2 h1 => ?_
 have f1 := qj5 h1
 try simp only [en.down] at f1
 apply it <;> intro h3
 ·try simp only [h3] at f1
  rintro ⟨⟩
  exact fF qie
 refine bs fun v5 h4 => ?_
 have f2 := qvl h4
 try simp only [en.down] at f2
 apply it <;> intro h6
 ·try simp only [h3,h6] at f1 f2
  rintro ⟨⟩
  exact fF qie
 try simp only [h3,h6] at f1 f2
 rintro ⟨⟩
 exact fF qie
theorem qge {s at_ opt r} (h : q74 s at_ opt = some r) : O.call 55 [v_s s,v_i at_,v_b opt] [] = some (v_b r,[]) := by
 revert h; unfold q74
 refine bc fun b2 h1 f1 f2 => ?_
 refine xq ?_ (fun h3 h4 => ?_)
 ·rintro (⟨h3,h4⟩ | ⟨h3,h4⟩)
  all_goals
  rintro ⟨⟩
  exact fF qbu
 refine bc fun b6 h5 f3 f4 => ?_
 refine qc8 ?_ (fun h7 h8 h9 => ?_)
 ·rintro (⟨h7,h8,h9⟩ | ⟨h7,h8,h9⟩ | ⟨h7,h8,h9⟩)
  all_goals
  rintro ⟨⟩
  exact fF qbu
 apply it <;> intro h10
 ·apply it <;> intro h11
  ·rintro ⟨⟩
   exact fF qbu
  rintro ⟨⟩
  exact fF qbu
 rintro ⟨⟩
 exact fF qbu
theorem z1l : ∀ p r,gq p = some r → O.loop 38 0 ⟨[(0,AV.ptr 0 0),(1,v_i p.1),(2,v_b p.2.1),(8,v_r 3 p.2.2.2.2.2.1),(9,v_r 4 p.2.2.2.2.2.2)],[(0,Blk.box [v_s p.2.2.1,v_r 1 p.2.2.2.1,v_r 2 p.2.2.2.2.1]),(1,Blk.row false 18 (List.map T.qb.enc p.2.2.2.1)),(2,Blk.row false 1 (List.map qc p.2.2.2.2.1)),(3,b_r 18 T.qb.enc p.2.2.2.2.2.1),(4,b_r 1 qm p.2.2.2.2.2.2)],5⟩ = some (Ex.normal,⟨[(0,AV.ptr 0 0),(1,v_i r.1),(2,v_b p.2.1),(8,v_r 3 r.2.1),(9,v_r 4 r.2.2)],[(0,Blk.box [v_s p.2.2.1,v_r 1 p.2.2.2.1,v_r 2 p.2.2.2.2.1]),(1,Blk.row false 18 (List.map T.qb.enc p.2.2.2.1)),(2,Blk.row false 1 (List.map qc p.2.2.2.2.1)),(3,b_r 18 T.qb.enc r.2.1),(4,b_r 1 qm r.2.2)],5⟩) := by
 refine gq.partial_correctness _ ?_
 rintro gq ih15 ⟨at_,braced,r_,r1_,r2_,l,text⟩ r; dsimp only
 apply it <;> intro h1
 ·apply it <;> intro h2
  ·refine bc fun b4 h3 f1 f2 => ?_
   apply it <;> intro h5
   ·refine bw qc fun x7 h6 f3 f4 f5 => ?_
    apply it <;> intro h8
    ·have f6 := jh 1 qm text
     have f7 := bytesOf_map text
     refine bw T.qb.enc fun x10 h9 f8 f9 f10 => ?_
     refine gd fun h11 => ?_
     have f11 := fun te β nx c0 c1 (h1 : 18 = te.size) (h2 : ql (l.length + 2) te.bytes = true) => qiq te β 18 nx T.qb.enc l c0 [c1] h1 h2
     have f12 : List.map T.qb.enc l ++ [[PV.int IntKind.i64 (0 : Int),PV.str text,PV.int IntKind.i64 (0 : Int),PV.bool false,PV.bool false,PV.int IntKind.i64 (0 : Int),PV.str ([] : Bytes),PV.bool false,PV.sl true 0 [],PV.int IntKind.i64 (0 : Int),PV.int IntKind.i64 (0 : Int),PV.bool false,PV.sl true 0 [],PV.sl true 0 [],PV.bool false,PV.bool false,PV.sl true 0 [],PV.sl true 0 []],[PV.int IntKind.i64 x10.kind,PV.str x10.text,PV.int IntKind.i64 x10.n,PV.bool x10.has,PV.bool x10.turned,PV.int IntKind.i64 x10.form.rx.kind,PV.str x10.form.rx.char,PV.bool x10.form.rx.not,PV.sl x10.form.rx.rows.nil (szc 2 x10.form.rx.rows.l) (List.map T.Row.enc x10.form.rx.rows.l),PV.int IntKind.i64 x10.form.rx.min,PV.int IntKind.i64 x10.form.rx.max,PV.bool x10.form.rx.lazy,PV.sl x10.form.rx.kids.nil (szc 8 x10.form.rx.kids.l) (List.map T.Rx.enc x10.form.rx.kids.l),PV.sl x10.form.fmts.nil (szc 5 x10.form.fmts.l) (List.map T.Fmt.enc x10.form.fmts.l),PV.bool x10.form.fold,PV.bool x10.form.all,PV.sl x10.opts.nil (szc 1 x10.opts.l) (List.map qh x10.opts.l),PV.sl x10.kids.nil (szc 18 x10.kids.l) (List.map T.qb.enc x10.kids.l)]] = List.map T.qb.enc (l ++ [(T.qb.mk (0 : Int) text (0 : Int) false false (T.Form.mk (T.Rx.mk (0 : Int) ([] : Bytes) false (⟨true,[]⟩ : (Sl T.Row)) (0 : Int) (0 : Int) false (⟨true,[]⟩ : (Sl T.Rx))) (⟨true,[]⟩ : (Sl T.Fmt)) false false) (⟨true,[]⟩ : (Sl Bytes)) (⟨true,[]⟩ : (Sl T.qb))),x10]) := by simp only [List.map_append,List.map_cons,List.map_nil,zf,zb,ze,T.qb.za] <;> rfl
     intro h; have f13 := ih15 _ _ h; clear h
     try simp only [en.down] at f13
     try simp only [h2] at f13
     clear ih15; exact fL q2n
    refine bs fun v13 h12 => ?_
    have f14 := qge h12
    try simp only [en.down] at f14
    apply it <;> intro h14
    ·refine bc fun b16 h15 f15 f16 => ?_
     refine gd fun h17 => ?_
     have f17 := rG 1 qm text
     have f18 : List.map qm text ++ [[PV.int IntKind.u8 (b16.toNat : Int)]] = List.map qm (text ++ [b16]) := by simp only [List.map_append,List.map_cons,List.map_nil,zf,zb,ze,qm] <;> rfl
     try simp only [h2,h14] at f14
     intro h; have f19 := ih15 _ _ h; clear h
     try simp only [en.down] at f19
     try simp only [h2,h14] at f19
     clear ih15; exact fL q2n
    refine gd fun h18 => ?_
    have f20 := rG 1 qm text
    have f21 : List.map qm text ++ [[PV.int IntKind.u8 (b4.toNat : Int)]] = List.map qm (text ++ [b4]) := by simp only [List.map_append,List.map_cons,List.map_nil,zf,zb,ze,qm] <;> rfl
    try simp only [h2,h14] at f14
    intro h; have f22 := ih15 _ _ h; clear h
    try simp only [en.down] at f22
    try simp only [h2,h14] at f22
    clear ih15; exact fL q2n
   rintro ⟨⟩
   clear ih15; exact fL q2n
  refine bw qc fun x20 h19 f23 f24 f25 => ?_
  apply it <;> intro h21
  ·have f26 := jh 1 qm text
   have f27 := bytesOf_map text
   refine bw T.qb.enc fun x23 h22 f28 f29 f30 => ?_
   refine gd fun h24 => ?_
   have f31 := fun te β nx c0 c1 (h1 : 18 = te.size) (h2 : ql (l.length + 2) te.bytes = true) => qiq te β 18 nx T.qb.enc l c0 [c1] h1 h2
   have f32 : List.map T.qb.enc l ++ [[PV.int IntKind.i64 (0 : Int),PV.str text,PV.int IntKind.i64 (0 : Int),PV.bool false,PV.bool false,PV.int IntKind.i64 (0 : Int),PV.str ([] : Bytes),PV.bool false,PV.sl true 0 [],PV.int IntKind.i64 (0 : Int),PV.int IntKind.i64 (0 : Int),PV.bool false,PV.sl true 0 [],PV.sl true 0 [],PV.bool false,PV.bool false,PV.sl true 0 [],PV.sl true 0 []],[PV.int IntKind.i64 x23.kind,PV.str x23.text,PV.int IntKind.i64 x23.n,PV.bool x23.has,PV.bool x23.turned,PV.int IntKind.i64 x23.form.rx.kind,PV.str x23.form.rx.char,PV.bool x23.form.rx.not,PV.sl x23.form.rx.rows.nil (szc 2 x23.form.rx.rows.l) (List.map T.Row.enc x23.form.rx.rows.l),PV.int IntKind.i64 x23.form.rx.min,PV.int IntKind.i64 x23.form.rx.max,PV.bool x23.form.rx.lazy,PV.sl x23.form.rx.kids.nil (szc 8 x23.form.rx.kids.l) (List.map T.Rx.enc x23.form.rx.kids.l),PV.sl x23.form.fmts.nil (szc 5 x23.form.fmts.l) (List.map T.Fmt.enc x23.form.fmts.l),PV.bool x23.form.fold,PV.bool x23.form.all,PV.sl x23.opts.nil (szc 1 x23.opts.l) (List.map qh x23.opts.l),PV.sl x23.kids.nil (szc 18 x23.kids.l) (List.map T.qb.enc x23.kids.l)]] = List.map T.qb.enc (l ++ [(T.qb.mk (0 : Int) text (0 : Int) false false (T.Form.mk (T.Rx.mk (0 : Int) ([] : Bytes) false (⟨true,[]⟩ : (Sl T.Row)) (0 : Int) (0 : Int) false (⟨true,[]⟩ : (Sl T.Rx))) (⟨true,[]⟩ : (Sl T.Fmt)) false false) (⟨true,[]⟩ : (Sl Bytes)) (⟨true,[]⟩ : (Sl T.qb))),x23]) := by simp only [List.map_append,List.map_cons,List.map_nil,zf,zb,ze,T.qb.za] <;> rfl
   intro h; have f33 := ih15 _ _ h; clear h
   try simp only [en.down] at f33
   try simp only [h2] at f33
   clear ih15; exact fL q2n
  refine bs fun v26 h25 => ?_
  have f34 := qge h25
  try simp only [en.down] at f34
  apply it <;> intro h27
  ·refine bc fun b29 h28 f35 f36 => ?_
   refine gd fun h30 => ?_
   have f37 := rG 1 qm text
   have f38 : List.map qm text ++ [[PV.int IntKind.u8 (b29.toNat : Int)]] = List.map qm (text ++ [b29]) := by simp only [List.map_append,List.map_cons,List.map_nil,zf,zb,ze,qm] <;> rfl
   try simp only [h2,h27] at f34
   intro h; have f39 := ih15 _ _ h; clear h
   try simp only [en.down] at f39
   try simp only [h2,h27] at f39
   clear ih15; exact fL q2n
  refine bc fun b32 h31 f40 f41 => ?_
  refine gd fun h33 => ?_
  have f42 := rG 1 qm text
  have f43 : List.map qm text ++ [[PV.int IntKind.u8 (b32.toNat : Int)]] = List.map qm (text ++ [b32]) := by simp only [List.map_append,List.map_cons,List.map_nil,zf,zb,ze,qm] <;> rfl
  try simp only [h2,h27] at f34
  intro h; have f44 := ih15 _ _ h; clear h
  try simp only [en.down] at f44
  try simp only [h2,h27] at f44
  clear ih15; exact fL q2n
 rintro ⟨⟩
 clear ih15; exact fL q2n
theorem znj : ∀ p r,q0f p = some r → O.loop 56 0 ⟨[(0,v_l 18 T.qb.enc p.1),(3,v_r 0 p.2.2),(4,v_i p.2.1)],[(0,b_r 18 T.qb.enc p.2.2)],1⟩ = some (Ex.normal,⟨[(3,v_r 0 r)],[(0,b_r 18 T.qb.enc r)],1⟩) := by
 refine q0f.partial_correctness _ ?_
 rintro q0f ih18 ⟨l,i,out⟩ r; dsimp only
 apply it <;> intro h1
 ·refine bg T.qb.enc fun x3 h2 f1 f2 f3 => ?_
  apply it <;> intro h4
  ·apply it <;> intro h5
   ·intro h; have f4 := ih18 _ _ h; clear h
    try simp only [en.down] at f4
    clear ih18; exact fL q7c
   apply it <;> intro h6
   ·refine bW T.qb.enc 18 fun x8 h7 f5 f6 f7 f8 f9 => ?_
    apply it <;> intro h9
    ·refine gd fun h10 => ?_
     have f10 := eq_true h10
     try simp only [en.down] at f10
     have f11 := map_set T.qb.enc out ((IntKind.i64.wrap ((out.length : Int) - (1 : Int))).toNat) (T.qb.mk x8.kind (x8.text ++ x3.text) x8.n x8.has x8.turned x8.form x8.opts x8.kids)
     try simp only [en.down] at f11
     try simp only [f8,f9] at f11
     intro h; have f12 := ih18 _ _ h; clear h
     try simp only [en.down,f8,f9] at f12
     try simp only [f8,f9] at f12
     clear ih18; exact fL q7c
    refine gd fun h11 => ?_
    have f13 : List.map T.qb.enc out ++ [[PV.int IntKind.i64 x3.kind,PV.str x3.text,PV.int IntKind.i64 x3.n,PV.bool x3.has,PV.bool x3.turned,PV.int IntKind.i64 x3.form.rx.kind,PV.str x3.form.rx.char,PV.bool x3.form.rx.not,PV.sl x3.form.rx.rows.nil (szc 2 x3.form.rx.rows.l) (List.map T.Row.enc x3.form.rx.rows.l),PV.int IntKind.i64 x3.form.rx.min,PV.int IntKind.i64 x3.form.rx.max,PV.bool x3.form.rx.lazy,PV.sl x3.form.rx.kids.nil (szc 8 x3.form.rx.kids.l) (List.map T.Rx.enc x3.form.rx.kids.l),PV.sl x3.form.fmts.nil (szc 5 x3.form.fmts.l) (List.map T.Fmt.enc x3.form.fmts.l),PV.bool x3.form.fold,PV.bool x3.form.all,PV.sl x3.opts.nil (szc 1 x3.opts.l) (List.map qh x3.opts.l),PV.sl x3.kids.nil (szc 18 x3.kids.l) (List.map T.qb.enc x3.kids.l)]] = List.map T.qb.enc (out ++ [x3]) := by simp only [List.map_append,List.map_cons,List.map_nil,zf,zb,ze,T.qb.za] <;> rfl
    intro h; have f14 := ih18 _ _ h; clear h
    try simp only [en.down,f8,f9] at f14
    try simp only [f8,f9] at f14
    clear ih18; exact fL q7c
   refine gd fun h12 => ?_
   have f15 := rG 18 T.qb.enc out
   have f16 : List.map T.qb.enc out ++ [[PV.int IntKind.i64 x3.kind,PV.str x3.text,PV.int IntKind.i64 x3.n,PV.bool x3.has,PV.bool x3.turned,PV.int IntKind.i64 x3.form.rx.kind,PV.str x3.form.rx.char,PV.bool x3.form.rx.not,PV.sl x3.form.rx.rows.nil (szc 2 x3.form.rx.rows.l) (List.map T.Row.enc x3.form.rx.rows.l),PV.int IntKind.i64 x3.form.rx.min,PV.int IntKind.i64 x3.form.rx.max,PV.bool x3.form.rx.lazy,PV.sl x3.form.rx.kids.nil (szc 8 x3.form.rx.kids.l) (List.map T.Rx.enc x3.form.rx.kids.l),PV.sl x3.form.fmts.nil (szc 5 x3.form.fmts.l) (List.map T.Fmt.enc x3.form.fmts.l),PV.bool x3.form.fold,PV.bool x3.form.all,PV.sl x3.opts.nil (szc 1 x3.opts.l) (List.map qh x3.opts.l),PV.sl x3.kids.nil (szc 18 x3.kids.l) (List.map T.qb.enc x3.kids.l)]] = List.map T.qb.enc (out ++ [x3]) := by simp only [List.map_append,List.map_cons,List.map_nil,zf,zb,ze,T.qb.za] <;> rfl
   intro h; have f17 := ih18 _ _ h; clear h
   try simp only [en.down] at f17
   clear ih18; exact fL q7c
  refine gd fun h13 => ?_
  have f18 := rG 18 T.qb.enc out
  have f19 : List.map T.qb.enc out ++ [[PV.int IntKind.i64 x3.kind,PV.str x3.text,PV.int IntKind.i64 x3.n,PV.bool x3.has,PV.bool x3.turned,PV.int IntKind.i64 x3.form.rx.kind,PV.str x3.form.rx.char,PV.bool x3.form.rx.not,PV.sl x3.form.rx.rows.nil (szc 2 x3.form.rx.rows.l) (List.map T.Row.enc x3.form.rx.rows.l),PV.int IntKind.i64 x3.form.rx.min,PV.int IntKind.i64 x3.form.rx.max,PV.bool x3.form.rx.lazy,PV.sl x3.form.rx.kids.nil (szc 8 x3.form.rx.kids.l) (List.map T.Rx.enc x3.form.rx.kids.l),PV.sl x3.form.fmts.nil (szc 5 x3.form.fmts.l) (List.map T.Fmt.enc x3.form.fmts.l),PV.bool x3.form.fold,PV.bool x3.form.all,PV.sl x3.opts.nil (szc 1 x3.opts.l) (List.map qh x3.opts.l),PV.sl x3.kids.nil (szc 18 x3.kids.l) (List.map T.qb.enc x3.kids.l)]] = List.map T.qb.enc (out ++ [x3]) := by simp only [List.map_append,List.map_cons,List.map_nil,zf,zb,ze,T.qb.za] <;> rfl
  intro h; have f20 := ih18 _ _ h; clear h
  try simp only [en.down] at f20
  clear ih18; exact fL q7c
 rintro ⟨⟩
 clear ih18; exact fL q7c
theorem z98 {l r} (h : qd6 l = some r) : O.call 56 [v_l 18 T.qb.enc l] [] = some (v_l 18 T.qb.enc r,[]) := by
 revert h; unfold qd6
 refine bs fun v2 h1 => ?_
 have f1 := znj _ _ h1
 try simp only [en.down] at f1
 rintro ⟨⟩
 exact fF q7c
theorem qom {at_ braced b r_ r_2 r} (h : q97 at_ braced b r_ r_2 = some r) : O.call 38 [AV.ptr 0 0,v_i at_,v_b braced] [(0,Blk.box [v_s b,v_r 1 r_,v_r 2 r_2]),(1,Blk.row false 18 (List.map T.qb.enc r_)),(2,Blk.row false 1 (List.map qc r_2))] = some (AV.tup [v_l 18 T.qb.enc r.1,v_i r.2],[(0,Blk.box [v_s b,v_r 1 r_,v_r 2 r_2]),(1,Blk.row false 18 (List.map T.qb.enc r_)),(2,Blk.row false 1 (List.map qc r_2))]) := by
 revert h; unfold q97
 refine bs fun v2 h1 => ?_
 have f1 := z1l _ _ h1
 try simp only [en.down] at f1
 refine zw (fun h3 h4 => ?_) ?_
 ·try simp only [h4] at f1
  rintro ⟨⟩
  exact fF q2n
 rintro (⟨h3,h4⟩ | ⟨h3,h4⟩)
 all_goals
 have f2 := jh 1 qm v2.2.2
 have f3 := bytesOf_map v2.2.2
 refine gd fun h8 => ?_
 have f4 := rG 18 T.qb.enc v2.2.1
 have f5 : List.map T.qb.enc v2.2.1 ++ [[PV.int IntKind.i64 (0 : Int),PV.str v2.2.2,PV.int IntKind.i64 (0 : Int),PV.bool false,PV.bool false,PV.int IntKind.i64 (0 : Int),PV.str ([] : Bytes),PV.bool false,PV.sl true 0 [],PV.int IntKind.i64 (0 : Int),PV.int IntKind.i64 (0 : Int),PV.bool false,PV.sl true 0 [],PV.sl true 0 [],PV.bool false,PV.bool false,PV.sl true 0 [],PV.sl true 0 []]] = List.map T.qb.enc (v2.2.1 ++ [(T.qb.mk (0 : Int) v2.2.2 (0 : Int) false false (T.Form.mk (T.Rx.mk (0 : Int) ([] : Bytes) false (⟨true,[]⟩ : (Sl T.Row)) (0 : Int) (0 : Int) false (⟨true,[]⟩ : (Sl T.Rx))) (⟨true,[]⟩ : (Sl T.Fmt)) false false) (⟨true,[]⟩ : (Sl Bytes)) (⟨true,[]⟩ : (Sl T.qb)))]) := by simp only [List.map_append,List.map_cons,List.map_nil,zf,zb,ze,T.qb.za] <;> rfl
 refine bs fun v10 h9 => ?_
 have f6 := z98 h9
 try simp only [en.down] at f6
 try simp only [h4] at f1 f6
 rintro ⟨⟩
 exact fF q2n
theorem qxn : ∀ p r,q3f p = some r → O.loop 53 0 ⟨[(0,v_s p.1),(4,AV.ptr 0 0),(7,v_r 1 p.2.2.2),(8,v_i p.2.1)],[(0,b_x (T.Form.enc p.2.2.1)),(1,b_r 1 qm p.2.2.2)],2⟩ = some (Ex.normal,⟨[(0,v_s p.1),(4,AV.ptr 0 0),(7,v_r 1 r.2),(8,v_i r.1)],[(0,b_x (T.Form.enc p.2.2.1)),(1,b_r 1 qm r.2)],2⟩) := by
 refine q3f.partial_correctness _ ?_
 rintro q3f ih20 ⟨s,k,t4,b⟩ r; dsimp only
 apply it <;> intro h1
 ·refine bc fun b3 h2 f1 f2 => ?_
  apply it <;> intro h4
  ·refine zw (fun h5 h6 => ?_) ?_
   ·refine bc fun b8 h7 f3 f4 => ?_
    apply it <;> intro h9
    ·refine gd fun h10 => ?_
     have f5 := rG 1 qm b
     have f6 : List.map qm b ++ [[PV.int IntKind.u8 (92 : Int)]] = List.map qm (b ++ [92]) := by simp only [List.map_append,List.map_cons,List.map_nil,zf,zb,ze,qm] <;> rfl
     refine gd fun h11 => ?_
     have f7 : List.map qm (b ++ [92]) ++ [[PV.int IntKind.u8 (b8.toNat : Int)]] = List.map qm ((b ++ [92]) ++ [b8]) := by simp only [List.map_append,List.map_cons,List.map_nil,zf,zb,ze,qm] <;> rfl
     intro h; have f8 := ih20 _ _ h; clear h
     try simp only [en.down] at f8
     clear ih20; exact fL ug
    refine gd fun h12 => ?_
    have f9 := rG 1 qm b
    have f10 : List.map qm b ++ [[PV.int IntKind.u8 (b8.toNat : Int)]] = List.map qm (b ++ [b8]) := by simp only [List.map_append,List.map_cons,List.map_nil,zf,zb,ze,qm] <;> rfl
    intro h; have f11 := ih20 _ _ h; clear h
    try simp only [en.down] at f11
    clear ih20; exact fL ug
   rintro (⟨h5,h6⟩ | ⟨h5,h6⟩)
   all_goals
   refine gd fun h14 => ?_
   have f12 := rG 1 qm b
   have f13 : List.map qm b ++ [[PV.int IntKind.u8 (b3.toNat : Int)]] = List.map qm (b ++ [b3]) := by simp only [List.map_append,List.map_cons,List.map_nil,zf,zb,ze,qm] <;> rfl
   intro h; have f14 := ih20 _ _ h; clear h
   try simp only [en.down] at f14
   clear ih20; exact fL ug
  rintro ⟨⟩
  clear ih20; exact fL ug
 rintro ⟨⟩
 clear ih20; exact fL ug
theorem qgd {c r} (h : q3e c = some r) : O.call 111 [AV.pv (PV.int IntKind.u8 (c.toNat : Int))] [] = some (v_b r,[]) := by
 revert h; unfold q3e
 apply it <;> intro h1
 ·rintro ⟨⟩
  exact fF qoe
 rintro ⟨⟩
 exact fF qoe
theorem qrq : ∀ p r,yl p = some r → O.loop 95 0 ⟨[(0,v_s p.1),(3,v_r 0 p.2.2.2),(4,v_i p.2.1),(5,v_i p.2.2.1)],[(0,b_r 1 qh p.2.2.2)],1⟩ = some (Ex.normal,⟨[(3,v_r 0 r)],[(0,b_r 1 qh r)],1⟩) := by
 refine yl.partial_correctness _ ?_
 rintro yl ih23 ⟨s,frm,i,l⟩ r; dsimp only
 apply it <;> intro h1
 ·apply it <;> intro h2
  ·refine b2s fun r4 h3 f1 f2 f3 f4 f5 => ?_
   refine gd fun h5 => ?_
   have f6 := rG 1 qh l
   have f7 : List.map qh l ++ [[PV.str r4]] = List.map qh (l ++ [r4]) := by simp only [List.map_append,List.map_cons,List.map_nil,zf,zb,ze,qh] <;> rfl
   intro h; have f8 := ih23 _ _ h; clear h
   try simp only [en.down] at f8
   clear ih23; exact fL qd9
  refine bc fun b7 h6 f9 f10 => ?_
  refine bs fun v9 h8 => ?_
  have f11 := qgd h8
  try simp only [en.down] at f11
  apply it <;> intro h10
  ·refine b2s fun r12 h11 f12 f13 f14 f15 f16 => ?_
   refine gd fun h13 => ?_
   have f17 := rG 1 qh l
   have f18 : List.map qh l ++ [[PV.str r12]] = List.map qh (l ++ [r12]) := by simp only [List.map_append,List.map_cons,List.map_nil,zf,zb,ze,qh] <;> rfl
   try simp only [h10] at f11
   intro h; have f19 := ih23 _ _ h; clear h
   try simp only [en.down] at f19
   try simp only [h10] at f19
   clear ih23; exact fL qd9
  try simp only [h10] at f11
  intro h; have f20 := ih23 _ _ h; clear h
  try simp only [en.down] at f20
  try simp only [h10] at f20
  clear ih23; exact fL qd9
 rintro ⟨⟩
 clear ih23; exact fL qd9
theorem qg3 {s r} (h : q38 s = some r) : O.call 95 [v_s s] [] = some (v_l 1 qh r,[]) := by
 revert h; unfold q38
 refine bs fun v2 h1 => ?_
 have f1 := qrq _ _ h1
 try simp only [en.down] at f1
 rintro ⟨⟩
 exact fF qd9
theorem q4c {b r} (h : q0n b = some r) : O.call 112 [AV.ptr 0 0] [(0,b_x (T.qo.enc b))] = some (v_s r,[(0,b_x (T.qo.enc b))]) := by
 revert h; unfold q0n
 apply it <;> intro h1
 ·rintro ⟨⟩
  exact fF qqw
 refine bg qh fun x3 h2 f1 f2 f3 => ?_
 rintro ⟨⟩
 exact fF qqw
theorem ja {c b r} (h : xc c b = some r) : O.call 115 [AV.ptr 0 0,v_s c] [(0,b_x (T.qo.enc b))] = some (v_b r.1,[(0,b_x (T.qo.enc r.2))]) := by
 revert h; unfold xc
 apply it <;> intro h1
 ·rintro ⟨⟩
  exact fF qgu
 refine bg qh fun x3 h2 f1 f2 f3 => ?_
 apply it <;> intro h4
 ·rintro ⟨⟩
  exact fF qgu
 rintro ⟨⟩
 exact fF qgu
theorem qnx {c r} (h : q93 c = some r) : O.call 151 [AV.pv (PV.int IntKind.u8 (c.toNat : Int))] [] = some (AV.tup [v_l 2 T.Row.enc r.1,v_b r.2],[]) := by
 revert h; unfold q93
 apply it <;> intro h1
 ·rintro ⟨⟩
  exact fF qez
 apply it <;> intro h2
 ·rintro ⟨⟩
  exact fF qez
 apply it <;> intro h3
 ·rintro ⟨⟩
  exact fF qez
 rintro ⟨⟩
 exact fF qez
theorem qfu {c r} (h : q2f c = some r) : O.call 152 [v_s c] [] = some (AV.tup [v_s r.1,v_b r.2],[]) := by
 revert h; unfold q2f
 apply it <;> intro h1
 ·rintro ⟨⟩
  exact fF q2l
 apply it <;> intro h2
 ·rintro ⟨⟩
  exact fF q2l
 apply it <;> intro h3
 ·rintro ⟨⟩
  exact fF q2l
 apply it <;> intro h4
 ·rintro ⟨⟩
  exact fF q2l
 apply it <;> intro h5
 ·rintro ⟨⟩
  exact fF q2l
 apply it <;> intro h6
 ·rintro ⟨⟩
  exact fF q2l
 apply it <;> intro h7
 ·refine bc fun b9 h8 f1 f2 => ?_
  refine bs fun v11 h10 => ?_
  have f3 := qfk h10
  try simp only [en.down] at f3
  apply it <;> intro h12
  ·try simp only [h12] at f3
   rintro ⟨⟩
   exact fF q2l
  refine bs fun v14 h13 => ?_
  have f4 := q75 h13
  try simp only [en.down] at f4
  apply it <;> intro h15
  ·try simp only [h12,h15] at f3 f4
   rintro ⟨⟩
   exact fF q2l
  try simp only [h12,h15] at f3 f4
  rintro ⟨⟩
  exact fF q2l
 rintro ⟨⟩
 exact fF q2l
theorem qpb {b r} (h : qa1 b = some r) : O.call 148 [AV.ptr 0 0] [(0,b_x (T.qo.enc b))] = some (AV.tup [v_l 2 T.Row.enc r.1,v_s r.2.1,v_b r.2.2.1],[(0,b_x (T.qo.enc r.2.2.2))]) := by
 revert h; unfold qa1
 refine bs fun v2 h1 => ?_
 have f1 := q4c h1
 try simp only [en.down] at f1
 refine xq ?_ (fun h3 h4 => ?_)
 ·rintro (⟨h3,h4⟩ | ⟨h3,h4⟩)
  all_goals
  rintro ⟨⟩
  exact fF qbt
 apply it <;> intro h5
 ·rintro ⟨⟩
  exact fF qbt
 refine bs fun v7 h6 => ?_
 have f2 := q4c h6
 try simp only [en.down] at f2
 apply it <;> intro h8
 ·refine bc fun b10 h9 f3 f4 => ?_
  refine bs fun v12 h11 => ?_
  have f5 := qnx h11
  try simp only [en.down] at f5
  apply it <;> intro h13
  ·try simp only [h13] at f1 f2 f5
   rintro ⟨⟩
   exact fF qbt
  refine bs fun v15 h14 => ?_
  have f6 := qfu h14
  try simp only [en.down] at f6
  try simp only [h13] at f1 f2 f5 f6
  rintro ⟨⟩
  exact fF qbt
 refine bs fun v17 h16 => ?_
 have f7 := qfu h16
 try simp only [en.down] at f7
 rintro ⟨⟩
 exact fF qbt
def qlr (t2 : T.Rx) (x : T.Rx) : ((Int × T.qo × T.Rx × (List T.Row)) ⊕ (T.qo × (List T.Row))) → Ex × St
 | .inl y => (Ex.ret,⟨[(2,AV.ptr 1 0),(3,v_i y.1),(4,AV.ptr 2 0),(5,v_r 3 y.2.2.2)],[(0,b_x (T.qo.enc y.2.1)),(1,b_x (T.Rx.enc y.2.2.1)),(2,b_x (T.Rx.enc x)),(3,b_r 2 T.Row.enc y.2.2.2)],4⟩)
 | .inr y => (Ex.normal,⟨[(2,AV.ptr 1 0),(3,AV.undef),(4,AV.ptr 2 0),(5,v_r 3 y.2)],[(0,b_x (T.qo.enc y.1)),(1,b_x (T.Rx.enc t2)),(2,b_x (T.Rx.enc x)),(3,b_r 2 T.Row.enc y.2)],4⟩)
attribute [local go_sem] qlr
theorem zdm : ∀ p r,q0j p = some r → O.loop 136 0 ⟨[(0,AV.ptr 0 0),(2,AV.ptr 1 0),(4,AV.ptr 2 0),(5,v_r 3 p.2.2.2)],[(0,b_x (T.qo.enc p.1)),(1,b_x (T.Rx.enc p.2.1)),(2,b_x (T.Rx.enc p.2.2.1)),(3,b_r 2 T.Row.enc p.2.2.2)],4⟩ = some (qlr p.2.1 p.2.2.1 r) := by
 refine q0j.partial_correctness _ ?_
 rintro q0j ih33 ⟨r_,t2,x,rows⟩ r; dsimp only
 refine bs fun v2 h1 => ?_
 have f1 := ja h1
 try simp only [en.down] at f1
 apply it <;> intro h3
 ·refine bs fun v5 h4 => ?_
  have f2 := qpb h4
  try simp only [en.down] at f2
  apply it <;> intro h6
  ·rintro ⟨⟩
   clear ih33; exact fL q2c
  apply it <;> intro h7
  ·have f3 := jh 2 T.Row.enc v5.1.l
   apply it <;> intro h8
   ·have f4 := rA T.Row.enc h8
    intro h; have f5 := ih33 _ _ h; clear h
    try simp only [en.down] at f5
    clear ih33; exact fL q2c
   refine gd fun h9 => ?_
   have f6 := rB T.Row.enc h8
   have f7 : (rows ++ v5.1.l).isEmpty = false := qpw h8
   have f8 : szc 2 (rows ++ v5.1.l) = 2 := q8e h8 _
   have f9 : List.map T.Row.enc rows ++ List.map T.Row.enc v5.1.l = List.map T.Row.enc (rows ++ v5.1.l) := q6o _ _ _
   try simp only [f7,f8] at f1 f2
   intro h; have f10 := ih33 _ _ h; clear h
   try simp only [en.down,f7,f8] at f10
   try simp only [f7,f8] at f10
   clear ih33; exact fL q2c
  refine bs fun v11 h10 => ?_
  have f11 := q4c h10
  try simp only [en.down] at f11
  refine zw (fun h12 h13 => ?_) ?_
  ·refine bg qh fun x15 h14 f12 f13 f14 => ?_
   apply it <;> intro h16
   ·refine bs fun v18 h17 => ?_
    have f15 := qpb h17
    try simp only [en.down] at f15
    refine qc8 ?_ (fun h19 h20 h21 => ?_)
    ·rintro (⟨h19,h20,h21⟩ | ⟨h19,h20,h21⟩ | ⟨h19,h20,h21⟩)
     all_goals
     rintro ⟨⟩
     clear ih33; exact fL q2c
    refine gd fun h22 => ?_
    have f16 := rG 2 T.Row.enc rows
    have f17 : List.map T.Row.enc rows ++ [[PV.str v5.2.1,PV.str v18.2.1]] = List.map T.Row.enc (rows ++ [(T.Row.mk v5.2.1 v18.2.1)]) := by simp only [List.map_append,List.map_cons,List.map_nil,zf,zb,ze,T.Row.za] <;> rfl
    intro h; have f18 := ih33 _ _ h; clear h
    try simp only [en.down] at f18
    clear ih33; exact fL q2c
   refine gd fun h23 => ?_
   have f19 := rG 2 T.Row.enc rows
   have f20 : List.map T.Row.enc rows ++ [[PV.str v5.2.1,PV.str v5.2.1]] = List.map T.Row.enc (rows ++ [(T.Row.mk v5.2.1 v5.2.1)]) := by simp only [List.map_append,List.map_cons,List.map_nil,zf,zb,ze,T.Row.za] <;> rfl
   intro h; have f21 := ih33 _ _ h; clear h
   try simp only [en.down] at f21
   clear ih33; exact fL q2c
  rintro (⟨h12,h13⟩ | ⟨h12,h13⟩)
  all_goals
  refine gd fun h25 => ?_
  have f22 := rG 2 T.Row.enc rows
  have f23 : List.map T.Row.enc rows ++ [[PV.str v5.2.1,PV.str v5.2.1]] = List.map T.Row.enc (rows ++ [(T.Row.mk v5.2.1 v5.2.1)]) := by simp only [List.map_append,List.map_cons,List.map_nil,zf,zb,ze,T.Row.za] <;> rfl
  intro h; have f24 := ih33 _ _ h; clear h
  try simp only [en.down] at f24
  clear ih33; exact fL q2c
 rintro ⟨⟩
 clear ih33; exact fL q2c
theorem q99 {c r} (h : mo c = some r) : O.call 138 [v_s c] [] = some (v_b r,[]) := by
 revert h; unfold mo
 apply it <;> intro h1
 ·refine bc fun b3 h2 f1 f2 => ?_
  refine bs fun v5 h4 => ?_
  have f3 := qgd h4
  try simp only [en.down] at f3
  apply it <;> intro h6
  ·refine bs fun v8 h7 => ?_
   have f4 := qg3 h7
   try simp only [en.down] at f4
   try simp only [h6] at f3 f4
   rintro ⟨⟩
   exact fF qhn
  try simp only [h6] at f3
  rintro ⟨⟩
  exact fF qhn
 rintro ⟨⟩
 exact fF qhn
theorem zgq : ∀ p r,q5s p = some r → O.loop 149 2 ⟨[(0,v_l 2 T.Row.enc p.1),(3,v_l 2 T.Row.enc p.2.1),(4,v_i p.2.2.1),(5,AV.ptr 0 0),(6,v_i p.2.2.2.1)],[(0,b_x (T.Row.enc p.2.2.2.2))],1⟩ = some (Ex.normal,⟨[(0,v_l 2 T.Row.enc p.1),(3,v_l 2 T.Row.enc p.2.1),(4,v_i p.2.2.1),(5,AV.ptr 0 0),(6,v_i r)],[(0,b_x (T.Row.enc p.2.2.2.2))],1⟩) := by
 refine q5s.partial_correctness _ ?_
 rintro q5s ih40 ⟨rows,s,i,k,r_⟩ r; dsimp only
 apply it <;> intro h1
 ·refine bg T.Row.enc fun x3 h2 f1 f2 f3 => ?_
  apply it <;> intro h4
  ·intro h; have f4 := ih40 _ _ h; clear h
   try simp only [en.down] at f4
   clear ih40; exact fL mf
  apply it <;> intro h5
  ·apply it <;> intro h6
   ·intro h; have f5 := ih40 _ _ h; clear h
    try simp only [en.down] at f5
    clear ih40; exact fL mf
   rintro ⟨⟩
   clear ih40; exact fL mf
  rintro ⟨⟩
  clear ih40; exact fL mf
 rintro ⟨⟩
 clear ih40; exact fL mf
theorem zov : ∀ p r,q33 p = some r → O.loop 149 0 ⟨[(0,v_l 2 T.Row.enc p.1),(3,v_l 2 T.Row.enc p.2.1),(4,v_i p.2.2)],[],0⟩ = some (Ex.normal,⟨[(3,v_l 2 T.Row.enc r)],[],0⟩) := by
 refine q33.partial_correctness _ ?_
 rintro q33 ih38 ⟨rows,s,i⟩ r; dsimp only
 apply it <;> intro h1
 ·refine bg T.Row.enc fun x3 h2 f1 f2 f3 => ?_
  refine bs fun v5 h4 => ?_
  have f4 := q99 h4
  try simp only [en.down] at f4
  apply it <;> intro h6
  ·intro h; have f5 := ih38 _ _ h; clear h
   try simp only [en.down] at f5
   clear ih38; exact fL mf
  refine bs fun v8 h7 => ?_
  have f6 := q99 h7
  try simp only [en.down] at f6
  refine xq ?_ (fun h9 h10 => ?_)
  ·rintro (⟨h9,h10⟩ | ⟨h9,h10⟩)
   all_goals
   intro h; have f7 := ih38 _ _ h; clear h
   try simp only [en.down] at f7
   clear ih38; exact fL mf
  refine bs fun v12 h11 => ?_
  have f8 := zgq _ _ h11
  try simp only [en.down] at f8
  have f9 := jh 2 T.Row.enc s.l
  refine bT T.Row.enc fun r14 h13 f10 f11 f12 f13 => ?_
  have f14 := jh 2 T.Row.enc r14
  refine gd fun h15 => ?_
  refine gd fun h16 => ?_
  refine bF T.Row.enc fun r18 h17 f15 f16 f17 f18 => ?_
  have f19 := jh 2 T.Row.enc r18
  have f20 : List.map T.Row.enc r14 ++ [[PV.str x3.frm,PV.str x3.to]] = List.map T.Row.enc (r14 ++ [x3]) := by simp only [List.map_append,List.map_cons,List.map_nil,zf,zb,ze,T.Row.za] <;> rfl
  refine gd fun h19 => ?_
  have f21 : List.map T.Row.enc (r14 ++ [x3]) ++ List.map T.Row.enc r18 = List.map T.Row.enc ((r14 ++ [x3]) ++ r18) := q6o _ _ _
  intro h; have f22 := ih38 _ _ h; clear h
  try simp only [en.down] at f22
  clear ih38; exact fL mf
 rintro ⟨⟩
 clear ih38; exact fL mf
theorem zj4 : ∀ p r,q2x p = some r → O.loop 149 4 ⟨[(3,v_l 2 T.Row.enc p.1),(7,v_r 0 p.2.2),(8,v_i p.2.1)],[(0,b_r 2 T.Row.enc p.2.2)],1⟩ = some (Ex.normal,⟨[(7,v_r 0 r)],[(0,b_r 2 T.Row.enc r)],1⟩) := by
 refine q2x.partial_correctness _ ?_
 rintro q2x ih41 ⟨s,i,out⟩ r; dsimp only
 apply it <;> intro h1
 ·apply it <;> intro h2
  ·refine bg T.Row.enc fun x4 h3 f1 f2 f3 => ?_
   refine bW T.Row.enc 2 fun x6 h5 f4 f5 f6 f7 f8 => ?_
   apply it <;> intro h7
   ·have f9 := map_set T.Row.enc out ((IntKind.i64.wrap ((out.length : Int) - (1 : Int))).toNat) (T.Row.mk x6.frm (if jb x6.to x4.to = true then x4.to else x6.to))
    try simp only [en.down] at f9
    try simp only [f7,f8] at f9
    intro h; have f10 := ih41 _ _ h; clear h
    try simp only [en.down,f7,f8] at f10
    try simp only [f7,f8] at f10
    clear ih41; exact fL mf
   refine gd fun h8 => ?_
   have f11 : List.map T.Row.enc out ++ [[PV.str x4.frm,PV.str x4.to]] = List.map T.Row.enc (out ++ [x4]) := by simp only [List.map_append,List.map_cons,List.map_nil,zf,zb,ze,T.Row.za] <;> rfl
   intro h; have f12 := ih41 _ _ h; clear h
   try simp only [en.down,f7,f8] at f12
   try simp only [f7,f8] at f12
   clear ih41; exact fL mf
  refine bg T.Row.enc fun x10 h9 f13 f14 f15 => ?_
  refine gd fun h11 => ?_
  have f16 := rG 2 T.Row.enc out
  have f17 : List.map T.Row.enc out ++ [[PV.str x10.frm,PV.str x10.to]] = List.map T.Row.enc (out ++ [x10]) := by simp only [List.map_append,List.map_cons,List.map_nil,zf,zb,ze,T.Row.za] <;> rfl
  intro h; have f18 := ih41 _ _ h; clear h
  try simp only [en.down] at f18
  clear ih41; exact fL mf
 rintro ⟨⟩
 clear ih41; exact fL mf
theorem zsz {rows r} (h : qbw rows = some r) : O.call 149 [v_l 2 T.Row.enc rows] [] = some (v_l 2 T.Row.enc r,[]) := by
 revert h; unfold qbw
 refine bs fun v2 h1 => ?_
 have f1 := zov _ _ h1
 try simp only [en.down] at f1
 refine bs fun v4 h3 => ?_
 have f2 := zj4 _ _ h3
 try simp only [en.down] at f2
 rintro ⟨⟩
 exact fF mf
theorem zcc {b r} (h : qbz b = some r) : O.call 136 [AV.ptr 0 0] [(0,b_x (T.qo.enc b))] = some (AV.tup [v_g (T.Rx.enc r.1),v_i r.2.1],[(0,b_x (T.qo.enc r.2.2))]) := by
 revert h; unfold qbz
 refine bs fun v2 h1 => ?_
 have f1 := ja h1
 try simp only [en.down] at f1
 refine bs fun v4 h3 => ?_
 have f2 := zdm _ _ h3
 try simp only [en.down] at f2
 rcases v4 with y5 | y6
 ·dsimp only
  rintro ⟨⟩
  exact fF q2c
 dsimp only
 refine bs fun v8 h7 => ?_
 have f3 := zsz h7
 try simp only [en.down] at f3
 rintro ⟨⟩
 exact fF q2c
theorem z1v : ∀ p r,q1j p = some r → O.loop 150 0 ⟨[(3,v_r 0 p.2),(4,v_i p.1)],[(0,Blk.row false 1 (List.map qm p.2))],1⟩ = some (Ex.normal,⟨[(3,v_r 0 r)],[(0,Blk.row false 1 (List.map qm r))],1⟩) := by
 refine q1j.partial_correctness _ ?_
 rintro q1j ih44 ⟨i,b⟩ r; dsimp only
 apply it <;> intro h1
 ·refine bw qm fun x3 h2 f1 f2 f3 => ?_
  apply it <;> intro h4
  ·apply it <;> intro h5
   ·have f4 := map_set qm b i.toNat (u8 (IntKind.u8.wrap ((x3.toNat : Int) + (32 : Int))))
    try simp only [en.down] at f4
    intro h; have f5 := ih44 _ _ h; clear h
    try simp only [en.down] at f5
    clear ih44; exact fL qcb
   intro h; have f6 := ih44 _ _ h; clear h
   try simp only [en.down] at f6
   clear ih44; exact fL qcb
  intro h; have f7 := ih44 _ _ h; clear h
  try simp only [en.down] at f7
  clear ih44; exact fL qcb
 rintro ⟨⟩
 clear ih44; exact fL qcb
theorem qfj {s r} (h : q2g s = some r) : O.call 150 [v_s s] [] = some (v_s r,[]) := by
 revert h; unfold q2g
 refine bs fun v2 h1 => ?_
 have f1 := z1v _ _ h1
 try simp only [en.down] at f1
 have f2 := jh 1 qm v2
 have f3 := bytesOf_map v2
 rintro ⟨⟩
 exact fF qcb
theorem z4x {b r} (h : qce b = some r) : O.call 137 [AV.ptr 0 0] [(0,b_x (T.qo.enc b))] = some (AV.tup [v_g (T.Rx.enc r.1),v_i r.2.1],[(0,b_x (T.qo.enc r.2.2))]) := by
 revert h; unfold qce
 refine bs fun v2 h1 => ?_
 have f1 := q4c h1
 try simp only [en.down] at f1
 refine bs fun v4 h3 => ?_
 have f2 := qfj h3
 try simp only [en.down] at f2
 apply it <;> intro h5
 ·refine bc fun b7 h6 f3 f4 => ?_
  refine bs fun v9 h8 => ?_
  have f5 := qnx h8
  try simp only [en.down] at f5
  apply it <;> intro h10
  ·try simp only [h10] at f1 f2 f5
   rintro ⟨⟩
   exact fF qcn
  refine bs fun v12 h11 => ?_
  have f6 := qfu h11
  try simp only [en.down] at f6
  apply it <;> intro h13
  ·try simp only [h10] at f1 f2 f5 f6
   rintro ⟨⟩
   exact fF qcn
  try simp only [h10] at f1 f2 f5 f6
  rintro ⟨⟩
  exact fF qcn
 refine bs fun v15 h14 => ?_
 have f7 := qfu h14
 try simp only [en.down] at f7
 apply it <;> intro h16
 ·rintro ⟨⟩
  exact fF qcn
 rintro ⟨⟩
 exact fF qcn
theorem zv7 : ∀ p r,q7a p = some r → O.loop 139 0 ⟨[(0,AV.ptr 0 0),(4,v_i p.1),(5,v_i p.2.1)],[(0,b_x (T.qo.enc p.2.2))],1⟩ = some (Ex.normal,⟨[(4,v_i r.1),(5,v_i r.2.1)],[(0,b_x (T.qo.enc r.2.2))],1⟩) := by
 refine q7a.partial_correctness _ ?_
 rintro q7a ih47 ⟨n,many,r_⟩ r; dsimp only
 apply it <;> intro h1
 ·refine bs fun v3 h2 => ?_
  have f1 := q4c h2
  try simp only [en.down] at f1
  apply it <;> intro h4
  ·refine bc fun b6 h5 f2 f3 => ?_
   refine bs fun v8 h7 => ?_
   have f4 := q75 h7
   try simp only [en.down] at f4
   apply it <;> intro h9
   ·try simp only [h9] at f1 f4
    intro h; have f5 := ih47 _ _ h; clear h
    try simp only [en.down] at f5
    try simp only [h9] at f5
    clear ih47; exact fL q9v
   try simp only [h9] at f1 f4
   rintro ⟨⟩
   clear ih47; exact fL q9v
  rintro ⟨⟩
  clear ih47; exact fL q9v
 rintro ⟨⟩
 clear ih47; exact fL q9v
theorem qpd {b r} (h : qa8 b = some r) : O.call 139 [AV.ptr 0 0] [(0,b_x (T.qo.enc b))] = some (AV.tup [v_i r.1,v_b r.2.1],[(0,b_x (T.qo.enc r.2.2))]) := by
 revert h; unfold qa8
 refine bs fun v2 h1 => ?_
 have f1 := zv7 _ _ h1
 try simp only [en.down] at f1
 apply it <;> intro h3
 ·rintro ⟨⟩
  exact fF q9v
 rintro ⟨⟩
 exact fF q9v
theorem qn4 {x b r} (h : q81 x b = some r) : O.call 128 [AV.ptr 0 0,v_g (T.Rx.enc x)] [(0,b_x (T.qo.enc b))] = some (AV.tup [v_g (T.Rx.enc r.1),v_i r.2.1],[(0,b_x (T.qo.enc r.2.2))]) := by
 revert h; unfold q81
 refine bs fun v2 h1 => ?_
 have f1 := ja h1
 try simp only [en.down] at f1
 apply it <;> intro h3
 ·refine bs fun v5 h4 => ?_
  have f2 := ja h4
  try simp only [en.down] at f2
  try simp only [h3] at f1 f2
  rintro ⟨⟩
  exact fF q0u
 refine bs fun v7 h6 => ?_
 have f3 := ja h6
 try simp only [en.down] at f3
 apply it <;> intro h8
 ·refine bs fun v10 h9 => ?_
  have f4 := ja h9
  try simp only [en.down] at f4
  try simp only [h3,h8] at f1 f3 f4
  rintro ⟨⟩
  exact fF q0u
 refine bs fun v12 h11 => ?_
 have f5 := ja h11
 try simp only [en.down] at f5
 apply it <;> intro h13
 ·refine bs fun v15 h14 => ?_
  have f6 := ja h14
  try simp only [en.down] at f6
  try simp only [h3,h8,h13] at f1 f3 f5 f6
  rintro ⟨⟩
  exact fF q0u
 refine bs fun v17 h16 => ?_
 have f7 := ja h16
 try simp only [en.down] at f7
 apply it <;> intro h18
 ·refine bs fun v20 h19 => ?_
  have f8 := qpd h19
  try simp only [en.down] at f8
  apply it <;> intro h21
  ·try simp only [h3,h8,h13,h18] at f1 f3 f5 f7 f8
   rintro ⟨⟩
   exact fF q0u
  refine bs fun v23 h22 => ?_
  have f9 := ja h22
  try simp only [en.down] at f9
  apply it <;> intro h24
  ·refine bs fun v26 h25 => ?_
   have f10 := q4c h25
   try simp only [en.down] at f10
   apply it <;> intro h27
   ·refine bs fun v29 h28 => ?_
    have f11 := qpd h28
    try simp only [en.down] at f11
    apply it <;> intro h30
    ·try simp only [h3,h8,h13,h18,h24] at f1 f3 f5 f7 f8 f9 f10 f11
     rintro ⟨⟩
     exact fF q0u
    refine bs fun v32 h31 => ?_
    have f12 := ja h31
    try simp only [en.down] at f12
    refine qd5 ?_ ?_
    ·rintro (⟨h33,h34,h35⟩ | ⟨h33,h34,h35⟩)
     all_goals
     try simp only [h3,h8,h13,h18,h24] at f1 f3 f5 f7 f8 f9 f10 f11 f12
     rintro ⟨⟩
     exact fF q0u
    rintro (⟨h33,h34,h35⟩ | ⟨h33,h34,h35⟩)
    all_goals
    refine bs fun v39 h38 => ?_
    have f13 := ja h38
    try simp only [en.down] at f13
    try simp only [h3,h8,h13,h18,h24] at f1 f3 f5 f7 f8 f9 f10 f11 f12 f13
    rintro ⟨⟩
    exact fF q0u
   refine bs fun v41 h40 => ?_
   have f14 := ja h40
   try simp only [en.down] at f14
   apply it <;> intro h42
   ·try simp only [h3,h8,h13,h18,h24] at f1 f3 f5 f7 f8 f9 f10 f14
    rintro ⟨⟩
    exact fF q0u
   have f15 : (((-1) : Int) != ((-1) : Int)) = false := by decide
   refine bs fun v44 h43 => ?_
   have f16 := ja h43
   try simp only [en.down] at f16
   try simp only [h3,h8,h13,h18,h24] at f1 f3 f5 f7 f8 f9 f10 f14 f16
   rintro ⟨⟩
   exact fF q0u
  refine bs fun v46 h45 => ?_
  have f17 := ja h45
  try simp only [en.down] at f17
  refine qd5 ?_ ?_
  ·rintro (⟨h47,h48,h49⟩ | ⟨h47,h48,h49⟩)
   all_goals
   try simp only [h3,h8,h13,h18,h24] at f1 f3 f5 f7 f8 f9 f17
   rintro ⟨⟩
   exact fF q0u
  rintro (⟨h47,h48,h49⟩ | ⟨h47,h48,h49⟩)
  all_goals
  refine bs fun v53 h52 => ?_
  have f18 := ja h52
  try simp only [en.down] at f18
  try simp only [h3,h8,h13,h18,h24] at f1 f3 f5 f7 f8 f9 f17 f18
  rintro ⟨⟩
  exact fF q0u
 try simp only [h3,h8,h13,h18] at f1 f3 f5 f7
 rintro ⟨⟩
 exact fF q0u
theorem z3u : ∀ p r,q27 p = some r → O.loop 129 0 ⟨[(0,v_i p.1),(1,v_l 8 T.Rx.enc p.2.1),(5,v_r 0 p.2.2.2),(6,v_i p.2.2.1)],[(0,b_r 8 T.Rx.enc p.2.2.2)],1⟩ = some (Ex.normal,⟨[(5,v_r 0 r)],[(0,b_r 8 T.Rx.enc r)],1⟩) := by
 refine q27.partial_correctness _ ?_
 rintro q27 ih50 ⟨kind,xs,i,l⟩ r; dsimp only
 apply it <;> intro h1
 ·refine bg T.Rx.enc fun x3 h2 f1 f2 f3 => ?_
  apply it <;> intro h4
  ·have f4 := jh 8 T.Rx.enc x3.kids.l
   apply it <;> intro h5
   ·have f5 := rA T.Rx.enc h5
    intro h; have f6 := ih50 _ _ h; clear h
    try simp only [en.down] at f6
    clear ih50; exact fL qbf
   refine gd fun h6 => ?_
   have f7 := rB T.Rx.enc h5
   have f8 : (l ++ x3.kids.l).isEmpty = false := qpw h5
   have f9 : szc 8 (l ++ x3.kids.l) = 8 := q8e h5 _
   have f10 : List.map T.Rx.enc l ++ List.map T.Rx.enc x3.kids.l = List.map T.Rx.enc (l ++ x3.kids.l) := q6o _ _ _
   intro h; have f11 := ih50 _ _ h; clear h
   try simp only [en.down,f8,f9] at f11
   try simp only [f8,f9] at f11
   clear ih50; exact fL qbf
  refine gd fun h7 => ?_
  have f12 := rG 8 T.Rx.enc l
  have f13 : List.map T.Rx.enc l ++ [[PV.int IntKind.i64 x3.kind,PV.str x3.char,PV.bool x3.not,PV.sl x3.rows.nil (szc 2 x3.rows.l) (List.map T.Row.enc x3.rows.l),PV.int IntKind.i64 x3.min,PV.int IntKind.i64 x3.max,PV.bool x3.lazy,PV.sl x3.kids.nil (szc 8 x3.kids.l) (List.map T.Rx.enc x3.kids.l)]] = List.map T.Rx.enc (l ++ [x3]) := by simp only [List.map_append,List.map_cons,List.map_nil,zf,zb,ze,T.Rx.za] <;> rfl
  intro h; have f14 := ih50 _ _ h; clear h
  try simp only [en.down] at f14
  clear ih50; exact fL qbf
 rintro ⟨⟩
 clear ih50; exact fL qbf
theorem qov {kind xs r} (h : q8s kind xs = some r) : O.call 129 [v_i kind,v_l 8 T.Rx.enc xs] [] = some (v_l 8 T.Rx.enc r,[]) := by
 revert h; unfold q8s
 refine bs fun v2 h1 => ?_
 have f1 := z3u _ _ h1
 try simp only [en.down] at f1
 rintro ⟨⟩
 exact fF qbf
theorem zd4 {xs r} (h : qd2 xs = some r) : O.call 114 [v_l 8 T.Rx.enc xs] [] = some (v_g (T.Rx.enc r),[]) := by
 revert h; unfold qd2
 refine bs fun v2 h1 => ?_
 have f1 := qov h1
 try simp only [en.down] at f1
 apply it <;> intro h3
 ·refine bg T.Rx.enc fun x5 h4 f2 f3 f4 => ?_
  rintro ⟨⟩
  exact fF qqo
 rintro ⟨⟩
 exact fF qqo
theorem z0v {xs r} (h : qd0 xs = some r) : O.call 116 [v_l 8 T.Rx.enc xs] [] = some (v_g (T.Rx.enc r),[]) := by
 revert h; unfold qd0
 refine bs fun v2 h1 => ?_
 have f1 := qov h1
 try simp only [en.down] at f1
 apply it <;> intro h3
 ·rintro ⟨⟩
  exact fF qiy
 apply it <;> intro h4
 ·refine bg T.Rx.enc fun x6 h5 f2 f3 f4 => ?_
  rintro ⟨⟩
  exact fF qiy
 rintro ⟨⟩
 exact fF qiy
def qob : ((Int × T.qo × T.Rx × (List T.Rx)) ⊕ (Int × T.qo × T.Rx)) → Ex × St
 | .inl y => (Ex.ret,⟨[(4,AV.ptr 1 0),(5,v_i y.1)],[(0,b_x (T.qo.enc y.2.1)),(1,b_x (T.Rx.enc y.2.2.1)),(2,b_r 8 T.Rx.enc y.2.2.2)],3⟩)
 | .inr y => (Ex.ret,⟨[(4,AV.ptr 1 0),(5,v_i y.1)],[(0,b_x (T.qo.enc y.2.1)),(1,b_x (T.Rx.enc y.2.2)),(2,Blk.dead)],3⟩)
attribute [local go_sem] qob
def qqn (deep : Int) (t4 : T.Rx) (alts : (List T.Rx)) : ((Int × T.qo × T.Rx × (List T.Rx)) ⊕ (T.qo × (List T.Rx))) → Ex × St
 | .inl y => (Ex.ret,⟨[(0,AV.ptr 0 0),(1,v_i deep),(4,AV.ptr 1 0),(5,v_i y.1),(6,v_r 2 alts),(7,v_r 3 y.2.2.2)],[(0,b_x (T.qo.enc y.2.1)),(1,b_x (T.Rx.enc y.2.2.1)),(2,b_r 8 T.Rx.enc alts),(3,b_r 8 T.Rx.enc y.2.2.2)],4⟩)
 | .inr y => (Ex.normal,⟨[(0,AV.ptr 0 0),(1,v_i deep),(4,AV.ptr 1 0),(5,AV.undef),(6,v_r 2 alts),(7,v_r 3 y.2)],[(0,b_x (T.qo.enc y.1)),(1,b_x (T.Rx.enc t4)),(2,b_r 8 T.Rx.enc alts),(3,b_r 8 T.Rx.enc y.2)],4⟩)
attribute [local go_sem] qqn
theorem z4d : (∀ p r,q1b p = some r → O.call 96 [AV.ptr 0 0,v_i p.1] [(0,b_x (T.qo.enc p.2))] = some (AV.tup [v_g (T.Rx.enc r.1),v_i r.2.1],[(0,b_x (T.qo.enc r.2.2))])) ∧ (∀ p r,q7m p = some r → O.loop 96 0 ⟨[(0,AV.ptr 0 0),(1,v_i p.1),(4,AV.ptr 1 0),(6,v_r 2 p.2.2.2)],[(0,b_x (T.qo.enc p.2.1)),(1,b_x (T.Rx.enc p.2.2.1)),(2,b_r 8 T.Rx.enc p.2.2.2)],3⟩ = some (qob r)) ∧ (∀ p r,q7u p = some r → O.loop 96 2 ⟨[(0,AV.ptr 0 0),(1,v_i p.1),(4,AV.ptr 1 0),(6,v_r 2 p.2.2.2.1),(7,v_r 3 p.2.2.2.2)],[(0,b_x (T.qo.enc p.2.1)),(1,b_x (T.Rx.enc p.2.2.1)),(2,b_r 8 T.Rx.enc p.2.2.2.1),(3,b_r 8 T.Rx.enc p.2.2.2.2)],4⟩ = some (qqn p.1 p.2.2.1 p.2.2.2.1 r)) ∧ (∀ p r,qbc p = some r → O.call 113 [AV.ptr 0 0,v_i p.1] [(0,b_x (T.qo.enc p.2))] = some (AV.tup [v_g (T.Rx.enc r.1),v_i r.2.1],[(0,b_x (T.qo.enc r.2.2))])) ∧ (∀ p r,q6x p = some r → O.call 127 [AV.ptr 0 0,v_i p.1] [(0,b_x (T.qo.enc p.2))] = some (AV.tup [v_g (T.Rx.enc r.1),v_i r.2.1],[(0,b_x (T.qo.enc r.2.2))])) := by
 refine q1b.mutual_partial_correctness _ _ _ _ _ ?_ ?_ ?_ ?_ ?_
 ·rintro q7m ih26 ⟨deep,b⟩ r; dsimp only
  refine bs fun v2 h1 => ?_
  have f1 := ih26 _ _ h1
  try simp only [en.down] at f1
  rcases v2 with y3 | y4
  ·dsimp only
   rintro ⟨⟩
   clear ih26; exact fF q3c
  dsimp only
  rintro ⟨⟩
  clear ih26; exact fF q3c
 ·rintro q7m q7u ih26 ih27 ⟨deep,r_,t4,alts⟩ r; dsimp only
  refine bs fun v2 h1 => ?_
  have f1 := ih27 _ _ h1
  try simp only [en.down] at f1
  rcases v2 with y3 | y4
  ·dsimp only
   rintro ⟨⟩
   clear ih26 ih27; exact fL q3c
  dsimp only
  refine bs fun v6 h5 => ?_
  have f2 := zd4 h5
  try simp only [en.down] at f2
  refine gd fun h7 => ?_
  have f3 := rG 8 T.Rx.enc alts
  refine bs fun v9 h8 => ?_
  have f4 := ja h8
  try simp only [en.down] at f4
  apply it <;> intro h10
  ·have f5 : List.map T.Rx.enc alts ++ [[PV.int IntKind.i64 v6.kind,PV.str v6.char,PV.bool v6.not,PV.sl v6.rows.nil (szc 2 v6.rows.l) (List.map T.Row.enc v6.rows.l),PV.int IntKind.i64 v6.min,PV.int IntKind.i64 v6.max,PV.bool v6.lazy,PV.sl v6.kids.nil (szc 8 v6.kids.l) (List.map T.Rx.enc v6.kids.l)]] = List.map T.Rx.enc (alts ++ [v6]) := by simp only [List.map_append,List.map_cons,List.map_nil,zf,zb,ze,T.Rx.za] <;> rfl
   refine bs fun v12 h11 => ?_
   have f6 := z0v h11
   try simp only [en.down] at f6
   rintro ⟨⟩
   clear ih26 ih27; exact fL q3c
  have f7 : List.map T.Rx.enc alts ++ [[PV.int IntKind.i64 v6.kind,PV.str v6.char,PV.bool v6.not,PV.sl v6.rows.nil (szc 2 v6.rows.l) (List.map T.Row.enc v6.rows.l),PV.int IntKind.i64 v6.min,PV.int IntKind.i64 v6.max,PV.bool v6.lazy,PV.sl v6.kids.nil (szc 8 v6.kids.l) (List.map T.Rx.enc v6.kids.l)]] = List.map T.Rx.enc (alts ++ [v6]) := by simp only [List.map_append,List.map_cons,List.map_nil,zf,zb,ze,T.Rx.za] <;> rfl
  intro h; have f8 := ih26 _ _ h; clear h
  try simp only [en.down] at f8
  clear ih26 ih27; exact fL q3c
 ·rintro q7u qbc ih27 ih29 ⟨deep,r_,t4,alts,terms⟩ r; dsimp only
  apply it <;> intro h1
  ·refine bs fun v3 h2 => ?_
   have f1 := q4c h2
   try simp only [en.down] at f1
   apply it <;> intro h4
   ·apply it <;> intro h5
    ·refine bs fun v7 h6 => ?_
     have f2 := ih29 _ _ h6
     try simp only [en.down] at f2
     apply it <;> intro h8
     ·rintro ⟨⟩
      clear ih27 ih29; exact fL q3c
     refine gd fun h9 => ?_
     have f3 := rG 8 T.Rx.enc terms
     have f4 : List.map T.Rx.enc terms ++ [[PV.int IntKind.i64 v7.1.kind,PV.str v7.1.char,PV.bool v7.1.not,PV.sl v7.1.rows.nil (szc 2 v7.1.rows.l) (List.map T.Row.enc v7.1.rows.l),PV.int IntKind.i64 v7.1.min,PV.int IntKind.i64 v7.1.max,PV.bool v7.1.lazy,PV.sl v7.1.kids.nil (szc 8 v7.1.kids.l) (List.map T.Rx.enc v7.1.kids.l)]] = List.map T.Rx.enc (terms ++ [v7.1]) := by simp only [List.map_append,List.map_cons,List.map_nil,zf,zb,ze,T.Rx.za] <;> rfl
     intro h; have f5 := ih27 _ _ h; clear h
     try simp only [en.down] at f5
     clear ih27 ih29; exact fL q3c
    rintro ⟨⟩
    clear ih27 ih29; exact fL q3c
   rintro ⟨⟩
   clear ih27 ih29; exact fL q3c
  rintro ⟨⟩
  clear ih27 ih29; exact fL q3c
 ·rintro q6x ih31 ⟨deep,b⟩ r; dsimp only
  refine bs fun v2 h1 => ?_
  have f1 := ja h1
  try simp only [en.down] at f1
  apply it <;> intro h3
  ·try simp only [h3] at f1
   rintro ⟨⟩
   clear ih31; exact fF q4n
  refine bs fun v5 h4 => ?_
  have f2 := ja h4
  try simp only [en.down] at f2
  apply it <;> intro h6
  ·try simp only [h3,h6] at f1 f2
   rintro ⟨⟩
   clear ih31; exact fF q4n
  refine bs fun v8 h7 => ?_
  have f3 := q4c h7
  try simp only [en.down] at f3
  refine zw (fun h9 h10 => ?_) ?_
  ·refine bg qh fun x12 h11 f4 f5 f6 => ?_
   apply it <;> intro h13
   ·try simp only [h3,h6] at f1 f2 f3
    rintro ⟨⟩
    clear ih31; exact fF q4n
   apply it <;> intro h14
   ·try simp only [h3,h6] at f1 f2 f3
    rintro ⟨⟩
    clear ih31; exact fF q4n
   refine bs fun v16 h15 => ?_
   have f7 := ih31 _ _ h15
   try simp only [en.down] at f7
   apply it <;> intro h17
   ·try simp only [h3,h6] at f1 f2 f3 f7
    rintro ⟨⟩
    clear ih31; exact fF q4n
   refine bs fun v19 h18 => ?_
   have f8 := qn4 h18
   try simp only [en.down] at f8
   try simp only [h3,h6] at f1 f2 f3 f7 f8
   rintro ⟨⟩
   clear ih31; exact fF q4n
  rintro (⟨h9,h10⟩ | ⟨h9,h10⟩)
  all_goals
  refine bs fun v26 h25 => ?_
  have f9 := ih31 _ _ h25
  try simp only [en.down] at f9
  apply it <;> intro h27
  ·try simp only [h3,h6] at f1 f2 f3 f9
   rintro ⟨⟩
   clear ih31; exact fF q4n
  refine bs fun v29 h28 => ?_
  have f10 := qn4 h28
  try simp only [en.down] at f10
  try simp only [h3,h6] at f1 f2 f3 f9 f10
  rintro ⟨⟩
  clear ih31; exact fF q4n
 ·rintro q1b ih25 ⟨deep,b⟩ r; dsimp only
  refine bs fun v2 h1 => ?_
  have f1 := ja h1
  try simp only [en.down] at f1
  apply it <;> intro h3
  ·try simp only [h3] at f1
   rintro ⟨⟩
   clear ih25; exact fF mh
  refine bs fun v5 h4 => ?_
  have f2 := ja h4
  try simp only [en.down] at f2
  apply it <;> intro h6
  ·apply it <;> intro h7
   ·try simp only [h3,h6] at f1 f2
    rintro ⟨⟩
    clear ih25; exact fF mh
   refine bs fun v9 h8 => ?_
   have f3 := ja h8
   try simp only [en.down] at f3
   apply it <;> intro h10
   ·refine bs fun v12 h11 => ?_
    have f4 := ja h11
    try simp only [en.down] at f4
    apply it <;> intro h13
    ·try simp only [h3,h6,h10] at f1 f2 f3 f4
     rintro ⟨⟩
     clear ih25; exact fF mh
    refine bs fun v15 h14 => ?_
    have f5 := ih25 _ _ h14
    try simp only [en.down] at f5
    apply it <;> intro h16
    ·try simp only [h3,h6,h10] at f1 f2 f3 f4 f5
     rintro ⟨⟩
     clear ih25; exact fF mh
    refine bs fun v18 h17 => ?_
    have f6 := ja h17
    try simp only [en.down] at f6
    apply it <;> intro h19
    ·try simp only [h3,h6,h10] at f1 f2 f3 f4 f5 f6
     rintro ⟨⟩
     clear ih25; exact fF mh
    try simp only [h3,h6,h10] at f1 f2 f3 f4 f5 f6
    rintro ⟨⟩
    clear ih25; exact fF mh
   refine bs fun v21 h20 => ?_
   have f7 := ih25 _ _ h20
   try simp only [en.down] at f7
   apply it <;> intro h22
   ·try simp only [h3,h6,h10] at f1 f2 f3 f7
    rintro ⟨⟩
    clear ih25; exact fF mh
   refine bs fun v24 h23 => ?_
   have f8 := ja h23
   try simp only [en.down] at f8
   apply it <;> intro h25
   ·try simp only [h3,h6,h10] at f1 f2 f3 f7 f8
    rintro ⟨⟩
    clear ih25; exact fF mh
   try simp only [h3,h6,h10] at f1 f2 f3 f7 f8
   rintro ⟨⟩
   clear ih25; exact fF mh
  refine bs fun v27 h26 => ?_
  have f9 := ja h26
  try simp only [en.down] at f9
  apply it <;> intro h28
  ·refine bs fun v30 h29 => ?_
   have f10 := zcc h29
   try simp only [en.down] at f10
   try simp only [h3,h6,h28] at f1 f2 f9 f10
   rintro ⟨⟩
   clear ih25; exact fF mh
  refine bs fun v32 h31 => ?_
  have f11 := ja h31
  try simp only [en.down] at f11
  apply it <;> intro h33
  ·refine bs fun v35 h34 => ?_
   have f12 := z4x h34
   try simp only [en.down] at f12
   try simp only [h3,h6,h28,h33] at f1 f2 f9 f11 f12
   rintro ⟨⟩
   clear ih25; exact fF mh
  refine bs fun v37 h36 => ?_
  have f13 := q4c h36
  try simp only [en.down] at f13
  refine zob ?_ (fun h38 h39 h40 h41 h42 h43 => ?_)
  ·rintro (⟨h38,h39,h40,h41,h42,h43⟩ | ⟨h38,h39,h40,h41,h42,h43⟩ | ⟨h38,h39,h40,h41,h42,h43⟩ | ⟨h38,h39,h40,h41,h42,h43⟩ | ⟨h38,h39,h40,h41,h42,h43⟩ | ⟨h38,h39,h40,h41,h42,h43⟩)
   all_goals
   try simp only [h3,h6,h28,h33] at f1 f2 f9 f11 f13
   rintro ⟨⟩
   clear ih25; exact fF mh
  refine bs fun v45 h44 => ?_
  have f14 := q99 h44
  try simp only [en.down] at f14
  apply it <;> intro h46
  ·try simp only [h3,h6,h28,h33] at f1 f2 f9 f11 f13 f14
   rintro ⟨⟩
   clear ih25; exact fF mh
  try simp only [h3,h6,h28,h33] at f1 f2 f9 f11 f13 f14
  rintro ⟨⟩
  clear ih25; exact fF mh
theorem zg6 {s r} (h : qbo s = some r) : O.call 73 [v_s s] [] = some (AV.tup [v_g (T.Rx.enc r.1),v_i r.2],[]) := by
 revert h; unfold qbo
 apply it <;> intro h1
 ·rintro ⟨⟩
  exact fF qfv
 refine bs fun v3 h2 => ?_
 have f1 := qg3 h2
 try simp only [en.down] at f1
 refine bs fun v5 h4 => ?_
 have f2 := z4d.1 _ _ h4
 try simp only [en.down] at f2
 refine zw (fun h6 h7 => ?_) ?_
 ·have f3 : ((10 : Int) != (0 : Int)) = true := by decide
  rintro ⟨⟩
  exact fF qfv
 rintro (⟨h6,h7⟩ | ⟨h6,h7⟩)
 all_goals
 apply it <;> intro h9
 ·rintro ⟨⟩
  exact fF qfv
 rintro ⟨⟩
 exact fF qfv
theorem qr5 {way r} (h : q8n way = some r) : O.call 117 [v_i way] [] = some (v_s r,[]) := by
 revert h; unfold q8n
 apply it <;> intro h1
 ·rintro ⟨⟩
  exact fF q8z
 apply it <;> intro h2
 ·rintro ⟨⟩
  exact fF q8z
 apply it <;> intro h3
 ·rintro ⟨⟩
  exact fF q8z
 apply it <;> intro h4
 ·rintro ⟨⟩
  exact fF q8z
 apply it <;> intro h5
 ·rintro ⟨⟩
  exact fF q8z
 rintro ⟨⟩
 exact fF q8z
def qks (t4 : T.Fmt) (f : T.Fmt) : ((Int × Bool × T.Fmt × T.Fmt) ⊕ (Unit)) → Ex × St
 | .inl y => (Ex.ret,⟨[(4,AV.ptr 0 0),(5,v_i y.1),(6,v_b y.2.1)],[(0,b_x (T.Fmt.enc y.2.2.1)),(1,b_x (T.Fmt.enc y.2.2.2))],2⟩)
 | .inr y => (Ex.normal,⟨[(4,AV.ptr 0 0),(5,AV.undef),(6,AV.undef)],[(0,b_x (T.Fmt.enc t4)),(1,b_x (T.Fmt.enc f))],2⟩)
attribute [local go_sem] qks
theorem zh3 : ∀ p r,q5v p = some r → O.loop 97 1 ⟨[(0,v_s p.1),(4,AV.ptr 0 0),(8,v_i p.2.1),(10,AV.ptr 1 0),(11,v_i p.2.2.1)],[(0,b_x (T.Fmt.enc p.2.2.2.1)),(1,b_x (T.Fmt.enc p.2.2.2.2))],2⟩ = some (qks p.2.2.2.1 p.2.2.2.2 r) := by
 refine q5v.partial_correctness _ ?_
 rintro q5v ih55 ⟨s,end_,w,t4,f⟩ r; dsimp only
 apply it <;> intro h1
 ·refine bs fun v3 h2 => ?_
  have f1 := qr5 h2
  try simp only [en.down] at f1
  refine gd fun h4 => ?_
  have f2 : (v3.length + 1 ≤ 2 ^ 62) = True := eq_true h4
  apply it <;> intro h5
  ·refine b2s fun r7 h6 f3 f4 f5 f6 f7 => ?_
   apply it <;> intro h8
   ·rintro ⟨⟩
    clear ih55; exact fL wm
   intro h; have f8 := ih55 _ _ h; clear h
   try simp only [en.down] at f8
   clear ih55; exact fL wm
  intro h; have f9 := ih55 _ _ h; clear h
  try simp only [en.down] at f9
  clear ih55; exact fL wm
 rintro ⟨⟩
 clear ih55; exact fL wm
theorem qit {s at_ colon r} (h : q87 s at_ colon = some r) : O.call 98 [v_s s,v_i at_,v_b colon] [] = some (v_b r,[]) := by
 revert h; unfold q87
 refine bc fun b2 h1 f1 f2 => ?_
 refine xq ?_ (fun h3 h4 => ?_)
 ·rintro (⟨h3,h4⟩ | ⟨h3,h4⟩)
  all_goals
  rintro ⟨⟩
  exact fF qe0
 refine bc fun b6 h5 f3 f4 => ?_
 refine qjb ?_ (fun h7 h8 h9 h10 => ?_)
 ·rintro (⟨h7,h8,h9,h10⟩ | ⟨h7,h8,h9,h10⟩ | ⟨h7,h8,h9,h10⟩ | ⟨h7,h8,h9,h10⟩)
  all_goals
  rintro ⟨⟩
  exact fF qe0
 apply it <;> intro h11
 ·rintro ⟨⟩
  exact fF qe0
 rintro ⟨⟩
 exact fF qe0
theorem zid : ∀ p r,q4u p = some r → O.loop 118 0 ⟨[(0,v_s p.1),(1,v_i p.2.1),(2,AV.pv (PV.int IntKind.u8 (p.2.2.1.toNat : Int))),(9,v_r 0 p.2.2.2)],[(0,b_r 1 qm p.2.2.2)],1⟩ = some (Ex.normal,⟨[(0,v_s p.1),(1,v_i r.1),(9,v_r 0 r.2)],[(0,b_r 1 qm r.2)],1⟩) := by
 refine q4u.partial_correctness _ ?_
 rintro q4u ih58 ⟨s,at_,stop,b⟩ r; dsimp only
 apply it <;> intro h1
 ·refine bc fun b3 h2 f1 f2 => ?_
  apply it <;> intro h4
  ·refine bs fun v6 h5 => ?_
   have f3 := qit h5
   try simp only [en.down] at f3
   apply it <;> intro h7
   ·refine bc fun b9 h8 f4 f5 => ?_
    refine gd fun h10 => ?_
    have f6 := rG 1 qm b
    have f7 : List.map qm b ++ [[PV.int IntKind.u8 (b9.toNat : Int)]] = List.map qm (b ++ [b9]) := by simp only [List.map_append,List.map_cons,List.map_nil,zf,zb,ze,qm] <;> rfl
    try simp only [h7] at f3
    intro h; have f8 := ih58 _ _ h; clear h
    try simp only [en.down] at f8
    try simp only [h7] at f8
    clear ih58; exact fL q9u
   refine gd fun h11 => ?_
   have f9 := rG 1 qm b
   have f10 : List.map qm b ++ [[PV.int IntKind.u8 (b3.toNat : Int)]] = List.map qm (b ++ [b3]) := by simp only [List.map_append,List.map_cons,List.map_nil,zf,zb,ze,qm] <;> rfl
   try simp only [h7] at f3
   intro h; have f11 := ih58 _ _ h; clear h
   try simp only [en.down] at f11
   try simp only [h7] at f11
   clear ih58; exact fL q9u
  rintro ⟨⟩
  clear ih58; exact fL q9u
 rintro ⟨⟩
 clear ih58; exact fL q9u
theorem qdc {s at_ stop r} (h : q40 s at_ stop = some r) : O.call 118 [v_s s,v_i at_,AV.pv (PV.int IntKind.u8 (stop.toNat : Int))] [] = some (AV.tup [v_s r.1,v_i r.2.1,v_b r.2.2],[]) := by
 revert h; unfold q40
 refine bs fun v2 h1 => ?_
 have f1 := zid _ _ h1
 try simp only [en.down] at f1
 apply it <;> intro h3
 ·rintro ⟨⟩
  exact fF q9u
 have f2 := jh 1 qm v2.2
 have f3 := bytesOf_map v2.2
 rintro ⟨⟩
 exact fF q9u
theorem z8w {s at_ r} (h : qda s at_ = some r) : O.call 97 [v_s s,v_i at_] [] = some (AV.tup [v_g (T.Fmt.enc r.1),v_i r.2.1,v_b r.2.2],[]) := by
 revert h; unfold qda
 refine bs fun v2 h1 => ?_
 have f1 := qj5 h1
 try simp only [en.down] at f1
 apply it <;> intro h3
 ·try simp only [h3] at f1
  rintro ⟨⟩
  exact fF wm
 apply it <;> intro h4
 ·try simp only [h3] at f1
  rintro ⟨⟩
  exact fF wm
 refine bc fun b6 h5 f2 f3 => ?_
 apply it <;> intro h7
 ·try simp only [h3] at f1
  rintro ⟨⟩
  exact fF wm
 refine bs fun v9 h8 => ?_
 have f4 := qj5 h8
 try simp only [en.down] at f4
 refine xq ?_ (fun h10 h11 => ?_)
 ·rintro (⟨h10,h11⟩ | ⟨h10,h11⟩)
  all_goals
  try simp only [h3] at f1 f4
  rintro ⟨⟩
  exact fF wm
 refine bc fun b13 h12 f5 f6 => ?_
 apply it <;> intro h14
 ·try simp only [h3] at f1 f4
  rintro ⟨⟩
  exact fF wm
 refine xq ?_ (fun h15 h16 => ?_)
 ·rintro (⟨h15,h16⟩ | ⟨h15,h16⟩)
  all_goals
  try simp only [h3] at f1 f4
  rintro ⟨⟩
  exact fF wm
 refine bc fun b18 h17 f7 f8 => ?_
 apply it <;> intro h19
 ·refine bs fun v21 h20 => ?_
  have f9 := zh3 _ _ h20
  try simp only [en.down] at f9
  rcases v21 with y22 | y23
  ·dsimp only
   try simp only [h3] at f1 f4 f9
   rintro ⟨⟩
   exact fF wm
  dsimp only
  try simp only [h3] at f1 f4 f9
  rintro ⟨⟩
  exact fF wm
 apply it <;> intro h24
 ·refine bs fun v26 h25 => ?_
  have f10 := qdc h25
  try simp only [en.down,UInt8.reduceToNat] at f10
  apply it <;> intro h27
  ·try simp only [h3] at f1 f4 f10
   rintro ⟨⟩
   exact fF wm
  try simp only [h3] at f1 f4 f10
  rintro ⟨⟩
  exact fF wm
 apply it <;> intro h28
 ·refine bs fun v30 h29 => ?_
  have f11 := qdc h29
  try simp only [en.down,UInt8.reduceToNat] at f11
  apply it <;> intro h31
  ·refine bs fun v33 h32 => ?_
   have f12 := qdc h32
   try simp only [en.down,UInt8.reduceToNat] at f12
   apply it <;> intro h34
   ·try simp only [h3,h31] at f1 f4 f11 f12
    rintro ⟨⟩
    exact fF wm
   try simp only [h3,h31] at f1 f4 f11 f12
   rintro ⟨⟩
   exact fF wm
  try simp only [h3,h31] at f1 f4 f11
  rintro ⟨⟩
  exact fF wm
 apply it <;> intro h35
 ·refine bs fun v37 h36 => ?_
  have f13 := qdc h36
  try simp only [en.down,UInt8.reduceToNat] at f13
  apply it <;> intro h38
  ·try simp only [h3] at f1 f4 f13
   rintro ⟨⟩
   exact fF wm
  try simp only [h3] at f1 f4 f13
  rintro ⟨⟩
  exact fF wm
 refine bs fun v40 h39 => ?_
 have f14 := qdc h39
 try simp only [en.down,UInt8.reduceToNat] at f14
 apply it <;> intro h41
 ·try simp only [h3] at f1 f4 f14
  rintro ⟨⟩
  exact fF wm
 try simp only [h3] at f1 f4 f14
 rintro ⟨⟩
 exact fF wm
theorem qfa {c r_ r} (h : q2k c r_ = some r) : O.call 99 [v_r 0 r_,AV.pv (PV.int IntKind.u8 (c.toNat : Int))] [(0,b_r 5 T.Fmt.enc r_)] = some (v_r 0 r,[(0,b_r 5 T.Fmt.enc r)]) := by
 revert h; unfold q2k
 apply it <;> intro h1
 ·refine gd fun h2 => ?_
  have f1 := rG 5 T.Fmt.enc r_
  have f2 : List.map T.Fmt.enc r_ ++ [[PV.int IntKind.i64 (0 : Int),PV.int IntKind.i64 (0 : Int),PV.int IntKind.i64 (0 : Int),PV.str ([] : Bytes),PV.str ([] : Bytes)]] = List.map T.Fmt.enc (r_ ++ [(T.Fmt.mk (0 : Int) (0 : Int) (0 : Int) ([] : Bytes) ([] : Bytes))]) := by simp only [List.map_append,List.map_cons,List.map_nil,zf,zb,ze,T.Fmt.za] <;> rfl
  refine bw T.Fmt.enc fun x4 h3 f3 f4 f5 => ?_
  have f6 := jh 1 qm [c]
  try simp only [en.down] at f6
  have f7 := bytesOf_map [c]
  have f8 : bytesOf [[PV.int IntKind.u8 (c.toNat : Int)]] = some [c] := bytesOf_map [c]
  refine gd fun h5 => ?_
  have f9 : (x4.thn.length + 1 ≤ 2 ^ 62) = True := eq_true h5
  have f10 := map_set T.Fmt.enc (r_ ++ [(T.Fmt.mk (0 : Int) (0 : Int) (0 : Int) ([] : Bytes) ([] : Bytes))]) ((IntKind.i64.wrap (((r_ ++ [(T.Fmt.mk (0 : Int) (0 : Int) (0 : Int) ([] : Bytes) ([] : Bytes))]).length : Int) - (1 : Int))).toNat) (T.Fmt.mk x4.kind x4.n x4.cas (x4.thn ++ [c]) x4.els)
  try simp only [en.down] at f10
  rintro ⟨⟩
  exact fF qgm
 refine bW T.Fmt.enc 5 fun x7 h6 f11 f12 f13 f14 f15 => ?_
 apply it <;> intro h8
 ·refine gd fun h9 => ?_
  have f16 : List.map T.Fmt.enc r_ ++ [[PV.int IntKind.i64 (0 : Int),PV.int IntKind.i64 (0 : Int),PV.int IntKind.i64 (0 : Int),PV.str ([] : Bytes),PV.str ([] : Bytes)]] = List.map T.Fmt.enc (r_ ++ [(T.Fmt.mk (0 : Int) (0 : Int) (0 : Int) ([] : Bytes) ([] : Bytes))]) := by simp only [List.map_append,List.map_cons,List.map_nil,zf,zb,ze,T.Fmt.za] <;> rfl
  refine bw T.Fmt.enc fun x11 h10 f17 f18 f19 => ?_
  have f20 := jh 1 qm [c]
  try simp only [en.down] at f20
  have f21 := bytesOf_map [c]
  have f22 : bytesOf [[PV.int IntKind.u8 (c.toNat : Int)]] = some [c] := bytesOf_map [c]
  refine gd fun h12 => ?_
  have f23 : (x11.thn.length + 1 ≤ 2 ^ 62) = True := eq_true h12
  have f24 := map_set T.Fmt.enc (r_ ++ [(T.Fmt.mk (0 : Int) (0 : Int) (0 : Int) ([] : Bytes) ([] : Bytes))]) ((IntKind.i64.wrap (((r_ ++ [(T.Fmt.mk (0 : Int) (0 : Int) (0 : Int) ([] : Bytes) ([] : Bytes))]).length : Int) - (1 : Int))).toNat) (T.Fmt.mk x11.kind x11.n x11.cas (x11.thn ++ [c]) x11.els)
  try simp only [en.down] at f24
  try simp only [f14,f15] at f24
  rintro ⟨⟩
  exact fF qgm
 have f25 := jh 1 qm [c]
 try simp only [en.down] at f25
 have f26 := bytesOf_map [c]
 have f27 : bytesOf [[PV.int IntKind.u8 (c.toNat : Int)]] = some [c] := bytesOf_map [c]
 refine gd fun h13 => ?_
 have f28 : (x7.thn.length + 1 ≤ 2 ^ 62) = True := eq_true h13
 have f29 := map_set T.Fmt.enc r_ ((IntKind.i64.wrap ((r_.length : Int) - (1 : Int))).toNat) (T.Fmt.mk x7.kind x7.n x7.cas (x7.thn ++ [c]) x7.els)
 try simp only [en.down] at f29
 try simp only [f14,f15] at f29
 rintro ⟨⟩
 exact fF qgm
theorem zh5 : ∀ p r,q0m p = some r → O.loop 74 0 ⟨[(0,v_s p.1),(1,v_i p.2.1),(7,v_r 0 p.2.2)],[(0,b_r 5 T.Fmt.enc p.2.2)],1⟩ = some (Ex.normal,⟨[(0,v_s p.1),(1,v_i r.1),(7,v_r 0 r.2)],[(0,b_r 5 T.Fmt.enc r.2)],1⟩) := by
 refine q0m.partial_correctness _ ?_
 rintro q0m ih53 ⟨s,at_,fs⟩ r; dsimp only
 apply it <;> intro h1
 ·refine bc fun b3 h2 f1 f2 => ?_
  apply it <;> intro h4
  ·apply it <;> intro h5
   ·refine bs fun v7 h6 => ?_
    have f3 := z8w h6
    try simp only [en.down] at f3
    apply it <;> intro h8
    ·refine gd fun h9 => ?_
     have f4 := rG 5 T.Fmt.enc fs
     have f5 : List.map T.Fmt.enc fs ++ [[PV.int IntKind.i64 v7.1.kind,PV.int IntKind.i64 v7.1.n,PV.int IntKind.i64 v7.1.cas,PV.str v7.1.thn,PV.str v7.1.els]] = List.map T.Fmt.enc (fs ++ [v7.1]) := by simp only [List.map_append,List.map_cons,List.map_nil,zf,zb,ze,T.Fmt.za] <;> rfl
     try simp only [h8] at f3
     intro h; have f6 := ih53 _ _ h; clear h
     try simp only [en.down] at f6
     try simp only [h8] at f6
     clear ih53; exact fL q2y
    refine bs fun v11 h10 => ?_
    have f7 := qit h10
    try simp only [en.down] at f7
    apply it <;> intro h12
    ·refine bc fun b14 h13 f8 f9 => ?_
     refine bs fun v16 h15 => ?_
     have f10 := qfa h15
     try simp only [en.down] at f10
     try simp only [h8,h12] at f3 f7 f10
     intro h; have f11 := ih53 _ _ h; clear h
     try simp only [en.down] at f11
     try simp only [h8,h12] at f11
     clear ih53; exact fL q2y
    refine bs fun v18 h17 => ?_
    have f12 := qfa h17
    try simp only [en.down] at f12
    try simp only [h8,h12] at f3 f7 f12
    intro h; have f13 := ih53 _ _ h; clear h
    try simp only [en.down] at f13
    try simp only [h8,h12] at f13
    clear ih53; exact fL q2y
   refine bs fun v20 h19 => ?_
   have f14 := qit h19
   try simp only [en.down] at f14
   apply it <;> intro h21
   ·refine bc fun b23 h22 f15 f16 => ?_
    refine bs fun v25 h24 => ?_
    have f17 := qfa h24
    try simp only [en.down] at f17
    try simp only [h21] at f14 f17
    intro h; have f18 := ih53 _ _ h; clear h
    try simp only [en.down] at f18
    try simp only [h21] at f18
    clear ih53; exact fL q2y
   refine bs fun v27 h26 => ?_
   have f19 := qfa h26
   try simp only [en.down] at f19
   try simp only [h21] at f14 f19
   intro h; have f20 := ih53 _ _ h; clear h
   try simp only [en.down] at f20
   try simp only [h21] at f20
   clear ih53; exact fL q2y
  rintro ⟨⟩
  clear ih53; exact fL q2y
 rintro ⟨⟩
 clear ih53; exact fL q2y
theorem zma {s at_ r} (h : qbx s at_ = some r) : O.call 74 [v_s s,v_i at_] [] = some (AV.tup [v_l 5 T.Fmt.enc r.1,v_i r.2.1,v_b r.2.2],[]) := by
 revert h; unfold qbx
 refine xq ?_ (fun h1 h2 => ?_)
 ·rintro (⟨h1,h2⟩ | ⟨h1,h2⟩)
  all_goals
  rintro ⟨⟩
  exact fF q2y
 refine bs fun v4 h3 => ?_
 have f1 := zh5 _ _ h3
 try simp only [en.down] at f1
 apply it <;> intro h5
 ·rintro ⟨⟩
  exact fF q2y
 rintro ⟨⟩
 exact fF q2y
def qoy (s : Bytes) (t4 : T.Form) (r1_ : (List UInt8)) (b2_ : T.Rx) : ((Int × Bool × Int × T.Form × T.Form) ⊕ (Int × T.Form)) → Ex × St
 | .inl y => (Ex.ret,⟨[(0,v_s s),(4,AV.ptr 0 0),(5,v_i y.1),(6,v_b y.2.1),(12,v_i y.2.2.1),(14,AV.ptr 3 0)],[(0,b_x (T.Form.enc y.2.2.2.1)),(1,b_r 1 qm r1_),(2,b_x (T.Rx.enc b2_)),(3,b_x (T.Form.enc y.2.2.2.2))],4⟩)
 | .inr y => (Ex.normal,⟨[(0,v_s s),(4,AV.ptr 0 0),(5,AV.undef),(6,AV.undef),(12,v_i y.1),(14,AV.ptr 3 0)],[(0,b_x (T.Form.enc t4)),(1,b_r 1 qm r1_),(2,b_x (T.Rx.enc b2_)),(3,b_x (T.Form.enc y.2))],4⟩)
attribute [local go_sem] qoy
theorem zms : ∀ p r,q4a p = some r → O.loop 53 2 ⟨[(0,v_s p.1),(4,AV.ptr 0 0),(12,v_i p.2.1),(14,AV.ptr 3 0)],[(0,b_x (T.Form.enc p.2.2.1)),(1,b_r 1 qm p.2.2.2.1),(2,b_x (T.Rx.enc p.2.2.2.2.1)),(3,b_x (T.Form.enc p.2.2.2.2.2))],4⟩ = some (qoy p.1 p.2.2.1 p.2.2.2.1 p.2.2.2.2.1 r) := by
 refine q4a.partial_correctness _ ?_
 rintro q4a ih61 ⟨s,end_,t4,r1_,b2_,f⟩ r; dsimp only
 apply it <;> intro h1
 ·refine bc fun b3 h2 f1 f2 => ?_
  apply it <;> intro h4
  ·refine zw (fun h5 h6 => ?_) ?_
   ·intro h; have f3 := ih61 _ _ h; clear h
    try simp only [en.down] at f3
    clear ih61; exact fL ug
   rintro (⟨h5,h6⟩ | ⟨h5,h6⟩)
   all_goals
   refine zw (fun h9 h10 => ?_) ?_
   ·intro h; have f4 := ih61 _ _ h; clear h
    try simp only [en.down] at f4
    clear ih61; exact fL ug
   rintro (⟨h9,h10⟩ | ⟨h9,h10⟩)
   all_goals
    rintro ⟨⟩
    clear ih61; exact fL ug
  rintro ⟨⟩
  clear ih61; exact fL ug
 rintro ⟨⟩
 clear ih61; exact fL ug
theorem z7e {s at_ r} (h : qby s at_ = some r) : O.call 53 [v_s s,v_i at_] [] = some (AV.tup [v_g (T.Form.enc r.1),v_i r.2.1,v_b r.2.2],[]) := by
 revert h; unfold qby
 refine xq ?_ (fun h1 h2 => ?_)
 ·rintro (⟨h1,h2⟩ | ⟨h1,h2⟩)
  all_goals
  rintro ⟨⟩
  exact fF ug
 refine bc fun b4 h3 f1 f2 => ?_
 apply it <;> intro h5
 ·rintro ⟨⟩
  exact fF ug
 refine bs fun v7 h6 => ?_
 have f3 := qxn _ _ h6
 try simp only [en.down] at f3
 apply it <;> intro h8
 ·rintro ⟨⟩
  exact fF ug
 have f4 := jh 1 qm v7.2
 have f5 := bytesOf_map v7.2
 refine bs fun v10 h9 => ?_
 have f6 := zg6 h9
 try simp only [en.down] at f6
 apply it <;> intro h11
 ·rintro ⟨⟩
  exact fF ug
 refine bs fun v13 h12 => ?_
 have f7 := zma h12
 try simp only [en.down] at f7
 apply it <;> intro h14
 ·rintro ⟨⟩
  exact fF ug
 refine bs fun v16 h15 => ?_
 have f8 := zms _ _ h15
 try simp only [en.down] at f8
 rcases v16 with y17 | y18
 ·dsimp only
  rintro ⟨⟩
  exact fF ug
 dsimp only
 apply it <;> intro h19
 ·rintro ⟨⟩
  exact fF ug
 rintro ⟨⟩
 exact fF ug
theorem zqd : ∀ p r,q49 p = some r → O.loop 54 0 ⟨[(0,AV.ptr 0 0),(1,v_i p.1),(6,v_r 3 p.2.2.2.2.1),(7,v_r 4 p.2.2.2.2.2)],[(0,Blk.box [v_s p.2.1,v_r 1 p.2.2.1,v_r 2 p.2.2.2.1]),(1,Blk.row false 18 (List.map T.qb.enc p.2.2.1)),(2,Blk.row false 1 (List.map qc p.2.2.2.1)),(3,b_r 1 qh p.2.2.2.2.1),(4,b_r 1 qm p.2.2.2.2.2)],5⟩ = some (Ex.normal,⟨[(0,AV.ptr 0 0),(1,v_i r.1),(6,v_r 3 r.2.1),(7,v_r 4 r.2.2)],[(0,Blk.box [v_s p.2.1,v_r 1 p.2.2.1,v_r 2 p.2.2.2.1]),(1,Blk.row false 18 (List.map T.qb.enc p.2.2.1)),(2,Blk.row false 1 (List.map qc p.2.2.2.1)),(3,b_r 1 qh r.2.1),(4,b_r 1 qm r.2.2)],5⟩) := by
 refine q49.partial_correctness _ ?_
 rintro q49 ih63 ⟨at_,r_,r1_,r2_,l,text⟩ r; dsimp only
 apply it <;> intro h1
 ·refine bc fun b3 h2 f1 f2 => ?_
  apply it <;> intro h4
  ·apply it <;> intro h5
   ·have f3 := jh 1 qm text
    have f4 := bytesOf_map text
    refine gd fun h6 => ?_
    have f5 := rG 1 qh l
    have f6 : List.map qh l ++ [[PV.str text]] = List.map qh (l ++ [text]) := by simp only [List.map_append,List.map_cons,List.map_nil,zf,zb,ze,qh] <;> rfl
    intro h; have f7 := ih63 _ _ h; clear h
    try simp only [en.down] at f7
    clear ih63; exact fL q7n
   refine bs fun v8 h7 => ?_
   have f8 := qge h7
   try simp only [en.down] at f8
   apply it <;> intro h9
   ·refine bc fun b11 h10 f9 f10 => ?_
    refine gd fun h12 => ?_
    have f11 := rG 1 qm text
    have f12 : List.map qm text ++ [[PV.int IntKind.u8 (b11.toNat : Int)]] = List.map qm (text ++ [b11]) := by simp only [List.map_append,List.map_cons,List.map_nil,zf,zb,ze,qm] <;> rfl
    try simp only [h9] at f8
    intro h; have f13 := ih63 _ _ h; clear h
    try simp only [en.down] at f13
    try simp only [h9] at f13
    clear ih63; exact fL q7n
   refine gd fun h13 => ?_
   have f14 := rG 1 qm text
   have f15 : List.map qm text ++ [[PV.int IntKind.u8 (b3.toNat : Int)]] = List.map qm (text ++ [b3]) := by simp only [List.map_append,List.map_cons,List.map_nil,zf,zb,ze,qm] <;> rfl
   try simp only [h9] at f8
   intro h; have f16 := ih63 _ _ h; clear h
   try simp only [en.down] at f16
   try simp only [h9] at f16
   clear ih63; exact fL q7n
  rintro ⟨⟩
  clear ih63; exact fL q7n
 rintro ⟨⟩
 clear ih63; exact fL q7n
theorem z9z {at_ b r_ r_2 r} (h : qam at_ b r_ r_2 = some r) : O.call 54 [AV.ptr 0 0,v_i at_] [(0,Blk.box [v_s b,v_r 1 r_,v_r 2 r_2]),(1,Blk.row false 18 (List.map T.qb.enc r_)),(2,Blk.row false 1 (List.map qc r_2))] = some (AV.tup [v_l 1 qh r.1,v_i r.2],[(0,Blk.box [v_s b,v_r 1 r_,v_r 2 r_2]),(1,Blk.row false 18 (List.map T.qb.enc r_)),(2,Blk.row false 1 (List.map qc r_2))]) := by
 revert h; unfold qam
 refine bs fun v2 h1 => ?_
 have f1 := zqd _ _ h1
 try simp only [en.down] at f1
 apply it <;> intro h3
 ·rintro ⟨⟩
  exact fF q7n
 have f2 := jh 1 qm v2.2.2
 have f3 := bytesOf_map v2.2.2
 refine gd fun h4 => ?_
 have f4 := rG 1 qh v2.2.1
 have f5 : List.map qh v2.2.1 ++ [[PV.str v2.2.2]] = List.map qh (v2.2.1 ++ [v2.2.2]) := by simp only [List.map_append,List.map_cons,List.map_nil,zf,zb,ze,qh] <;> rfl
 rintro ⟨⟩
 exact fF q7n
end Go.Proofs.YtdhgdeelagmbpaaGreat
