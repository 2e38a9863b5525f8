/-
  What the machine's calls come to: the plain functions.
-/
import Derived.Test.YthikhbpbpphaaaaGreatDoorRaf
import Derived.Test.YthikhbpbpphaaaaGreatDoorRah
import Derived.Test.YthikhbpbpphaaaaGreatDoorRai
set_option linter.unusedSimpArgs false
set_option linter.unusedVariables false
set_option maxRecDepth 100000
namespace Go.Proofs.YthikhbpbpphaaaaGreatDoor
open Go Go.Gm
attribute [go_sem] needs aop q6x tu List.toList_toArray q6j q5o ng List.take List.drop List.length_cons List.length_nil List.length_map q11 AV.q2a List.append q7a List.getElem?_cons_zero List.getElem?_cons_succ AV.refs AV.ren AV.rows if_true if_false List.nil_append List.append_nil List.cons_append q0y unz q0m q0t q1x q9e List.getElem?_nil touched List.isEmpty_nil Option.some.injEq aUn q2w PV.cells List.replicate List.set_cons_zero List.set_cons_succ q0i q74 je eq_self AV.thaw Blk.thaw q04 q5w aEq ql q37 List.headD_cons ze q62 q2r q5t Blk.ren Blk.refs List.flatMap_nil List.flatMap_cons q3u qci q0u List.map_cons List.map_nil List.drop_zero Option.isSome_none Option.isNone_none Option.isSome_some Option.isNone_some q2p.eq_def zfn refsOf zaz zf7 zjx zfj zk7 qmo zin qms qxq qyh qgg zc8 zcw qtj z6h qud qt5 qky zg7 qkc qwy z2i zhy qx6 freezes.eq_1 freezes.eq_2 ev.eq_1 ev.eq_2 ev.eq_3 ev.eq_4 Env.get.eq_1 Env.get.eq_2 xx.eq_1 xx.eq_2 qg.eq_1 qg.eq_2 q3h.eq_1 jd.eq_1 jd.eq_2 q1y.eq_1 q1y.eq_2 yc.eq_1 yc.eq_2 q70.eq_1 ldP.eq_1 ldP.eq_2 ldA.eq_1 ldA.eq_2 TI.isAgg.eq_1 q25.eq_1 Heap.get.eq_1 Heap.get.eq_2 Heap.put.eq_1 Heap.put.eq_2 zdc qi3 qip qsx qvg qsp qxd z2d qf5 zfl zjv qyt zek zi6 qxb zla z18 qx5 zfd zf3 u7.eq_1 AV.refs.refsL.eq_1 AV.refs.refsL.eq_2 AV.ren.renL.eq_1 AV.ren.renL.eq_2 j5.eq_1 j5.eq_2 jg.eq_1 jg.eq_2 qq1 qty qhx narrow.eq_1 q4j.eq_1 restrict.eq_1 restrict.eq_2 Heap.upto.eq_1 Heap.upto.eq_2 Heap.below.eq_1 Heap.below.eq_2 Env.below.eq_1 Env.below.eq_2 q1e.eq_1 q1e.eq_2 decide_true and_self AV.rows.rowsL.eq_1 AV.rows.rowsL.eq_2 Nat.zero_lt_one Nat.lt_add_one Nat.zero_le Nat.le_refl Nat.zero_add Nat.add_zero and_true true_and Bool.and_true Bool.true_and decide_false Bool.false_eq_true uh.eq_1 uh.eq_2 qvn qv0 uo.eq_1 uo.eq_2 q4g.eq_1 q4g.eq_2 finish.eq_1 List.range_zero pos.eq_1 pos.eq_2 reach.eq_1 reach.eq_2 reach.eq_3 enter.eq_1 zz.eq_1 zz.eq_2 zt.eq_1 zt.eq_2 yx.eq_1 yx.eq_2 setEnv.eq_1 setEnv.eq_2 qh6 zl5 zax qpb zgc za2 ql8 Bool.not_false Bool.not_true Bool.or_self Bool.or_false Bool.false_or Bool.or_true Bool.true_or qpi zh5 z01 Bool.and_self Bool.and_false Bool.false_and nz.eq_1 nz.eq_2 Nat.mul_one Nat.one_mul true_or or_true false_or or_false or_self and_false false_and Gm.freeze.eq_1 AV.thaw.thawL.eq_1 AV.thaw.thawL.eq_2 zn.eq_1 zn.eq_2 fitAll.eq_1 fitAll.eq_2 fitAll.eq_3 q95.eq_1 q52.eq_1 bu.eq_1 bu.eq_2 q8h.eq_1 closedIn.eq_1 closedIn.eq_2 pick.eq_1 pick.eq_2 q1d.eq_1 q1d.eq_2 pq.eq_1 pq.eq_2 jy.eq_1 backTo.eq_1 kr.eq_1 kr.eq_2 yh.eq_1 q1r.eq_1 qyp z3a z7d z9t zhs z6e z00 qij z5z z9e qrh qoh qtb zf2 qs9 qxg zfq z6z canon.eq_1 q35.eq_1 q35.eq_2 q4m.eq_1 q4m.eq_2 yz.eq_1 yz.eq_2 z9y z8u qo6 qvz q0q.eq_1 orT.eq_1 orT.eq_2 isBytes.eq_1 q2q.eq_1 q4h.eq_1 qcz zi8 wy qem qaf qcr qbl q9f qcc qe8 qed take_len zd0 qna qlo qhm q6y.eq_1 q6y.eq_2 kE.eq_1 qj7 qh2 zh9 zhi z9m z90 qzj qob qqp zbu zd8 qsy zcz qsn qai zlg z9b qme qix z8x qw1 z9q z8b qil z5u z4b zhz qtg zkb zcv Int.natCast_zero wz vg take_set List.take_length v_i v_b v_s v_g v_l v_r b_x b_r b_m qw q40 jl q9q slE qb2 T.kz.qc T.qb.qc T.Span.qc T.q9.qc T.Sel.qc T.Op.qc T.qf.qc T.Row.qc T.Rx.qc T.Fmt.qc T.Form.qc T.Stop.qc T.yg.qc T.yu.qc T.State.qc T.q28.qc T.q1t.qc T.q2b.qc T.q2d.qc T.q26.qc T.gm.qc T.uj.qc T.q21.qc T.qz.qc T.Range.qc T.q1n.qc T.q1h.qc T.q1f.qc T.zf.qc T.qy.qc T.q29.qc T.q2g.qc T.q0b.qc T.q1q.qc zal kp3 pr3 zgg kp4 pr4 zlc kp5 pr5 zf9 kp6 pr6 qtz kp7 pr7 z1q kp8 pr8 z3o ql4 qxx qrt qsd z1r z3w qnd z0h qwq z5t qf6 qzx zja qm3 z1g qpo qqd qlw qkk z0l qnt ql3 qoy qnk qua zfr qiu qpk qtp qp7 zf5 qru qp6 qq8 qmg zlm z7q qu0 qhe qxr zcf zi1 qjn z3z zjy qgq z1l z0i qsc z0k z9z qz9 zl7 qjd qsk qiv qqq zaa qso qwd zc9 z2x qyo zbr zgy zgj qm6 qft qgl zjz qtt zgv zeu qy9 qr6 z4u z8i qt4 qf7 qq9 qlr quw zaf qv3 qzc qm0 qzk z4p fz1 fz2 fz3 fz4 fz5 fz6 fz7 fz8 fz9 z9v qmq qsf zbj qwh zjg qkb qff ze1 qf8 zc6 qy8 qlf z5g zd1 qsi qmu zk8 qoo zhj qml qog qv2 ziv z5p qyj qy0 qm5 zgo qmp qg6 qkt zl1 qj2 zdi qmv qx4 qw6 z5j z4j z2q zjb zby qri z1h qzw zcx qlx qng zco zi9 zbh zfy qnb z13 zhe z8y qfe qs3 qxa zdr z1m qxn qpa qwr zaq qsv zk6 qn6 qvo qsw z6n qgx qsl z2s z3b qvv z6i zee ql5 zio qg4 qvy z5s z9l zg2 zhr z8a qxp z7r qox qwe z7n ql7 qny qu7 zjf qp2 zll zgf qr5 qwm qwa zfo qgp z3k qwj qk6 qxe qyw qmm z19 qim qlp ze2 qwf zho z07 zd5 qgb zks z4e z1e zie z9x qpr zd2 qs0 zkt z3s qho zdy qkx qq6 z4h z2l qul z6w qto qlt qfy qz4 zbv qxi zfe qo0 zel qtf zgr qu6 z3v zia qs1 z8f zao z6k qzv zda zcp qjh qow z0m qlu zga qin z92 z0z zjw z3p qqy zlj zfh za8 qrr zfp zhv z5f z10 qn3 z8t z4c quc zes z7c qsb qrf qhi qn8 qyk z2k zkz qiy qr4 qkz z9d zak qy4 z0t qj6 qqi z0b zet qyq qlq qtr qvp z7j zah z9h z7k qig qwg z1f z2e qsj qti zbm qqz qvr z1o qlk z7v qo2 z7p zdu zlf qnh zl6 qj8 qzl qtl zb9 qw9 qi0 qo7 qyd qp3 qo1 qph zar qp0 qhv z05 qro zg8 zei z2y z9o qpn qj9 qwk zfg qvs qhq qm1 zii zfv qof qfw qgf zca qwb qk4 zkr z4r qw4 z6q qlg zea zas zbn zjc qyl zc3 zb0 z8n z4a qgv z8r zl9 qwl qf9 z6v z5v qtc zke qir qv5 qke qzd qxy z7t z03 qgu qzt qki z4d qnf zfc zcl z3c qtu qze z6t z2o zir z7a qq5 qrm z5o z6j que zgi ze4 zgp z5r z3u qrq zg3 qok zb2 ziu qzm qkf qwi zhl qne zhh qw8 zfw qpv qya zce qmw zcq qzh qjr qn1 qyv zbt qps z15 qiq zdb qm8 qxf qnc zjd qih qje qfj qqa z2f qg0 qou zku zcu zib qjt qsa zij qsm z6s z7x z5e z9c qf2 qnr zkp zad z9n qsg qxs z11 zey qle zem qiz z4l zd3 qmn zlb qsh zkm z1k quk qi1 qgr z8v zfx qu9 qez zd6 qhp qrn qwt zbg qpx qmb qid zhn z3d qxm qrj qfx z8o qp8 z7y zgx qmf zg5 zi2 qrd zba qlh z9r quy qyg z0q ql6 zab zbf ze7 qw0 z2r qns zl3 qfp zch qi5 z8c zcr qyi qjz qls qvu zau qye qgy zg4 qse qqu z6g qss zj5 z8m z7s qld z94 zdg zkc z4x zkd zdw zft zhd qu1 qsq z8j qnu zjq zj3 qz1 qwn qy2 qoe qko z3x qg7 z2n zbk zej qpg qoc mf1 mf2 mf3 mf4 mf5 mf6 mf7 mf8 mf9 qz2 z0p qv7 qxk zg6 zkh zik z1z qw7 qxc zdp qvq zkn qzf zbp qnv z2c z6o za1 z4f z9f z4k qi6 qfm qmt qfo z3m zgm z7i qk5 qgw qgt qha qux zat qr0 qw2 z2t qrg zb4 zbo qif z7u qpw qqj qh5 qqs qi8 zcb qj0 zen qz8 qhn z0f zec ze9 zc1 qhr qks qtx ze6 zfi qn7 zdd qzo zb7 qwx qn0 z6b z3n z1s zav qw5 qh1 qoj zc2 qlm qus z3e qga qrk zhf zh3 z7b qgk qmz zlh ze8 z8w z2g z6u qmd z0o zko zew zfm qey qoz qmy z0u qi2 zaw zb6 zcs qyn zh1 zcc qj4 z1c quj qmc z0r qg9 zix qf0 qmh qkg qs2 zgb qvf z3f qpy qn5 qzu z9u zfz z8e qkr z4n qvc qlv zc7 qyy qzi qm9 qqw qt6 qqb qkw qju qfl qon zc0 qtw qly qo8 qkm z7e zac qi7 zht qhc qm2 z7f z5a qry zkv qhu z2m z0y zep zde zcy za3 z1a zeq qx2 zjk zf1 za9 qz6 qnq z6c qf3 zdf qo9 zk5 qp5 qis qza z98 qs6 z8k qi9 ze3 zc4 qhz qyr ziz z3q qx1 qjw qwo qtv qhb qte z7h z6l zjj qj5 qjk qiw qf4 qvd zgn zeo zdq qtq zc5 qku zdz zic zan qnj z0g zbq qws zfk zgs zih qzq z2a zay qfa zis z4v zci z99 zbs zcm z81 qy1 zbi zj6 qhk zha qjc zkw qst z06 zd4 qg1 zji qq7 ziq qr7 zfa qwp z08 qma z1i qie zkj qht qxt qli zh2 qh9 qgh qwv zgz z7m z3g qqe zi0 z0v qoa qvt qh4 qrp z3t qsu qjg qni qfq zae qhl qyz zk1 qhd zkg zdk qop z8h qpj zez qod z4s qlb z9g zh8 zit zjo zai qpp ziw zj9 z5n z5w qgc zdj qjf ql1 qk2 qve z5h z9w qor zdt qtk zfb qgj qia z9i z88 qy3 qo3 qq3 zk9 qub qjl z6x zeg qqt zcg zhb qjs qnw z4w qra qhj qk8 qk3 z02 z5d z1j qz0 zld z8g zcn qfr zjl z5x zgl zi3 zkk zk2 qnz qlc z0c qn2 qno zd7 qfc qrv ql2 qxh qxv qut qfb qgi qx8 qz7 zje zlk qy5 qfk qx3 zge qx9 z3h qpt qr2 z5m z0a z0x zjt qqr qqf zex za4 qpu qu2 qll z95 zli qu3 zg0 qyx qzn zid zhc z3i z0s zjn z8l qqv zhk zhx zi7 qg3 qh7 zgt z8q qfs z5b qww zkx zgd zf8 qy6 qka qu8 qtd qyf qfh qyc z2h z6p z8p qlz z3y z1v qxu qjo qkd qnn quf zim z9a zh7 qjp qqg qt9 z2w qp9 zka z5q zds qth z5l qfv zh6 zj7 zjh qr1 qgo qts zki zkl zgu qre qv9 qln zle zct z2u qh8 qhh qum z1b zaj qmi zjs qv4 z8z qs5 qgn qmx qyu qr8 z6r z6y zcj ti3 ti4 ti5 ti9 qqx qjj qgz qhy ziy zi4 qjx za0 qq4 z96 z3r qz3 zef qur zl4
set_option maxHeartbeats 4000000
theorem z4z : ∀ p r,q0o p = some r → O.loop 24 0 ⟨[(0,AV.ptr 0 0),(3,v_i p.1)],[(0,b_x (T.qb.enc p.2))],1⟩ = some (Ex.normal,⟨[(0,AV.ptr 0 0),(3,v_i p.1)],[(0,b_x (T.qb.enc r))],1⟩) := by
 refine q0o.partial_correctness _ ?_
 rintro q0o ih5 ⟨frm,p_⟩ r; dsimp only
 apply it <;> intro h1
 ·refine bg qw fun x3 h2 f1 f2 f3 => ?_
  apply it <;> intro h4
  ·apply it <;> intro h5
   ·intro h; have f4 := ih5 _ _ h; clear h
    try simp only [en.down] at f4
    clear ih5; exact fL q5v
   rintro ⟨⟩
   clear ih5; exact fL q5v
  rintro ⟨⟩
  clear ih5; exact fL q5v
 rintro ⟨⟩
 clear ih5; exact fL q5v
theorem qav {b r} (h : q4o b = some r) : O.call 24 [AV.ptr 0 0] [(0,b_x (T.qb.enc b))] = some (v_s r.1,[(0,b_x (T.qb.enc r.2))]) := by
 revert h; unfold q4o
 refine bs fun v2 h1 => ?_
 have f1 := z4z _ _ h1
 try simp only [en.down] at f1
 have f2 := q2h 1 qw v2.place.b.l
 refine b2 qw fun r4 h3 f3 f4 f5 f6 f7 f8 => ?_
 have f9 := q2h 1 qw r4
 have f10 := bytesOf_map r4
 rintro ⟨⟩
 exact fF q5v
theorem q7w {b r} (h : q39 b = some r) : O.call 25 [AV.ptr 0 0] [(0,b_x (T.qb.enc b))] = some (v_b r,[(0,b_x (T.qb.enc b))]) := by
 revert h; unfold q39
 refine q3g (fun h1 h2 => ?_) ?_
 ·refine bg qw fun x4 h3 f1 f2 f3 => ?_
  rintro ⟨⟩
  exact fF qen
 rintro (⟨h1,h2⟩ | ⟨h1,h2⟩)
 all_goals
 rintro ⟨⟩
 exact fF qen
theorem ky {c b r} (h : ja c b = some r) : O.call 27 [AV.ptr 0 0,AV.pv (PV.int IntKind.u8 (c.toNat : Int))] [(0,b_x (T.qb.enc b))] = some (v_b r.1,[(0,b_x (T.qb.enc r.2))]) := by
 revert h; unfold ja
 apply it <;> intro h1
 ·rintro ⟨⟩
  exact fF q8o
 refine bg qw fun x3 h2 f1 f2 f3 => ?_
 apply it <;> intro h4
 ·rintro ⟨⟩
  exact fF q8o
 rintro ⟨⟩
 exact fF q8o
theorem q8n {b r} (h : q3e b = some r) : O.call 29 [AV.ptr 0 0] [(0,b_x (T.qb.enc b))] = some (AV.tup [],[(0,b_x (T.qb.enc r))]) := by
 revert h; unfold q3e
 apply it <;> intro h1
 ·refine bs fun v3 h2 => ?_
  have f1 := ky h2
  try simp only [en.down,UInt8.reduceToNat] at f1
  try simp only [h1] at f1
  rintro ⟨⟩
  exact fF qbf
 rintro ⟨⟩
 exact fF qbf
def qcu (below : Bool) (frm : Int) : ((Int × Bool × Int × T.qb) ⊕ (Int × T.qb)) → Ex × St
 | .inl y => (Ex.ret,⟨[(0,AV.ptr 0 0),(2,v_i y.1),(3,v_b y.2.1),(4,v_b below),(5,v_i frm),(6,v_i y.2.2.1)],[(0,b_x (T.qb.enc y.2.2.2))],1⟩)
 | .inr y => (Ex.normal,⟨[(0,AV.ptr 0 0),(2,AV.undef),(3,AV.undef),(4,v_b below),(5,v_i frm),(6,v_i y.1)],[(0,b_x (T.qb.enc y.2))],1⟩)
attribute [local go_sem] qcu
theorem qgm : ∀ p r,q0e p = some r → O.loop 53 0 ⟨[(0,AV.ptr 0 0),(4,v_b p.1),(5,v_i p.2.1),(6,v_i p.2.2.1)],[(0,b_x (T.qb.enc p.2.2.2))],1⟩ = some (qcu p.1 p.2.1 r) := by
 refine q0e.partial_correctness _ ?_
 rintro q0e ih12 ⟨below,frm,n,p_⟩ r; dsimp only
 apply it <;> intro h1
 ·refine bg qw fun x3 h2 f1 f2 f3 => ?_
  apply it <;> intro h4
  ·apply it <;> intro h5
   ·apply it <;> intro h6
    ·rintro ⟨⟩
     clear ih12; exact fL mr
    intro h; have f4 := ih12 _ _ h; clear h
    try simp only [en.down] at f4
    clear ih12; exact fL mr
   rintro ⟨⟩
   clear ih12; exact fL mr
  rintro ⟨⟩
  clear ih12; exact fL mr
 rintro ⟨⟩
 clear ih12; exact fL mr
theorem qdc {b r} (h : q3f b = some r) : O.call 53 [AV.ptr 0 0] [(0,b_x (T.qb.enc b))] = some (AV.tup [v_i r.1,v_b r.2.1],[(0,b_x (T.qb.enc r.2.2))]) := by
 revert h; unfold q3f
 refine bs fun v2 h1 => ?_
 have f1 := ky h1
 try simp only [en.down,UInt8.reduceToNat] at f1
 refine bs fun v4 h3 => ?_
 have f2 := qgm _ _ h3
 try simp only [en.down] at f2
 rcases v4 with y5 | y6
 ·dsimp only
  rintro ⟨⟩
  exact fF mr
 dsimp only
 apply it <;> intro h7
 ·rintro ⟨⟩
  exact fF mr
 refine bg qw fun x9 h8 f3 f4 f5 => ?_
 apply it <;> intro h10
 ·refine q60 ?_ (fun h11 h12 => ?_)
  ·rintro (⟨h11,h12⟩ | ⟨h11,h12⟩)
   all_goals
   try simp only [h11] at f1 f2
   rintro ⟨⟩
   exact fF mr
  try simp only [h11] at f1 f2
  rintro ⟨⟩
  exact fF mr
 apply it <;> intro h13
 ·try simp only [h13] at f1 f2
  rintro ⟨⟩
  exact fF mr
 try simp only [h13] at f1 f2
 rintro ⟨⟩
 exact fF mr
theorem q1s {b r} (h : um b = some r) : O.call 26 [AV.ptr 0 0] [(0,b_x (T.qb.enc b))] = some (v_i r.1,[(0,b_x (T.qb.enc r.2))]) := by
 revert h; unfold um
 refine bs fun v2 h1 => ?_
 have f1 := q8n h1
 try simp only [en.down] at f1
 refine bs fun v4 h3 => ?_
 have f2 := qdc h3
 try simp only [en.down] at f2
 apply it <;> intro h5
 ·try simp only [h5] at f1 f2
  rintro ⟨⟩
  exact fF q9k
 try simp only [h5] at f1 f2
 rintro ⟨⟩
 exact fF q9k
theorem qjv : ∀ p r,pg p = some r → O.loop 11 0 ⟨[(0,AV.ptr 0 0),(3,v_r 1 p.2)],[(0,b_x (T.qb.enc p.1)),(1,b_r 1 (kE IntKind.u32) p.2)],2⟩ = some (Ex.normal,⟨[(0,AV.ptr 0 0),(3,v_r 1 r.2)],[(0,b_x (T.qb.enc r.1)),(1,b_r 1 (kE IntKind.u32) r.2)],2⟩) := by
 refine pg.partial_correctness _ ?_
 rintro pg ih6 ⟨r_,nums⟩ r; dsimp only
 refine bs fun v2 h1 => ?_
 have f1 := q7w h1
 try simp only [en.down] at f1
 apply it <;> intro h3
 ·refine bs fun v5 h4 => ?_
  have f2 := q1s h4
  try simp only [en.down] at f2
  refine q3g (fun h6 h7 => ?_) ?_
  ·refine gd fun h8 => ?_
   have f3 := rG 1 (kE IntKind.u32) nums
   have f4 : List.map (kE IntKind.u32) nums ++ [[PV.int IntKind.u32 (IntKind.u32.wrap v5.1)]] = List.map (kE IntKind.u32) (nums ++ [(IntKind.u32.wrap v5.1)]) := by simp only [List.map_append,List.map_cons,List.map_nil,wz,vg,wy,kE] <;> rfl
   try simp only [h3,h6] at f1 f2
   intro h; have f5 := ih6 _ _ h; clear h
   try simp only [en.down] at f5
   try simp only [h3,h6] at f5
   clear ih6; exact fL q5s
  rintro (⟨h6,h7⟩ | ⟨h6,h7⟩)
  all_goals
  refine gd fun h10 => ?_
  have f6 := rG 1 (kE IntKind.u32) nums
  have f7 : List.map (kE IntKind.u32) nums ++ [[PV.int IntKind.u32 (IntKind.u32.wrap v5.1)]] = List.map (kE IntKind.u32) (nums ++ [(IntKind.u32.wrap v5.1)]) := by simp only [List.map_append,List.map_cons,List.map_nil,wz,vg,wy,kE] <;> rfl
  try simp only [h3,h6] at f1 f2
  intro h; have f8 := ih6 _ _ h; clear h
  try simp only [en.down] at f8
  try simp only [h3,h6] at f8
  clear ih6; exact fL q5s
 try simp only [h3] at f1
 rintro ⟨⟩
 clear ih6; exact fL q5s
theorem zj0 {b r} (h : q5u b = some r) : O.call 11 [AV.ptr 0 0] [(0,b_x (T.qb.enc b))] = some (v_l 1 (kE IntKind.u32) r.1,[(0,b_x (T.qb.enc r.2))]) := by
 revert h; unfold q5u
 refine bs fun v2 h1 => ?_
 have f1 := qav h1
 try simp only [en.down] at f1
 refine bs fun v4 h3 => ?_
 have f2 := qjv _ _ h3
 try simp only [en.down] at f2
 apply it <;> intro h5
 ·refine bs fun v7 h6 => ?_
  have f3 := ky h6
  try simp only [en.down,UInt8.reduceToNat] at f3
  try simp only [h5] at f1 f2 f3
  rintro ⟨⟩
  exact fF q5s
 try simp only [h5] at f1 f2
 rintro ⟨⟩
 exact fF q5s
theorem qhw {b r} (h : q4n b = some r) : O.call 54 [AV.ptr 0 0] [(0,b_x (T.qb.enc b))] = some (AV.tup [v_s r.1,v_b r.2.1],[(0,b_x (T.qb.enc r.2.2))]) := by
 revert h; unfold q4n
 refine bs fun v2 h1 => ?_
 have f1 := qdc h1
 try simp only [en.down] at f1
 apply it <;> intro h3
 ·rintro ⟨⟩
  exact fF q96
 refine bs fun v5 h4 => ?_
 have f2 := ky h4
 try simp only [en.down,UInt8.reduceToNat] at f2
 refine qax ?_ (fun h6 h7 h8 => ?_)
 ·rintro (⟨h6,h7,h8⟩ | ⟨h6,h7,h8⟩ | ⟨h6,h7,h8⟩)
  all_goals
  rintro ⟨⟩
  exact fF q96
 have f3 := q2h 1 qw v5.2.place.b.l
 refine b2 qw fun r10 h9 f4 f5 f6 f7 f8 f9 => ?_
 have f10 := q2h 1 qw r10
 have f11 := bytesOf_map r10
 rintro ⟨⟩
 exact fF q96
theorem q64 {b r} (h : q0j b = some r) : O.call 28 [AV.ptr 0 0] [(0,b_x (T.qb.enc b))] = some (v_s r.1,[(0,b_x (T.qb.enc r.2))]) := by
 revert h; unfold q0j
 refine bs fun v2 h1 => ?_
 have f1 := q8n h1
 try simp only [en.down] at f1
 refine bs fun v4 h3 => ?_
 have f2 := qhw h3
 try simp only [en.down] at f2
 apply it <;> intro h5
 ·try simp only [h5] at f1 f2
  rintro ⟨⟩
  exact fF qde
 try simp only [h5] at f1 f2
 rintro ⟨⟩
 exact fF qde
theorem qtn : ∀ p r,q15 p = some r → O.loop 12 1 ⟨[(0,AV.ptr 0 0),(2,AV.ptr 1 0),(3,AV.ptr 2 0)],[(0,b_x (T.qb.enc p.1)),(1,b_x (T.Op.enc p.2.1)),(2,Blk.box [v_i p.2.2.1,v_s p.2.2.2.1,v_s p.2.2.2.2.1,v_i p.2.2.2.2.2.1,v_b p.2.2.2.2.2.2.1,v_r 3 p.2.2.2.2.2.2.2.2,v_l 2 T.Sel.enc p.2.2.2.2.2.2.2.1]),(3,b_r 3 T.q9.enc p.2.2.2.2.2.2.2.2)],4⟩ = some (Ex.normal,⟨[(0,AV.ptr 0 0),(2,AV.ptr 1 0),(3,AV.ptr 2 0)],[(0,b_x (T.qb.enc r.1)),(1,b_x (T.Op.enc p.2.1)),(2,Blk.box [v_i p.2.2.1,v_s p.2.2.2.1,v_s p.2.2.2.2.1,v_i p.2.2.2.2.2.1,v_b p.2.2.2.2.2.2.1,v_r 3 r.2,v_l 2 T.Sel.enc p.2.2.2.2.2.2.2.1]),(3,b_r 3 T.q9.enc r.2)],4⟩) := by
 refine q15.partial_correctness _ ?_
 rintro q15 ih17 ⟨r_,t2,o,o2,o3,o4,o5,o6,r3_⟩ r; dsimp only
 refine bs fun v2 h1 => ?_
 have f1 := q7w h1
 try simp only [en.down] at f1
 apply it <;> intro h3
 ·refine bs fun v5 h4 => ?_
  have f2 := q1s h4
  try simp only [en.down] at f2
  refine bs fun v7 h6 => ?_
  have f3 := q1s h6
  try simp only [en.down] at f3
  refine bs fun v9 h8 => ?_
  have f4 := q64 h8
  try simp only [en.down] at f4
  refine gd fun h10 => ?_
  have f5 := rG 3 T.q9.enc r3_
  have f6 : List.map T.q9.enc r3_ ++ [[PV.int IntKind.i64 v5.1,PV.int IntKind.i64 v7.1,PV.str v9.1]] = List.map T.q9.enc (r3_ ++ [(T.q9.mk (T.Span.mk v5.1 v7.1) v9.1)]) := by simp only [List.map_append,List.map_cons,List.map_nil,wz,vg,wy,T.q9.qc] <;> rfl
  try simp only [h3] at f1 f2 f3 f4
  intro h; have f7 := ih17 _ _ h; clear h
  try simp only [en.down] at f7
  try simp only [h3] at f7
  clear ih17; exact fL xn
 try simp only [h3] at f1
 rintro ⟨⟩
 clear ih17; exact fL xn
theorem zju : ∀ p r,q13 p = some r → O.loop 12 3 ⟨[(0,AV.ptr 0 0),(2,AV.ptr 1 0),(3,AV.ptr 2 0)],[(0,b_x (T.qb.enc p.1)),(1,b_x (T.Op.enc p.2.1)),(2,Blk.box [v_i p.2.2.1,v_s p.2.2.2.1,v_s p.2.2.2.2.1,v_i p.2.2.2.2.2.1,v_b p.2.2.2.2.2.2.1,v_l 3 T.q9.enc p.2.2.2.2.2.2.2.1,v_r 3 p.2.2.2.2.2.2.2.2]),(3,b_r 2 T.Sel.enc p.2.2.2.2.2.2.2.2)],4⟩ = some (Ex.normal,⟨[(0,AV.ptr 0 0),(2,AV.ptr 1 0),(3,AV.ptr 2 0)],[(0,b_x (T.qb.enc r.1)),(1,b_x (T.Op.enc p.2.1)),(2,Blk.box [v_i p.2.2.1,v_s p.2.2.2.1,v_s p.2.2.2.2.1,v_i p.2.2.2.2.2.1,v_b p.2.2.2.2.2.2.1,v_l 3 T.q9.enc p.2.2.2.2.2.2.2.1,v_r 3 r.2]),(3,b_r 2 T.Sel.enc r.2)],4⟩) := by
 refine q13.partial_correctness _ ?_
 rintro q13 ih18 ⟨r_,t2,o,o2,o3,o4,o5,o6,r3_⟩ r; dsimp only
 refine bs fun v2 h1 => ?_
 have f1 := q7w h1
 try simp only [en.down] at f1
 apply it <;> intro h3
 ·refine bs fun v5 h4 => ?_
  have f2 := q1s h4
  try simp only [en.down] at f2
  refine bs fun v7 h6 => ?_
  have f3 := q1s h6
  try simp only [en.down] at f3
  refine gd fun h8 => ?_
  have f4 := rG 2 T.Sel.enc r3_
  have f5 : List.map T.Sel.enc r3_ ++ [[PV.int IntKind.i64 v5.1,PV.int IntKind.i64 v7.1]] = List.map T.Sel.enc (r3_ ++ [(T.Sel.mk v5.1 v7.1)]) := by simp only [List.map_append,List.map_cons,List.map_nil,wz,vg,wy,T.Sel.qc] <;> rfl
  try simp only [h3] at f1 f2 f3
  intro h; have f6 := ih18 _ _ h; clear h
  try simp only [en.down] at f6
  try simp only [h3] at f6
  clear ih18; exact fL xn
 try simp only [h3] at f1
 rintro ⟨⟩
 clear ih18; exact fL xn
theorem z1u {word r} (h : q4t word = some r) : O.call 30 [v_s word] [] = some (v_i r,[]) := by
 revert h; unfold q4t
 apply it <;> intro h1
 ·rintro ⟨⟩
  exact fF q49
 apply it <;> intro h2
 ·rintro ⟨⟩
  exact fF q49
 apply it <;> intro h3
 ·rintro ⟨⟩
  exact fF q49
 apply it <;> intro h4
 ·rintro ⟨⟩
  exact fF q49
 apply it <;> intro h5
 ·rintro ⟨⟩
  exact fF q49
 rintro ⟨⟩
 exact fF q49
theorem ze5 {b r} (h : q56 b = some r) : O.call 12 [AV.ptr 0 0] [(0,b_x (T.qb.enc b))] = some (v_g (T.Op.enc r.1),[(0,b_x (T.qb.enc r.2))]) := by
 revert h; unfold q56
 refine bs fun v2 h1 => ?_
 have f1 := qav h1
 try simp only [en.down] at f1
 apply it <;> intro h3
 ·refine bs fun v5 h4 => ?_
  have f2 := q64 h4
  try simp only [en.down] at f2
  refine bs fun v7 h6 => ?_
  have f3 := q64 h6
  try simp only [en.down] at f3
  apply it <;> intro h8
  ·refine bs fun v10 h9 => ?_
   have f4 := ky h9
   try simp only [en.down,UInt8.reduceToNat] at f4
   try simp only [h8] at f1 f2 f3 f4
   rintro ⟨⟩
   exact fF xn
  try simp only [h8] at f1 f2 f3
  rintro ⟨⟩
  exact fF xn
 apply it <;> intro h11
 ·refine bs fun v13 h12 => ?_
  have f5 := q64 h12
  try simp only [en.down] at f5
  apply it <;> intro h14
  ·refine bs fun v16 h15 => ?_
   have f6 := ky h15
   try simp only [en.down,UInt8.reduceToNat] at f6
   try simp only [h14] at f1 f5 f6
   rintro ⟨⟩
   exact fF xn
  try simp only [h14] at f1 f5
  rintro ⟨⟩
  exact fF xn
 apply it <;> intro h17
 ·refine bs fun v19 h18 => ?_
  have f7 := q64 h18
  try simp only [en.down] at f7
  apply it <;> intro h20
  ·refine bs fun v22 h21 => ?_
   have f8 := ky h21
   try simp only [en.down,UInt8.reduceToNat] at f8
   try simp only [h20] at f1 f7 f8
   rintro ⟨⟩
   exact fF xn
  try simp only [h20] at f1 f7
  rintro ⟨⟩
  exact fF xn
 apply it <;> intro h23
 ·refine bs fun v25 h24 => ?_
  have f9 := q1s h24
  try simp only [en.down] at f9
  apply it <;> intro h26
  ·refine bs fun v28 h27 => ?_
   have f10 := ky h27
   try simp only [en.down,UInt8.reduceToNat] at f10
   try simp only [h26] at f1 f9 f10
   rintro ⟨⟩
   exact fF xn
  try simp only [h26] at f1 f9
  rintro ⟨⟩
  exact fF xn
 apply it <;> intro h29
 ·refine bs fun v31 h30 => ?_
  have f11 := q1s h30
  try simp only [en.down] at f11
  apply it <;> intro h32
  ·refine bs fun v34 h33 => ?_
   have f12 := ky h33
   try simp only [en.down,UInt8.reduceToNat] at f12
   try simp only [h32] at f1 f11 f12
   rintro ⟨⟩
   exact fF xn
  try simp only [h32] at f1 f11
  rintro ⟨⟩
  exact fF xn
 apply it <;> intro h35
 ·refine bs fun v37 h36 => ?_
  have f13 := q1s h36
  try simp only [en.down] at f13
  refine bs fun v39 h38 => ?_
  have f14 := q8n h38
  try simp only [en.down] at f14
  refine bs fun v41 h40 => ?_
  have f15 := ky h40
  try simp only [en.down,UInt8.reduceToNat] at f15
  apply it <;> intro h42
  ·apply it <;> intro h43
   ·refine bs fun v45 h44 => ?_
    have f16 := ky h44
    try simp only [en.down,UInt8.reduceToNat] at f16
    try simp only [h42,h43] at f1 f13 f14 f15 f16
    rintro ⟨⟩
    exact fF xn
   refine bs fun v47 h46 => ?_
   have f17 := ky h46
   try simp only [en.down,UInt8.reduceToNat] at f17
   apply it <;> intro h48
   ·refine bs fun v50 h49 => ?_
    have f18 := ky h49
    try simp only [en.down,UInt8.reduceToNat] at f18
    try simp only [h42,h43,h48] at f1 f13 f14 f15 f17 f18
    rintro ⟨⟩
    exact fF xn
   try simp only [h42,h43,h48] at f1 f13 f14 f15 f17
   rintro ⟨⟩
   exact fF xn
  try simp only [h42] at f1 f13 f14 f15
  rintro ⟨⟩
  exact fF xn
 apply it <;> intro h51
 ·refine bs fun v53 h52 => ?_
  have f19 := qtn _ _ h52
  try simp only [en.down] at f19
  apply it <;> intro h54
  ·refine bs fun v56 h55 => ?_
   have f20 := ky h55
   try simp only [en.down,UInt8.reduceToNat] at f20
   try simp only [h54] at f1 f19 f20
   rintro ⟨⟩
   exact fF xn
  try simp only [h54] at f1 f19
  rintro ⟨⟩
  exact fF xn
 apply it <;> intro h57
 ·refine bs fun v59 h58 => ?_
  have f21 := zju _ _ h58
  try simp only [en.down] at f21
  apply it <;> intro h60
  ·refine bs fun v62 h61 => ?_
   have f22 := ky h61
   try simp only [en.down,UInt8.reduceToNat] at f22
   try simp only [h60] at f1 f21 f22
   rintro ⟨⟩
   exact fF xn
  try simp only [h60] at f1 f21
  rintro ⟨⟩
  exact fF xn
 refine bs fun v64 h63 => ?_
 have f23 := z1u h63
 try simp only [en.down] at f23
 refine q3g (fun h65 h66 => ?_) ?_
 ·refine bs fun v68 h67 => ?_
  have f24 := ky h67
  try simp only [en.down,UInt8.reduceToNat] at f24
  try simp only [h65,h66] at f1 f23 f24
  rintro ⟨⟩
  exact fF xn
 rintro (⟨h65,h66⟩ | ⟨h65,h66⟩)
 all_goals
 try simp only [h65] at f1 f23
 rintro ⟨⟩
 exact fF xn
def q9u (nums : (Sl Int)) : (((Sl Int) × (Sl T.Op) × Int × Int × Int × T.qb × (List T.Op)) ⊕ (Int × T.qb × (List T.Op))) → Ex × St
 | .inl y => (Ex.ret,⟨[(2,v_l 1 (kE IntKind.u32) y.1),(3,v_l 7 T.Op.enc y.2.1),(4,v_i y.2.2.1),(5,v_i y.2.2.2.1),(6,AV.ptr 0 0),(7,v_l 1 (kE IntKind.u32) nums),(8,v_r 1 y.2.2.2.2.2.2),(9,v_i y.2.2.2.2.1)],[(0,b_x (T.qb.enc y.2.2.2.2.2.1)),(1,b_r 7 T.Op.enc y.2.2.2.2.2.2)],2⟩)
 | .inr y => (Ex.normal,⟨[(2,AV.undef),(3,AV.undef),(4,AV.undef),(5,AV.undef),(6,AV.ptr 0 0),(7,v_l 1 (kE IntKind.u32) nums),(8,v_r 1 y.2.2),(9,v_i y.1)],[(0,b_x (T.qb.enc y.2.1)),(1,b_r 7 T.Op.enc y.2.2)],2⟩)
attribute [local go_sem] q9u
theorem qun : ∀ p r,q08 p = some r → O.loop 5 0 ⟨[(0,v_l 1 qw p.1),(6,AV.ptr 0 0),(7,v_l 1 (kE IntKind.u32) p.2.1),(8,v_r 1 p.2.2.2.2),(9,v_i p.2.2.1)],[(0,b_x (T.qb.enc p.2.2.2.1)),(1,b_r 7 T.Op.enc p.2.2.2.2)],2⟩ = some (q9u p.2.1 r) := by
 refine q08.partial_correctness _ ?_
 rintro q08 ih13 ⟨b,nums,line,r_,os⟩ r; dsimp only
 refine q3g (fun h1 h2 => ?_) ?_
 ·refine bs fun v4 h3 => ?_
  have f1 := ze5 h3
  try simp only [en.down] at f1
  refine gd fun h5 => ?_
  have f2 := rG 7 T.Op.enc os
  apply it <;> intro h6
  ·have f3 : List.map T.Op.enc os ++ [[PV.int IntKind.i64 v4.1.kind,PV.str v4.1.name,PV.str v4.1.text,PV.int IntKind.i64 v4.1.n,PV.bool v4.1.extend,PV.sl v4.1.edits.nil (szc 3 v4.1.edits.l) (List.map T.q9.enc v4.1.edits.l),PV.sl v4.1.sels.nil (szc 2 v4.1.sels.l) (List.map T.Sel.enc v4.1.sels.l)]] = List.map T.Op.enc (os ++ [v4.1]) := by simp only [List.map_append,List.map_cons,List.map_nil,wz,vg,wy,T.Op.qc] <;> rfl
   apply it <;> intro h7
   ·try simp only [h1,h6] at f1
    rintro ⟨⟩
    clear ih13; exact fL fn5
   try simp only [h1,h6] at f1
   intro h; have f4 := ih13 _ _ h; clear h
   try simp only [en.down] at f4
   try simp only [h1,h6] at f4
   clear ih13; exact fL fn5
  have f5 : List.map T.Op.enc os ++ [[PV.int IntKind.i64 v4.1.kind,PV.str v4.1.name,PV.str v4.1.text,PV.int IntKind.i64 v4.1.n,PV.bool v4.1.extend,PV.sl v4.1.edits.nil (szc 3 v4.1.edits.l) (List.map T.q9.enc v4.1.edits.l),PV.sl v4.1.sels.nil (szc 2 v4.1.sels.l) (List.map T.Sel.enc v4.1.sels.l)]] = List.map T.Op.enc (os ++ [v4.1]) := by simp only [List.map_append,List.map_cons,List.map_nil,wz,vg,wy,T.Op.qc] <;> rfl
  try simp only [h1,h6] at f1
  intro h; have f6 := ih13 _ _ h; clear h
  try simp only [en.down] at f6
  try simp only [h1,h6] at f6
  clear ih13; exact fL fn5
 rintro (⟨h1,h2⟩ | ⟨h1,h2⟩)
 all_goals
 rintro ⟨⟩
 clear ih13; exact fL fn5
theorem z0n {b r} (h : q59 b = some r) : O.call 5 [v_l 1 qw b] [] = some (AV.tup [v_l 1 (kE IntKind.u32) r.1,v_l 7 T.Op.enc r.2.1,v_i r.2.2.1,v_i r.2.2.2],[]) := by
 revert h; unfold q59
 apply it <;> intro h1
 ·rintro ⟨⟩
  exact fF fn5
 refine bs fun v3 h2 => ?_
 have f1 := zj0 h2
 try simp only [en.down] at f1
 refine bs fun v5 h4 => ?_
 have f2 := qun _ _ h4
 try simp only [en.down] at f2
 rcases v5 with y6 | y7
 ·dsimp only
  rintro ⟨⟩
  exact fF fn5
 dsimp only
 apply it <;> intro h8
 ·rintro ⟨⟩
  exact fF fn5
 rintro ⟨⟩
 exact fF fn5
theorem qxl : ∀ p r,q1c p = some r → O.loop 31 0 ⟨[(0,AV.ptr 0 0),(3,v_i p.1)],[(0,b_x (T.qf.enc p.2))],1⟩ = some (Ex.normal,⟨[(0,AV.ptr 0 0),(3,v_i p.1)],[(0,b_x (T.qf.enc r))],1⟩) := by
 refine q1c.partial_correctness _ ?_
 rintro q1c ih23 ⟨frm,r_⟩ r; dsimp only
 apply it <;> intro h1
 ·refine bg qw fun x3 h2 f1 f2 f3 => ?_
  apply it <;> intro h4
  ·apply it <;> intro h5
   ·intro h; have f4 := ih23 _ _ h; clear h
    try simp only [en.down] at f4
    clear ih23; exact fL q5e
   rintro ⟨⟩
   clear ih23; exact fL q5e
  rintro ⟨⟩
  clear ih23; exact fL q5e
 rintro ⟨⟩
 clear ih23; exact fL q5e
theorem qby {b r} (h : q43 b = some r) : O.call 31 [AV.ptr 0 0] [(0,b_x (T.qf.enc b))] = some (v_s r.1,[(0,b_x (T.qf.enc r.2))]) := by
 revert h; unfold q43
 refine bs fun v2 h1 => ?_
 have f1 := qxl _ _ h1
 try simp only [en.down] at f1
 have f2 := q2h 1 qw v2.b.l
 refine b2 qw fun r4 h3 f3 f4 f5 f6 f7 f8 => ?_
 have f9 := q2h 1 qw r4
 have f10 := bytesOf_map r4
 rintro ⟨⟩
 exact fF q5e
theorem q8e {b r} (h : q2y b = some r) : O.call 32 [AV.ptr 0 0] [(0,b_x (T.qf.enc b))] = some (v_b r,[(0,b_x (T.qf.enc b))]) := by
 revert h; unfold q2y
 apply it <;> intro h1
 ·refine bg qw fun x3 h2 f1 f2 f3 => ?_
  rintro ⟨⟩
  exact fF qbj
 rintro ⟨⟩
 exact fF qbj
theorem q6g {c b r} (h : q1w c b = some r) : O.call 14 [AV.ptr 0 0,AV.pv (PV.int IntKind.u8 (c.toNat : Int))] [(0,b_x (T.qf.enc b))] = some (v_b r.1,[(0,b_x (T.qf.enc r.2))]) := by
 revert h; unfold q1w
 apply it <;> intro h1
 ·rintro ⟨⟩
  exact fF q8s
 refine bg qw fun x3 h2 f1 f2 f3 => ?_
 apply it <;> intro h4
 ·rintro ⟨⟩
  exact fF q8s
 rintro ⟨⟩
 exact fF q8s
theorem qva {c r} (h : q51 c = some r) : O.call 85 [AV.pv (PV.int IntKind.u8 (c.toNat : Int))] [] = some (v_b r,[]) := by
 revert h; unfold q51
 apply it <;> intro h1
 ·rintro ⟨⟩
  exact fF qcw
 rintro ⟨⟩
 exact fF qcw
theorem q8i : ∀ p r,uy p = some r → O.loop 55 0 ⟨[(0,AV.ptr 0 0),(4,v_b p.1),(5,v_i p.2.1),(6,v_i p.2.2.1)],[(0,b_x (T.qf.enc p.2.2.2))],1⟩ = some (Ex.normal,⟨[(0,AV.ptr 0 0),(4,v_b p.1),(5,v_i p.2.1),(6,v_i r.1)],[(0,b_x (T.qf.enc r.2))],1⟩) := by
 refine uy.partial_correctness _ ?_
 rintro uy ih29 ⟨below,frm,n,r_⟩ r; dsimp only
 refine q3g (fun h1 h2 => ?_) ?_
 ·refine bg qw fun x4 h3 f1 f2 f3 => ?_
  refine bs fun v6 h5 => ?_
  have f4 := qva h5
  try simp only [en.down] at f4
  apply it <;> intro h7
  ·try simp only [h7] at f4
   intro h; have f5 := ih29 _ _ h; clear h
   try simp only [en.down] at f5
   try simp only [h7] at f5
   clear ih29; exact fL gu
  try simp only [h7] at f4
  rintro ⟨⟩
  clear ih29; exact fL gu
 rintro (⟨h1,h2⟩ | ⟨h1,h2⟩)
 all_goals
 rintro ⟨⟩
 clear ih29; exact fL gu
theorem qoi {b r} (h : q47 b = some r) : O.call 55 [AV.ptr 0 0] [(0,b_x (T.qf.enc b))] = some (AV.tup [v_i r.1,v_b r.2.1],[(0,b_x (T.qf.enc r.2.2))]) := by
 revert h; unfold q47
 apply it <;> intro h1
 ·refine bg qw fun x3 h2 f1 f2 f3 => ?_
  apply it <;> intro h4
  ·refine bs fun v6 h5 => ?_
   have f4 := q8i _ _ h5
   try simp only [en.down] at f4
   apply it <;> intro h7
   ·try simp only [h4] at f4
    rintro ⟨⟩
    exact fF gu
   refine bg qw fun x9 h8 f5 f6 f7 => ?_
   apply it <;> intro h10
   ·try simp only [h4] at f4
    rintro ⟨⟩
    exact fF gu
   try simp only [h4] at f4
   rintro ⟨⟩
   exact fF gu
  refine bs fun v12 h11 => ?_
  have f8 := q8i _ _ h11
  try simp only [en.down] at f8
  apply it <;> intro h13
  ·try simp only [h4] at f8
   rintro ⟨⟩
   exact fF gu
  refine bg qw fun x15 h14 f9 f10 f11 => ?_
  refine q3g (fun h16 h17 => ?_) ?_
  ·try simp only [h4] at f8
   rintro ⟨⟩
   exact fF gu
  rintro (⟨h16,h17⟩ | ⟨h16,h17⟩)
  all_goals
  try simp only [h4] at f8
  rintro ⟨⟩
  exact fF gu
 refine bs fun v19 h18 => ?_
 have f12 := q8i _ _ h18
 try simp only [en.down] at f12
 apply it <;> intro h20
 ·rintro ⟨⟩
  exact fF gu
 refine bg qw fun x22 h21 f13 f14 f15 => ?_
 refine q3g (fun h23 h24 => ?_) ?_
 ·rintro ⟨⟩
  exact fF gu
 rintro (⟨h23,h24⟩ | ⟨h23,h24⟩)
 all_goals
 rintro ⟨⟩
 exact fF gu
theorem q17 {b r} (h : wh b = some r) : O.call 33 [AV.ptr 0 0] [(0,b_x (T.qf.enc b))] = some (AV.tup [v_i r.1,v_b r.2.1],[(0,b_x (T.qf.enc r.2.2))]) := by
 revert h; unfold wh
 refine bs fun v2 h1 => ?_
 have f1 := q6g h1
 try simp only [en.down,UInt8.reduceToNat] at f1
 apply it <;> intro h3
 ·rintro ⟨⟩
  exact fF qep
 refine bs fun v5 h4 => ?_
 have f2 := qoi h4
 try simp only [en.down] at f2
 rintro ⟨⟩
 exact fF qep
def qeh : (((Sl Int) × Bool × T.qf × (List Int)) ⊕ (T.qf × (List Int))) → Ex × St
 | .inl y => (Ex.ret,⟨[(2,v_l 1 (kE IntKind.u32) y.1),(3,v_b y.2.1),(4,v_r 1 y.2.2.2)],[(0,b_x (T.qf.enc y.2.2.1)),(1,b_r 1 (kE IntKind.u32) y.2.2.2)],2⟩)
 | .inr y => (Ex.normal,⟨[(2,AV.undef),(3,AV.undef),(4,v_r 1 y.2)],[(0,b_x (T.qf.enc y.1)),(1,b_r 1 (kE IntKind.u32) y.2)],2⟩)
attribute [local go_sem] qeh
theorem qfz : ∀ p r,q0d p = some r → O.loop 13 0 ⟨[(0,AV.ptr 0 0),(4,v_r 1 p.2)],[(0,b_x (T.qf.enc p.1)),(1,b_r 1 (kE IntKind.u32) p.2)],2⟩ = some (qeh r) := by
 refine q0d.partial_correctness _ ?_
 rintro q0d ih24 ⟨r_,nums⟩ r; dsimp only
 refine bs fun v2 h1 => ?_
 have f1 := q8e h1
 try simp only [en.down] at f1
 apply it <;> intro h3
 ·refine bs fun v5 h4 => ?_
  have f2 := q17 h4
  try simp only [en.down] at f2
  refine qax ?_ (fun h6 h7 h8 => ?_)
  ·rintro (⟨h6,h7,h8⟩ | ⟨h6,h7,h8⟩ | ⟨h6,h7,h8⟩)
   all_goals
   try simp only [h3] at f1 f2
   rintro ⟨⟩
   clear ih24; exact fL q3x
  refine gd fun h9 => ?_
  have f3 := rG 1 (kE IntKind.u32) nums
  have f4 : List.map (kE IntKind.u32) nums ++ [[PV.int IntKind.u32 (IntKind.u32.wrap v5.1)]] = List.map (kE IntKind.u32) (nums ++ [(IntKind.u32.wrap v5.1)]) := by simp only [List.map_append,List.map_cons,List.map_nil,wz,vg,wy,kE] <;> rfl
  try simp only [h3] at f1 f2
  intro h; have f5 := ih24 _ _ h; clear h
  try simp only [en.down] at f5
  try simp only [h3] at f5
  clear ih24; exact fL q3x
 try simp only [h3] at f1
 rintro ⟨⟩
 clear ih24; exact fL q3x
theorem qkv {b r} (h : q44 b = some r) : O.call 13 [AV.ptr 0 0] [(0,b_x (T.qf.enc b))] = some (AV.tup [v_l 1 (kE IntKind.u32) r.1,v_b r.2.1],[(0,b_x (T.qf.enc r.2.2))]) := by
 revert h; unfold q44
 refine bs fun v2 h1 => ?_
 have f1 := qby h1
 try simp only [en.down] at f1
 apply it <;> intro h3
 ·rintro ⟨⟩
  exact fF q3x
 refine bs fun v5 h4 => ?_
 have f2 := qfz _ _ h4
 try simp only [en.down] at f2
 rcases v5 with y6 | y7
 ·dsimp only
  rintro ⟨⟩
  exact fF q3x
 dsimp only
 rintro ⟨⟩
 exact fF q3x
theorem z2p {r} (h : q6h = some r) : O.call 56 [] [] = some (v_l 1 jl r,[]) := by
 revert h; unfold q6h
 rintro ⟨⟩
 exact fF qwz
def qaw : ((Int) ⊕ (Unit)) → Ex × St
 | .inl y => (Ex.ret,⟨[(2,v_i y)],[],0⟩)
 | .inr y => (Ex.normal,⟨[(2,AV.undef)],[],0⟩)
attribute [local go_sem] qaw
theorem qja : ∀ p r,q0f p = some r → O.loop 34 0 ⟨[(0,v_s p.1),(3,v_l 1 jl p.2.1),(4,v_i p.2.2)],[],0⟩ = some (qaw r) := by
 refine q0f.partial_correctness _ ?_
 rintro q0f ih35 ⟨word,l,k⟩ r; dsimp only
 apply it <;> intro h1
 ·refine bg jl fun x3 h2 f1 f2 f3 => ?_
  apply it <;> intro h4
  ·rintro ⟨⟩
   clear ih35; exact fL q53
  intro h; have f4 := ih35 _ _ h; clear h
  try simp only [en.down] at f4
  clear ih35; exact fL q53
 rintro ⟨⟩
 clear ih35; exact fL q53
theorem z97 {word r} (h : q5h word = some r) : O.call 34 [v_s word] [] = some (v_i r,[]) := by
 revert h; unfold q5h
 refine bs fun v2 h1 => ?_
 have f1 := z2p h1
 try simp only [en.down] at f1
 refine bs fun v4 h3 => ?_
 have f2 := qja _ _ h3
 try simp only [en.down] at f2
 rcases v4 with y5 | y6
 ·dsimp only
  rintro ⟨⟩
  exact fF q53
 dsimp only
 rintro ⟨⟩
 exact fF q53
theorem q6q {b r} (h : q0x b = some r) : O.call 35 [AV.ptr 0 0] [(0,b_x (T.qf.enc b))] = some (AV.tup [v_s r.1,v_b r.2.1],[(0,b_x (T.qf.enc r.2.2))]) := by
 revert h; unfold q0x
 refine bs fun v2 h1 => ?_
 have f1 := q17 h1
 try simp only [en.down] at f1
 refine q60 ?_ (fun h3 h4 => ?_)
 ·rintro (⟨h3,h4⟩ | ⟨h3,h4⟩)
  all_goals
  rintro ⟨⟩
  exact fF q8m
 refine bs fun v6 h5 => ?_
 have f2 := q6g h5
 try simp only [en.down,UInt8.reduceToNat] at f2
 refine q60 ?_ (fun h7 h8 => ?_)
 ·rintro (⟨h7,h8⟩ | ⟨h7,h8⟩)
  all_goals
  rintro ⟨⟩
  exact fF q8m
 have f3 := q2h 1 qw v6.2.b.l
 refine b2 qw fun r10 h9 f4 f5 f6 f7 f8 f9 => ?_
 have f10 := q2h 1 qw r10
 have f11 := bytesOf_map r10
 rintro ⟨⟩
 exact fF q8m
theorem zil : ∀ p r,gp p = some r → O.loop 15 1 ⟨[(0,AV.ptr 0 0),(2,AV.ptr 1 0),(4,AV.ptr 2 0),(5,v_b p.1)],[(0,b_x (T.qf.enc p.2.1)),(1,b_x (T.Op.enc p.2.2.1)),(2,Blk.box [v_i p.2.2.2.1,v_s p.2.2.2.2.1,v_s p.2.2.2.2.2.1,v_i p.2.2.2.2.2.2.1,v_b p.2.2.2.2.2.2.2.1,v_r 3 p.2.2.2.2.2.2.2.2.2,v_l 2 T.Sel.enc p.2.2.2.2.2.2.2.2.1]),(3,b_r 3 T.q9.enc p.2.2.2.2.2.2.2.2.2)],4⟩ = some (Ex.normal,⟨[(2,AV.ptr 1 0),(4,AV.ptr 2 0),(5,v_b r.1)],[(0,b_x (T.qf.enc r.2.1)),(1,b_x (T.Op.enc p.2.2.1)),(2,Blk.box [v_i p.2.2.2.1,v_s p.2.2.2.2.1,v_s p.2.2.2.2.2.1,v_i p.2.2.2.2.2.2.1,v_b p.2.2.2.2.2.2.2.1,v_r 3 r.2.2,v_l 2 T.Sel.enc p.2.2.2.2.2.2.2.2.1]),(3,b_r 3 T.q9.enc r.2.2)],4⟩) := by
 refine gp.partial_correctness _ ?_
 rintro gp ih37 ⟨ok_,r_,t2,o,o2,o3,o4,o5,o6,r3_⟩ r; dsimp only
 apply it <;> intro h1
 ·refine bs fun v3 h2 => ?_
  have f1 := q8e h2
  try simp only [en.down] at f1
  apply it <;> intro h4
  ·refine bs fun v6 h5 => ?_
   have f2 := q17 h5
   try simp only [en.down] at f2
   apply it <;> intro h7
   ·refine bs fun v9 h8 => ?_
    have f3 := q17 h8
    try simp only [en.down] at f3
    apply it <;> intro h10
    ·refine bs fun v12 h11 => ?_
     have f4 := q6q h11
     try simp only [en.down] at f4
     refine gd fun h13 => ?_
     have f5 := rG 3 T.q9.enc r3_
     have f6 : List.map T.q9.enc r3_ ++ [[PV.int IntKind.i64 v6.1,PV.int IntKind.i64 v9.1,PV.str v12.1]] = List.map T.q9.enc (r3_ ++ [(T.q9.mk (T.Span.mk v6.1 v9.1) v12.1)]) := by simp only [List.map_append,List.map_cons,List.map_nil,wz,vg,wy,T.q9.qc] <;> rfl
     try simp only [h1,h4,h7,h10] at f1 f2 f3 f4
     intro h; have f7 := ih37 _ _ h; clear h
     try simp only [en.down] at f7
     try simp only [h1,h4,h7,h10] at f7
     clear ih37; exact fL xq
    refine gd fun h14 => ?_
    have f8 := rG 3 T.q9.enc r3_
    have f9 : List.map T.q9.enc r3_ ++ [[PV.int IntKind.i64 v6.1,PV.int IntKind.i64 v9.1,PV.str ([] : Bytes)]] = List.map T.q9.enc (r3_ ++ [(T.q9.mk (T.Span.mk v6.1 v9.1) ([] : Bytes))]) := by simp only [List.map_append,List.map_cons,List.map_nil,wz,vg,wy,T.q9.qc] <;> rfl
    try simp only [h1,h4,h7,h10] at f1 f2 f3
    intro h; have f10 := ih37 _ _ h; clear h
    try simp only [en.down] at f10
    try simp only [h1,h4,h7,h10] at f10
    clear ih37; exact fL xq
   refine gd fun h15 => ?_
   have f11 := rG 3 T.q9.enc r3_
   have f12 : List.map T.q9.enc r3_ ++ [[PV.int IntKind.i64 v6.1,PV.int IntKind.i64 (0 : Int),PV.str ([] : Bytes)]] = List.map T.q9.enc (r3_ ++ [(T.q9.mk (T.Span.mk v6.1 (0 : Int)) ([] : Bytes))]) := by simp only [List.map_append,List.map_cons,List.map_nil,wz,vg,wy,T.q9.qc] <;> rfl
   try simp only [h1,h4,h7] at f1 f2
   intro h; have f13 := ih37 _ _ h; clear h
   try simp only [en.down] at f13
   try simp only [h1,h4,h7] at f13
   clear ih37; exact fL xq
  try simp only [h1,h4] at f1
  rintro ⟨⟩
  clear ih37; exact fL xq
 rintro ⟨⟩
 clear ih37; exact fL xq
theorem zbd : ∀ p r,gz p = some r → O.loop 15 3 ⟨[(0,AV.ptr 0 0),(2,AV.ptr 1 0),(4,AV.ptr 2 0),(5,v_b p.1)],[(0,b_x (T.qf.enc p.2.1)),(1,b_x (T.Op.enc p.2.2.1)),(2,Blk.box [v_i p.2.2.2.1,v_s p.2.2.2.2.1,v_s p.2.2.2.2.2.1,v_i p.2.2.2.2.2.2.1,v_b p.2.2.2.2.2.2.2.1,v_l 3 T.q9.enc p.2.2.2.2.2.2.2.2.1,v_r 3 p.2.2.2.2.2.2.2.2.2]),(3,b_r 2 T.Sel.enc p.2.2.2.2.2.2.2.2.2)],4⟩ = some (Ex.normal,⟨[(2,AV.ptr 1 0),(4,AV.ptr 2 0),(5,v_b r.1)],[(0,b_x (T.qf.enc r.2.1)),(1,b_x (T.Op.enc p.2.2.1)),(2,Blk.box [v_i p.2.2.2.1,v_s p.2.2.2.2.1,v_s p.2.2.2.2.2.1,v_i p.2.2.2.2.2.2.1,v_b p.2.2.2.2.2.2.2.1,v_l 3 T.q9.enc p.2.2.2.2.2.2.2.2.1,v_r 3 r.2.2]),(3,b_r 2 T.Sel.enc r.2.2)],4⟩) := by
 refine gz.partial_correctness _ ?_
 rintro gz ih38 ⟨ok_,r_,t2,o,o2,o3,o4,o5,o6,r3_⟩ r; dsimp only
 apply it <;> intro h1
 ·refine bs fun v3 h2 => ?_
  have f1 := q8e h2
  try simp only [en.down] at f1
  apply it <;> intro h4
  ·refine bs fun v6 h5 => ?_
   have f2 := q17 h5
   try simp only [en.down] at f2
   apply it <;> intro h7
   ·refine bs fun v9 h8 => ?_
    have f3 := q17 h8
    try simp only [en.down] at f3
    refine gd fun h10 => ?_
    have f4 := rG 2 T.Sel.enc r3_
    have f5 : List.map T.Sel.enc r3_ ++ [[PV.int IntKind.i64 v6.1,PV.int IntKind.i64 v9.1]] = List.map T.Sel.enc (r3_ ++ [(T.Sel.mk v6.1 v9.1)]) := by simp only [List.map_append,List.map_cons,List.map_nil,wz,vg,wy,T.Sel.qc] <;> rfl
    try simp only [h1,h4,h7] at f1 f2 f3
    intro h; have f6 := ih38 _ _ h; clear h
    try simp only [en.down] at f6
    try simp only [h1,h4,h7] at f6
    clear ih38; exact fL xq
   refine gd fun h11 => ?_
   have f7 := rG 2 T.Sel.enc r3_
   have f8 : List.map T.Sel.enc r3_ ++ [[PV.int IntKind.i64 v6.1,PV.int IntKind.i64 (0 : Int)]] = List.map T.Sel.enc (r3_ ++ [(T.Sel.mk v6.1 (0 : Int))]) := by simp only [List.map_append,List.map_cons,List.map_nil,wz,vg,wy,T.Sel.qc] <;> rfl
   try simp only [h1,h4,h7] at f1 f2
   intro h; have f9 := ih38 _ _ h; clear h
   try simp only [en.down] at f9
   try simp only [h1,h4,h7] at f9
   clear ih38; exact fL xq
  try simp only [h1,h4] at f1
  rintro ⟨⟩
  clear ih38; exact fL xq
 rintro ⟨⟩
 clear ih38; exact fL xq
theorem zkq {b r} (h : q5k b = some r) : O.call 15 [AV.ptr 0 0] [(0,b_x (T.qf.enc b))] = some (AV.tup [v_g (T.Op.enc r.1),v_b r.2.1],[(0,b_x (T.qf.enc r.2.2))]) := by
 revert h; unfold q5k
 refine bs fun v2 h1 => ?_
 have f1 := qby h1
 try simp only [en.down] at f1
 refine bs fun v4 h3 => ?_
 have f2 := z97 h3
 try simp only [en.down] at f2
 apply it <;> intro h5
 ·refine bs fun v7 h6 => ?_
  have f3 := q6q h6
  try simp only [en.down] at f3
  apply it <;> intro h8
  ·refine bs fun v10 h9 => ?_
   have f4 := q6q h9
   try simp only [en.down] at f4
   apply it <;> intro h11
   ·try simp only [h8,h11] at f1 f2 f3 f4
    rintro ⟨⟩
    exact fF xq
   try simp only [h8,h11] at f1 f2 f3 f4
   rintro ⟨⟩
   exact fF xq
  try simp only [h8] at f1 f2 f3
  rintro ⟨⟩
  exact fF xq
 refine q60 ?_ (fun h12 h16 => ?_)
 ·rintro (⟨h12,h16⟩ | ⟨h12,h16⟩)
  all_goals
  refine bs fun v14 h13 => ?_
  have f5 := q6q h13
  try simp only [en.down] at f5
  apply it <;> intro h15
  ·try simp only [h15] at f1 f2 f5
   rintro ⟨⟩
   exact fF xq
  try simp only [h15] at f1 f2 f5
  rintro ⟨⟩
  exact fF xq
 refine q60 ?_ (fun h20 h24 => ?_)
 ·rintro (⟨h20,h24⟩ | ⟨h20,h24⟩)
  all_goals
  refine bs fun v22 h21 => ?_
  have f6 := q17 h21
  try simp only [en.down] at f6
  apply it <;> intro h23
  ·try simp only [h23] at f1 f2 f6
   rintro ⟨⟩
   exact fF xq
  try simp only [h23] at f1 f2 f6
  rintro ⟨⟩
  exact fF xq
 apply it <;> intro h28
 ·refine bs fun v30 h29 => ?_
  have f7 := q17 h29
  try simp only [en.down] at f7
  apply it <;> intro h31
  ·refine bs fun v33 h32 => ?_
   have f8 := q17 h32
   try simp only [en.down] at f8
   refine qla ?_ ?_
   ·rintro (⟨h34,h35,h36⟩ | ⟨h34,h35,h36⟩)
    all_goals
    try simp only [h31,h34] at f1 f2 f7 f8
    rintro ⟨⟩
    exact fF xq
   rintro (⟨h34,h35,h36⟩ | ⟨h34,h35,h36⟩)
   all_goals
   try simp only [h31,h34] at f1 f2 f7 f8
   rintro ⟨⟩
   exact fF xq
  have f9 : ((0 : Int) == (1 : Int)) = false := by decide
  try simp only [h31] at f1 f2 f7
  rintro ⟨⟩
  exact fF xq
 apply it <;> intro h37
 ·refine bs fun v39 h38 => ?_
  have f10 := zil _ _ h38
  try simp only [en.down] at f10
  apply it <;> intro h40
  ·try simp only [h40] at f1 f2 f10
   rintro ⟨⟩
   exact fF xq
  try simp only [h40] at f1 f2 f10
  rintro ⟨⟩
  exact fF xq
 apply it <;> intro h41
 ·refine bs fun v43 h42 => ?_
  have f11 := zbd _ _ h42
  try simp only [en.down] at f11
  apply it <;> intro h44
  ·try simp only [h44] at f1 f2 f11
   rintro ⟨⟩
   exact fF xq
  try simp only [h44] at f1 f2 f11
  rintro ⟨⟩
  exact fF xq
 rintro ⟨⟩
 exact fF xq
def qd2 (nums : (Sl Int)) : (((Sl Int) × (Sl T.Op) × Int × Int × T.qf × (List T.Op)) ⊕ (T.qf × (List T.Op))) → Ex × St
 | .inl y => (Ex.ret,⟨[(2,v_l 1 (kE IntKind.u32) y.1),(3,v_l 7 T.Op.enc y.2.1),(4,v_i y.2.2.1),(5,v_i y.2.2.2.1),(7,v_l 1 (kE IntKind.u32) nums),(9,v_r 1 y.2.2.2.2.2)],[(0,b_x (T.qf.enc y.2.2.2.2.1)),(1,b_r 7 T.Op.enc y.2.2.2.2.2)],2⟩)
 | .inr y => (Ex.normal,⟨[(2,AV.undef),(3,AV.undef),(4,AV.undef),(5,AV.undef),(7,v_l 1 (kE IntKind.u32) nums),(9,v_r 1 y.2)],[(0,b_x (T.qf.enc y.1)),(1,b_r 7 T.Op.enc y.2)],2⟩)
attribute [local go_sem] qd2
theorem zgk : ∀ p r,q3i p = some r → O.loop 6 0 ⟨[(0,v_l 1 qw p.1),(6,AV.ptr 0 0),(7,v_l 1 (kE IntKind.u32) p.2.1),(9,v_r 1 p.2.2.2.2),(10,v_i p.2.2.1)],[(0,b_x (T.qf.enc p.2.2.2.1)),(1,b_r 7 T.Op.enc p.2.2.2.2)],2⟩ = some (qd2 p.2.1 r) := by
 refine q3i.partial_correctness _ ?_
 rintro q3i ih31 ⟨b,nums,line,r_,os⟩ r; dsimp only
 apply it <;> intro h1
 ·refine bs fun v3 h2 => ?_
  have f1 := zkq h2
  try simp only [en.down] at f1
  apply it <;> intro h4
  ·rintro ⟨⟩
   clear ih31; exact fL fn6
  refine bs fun v6 h5 => ?_
  have f2 := q6g h5
  try simp only [en.down,UInt8.reduceToNat] at f2
  apply it <;> intro h7
  ·rintro ⟨⟩
   clear ih31; exact fL fn6
  apply it <;> intro h8
  ·rintro ⟨⟩
   clear ih31; exact fL fn6
  refine gd fun h9 => ?_
  have f3 := rG 7 T.Op.enc os
  have f4 : List.map T.Op.enc os ++ [[PV.int IntKind.i64 v3.1.kind,PV.str v3.1.name,PV.str v3.1.text,PV.int IntKind.i64 v3.1.n,PV.bool v3.1.extend,PV.sl v3.1.edits.nil (szc 3 v3.1.edits.l) (List.map T.q9.enc v3.1.edits.l),PV.sl v3.1.sels.nil (szc 2 v3.1.sels.l) (List.map T.Sel.enc v3.1.sels.l)]] = List.map T.Op.enc (os ++ [v3.1]) := by simp only [List.map_append,List.map_cons,List.map_nil,wz,vg,wy,T.Op.qc] <;> rfl
  intro h; have f5 := ih31 _ _ h; clear h
  try simp only [en.down] at f5
  clear ih31; exact fL fn6
 rintro ⟨⟩
 clear ih31; exact fL fn6
theorem zam {b r} (h : q5a b = some r) : O.call 6 [v_l 1 qw b] [] = some (AV.tup [v_l 1 (kE IntKind.u32) r.1,v_l 7 T.Op.enc r.2.1,v_i r.2.2.1,v_i r.2.2.2],[]) := by
 revert h; unfold q5a
 apply it <;> intro h1
 ·rintro ⟨⟩
  exact fF fn6
 refine bs fun v3 h2 => ?_
 have f1 := qkv h2
 try simp only [en.down] at f1
 apply it <;> intro h4
 ·rintro ⟨⟩
  exact fF fn6
 refine bs fun v6 h5 => ?_
 have f2 := q6g h5
 try simp only [en.down,UInt8.reduceToNat] at f2
 apply it <;> intro h7
 ·rintro ⟨⟩
  exact fF fn6
 refine bs fun v9 h8 => ?_
 have f3 := zgk _ _ h8
 try simp only [en.down] at f3
 rcases v9 with y10 | y11
 ·dsimp only
  rintro ⟨⟩
  exact fF fn6
 dsimp only
 rintro ⟨⟩
 exact fF fn6
def qcp : ((Bool) ⊕ (Unit)) → Ex × St
 | .inl y => (Ex.ret,⟨[(4,v_b y)],[],0⟩)
 | .inr y => (Ex.normal,⟨[(4,AV.undef)],[],0⟩)
attribute [local go_sem] qcp
theorem zk3 : ∀ p r,q2i p = some r → O.loop 7 0 ⟨[(0,v_l 1 (kE IntKind.u32) p.1),(1,v_l 1 (kE IntKind.u32) p.2.1),(5,v_i p.2.2)],[],0⟩ = some (qcp r) := by
 refine q2i.partial_correctness _ ?_
 rintro q2i ih40 ⟨a,b,i⟩ r; dsimp only
 apply it <;> intro h1
 ·refine bg (kE IntKind.u32) fun x3 h2 f1 f2 f3 => ?_
  refine bg (kE IntKind.u32) fun x5 h4 f4 f5 f6 => ?_
  apply it <;> intro h6
  ·rintro ⟨⟩
   clear ih40; exact fL fn7
  intro h; have f7 := ih40 _ _ h; clear h
  try simp only [en.down] at f7
  clear ih40; exact fL fn7
 rintro ⟨⟩
 clear ih40; exact fL fn7
theorem z4g {a b r} (h : q63 a b = some r) : O.call 7 [v_l 1 (kE IntKind.u32) a,v_l 1 (kE IntKind.u32) b] [] = some (v_b r,[]) := by
 revert h; unfold q63
 apply it <;> intro h1
 ·rintro ⟨⟩
  exact fF fn7
 refine bs fun v3 h2 => ?_
 have f1 := zk3 _ _ h2
 try simp only [en.down] at f1
 rcases v3 with y4 | y5
 ·dsimp only
  rintro ⟨⟩
  exact fF fn7
 dsimp only
 rintro ⟨⟩
 exact fF fn7
def qa3 : ((Bool) ⊕ (Unit)) → Ex × St
 | .inl y => (Ex.ret,⟨[(4,v_b y)],[],0⟩)
 | .inr y => (Ex.normal,⟨[(4,AV.undef)],[],0⟩)
attribute [local go_sem] qa3
theorem quq : ∀ p r,q1l p = some r → O.loop 16 0 ⟨[(0,v_l 3 T.q9.enc p.1),(1,v_l 3 T.q9.enc p.2.1),(5,v_i p.2.2)],[],0⟩ = some (qa3 r) := by
 refine q1l.partial_correctness _ ?_
 rintro q1l ih44 ⟨a,b,i⟩ r; dsimp only
 apply it <;> intro h1
 ·refine bg T.q9.enc fun x3 h2 f1 f2 f3 => ?_
  refine bg T.q9.enc fun x5 h4 f4 f5 f6 => ?_
  apply it <;> intro h6
  ·rintro ⟨⟩
   clear ih44; exact fL q3q
  intro h; have f7 := ih44 _ _ h; clear h
  try simp only [en.down] at f7
  clear ih44; exact fL q3q
 rintro ⟨⟩
 clear ih44; exact fL q3q
theorem quz {a b r} (h : q58 a b = some r) : O.call 16 [v_l 3 T.q9.enc a,v_l 3 T.q9.enc b] [] = some (v_b r,[]) := by
 revert h; unfold q58
 apply it <;> intro h1
 ·rintro ⟨⟩
  exact fF q3q
 refine bs fun v3 h2 => ?_
 have f1 := quq _ _ h2
 try simp only [en.down] at f1
 rcases v3 with y4 | y5
 ·dsimp only
  rintro ⟨⟩
  exact fF q3q
 dsimp only
 rintro ⟨⟩
 exact fF q3q
def qdx : ((Bool) ⊕ (Unit)) → Ex × St
 | .inl y => (Ex.ret,⟨[(4,v_b y)],[],0⟩)
 | .inr y => (Ex.normal,⟨[(4,AV.undef)],[],0⟩)
attribute [local go_sem] qdx
theorem qzy : ∀ p r,q1u p = some r → O.loop 17 0 ⟨[(0,v_l 2 T.Sel.enc p.1),(1,v_l 2 T.Sel.enc p.2.1),(5,v_i p.2.2)],[],0⟩ = some (qdx r) := by
 refine q1u.partial_correctness _ ?_
 rintro q1u ih46 ⟨a,b,i⟩ r; dsimp only
 apply it <;> intro h1
 ·refine bg T.Sel.enc fun x3 h2 f1 f2 f3 => ?_
  refine bg T.Sel.enc fun x5 h4 f4 f5 f6 => ?_
  apply it <;> intro h6
  ·rintro ⟨⟩
   clear ih46; exact fL q4k
  intro h; have f7 := ih46 _ _ h; clear h
  try simp only [en.down] at f7
  clear ih46; exact fL q4k
 rintro ⟨⟩
 clear ih46; exact fL q4k
theorem zhg {a b r} (h : q4w a b = some r) : O.call 17 [v_l 2 T.Sel.enc a,v_l 2 T.Sel.enc b] [] = some (v_b r,[]) := by
 revert h; unfold q4w
 apply it <;> intro h1
 ·rintro ⟨⟩
  exact fF q4k
 refine bs fun v3 h2 => ?_
 have f1 := qzy _ _ h2
 try simp only [en.down] at f1
 rcases v3 with y4 | y5
 ·dsimp only
  rintro ⟨⟩
  exact fF q4k
 dsimp only
 rintro ⟨⟩
 exact fF q4k
def qer : ((Bool) ⊕ (Unit)) → Ex × St
 | .inl y => (Ex.ret,⟨[(4,v_b y)],[],0⟩)
 | .inr y => (Ex.normal,⟨[(4,AV.undef)],[],0⟩)
attribute [local go_sem] qer
theorem z1n : ∀ p r,q2e p = some r → O.loop 8 0 ⟨[(0,v_l 7 T.Op.enc p.1),(1,v_l 7 T.Op.enc p.2.1),(5,v_i p.2.2)],[],0⟩ = some (qer r) := by
 refine q2e.partial_correctness _ ?_
 rintro q2e ih42 ⟨a,b,i⟩ r; dsimp only
 apply it <;> intro h1
 ·refine bg T.Op.enc fun x3 h2 f1 f2 f3 => ?_
  refine bg T.Op.enc fun x5 h4 f4 f5 f6 => ?_
  refine qup ?_ (fun h6 h7 h8 h9 h10 => ?_)
  ·rintro (⟨h6,h7,h8,h9,h10⟩ | ⟨h6,h7,h8,h9,h10⟩ | ⟨h6,h7,h8,h9,h10⟩ | ⟨h6,h7,h8,h9,h10⟩ | ⟨h6,h7,h8,h9,h10⟩)
   all_goals
   rintro ⟨⟩
   clear ih42; exact fL fn8
  refine bs fun v12 h11 => ?_
  have f7 := quz h11
  try simp only [en.down] at f7
  apply it <;> intro h13
  ·rintro ⟨⟩
   clear ih42; exact fL fn8
  refine bs fun v15 h14 => ?_
  have f8 := zhg h14
  try simp only [en.down] at f8
  apply it <;> intro h16
  ·rintro ⟨⟩
   clear ih42; exact fL fn8
  intro h; have f9 := ih42 _ _ h; clear h
  try simp only [en.down] at f9
  clear ih42; exact fL fn8
 rintro ⟨⟩
 clear ih42; exact fL fn8
theorem qrb {a b r} (h : q5q a b = some r) : O.call 8 [v_l 7 T.Op.enc a,v_l 7 T.Op.enc b] [] = some (v_b r,[]) := by
 revert h; unfold q5q
 apply it <;> intro h1
 ·rintro ⟨⟩
  exact fF fn8
 refine bs fun v3 h2 => ?_
 have f1 := z1n _ _ h2
 try simp only [en.down] at f1
 rcases v3 with y4 | y5
 ·dsimp only
  rintro ⟨⟩
  exact fF fn8
 dsimp only
 rintro ⟨⟩
 exact fF fn8
theorem zf4 {b r} (h : q66 b = some r) : O.call 3 [v_l 1 qw b] [] = some (v_b r,[]) := by
 revert h; unfold q66
 apply it <;> intro h1
 ·refine bs fun v3 h2 => ?_
  have f1 := qco h2
  try simp only [en.down] at f1
  rintro ⟨⟩
  exact fF fn3
 refine bs fun v5 h4 => ?_
 have f2 := z0n h4
 try simp only [en.down] at f2
 refine bs fun v7 h6 => ?_
 have f3 := zam h6
 try simp only [en.down] at f3
 refine bs fun v9 h8 => ?_
 have f4 := z4g h8
 try simp only [en.down] at f4
 apply it <;> intro h10
 ·refine bs fun v12 h11 => ?_
  have f5 := qrb h11
  try simp only [en.down] at f5
  refine qfn (fun h13 h14 h15 => ?_) ?_
  ·refine bs fun v17 h16 => ?_
   have f6 := qco h16
   try simp only [en.down] at f6
   try simp only [h10,h13] at f2 f3 f4 f5 f6
   rintro ⟨⟩
   exact fF fn3
  rintro (⟨h13,h14,h15⟩ | ⟨h13,h14,h15⟩ | ⟨h13,h14,h15⟩)
  all_goals
  try simp only [h10,h13] at f2 f3 f4 f5
  rintro ⟨⟩
  exact fF fn3
 try simp only [h10] at f2 f3 f4
 rintro ⟨⟩
 exact fF fn3
end Go.Proofs.YthikhbpbpphaaaaGreatDoor
