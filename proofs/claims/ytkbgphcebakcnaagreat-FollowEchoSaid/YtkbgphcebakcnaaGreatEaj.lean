/-
  What the machine's calls come to: the plain functions.
-/
import Derived.Test.YtkbgphcebakcnaaGreatEaf
import Derived.Test.YtkbgphcebakcnaaGreatEah
import Derived.Test.YtkbgphcebakcnaaGreatEai
set_option linter.unusedSimpArgs false
set_option linter.unusedVariables false
set_option maxRecDepth 100000
namespace Go.Proofs.YtkbgphcebakcnaaGreat
open Go Go.Gm
attribute [go_sem] needs aop q9h q09 List.toList_toArray q8v q8i bu List.take List.drop List.length_cons List.length_nil List.length_map q0w AV.q2c List.append q9n List.getElem?_cons_zero List.getElem?_cons_succ AV.refs AV.ren AV.rows if_true if_false List.nil_append List.append_nil List.cons_append q1a unz q18 q19 q0j q1t qh9 qgs List.getElem?_nil touched List.isEmpty_nil Option.some.injEq aUn q2s PV.cells List.replicate List.set_cons_zero List.set_cons_succ q0t qae jc eq_self AV.thaw Blk.thaw q06 q8n aEq jm fitAll zo q6y q3u q78 Blk.ren Blk.refs List.flatMap_nil List.flatMap_cons q66 List.map_cons List.map_nil List.drop_zero Option.isSome_none Option.isNone_none Option.isSome_some Option.isNone_some q08 yz q03 q0q ldA q48.eq_def z1d refsOf z9w zqk zew zed qp6 qkx z1v zcb z4m z5v qq5 qmm qu1 zr5 qsf qt3 zgf zlu qpl zlk zdz z8v z2w qsv freezes.eq_1 freezes.eq_2 ev.eq_1 ev.eq_2 ev.eq_3 ev.eq_4 Env.get.eq_1 Env.get.eq_2 xe.eq_1 xe.eq_2 qo.eq_1 qo.eq_2 q42.eq_1 j4.eq_1 j4.eq_2 q2e.eq_1 q2e.eq_2 yw.eq_1 yw.eq_2 q9r.eq_1 ldP.eq_1 ldP.eq_2 ldA.eq_1 ldA.eq_2 TI.isAgg.eq_1 q2k.eq_1 Heap.get.eq_1 Heap.get.eq_2 Heap.put.eq_1 Heap.put.eq_2 zef qxz qur qvs zoo qz7 znf zkq zh7 qkp z6t qom qvr qxp zr0 zc5 qzr qqv qv0 z0r yn.eq_1 AV.refs.refsL.eq_1 AV.refs.refsL.eq_2 AV.ren.renL.eq_1 AV.ren.renL.eq_2 xu.eq_1 xu.eq_2 xz.eq_1 xz.eq_2 qwb qy4 z5u narrow.eq_1 q4h.eq_1 restrict.eq_1 restrict.eq_2 Heap.upto.eq_1 Heap.upto.eq_2 Heap.below.eq_1 Heap.below.eq_2 Env.below.eq_1 Env.below.eq_2 q1p.eq_1 q1p.eq_2 decide_true and_self AV.rows.rowsL.eq_1 AV.rows.rowsL.eq_2 Nat.zero_lt_one Nat.lt_add_one Nat.zero_le Nat.le_refl Nat.zero_add Nat.add_zero and_true true_and Bool.and_true Bool.true_and decide_false Bool.false_eq_true yj.eq_1 yj.eq_2 qzg zba uu.eq_1 uu.eq_2 q4w.eq_1 q4w.eq_2 finish.eq_1 List.range_zero pos.eq_1 pos.eq_2 reach.eq_1 reach.eq_2 reach.eq_3 enter.eq_1 zw.eq_1 zw.eq_2 zm.eq_1 zm.eq_2 ym.eq_1 ym.eq_2 setEnv.eq_1 setEnv.eq_2 qw1 zma zkc qov zds zex qsa Bool.not_false Bool.not_true Bool.or_self Bool.or_false Bool.false_or Bool.or_true Bool.true_or zr1 zge qlc Bool.and_self Bool.and_false Bool.false_and mh.eq_1 mh.eq_2 Nat.mul_one Nat.one_mul true_or or_true false_or or_false or_self and_false false_and Gm.freeze.eq_1 AV.thaw.thawL.eq_1 AV.thaw.thawL.eq_2 zh.eq_1 zh.eq_2 q7d.eq_1 bq.eq_1 bq.eq_2 qc0.eq_1 closedIn.eq_1 closedIn.eq_2 pick.eq_1 pick.eq_2 q11.eq_1 q11.eq_2 q05.eq_1 q05.eq_2 jg.eq_1 backTo.eq_1 jl.eq_1 jl.eq_2 wy.eq_1 q2w.eq_1 qpc qqf z8w qoy zp9 ziu zf1 z1o zq6 qpe z7c zpw zo4 qps qwe zc2 z0t zmd canon.eq_1 q3n.eq_1 q3n.eq_2 q6c.eq_1 q6c.eq_2 q0s.eq_1 q0s.eq_2 zfg qnl zrp qt1 q4x.eq_1 qtv ze4 qw qeo qja qev zfc qg7 qel qii qin take_len zfx zke qm3 zs1 qab.eq_1 qab.eq_2 kE.eq_1 zor zlb zp5 zdp qng qtu z6h ql7 qla zfp qwo zrw ze1 z3e qkl z8q z7u qqh zns qwh qw5 z1r zcj qvi zam qyj qt0 z9u qnu z7l Int.natCast_zero qx qy take_set List.take_length v_i v_b v_s v_g v_l v_r b_x b_r b_m qc8 qh zn xm slE xq T.Sel.qi T.Span.qi T.Row.qi T.Rx.qi T.Fmt.qi T.Form.qi T.Stop.qi T.qa.qi T.qf.qi T.State.qi T.qb.qi T.qd.qi T.qc.qi T.q2h.qi T.z8.qi T.q1r.qi T.za.qi T.q1q.qi zqz kp3 pr3 qs4 kp5 pr5 qqy kp6 pr6 z2c kp7 pr7 qlu kp8 pr8 zh6 kp9 pr9 qmx zhw z4r zfj zhg z2t zdb qno qpj zl1 z9o zl8 qlz zji qt7 z0x qsc zlp qnd zsi za4 zrl qxt z0e ze9 z2h zbq zgd qw4 zg7 zbp qw2 qu0 zb6 zp6 z5k zsb za8 z1g zao qzb qyh zl3 qys zjq zjm zlt zb5 zie zpi qtk qn9 qr5 zng qpk zp2 qus z6m qym zcc z02 qs5 zaq qx6 z6x zk2 qxj zr6 z7q zl5 zoa zjb zqn zqp quq zg1 qpd quy zj6 z1t zb7 z92 qtw qs9 ze0 qlw zje qml zjt qnj zmv zny qpu zc7 zja qr6 z3z qpz zo9 qw6 qmn zpo zff zl0 z5x qut qu2 z1x qo3 zpg z2r qnn qxb zh3 zch z3b z1s z7o qy0 zsk zeg qmq qrv zd4 qmw qsp zlr zj1 qxy qo7 zqv zdh zg8 zpf zdj qzm z0n z3a zg0 qxu zkz z4b qum znv zpj z7i zlz qo1 zbt zic qvy qta qlh z6n ql6 z6u qy3 zky zaa zkv z0y zd1 zfo qms qsi z5a zqf qnc z8k zde zrk qog qnb qx8 z97 qmt qrn qvn qzl qm7 qrf z0v zk5 qks qt6 qx9 zae qwj zd3 qss zbm z8x z1n qxm zru qyy qyo qmf quw z8y qs7 z0m zlq qp3 qvh z0o zkh zjs z4d z7s zra qsx qup qlm za7 qxl qzx qmp z0l zbr zbi zet qt9 zkr zh4 zhv zhk qly ziz zm0 z8b zme z2p zi7 zbe zps qso qq3 z0j z5b qqa qr2 zjw qy1 qvq zpm z6v zmy qzt zno qn5 z5o z5l qxi qmz zhi z5i zmg zh2 zjr zln qwc zhr z6z z3o qmr qsy zj9 z96 qr7 qqb qu6 zod z3w z7e zci qsd zs8 zc6 qsg zrr zqa zcm z3n zep qll qro z9t qnw qvw z9l ql8 qyx z7w qwg zgr zrc z8a zij zrh z3r qq1 ze7 qzn qoo zdt znr z9y zbn zei qmb qxs qqe z2y zdn zgv z5g zql zj0 qxc qz0 z2e zot zgu zqg zhn qug zah zlh zdc zm5 z9f qoi qnr qzy z7a zq5 qtg zo6 zsq qu5 zcx zqh zog z0u qm1 qyp zbo zey z2s qyn zcu qmv zi8 zmi zmz qmd qo8 qth qrm qns z1y qo5 zpa qvk qtc zrg zjo zms zrd z5r zcf qyi zfr z3m qrt zlx qtj zfh zfu qxw qop zh1 z01 zrv qyd qp4 zpb zjd zg9 qku zj3 zoi zou zrf qmg qou z6i qrd zp1 z6l z4z qzc zjz zda qzd zgq zl6 zjk z2u fz1 fz2 fz3 fz4 fz5 fz6 fz7 fz8 fz9 z5z qm4 zc3 zdk ql4 qln qsq qwt zna znn z8h zaz zjn zsn qye z9i zc1 za3 zku qsh z3i zr8 qua z5d qwu zbl qzw zd5 z3f zdf zak ze2 quu qub qz5 zdr qx7 zpr z3k qv1 zo2 zk4 zgt zj4 qww zeu zd9 zil z0k qv7 zbs qmi zce zh0 qmy ql0 zgi qv2 z5h qq0 za0 qtd z3j qte zl4 zsg z0p qyl zqy zo3 zk8 qnh qp2 zcv zav zn2 qn2 zne qn8 zmt znb z9a qnp z1l z8r zos zqb qqr qni qqw zgg qpo zg2 zr4 z2n zk1 zan quv qtb qpx zm3 z7f qrw qtx zdl zs2 zo1 qyc qm8 zlf zhl zej qp9 quk z3y zbv zo8 zax zh8 z8m qs3 zsm zoz zfe zqi qod qkz qqm znc qvl zdd qt2 qma zel zb3 qz6 zrb zfa z8t qsr qlf znz ze5 zjj zhd zhp zlg zjx qui zqo zq2 zjg qlv qpp zsa zov qn0 zb8 qqk z4h zby qo9 z3t qmu qsb qwp zdg zbd qq9 qoa qnz znp qv8 zn3 qr3 zca qtt zo0 z3p zfi z18 qud qvb zpy qrh zi1 zp3 qm0 z7k qtl qzf zrj zai ziw qph z0i qnk z3q zbb zqd z4y qux zeq z5w zh9 zcr zkp zmm qq2 ql5 z1k zf6 z9e zkn zp4 zr9 zd8 zqm zko qv4 zd0 zmj zmq zes z2z zm6 qqu zpt z5y qny zht zks zlc qxo z4i zpq qoj qz8 z1w zqx qs1 z7v zat za1 qzo zn4 qor qx5 qxq zfk zq8 qql z13 zg6 zaf quh zka mf1 mf2 mf3 mf4 mf5 mf6 mf7 mf8 mf9 zd6 z1e qm5 z9q z6w qko qvt zio qxa zqr zju z3u z2i qs8 qyq qlq zdy z1p qle zco zin z1i z7j z2a qto qvc zon z1z z1f qze zgz zn0 qvu z8s zb2 zfb za2 ziy z2g zr2 z5j zj2 z1h qwk qv9 z2l qsn zop zof qxr qo2 zgm zir zq0 qpn zc9 zom zlo zn7 zbk znq zbu zsf qq7 qpf zi3 qw0 z4e zoy zpn z0w qul zrs zb4 zgl zrn qvp zdm zn5 qoc zq9 z10 qx3 zaj qvm qra zl9 que z07 z6o zeo zoh z4w z7b qva zs9 zqs znt zev zgp zls qsu z6r zbh zm4 zob zll z88 zih qzi zdx zbz z7r qvo zgk qyt qr4 z4l zoj znl qy6 qmh zqq z8u qn6 z0d qoz z1q zfm zhu zhe zkj zgs qpm zdu qy9 qrr z8c zen zek zcg z4q qqs zpu qvd qmo zdv z9m qli z7t z2q qpa qw8 zjh z3v zo5 quf zr7 qn4 qzz qyf qvf qqp qvj zft z4k z1u z15 z6c ql1 zrm qun qz3 ql2 qti z6s zcy qzh znu zox zcd qyu qyg zkm zgw zc0 z4j zfz qrc z5m z4u qpb zmu zmh z06 zi9 zse zb9 zg4 zok znx zd2 z7y qse qzu zq1 z5e qqj qrs zs4 qu7 qpv zk0 z4p zdq zoc qq4 qqq zm2 qmj z11 qkq zkw qv3 z1m qot qwi zpp qsj qwy qq6 qyb qzs zck zdo z8i qr9 zf3 qxf z0h z9h z4f z2m zcz qky z04 qwl z5n qr1 qqg z2v zre zas qu8 zab qs2 zi6 ti3 ti4 ti9 zad z8j qz2 zs6 qr8 zp8 zal z7d zd7 z0q z2j zcw zf0 qrz qmk z95 zg5 zqj qw3 z8e zr3 qtf ze6 zqu z4x z8n zia qxv zqc qzk z6f qst z8f z0f quz qz1 z7m
set_option maxHeartbeats 4000000
theorem qge {x n r} (h : q6d x n = some r) : O.call 6 [v_i x,v_i n] [] = some (v_i r,[]) := by
 revert h; unfold q6d
 refine gd fun h1 => ?_
 have f1 := eq_false h1
 rintro ⟨⟩
 exact fF fn6
theorem q9y {s t r} (h : q2n s t = some r) : O.call 8 [v_s s,v_s t] [] = some (v_g (T.State.enc r),[]) := by
 revert h; unfold q2n
 refine gd fun h1 => ?_
 have f1 := eq_true h1
 try simp only [en.down] at f1
 refine gd fun h2 => ?_
 have f2 := eq_true h2
 try simp only [en.down] at f2
 rintro ⟨⟩
 exact fF fn8
theorem q3y {s r} (h : q04 s = some r) : O.call 28 [v_g (T.Sel.enc s)] [] = some (v_g (T.Span.enc r),[]) := by
 revert h; unfold q04
 rintro ⟨⟩
 exact fF zfw
theorem qb6 {s n r} (h : q1d s n = some r) : O.call 24 [v_g (T.Span.enc s),v_i n] [] = some (v_b r,[]) := by
 revert h; unfold q1d
 refine q0r (fun h1 h2 => ?_) ?_
 ·rintro ⟨⟩
  exact fF qk3
 rintro (⟨h1,h2⟩ | ⟨h1,h2⟩)
 all_goals
 rintro ⟨⟩
 exact fF qk3
def qet (l : (Sl T.Sel)) : (((Sl T.Sel) × Int) ⊕ (Unit)) → Ex × St
 | .inl y => (Ex.ret,⟨[(1,v_l 2 T.Sel.enc l),(4,v_l 2 T.Sel.enc y.1),(5,v_i y.2)],[],0⟩)
 | .inr y => (Ex.normal,⟨[(1,v_l 2 T.Sel.enc l),(4,AV.undef),(5,AV.undef)],[],0⟩)
attribute [local go_sem] qet
theorem zf8 : ∀ p r,q3a p = some r → O.loop 13 0 ⟨[(0,v_i p.1),(1,v_l 2 T.Sel.enc p.2.1),(14,v_l 2 T.Sel.enc p.2.2.1),(15,v_i p.2.2.2.1),(16,v_i p.2.2.2.2)],[],0⟩ = some (qet p.2.1 r) := by
 refine q3a.partial_correctness _ ?_
 rintro q3a ih7 ⟨n,l,t14,t15,t16⟩ r; dsimp only
 apply it <;> intro h1
 ·refine bg T.Sel.enc fun x3 h2 f1 f2 f3 => ?_
  refine bs fun v5 h4 => ?_
  have f4 := q3y h4
  try simp only [en.down] at f4
  refine bs fun v7 h6 => ?_
  have f5 := qb6 h6
  try simp only [en.down] at f5
  apply it <;> intro h8
  ·rintro ⟨⟩
   clear ih7; exact fL q3j
  intro h; have f6 := ih7 _ _ h; clear h
  try simp only [en.down] at f6
  clear ih7; exact fL q3j
 rintro ⟨⟩
 clear ih7; exact fL q3j
def qa2 : (((Sl T.Sel)) ⊕ ((List T.Sel))) → AV × Heap
 | .inl y => (v_l 2 T.Sel.enc y,[])
 | .inr y => (v_r 0 y,[(0,Blk.row false 2 (List.map T.Sel.enc y))])
attribute [local go_sem] qa2
theorem qdz {s r} (h : q0m s = some r) : O.call 34 [v_l 2 T.Sel.enc s] [] = some (qa2 r) := by
 revert h; unfold q0m
 apply it <;> intro h1
 ·rintro ⟨⟩
  exact fF qea
 have f1 := q4c 2 T.Sel.enc s.l
 refine gd fun h2 => ?_
 rintro ⟨⟩
 exact fF qea
theorem qju {x r} (h : cmp_isNaN_int x = some r) : O.call 77 [v_i x] [] = some (v_b r,[]) := by
 revert h; unfold cmp_isNaN_int
 rintro ⟨⟩
 exact fF zkk
theorem q5r {x y r} (h : cmp_Compare_int x y = some r) : O.call 52 [v_i x,v_i y] [] = some (v_i r,[]) := by
 revert h; unfold cmp_Compare_int
 refine bs fun v2 h1 => ?_
 have f1 := qju h1
 try simp only [en.down] at f1
 refine bs fun v4 h3 => ?_
 have f2 := qju h3
 try simp only [en.down] at f2
 apply it <;> intro h5
 ·apply it <;> intro h6
  ·try simp only [h5,h6] at f1 f2
   rintro ⟨⟩
   exact fF q5c
  try simp only [h5,h6] at f1 f2
  rintro ⟨⟩
  exact fF q5c
 apply it <;> intro h7
 ·try simp only [h5,h7] at f1 f2
  rintro ⟨⟩
  exact fF q5c
 apply it <;> intro h8
 ·try simp only [h5,h7] at f1 f2
  rintro ⟨⟩
  exact fF q5c
 apply it <;> intro h9
 ·try simp only [h5,h7] at f1 f2
  rintro ⟨⟩
  exact fF q5c
 try simp only [h5,h7] at f1 f2
 rintro ⟨⟩
 exact fF q5c
def qf0 (zero : Int) (t6 : (List Int)) : ((Int) ⊕ (Unit)) → Ex × St
 | .inl y => (Ex.ret,⟨[(2,v_i y),(3,v_i zero)],[(0,Blk.row false 1 (List.map qh t6))],1⟩)
 | .inr y => (Ex.normal,⟨[(2,AV.undef),(3,v_i zero)],[(0,Blk.row false 1 (List.map qh t6))],1⟩)
attribute [local go_sem] qf0
theorem zfn : ∀ p r,q27 p = some r → O.loop 51 0 ⟨[(3,v_i p.1),(6,v_r 0 p.2.2.2),(7,v_i p.2.1),(8,v_i p.2.2.1)],[(0,Blk.row false 1 (List.map qh p.2.2.2))],1⟩ = some (qf0 p.1 p.2.2.2 r) := by
 refine q27.partial_correctness _ ?_
 rintro q27 ih22 ⟨zero,t7,t8,t6⟩ r; dsimp only
 apply it <;> intro h1
 ·refine bw qh fun x3 h2 f1 f2 f3 => ?_
  apply it <;> intro h4
  ·rintro ⟨⟩
   clear ih22; exact fL q73
  intro h; have f4 := ih22 _ _ h; clear h
  try simp only [en.down] at f4
  clear ih22; exact fL q73
 rintro ⟨⟩
 clear ih22; exact fL q73
theorem qdm {r_ r} (h : q1g r_ = some r) : O.call 51 [v_r 0 r_] [(0,Blk.row false 1 (List.map qh r_))] = some (v_i r,[(0,Blk.row false 1 (List.map qh r_))]) := by
 revert h; unfold q1g
 refine bs fun v2 h1 => ?_
 have f1 := zfn _ _ h1
 try simp only [en.down] at f1
 rcases v2 with y3 | y4
 ·dsimp only
  rintro ⟨⟩
  exact fF q73
 dsimp only
 rintro ⟨⟩
 exact fF q73
theorem qic {a b r} (h : q5o a b = some r) : O.call 50 [v_g (T.Sel.enc a),v_g (T.Sel.enc b)] [] = some (v_i r,[]) := by
 revert h; unfold q5o
 refine bs fun v2 h1 => ?_
 have f1 := q3y h1
 try simp only [en.down] at f1
 refine bs fun v4 h3 => ?_
 have f2 := q3y h3
 try simp only [en.down] at f2
 refine bs fun v6 h5 => ?_
 have f3 := q5r h5
 try simp only [en.down] at f3
 refine bs fun v8 h7 => ?_
 have f4 := q5r h7
 try simp only [en.down] at f4
 refine bs fun v10 h9 => ?_
 have f5 := qdm h9
 try simp only [en.down] at f5
 rintro ⟨⟩
 exact fF qtq
theorem z6q {data a b i j r} (h : qbc data a b i j = some r) : O.loop 97 2 ⟨[(0,v_l 2 T.Sel.enc data),(1,v_i a),(2,v_i b),(3,AV.pv (PV.fn 50)),(8,v_i i),(9,v_i j)],[],0⟩ = some (Ex.normal,⟨[(0,v_l 2 T.Sel.enc data),(1,v_i a),(2,v_i b),(3,AV.pv (PV.fn 50)),(8,v_i i)],[],0⟩) := by
 revert h; unfold qbc
 apply it <;> intro h1
 ·refine bg T.Sel.enc fun x3 h2 f1 f2 f3 => ?_
  refine bg T.Sel.enc fun x5 h4 f4 f5 f6 => ?_
  refine bs fun v7 h6 => ?_
  have f7 := qic h6
  try simp only [en.down] at f7
  apply it <;> intro h8
  ·rintro ⟨⟩
  rintro ⟨⟩
  exact fL gm
 rintro ⟨⟩
 exact fL gm
theorem qx4 : ∀ p r,q7u p = some r → O.loop 97 0 ⟨[(0,v_l 2 T.Sel.enc p.1),(1,v_i p.2.1),(2,v_i p.2.2.1),(3,AV.pv (PV.fn 50)),(8,v_i p.2.2.2)],[],0⟩ = some (Ex.normal,⟨[],[],0⟩) := by
 refine q7u.partial_correctness _ ?_
 rintro q7u ih16 ⟨data,a,b,i⟩ r; dsimp only
 apply it <;> intro h1
 ·refine bs fun v3 h2 => ?_
  have f1 := z6q h2
  try simp only [en.down] at f1
  intro h; have f2 := ih16 _ _ h; clear h
  try simp only [en.down] at f2
  clear ih16; exact fL gm
 rintro ⟨⟩
 clear ih16; exact fL gm
theorem qfu {data a b r} (h : qa9 data a b = some r) : O.call 97 [v_l 2 T.Sel.enc data,v_i a,v_i b,AV.pv (PV.fn 50)] [] = some (AV.tup [],[]) := by
 revert h; unfold qa9
 refine bs fun v2 h1 => ?_
 have f1 := qx4 _ _ h1
 try simp only [en.down] at f1
 rintro ⟨⟩
 exact fF gm
theorem qrp : ∀ p r,q8m p = some r → O.loop 76 0 ⟨[(0,v_l 2 T.Sel.enc p.1),(1,v_i p.2.1),(2,AV.pv (PV.fn 50)),(6,v_i p.2.2.1),(7,v_i p.2.2.2.1),(8,v_i p.2.2.2.2)],[],0⟩ = some (Ex.normal,⟨[(0,v_l 2 T.Sel.enc p.1),(1,v_i p.2.1),(2,AV.pv (PV.fn 50)),(6,v_i p.2.2.1),(7,v_i r)],[],0⟩) := by
 refine q8m.partial_correctness _ ?_
 rintro q8m ih14 ⟨data,n,blockSize,a,b⟩ r; dsimp only
 apply it <;> intro h1
 ·refine bs fun v3 h2 => ?_
  have f1 := qfu h2
  try simp only [en.down] at f1
  intro h; have f2 := ih14 _ _ h; clear h
  try simp only [en.down] at f2
  clear ih14; exact fL um
 rintro ⟨⟩
 clear ih14; exact fL um
theorem zhj {data n blockSize a b r} (h : qbw data n blockSize a b = some r) : O.loop 76 4 ⟨[(0,v_l 2 T.Sel.enc data),(1,v_i n),(2,AV.pv (PV.fn 50)),(6,v_i blockSize),(7,v_i a),(8,v_i b)],[],0⟩ = some (Ex.normal,⟨[(0,v_l 2 T.Sel.enc data),(1,v_i n),(2,AV.pv (PV.fn 50)),(6,v_i blockSize),(7,v_i a)],[],0⟩) := by
 revert h; unfold qbw
 apply it <;> intro h1
 ·rintro ⟨⟩
 rintro ⟨⟩
 exact fL um
theorem qyk : ∀ p r,q8o p = some r → O.loop 76 2 ⟨[(0,v_l 2 T.Sel.enc p.1),(1,v_i p.2.1),(2,AV.pv (PV.fn 50)),(6,v_i p.2.2)],[],0⟩ = some (Ex.normal,⟨[],[],0⟩) := by
 refine q8o.partial_correctness _ ?_
 rintro q8o ih23 ⟨data,n,blockSize⟩ r; dsimp only
 apply it <;> intro h1
 ·refine bs fun v3 h2 => ?_
  have f1 := zhj h2
  try simp only [en.down] at f1
  apply it <;> intro h4
  ·rintro ⟨⟩
  intro h; have f2 := ih23 _ _ h; clear h
  try simp only [en.down] at f2
  clear ih23; exact fL um
 rintro ⟨⟩
 clear ih23; exact fL um
theorem zi0 {data n r} (h : qcu data n = some r) : O.call 76 [v_l 2 T.Sel.enc data,v_i n,AV.pv (PV.fn 50)] [] = some (AV.tup [],[]) := by
 revert h; unfold qcu
 refine bs fun v2 h1 => ?_
 have f1 := qrp _ _ h1
 try simp only [en.down] at f1
 refine bs fun v4 h3 => ?_
 have f2 := qfu h3
 try simp only [en.down] at f2
 refine bs fun v6 h5 => ?_
 have f3 := qyk _ _ h5
 try simp only [en.down] at f3
 rintro ⟨⟩
 exact fF um
theorem z9x {x r} (h : qe3 x = some r) : O.call 49 [v_l 2 T.Sel.enc x,AV.pv (PV.fn 50)] [] = some (AV.tup [],[]) := by
 revert h; unfold qe3
 refine bs fun v2 h1 => ?_
 have f1 := zi0 h1
 try simp only [en.down] at f1
 rintro ⟨⟩
 exact fF qf7
theorem qkg {a b r} (h : qad a b = some r) : O.call 53 [v_g (T.Span.enc a),v_g (T.Span.enc b)] [] = some (v_b r,[]) := by
 revert h; unfold qad
 rintro ⟨⟩
 exact fF qvx
theorem zay : ∀ p r,q1y p = some r → O.loop 29 0 ⟨[(4,v_r 0 p.2.2.2),(14,v_l 2 T.Sel.enc p.1),(15,v_i p.2.1),(16,v_i p.2.2.1)],[(0,b_r 2 T.Sel.enc p.2.2.2)],1⟩ = some (Ex.normal,⟨[(4,v_r 0 r)],[(0,b_r 2 T.Sel.enc r)],1⟩) := by
 refine q1y.partial_correctness _ ?_
 rintro q1y ih25 ⟨t14,t15,t16,out⟩ r; dsimp only
 apply it <;> intro h1
 ·refine bg T.Sel.enc fun x3 h2 f1 f2 f3 => ?_
  apply it <;> intro h4
  ·refine gd fun h5 => ?_
   have f4 := rG 2 T.Sel.enc out
   have f5 : List.map T.Sel.enc out ++ [[PV.int IntKind.i64 x3.anchor,PV.int IntKind.i64 x3.head]] = List.map T.Sel.enc (out ++ [x3]) := by simp only [List.map_append,List.map_cons,List.map_nil,qx,qy,qw,T.Sel.qi] <;> rfl
   intro h; have f6 := ih25 _ _ h; clear h
   try simp only [en.down] at f6
   clear ih25; exact fL uf
  refine bW T.Sel.enc 2 fun x7 h6 f7 f8 f9 f10 f11 => ?_
  refine bs fun v9 h8 => ?_
  have f12 := q3y h8
  try simp only [en.down,f10,f11] at f12
  refine bs fun v11 h10 => ?_
  have f13 := q3y h10
  try simp only [en.down,f10,f11] at f13
  refine bs fun v13 h12 => ?_
  have f14 := qkg h12
  try simp only [en.down,f10,f11] at f14
  apply it <;> intro h14
  ·refine gd fun h15 => ?_
   have f15 : List.map T.Sel.enc out ++ [[PV.int IntKind.i64 x3.anchor,PV.int IntKind.i64 x3.head]] = List.map T.Sel.enc (out ++ [x3]) := by simp only [List.map_append,List.map_cons,List.map_nil,qx,qy,qw,T.Sel.qi] <;> rfl
   try simp only [f10,f11] at f12 f13 f14
   intro h; have f16 := ih25 _ _ h; clear h
   try simp only [en.down,f10,f11] at f16
   try simp only [f10,f11] at f16
   clear ih25; exact fL uf
  apply it <;> intro h16
  ·have f17 := map_set T.Sel.enc out ((IntKind.i64.wrap ((out.length : Int) - (1 : Int))).toNat) (T.Sel.mk (if v11.to > v9.to then v11.to else v9.to) v9.frm)
   try simp only [en.down] at f17
   try simp only [f10,f11] at f12 f13 f14 f17
   intro h; have f18 := ih25 _ _ h; clear h
   try simp only [en.down,f10,f11] at f18
   try simp only [f10,f11] at f18
   clear ih25; exact fL uf
  have f19 := map_set T.Sel.enc out ((IntKind.i64.wrap ((out.length : Int) - (1 : Int))).toNat) (T.Sel.mk v9.frm (if v11.to > v9.to then v11.to else v9.to))
  try simp only [en.down] at f19
  try simp only [f10,f11] at f12 f13 f14 f19
  intro h; have f20 := ih25 _ _ h; clear h
  try simp only [en.down,f10,f11] at f20
  try simp only [f10,f11] at f20
  clear ih25; exact fL uf
 rintro ⟨⟩
 clear ih25; exact fL uf
theorem zry : ∀ p r,q36 p = some r → r.length = p.2.2.2.2.length ∧ O.loop 97 2 ⟨[(0,v_r 0 p.2.2.2.2),(1,v_i p.1),(2,v_i p.2.1),(3,AV.pv (PV.fn 50)),(8,v_i p.2.2.1),(9,v_i p.2.2.2.1)],[(0,Blk.row false 2 (List.map T.Sel.enc p.2.2.2.2))],1⟩ = some (Ex.normal,⟨[(0,v_r 0 r),(1,v_i p.1),(2,v_i p.2.1),(3,AV.pv (PV.fn 50)),(8,v_i p.2.2.1)],[(0,Blk.row false 2 (List.map T.Sel.enc r))],1⟩) := by
 refine q36.partial_correctness _ ?_
 rintro q36 ih32 ⟨a,b,i,j,data⟩ r; dsimp only
 apply it <;> intro h1
 ·refine bw T.Sel.enc fun x3 h2 f1 f2 f3 => ?_
  refine bw T.Sel.enc fun x5 h4 f4 f5 f6 => ?_
  refine bs fun v7 h6 => ?_
  have f7 := qic h6
  try simp only [en.down] at f7
  apply it <;> intro h8
  ·have f8 := map_set T.Sel.enc data j.toNat x5
   try simp only [en.down] at f8
   refine bw T.Sel.enc fun x10 h9 f9 f10 f11 => ?_
   try simp only [List.length_set] at f11
   have f12 := map_set T.Sel.enc (data.set j.toNat x5) ((IntKind.i64.wrap (j - (1 : Int))).toNat) x3
   try simp only [en.down] at f12
   intro h; obtain ⟨f13L,f13⟩ := ih32 _ _ h; clear h
   try simp only [en.down] at f13
   clear ih32; exact ⟨by first | rfl | (simp only [List.length_set,f13L]; done),fL gm⟩
  rintro ⟨⟩
  clear ih32; exact ⟨by first | rfl | (simp only [List.length_set]; done),fL gm⟩
 rintro ⟨⟩
 clear ih32; exact ⟨by first | rfl | (simp only [List.length_set]; done),fL gm⟩
theorem zix : ∀ p r,q2p p = some r → r.length = p.2.2.2.length ∧ O.loop 97 0 ⟨[(0,v_r 0 p.2.2.2),(1,v_i p.1),(2,v_i p.2.1),(3,AV.pv (PV.fn 50)),(8,v_i p.2.2.1)],[(0,Blk.row false 2 (List.map T.Sel.enc p.2.2.2))],1⟩ = some (Ex.normal,⟨[],[(0,Blk.row false 2 (List.map T.Sel.enc r))],1⟩) := by
 refine q2p.partial_correctness _ ?_
 rintro q2p ih31 ⟨a,b,i,data⟩ r; dsimp only
 apply it <;> intro h1
 ·refine bs fun v3 h2 => ?_
  obtain ⟨f1L,f1⟩ := zry _ _ h2
  try simp only [List.length_set] at f1L
  try simp only [en.down,f1L] at f1
  try simp only [f1L] at f1
  intro h; obtain ⟨f2L,f2⟩ := ih31 _ _ h; clear h
  try simp only [en.down,f1L] at f2
  try simp only [f1L] at f2
  clear ih31; exact ⟨by first | rfl | (simp only [List.length_set,f2L,f1L]; done),fL gm⟩
 rintro ⟨⟩
 clear ih31; exact ⟨by first | rfl | (simp only [List.length_set]; done),fL gm⟩
theorem qfr {a b r_ r} (h : q7h a b r_ = some r) : r.length = r_.length ∧ O.call 97 [v_r 0 r_,v_i a,v_i b,AV.pv (PV.fn 50)] [(0,Blk.row false 2 (List.map T.Sel.enc r_))] = some (AV.tup [],[(0,Blk.row false 2 (List.map T.Sel.enc r))]) := by
 revert h; unfold q7h
 refine bs fun v2 h1 => ?_
 obtain ⟨f1L,f1⟩ := zix _ _ h1
 try simp only [List.length_set] at f1L
 try simp only [en.down,f1L] at f1
 try simp only [f1L] at f1
 rintro ⟨⟩
 exact ⟨by first | rfl | (simp only [List.length_set,f1L]; done),fF gm⟩
theorem qw7 : ∀ p r,q5u p = some r → r.2.length = p.2.2.2.2.length ∧ O.loop 76 0 ⟨[(0,v_r 0 p.2.2.2.2),(1,v_i p.1),(2,AV.pv (PV.fn 50)),(6,v_i p.2.1),(7,v_i p.2.2.1),(8,v_i p.2.2.2.1)],[(0,Blk.row false 2 (List.map T.Sel.enc p.2.2.2.2))],1⟩ = some (Ex.normal,⟨[(0,v_r 0 r.2),(1,v_i p.1),(2,AV.pv (PV.fn 50)),(6,v_i p.2.1),(7,v_i r.1)],[(0,Blk.row false 2 (List.map T.Sel.enc r.2))],1⟩) := by
 refine q5u.partial_correctness _ ?_
 rintro q5u ih29 ⟨n,blockSize,a,b,data⟩ r; dsimp only
 apply it <;> intro h1
 ·refine bs fun v3 h2 => ?_
  obtain ⟨f1L,f1⟩ := qfr h2
  try simp only [List.length_set] at f1L
  try simp only [en.down,f1L] at f1
  try simp only [f1L] at f1
  intro h; obtain ⟨f2L,f2⟩ := ih29 _ _ h; clear h
  try simp only [en.down,f1L] at f2
  try simp only [f1L] at f2
  clear ih29; exact ⟨by first | rfl | (simp only [List.length_set,f2L,f1L]; done),fL um⟩
 rintro ⟨⟩
 clear ih29; exact ⟨by first | rfl | (simp only [List.length_set]; done),fL um⟩
theorem z94 {n blockSize a b data r} (h : qcy n blockSize a b data = some r) : O.loop 76 4 ⟨[(0,v_r 0 data),(1,v_i n),(2,AV.pv (PV.fn 50)),(6,v_i blockSize),(7,v_i a),(8,v_i b)],[(0,Blk.row false 2 (List.map T.Sel.enc data))],1⟩ = some (Ex.normal,⟨[(0,v_r 0 data),(1,v_i n),(2,AV.pv (PV.fn 50)),(6,v_i blockSize),(7,v_i a)],[(0,Blk.row false 2 (List.map T.Sel.enc data))],1⟩) := by
 revert h; unfold qcy
 apply it <;> intro h1
 ·rintro ⟨⟩
 rintro ⟨⟩
 exact fL um
theorem zoe : ∀ p r,q64 p = some r → O.loop 76 2 ⟨[(0,v_r 0 p.2.2),(1,v_i p.1),(2,AV.pv (PV.fn 50)),(6,v_i p.2.1)],[(0,Blk.row false 2 (List.map T.Sel.enc p.2.2))],1⟩ = some (Ex.normal,⟨[],[(0,Blk.row false 2 (List.map T.Sel.enc p.2.2))],1⟩) := by
 refine q64.partial_correctness _ ?_
 rintro q64 ih33 ⟨n,blockSize,data⟩ r; dsimp only
 apply it <;> intro h1
 ·refine bs fun v3 h2 => ?_
  have f1 := z94 h2
  try simp only [en.down] at f1
  apply it <;> intro h4
  ·rintro ⟨⟩
  intro h; have f2 := ih33 _ _ h; clear h
  try simp only [en.down] at f2
  clear ih33; exact fL um
 rintro ⟨⟩
 clear ih33; exact fL um
theorem qqc {n r_ r} (h : q9z n r_ = some r) : r.length = r_.length ∧ O.call 76 [v_r 0 r_,v_i n,AV.pv (PV.fn 50)] [(0,Blk.row false 2 (List.map T.Sel.enc r_))] = some (AV.tup [],[(0,Blk.row false 2 (List.map T.Sel.enc r))]) := by
 revert h; unfold q9z
 refine bs fun v2 h1 => ?_
 obtain ⟨f1L,f1⟩ := qw7 _ _ h1
 try simp only [List.length_set] at f1L
 try simp only [en.down,f1L] at f1
 refine bs fun v4 h3 => ?_
 obtain ⟨f2L,f2⟩ := qfr h3
 try simp only [List.length_set,f1L] at f2L
 try simp only [en.down,f1L,f2L] at f2
 refine bs fun v6 h5 => ?_
 have f3 := zoe _ _ h5
 try simp only [en.down,f1L,f2L] at f3
 try simp only [f1L,f2L] at f1 f2 f3
 rintro ⟨⟩
 exact ⟨by first | rfl | (simp only [List.length_set,f1L,f2L]; done),fF um⟩
theorem zmb {r_ r} (h : q6r r_ = some r) : r.length = r_.length ∧ O.call 49 [v_r 0 r_,AV.pv (PV.fn 50)] [(0,Blk.row false 2 (List.map T.Sel.enc r_))] = some (AV.tup [],[(0,Blk.row false 2 (List.map T.Sel.enc r))]) := by
 revert h; unfold q6r
 refine bs fun v2 h1 => ?_
 obtain ⟨f1L,f1⟩ := qqc h1
 try simp only [List.length_set] at f1L
 try simp only [en.down,f1L] at f1
 try simp only [f1L] at f1
 rintro ⟨⟩
 exact ⟨by first | rfl | (simp only [List.length_set,f1L]; done),fF qf7⟩
theorem qzq : ∀ p r,yu p = some r → O.loop 29 0 ⟨[(4,v_r 1 p.2.2.2),(14,v_r 0 p.2.2.1),(15,v_i p.1),(16,v_i p.2.1)],[(0,Blk.row false 2 (List.map T.Sel.enc p.2.2.1)),(1,b_r 2 T.Sel.enc p.2.2.2)],2⟩ = some (Ex.normal,⟨[(4,v_r 1 r)],[(0,Blk.row false 2 (List.map T.Sel.enc p.2.2.1)),(1,b_r 2 T.Sel.enc r)],2⟩) := by
 refine yu.partial_correctness _ ?_
 rintro yu ih35 ⟨t15,t16,t14,out⟩ r; dsimp only
 apply it <;> intro h1
 ·refine bw T.Sel.enc fun x3 h2 f1 f2 f3 => ?_
  apply it <;> intro h4
  ·refine gd fun h5 => ?_
   have f4 := rG 2 T.Sel.enc out
   have f5 : List.map T.Sel.enc out ++ [[PV.int IntKind.i64 x3.anchor,PV.int IntKind.i64 x3.head]] = List.map T.Sel.enc (out ++ [x3]) := by simp only [List.map_append,List.map_cons,List.map_nil,qx,qy,qw,T.Sel.qi] <;> rfl
   intro h; have f6 := ih35 _ _ h; clear h
   try simp only [en.down] at f6
   clear ih35; exact fL uf
  refine bW T.Sel.enc 2 fun x7 h6 f7 f8 f9 f10 f11 => ?_
  refine bs fun v9 h8 => ?_
  have f12 := q3y h8
  try simp only [en.down,f10,f11] at f12
  refine bs fun v11 h10 => ?_
  have f13 := q3y h10
  try simp only [en.down,f10,f11] at f13
  refine bs fun v13 h12 => ?_
  have f14 := qkg h12
  try simp only [en.down,f10,f11] at f14
  apply it <;> intro h14
  ·refine gd fun h15 => ?_
   have f15 : List.map T.Sel.enc out ++ [[PV.int IntKind.i64 x3.anchor,PV.int IntKind.i64 x3.head]] = List.map T.Sel.enc (out ++ [x3]) := by simp only [List.map_append,List.map_cons,List.map_nil,qx,qy,qw,T.Sel.qi] <;> rfl
   try simp only [f10,f11] at f12 f13 f14
   intro h; have f16 := ih35 _ _ h; clear h
   try simp only [en.down,f10,f11] at f16
   try simp only [f10,f11] at f16
   clear ih35; exact fL uf
  apply it <;> intro h16
  ·have f17 := map_set T.Sel.enc out ((IntKind.i64.wrap ((out.length : Int) - (1 : Int))).toNat) (T.Sel.mk (if v11.to > v9.to then v11.to else v9.to) v9.frm)
   try simp only [en.down] at f17
   try simp only [f10,f11] at f12 f13 f14 f17
   intro h; have f18 := ih35 _ _ h; clear h
   try simp only [en.down,f10,f11] at f18
   try simp only [f10,f11] at f18
   clear ih35; exact fL uf
  have f19 := map_set T.Sel.enc out ((IntKind.i64.wrap ((out.length : Int) - (1 : Int))).toNat) (T.Sel.mk v9.frm (if v11.to > v9.to then v11.to else v9.to))
  try simp only [en.down] at f19
  try simp only [f10,f11] at f12 f13 f14 f19
  intro h; have f20 := ih35 _ _ h; clear h
  try simp only [en.down,f10,f11] at f20
  try simp only [f10,f11] at f20
  clear ih35; exact fL uf
 rintro ⟨⟩
 clear ih35; exact fL uf
theorem qep {l r} (h : q25 l = some r) : O.call 29 [v_l 2 T.Sel.enc l] [] = some (v_l 2 T.Sel.enc r,[]) := by
 revert h; unfold q25
 refine bs fun v2 h1 => ?_
 have f1 := qdz h1
 try simp only [en.down] at f1
 rcases v2 with y3 | y8
 ·dsimp only
  refine bs fun v5 h4 => ?_
  have f2 := z9x h4
  try simp only [en.down] at f2
  refine bs fun v7 h6 => ?_
  have f3 := zay _ _ h6
  try simp only [en.down] at f3
  rintro ⟨⟩
  exact fF uf
 dsimp only
 refine bs fun v10 h9 => ?_
 obtain ⟨f4L,f4⟩ := zmb h9
 try simp only [List.length_set] at f4L
 try simp only [en.down,f4L] at f4
 refine bs fun v12 h11 => ?_
 have f5 := qzq _ _ h11
 try simp only [en.down,f4L] at f5
 try simp only [f4L] at f1 f4 f5
 rintro ⟨⟩
 exact fF uf
theorem zld {n l r} (h : q7z n l = some r) : O.call 13 [v_i n,v_l 2 T.Sel.enc l] [] = some (AV.tup [v_l 2 T.Sel.enc r.1,v_i r.2],[]) := by
 revert h; unfold q7z
 apply it <;> intro h1
 ·rintro ⟨⟩
  exact fF q3j
 apply it <;> intro h2
 ·rintro ⟨⟩
  exact fF q3j
 refine bs fun v4 h3 => ?_
 have f1 := zf8 _ _ h3
 try simp only [en.down] at f1
 rcases v4 with y5 | y6
 ·dsimp only
  rintro ⟨⟩
  exact fF q3j
 dsimp only
 refine bs fun v8 h7 => ?_
 have f2 := qep h7
 try simp only [en.down] at f2
 rintro ⟨⟩
 exact fF q3j
def qji : ((Bool) ⊕ (Unit)) → Ex × St
 | .inl y => (Ex.ret,⟨[(4,v_b y)],[],0⟩)
 | .inr y => (Ex.normal,⟨[(4,AV.undef)],[],0⟩)
attribute [local go_sem] qji
theorem zau : ∀ p r,q3d p = some r → O.loop 30 0 ⟨[(0,v_l 2 T.Sel.enc p.1),(1,v_l 2 T.Sel.enc p.2.1),(12,v_i p.2.2.1),(13,v_i p.2.2.2)],[],0⟩ = some (qji r) := by
 refine q3d.partial_correctness _ ?_
 rintro q3d ih37 ⟨s1,s2,t12,t13⟩ r; dsimp only
 apply it <;> intro h1
 ·refine bg T.Sel.enc fun x3 h2 f1 f2 f3 => ?_
  refine bg T.Sel.enc fun x5 h4 f4 f5 f6 => ?_
  apply it <;> intro h6
  ·rintro ⟨⟩
   clear ih37; exact fL q4j
  intro h; have f7 := ih37 _ _ h; clear h
  try simp only [en.down] at f7
  clear ih37; exact fL q4j
 rintro ⟨⟩
 clear ih37; exact fL q4j
theorem zrz {s1 s2 r} (h : q7o s1 s2 = some r) : O.call 30 [v_l 2 T.Sel.enc s1,v_l 2 T.Sel.enc s2] [] = some (v_b r,[]) := by
 revert h; unfold q7o
 apply it <;> intro h1
 ·rintro ⟨⟩
  exact fF q4j
 refine bs fun v3 h2 => ?_
 have f1 := zau _ _ h2
 try simp only [en.down] at f1
 rcases v3 with y4 | y5
 ·dsimp only
  rintro ⟨⟩
  exact fF q4j
 dsimp only
 rintro ⟨⟩
 exact fF q4j
theorem qaa {i k r} (h : q2f i k = some r) : O.call 78 [v_g (T.qa.enc i),v_i k] [] = some (v_i r,[]) := by
 revert h; unfold q2f
 refine bg T.Stop.enc fun x2 h1 f1 f2 f3 => ?_
 refine q0r (fun h3 h4 => ?_) ?_
 ·rintro ⟨⟩
  exact fF qfe
 rintro (⟨h3,h4⟩ | ⟨h3,h4⟩)
 all_goals
 rintro ⟨⟩
 exact fF qfe
def qiw (k : Int) (i : T.qa) : ((Bool) ⊕ (Unit)) → Ex × St
 | .inl y => (Ex.ret,⟨[(1,v_i k),(2,AV.ptr 0 0),(4,v_b y)],[(0,b_x (T.qa.enc i))],1⟩)
 | .inr y => (Ex.normal,⟨[(1,v_i k),(2,AV.ptr 0 0),(4,AV.undef)],[(0,b_x (T.qa.enc i))],1⟩)
attribute [local go_sem] qiw
theorem z2x : ∀ p r,q1v p = some r → O.loop 54 0 ⟨[(1,v_i p.1),(2,AV.ptr 0 0),(5,v_i p.2.1)],[(0,b_x (T.qa.enc p.2.2))],1⟩ = some (qiw p.1 p.2.2 r) := by
 refine q1v.partial_correctness _ ?_
 rintro q1v ih43 ⟨k,u,i⟩ r; dsimp only
 apply it <;> intro h1
 ·refine bg T.Stop.enc fun x3 h2 f1 f2 f3 => ?_
  apply it <;> intro h4
  ·rintro ⟨⟩
   clear ih43; exact fL q85
  refine bs fun v6 h5 => ?_
  have f4 := qaa h5
  try simp only [en.down] at f4
  intro h; have f5 := ih43 _ _ h; clear h
  try simp only [en.down] at f5
  clear ih43; exact fL q85
 rintro ⟨⟩
 clear ih43; exact fL q85
theorem qtn {i k r} (h : q6n i k = some r) : O.call 54 [v_g (T.qa.enc i),v_i k] [] = some (v_b r,[]) := by
 revert h; unfold q6n
 refine bs fun v2 h1 => ?_
 have f1 := z2x _ _ h1
 try simp only [en.down] at f1
 rcases v2 with y3 | y4
 ·dsimp only
  rintro ⟨⟩
  exact fF q85
 dsimp only
 refine bg T.Stop.enc fun x6 h5 f2 f3 f4 => ?_
 rintro ⟨⟩
 exact fF q85
theorem q7b {a b r} (h : q0x a b = some r) : O.call 55 [v_g (T.Span.enc a),v_g (T.Span.enc b)] [] = some (v_b r,[]) := by
 revert h; unfold q0x
 apply it <;> intro h1
 ·rintro ⟨⟩
  exact fF qjr
 rintro ⟨⟩
 exact fF qjr
def qk7 (i : T.qa) : ((Bool × ze) ⊕ (ze)) → Ex × St
 | .inl y => (Ex.ret,⟨[(4,v_b y.1)],[(0,b_x (T.qa.enc i)),(1,b_m y.2)],2⟩)
 | .inr y => (Ex.normal,⟨[(4,AV.undef)],[(0,b_x (T.qa.enc i)),(1,b_m y)],2⟩)
attribute [local go_sem] qk7
theorem qqx : ∀ p r,q12 p = some r → O.loop 31 0 ⟨[(2,AV.ptr 0 0),(5,AV.map 1),(18,v_l 18 T.Stop.enc p.1),(19,v_i p.2.1),(20,v_i p.2.2.1)],[(0,b_x (T.qa.enc p.2.2.2.1)),(1,b_m p.2.2.2.2)],2⟩ = some (qk7 p.2.2.2.1 r) := by
 refine q12.partial_correctness _ ?_
 rintro q12 ih41 ⟨t18,t19,t20,i,ends⟩ r; dsimp only
 apply it <;> intro h1
 ·refine bg T.Stop.enc fun x3 h2 f1 f2 f3 => ?_
  refine bs fun v5 h4 => ?_
  have f4 := qtn h4
  try simp only [en.down] at f4
  refine q2l ?_ (fun h6 h7 => ?_)
  ·rintro (⟨h6,h7⟩ | ⟨h6,h7⟩)
   all_goals
   rintro ⟨⟩
   clear ih41; exact fL q0n
  apply it <;> intro h8
  ·refine bg T.Stop.enc fun x10 h9 f5 f6 f7 => ?_
   have f8 := mG2 ends x3.up
   try simp only [en.down] at f8
   refine bs fun v12 h11 => ?_
   have f9 := q7b h11
   try simp only [en.down] at f9
   refine qk6 ?_ ?_
   ·rintro (⟨h13,h14,h15⟩ | ⟨h13,h14,h15⟩)
    all_goals
    rintro ⟨⟩
    clear ih41; exact fL q0n
   rintro (⟨h13,h14,h15⟩ | ⟨h13,h14,h15⟩)
   all_goals
   have f10 := mP ends x3.up x3.span.to
   try simp only [en.down] at f10
   intro h; have f11 := ih41 _ _ h; clear h
   try simp only [en.down] at f11
   clear ih41; exact fL q0n
  have f12 := mG2 ends x3.up
  try simp only [en.down] at f12
  refine bs fun v17 h16 => ?_
  have f13 := q7b h16
  try simp only [en.down] at f13
  refine qk6 ?_ ?_
  ·rintro (⟨h18,h19,h20⟩ | ⟨h18,h19,h20⟩)
   all_goals
   rintro ⟨⟩
   clear ih41; exact fL q0n
  rintro (⟨h18,h19,h20⟩ | ⟨h18,h19,h20⟩)
  all_goals
  have f14 := mP ends x3.up x3.span.to
  try simp only [en.down] at f14
  intro h; have f15 := ih41 _ _ h; clear h
  try simp only [en.down] at f15
  clear ih41; exact fL q0n
 rintro ⟨⟩
 clear ih41; exact fL q0n
theorem z19 {i n r} (h : q7n i n = some r) : O.call 31 [v_g (T.qa.enc i),v_i n] [] = some (v_b r,[]) := by
 revert h; unfold q7n
 refine bs fun v2 h1 => ?_
 have f1 := qb6 h1
 try simp only [en.down] at f1
 apply it <;> intro h3
 ·rintro ⟨⟩
  exact fF q0n
 refine bs fun v5 h4 => ?_
 have f2 := qqx _ _ h4
 try simp only [en.down] at f2
 rcases v5 with y6 | y7
 ·dsimp only
  rintro ⟨⟩
  exact fF q0n
 dsimp only
 rintro ⟨⟩
 exact fF q0n
theorem z9j {y b r} (h : qcp y b = some r) : O.call 57 [v_g (T.Span.enc y),AV.ptr 0 0] [(0,b_x (T.Span.enc b))] = some (v_b r,[(0,b_x (T.Span.enc b))]) := by
 revert h; unfold qcp
 refine bs fun v2 h1 => ?_
 have f1 := q7b h1
 try simp only [en.down] at f1
 rintro ⟨⟩
 exact fF qlo
def qjq (f : T.Span) : ((Int) ⊕ (Unit)) → Ex × St
 | .inl y => (Ex.ret,⟨[(4,v_i y)],[(0,b_x (T.Span.enc f))],1⟩)
 | .inr y => (Ex.normal,⟨[(4,AV.undef)],[(0,b_x (T.Span.enc f))],1⟩)
attribute [local go_sem] qjq
theorem qty : ∀ p r,q6w p = some r → O.loop 79 0 ⟨[(0,v_l 2 T.Span.enc p.1),(1,AV.clo 57 [] [AV.ptr 0 0]),(7,v_i p.2.1),(8,v_i p.2.2.1)],[(0,b_x (T.Span.enc p.2.2.2))],1⟩ = some (qjq p.2.2.2 r) := by
 refine q6w.partial_correctness _ ?_
 rintro q6w ih49 ⟨s,t7,t8,f⟩ r; dsimp only
 apply it <;> intro h1
 ·refine bg T.Span.enc fun x3 h2 f1 f2 f3 => ?_
  refine bs fun v5 h4 => ?_
  have f4 := z9j h4
  try simp only [en.down] at f4
  apply it <;> intro h6
  ·try simp only [h6] at f4
   rintro ⟨⟩
   clear ih49; exact fL q8c
  try simp only [h6] at f4
  intro h; have f5 := ih49 _ _ h; clear h
  try simp only [en.down] at f5
  try simp only [h6] at f5
  clear ih49; exact fL q8c
 rintro ⟨⟩
 clear ih49; exact fL q8c
theorem zii {s b r} (h : qd6 s b = some r) : O.call 79 [v_l 2 T.Span.enc s,AV.clo 57 [] [AV.ptr 0 0]] [(0,b_x (T.Span.enc b))] = some (v_i r,[(0,b_x (T.Span.enc b))]) := by
 revert h; unfold qd6
 refine bs fun v2 h1 => ?_
 have f1 := qty _ _ h1
 try simp only [en.down] at f1
 rcases v2 with y3 | y4
 ·dsimp only
  rintro ⟨⟩
  exact fF q8c
 dsimp only
 rintro ⟨⟩
 exact fF q8c
theorem z9r {s b r} (h : qck s b = some r) : O.call 56 [v_l 2 T.Span.enc s,AV.clo 57 [] [AV.ptr 0 0]] [(0,b_x (T.Span.enc b))] = some (v_b r,[(0,b_x (T.Span.enc b))]) := by
 revert h; unfold qck
 refine bs fun v2 h1 => ?_
 have f1 := zii h1
 try simp only [en.down] at f1
 rintro ⟨⟩
 exact fF zqe
theorem qij {x in_ r} (h : q96 x in_ = some r) : O.call 32 [v_g (T.Span.enc x),v_l 2 T.Span.enc in_] [] = some (v_b r,[]) := by
 revert h; unfold q96
 refine bs fun v2 h1 => ?_
 have f1 := z9r h1
 try simp only [en.down] at f1
 rintro ⟨⟩
 exact fF qol
def qcm (n : Int) (t42 : (Sl T.qf)) (t43 : Int) (t44 : Int) (b0_ : T.State) (s : T.qf) : ((Bool) ⊕ (Unit)) → Ex × St
 | .inl y => (Ex.ret,⟨[(2,v_b y),(3,v_i n),(8,AV.ptr 1 0),(42,v_l 2 T.qf.enc t42),(43,v_i t43),(44,v_i t44)],[(0,b_x (T.State.enc b0_)),(1,b_x (T.qf.enc s))],2⟩)
 | .inr y => (Ex.normal,⟨[(2,AV.undef),(3,v_i n),(8,AV.ptr 1 0),(42,v_l 2 T.qf.enc t42),(43,v_i t43),(44,v_i t44)],[(0,b_x (T.State.enc b0_)),(1,b_x (T.qf.enc s))],2⟩)
attribute [local go_sem] qcm
theorem qp0 : ∀ p r,q1m p = some r → O.loop 16 2 ⟨[(3,v_i p.1),(6,v_l 2 T.Span.enc p.2.1),(7,v_i p.2.2.1),(8,AV.ptr 1 0),(9,v_i p.2.2.2.1),(42,v_l 2 T.qf.enc p.2.2.2.2.1),(43,v_i p.2.2.2.2.2.1),(44,v_i p.2.2.2.2.2.2.1),(54,v_l 3 T.qa.enc p.2.2.2.2.2.2.2.1),(55,v_i p.2.2.2.2.2.2.2.2.1),(56,v_i p.2.2.2.2.2.2.2.2.2.1)],[(0,b_x (T.State.enc p.2.2.2.2.2.2.2.2.2.2.1)),(1,b_x (T.qf.enc p.2.2.2.2.2.2.2.2.2.2.2))],2⟩ = some (qcm p.1 p.2.2.2.2.1 p.2.2.2.2.2.1 p.2.2.2.2.2.2.1 p.2.2.2.2.2.2.2.2.2.2.1 p.2.2.2.2.2.2.2.2.2.2.2 r) := by
 refine q1m.partial_correctness _ ?_
 rintro q1m ih39 ⟨n,around,k,end_,t42,t43,t44,t54,t55,t56,b0_,s⟩ r; dsimp only
 apply it <;> intro h1
 ·refine bg T.qa.enc fun x3 h2 f1 f2 f3 => ?_
  refine bs fun v5 h4 => ?_
  have f4 := z19 h4
  try simp only [en.down] at f4
  refine q2l ?_ (fun h6 h7 => ?_)
  ·rintro (⟨h6,h7⟩ | ⟨h6,h7⟩)
   all_goals
   rintro ⟨⟩
   clear ih39; exact fL yh
  apply it <;> intro h8
  ·refine bs fun v10 h9 => ?_
   have f5 := qij h9
   try simp only [en.down] at f5
   apply it <;> intro h11
   ·rintro ⟨⟩
    clear ih39; exact fL yh
   intro h; have f6 := ih39 _ _ h; clear h
   try simp only [en.down] at f6
   clear ih39; exact fL yh
  intro h; have f7 := ih39 _ _ h; clear h
  try simp only [en.down] at f7
  clear ih39; exact fL yh
 rintro ⟨⟩
 clear ih39; exact fL yh
theorem zbw : ∀ p r,q10 p = some r → O.loop 33 2 ⟨[(0,v_i p.1),(5,v_r 0 p.2.2.2.2.2.2.2.1),(10,v_l 3 T.qa.enc p.2.1),(11,v_i p.2.2.1),(12,v_i p.2.2.2.1),(17,v_l 18 T.Stop.enc p.2.2.2.2.1),(18,v_i p.2.2.2.2.2.1),(19,v_i p.2.2.2.2.2.2.1)],[(0,b_r 2 T.Span.enc p.2.2.2.2.2.2.2.1),(1,b_x (T.qa.enc p.2.2.2.2.2.2.2.2))],2⟩ = some (Ex.normal,⟨[(0,v_i p.1),(5,v_r 0 r),(10,v_l 3 T.qa.enc p.2.1),(11,v_i p.2.2.1),(12,v_i p.2.2.2.1)],[(0,b_r 2 T.Span.enc r),(1,b_x (T.qa.enc p.2.2.2.2.2.2.2.2))],2⟩) := by
 refine q10.partial_correctness _ ?_
 rintro q10 ih53 ⟨n,t10,t11,t12,t17,t18,t19,out,b1_⟩ r; dsimp only
 apply it <;> intro h1
 ·refine bg T.Stop.enc fun x3 h2 f1 f2 f3 => ?_
  refine q0r (fun h4 h5 => ?_) ?_
  ·refine gd fun h6 => ?_
   have f4 := rG 2 T.Span.enc out
   have f5 : List.map T.Span.enc out ++ [[PV.int IntKind.i64 x3.span.frm,PV.int IntKind.i64 x3.span.to]] = List.map T.Span.enc (out ++ [x3.span]) := by simp only [List.map_append,List.map_cons,List.map_nil,qx,qy,qw,T.Span.qi] <;> rfl
   intro h; have f6 := ih53 _ _ h; clear h
   try simp only [en.down] at f6
   clear ih53; exact fL q5w
  rintro (⟨h4,h5⟩ | ⟨h4,h5⟩)
  all_goals
  intro h; have f7 := ih53 _ _ h; clear h
  try simp only [en.down] at f7
  clear ih53; exact fL q5w
 rintro ⟨⟩
 clear ih53; exact fL q5w
end Go.Proofs.YtkbgphcebakcnaaGreat
