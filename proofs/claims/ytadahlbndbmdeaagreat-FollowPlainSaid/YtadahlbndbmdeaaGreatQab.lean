/-
  The machine, part b.
-/
import Derived.Test.YtadahlbndbmdeaaGreatQaa
import Derived.JoinedOf
import Derived.Lib.UnsafeStr
import GoSem.ClaimGoes
open Bool renaming true->T,false->F
open Go renaming Value->V,TypeId->U,Builtin->N,MapEntry->J,Program->D
open _root_ renaming Nat->Y,List->W,if_pos->M,if_neg->K,absurd->I,Bool->C,Option->B,Array->A
open Array renaming getElem?_toList->N?,ext'->I!,getInternal_eq_getElem->T_,getD->E_,mk->q25
open Exists renaming imp->q1u
open Go.Gm.AV renaming refs->z!
open Go.Gm.Sk renaming blocks->v!
open Go.Gm.TI renaming isAgg->q1h
open Go.Gm.cp renaming pure->e!
open Go.Gm.qD renaming used->v_,sh->q04,refs->q17,uW->q1t
open Go.Gm.qt renaming zy->d!,get->L!,put->k_
open Go.Gm.uS renaming get->U!
open Go.Gm.yA renaming refl->Y!
open Go.Sem renaming run_pure->H?,run->S_
open List renaming length_cons->b?,length_append->p?,mem_append->t?,getElem?_append_left->c?,mem_singleton->d?,map_cons->e?,getElem?_cons_zero->i?,getElem?_cons_succ->Q?,getElem?_append_right->J?,mem_cons->K?,getElem?_map->Y?,mem_of_mem_take->U?,getElem?_take_of_lt->G?,mem_map->B?,flatMap_cons->A?,nodup_append->O?,getElem?_toArray->q!,mem_of_mem_drop->j!,getElem?_drop->h!,nodup_cons->o!,mem_flatMap->Q!,all_eq_true->K!,flatten_cons->V!,getElem?_set->P!,getElem?_append->T!,mem_or_eq_of_mem_set->C!,getElem?_set_self->e_,mem_append_right->o_,getElem?_eq_none->Q_,getElem?_set_ne->P',set_cons_zero->q01,set_cons_succ->q02,foldlM_cons->q16,nodup_nil->q1i
open Nat renaming succ_mul->T?,add_mul->S?,zero_add->x!,add_assoc->Z!,lt_of_lt_of_le->G!,zero_le->A!,eq_zero_or_pos->q0o,sub_zero->q21,sub_sub->q23
open Option renaming map_some->O!,some->Z,none->R
set_option linter.unusedSimpArgs false
set_option linter.unusedVariables false
set_option linter.unusedSectionVars false
namespace Go.Gm
open Go
section
variable [xY] {P:D} {w:World} {H:qt} {ι:uT} {Im:Y->Prop}
theorem WG{a:Act}{E:uS}(e: ∀t,RA w H ι Im (E.get t) (a.tmps.getD t undef))(d:Y)(x:B Operand){n:Y}(h:wD (ev E) d x=Z n):
  (x=R/\n=d)\/ ∃b,(x.map a.eval)=Z (.int b (n:Int)):=by cases x with|none=>simp only[wD,wO]at h;exact .inl ⟨rfl,h.symm⟩|some x=>simp only[wD]at h;obtain⟨b,c⟩:=KG (Jm e x) h;exact .inr ⟨b,by simp[c]⟩
theorem run_sliceBound{a:IntKind}{n y:Y}(h:n<=y)(code:BoundsCode):(Instr.sliceBound (.int a (n:Int)) y code).run P w= .ok n w:=by unfold Instr.sliceBound asIntOf;have:(n:Int)<=(y:Int):=o?;simp[this]
theorem n9(isSlice:Bool){a:Act}{E:uS}(hE: ∀t,RA w H ι Im (E.get t) (a.tmps.getD t undef))(lo hi mx:Option Operand)(len cap:Nat){l h m:Nat}
  (hl:wD (ev E) 0 lo=some l) (hh:wD (ev E) len hi=some h) (hm:wD (ev E) cap mx=some m) (h1:l<=h) (h2:h<=m) (h3:m<=cap)
  (hmx:mx≠none->hi≠none):
  (Instr.sliceBounds isSlice len cap (lo.map a.eval) (hi.map a.eval) (mx.map a.eval)).run P w= .ok (l,h,m) w:=by have e1:=WG hE 0 lo hl;have e2:=WG hE len hi hh;have e3:=WG hE cap mx hm;unfold Instr.sliceBounds;rcases e3 with ⟨rfl,rfl⟩|⟨k3,e3⟩;rcases e2 with ⟨rfl,rfl⟩|⟨k2,e2⟩;rcases e1 with ⟨rfl,rfl⟩|⟨k1,e1⟩;simp;simp only[e1,Option.map_none,w9,Sem.run_pure,tV,run_sliceBound h1];rcases e1 with ⟨rfl,rfl⟩|⟨k1,e1⟩;simp only[e2,Option.map_none,w9,Sem.run_pure,tV,run_sliceBound h2];simp only[e1,e2,Option.map_none,w9,Sem.run_pure,tV,run_sliceBound h1,run_sliceBound h2];rcases e2 with ⟨rfl,rfl⟩|⟨k2,e2⟩;(have:mx≠none:=by intro e;subst e;cases e3);exact absurd rfl (hmx this);rcases e1 with ⟨rfl,rfl⟩|⟨k1,e1⟩;simp only[e2,e3,Option.map_none,w9,Sem.run_pure,tV,run_sliceBound h2,run_sliceBound h3];simp only[e1,e2,e3,w9,Sem.run_pure,tV,run_sliceBound h1,run_sliceBound h2,run_sliceBound h3]
theorem HL(s:W UInt8)(l h:Y):(ByteArray.mk ⟨s⟩).extract l h=⟨⟨(s.take h).drop l⟩⟩:=by apply ByteArray.ext;apply I!;simp[W.extract_eq_take_drop,W.drop_take]
theorem slv_sh{b:qD}{x:C×Y×Y}(h:b.slv=Z x):b.sh=Z x:=by unfold qD.slv at h;split at h;exact h;exact h;cases h
theorem slv_cap(hi:zr w H ι Im){β:Y}{b:qD}{d k:Y}(a:H.get β=Z b)(hs:b.slv=Z (F,d,k)):k<=(ι β).cap:=by unfold qD.slv at hs;split at hs;cases hs;obtain⟨c,elem,f,g1,g2,g3,g4,g5,_⟩:=hi.row a;exact g5;cases hs;obtain⟨c,elem,f,h1,h2,h3,e,_⟩:=hi.we a;exact e;cases hs
theorem slv_nil{β:Y}{b:qD}{a k:Y}(h:d8 w H ι Im β b)(hs:b.slv=Z (T,a,k)):k=0:=by unfold qD.slv at hs;split at hs;cases hs;have:_=[]:=h;rw[this];rfl;cases hs;obtain⟨c,_⟩:=h;rw[c];rfl;cases hs
theorem IE{G:U->B TI}(hG: ∀t ti,G t=Z ti->xq P t ti){t:U}{ti:TI}(ht:xq P t ti)(gS:zr w H ι Im)
  {a:Act} {E:uS} (hE: ∀t,RA w H ι Im (E.get t) (a.tmps.getD t undef)) {x:AV} {v:V} (hx:RA w H ι Im x v) (lo hi d:B Operand)
  {r:AV} (c:lC ti.td G (ev E) x lo hi d H=Z r):
  ∃u,(Instr.sliceAt t v (lo.map a.eval) (hi.map a.eval) (d.map a.eval)).run P w= .ok u w/\RA w H ι Im r u:=by
 unfold lC at c;split at c;cases c;rename_i hmx0;have z:d≠R->hi≠R:=by intro h1 h2;subst h2;cases d with|none=>exact h1 rfl|some _=>exact hmx0 ⟨rfl,rfl⟩
 split at c
 ·rename_i kx;have hu:=ht.string kx;split at c;rotate_left;cases c;rename_i s;split at c;cases c;(rename_i hmn;have hmn' :d=R:=by cases d<;>simp_all);subst hmn';split at c;rotate_left;cases c
  rename_i l h hl hh;split at c<;>cases c;rename_i hc;cases hx with
  |pv _ _ hp=>cases hp with
   |str=>
    have q:=n9 (P:=P) F hE lo hi R s.length s.length hl hh rfl hc.1 hc.2 (ke _) (λh=>I rfl h);refine⟨.string ((ByteArray.mk ⟨s⟩).extract l h), ?_,.pv _ _ (by rw[HL];exact .str _)⟩;unfold Instr.sliceAt Instr.slice;simp only[w9,qA hu,tV];have rj:(ByteArray.mk ⟨s⟩).size=s.length:=rfl;simp only[B.map_none]at q |-;simp[rj,q]
 ·rename_i e kx;have hu:=ht.slice kx;split at c;cases c
  rename_i te eg;have ft:=hG _ _ eg;have run: ∀(base:B Addr)(len cap l h m:Y),(Instr.sliceBounds T len cap (lo.map a.eval) (hi.map a.eval) (d.map a.eval)).run P w= .ok (l,h,m) w->
    (Instr.sliceAt t (.slice base len cap) (lo.map a.eval) (hi.map a.eval) (d.map a.eval)).run P w= .ok (.slice (if m=l then base else base.map (·.add (l*te.size))) (h-l) (m-l)) w:=by
   intro base len cap l h m q;unfold Instr.sliceAt Instr.slice;simp only[w9,qA hu,tV,q,ft.size,H?]
  split at c
  ·rename_i qx sz es;split at c;rotate_left;cases c;rename_i l h m hl hh hm;split at c;rotate_left;cases c
   rename_i hc;obtain⟨c1,c2,c3,c4⟩:=hc;cases hx with
   |pv _ _ hp=>cases hp with
    |oZ=>
     have hm0:m=0:=by simpa using c3
     subst hm0;have X:h=0:=o?;subst X;have L:l=0:=o?;subst L;have q:=n9 (P:=P) T hE lo hi d 0 0 hl (by simpa using hh) (by simpa using hm) (ke _) (ke _) (ke _) z;simp at c;subst c;refine⟨_,run R 0 0 0 0 0 q, ?_⟩;simp;exact .pv _ _ (.oZ 0)
    |sl _ _ b off cap vs Ja VJ rj U9 hf hrp sp AN=>
     have k : ∃f,wD (ev E) cap d=Z f /\((d=R/\f =cap)\/(d≠R/\f =m)):=by
      cases d with
      |none=>exact⟨cap,rfl,.inl ⟨rfl,rfl⟩⟩
      |some y=>exact⟨m,hm,.inr ⟨z?,rfl⟩⟩
     obtain⟨f,k,o⟩:=k;have Q:h<=f /\f <=cap:=by
      rcases o with ⟨rfl,rfl⟩|⟨_,rfl⟩
      ·simp only[wD,wO]at hm;omega
      omega
     have q:=n9 (P:=P) T hE lo hi d es.length cap hl hh k c1 Q.1 Q.2 z;refine⟨_,run (Z ⟨b,off,sp⟩) es.length cap l h f q, ?_⟩;split at c
     ·rename_i hz;cases c;obtain⟨z1,z2,_⟩:=hz;rcases o with ⟨rfl,_⟩|⟨_,rfl⟩
      ·cases z1
      have e1:h-l=0:=o?;have e2:f -l=0:=o?;rw[M z2.symm,e1,e2];exact .QZ _
     cases c;by_cases ec:es=[]
     ·subst ec;simp only[W.length_nil,Y.le_zero_eq]at c3;have X:h=0:=o?;have L:l=0:=o?;subst X;subst L;have hz:RP w Im (.sl F sz (([]:W (W PV)).take 0 |>.drop 0)) (.slice (Z ⟨b,off,sp⟩) (0-0) (f -0)):=
       .sl sz [] b off (f -0) (λ_=>undef) (λh=>I rfl h) (A! _) z? (λi jv=>by simp at jv) z? z? sp (λh=>I rfl h)
      have ha:(⟨b,off,sp⟩:Addr).add (0*te.size)=⟨b,off,sp⟩:=by simp[Addr.add]
      split
      ·exact .pv _ _ hz.mk
      simp only[O!,ha];exact .pv _ _ hz.mk
     obtain rfl:=AN ec;have hlen:((es.take h).drop l).length=h-l:=v?;have key: ∀(a0:Y),(l<h->a0=off+l*sz)->RP w Im (.sl F sz ((es.take h).drop l)) (.slice (Z ⟨b,a0,R⟩) (h-l) (f -l)):=by
      intro a0 ha0;rw[<- hlen];have sQ: ∀(i:Y) e0,((es.take h).drop l)[i]? =Z e0->l+i<h/\es[l+i]? =Z e0:=by
       intro i e0 hi0;have h1:=(qK hi0).1;rw[h!,G? o?]at hi0;exact⟨o?,hi0⟩
      refine .sl sz _ b a0 (f -l) (λi=>vs (l*sz+i)) (λkN=>Ja (λh0=>kN (by rw[h0];simp))) o? (λe0 P6=>rj e0 (U? (j! P6))) (λi jv=>?_) (λi e0 j p q1 q2=>hf _ e0 j p (sQ i e0 q1).2 q2) (λi e0 j p q1 q2=>?_) R (λ_=>rfl)
      ·rw[hlen]at jv;have kN:l<h:=by
        rcases Y.lt_or_ge l h with h0|h0
        ·exact h0
        have:h-l=0:=o?;rw[this]at jv;simp at jv
       rw[ha0 kN,Z!];refine U9 _ ?_;have e1:(l+(h-l))*sz<=es.length*sz:=mulR _ o?;rw[S?]at e1;omega
      obtain⟨_,g⟩:=sQ i e0 q1;have:=hrp (l+i) e0 j p g q2;rw[S?]at this;rwa[<- Z!]
     by_cases Ub:f =l
     ·rw[M Ub];exact .pv _ _ (key off (λh0=>o?)).mk
     rw[K Ub];simp only[O!,add_plain];refine .pv _ _ (RP.mk (key _ (λh0=>?_)));rcases c4 with rfl|c4
     ·rfl
     subst c4;simp at c3;omega
  {rename_i β xS off n;split at c;rotate_left;cases c;rename_i d5 q;split at c;rotate_left;cases c;rename_i qx sz k0 hsl;split at c;rotate_left;cases c;rename_i l h m hl hh hm;split at c;rotate_left;cases c;rename_i hc;obtain⟨kA,c1,c2,c3,c4⟩:=hc;have hxx:=hx;cases hx with|row _ _ _ _ _ b ho kq hk hv hh' =>rw[q]at kq;cases kq;have hsh:=slv_sh hsl;obtain⟨h1,h2⟩:=hh' _ _ _ hsh kA;cases hn:qx;{(subst hn;simp only[vH,if_false]at h2 c;obtain⟨a0,rfl,ZB,oG,XR⟩:=h2;obtain⟨ab,ao,II⟩:=a0;simp only at ZB oG XR;subst ZB oG;have hte0:sz=te.size:=by rcases c4 with h|h;exact h;cases h);(have g5:=slv_cap gS q hsl;have k : ∃f,wD (ev E) ((ι β).cap-off) d=Z f /\((d=R/\f =(ι β).cap-off)\/(d≠R/\f =m)):=by cases d with|none=>exact⟨_,rfl,.inl ⟨rfl,rfl⟩⟩|some y=>exact⟨m,hm,.inr ⟨z?,rfl⟩⟩);(obtain⟨f,k,o⟩:=k;have Q:h<=f /\f <=(ι β).cap-off:=by rcases o with ⟨rfl,rfl⟩|⟨_,rfl⟩;simp only[wD,wO]at hm;omega;omega);have Oy:=n9 (P:=P) T hE lo hi d n ((ι β).cap-off) hl hh k c1 Q.1 Q.2 z;refine⟨_,run _ n _ l h f Oy, ?_⟩;split at c;split at c<;>cases c;rename_i hz hlm;rcases o with ⟨rfl,_⟩|⟨_,rfl⟩;cases hz;have e1:h-l=0:=o?;have e2:f -l=0:=o?;rw[M hlm.symm,e1,e2];exact .QZ _;rename_i hz;cases c;rcases o with ⟨rfl,rfl⟩|⟨kN,_⟩;rotate_left;(cases d with|none=>exact I rfl kN|some _=>exact I rfl hz);refine .row β xS (off+l) (h-l) _ _ (by split<;>rfl) q hk hv λqx FU Ze e SK=>?_;rw[hsh]at e;cases e;refine⟨o?, ?_⟩;simp only[vH,if_false];by_cases Ub:(ι β).cap-off=l;rw[M Ub];exact⟨⟨(ι β).b,ao,R⟩,by rw[q23],rfl,rfl,λh0=>o?⟩;rw[K Ub];refine⟨⟨(ι β).b,ao+l*te.size,R⟩,by simp only[O!,add_plain];rw[q23],rfl,rfl,λh0=>?_⟩;have:=XR o?;subst this;rw[hte0,S?]};subst hn;simp only[if_true]at h2 c;subst h2;have ec:k0=0:=slv_nil (gS.d5 β _ q) hsl;subst ec;have P8:n=0:=o?;subst P8;have hm0:m=0:=o?;subst hm0;have X:h=0:=o?;subst X;have L:l=0:=o?;subst L;simp only[Y.add_zero,q21,ite_self,wO]at c;subst c;have Oy:=n9 (P:=P) T hE lo hi d 0 0 hl hh hm (ke _) (ke _) (ke _) z;refine⟨_,run R 0 0 0 0 0 Oy, ?_⟩;simpa using hxx};(split at c<;>cases c;rename_i hl hh hm;cases hx with|QZ a=>have Oy:=n9 (P:=P) T hE lo hi d 0 0 hl hh hm (ke _) (ke _) (ke _) z;refine⟨_,run (Z a) 0 0 0 0 0 Oy, ?_⟩;simp;exact .QZ _);cases c
 cases c
end
section
variable [xY] {P:D} {w:World} {H:qt} {ι:uT} {Im:Y->Prop}
theorem RA.row_inv{β d off n:Y}{v:V}(h:RA w H ι Im (.row β d off n) v){f:C}{e:Y}{es:W (W PV)}
  (j:H.get β=Z (.row f e es)) (i:d=es.length):off+n<=es.length/\
    if f=T then v= .slice R 0 0
    else ∃a,v= .slice (Z a) n ((ι β).cap-off)/\a.spot=R/\a.block=(ι β).b/\(off<(ι β).cap->a.off=off*e):=by cases h with|row _ _ _ _ _ b ho g hk SK c =>rw[j]at g;cases g;exact c _ _ _ rfl i
theorem RA.MB(hi:zr w H ι Im){β d off n:Y}{v:V}(g:RA w H ι Im (.row β d off n) v){qx:C}{f:Y}{es:W (W PV)}
  (e:H.get β=Z (.row qx f es)) (h:d=es.length): ∃a c,v= .slice a n c/\a.isNone=qx:=by
 obtain⟨i,b⟩:=g.row_inv e h;cases qx;simp only[vH,if_false]at b;obtain⟨a,rfl,_⟩:=b;exact⟨_,_,rfl,rfl⟩;simp only[if_true]at b;subst b;have j:es=[]:=hi.d5 β _ e;subst j;have:n=0:=by simp at i;omega
 subst this;exact⟨_,_,rfl,rfl⟩
theorem RA.arow_len{β d off n:Y}{v:V}(i:RA w H ι Im (.row β d off n) v){g:Y}{es:W (W AV)}
  (k:H.get β=Z (.rq g es)) (j:d=es.length): ∃a c,v= .slice a n c:=by cases i with|row _ _ _ _ _ b ho e hk kA h=>rw[k]at e;cases e;obtain⟨h1,f⟩:=h _ _ _ rfl j;simp only[vH,if_false]at f;obtain⟨a,rfl,_⟩:=f;exact⟨_,_,rfl⟩
theorem RA.orow_len(hi:zr w H ι Im){β e off n:Y}{v:V}(j:RA w H ι Im (.row β e off n) v){f:C}{o:W Y}{es:W PV}{p:B (Y×Y×Y)}
  (i:H.get β=Z (.we f o es p)) (k:e=es.length): ∃a c,v= .slice a n c:=by cases j with|row _ _ _ _ _ b ho g hk kA h=>rw[i]at g;cases g;obtain⟨l,d⟩:=h _ _ _ rfl k;cases f with|false=>simp only[vH,if_false]at d;obtain⟨a,rfl,_⟩:=d;exact⟨_,_,rfl⟩|true=>(simp only[if_true]at d;subst d;have m:es=[]:=(hi.d5 β _ i).1;subst m;have:n=0:=by simp at l;omega);subst this;exact⟨_,_,rfl⟩
theorem aLen_ok{t:U}{ti:TI}(l:xq P t ti)(hi:zr w H ι Im){x:AV}{v:V}(g:RA w H ι Im x v)(tt:U){n:Y}(j:KC ti.td x=T)(f:PT x H=Z n):
  (N.len_ #[t] tt #[v]).run P w= .ok (.int .i64 n) w:=by
 unfold PT at f;unfold N.len_;simp only[q!,i?,w9];split at f
 ·rename_i s;cases f;cases g with
  |pv _ _ h=>cases h with
   |str=>
    have d:ti.td= .string:=by
     cases h:ti.td<;>simp[KC,h]at j |-
    simp only[qA (l.string d),tV,goInt];rfl
 (rename_i q p es;cases f;have d: ∃e,ti.td= .slice e:=by cases h:ti.td<;>simp[KC,h]at j |-);(obtain⟨e,d⟩:=d;simp only[qA (l.slice d),tV];cases g with|pv _ _ h=>cases h<;>rfl);(cases f;have d: ∃k e,ti.td= .map k e:=by cases h:ti.td<;>simp[KC,h]at j |-);(obtain⟨k,e,d⟩:=d;simp only[qA (l.map d),tV];cases g with|pv _ _ h=>cases h;rfl);(cases f;have d: ∃e,ti.td= .slice e:=by cases h:ti.td<;>simp[KC,h]at j |-);(obtain⟨e,d⟩:=d;simp only[qA (l.slice d),tV];cases g with|QZ a=>rfl);(rename_i β xS off m;have d: ∃e,ti.td= .slice e:=by cases h:ti.td<;>simp[KC,h]at j |-);obtain⟨e,d⟩:=d;simp only[qA (l.slice d),tV];split at f;rename_i q p es i;split at f<;>cases f;rename_i o;obtain⟨a,c,rfl,_⟩:=g.MB hi i o;rfl;rename_i p es i;split at f<;>cases f;rename_i o;obtain⟨a,c,rfl⟩:=g.arow_len i o;rfl;rename_i q ds es ZS i;split at f<;>cases f;rename_i o;obtain⟨a,c,rfl⟩:=g.orow_len hi i o;rfl;cases f;(rename_i β;split at f<;>cases f;rename_i es xf i;have d: ∃k e,ti.td= .map k e:=by cases h:ti.td<;>simp[KC,h]at j |-);(obtain⟨k,e,d⟩:=d;simp only[qA (l.map d),tV];cases g with|map _ Ze YP kq=>(obtain⟨r,y,u,h3⟩:=hi.d5 β _ i;have:(getObj (ι β).b).run P w= .ok (.map ⟨r⟩ xf) w:=by simp[getObj,S_,y]);simp only[w9,this,tV];simp[goInt,u]);cases f
theorem OS{op:BinOp}{k:IntKind}{x y:Int}{p:PV}(Kx:op≠ .shl/\op≠ .shr)(t:U)(a:NJ op k x y=Z p):
  ∃u,(binOp op t (.int k x) (.int k y)).run P w= .ok u w/\RP w Im p u:=by
 unfold NJ at a;cases op<;>simp only[reduceCtorEq]at a;case add=>cases a;exact⟨.int k (k.wrap (x+y)),by simp[binOp,Op.intArith],.int _ _⟩
 case sub=>cases a;exact⟨.int k (k.wrap (x-y)),by simp[binOp,Op.intArith],.int _ _⟩
 case mul=>cases a;exact⟨.int k (k.wrap (x*y)),by simp[binOp,Op.intArith],.int _ _⟩
 case quo=>split at a<;>cases a;rename_i b;exact⟨.int k (k.wrap (x.tdiv y)),by simp[binOp,Op.intDiv,b],.int _ _⟩
 case rem=>split at a<;>cases a;rename_i b;exact⟨.int k (x.tmod y),by simp[binOp,Op.intDiv,b],.int _ _⟩
 case eql=>cases a;exact⟨.bool (x==y),by simp[binOp,Op.intCmp],.bool _⟩
 case neq=>cases a;exact⟨.bool (x != y),by simp[binOp,Op.intCmp],.bool _⟩
 case lss=>cases a;exact⟨.bool (decide (x<y)),by simp[binOp,Op.intCmp],.bool _⟩
 case leq=>cases a;exact⟨.bool (decide (x<=y)),by simp[binOp,Op.intCmp],.bool _⟩
 case gtr=>cases a;exact⟨.bool (decide (x>y)),by simp[binOp,Op.intCmp],.bool _⟩
 case geq=>cases a;exact⟨.bool (decide (x>=y)),by simp[binOp,Op.intCmp],.bool _⟩
 case and=>cases a;exact⟨_,by simp[binOp,Op.intBits],.int _ _⟩
 case or=>cases a;exact⟨_,by simp[binOp,Op.intBits],.int _ _⟩
 case xor=>cases a;exact⟨_,by simp[binOp,Op.intBits],.int _ _⟩
 case andNot=>cases a;exact⟨_,by simp[binOp,Op.intBits],.int _ _⟩
theorem rY: ∀a b:W UInt8,Op.bytesLess a b=wu a b
 |[],[]=>rfl
 |_::_,[]=>rfl
 |[],_::_=>rfl
 |a::x,b::y=>by simp[Op.bytesLess,wu,rY x y]
theorem q0t{op:BinOp}{x y:W UInt8}{p:PV}(t:U)(a:MM op x y=Z p):
  ∃u,(binOp op t (.string ⟨⟨x⟩⟩) (.string ⟨⟨y⟩⟩)).run P w= .ok u w/\RP w Im p u:=by
 unfold MM at a;cases op<;>simp only[reduceCtorEq]at a
 case add=>
  split at a<;>cases a;rename_i hl;refine⟨.string ⟨⟨x++y⟩⟩, ?_,.str _⟩;have b:(ByteArray.mk ⟨x⟩++ByteArray.mk ⟨y⟩:ByteArray)=⟨⟨x++y⟩⟩:=by
   apply ByteArray.ext;apply I!;simp
  simp[binOp,Op.stringOp,b];show(x.length:Int)+(y.length:Int)<=_;omega
 case eql=>cases a;exact⟨.bool (x==y),by simp[binOp,Op.stringOp],.bool _⟩
 case neq=>cases a;exact⟨.bool (!(x==y)),by simp[binOp,Op.stringOp],.bool _⟩
 case lss=>cases a;exact⟨.bool (wu x y),by simp[binOp,Op.stringOp,rY],.bool _⟩
 case leq=>cases a;exact⟨.bool (wu x y || x==y),by simp[binOp,Op.stringOp,rY],.bool _⟩
 case gtr=>cases a;exact⟨.bool (!(wu x y || x==y)),by simp[binOp,Op.stringOp,rY],.bool _⟩
 case geq=>cases a;exact⟨.bool (!wu x y),by simp[binOp,Op.stringOp,rY],.bool _⟩
theorem aUn_ok{op:UnOp}{x:AV}{v:V}(b:RA w H ι Im x v){p:PV}(a:aUn op x=Z p): ∃u,(Op.unary op v).run P w= .ok u w/\RP w Im p u:=by unfold aUn at a;split at a<;>cases a;(cases b with|pv _ _ h=>cases h;exact⟨_,by simp[Op.unary],.bool _⟩);cases b with|pv _ _ h=>cases h;exact⟨_,by simp[Op.unary,Op.intArith],.int _ _⟩
theorem Ur(isMax:C)(k:IntKind): ∀(l:W AV)(a:Int)(c:W V),l.length=c.length->(∀(i:Y) x v,l[i]? =Z x->c[i]? =Z v->RA w H ι Im x v)->
  ∀{p:PV},Zl isMax k a l=Z p-> ∃u,(c.foldlM (if isMax then N.max2 else N.min2) (.int k a)).run P w= .ok u w/\RP w Im p u
 |[],a,c,hl,_,p,h=>by
  have:c=[]:=by simpa using hl.symm
  subst this;cases h;exact⟨.int k a,z?,.int _ _⟩
 |x::r,a,c,hl,d,p,h=>by
  cases c with
  |nil=>simp at hl
  |cons v e=>
   have g:=d 0 x v z? z?;cases x with
   |pv f=>cases f with
    |int k' b=>
     simp only[Zl]at h;cases g with
     |pv _ _ j=>cases j with
      |int=>
       obtain⟨u,g1,g2⟩:=Ur isMax k r _ e (by simpa using hl) (λi x v n m=>d (i+1) x v (by simpa using n) (by simpa using m)) h;refine⟨u, ?_,g2⟩;cases isMax
       ·simp only[vH,if_false,q16,w9,N.min2,H?,tV]at g1 |-;exact g1
       simp only[if_true,q16,w9,N.max2,H?,tV]at g1 |-;exact g1
    |_=>simp[Zl]at h
   |_=>simp[Zl]at h
theorem xq.ptr{t:U}{ti:TI}(b:xq P t ti)(h:ti.td= .ptr): ∃e,P.underlying t=Z (.pointer e):=by obtain⟨d,c,a⟩:=b.und;rw[h]at a;cases d<;>simp[VZ]at a;exact⟨_,c⟩
theorem xq.func{t:U}{ti:TI}(f:xq P t ti)(h:ti.td= .func): ∃a b c,P.underlying t=Z (.func a b c):=by obtain⟨d,g,e⟩:=f.und;rw[h]at e;cases d<;>simp[VZ]at e;exact⟨_,_,_,g⟩
theorem MF{t:U}{ti:TI}(a:xq P t ti)(h:ti.isAgg=F):P.cellsOf t=1:=by
 rw[a.cellsOf];obtain⟨i,z,h1,h2,h3,h4,c,f⟩:=a.info;have hl:=a.len;have d:JL z=F:=by rw[f];unfold q1h at h;unfold TD.isAgg;exact h
 have e:z.cells= #[z]:=by cases z<;>simp[JL]at d<;>rfl
 rw[e]at c;have b :Qh [z]=Z ti.zero:=c;have one: ∀l,Qh [z]=Z l->l.length=1:=by intro l h;unfold Qh at h;split at h<;>cases h;rename_i p l e1 e2;unfold Qh at e2;cases e2;rfl
 rw[<- hl];exact one _ b
theorem Gz{G:U->B TI}(hG: ∀t ti,G t=Z ti->xq P t ti)(d:Y)(o m:A V): ∀(X:W Field)(i:Y)(a b:W PV),
  l6 P i X=T->oS G (X.map λf=>(f.offset,P.cellsOf f.type,f.type)) a=T->
  (∀(j:Y) p v,a[j]? =Z p->o[i+j]? =Z v->RP w Im p v)->(∀(j:Y) p v,b[j]? =Z p->m[i+j]? =Z v->RP w Im p v)->
  i+a.length<=o.size->i+b.length<=m.size-> ∀{r:C},ny a b=Z r->(Op.eqFields (d+1) o m X).run P w= .ok r w
 |[],i,a,b,_,hl,_,_,_,_,r,h=>by cases a with|cons p a=>simp[oS]at hl|nil=>cases b<;>simp[ny]at h;subst h;simp[Op.eqFields]
 |f::X,i,a,b,hp,hl,ha,hb,hxs,hys,r,h=>by
  simp only[l6,xn,bne_iff_ne,ne_eq,beq_iff_eq]at hp;obtain⟨⟨hn,ZN⟩,hp⟩:=hp;cases a with
  |nil=>simp[oS]at hl
  |cons p a=>
  simp only[e?,oS,xn]at hl;obtain⟨ND,hl⟩:=hl;split at ND;rotate_left
  ·cases ND
  rename_i c htif;have l:=hG _ _ htif;cases b with
  |nil=>cases p<;>simp[ny]at h
  |cons q b=>
  simp only[b?]at hxs hys;obtain⟨x,hx⟩: ∃x,o[i]? =Z x:=⟨o[i]'(o?),z?⟩;obtain⟨y,hy⟩: ∃y,m[i]? =Z y:=⟨m[i]'(o?),z?⟩;have Q:=ha 0 p x z? (by simpa using hx);have L:=hb 0 q y z? (by simpa using hy);have z:c.isAgg=F:=by
   unfold q1h;cases e:c.td<;>simp[kV,e]at ND |-
  rw[MF l z]at hp;have rest: ∀{t:C},ny a b=Z t->(Op.eqFields (d+1) o m X).run P w= .ok t w:=λE=>
   Gz hG d o m X (i+1) a b hp hl (λj p v h1 h2=>ha (j+1) p v (by simpa using h1) (by rwa[show i+(j+1)=i+1+j from o?]))
    (λj p v h1 h2=>hb (j+1) p v (by simpa using h1) (by rwa[show i+(j+1)=i+1+j from o?])) o? o? E
  have g: ∀(cs:A V)(v:V),cs[i]? =Z v->(part f.type cs f.offset).run P w= .ok v w:=by
   intro cs v hv;unfold part;simp only[ZN,w9,l.isAgg,z,tV,vH,if_false,hv,H?]
  have step: ∀(t u:C),(Op.equalIn (d+1) f.type x y).run P w= .ok t w->ny a b=Z u->(Op.eqFields (d+1) o m (f::X)).run P w= .ok (t&&u) w:=by
   intro t u h1 h2;simp only[Op.eqFields,hn,not_false_eq_true,ne_eq,if_true,w9,g o x hx,g m y hy,tV,h1];cases t
   ·simp
   simp[rest h2]
  cases p with
  |int k n=>cases q with
   |int k' n' =>
    simp only[ny]at h;split at h;rotate_left
    ·cases h
    rename_i hk;subst hk;split at h<;>cases h;rename_i t E;refine step _ _ ?_ E;cases Q;cases L;obtain⟨k0,e⟩: ∃k0,c.td= .int k0:=by cases e:c.td<;>simp[kV,e]at ND |-
    exact run_equalIn_int w d f.type k k0 n n' (l.int e)
   |_=>simp[ny]at h
  |str s=>cases q with
   |str s' =>
    simp only[ny]at h;split at h<;>cases h;rename_i t E;refine step _ _ ?_ E;cases Q;cases L;have e:c.td= .string:=by cases e:c.td<;>simp[kV,e]at ND |-
    have:=run_equalIn_string w d f.type ⟨⟨s⟩⟩ ⟨⟨s'⟩⟩ (l.string e);simpa using this
   |_=>simp[ny]at h
  |bool x1=>cases q with
   |bool x2=>
    simp only[ny]at h;split at h<;>cases h;rename_i t E;refine step _ _ ?_ E;cases Q;cases L;have e:c.td= .bool:=by cases e:c.td<;>simp[kV,e]at ND |-
    exact run_equalIn_bool' w d f.type x1 x2 (l.bool e)
   |_=>simp[ny]at h
  |_=>simp[ny]at h
def JD:V->C
 | .bool _| .agg _| .slice _ _ _| .pointer _| .map _| .func _ _ _| .nilFunc=>T
 |_=>F
theorem binOp_eql{t:U}{x y:V}(h:JD x=T):(binOp .eql t x y).run P w=((Op.equal t x y).run P w).andThen λb w' => .ok (.bool b) w' :=by cases x<;>simp[JD]at h<;>simp[binOp]
theorem binOp_neq{t:U}{x y:V}(h:JD x=T):(binOp .neq t x y).run P w=((Op.equal t x y).run P w).andThen λb w' => .ok (.bool (!b)) w' :=by cases x<;>simp[JD]at h<;>simp[binOp]
theorem Jl(d:Y){t e:U}(hu:P.underlying t=Z (.slice e))(a:B Addr)(n c b f :Y):
  (Op.equalIn (d+1) t (.slice a n c) (.slice R b f)).run P w= .ok a.isNone w/\(Op.equalIn (d+1) t (.slice R b f) (.slice a n c)).run P w= .ok a.isNone w:=by cases a<;>simp[Op.equalIn,qA hu]
theorem V2(d:Y){t e:U}(hu:P.underlying t=Z (.pointer e))(a:B Addr):
  (Op.equalIn (d+1) t (.pointer a) (.pointer R)).run P w= .ok a.isNone w/\(Op.equalIn (d+1) t (.pointer R) (.pointer a)).run P w= .ok a.isNone w:=by cases a<;>simp[Op.equalIn,qA hu]
theorem V1(d:Y){t k e:U}(hu:P.underlying t=Z (.map k e))(a:B Y):
  (Op.equalIn (d+1) t (.map a) (.map R)).run P w= .ok a.isNone w/\(Op.equalIn (d+1) t (.map R) (.map a)).run P w= .ok a.isNone w:=by cases a<;>simp[Op.equalIn,qA hu]
theorem Zd(d:Y){t:U}{g e c}(hu:P.underlying t=Z (.func g e c))(f:Fn)(a b:A V):
  (Op.equalIn (d+1) t (.func f a b) .nilFunc).run P w= .ok F w/\(Op.equalIn (d+1) t .nilFunc (.func f a b)).run P w= .ok F w/\
  (Op.equalIn (d+1) t .nilFunc .nilFunc).run P w= .ok T w:=by simp[Op.equalIn,qA hu]
theorem aEq_ok{G:U->B TI}(hG: ∀t ti,G t=Z ti->xq P t ti){t:U}{ti:TI}(ht:xq P t ti)(hi:zr w H ι Im){x y:AV}{L X:V}
  (hx:RA w H ι Im x L) (hy:RA w H ι Im y X) (ox oy:Operand) {r:C} (E:aEq G ti x y H=Z r):
  (eqGuard .eql t ox oy L X).run P w= .ok () w/\(eqGuard .neq t ox oy L X).run P w= .ok () w/\(Op.equal t L X).run P w= .ok r w/\JD L=T:=by
 have fB: ∀(L X:V),(∀ c d,¬ (L= .agg c/\X= .agg d))-> ¬(L= .nilIface/\X= .nilIface)-> ∀op,(eqGuard op t ox oy L X).run P w= .ok () w:=by intro L X h1 h2 op;unfold eqGuard;cases L<;>cases X<;>simp_all
 unfold aEq at E;split at E;(rename_i i;split at E<;>cases E;rename_i b1 b2;cases hx with|pv _ _ hx=>cases hy with|pv _ _ hy=>cases hx;cases hy;refine⟨fB _ _ z? z? _,fB _ _ z? z? _, ?_⟩;exact⟨run_equalIn_bool' w 9999 t b1 b2 (ht.bool i),rfl⟩)
 ·rename_i fs i;obtain⟨fields,hu,rfl⟩:=ht.struct i;split at E;rotate_left;cases E;rename_i a b;split at E;rotate_left;cases E
  rename_i hc;obtain⟨heq,fp⟩:=hc;have u:=ht.eqk;rw[heq]at u;have u:=u.symm;unfold eqok at u;rw[hu]at u;simp only[xn,C.not_eq_true']at u;obtain⟨⟨e1,e2⟩,e3⟩:=u;cases hx with|pv _ _ hx=>cases hy with|pv _ _ hy=>
  cases hx with|agg _ xs hlx _ hxx=>cases hy with|agg _ ys hly _ hyy=>
  (refine⟨run_eqGuard_agg w .eql t ox oy _ _ e2,run_eqGuard_agg w .neq t ox oy _ _ e2, ?_,rfl⟩;have hfo:P.underlying t=Z (.struct (P.fieldsOf t)):=by simp[D.fieldsOf,hu]);have hfe:P.fieldsOf t=fields:=by simp[D.fieldsOf,hu]
  have:=run_equalIn_struct w 9999 t ⟨xs⟩ ⟨ys⟩ hfo e1;unfold Op.equal;show(Op.equalIn (9999+1) t _ _).run P w=_;rw[this,hfe];exact Gz hG 9998 ⟨xs⟩ ⟨ys⟩ fields.toList 0 a b e3 fp (λj p v h1 h2=>hxx j p v h1 (by simpa using h2)) (λj p v h1 h2=>hyy j p v h1 (by simpa using h2))
   (by simp[hlx]) (by simp[hly]) E
 rename_i td hnb OG;have Q: ∀{z:AV}{l:V},RA w H ι Im z l-> ∀{q:C},ea ti.td z H=Z q->
   (∃ e,ti.td= .slice e/\ ∃a n c,l= .slice a n c/\a.isNone=q)\/(ti.td= .ptr/\ ∃a,l= .pointer a/\a.isNone=q)\/
   ((∃ k e,ti.td= .map k e)/\ ∃a,l= .map a/\a.isNone=q)\/(ti.td= .func/\((l= .nilFunc/\q=T)\/ ∃f a b,l= .func f a b/\q=F)):=by
  intro z l s q o;unfold ea at o;split at o
  ·rename_i i;refine .inr (.inl ⟨i, ?_⟩);split at o<;>cases o
   ·cases s with|pv _ _ h=>cases h;exact⟨_,rfl,rfl⟩
   ·cases s;exact⟨_,rfl,rfl⟩
   ·cases s;exact⟨_,rfl,rfl⟩
   ·cases s;exact⟨_,rfl,rfl⟩
   cases s with|pv _ _ h=>cases h;exact⟨_,rfl,rfl⟩
  ·rename_i e i;refine .inl ⟨e,i, ?_⟩;split at o
   ·cases o;cases s with|pv _ _ h=>
    cases h
    ·exact⟨_,_,_,rfl,rfl⟩
    exact⟨_,_,_,rfl,rfl⟩
   ·cases o;cases s;exact⟨_,_,_,rfl,rfl⟩
   ·rename_i β xS off n;split at o;rotate_left
    ·cases o
    rename_i qx sz es hb;split at o<;>cases o;rename_i hv;obtain⟨a,c,rfl,hn⟩:=s.MB hi hb hv;exact⟨_,_,_,rfl,hn⟩
   cases o
  ·rename_i k e i;refine .inr (.inr (.inl ⟨⟨k,e,i⟩, ?_⟩));split at o<;>cases o
   ·cases s with|pv _ _ h=>cases h;exact⟨_,rfl,rfl⟩
   cases s;exact⟨_,rfl,rfl⟩
  ·rename_i i;refine .inr (.inr (.inr ⟨i, ?_⟩));split at o<;>cases o
   ·cases s with|pv _ _ h=>cases h;exact .inl ⟨rfl,rfl⟩
   ·cases s with|pv _ _ h=>cases h;exact .inr ⟨_,_,_,rfl,rfl⟩
   cases s;exact .inr ⟨_,_,_,rfl,rfl⟩
  cases o
 have isNil: ∀{z:AV}{l:V},RA w H ι Im z l->Ul ti.td z=T->ea ti.td z H=Z T:=by intro z l s h;unfold Ul at h;split at h<;>rename_i h1<;>first|(rw [h1];rfl)|cases h
 have main: ∀{z z' :AV}{l m :V},RA w H ι Im z l->RA w H ι Im z' m ->ea ti.td z H=Z r->ea ti.td z' H=Z T->
   (∀ c d,¬ (l= .agg c/\m = .agg d))/\(∀ c d,¬ (m = .agg c/\l= .agg d))/\ ¬(l= .nilIface/\m = .nilIface)/\ ¬(m = .nilIface/\l= .nilIface)/\
   (Op.equal t l m).run P w= .ok r w/\(Op.equal t m l).run P w= .ok r w/\JD l=T/\JD m =T:=by
  intro z z' l m s hz' h1 h2;have g1:=Q s h1;have g2:=Q hz' h2;unfold Op.equal;rcases g1 with ⟨e,i,a,n,c,rfl,hn⟩|⟨i,a,rfl,hn⟩|⟨⟨k,e,i⟩,a,rfl,hn⟩|⟨i,g1⟩
  ·rcases g2 with ⟨e',g,a',n',c',rfl,OE⟩|⟨g,_⟩|⟨⟨k',e',g⟩,_⟩|⟨g,_⟩;rotate_left
   ·rw[i]at g;cases g
   ·rw[i]at g;cases g
   ·rw[i]at g;cases g
   have:a' =R:=by simpa using OE
   subst this hn;exact⟨z?,z?,z?,z?,(Jl 9999 (ht.slice i) a n c n' c').1,(Jl 9999 (ht.slice i) a n c n' c').2,rfl,rfl⟩
  ·obtain⟨e,hu⟩:=ht.ptr i;rcases g2 with ⟨e',g,_⟩|⟨g,a',rfl,OE⟩|⟨⟨k',e',g⟩,_⟩|⟨g,_⟩
   ·rw[i]at g;cases g
   rotate_left
   ·rw[i]at g;cases g
   ·rw[i]at g;cases g
   have:a' =R:=by simpa using OE
   subst this hn;exact⟨z?,z?,z?,z?,(V2 9999 hu a).1,(V2 9999 hu a).2,rfl,rfl⟩
  ·rcases g2 with ⟨e',g,_⟩|⟨g,_⟩|⟨⟨k',e',g⟩,a',rfl,OE⟩|⟨g,_⟩
   ·rw[i]at g;cases g
   ·rw[i]at g;cases g
   rotate_left
   ·rw[i]at g;cases g
   have:a' =R:=by simpa using OE
   subst this hn;exact⟨z?,z?,z?,z?,(V1 9999 (ht.map i) a).1,(V1 9999 (ht.map i) a).2,rfl,rfl⟩
  obtain⟨p1,p2,p3,hu⟩:=ht.func i;rcases g2 with ⟨e',g,_⟩|⟨g,_⟩|⟨⟨k',e',g⟩,_⟩|⟨g,g2⟩
  ·rw[i]at g;cases g
  ·rw[i]at g;cases g
  ·rw[i]at g;cases g
  rcases g2 with ⟨rfl,_⟩|⟨_,_,_,_,h⟩;rotate_left
  ·cases h
  rcases g1 with ⟨rfl,rfl⟩|⟨f,a,b,rfl,rfl⟩
  ·have:=(Zd (P:=P) (w:=w) 9999 hu (.func 0) #[] #[]).2.2;exact⟨z?,z?,z?,z?,this,this,rfl,rfl⟩
  exact⟨z?,z?,z?,z?,(Zd 9999 hu f a b).1,(Zd 9999 hu f a b).2.1,rfl,rfl⟩
 split at E;rename_i hn;obtain⟨m1,m2,m3,m4,m5,m6,m7,m8⟩:=main hx hy E (isNil hy hn);exact⟨fB _ _ m1 m3 _,fB _ _ m1 m3 _,m5,m7⟩;split at E;rename_i hn;obtain⟨m1,m2,m3,m4,m5,m6,m7,m8⟩:=main hy hx E (isNil hx hn);exact⟨fB _ _ m2 m4 _,fB _ _ m2 m4 _,m6,m8⟩;cases E
theorem aBin_ok{G:U->B TI}(q: ∀t ti,G t=Z ti->xq P t ti){t:U}{ti:TI}(o:xq P t ti)(hi:zr w H ι Im){x y:AV}{l j:V}
  (e:RA w H ι Im x l) (d:RA w H ι Im y j) (op:BinOp) (h g:Operand) {p:PV} (c:Cg G op ti x y H=Z p):
  ∃u,(eqGuard op t h g l j).run P w= .ok () w/\(binOp op t l j).run P w= .ok u w/\RP w Im p u:=by
 have n: ∀(k i :IntKind)(a b:Int)(op:BinOp),(eqGuard op t h g (.int k a) (.int i b)).run P w= .ok () w:=by intro k i a b op;unfold eqGuard;cases op<;>simp
 have f: ∀(a b:ByteArray)(op:BinOp),(eqGuard op t h g (.string a) (.string b)).run P w= .ok () w:=by intro a b op;unfold eqGuard;cases op<;>simp
 unfold Cg at c;split at c;{split at c;rotate_left;cases c;rename_i k a i b;split at c<;>cases c;rename_i z;cases e with|pv _ _ e=>cases d with|pv _ _ d=>cases e;cases d;have: ¬b<0:=o?;exact⟨_,n _ _ _ _ _,by simp[binOp,Op.shift,this],.int _ _⟩};{split at c;rotate_left;cases c;rename_i k a i b;split at c<;>cases c;rename_i z;cases e with|pv _ _ e=>cases d with|pv _ _ d=>cases e;cases d;have: ¬b<0:=o?;exact⟨_,n _ _ _ _ _,by simp[binOp,Op.shift,this],.int _ _⟩};rename_i v s;split at c;{rename_i k a i b;split at c;rotate_left;cases c;rename_i r;subst r;cases e with|pv _ _ e=>cases d with|pv _ _ d=>cases e;cases d;obtain⟨u,g1,g2⟩:=OS (P:=P) (w:=w) (Im:=Im) ⟨v,s⟩ t c;exact⟨u,n _ _ _ _ _,g1,g2⟩};(cases e with|pv _ _ e=>cases d with|pv _ _ d=>cases e;cases d;obtain⟨u,g1,g2⟩:=q0t (P:=P) (w:=w) (Im:=Im) t c;exact⟨u,f _ _ _,g1,g2⟩);rename_i x y hni OG;split at c;split at c<;>cases c;rename_i b m;obtain⟨g1,g2,g3,g4⟩:=aEq_ok q o hi e d h g m;exact⟨.bool b,g1,by rw[binOp_eql g4,g3];rfl,.bool _⟩;split at c<;>cases c;rename_i b m;obtain⟨g1,g2,g3,g4⟩:=aEq_ok q o hi e d h g m;exact⟨.bool (!b),g2,by rw[binOp_neq g4,g3];rfl,.bool _⟩;cases c
end
section
variable [xY] {P:D} {w:World} {H:qt} {ι:uT} {Im:Y->Prop}
theorem RA.nZ{p:PV}{v:V}(h:RA w H ι Im (.pv p) v):RP w Im p v:=by cases h;assumption
theorem YI: ∀(es:W (W PV))(l:W UInt8),s7 es=Z l-> ∀(cs:Y->B V)(k:Y),(∀(i:Y) e(j:Y) p,es[i]? =Z e->e[j]? =Z p-> ∃v,cs (k+i)=Z v/\RP w Im p v/\j=0)->
  es.length=l.length/\ ∀i,i<es.length-> ∃n:Int,cs (k+i)=Z (.int .u8 n)/\l[i]? =Z (UInt8.ofNat n.toNat)
 |[],l,h,cs,k,_=>by simp only[s7,wO]at h;subst h;simp
 |e::r,l,h,cs,k,d=>by
  unfold s7 at h;split at h;cases ‹_::_=[]›
  ·rename_i n r' c;obtain⟨rfl,rfl⟩:e=[.int .u8 n]/\r=r' :=by simpa using c
   split at h<;>cases h;rename_i g hl;obtain⟨o,m⟩:=YI r g hl cs (k+1) (λi e j p a b=>by
    have:=d (i+1) e j p (by simpa using a) b
    rwa[show k+(i+1)=k+1+i from o?]at this)
   refine⟨by simp[o],λi hi=>?_⟩;cases i with|zero=>obtain⟨v,g1,g2,_⟩:=d 0 [.int .u8 n] 0 (.int .u8 n) z? z?;cases g2;exact⟨n,g1,z?⟩|succ i=>simp only[b?]at hi;obtain⟨f,g1,g2⟩:=m i o?;exact⟨f,by rwa[show k+(i+1)=k+1+i from o?],by simpa using g2⟩
  cases h
theorem Js(g:Value->ByteArray->Sem (ForInStep ByteArray))(hg: ∀n s,g (.int .u8 n) s=pure (.yield (s.push (UInt8.ofNat n.toNat)))):
  ∀(l:List Value)(acc:ByteArray)(out:List UInt8),l.length=out.length->
  (∀(i:Nat) v b,l[i]? =some v->out[i]? =some b-> ∃n:Int,v= .int .u8 n/\b=UInt8.ofNat n.toNat)->
  (forIn l acc g).run P w= .ok ⟨⟨acc.data.toList++out⟩⟩ w
 |[],acc,out,hl,_=>by (have:out=[]:=by simpa using hl.symm);subst this;simp
 |v::r,acc,out,hl,h=>by cases out with|nil=>simp at hl|cons b out=>obtain⟨n,rfl,rfl⟩:=h 0 v b z? z?;have ih:=Js g hg r (acc.push (UInt8.ofNat n.toNat)) out (by simpa using hl) (λi v b h1 h2=>h (i+1) v b (by simpa using h1) (by simpa using h2));simp only[List.forIn_cons,hg,w9,Sem.run_pure,tV,ih];simp
theorem Tm{src dst:U}{d1:TypeDesc}{k:IntKind}(c:P.underlying src=Z d1)(b:P.underlying dst=Z (.int k))(a:IntKind)(n:Int):
  (convert src dst (.int a n)).run P w= .ok (.int k (k.wrap n)) w:=by unfold convert;simp only[w9,qA c,qA b,tV];rfl
theorem Tn{src dst:U}{d1:TypeDesc}(b:P.underlying src=Z d1)(a:P.underlying dst=Z .string)(s:ByteArray):
  (convert src dst (.string s)).run P w= .ok (.string s) w:=by unfold convert;simp only[w9,qA b,qA a,tV];rfl
theorem HN{src dst e:U}(f:P.underlying src=Z (.slice e))(d:P.underlying dst=Z .string)(b:P.underlying e=Z (.int .u8))(a:B Addr)(n c:Y):
  (convert src dst (.slice a n c)).run P w=(Conv.bytesToString (.slice a n c)).run P w:=by unfold convert;simp only[w9,qA f,qA d,tV,qA b]
theorem VB{src dst e:U}{d1:TypeDesc}(c:P.underlying src=Z d1)(b:P.underlying dst=Z (.slice e))(a:P.underlying e=Z (.int .u8))(s:ByteArray):
  (convert src dst (.string s)).run P w=(Conv.stringToBytes e s).run P w:=by unfold convert;simp only[w9,qA c,qA b,tV,qA a]
theorem xq.undS{t:U}{ti:TI}(a:xq P t ti): ∃d,P.underlying t=Z d:=by obtain⟨d,h,_⟩:=a.und;exact⟨d,h⟩
theorem PN{G:TypeId->Option TI}(hG: ∀t ti,G t=some ti->xq P t ti){src dst:TypeId}{ts td:TI}(hs:xq P src ts)(hd:xq P dst td)
  (hi:zr w H ι Im) {nx:Nat} {X:Nat->Prop} (jN:Bd X H nx) {x:AV} {v:Value} (hx:RA w H ι Im x v) {r:ru} (hr:db ts.td td.td G x H nx=some r) (hX: ∀γ,X γ->r.2.2<=γ):
  ∃u w',(convert src dst v).run P w= .ok u w' /\cp X w H ι Im nx r u w' :=by
 obtain⟨d1,hu1⟩:=hs.undS;unfold db at hr;split at hr;rename_i k kd n kx;cases hr;have h:=hx.nZ;cases h;exact⟨.int k (k.wrap n),w,Tm hu1 (hd.int kx) _ _,cp.pure hi jN (.pv _ _ (.int _ _))⟩;rename_i s kx;cases hr;have h:=hx.nZ;cases h;exact⟨_,w,Tn hu1 (hd.string kx) _,cp.pure hi jN (.pv _ _ (.str _))⟩
 ·rename_i e OG htd1 htd2;split at hr;rotate_left;cases hr;rename_i te eg;have ft:=hG _ _ eg;split at hr;rotate_left;cases hr;rename_i htde;split at hr;rotate_left;cases hr;rename_i d7 es dn;split at hr;rotate_left;cases hr;(rename_i OO;split at hr<;>cases hr;rename_i l hl;have hsl: ∃a n c,v= .slice a n c:=by unfold gj at dn;split at dn;have h:=hx.nZ;cases h<;>exact⟨_,_,_,rfl⟩;cases hx;exact⟨_,_,_,rfl⟩;{rename_i β xS off n;split at dn;rotate_left;cases dn;rename_i qx sz Ze hb;split at dn;rotate_left;cases dn;rename_i hv;obtain⟨a,c,h,_⟩:=hx.MB hi hb hv;exact⟨_,_,_,h⟩};rename_i s;exact absurd rfl (by first|exact OG _|exact htd1 _|exact htd2 _|skip);cases dn);obtain⟨a,n,c,rfl⟩:=hsl;obtain⟨l1,l2⟩:=cF (P:=P) hi hx dn;obtain⟨cs,f1,f2,f3⟩:=l2 1 OO;have hn:n=es.length:=by simp[Builtin.lenOf]at l1;exact l1
  subst hn;obtain⟨k1,k2⟩:=YI (w:=w) (Im:=Im) es l hl (λi=>cs[i]?) 0 (λi e j p q1 q2=>by
   obtain⟨v0,g1,g2⟩:=f3.2.2 i e j p q1 q2
   have h1:=f3.1 e (zj q1)
   have h2:=(qK q2).1
   have:j=0:=o?
   subst this
   exact⟨v0,by simpa using g1,g2,rfl⟩)
  refine⟨.string ⟨⟨l⟩⟩,w, ?_,cp.pure hi jN (.pv _ _ (.str _))⟩;rw[HN (hs.slice ‹_›) (hd.string ‹_›) (ft.int htde)];unfold Conv.bytesToString;cases a with
   |none=>(have AD:cs= #[]:=by simp[Builtin.firstCells]at f1;first|exact f1.symm|exact f1);(subst AD;have:es=[]:=by (have:es.length=0:=by simpa using f2.symm);simpa using this);(subst this;have:l=[]:=by simpa using k1.symm);subst this;rfl
   |some a=>
    have hld:(loadCells a es.length).run P w= .ok cs w:=by simpa[Builtin.firstCells]using f1
    have AD:cs.toList.length=l.length:=v?;have:=λg hg=>Js (P:=P) (w:=w) g hg cs.toList ByteArray.empty l AD (λi v b q1 q2=>by
     have lG:i<es.length:=by
      have:=(qK q1).1
      omega
     obtain⟨m,g1,g2⟩:=k2 i lG
     have q1' :cs[i]? =some v:=by simpa using q1
     simp only[Nat.zero_add,q1']at g1
     rw[q2]at g2
     exact⟨m,Option.some.inj g1,Option.some.inj g2⟩)
    simp only[w9,hld,tV];rw[<- Array.forIn_toList,this _ (λn s=>rfl)];rfl
 ·rename_i e s kx;split at hr;rotate_left;cases hr;rename_i te eg;have ft:=hG _ _ eg;split at hr<;>cases hr;rename_i htde;have h:=hx.nZ;cases h;let cap:Nat:=Question.cut (.appendCap s.length 0 e) (w.tape w.drawn (.appendCap s.length 0 e));(have VJ:s.length<=cap:=by simp[cap,Question.cut]);let cs:Array Value:=(⟨s⟩:Array UInt8).map (λb=>Value.int .u8 b.toNat)++Array.replicate (cap-s.length) (.int .u8 0);(have rj:cs.size=cap:=by simp[cs];omega);refine⟨.slice (some ⟨w.heap.size,0,none⟩) s.length cap, { yN w with heap:=w.heap.push (.cells cs e (cs.size,cs.size+1)) }, ?_, ?_⟩;(rw[VB hu1 (hd.slice kx) (ft.int htde)];unfold Conv.stringToBytes;have HT:(choose (Question.appendCap (ByteArray.mk ⟨s⟩).size 0 e)).run P w= .ok cap (yN w):=by have:(ByteArray.mk ⟨s⟩).size=s.length:=rfl;rw[this];simp[choose,Sem.run,Question.forced,cap,yN]);(have hmark:(markStringish ⟨w.heap.size,0,none⟩).run P { yN w with heap:=w.heap.push (.cells cs e) }= .ok () { yN w with heap:=w.heap.push (.cells cs e (cs.size,cs.size+1)) }:=by (unfold markStringish;have h1:(World.shape? { yN w with heap:=w.heap.push (.cells cs e) } w.heap.size)=some (e,cs.size):=by simp[World.shape?]);simp only[w9,run_shape,tV,h1,run_freeze];simp[World.freeze,yN];apply Array.ext;simp;intro i h1 h2;simp at h1;simp only[Array.getElem_modify,Array.getElem_push];split;rename_i h;subst h;simp;rename_i h;simp[show i<w.heap.size from o?]);have e1:(ByteArray.mk ⟨s⟩).size=s.length:=rfl;simp only[w9,HT,tV,newRow,run_newObj,Sem.run_pure];have e2:(yN w).heap=w.heap:=rfl;simp only[e2,e1];have:=hmark;simp only[cs,e1]at this |-;rw[this];rfl
  have:=Yd hi jN (l5 hX) 1 (s.map λb=>[PV.int .u8 b.toNat]) cs e (cs.size,cs.size+1) cap { yN w with heap:=w.heap.push (.cells cs e (cs.size,cs.size+1)) } rfl ⟨rfl,rfl⟩
   ⟨z?,λi gS h=>by simp at h;omega⟩ o? (by simp[rj]) (by simpa using VJ) (by
    refine⟨λe0 P6=>?_,λi e0 j p q1 q2=>?_,λi e0 j p q1 q2=>?_⟩
    ·simp only[List.mem_map]at P6
     obtain⟨b,_,rfl⟩:=P6
     rfl
    ·simp only[List.getElem?_map,gD]at q1
     obtain⟨b,_,rfl⟩:=q1
     cases j with
     |zero=>simp at q2;subst q2;rfl
     |succ j=>simp at q2
    simp only[List.getElem?_map,gD]at q1
    obtain⟨b,hb,rfl⟩:=q1
    cases j with
    |zero=>
     simp at q2
     subst q2
     refine⟨.int .u8 b.toNat, ?_,.int _ _⟩
     have lG:=(qK hb).1
     simp only[cs]
     rw[Array.getElem?_append_left v?]
     simp[hb]
    |succ j=>simp at q2)
  simpa using this
 cases hr
theorem qt.Mm: ∀{H:qt}{β:Y}{b:qD},H.get β=Z b->H.put β b=H
 |[],_,_,h=>by cases h
 |(i,v)::r,β,b,h=>by simp only[L!]at h;simp only[k_];split;rename_i hi;rw[M hi]at h;cases h;rw[hi];rename_i hi;rw[K hi]at h;rw[qt.Mm h]
theorem Na{G:GP}(hG: ∀t ti,G.ti t=Z ti->xq P t ti){t:U}
  (hi:zr w H ι Im) {nx:Y} {X:Y->Prop} (jN:Bd X H nx) {x:AV} {v:V} (hx:RA w H ι Im x v) {r:ru} (a:cG G t x H nx=Z r):
  ∃u w',(convert t t v).run P w= .ok u w' /\cp X w H ι Im nx r u w' :=by unfold cG at a;cases a
end
section
variable [xY] {P:D} {w:World} {H:qt} {ι:uT} {Im:Y->Prop}
theorem PI{ts d e:U}{ti f a:TI}(Y7:xq P ts ti)(kx:ti.td= .slice e)(eg:xq P e f)(Y8:xq P d a)
  (KA:(∃ h,a.td= .slice h)\/a.td= .string) (tt:U) (hi:zr w H ι Im) {nx:Y} {X:Y->Prop} (jN:Bd X H nx)
  {x y:AV} {c b:V} (hx:RA w H ι Im x c) (hy:RA w H ι Im y b) {r:ru} (g:mI e f x y H nx=Z r):
  ∃u w',(N.append_ #[ts,d] tt #[c,b]).run P w= .ok u w' /\cp X w H ι Im nx r u w' :=by unfold mI at g;cases g
theorem HH{x:AV}{v:V}(hx:RA w H ι Im x v)(hi:zr w H ι Im){nx:Y}{X:Y->Prop}(jN:Bd X H nx){r:ru}(a:ct x H nx=Z r)(b:A U)(tt:U):
  ∃u w',(N.unsafeSliceData_ b tt #[v]).run P w= .ok u w' /\cp X w H ι Im nx r u w' :=by unfold ct at a;cases a
theorem W9{c el:U}{e:A U}(h0:e[0]? =Z c){ti:TI}(ht:xq P c ti)(SF:ti.pe=Z el)(Vc:P.cellsOf el=1){p x:AV}{b a:V}(hp:RA w H ι Im p b)(hx:RA w H ι Im x a)(hi:zr w H ι Im)
  {nx:Y} {X:Y->Prop} (jN:Bd X H nx) {r:ru} (d:nS el p x H nx=Z r) (tt:U):
  ∃u w',(N.unsafeString_ e tt #[b,a]).run P w= .ok u w' /\cp X w H ι Im nx r u w' :=by unfold nS at d;cases d
end
section
variable [xY] {P:D} {w:World} {H:qt} {ι:uT} {Im:Y->Prop}
theorem WH{c :World}{r :qt}{ι' :uT}{β γ l:Y}{o:W Y}{es:W PV}{ks:W Sk}(e:(ι' β).ks=ks++[.leaf]){lA:A V}{elem:U}{fz:Y×Y}
  (h1:c.heap[(ι' β).b]? =Z (.cells lA elem fz)) (X:yl fz lA.size) (Q:lA.size=(ι' β).cap) (L:es.length+1<=(ι' β).cap) (n:ks.length=es.length)
  (E:((ι' β).b::ks.flatMap v!).Nodup) (z: ∀x∈ks.flatMap v!,x<c.heap.size)
  (y: ∀(i:Y) p k,es[i]? =Z p->ks[i]? =Z k-> ∃v,lA[i]? =Z v/\ZL c Im o p v k) {v0:V} (u:lA[es.length]? =Z v0) (g:RA c r ι' Im (.row γ l 0 l) v0):
  d8 c r ι' Im β (.we F o (es++[.sl T 0 []]) (Z (es.length,γ,l))):=by
 have q:(ks++[Sk.leaf]).flatMap v!=ks.flatMap v!:=by simp[v!]
 refine⟨lA,elem,fz,h1,X,Q,by simpa using L,by rw[e];simp[n],by rw[e,q];exact E,by rw[e,q];exact z,λj γ' m d=>by cases d;simp,λi p k f a=>?_⟩;rw[e]at a;by_cases hi:i<es.length;rw[c? hi]at f;rw[c? o?]at a;obtain⟨v,t,s⟩:=y i p k f a;exact⟨v,t,λ_=>s,λγ' m d=>by cases d;omega⟩;have SH:i=es.length:=by have:=(qK f).1;simp at this;omega
 subst SH;refine⟨v0,u,λh=>I rfl (h _ _ _ rfl),λγ' m d=>?_⟩;cases d;rw[J? o?,n]at a;simp at a;exact⟨a.symm,g⟩
theorem PH{ts tx e:TypeId}{ti te Zy:TI}(Y7:xq P ts ti)(kx:ti.td= .slice e)(eg:xq P e te)(Y8:xq P tx Zy)
  (KA:(∃ e',Zy.td= .slice e')\/Zy.td= .string) (tt:TypeId) (hi:zr w H ι Im) {nx:Nat} {X:Nat->Prop} (jN:Bd X H nx)
  {x y:AV} {vx vy:Value} (hx:RA w H ι Im x vx) (hy:RA w H ι Im y vy) {r:ru} (hr:tz te x y H nx=some r):
  ∃u w',(Builtin.append_ #[ts,tx] tt #[vx,vy]).run P w= .ok u w' /\cp X w H ι Im nx r u w' :=by
 unfold tz at hr;split at hr;rotate_left;cases hr;rename_i d7 γ fv fn dn;split at hr;rotate_left;cases hr;rename_i β xS off n;split at hr;rotate_left;cases hr
 rename_i qx ds es hb;split at hr<;>cases hr;rename_i hc;obtain⟨kA,rfl,rfl,rfl,Da,rfl,mw⟩:=hc;obtain⟨l1,cs,f1,f2,f3⟩:=XY (P:=P) hi hy dn;have hxx:=hx;cases hx with
  |row _ _ _ _ _ b ho kq hk hv hh=>(rw[hb]at kq;cases kq;obtain⟨h1,h2⟩:=hh _ _ _ rfl kA;have hg: ∀y,(zm [(β,y)] H).get β=some y:=λy=>by simp[zm,qt.zy]);(have cell0: ∀{w0:World}{H0:qt}{ι0:uT}{get:Nat->Option Value},rb w0 H0 ι0 Im te.size [[AV.row γ fn 0 fn]] get-> ∃v0,get 0=some v0/\RA w0 H0 ι0 Im (.row γ fn 0 fn) v0:=by intro w0 H0 ι0 get hA;have:=hA.2.2 0 _ 0 _ rfl rfl;rw[Da]at this;exact this);cases qx with
  |true=>
   simp only[if_true]at h2;subst h2;have ec:es=[]:=(hi.d5 β _ hb).1;subst ec;obtain⟨nc,w',cs',g1,g2,g3,g4,g5⟩:=Ny Y7 kx eg Y8 KA tt hi hy dn z? (by simpa using mw);refine⟨_,w',g5,wh ι β ⟨w.heap.size,nc,[.leaf]⟩, ?_⟩;have key:=zr.DV hi (w' :=w') β (.we false ds ([]++[.sl true 0 []]) (some (0,γ,fn))) ⟨w.heap.size,nc,[.leaf]⟩ (λx hx=>by rw[hb]at hx;cases hx;simp[jJ,qD.sh])
    ⟨by rw[g2.1];simp,g2.2⟩ (λb' kq _=>by rw[g2.1];simp[Array.getElem?_push,Nat.ne_of_lt kq]) (λz hz=>by
     rcases hz.2 with h|⟨_,h⟩
     ·exact .inl (by rw[h];exact ke _)
     ·simp[Sk.blocks]at h) (λhe=>by
     obtain⟨v0,k1,k2⟩:=cell0 (g4.mono hi he)
     exact WH (es:=[]) (ks:=[]) (lA:=cs') (elem:=e) (fz:=(0,0)) z? (by simp[g2]) (wC _) (by simp[g3,Da]) (by simpa using g1) rfl z? z? z? k1 k2)
   refine⟨key.1,key.2, ?_,ke _,gG jN (ke _) (jN β _ hb)⟩;refine .row β _ 0 _ _ _ rfl (hg _) (λ_=>⟨_,_,_,rfl⟩) (λ_ _ _ e=>by cases e;exact ke _) λ_ _ _ e _=>?_;cases e;refine⟨z?, ?_⟩;simp only[vH,if_false];exact⟨⟨w.heap.size,0,none⟩,z?,rfl,z?,λ_=>z?⟩
  |false=>
   (simp only[vH,if_false]at h2;obtain⟨a,rfl,ZB,oG,XR⟩:=h2;obtain⟨ab,ao,II⟩:=a;simp only at ZB oG XR;subst ZB oG;obtain⟨vs,elem,fz,g1,g2,g3,g4,g5,g6,g7,g8,g9⟩:=hi.we hb;obtain⟨hn1,AK⟩:=List.nodup_cons.1 g6;have TQ: ∀(i:Nat) p k,es[i]? =some p->(ι β).ks[i]? =some k-> ∃v,vs[i]? =some v/\ZL w Im ds p v k:=λi p k hp hk=>by obtain⟨v,k1,k2,_⟩:=g9 i p k hp hk;exact⟨v,k1,k2 λ_ _ _ h=>by cases h⟩);have GS: ∀z,z∈((ι β).ks++[Sk.leaf]).flatMap Sk.blocks->(qD.we false ds es none).uH (ι β) z:=λz hz=>⟨rfl,.inr ⟨rfl,by simpa[Sk.blocks]using hz⟩⟩;by_cases fp:es.length+1<=(ι β).cap
   ·(have hao:ao=0:=by have:=XR o?;omega);(subst hao;obtain⟨v0,c1,c2⟩:=cell0 f3;have AD:cs.toList=[v0]:=by (have tv:cs.size=1:=by rw[f2,Da];rfl);(have:cs= #[v0]:=by apply Array.ext;simpa using tv;intro i h1 h2;have:i=0:=o?;subst this;have:=(Array.getElem?_eq_some_iff.1 c1).2;simpa using this);rw[this]);have Ue: ∀x∈cs.toList,eH x=true:=by intro x hx;rw[AD]at hx;simp at hx;subst hx;exact c2.eH rfl
    obtain⟨w',q1,q2,q3,lA,q4,q5,q6⟩:=bH (P:=P) (ι β).b es.length elem fz cs.toList 0 w vs g1 g2 (by simp[AD,g3];omega) Ue;have D8:=run_append_fits (w' :=w') Y7 kx eg Y8 KA tt (some ⟨(ι β).b,0,none⟩) es.length ((ι β).cap-0) 1 vy l1 o? cs f1
     (λa ha=>by cases ha;rw[add_plain,Nat.zero_add,Da,Nat.mul_one];exact q1) (λh=>by cases h)
    have hw: ∀b,Im b->w'.heap[b]? =w.heap[b]? :=λb kq=>q3 b (λe=>hi.Hn β _ b hb ⟨rfl,.inl e⟩ kq);refine⟨_,w',D8,wh ι β ⟨(ι β).b,(ι β).cap,(ι β).ks++[.leaf]⟩, ?_⟩;have key:=zr.DV hi (w' :=w') β (.we false ds (es++[.sl true 0 []]) (some (es.length,γ,fn))) ⟨(ι β).b,(ι β).cap,(ι β).ks++[.leaf]⟩
     (λx hx=>by
      rw[hb]at hx
      cases hx
      simp[jJ,qD.sh])
     ⟨o?,q2.2⟩ (λb' _ kN=>q3 b' (λe=>kN _ hb ⟨rfl,.inl e⟩)) (λz hz=> .inr ⟨_,hb,(by
      rcases hz.2 with h|⟨_,h⟩
      ·exact⟨rfl,.inl h⟩
      ·exact GS z h)⟩) (λrF=>by
      refine WH (ks:=(ι β).ks) z? (by simpa using q4) (by rw[q5];exact g2) (by simp[q5,g3]) (by simpa using fp) g5 (by simpa using g6) (λx hx=>by rw[q2.1];exact g7 x hx) (λi p k hp hk=>?_) (v0:=v0) ?_ (c2.mono hi rF)
      ·obtain⟨v,k1,k2⟩:=TQ i p k hp hk
       have lG:=(qK hp).1
       refine⟨v, ?_,k2.mono rF.im hw λx hx=>q3 x λe=>?_⟩
       ·rw[q6,if_neg o?]
        exact k1
       subst e
       exact hn1 (List.mem_flatMap.2 ⟨k,zj hk,hx⟩)
      rw[q6,AD]
      simp)
    refine⟨key.1,key.2, ?_,ke _,gG jN (ke _) (jN β _ hb)⟩;refine .row β _ 0 _ _ _ rfl (hg _) (λ_=>⟨_,_,_,rfl⟩) (λ_ _ _ e=>by cases e;simp) λ_ _ _ e _=>?_;cases e;refine⟨z?, ?_⟩;simp only[vH,if_false];exact⟨⟨(ι β).b,0,none⟩,z?,rfl,z?,λ_=>z?⟩
   (have hw:(yN w).heap=w.heap:=rfl;have gS:=hi.px hw ⟨rfl,rfl⟩;obtain⟨new,m1,m2,m3⟩:=(XY (P:=P) gS (hy.px hw ⟨rfl,rfl⟩ hi) dn).2;have hold:(Builtin.firstCells te.size es.length (.slice (some ⟨(ι β).b,ao,none⟩) es.length ((ι β).cap-0))).run P (yN w)= .ok ((List.range es.length).map λj=>(vs[j]?).getD undef).toArray (yN w):=by by_cases P8:es.length=0;rw[P8];simp[Builtin.firstCells,loadCells,loadCellsFrom];(have hao:ao=0:=by have:=XR o?;omega);subst hao;simp only[Builtin.firstCells];rw[Da,Nat.mul_one];refine(run_loadCells (P:=P) (w:=yN w) (ι β).b 0 es.length (λj=>(vs[j]?).getD undef) λj hj=>?_);have:(yN w).cell? ⟨(ι β).b,0+j,none⟩=w.cell? ⟨(ι β).b,0+j,none⟩:=rfl;rw[this,nT g1];have:j<vs.size:=o?;simp[this]);(obtain⟨nc,rest,r1,r2,r3⟩:=se (w:=w) Y7 kx eg Y8 KA tt (some ⟨(ι β).b,ao,none⟩) es.length ((ι β).cap-0) 1 vy l1 o? (by simpa using mw) _ new hold m1;generalize hO:((List.range es.length).map λj=>(vs[j]?).getD undef).toArray=Rr at r3;have hos:Rr.size=es.length:=by rw[<- hO];simp);(have hog: ∀i,i<es.length->Rr[i]? =vs[i]? :=λi jv=>by rw[<- hO];have:i<vs.size:=o?;simp[List.getElem?_range jv,this]);(obtain⟨v0,c1,c2⟩:=cell0 (m3.mono (w' :=w) (H' :=H) (ι' :=ι) (wc:=Im) gS (yA.px (w:=yN w) (w' :=w) rfl ⟨rfl,rfl⟩));have OG:new.size=1:=by rw[m2,Da];rfl);refine⟨_,_,r3,wh ι β ⟨w.heap.size,nc,(ι β).ks++[.leaf]⟩, ?_⟩;have hkeep: ∀b',b' <w.heap.size->({ yN w with heap:=w.heap.push (.cells (Rr++new++rest) e) }:World).heap[b']? =w.heap[b']? :=λb' kq=>by simp[Array.getElem?_push,Nat.ne_of_lt kq]
   have key:=zr.DV hi (w' :={ yN w with heap:=w.heap.push (.cells (Rr++new++rest) e) }) β (.we false ds (es++[.sl true 0 []]) (some (es.length,γ,fn))) ⟨w.heap.size,nc,(ι β).ks++[.leaf]⟩
    (λx hx=>by
     rw[hb]at hx
     cases hx
     simp[jJ,qD.sh])
    ⟨z?,rfl,rfl⟩ (λb' kq _=>hkeep b' kq) (λz hz=>by
     rcases hz.2 with h|⟨_,h⟩
     ·exact .inl (by rw[h];exact ke _)
     ·exact .inr ⟨_,hb,GS z h⟩) (λhe=>by
     refine WH (ks:=(ι β).ks) z? (lA:=Rr++new++rest) (elem:=e) (fz:=(0,0)) z? (wC _) ?_ (by simp only[yz];omega) g5 ?_ (λx hx=>?_) (λi p k hp hk=>?_) (v0:=v0) ?_ (c2.mono hi he)
     ·simp only[yz,Array.size_append,hos,OG,r2,Da,Nat.mul_one]
      omega
     ·simp only[yz]
      exact List.nodup_cons.2 ⟨λh=>absurd (g7 _ h) (Nat.lt_irrefl _),AK⟩
     ·have:=g7 x hx
      simp
      omega
     ·obtain⟨v,k1,k2⟩:=TQ i p k hp hk
      have lG:=(qK hp).1
      refine⟨v, ?_,k2.mono he.im (λb kq=>hkeep b (hi.im b kq)) λx hx=>hkeep x (g7 x (List.mem_flatMap.2 ⟨k,zj hk,hx⟩))⟩
      rw[Array.append_assoc,Array.getElem?_append_left o?,hog i lG]
      exact k1
     rw[Array.append_assoc,Array.getElem?_append_right o?,hos,Nat.sub_self,Array.getElem?_append_left o?]
     exact c1)
   refine⟨key.1,key.2, ?_,ke _,gG jN (ke _) (jN β _ hb)⟩;refine .row β _ 0 _ _ _ rfl (hg _) (λ_=>⟨_,_,_,rfl⟩) (λ_ _ _ e=>by cases e;simp) λ_ _ _ e _=>?_;cases e;refine⟨z?, ?_⟩;simp only[vH,if_false];exact⟨⟨w.heap.size,0,none⟩,z?,rfl,z?,λ_=>z?⟩
end
section
variable [xY] {P:D} {w:World} {H:qt} {ι:uT} {Im:Y->Prop}
def ZJ(w:World)(Im:Y->Prop)(es:W (PV×PV×Y))(a:W J):Prop:=
 es.length=a.length/\ ∀(i:Y)(k x:PV)(born:Y) e,es[i]? =Z (k,x,born)->a[i]? =Z e->RP w Im k e.key/\RP w Im x e.val/\e.born=born
theorem ZJ.mono{w' :World}{wc:Y->Prop}(hi: ∀b,Im b->wc b)(c: ∀b,Im b->w'.heap[b]? =w.heap[b]?){es:W (PV×PV×Y)}{xZ:W J}
  (h:ZJ w Im es xZ):ZJ w' wc es xZ:=
 ⟨h.1,λi k x born e a b=>let⟨g1,g2,g3⟩:=h.2 i k x born e a b;⟨g1.mono hi c,g2.mono hi c,g3⟩⟩
theorem ZJ.tail{x:PV×PV×Y}{es:W (PV×PV×Y)}{e:J}{xZ:W J}(h:ZJ w Im (x::es) (e::xZ)):ZJ w Im es xZ:=
 ⟨by simpa using h.1,λi k y born c a b=>h.2 (i+1) k y born c (by simpa using a) (by simpa using b)⟩
theorem Ji(a b:W UInt8):((⟨⟨a⟩⟩:ByteArray)==⟨⟨b⟩⟩)=(a==b):=by have:=beq_toListBytes ⟨⟨a⟩⟩ ⟨⟨b⟩⟩;simpa using this
theorem Fy{t:U}{f:TI}(n:xq P t f){k:PV}(o:kV f.td k=T){d:TypeDesc}(i:P.underlying t=Z d){m :PV}{l g :V}
  (q:RP w Im k l) (p:RP w Im m g) {b:C} (j:R1 k m =Z b):Instr.sameNow d l g =Z b/\(b=T->l=g):=by
 have key: ∀td,f.td=td->kV td k=T->_:=λtd e h=>(⟨e,h⟩:f.td=td/\kV td k=T);cases k<;>cases m <;>simp only[R1,reduceCtorEq]at j;(rename_i a b';cases j;cases q;cases p;have c:f.td= .bool:=by cases c:f.td<;>simp[kV,c]at o |-);rw[n.bool c]at i;cases i;exact⟨rfl,λh=>by simpa using h⟩;(rename_i kd a kd' b';split at j<;>cases j;rename_i r;subst r;cases q;cases p;obtain⟨k0,c⟩: ∃k0,f.td= .int k0:=by cases c:f.td<;>simp[kV,c]at o |-);rw[n.int c]at i;cases i;exact⟨by simp[Instr.sameNow],λh=>by simpa using h⟩;rename_i a b';cases j;cases q;cases p;have c:f.td= .string:=by cases c:f.td<;>simp[kV,c]at o |-
 rw[n.string c]at i;cases i;refine⟨?_,λh=>?_⟩;simp only[Instr.sameNow,Ji];have:a=b' :=by simpa using h
 rw[this]
theorem fh{t:TypeId}{tk:TI}(ht:xq P t tk){k:PV}(hk:kV tk.td k=true){d:TypeDesc}(hd:P.underlying t=some d){vk:Value}(h1:RP w Im k vk):
  ∀(es:List (PV×PV×Nat))(xZ:List MapEntry)(i:Nat),ZJ w Im es xZ-> ∀{r:Option (Nat×PV×Nat)},findKey k es i=some r->
   (r=none/\Instr.findNow d vk xZ i=some none)\/
   ∃j x born e,r=some (i+j,x,born)/\Instr.findNow d vk xZ i=some (some (i+j,e.val))/\xZ[j]? =some e/\RP w Im x e.val/\e.born=born/\e.key=vk
 |[],xZ,i,hE,r,h=>by (have:xZ=[]:=by simpa using hE.1.symm);subst this;cases h;exact .inl ⟨rfl,rfl⟩
 |(k',x,born)::es,[],i,hE,r,h=>by have:=hE.1;simp at this
 |(k',x,born)::es,e::xZ,i,hE,r,h=>by obtain⟨g1,g2,g3⟩:=hE.2 0 k' x born e z? z?;unfold findKey at h;cases hq:R1 k k' with|none=>simp[hq]at h|some b=>obtain⟨s1,s2⟩:=Fy ht hk hd h1 g1 hq;cases b with|true=>simp only[hq,wO]at h;subst h;refine .inr ⟨0,x,born,e,rfl, ?_,rfl,g2,g3,(s2 rfl).symm⟩;simp[Instr.findNow,s1]|false=>simp only[hq]at h;rcases fh ht hk hd h1 es xZ (i+1) hE.tail h with ⟨rfl,q⟩|⟨j,x',oP,e',rfl,q1,q2,q3,q4,q5⟩;exact .inl ⟨rfl,by simp[Instr.findNow,s1,q]⟩;refine .inr ⟨j+1,x',oP,e',by rw[Nat.add_assoc,Nat.add_comm 1 j], ?_,by simpa using q2,q3,q4,q5⟩;simp only[Instr.findNow,s1,q1];rw[Nat.add_assoc,Nat.add_comm 1 j]
theorem sf{t:U}{b:TI}(c:xq P t b){k:PV}(g:kV b.td k=T)(empty:C)(e:V):(Instr.checkKey empty 10000 t e).run P w= .ok () w:=by
 have d: ∀n,(Instr.checkKey empty (n+1) t e).run P w= .ok () w:=by (intro n;unfold Instr.checkKey;have:P.underlying t=Z .bool\/P.underlying t=Z .string\/ ∃f,P.underlying t=Z (.int f):=by cases a:b.td<;>simp[kV,a]at g;exact .inl (c.bool a);exact .inr (.inr ⟨_,c.int a⟩);exact .inr (.inl (c.string a)));rcases this with h|h|⟨f,h⟩<;>simp[qA h]
 exact d 9999
theorem rU{t:U}{c:TI}(ht:xq P t c){d:TypeDesc}(e:P.underlying t=Z d)(b:V)(a:W J){r:B (Y×V)}
  (h:Instr.findNow d b a 0=Z r):(Instr.findKey t b a).run P w= .ok r w:=by unfold Instr.findKey;simp[qA e,h]
theorem zr.map{β:Y}{es:W (PV×PV×Y)}{xf:Y}(hi:zr w H ι Im)(a:H.get β=Z (.map es xf)):
  ∃xZ:W J,w.heap[(ι β).b]? =Z (.map ⟨xZ⟩ xf)/\ZJ w Im es xZ:=hi.d5 β _ a
theorem Zq{b:Y}{a:W J}{xf:Y}(h:w.heap[b]? =Z (.map ⟨a⟩ xf)):(getObj b).run P w= .ok (.map ⟨a⟩ xf) w:=by simp[getObj,S_,h]
theorem oo{b:Y}{a:W J}{xf:Y}(h:w.heap[b]? =Z (.map ⟨a⟩ xf))(o:Obj):
  (setObj b o).run P w= .ok () { w with heap:=w.heap.setIfInBounds b o }:=by simp[setObj,S_,h]
theorem Yc(hi:zr w H ι Im){nx:Y}{X:Y->Prop}(i:Bd X H nx){β:Y}{es f:W (PV×PV×Y)}{xf c:Y}{d:W J}
  (a:H.get β=Z (.map es xf)) (h:ZJ w Im f d) {r:AV} {u:V} (e: ∀w' g ι',zr w' g ι' Im->yA w H ι Im w' g ι' Im->RA w' g ι' Im r u):
  cp X w H ι Im nx (r,[(β,.map f c)],nx) u { w with heap:=w.heap.setIfInBounds (ι β).b (.map ⟨d⟩ c) }:=by
 obtain⟨xZ,h1,h2⟩:=hi.map a;have m:=(hi.d5 β _ a).lt rfl;have key:=zr.put (VN:=noO a rfl) hi (w' :={ w with heap:=w.heap.setIfInBounds (ι β).b (.map ⟨d⟩ c) }) β (.map f c) (ι β)
  (λx j=>by rw[a]at j;cases j;rfl) ⟨z?,rfl,rfl⟩
  (λb' _ l=>by
   have:(ι β).b≠b' :=l _ a rfl
   simp[A.getElem?_setIfInBounds,this])
  (λ_=> .inr ⟨_,a,rfl,rfl⟩) (λk=>by
   have n: ∀b,Im b->_:=λb a=>k.KB hi b a
   exact⟨d,by simp[m],h.mono k.im n⟩)
 exact⟨_,key.1,key.2,e _ _ _ key.1 key.2,ke _,gG i (ke _) (i β _ a)⟩
theorem zeroV_ok{t:U}{ti:TI}(g:xq P t ti): ∃z,(zeroValue t).run P w= .ok z w/\RP w Im (KO ti) z:=by
 obtain⟨z,j,e,d,h⟩:=J2 (w:=w) (Im:=Im) g;refine⟨z,j, ?_⟩;unfold KO;have c:ti.isAgg=ti.td.isAgg:=by unfold q1h TD.isAgg;cases ti.td<;>rfl
 rw[c,<- h];cases z with|agg cs=>simp only[JL,if_true];exact .agg ti.zero cs.toList (by simpa[V.cells]using e) g.vw (λi p v a b=>d i p v a (by simpa[V.cells]using b))|_=>simp only[JL,vH,if_false,V.cells]at e d |-;cases f:ti.zero with|nil=>rw[f]at e;simp at e|cons p r=>rw[f]at d;exact d 0 p _ z? z?
theorem PS{t:U}{n:TI}(g:xq P t n)(hi:zr w H ι Im){m:AV}{i f:V}(o:RA w H ι Im m i){k:PV}(v:kV n.td k=T)(z:RP w Im k f)
  {r:B (Y×PV×Y)} (c:Yy m k H=Z r):
  (i= .map R/\r=R)\/ ∃b a xf,i= .map (Z b)/\w.heap[b]? =Z (.map ⟨a⟩ xf)/\
   ((r=R/\(Instr.findKey t f a).run P w= .ok R w)\/ ∃j x born u,r=Z (j,x,born)/\(Instr.findKey t f a).run P w= .ok (Z (j,u)) w/\RP w Im x u):=by obtain⟨d,l⟩:=g.undS;unfold Yy at c;split at c;cases c;have h:=o.nZ;cases h;exact .inl ⟨rfl,rfl⟩;{rename_i β;split at c;rotate_left;cases c;rename_i es xf y;cases o;obtain⟨a,g1,g2⟩:=hi.map y;refine .inr ⟨_,a,xf,rfl,g1, ?_⟩;rcases fh g v l z es a 0 g2 c with ⟨rfl,q⟩|⟨j,x,born,e,rfl,s,q2,p,q4,q5⟩;exact .inl ⟨rfl,rU g l f a q⟩;exact .inr ⟨_,x,born,e.val,rfl,rU g l f a s,p⟩};cases c
theorem Cn{t s e0:U}{ti Q X:TI}(ht:xq P t ti)(kx:ti.td= .map s e0)(c:xq P s Q)(he:xq P e0 X)(hi:zr w H ι Im){m k:AV}{L o:V}
  (hm:RA w H ι Im m L) (y:RA w H ι Im k o) {ok:C} {r:AV} (a:oN Q X m k ok H=Z r):
  ∃u,(Instr.lookup t L o ok).run P w= .ok u w/\RA w H ι Im r u:=by
 unfold oN at a;split at a;rotate_left;cases a;rename_i k;split at a;rotate_left;cases a;rename_i n;have g:=y.nZ;obtain⟨z,f,e⟩:=zeroV_ok (w:=w) (Im:=Im) he;have pair: ∀(p:PV)(v:V)(b:C),RP w Im p v->RA w H ι Im (if ok=T then .xL [.pv p,.pv (.bool b)]else .pv p) (if ok=T then .tuple #[v,.bool b]else v):=by intro p v b h;cases ok;exact .pv _ _ h;refine .xL _ [v,.bool b] rfl λi x u l q=>?_;match i with|0=>simp at l q;subst l q;exact .pv _ _ h|1=>simp at l q;subst l q;exact .pv _ _ (.bool _)|i+2=>simp at l
 unfold Instr.lookup;simp only[w9,qA (ht.map kx),tV];split at a;rename_i j v born E;cases a;rcases PS c hi hm n g E with ⟨_,h⟩|⟨b,xZ,xf,rfl,g1,g2⟩;cases h;rcases g2 with ⟨h,_⟩|⟨j',x,oP,u,h,g3,g4⟩;cases h;cases h;refine⟨_, ?_,pair v u T g4⟩;simp only[Zq g1,w9,tV,H?,sf c n,g3];{rename_i E;cases a;rcases PS c hi hm n g E with ⟨rfl,_⟩|⟨b,xZ,xf,rfl,g1,g2⟩;(refine⟨_, ?_,pair _ z F e⟩;have:(Instr.findKey s o ([]:W J)).run P w= .ok R w:=by obtain⟨d,hd⟩:=c.undS;exact rU c hd o [] rfl);simp only[w9,tV,H?,sf c n,this,f];rcases g2 with ⟨_,g3⟩|⟨j',x,oP,u,h,_⟩;rotate_left;cases h;refine⟨_, ?_,pair _ z F e⟩;simp only[Zq g1,w9,tV,H?,sf c n,g3,f]};cases a
end
section
variable [xY] {P:D} {w:World} {H:qt} {ι:uT} {Im:Y->Prop}
theorem ZJ.set{es:W (PV×PV×Y)}{d:W J}(h:ZJ w Im es d)(i:Y){k x:PV}{born:Y}{e:J}
  (n:RP w Im k e.key) (m:RP w Im x e.val) (o:e.born=born):ZJ w Im (es.set i (k,x,born)) (d.set i e):=by refine⟨by simp[h.1],λj l f g p b a=>?_⟩;rw[P!]at b a;by_cases c:i=j;subst c;rw[M rfl]at b a;split at b<;>cases b;split at a<;>cases a;exact⟨n,m,o⟩;rw[K c]at b a;exact h.2 j l f g p b a
theorem ZJ.push{es:W (PV×PV×Y)}{c:W J}(h:ZJ w Im es c){k x:PV}{born:Y}{e:J}
  (o:RP w Im k e.key) (m:RP w Im x e.val) (p:e.born=born):ZJ w Im (es++[(k,x,born)]) (c++[e]):=by refine⟨by simp[h.1],λj l g i q a b=>?_⟩;rw[T!]at a b;rw[<- h.1]at b;by_cases d:j<es.length;rw[M d]at a b;exact h.2 j l g i q a b;rw[K d]at a b;cases f:j-es.length with|zero=>rw[f]at a b;simp at a b;obtain⟨rfl,rfl,rfl⟩:=a;subst b;exact⟨o,m,p⟩|succ n=>rw[f]at a;simp at a
theorem ZJ.erase{es:W (PV×PV×Y)}{d:W J}(h:ZJ w Im es d)(i:Y):ZJ w Im (es.eraseIdx i) (d.eraseIdx i):=by refine⟨by simp[W.length_eraseIdx,h.1],λj g e f k b a=>?_⟩;rw[W.getElem?_eraseIdx]at b a;split at b;rename_i c;rw[M c]at a;exact h.2 _ g e f k b a;rename_i c;rw[K c]at a;exact h.2 _ g e f k b a
theorem modify_eq_set{l:W J}{i:Y}{e:J}(h:l[i]? =Z e)(f:J->J):(⟨l⟩:A J).modify i f=⟨l.set i (f e)⟩:=by obtain⟨b,c⟩:=qK h;apply I!;simp only[A.toList_modify];apply W.ext_getElem?;intro j;rw[W.getElem?_modify,P!];by_cases a:i=j;subst a;simp[b,c];simp[a]
theorem Ge{k:PV}{a:TI}(b:kV a.td k=T){v:V}(h:RP w Im k v):Instr.sameBits 10000 v v=T:=by cases h<;>simp[kV]at b;simp[Instr.sameBits];simp[Instr.sameBits];simp[Instr.sameBits,Ji];all_goals (cases c:a.td<;>simp[c]at b)
theorem MD{k:PV}{a:TI}(b:kV a.td k=T){v:V}(h:RP w Im k v):(Instr.keyThatStays v v).run P w= .ok v w:=by unfold Instr.keyThatStays;simp[Ge b h]
theorem YC{t E e0:U}{ti v:TI}(ht:xq P t ti)(kx:ti.td= .map E e0)(f:xq P E v)(hi:zr w H ι Im)
  {nx:Y} {X:Y->Prop} (L:Bd X H nx) {m k:AV} {x:PV} {u vk i:V}
  (hm:RA w H ι Im m u) (p:RA w H ι Im k vk) (Q:RP w Im x i) {ws:W (Y×qD)} (a:dc v m k x H=Z ws):
  ∃w',(Instr.mapUpdate t u vk i).run P w= .ok () w' /\cp X w H ι Im nx (.xL [],ws,nx) undef w' :=by have Wq: ∀w' s ι',zr w' s ι' Im->yA w H ι Im w' s ι' Im->RA w' s ι' Im (.xL []) undef:=λ_ _ _ _ _=> .xL [] [] rfl z?;obtain⟨d,n⟩:=f.undS;unfold dc at a;split at a;rotate_left;cases a;rename_i β k;split at a;rotate_left;cases a;rename_i o;split at a;rotate_left;cases a;rename_i es xf r;have b:=p.nZ;cases hm;obtain⟨c,g1,g2⟩:=hi.map r;unfold Instr.mapUpdate;simp only[w9,qA (ht.map kx),tV,Zq g1,sf f o];split at a;rename_i j y born q;cases a;rcases fh f o n b es c 0 g2 q with ⟨h,_⟩|⟨j',x',oP,e,h,l,z,q3,q4,q5⟩;cases h;(rw[x!]at h l;cases h;have g:((c[j]?.map (·.key)).getD vk)=vk:=by rw[z];simp[q5]);(refine⟨_, ?_,Yc hi L r (g2.set j (k:=k) (x:=x) (born:=born) (e:={ e with key:=vk,val:=i }) b Q q4) Wq⟩;simp only[rU f n vk c l,tV,w9];have AF:((q25 c)[j]?.map (·.key)).getD vk=vk:=by simpa using g);rw[AF,MD o b];simp only[tV,modify_eq_set z,oo g1];{rename_i q;cases a;rcases fh f o n b es c 0 g2 q with ⟨_,l⟩|⟨j',x',oP,e,h,_⟩;rotate_left;cases h;refine⟨_, ?_,Yc hi L r (g2.push (k:=k) (x:=x) (born:=xf) (e:={ key:=vk,val:=i,born:=xf }) b Q rfl) Wq⟩;simp only[rU f n vk c l,tV,oo g1];simp};cases a
theorem IB{t e g:U}{ti c d:TI}(ht:xq P t ti)(kx:ti.td= .map e g)(hk:xq P e c)(he:xq P g d)(hi:zr w H ι Im)
  {nx:Y} {X:Y->Prop} (jN:Bd X H nx) {m k:AV} {a b:V}
  (hm:RA w H ι Im m a) (hkv:RA w H ι Im k b) {r:AV} {ws:W (Y×qD)} (f:X1 c d m k H=Z (r,ws)):
  ∃u w',(Instr.mapEntry t a b).run P w= .ok u w' /\cp X w H ι Im nx (r,ws,nx) u w' :=by unfold X1 at f;cases f
theorem Yx(t:U)(hi:zr w H ι Im){nx:Y}{X:Y->Prop}(jN:Bd X H nx){m st:AV}{x:PV}{c b a:V}
  (hm:RA w H ι Im m c) (hsv:RA w H ι Im st b) (hx:RP w Im x a) {ws:W (Y×qD)} (d:pa m st x H=Z ws):
  ∃w',(Instr.entryStore t c b a).run P w= .ok () w' /\cp X w H ι Im nx (.xL [],ws,nx) undef w' :=by unfold pa at d;cases d
theorem Ck{t z e0:U}{ti x:TI}(ht:xq P t ti)(kx:ti.td= .map z e0)(b:xq P z x)(hi:zr w H ι Im)
  {nx:Y} {X:Y->Prop} (o:Bd X H nx) (L:A U) (ND:L[0]? =Z t) (tt:U) {m k:AV} {v i:V}
  (E:RA w H ι Im m v) (p:RA w H ι Im k i) {ws:W (Y×qD)} (a:fV x m k H=Z ws):
  ∃w',(N.delete_ L tt #[v,i]).run P w= .ok undef w' /\cp X w H ι Im nx (.xL [],ws,nx) undef w' :=by have s: ∀w' u ι',zr w' u ι' Im->yA w H ι Im w' u ι' Im->RA w' u ι' Im (.xL []) undef:=λ_ _ _ _ _=> .xL [] [] rfl z?;obtain⟨d,n⟩:=b.undS;unfold N.delete_;simp only[ND,q!,i?,Q?,w9,qA (ht.map kx),tV];unfold fV at a;split at a;rename_i k;split at a<;>cases a;rename_i g;have h:=E.nZ;cases h;refine⟨w, ?_,e! hi o (s _ _ _ hi (Y! _ _ _ _))⟩;simp only[w9,sf b g,tV,H?];rfl;{rename_i β k;split at a;rotate_left;cases a;rename_i g;split at a;rotate_left;cases a;rename_i es xf r;have f:=p.nZ;cases E;obtain⟨c,g1,g2⟩:=hi.map r;simp only[w9,Zq g1,tV,sf b g];split at a;rename_i j y born q;cases a;rcases fh b g n f es c 0 g2 q with ⟨h,_⟩|⟨j',Q,oP,e,h,l,q2,q3,q4,q5⟩;cases h;(rw[x!]at h l;cases h;refine⟨_, ?_,Yc hi o r (g2.erase j) s⟩;simp only[w9,rU b n i c l,tV,oo g1,H?];have:(q25 c).eraseIdxIfInBounds j=⟨c.eraseIdx j⟩:=by obtain⟨jv,_⟩:=qK q2;simp[A.eraseIdxIfInBounds,jv]);simp only[w9,this,oo g1,tV,H?];rfl;{rename_i q;cases a;rcases fh b g n f es c 0 g2 q with ⟨_,l⟩|⟨j',Q,oP,e,h,_⟩;rotate_left;cases h;refine⟨_, ?_,Yc hi o r g2 s⟩;simp only[w9,rU b n i c l,tV,oo g1,H?];rfl};cases a};cases a
theorem PY(t:U)(hi:zr w H ι Im){nx:Y}{X:Y->Prop}(a:Bd X H nx)(d: ¬X nx):
  ∃u w',(Instr.makeMap t R).run P w= .ok u w' /\cp X w H ι Im nx (.map nx,[(nx,.map [] 0)],nx+1) u w' :=by
 refine⟨.map (Z w.heap.size), { w with heap:=w.heap.push (.map #[] 0) },by simp[Instr.makeMap], ?_⟩;obtain⟨ι',g,f,e⟩:=zr.new hi a d { w with heap:=w.heap.push (.map #[] 0) } (.map [] 0) (.map #[] 0) 0 rfl ⟨rfl,rfl⟩ (λι' b he=>by
  exact⟨[],by simp[b],rfl,z?⟩)
 refine⟨ι',f,e, ?_,z?,gG a z? (.inl z?)⟩;have c:(zm [(nx,qD.map [] 0)] H).get nx=Z (.map [] 0):=by simp[zm,d!]
 have:=RA.map (w:={ w with heap:=w.heap.push (.map #[] 0) }) (ι:=ι') (Im:=Im) nx [] 0 c;rw[g]at this;exact this
end
section
variable [xY] {P:D} {w:World} {H:qt} {ι:uT} {Im:Y->Prop}
theorem PX{t e g:U}{ti c d:TI}(ht:xq P t ti)(kx:ti.td= .map e g)(hk:xq P e c)(he:xq P g d)(hi:zr w H ι Im){m k:AV}{a b:V}
  (hm:RA w H ι Im m a) (hkv:RA w H ι Im k b) {ok:C} {r:AV} (f:X2 c d m k ok H=Z r):
  ∃u,(Instr.lookup t a b ok).run P w= .ok u w/\RA w H ι Im r u:=by unfold X2 at f;cases f
theorem T1{t e g:U}{ti d:TI}(ht:xq P t ti)(kx:ti.td= .map e g)(hk:xq P e d)(hi:zr w H ι Im)
  {nx:Y} {X:Y->Prop} (jN:Bd X H nx) {m k x:AV} {b c a:V}
  (hm:RA w H ι Im m b) (hkv:RA w H ι Im k c) (hx:RA w H ι Im x a) {ws:W (Y×qD)} (f:ic d m k x H=Z ws):
  ∃w',(Instr.mapUpdate t b c a).run P w= .ok () w' /\cp X w H ι Im nx (.xL [],ws,nx) undef w' :=by unfold ic at f;cases f
end
section
variable [xY] {P:D} {w:World} {H:qt} {ι:uT} {Im:Y->Prop}
def uZ(P:D)(G:GP):Prop:= ∀t ti,G.ti t=Z ti->xq P t ti
def gO(X:Y->Prop)(r:Result Next)(w:World)(H:qt)(ι:uT)(Im:Y->Prop)(nx:Y)(e:ru):Prop:=
 ∃u w',(r= .ok (.value u) w' \/(r= .ok .skip w' /\u=undef))/\cp X w H ι Im nx e u w'
theorem gO.val{X:Y->Prop}{s:Sem V}{u:V}{w' :World}{nx:Y}{e:ru}(h:s.run P w= .ok u w')(a:cp X w H ι Im nx e u w'):
  gO X ((do pure (.value (<- s)):Sem Next).run P w) w H ι Im nx e:=
 ⟨u,w',.inl (by simp[h]),a⟩
theorem gO.skip{X:Y->Prop}{s:Sem Unit}{a :World}{nx:Y}{e:ru}(h:s.run P w= .ok () a)(b:cp X w H ι Im nx e undef a):
  gO X ((do s;pure .skip:Sem Next).run P w) w H ι Im nx e:=
 ⟨undef,a,.inr ⟨by simp[h],rfl⟩,b⟩
theorem gO.now{X:Y->Prop}{u:V}{nx:Y}{e:ru}(a:cp X w H ι Im nx e u w):gO X ((pure (.value u):Sem Next).run P w) w H ι Im nx e:=
 ⟨u,w,.inl rfl,a⟩
def Uk:Op->C
 | .call { callee:= .value _,.. }=>T
 | .box _ _=>T
 |_=>F
theorem cp.puts{β:Y}{b a :qD}{nx:Y}{X:Y->Prop}(c:Bd X H nx)(d:H.get β=Z b){w' :World}{ι' :uT}(f:zr w' (zm [(β,a)] H) ι' Im)
  (e:yA w H ι Im w' (zm [(β,a)] H) ι' Im):cp X w H ι Im nx (.xL [],[(β,a)],nx) undef w' :=
 ⟨ι',f,e,.xL [] [] rfl z?,ke _,gG c (ke _) (c β _ d)⟩
theorem aB{G:GP}{t:U}{a te:TI}(h:aA G t=Z (a,te)): ∃ti k e,G.ti t=Z ti/\ti.td= .map k e/\G.ti k=Z a/\G.ti e=Z te:=by unfold aA at h;split at h;rotate_left;cases h;rename_i ti f;split at h;rotate_left;cases h;rename_i k e b;split at h<;>cases h;rename_i c d;exact⟨ti,k,e,f,b,c,d⟩
theorem E3{a:Act}{E:uS}(g: ∀t,RA w H ι Im (E.get t) (a.tmps.getD t undef)): ∀(l:W Operand)(i:Y) z v,(l.map (ev E))[i]? =Z z->(l.map a.eval)[i]? =Z v->RA w H ι Im z v:=by intro l i z v d c;simp only[Y?,gD]at d c;obtain⟨f,e,rfl⟩:=d;obtain⟨o2,b,rfl⟩:=c;rw[e]at b;cases b;exact Jm g f
theorem Ah{isMax:C}{l:W AV}{c:W V}(hl:l.length=c.length)(d: ∀(i:Y) x v,l[i]? =Z x->c[i]? =Z v->RA w H ι Im x v)
  {p:PV} (h:aMax isMax l=Z p) (f:A U) (tt:U):
  ∃u,(if isMax then N.max_ f tt ⟨c⟩else N.min_ f tt ⟨c⟩).run P w= .ok u w/\RP w Im p u:=by unfold aMax at h;split at h;rotate_left;(rename_i a b;split at h<;>cases h;rename_i m;obtain⟨v,u,rfl⟩: ∃v u,c=[v,u]:=by match c,hl with|[v,u],_=>exact⟨v,u,rfl⟩);have e:=(d 0 (.pv (.str a)) v z? z?).nZ;have j:=(d 1 (.pv (.str b)) u z? z?).nZ;cases e;cases j;refine⟨.string ⟨⟨if wu a b=T then b else a⟩⟩, ?_,.str _⟩;rw[M m];cases n:wu a b<;>simp[N.max_,N.max2,Op.stringOp,asBool,rY,n];cases h;rename_i k a r;cases c with|nil=>simp at hl|cons v g=>have e:=(d 0 (.pv (.int k a)) v z? z?).nZ;cases e;obtain⟨u,g1,g2⟩:=Ur (P:=P) isMax k r a g (by simpa using hl) (λi x v q o=>d (i+1) x v (by simpa using q) (by simpa using o)) h;refine⟨u, ?_,g2⟩;cases isMax;exact g1;exact g1
theorem PM{G:GP}(j:uZ P G)(hi:zr w H ι Im){nx:Y}{X:Y->Prop}(z:Bd X H nx)(b:N)(f:A U)(tt:U)(consts:A C)
  {l:W AV} {d:W V} (hl:l.length=d.length) (h: ∀(i:Y) x v,l[i]? =Z x->d[i]? =Z v->RA w H ι Im x v) {e:ru} (a:da G b f.toList l H nx=Z e) (hX: ∀γ,X γ->e.2.2<=γ):
  gO X ((builtin b f tt consts ⟨d⟩).run P w) w H ι Im nx e:=by
 unfold da at a;unfold builtin;split at a;{rename_i t r x E;split at a;rotate_left;cases a;rename_i ti ZT;split at a;rotate_left;cases a;rename_i kx;split at a<;>cases a;rename_i n hn;match d,hl with|[v],_=>(have c:=aLen_ok (j _ _ ZT) hi (h 0 x v z? z?) tt kx hn;refine gO.val (s:=N.len_ f tt #[v]) (u:= .int .i64 n) (w' :=w) ?_ (e! hi z (.pv _ _ (.int _ _)));have h0:f[0]? =Z t:=by rw[<- N?,E];rfl);unfold N.len_ at c |-;simp only[q!,i?,h0]at c |-;exact c};rename_i x;(match d,hl with|[v],_=>obtain⟨u,w',c,g⟩:=HH (P:=P) (h 0 x v z? z?) hi z a f tt;exact gO.val (s:=N.unsafeSliceData_ f tt #[v]) c g);{rename_i tp r p x E;split at a;rotate_left;cases a;rename_i ti ZT;split at a;rotate_left;cases a;rename_i el SF;split at a;rotate_left;cases a;rename_i tel htel;split at a;rotate_left;cases a;rename_i h1z;match d,hl with|[vp,o],_=>(have h0:f[0]? =Z tp:=by rw[<- N?,E];rfl);obtain⟨u,w',c,g⟩:=W9 h0 (j _ _ ZT) SF ((j _ _ htel).cellsOf.trans h1z) (h 0 p vp z? z?) (h 1 x o z? z?) hi z a tt;exact gO.val (s:=N.unsafeString_ f tt #[vp,o]) c g};split at a<;>cases a;rename_i p hp;obtain⟨u,c,g⟩:=Ah (P:=P) hl h hp f tt;exact gO.val (s:=N.max_ f tt ⟨d⟩) c (e! hi z (.pv _ _ g));split at a<;>cases a;rename_i p hp;obtain⟨u,c,g⟩:=Ah (P:=P) hl h hp f tt;exact gO.val (s:=N.min_ f tt ⟨d⟩) c (e! hi z (.pv _ _ g))
 ·rename_i ts tx r s x E
  match d,hl with
   |[d,o],_=>
    have key: ∀{e y Zy ti},G.ti ts=Z ti->ti.td= .slice e->G.ti e=Z y->G.ti tx=Z Zy->((∃ e',Zy.td= .slice e')\/Zy.td= .string)-> ∀{ef},orT (ng y s x H nx) (orT (mI e y s x H nx) (tz y s x H nx))=Z ef->(∀ γ,X γ->ef.2.2<=γ)->
      gO X ((do pure (.value (<- N.append_ f tt #[d,o])):Sem Next).run P w) w H ι Im nx ef:=by
     intro e y Zy ti c g q h4 Q ef L hX;obtain⟨u,w',g1,g2⟩: ∃u w',(N.append_ #[ts,tx] tt #[d,o]).run P w= .ok u w' /\cp X w H ι Im nx ef u w' :=by
      cases ha:ng y s x H nx with
      |some r=>
       rw[ha]at L;cases L;exact Cf (j _ _ c) g (j _ _ q) (j _ _ h4) Q tt hi z (h 0 s d z? z?) (h 1 x o z? z?) ha hX
      |none=>
       rw[ha]at L;cases hb:mI e y s x H nx with
       |some r=>
        rw[hb]at L;cases L;exact PI (j _ _ c) g (j _ _ q) (j _ _ h4) Q tt hi z (h 0 s d z? z?) (h 1 x o z? z?) hb
       |none=>
        rw[hb]at L;exact PH (j _ _ c) g (j _ _ q) (j _ _ h4) Q tt hi z (h 0 s d z? z?) (h 1 x o z? z?) L
     refine gO.val (u:=u) (w' :=w') ?_ g2;have q0:f[0]? =Z ts:=by rw[<- N?,E];rfl
     have q1:f[1]? =Z tx:=by rw[<- N?,E];rfl
     unfold N.append_ at g1 |-;simp only[q!,i?,Q?,q0,q1]at g1 |-;exact g1
    split at a;rotate_left;cases a;rename_i ti Zy c g;split at a;{rename_i e e' q h4;split at a;rotate_left;cases a;rename_i y Q;exact key c q Q g (.inl ⟨_,h4⟩) a hX};{rename_i e q h4;split at a;rotate_left;cases a;rename_i y Q;exact key c q Q g (.inr h4) a hX};cases a
 {rename_i ts r s x E;match d,hl with|[d,o],_=>split at a;rotate_left;cases a;rename_i ti c;split at a;rotate_left;cases a;rename_i e0 g;split at a;rotate_left;cases a;(rename_i y q;have q0:f[0]? =Z ts:=by rw[<- N?,E];rfl);obtain⟨u,w',g1,g2⟩:=aCopy_ok (j _ _ c) g (j _ _ q) q0 tt hi z (h 0 s d z? z?) (h 1 x o z? z?) a;exact gO.val (s:=N.copy_ f tt #[d,o]) g1 g2};{rename_i tm r m k E;match d,hl with|[vm,vk],_=>split at a;rotate_left;cases a;rename_i ti c;split at a;rotate_left;cases a;rename_i k0 e0 g;split at a;rotate_left;cases a;(rename_i tk q;split at a<;>cases a;rename_i ws ON;have q0:f[0]? =Z tm:=by rw[<- N?,E];rfl);obtain⟨w',g1,g2⟩:=Ck (j _ _ c) g (j _ _ q) hi z f q0 tt (h 0 m vm z? z?) (h 1 k vk z? z?) ON;exact gO.val (s:=N.delete_ f tt #[vm,vk]) g1 g2};cases a
theorem aop_ok{G:GP}(L:uZ P G)(hi:zr w H ι Im){nx:Y}{X:Y->Prop}(Q:Bd X H nx)
  {a:Act} {E:uS} (hE: ∀t,RA w H ι Im (E.get t) (a.tmps.getD t undef)) (O:jb) (o:Oper) (ep:Uk o.op=F) {e:ru} (g:ry G O o.op E H nx=Z e) (hX: ∀γ,X γ->e.2.2<=γ):
  gO X ((execOp a.eval o).run P w) w H ι Im nx e:=by
 have q:=λx=>Jm hE x;unfold execOp;generalize o.type=Ed;generalize o.op=op at g ep;unfold ry at g;split at g;case h_1 x=>cases g;exact gO.now (e! hi Q (q x))
 case h_2 x=>cases g;exact gO.now (e! hi Q (q x))
 case h_3 c x y=>
  split at g<;>cases g;rename_i t hc;have h:=q c;rw[hc]at h;have h:=h.nZ;generalize hv:a.eval c=vc at h;cases h;refine⟨if t then a.eval x else a.eval y,w,.inl (by simp[hv,asBool]),e! hi Q ?_⟩;cases t
  ·exact q y
  exact q x
 case h_4 t=>
  split at g;rotate_left
  ·cases g
  rename_i ti ZT;split at g
  ·obtain⟨u,w',n,j⟩:=Ce (L _ _ ZT) hi Q g hX;exact gO.val n j
  cases g;obtain⟨u,w',n,j⟩:=Iy (L _ _ ZT) hi Q (l5 hX);exact gO.val n j
 case h_5 t x=>simp[Uk]at ep
 case h_6 t parts=>
  split at g;rotate_left
  ·cases g
  rename_i ti ZT;unfold mY at g;split at g<;>cases g;rename_i v hv;obtain⟨u,n,j⟩:=Iz L (L _ _ ZT) hE parts hv;exact gO.val n (e! hi Q j)
 case h_7 t len parts=>
  split at g;rotate_left
  ·cases g
  rename_i ti ZT;split at g;rotate_left
  ·cases g
  rename_i el kx;split at g;rotate_left
  ·cases g
  rename_i te eg;split at g;rotate_left
  ·cases g
  rename_i hc;split at g
  ·split at g<;>cases g;rename_i es ec;obtain⟨u,w',n,j⟩:=Vw L (L _ _ ZT) kx eg hi Q (l5 hX) hE len parts hc.1 hc.2 ec;exact gO.val n j
  split at g<;>cases g;rename_i es ec;obtain⟨u,w',n,j⟩:=Yt L (L _ _ ZT) kx eg hi Q (l5 hX) hE len parts hc.1 hc.2 ec;exact gO.val n j
 case h_8 t x=>
  split at g;rotate_left
  ·cases g
  rename_i ti ZT;unfold mY at g;split at g<;>cases g;rename_i v hv;obtain⟨u,n,j⟩:=PW (L _ _ ZT) hi (q x) hv;exact gO.val n (e! hi Q j)
 case h_9 t x y=>
  split at g;rotate_left
  ·cases g
  rename_i ti ZT;unfold rn at g;split at g<;>cases g;rename_i ws ON;obtain⟨w',ι',n,j,h3,β,b,b',rfl,hb⟩:=IF (L _ _ ZT) hi (q x) (q y) ON;exact gO.skip n (cp.puts Q hb j h3)
 case h_10 x=>
  split at g<;>cases g;all_goals
   rename_i hx;have h:=q x;rw[hx]at h;generalize hv:a.eval x=vx at h;refine⟨vx,w,.inl ?_,e! hi Q h⟩
  ·cases h;simp[hv]
  ·cases h;simp[hv]
  ·have h:=h.nZ;cases h;simp[hv]
  ·cases h;simp[hv]
  ·have h:=h.nZ;cases h;simp[hv]
  cases h;simp[hv]
 case h_11 op t x y yt=>
  split at g;rotate_left
  ·cases g
  rename_i ti ZT;unfold Vm at g;split at g<;>cases g;rename_i p hp;obtain⟨u,n,j,h3⟩:=aBin_ok L (L _ _ ZT) hi (q x) (q y) op x y hp;exact gO.val (s:=do eqGuard op t x y (a.eval x) (a.eval y);binOp op t (a.eval x) (a.eval y)) (by simp[n,j]) (e! hi Q (.pv _ _ h3))
 case h_12 op t x=>
  unfold Vm at g;split at g<;>cases g;rename_i p hp;obtain⟨u,n,j⟩:=aUn_ok (P:=P) (q x) hp;exact gO.val n (e! hi Q (.pv _ _ j))
 case h_13 s d x=>
  split at g
  ·rename_i hsd;subst hsd;obtain⟨u,w',n,j⟩:=Na L hi Q (q x) g;exact gO.val n j
  split at g;rotate_left
  ·cases g
  rename_i ts td Y7 kx;obtain⟨u,w',n,j⟩:=PN L (L _ _ Y7) (L _ _ kx) hi Q (q x) g hX;exact gO.val n j
 case h_14 f x y=>
  cases g;refine gO.val (s:=Instr.makeFunc (.func f) (x.map a.eval) (y.map a.eval)) (w' :=w) rfl (e! hi Q ?_);have listR: ∀(l:W Operand)(i:Y) z v,(l.map (ev E))[i]? =Z z->(l.map a.eval)[i]? =Z v->RA w H ι Im z v:=by
   intro l i z v n j;simp only[Y?,gD]at n j;obtain⟨o1,q1,rfl⟩:=n;obtain⟨o2,q2,rfl⟩:=j;rw[q1]at q2;cases q2;exact q o1
  have hx:x.map a.eval=⟨x.toList.map a.eval⟩:=by apply I!; simp
  have hy:y.map a.eval=⟨y.toList.map a.eval⟩:=by apply I!; simp
  rw[hx,hy];split
  ·rename_i n j;rw[n,j];exact .pv _ _ (.fn f)
  exact .XK f _ _ _ _ z? z? (listR _) (listR _)
 case h_15 t=>
  cases g;obtain⟨u,w',n,j⟩:=PY (P:=P) t hi Q (l5 hX);exact gO.val n j
 case h_16 t x lo gS mx=>
  split at g;rotate_left
  ·cases g
  rename_i ti ZT;unfold mY at g;split at g<;>cases g;rename_i v hv;obtain⟨u,n,j⟩:=IE L (L _ _ ZT) hi hE (q x) lo gS mx hv;exact gO.val n (e! hi Q j)
 case h_17 t x f=>
  split at g;rotate_left
  ·cases g
  rename_i ti ZT;unfold mY at g;split at g<;>cases g;rename_i v hv;obtain⟨u,n,j⟩:=HC (L _ _ ZT) (q x) hv;exact gO.val n (e! hi Q j)
 case h_18 t x f=>
  split at g;rotate_left
  ·cases g
  rename_i ti ZT;split at g;rotate_left
  ·cases g
  rename_i fs kx;split at g;rotate_left
  ·cases g
  rename_i off sz tf hf;split at g;rotate_left
  ·cases g
  rename_i tif htif;unfold mY at g;split at g<;>cases g;rename_i v hv;obtain⟨fields,hu,rfl⟩:=(L _ _ ZT).struct kx;simp only[Y?,gD]at hf;obtain⟨fd,hf,hfe⟩:=hf;simp only[Prod.mk.injEq]at hfe;obtain⟨rfl,rfl,rfl⟩:=hfe;have hfa:fields[f]? =Z fd:=by rw[<- hf];simp
  obtain⟨cs,u,h0,n,j⟩:=T0 (L _ _ htif) (q x) hv;refine gO.val (s:=Instr.field t (a.eval x) f) (u:=u) (w' :=w) ?_ (e! hi Q j);unfold Instr.field;simp only[w9,qA hu,tV,hfa,h0,asAgg,H?,n]
 case h_19 t x i=>
  split at g;rotate_left
  ·cases g
  rename_i ti ZT;unfold mY at g;split at g<;>cases g;rename_i v hv;obtain⟨u,n,j⟩:=HD L (L _ _ ZT) hi (q x) (q i) hv;exact gO.val n (e! hi Q j)
 case h_20 t x i=>
  split at g;rotate_left
  ·cases g
  rename_i ti ZT;split at g
  ·rename_i s k kx hx hk;split at g<;>cases g;rename_i b hb;obtain⟨kd,Ka⟩:=KG (q i) hk;have h:=q x;rw[hx]at h;have h:=h.nZ;generalize hv:a.eval x=vx at h;cases h;refine gO.val (s:=Instr.index t (a.eval x) (a.eval i)) (u:= .int .u8 b.toNat) (w' :=w) ?_ (e! hi Q (.pv _ _ (.int _ _)));have hbb:(ByteArray.mk ⟨s⟩)[k]? =Z b:=by
    obtain⟨jv,he⟩:=qK hb;have:k<(ByteArray.mk ⟨s⟩).size:=jv;rw[getElem?_pos (ByteArray.mk ⟨s⟩) k this];exact congrArg Z he
   unfold Instr.index;simp[hv,Ka,asIntOf,qA ((L _ _ ZT).string kx),hbb]
  ·rename_i len el k kx hk;split at g;rotate_left
   ·cases g
   rename_i s9;split at g;rotate_left
   ·cases g
   rename_i te eg;unfold mY at g;split at g<;>cases g;rename_i r hrr;obtain⟨kd,Ka⟩:=KG (q i) hk;obtain⟨cs,u,h0,n,j⟩:=T0 (L _ _ eg) (q x) hrr;refine gO.val (s:=Instr.index t (a.eval x) (a.eval i)) (u:=u) (w' :=w) ?_ (e! hi Q j);unfold Instr.index;simp[Ka,asIntOf,qA ((L _ _ ZT).array kx),s9,(L _ _ eg).size,h0,n]
  cases g
 case h_21 t m k ok=>
  split at g;rotate_left
  ·cases g
  rename_i tk te hmt;unfold mY at g;split at g<;>cases g;rename_i v hv;obtain⟨ti,k0,e0,q1,q2,q3,q4⟩:=aB hmt;split at hv
  ·obtain⟨u,n,j⟩:=PX (L _ _ q1) q2 (L _ _ q3) (L _ _ q4) hi (q m) (q k) hv;exact gO.val n (e! hi Q j)
  obtain⟨u,n,j⟩:=Cn (L _ _ q1) q2 (L _ _ q3) (L _ _ q4) hi (q m) (q k) hv;exact gO.val n (e! hi Q j)
 case h_22 t m k x=>
  split at g
  ·unfold X3 at g;split at g;rotate_left
   ·cases g
   rename_i tk te hmt;split at g;rotate_left
   ·cases g
   unfold rn at g;split at g<;>cases g;rename_i ws ON;obtain⟨ti,k0,e0,q1,q2,q3,q4⟩:=aB hmt;obtain⟨w',n,j⟩:=T1 (L _ _ q1) q2 (L _ _ q3) hi Q (q m) (q k) (q x) ON;exact gO.skip n j
  split at g;rotate_left
  ·cases g
  rename_i tk te p hmt hp;split at g;rotate_left
  ·cases g
  unfold rn at g;split at g<;>cases g;rename_i ws ON;obtain⟨ti,k0,e0,q1,q2,q3,q4⟩:=aB hmt;obtain⟨w',n,j⟩:=YC (L _ _ q1) q2 (L _ _ q3) hi Q (q m) (q k) (KM (q x) hp) ON;exact gO.skip n j
 case h_23 t m k x=>
  split at g;rotate_left
  ·cases g
  rename_i tk te p hmt hp;split at g;rotate_left
  ·cases g
  unfold rn at g;split at g<;>cases g;rename_i ws ON;obtain⟨ti,k0,e0,q1,q2,q3,q4⟩:=aB hmt;obtain⟨w',n,j⟩:=YC (L _ _ q1) q2 (L _ _ q3) hi Q (q m) (q k) (KM (q x) hp) ON;exact gO.skip n j
 case h_24 t m k=>
  split at g;rotate_left
  ·cases g
  rename_i tk te hmt;split at g<;>cases g;rename_i v ws ON;obtain⟨ti,k0,e0,q1,q2,q3,q4⟩:=aB hmt;obtain⟨u,w',n,j⟩:=IB (L _ _ q1) q2 (L _ _ q3) (L _ _ q4) hi Q (q m) (q k) ON;exact gO.val n j
 case h_25 t m st x=>
  split at g;rotate_left
  ·cases g
  rename_i p hp;unfold rn at g;split at g<;>cases g;rename_i ws ON;obtain⟨w',n,j⟩:=Yx (P:=P) t hi Q (q m) (q st) (KM (q x) hp) ON;exact gO.skip n j
 case h_26 x i=>
  split at g;rotate_left
  ·cases g
  rename_i l hl;split at g<;>cases g;rename_i v hv;have h:=q x;rw[hl]at h;generalize hvx:a.eval x=vx at h;cases h with
  |xL _ vs hlen hR=>
   obtain⟨u,hu⟩: ∃u,vs[i]? =Z u:=⟨vs[i]'(by rw[<- hlen];exact(qK hv).1),z?⟩;refine⟨u,w,.inl ?_,e! hi Q (hR i v u hv hu)⟩;have:(⟨vs⟩:A V)[i]? =Z u:=by simpa using hu
   simp[hvx,Instr.extract,this]
 case h_27 b args ai=>
  have D8:(do let d <-resolve a.eval { callee:= .builtin b,args:=args,argTypes:=ai } Ed;invoke d.target d.args:Sem Next).run P w=
    (builtin b ai Ed (args.map λ| .const _=>T|_=>F) ⟨args.toList.map a.eval⟩).run P w:=by
   have:args.map a.eval=⟨args.toList.map a.eval⟩:=by apply I!; simp
   simp only[resolve,w9,H?,tV,invoke,this];rfl
  show gO X ((do let d <-resolve a.eval { callee:= .builtin b,args:=args,argTypes:=ai } Ed;invoke d.target d.args:Sem Next).run P w) w H ι Im nx e;rw[D8];exact PM L hi Q b ai Ed _ z? (E3 hE args.toList) g hX
 case h_28=>simp[Uk]at ep
 case h_29 t x y=>
  split at g;rotate_left
  ·cases g
  rename_i ti ZT;have hX' : ∀γ,X γ->nx+1<=γ:=by
   unfold fg at g;split at g;rotate_left
   ·cases g
   split at g;rotate_left
   ·cases g
   split at g<;>cases g;exact hX
  obtain⟨u,w',n,j⟩:=HG L (L _ _ ZT) hi Q hX' (q x) (q y) g;exact gO.val n j
 case h_30=>cases g
end
section
variable [xY] {P:D} {w:World} {H:qt} {ι:uT} {Im:Y->Prop}
theorem QT(β:Y)(b:C)(a:Y)(es:W (W PV)): ∀(l:W AV)(i:Y),(AV.uW.cX β b a es l)[i]? =(l[i]?).map (AV.uW β b a es)
 |[],i=>by simp[AV.uW.cX]
 |x::r,i=>by cases i with|zero=>simp[AV.uW.cX]|succ i=>simp[AV.uW.cX,QT β b a es r i]
theorem J0(β:Y)(b:C)(a:Y)(es:W (W PV)): ∀(l:W AV),(AV.uW.cX β b a es l).length=l.length
 |[]=>rfl
 |x::r=>by simp[AV.uW.cX,J0 β b a es r]
theorem q0y(β:Y)(b:C)(a:Y)(es:W (W PV)){x:AV}(h:x.vw=T):(x.uW β b a es).vw=T:=by cases x<;>simp[AV.vw]at h<;>simp only[AV.uW];all_goals first|exact h|rfl|(split<;>rfl)
theorem K1(β:Y)(b:C)(a:Y)(es:W (W PV)){l:W AV}(h: ∀x∈l,x.vw=T): ∀x∈AV.uW.cX β b a es l,x.vw=T:=by intro x d;obtain⟨i,hi⟩:=kS d;rw[QT]at hi;simp only[gD]at hi;obtain⟨y,c,rfl⟩:=hi;exact q0y β b a es (h y (zj c))
theorem V9(β:Y)(c:C)(a:Y)(es:W (W PV)): ∀(H:qt)(γ:Y),
  L! (H.map λ(i,b)=>(i,b.uW β c a es)) γ=(H.get γ).map (q1t β c a es)
 |[],γ=>rfl
 |(i,b)::r,γ=>by simp only[e?,L!];split;rfl;exact V9 β c a es r γ
theorem qD.q0A(β:Y)(c:C)(a:Y)(es:W (W PV))(b:qD):(b.uW β c a es).used=b.used:=by cases b<;>rfl
def gR(β:Y)(c:C)(a:Y)(es:W (W PV))(H:qt):qt:=k_ (H.map λ(i,b)=>(i,b.uW β c a es)) β .xA
theorem wj(β:Y)(b:C)(a:Y)(es:W (W PV))(H:qt)(γ:Y):
  (gR β b a es H).get γ=if γ=β then Z .xA else(H.get γ).map (q1t β b a es):=by unfold gR;rw[d!,V9]
def tB(ι:uT)(β:Y)(a:C)(Im:Y->Prop):Y->Prop:=λb=>Im b\/(a=F/\b=(ι β).b)
theorem row_pure(hi:zr w H ι Im){β:Y}{c:C}{sz:Y}{es:W (W PV)}(r:H.get β=Z (.row c sz es)){off n:Y}{v:V}
  (h1:off+n<=es.length) (f:if c=T then v= .slice R 0 0 else ∃a,v= .slice (Z a) n ((ι β).cap-off)/\a.spot=R/\a.block=(ι β).b/\(off<(ι β).cap->a.off=off*sz)):
  RP w (tB ι β c Im) (L4 c sz ((es.drop off).take n)) v:=by
 refine RP.mk ?_;cases c
 ·simp only[vH,if_false]at f;obtain⟨a,rfl,t,o,u⟩:=f;obtain⟨ab,Q,II⟩:=a;simp only at t o u;subst t o;obtain⟨l,elem,fz,g1,g2,g3,g4,g5,g6,g7,g8⟩:=hi.row r;have hlen:((es.drop off).take n).length=n:=v?;have m: ∀(i:Y) e,((es.drop off).take n)[i]? =Z e->i<n/\es[off+i]? =Z e:=by intro i e d;have:=(qK d).1;have s:i<n:=o?;rw[G? s,h!]at d;exact⟨s,d⟩
  have z: ∀b,Im b->tB ι β F Im b:=λb h=> .inl h;have key:=RP.sl (w:=w) (Im:=tB ι β F Im) sz ((es.drop off).take n) (ι β).b Q ((ι β).cap-off) (λi=>(l[off*sz+i]?).getD undef)
   (λ_=> .inr ⟨rfl,rfl⟩) o? (λe E=>g6 e (j! (U? E))) (λi q=>by
    rw[hlen]at q
    have hn:0<n:=by
     rcases q0o n with h|h
     ·subst h;simp at q
     exact h
    have:=u o?
    subst this
    rw[nT g1]
    have e1:(off+n)*sz<=(ι β).cap*sz:=mulR _ o?
    rw[S?]at e1
    have:off*sz+i<l.size:=o?
    simp[this])
   (λi e j p k g=>g7 _ e j p (m i e k).2 g) (λi e j p k g=>by
    obtain⟨_,d⟩:=m i e k
    obtain⟨v,y,x⟩:=g8 _ e j p d g
    have e1:off*sz+(i*sz+j)=(off+i)*sz+j:=by rw[S?];omega
    simp only[e1,y,B.getD_some]
    exact x.mono z λ_ _=>rfl) R (λ_=>rfl)
  rw[hlen]at key;exact key
 simp only[if_true]at f;subst f;have L:es=[]:=hi.d5 β _ r;subst L;have:(([]:W (W PV)).drop off).take n=[]:=z?;rw[this];exact .oZ sz
theorem lz(β:Y)(c:C)(a:Y)(es:W (W PV))(b:qD):(b.uW β c a es).sh=b.sh:=by cases b<;>simp[q1t,q04]
theorem q0z{β:Y}{c:C}{d:Y}{es:W (W PV)}(hb:H.get β=Z (.row c d es)){β' a off n:Y}{v:V}(j:RA w H ι Im (.row β' a off n) v):
  RA w (gR β c d es H) ι (tB ι β c Im) (.row β' a off n) v:=by cases j with|row _ _ _ _ _ b f i l k h=>by_cases g:β' =β;subst g;exact .row β' a off n v .xA f (by simp[wj]) (λh=>I rfl h) (λ_ _ _ e=>by cases e) (λ_ _ _ e=>by cases e);refine .row β' a off n v (b.uW β c d es) f (by simp[wj,g,i]) (λh=>?_) (λm p o e=>?_) (λm p o e=>?_);rw[lz];exact l (λe=>h (by rw[e];rfl));rw[lz]at e;exact k _ _ _ e;rw[lz]at e;exact h _ _ _ e
theorem Yl(hi:zr w H ι Im){β:Y}{d:C}{g:Y}{es:W (W PV)}(X:H.get β=Z (.row d g es)){x:AV}{v:V}(hx:RA w H ι Im x v):
  RA w (gR β d g es H) ι (tB ι β d Im) (x.uW β d g es) v:=by
 have hm: ∀b,Im b->tB ι β d Im b:=λb h=> .inl h;have hw: ∀b,Im b->w.heap[b]? =w.heap[b]? :=λ_ _=>rfl;have q: ∀(β' m off n:Y)(v:V)(b:qD),eH v=T->H.get β' =Z b->(b≠ .xA-> ∃d g l,b.sh=Z (d,g,l))->(∀ d g l,b.sh=Z (d,g,l)->m<=l)->
   (∀ d g l,b.sh=Z (d,g,l)->m=l->off+n<=l/\
    if d=T then v= .slice R 0 0
    else ∃a,v= .slice (Z a) n ((ι β').cap-off)/\a.spot=R/\a.block=(ι β').b/\(off<(ι β').cap->a.off=off*g))->
   RA w (gR β d g es H) ι (tB ι β d Im) (.row β' m off n) v:=by
  intro β' m off n v b Q j r hv h;by_cases u:β' =β
  ·subst u;exact .row β' m off n v .xA Q (by simp[wj]) (λh=>I rfl h) (λ_ _ _ e=>by cases e) (λ_ _ _ e=>by cases e)
  refine .row β' m off n v (b.uW β d g es) Q (by simp[wj,u,j]) (λh=>?_) (λdp FU E e=>?_) (λdp FU E e=>?_)
  ·rw[lz];exact r (λe=>h (by rw[e];rfl))
  ·rw[lz]at e;exact hv _ _ _ e
  rw[lz]at e;exact h _ _ _ e
 have L: ∀(c:W AV)(k:W V),c.length=k.length->(∀(i:Y) x v,c[i]? =Z x->k[i]? =Z v->RA w (gR β d g es H) ι (tB ι β d Im) (x.uW β d g es) v)->
   (AV.uW.cX β d g es c).length=k.length/\ ∀(i:Y) x v,(AV.uW.cX β d g es c)[i]? =Z x->k[i]? =Z v->RA w (gR β d g es H) ι (tB ι β d Im) x v:=by
  intro c k hl h;refine⟨by rw[J0,hl],λi x v z h2=>?_⟩;rw[QT]at z;simp only[gD]at z;obtain⟨y,hy,rfl⟩:=z;exact h i y v hy h2
 induction hx with|undef v=>exact .undef v|pv p v h=>exact .pv p v (h.mono hm hw)|ptr β' o b' j r=>((have kN:β' ≠β:=by intro e;subst e;rw[X]at j;cases j;cases r);exact .ptr β' o (b'.uW β d g es) (by simp[wj,kN,j]) (by cases b' <;>first|rfl|cases r))|bP β' m i o b1 o1 b j kA h=>by_cases u:β' =β;subst u;exact .bP β' m i o b1 o1 .xA (by simp[wj]) (λ_ _ _ e=>by cases e) (λ_ _ _ e=>by cases e);refine .bP β' m i o b1 o1 (b.uW β d g es) (by simp[wj,u,j]) (λdp FU E e=>?_) (λdp FU E e=>?_);rw[lz]at e;exact kA _ _ _ e;rw[lz]at e;exact h _ _ _ e|row β' m off n v b Q j r kA h=>simp only[AV.uW];split;rename_i hc;obtain⟨rfl,hv⟩:=hc;rw[X]at j;cases j;obtain⟨z,h2⟩:=h _ _ _ rfl hv;exact .pv _ _ (row_pure hi X z h2);exact q β' m off n v b Q j r kA h|cE c o b off k Ja hc hf h=>exact .cE c o b off k (hm b Ja) hc hf λi p hp=>(h i p hp).mono hm hw|QZ a=>exact .QZ a|map β' E xf j=>(have kN:β' ≠β:=by intro e;subst e;rw[X]at j;cases j);exact .map β' E xf (by simp[wj,kN,j,q1t])|XK f a b va vb HW AH _ _ iha ihb=>obtain⟨t,s⟩:=L a va HW iha;obtain⟨q3,q4⟩:=L b vb AH ihb;exact .XK f _ _ va vb t q3 s q4|agg c k hl hf _ ih=>obtain⟨t,s⟩:=L c k hl ih;exact Xo t (K1 β d g es hf) s|xL c k hl _ ih=>obtain⟨t,s⟩:=L c k hl ih;exact .xL _ k t s
theorem qD.thaw_isO(β:Y)(c:C)(a:Y)(es:W (W PV))(b:qD):(b.uW β c a es).AX=b.AX:=by cases b<;>rfl
theorem qD.J1{β:Y}{c:C}{a:Y}{es:W (W PV)}{b:qD}{q:Pl}{x:Y}(h:(b.uW β c a es).uH q x):b.uH q x:=by unfold qD.uH at*;rw[qD.q0A,qD.thaw_isO]at h;exact h
theorem GL(hi:zr w H ι Im){β:Y}{f:C}{m:Y}{es:W (W PV)}(r:H.get β=Z (.row f m es)):
  zr w (gR β f m es H) ι (tB ι β f Im)/\yA w H ι Im w (gR β f m es H) ι (tB ι β f Im):=by
 have hm: ∀b,Im b->tB ι β f Im b:=λb h=> .inl h;have hw: ∀b,Im b->w.heap[b]? =w.heap[b]? :=λ_ _=>rfl;have AO:f=F->(qD.row f m es).used=T:=λh=>by simp[v_,h]
 refine⟨⟨λγ b d=>?_,λγ γ' b b' z g l u1 u2=>?_,λb h=>?_,λγ b z d hu h=>?_,hi.TG,λb r=> .inl (hi.HS b r)⟩,⟨λγ b d=>?_,hm,λb h=>?_,λγ x z d hu=>?_,λ_ _ _=>rfl,ke _,rfl,rfl⟩⟩;rw[wj]at d;split at d;cases d;trivial;(simp only[gD]at d;obtain⟨t,u,rfl⟩:=d;have s:=hi.d5 γ t u;cases t with|box c=>obtain⟨E,elem,fz,q,o,n,Q,L⟩:=s;refine⟨E,elem,fz,q,o,by rw[J0,n],K1 β f m es Q,λi x v a b=>?_⟩;rw[QT]at a;simp only[gD]at a;obtain⟨y,hy,rfl⟩:=a;exact Yl hi r (L i y v hy b)|row dp FU Ze=>(cases dp with|true=>exact s|false=>obtain⟨E,elem,fz,q,o,n,Q,L,q6,q7,q8⟩:=s;refine⟨E,elem,fz,q,o,n,Q,L,q6,q7,λi e j p a b=>?_⟩;obtain⟨v,k1,X⟩:=q8 i e j p a b;exact⟨v,k1,X.mono hm hw⟩)|map Ze xf=>obtain⟨xZ,q,o,n⟩:=s;refine⟨xZ,q,o,λi k x born e a b=>?_⟩;obtain⟨k1,X,k3⟩:=n i k x born e a b;exact⟨k1.mono hm hw,X.mono hm hw,k3⟩|rq FU Ze=>(obtain⟨E,elem,fz,q,o,n,Q,L,q6,q7,q8⟩:=s;have get: ∀(i:Y) e(j:Y) x,(Ze.map (AV.uW.cX β f m es))[i]? =Z e->e[j]? =Z x-> ∃e0 y,Ze[i]? =Z e0/\e0[j]? =Z y/\x=y.uW β f m es/\e=AV.uW.cX β f m es e0:=by intro i e j x g l;rw[Y?,gD]at g;obtain⟨e0,g,rfl⟩:=g;rw[QT,gD]at l;obtain⟨y,l,rfl⟩:=l;exact⟨e0,y,g,l,rfl,rfl⟩);refine⟨E,elem,fz,q,o,n,Q,by simpa using L,λe he=>?_,λi e j x a b=>?_,λi e j x a b=>?_⟩;obtain⟨e0,s,rfl⟩:=B?.1 he;rw[J0];exact q6 e0 s;(obtain⟨e0,y,g,l,rfl,rfl⟩:=get i e j x a b;have hf: ∀x∈e0,x.vw=T:=λx hx=>by obtain⟨j',AE⟩:=kS hx;exact q7 i e0 j' x g AE);exact K1 β f m es hf _ (zj b);obtain⟨e0,y,g,l,rfl,rfl⟩:=get i e j x a b;obtain⟨v,k1,X⟩:=q8 i e0 j y g l;exact⟨v,k1,Yl hi r X⟩|we dp An Ze ZS=>(cases dp with|true=>exact s|false=>obtain⟨E,elem,fz,q,o,n,Q,L,q6,q7,q8,q9⟩:=s;refine⟨E,elem,fz,q,o,n,Q,L,q6,q7,q8,λi p k a b=>?_⟩;obtain⟨v,k1,X,k3⟩:=q9 i p k a b;exact⟨v,k1,λhj=>(X hj).mono hm hw λ_ _=>rfl,λγ xS hf=>⟨(k3 γ xS hf).1,q0z r (k3 γ xS hf).2⟩⟩)|xA=>trivial);rw[wj]at g l;split at g;cases g;cases u1.1;split at l;cases l;cases u2.1;simp only[gD]at g l;obtain⟨t,u,rfl⟩:=g;obtain⟨b1,GR,rfl⟩:=l;exact hi.inj γ γ' t b1 z u GR (qD.J1 u1) (qD.J1 u2);rcases h with h|⟨hn,rfl⟩;exact hi.im b h;exact(hi.d5 β _ r).lt (AO hn);rw[wj]at d;split at d;cases d;cases hu.1;rename_i kN;simp only[gD]at d;obtain⟨t,u,rfl⟩:=d;have hu:=qD.J1 hu;rcases h with h|⟨hn,h⟩;exact hi.Hn γ t z u hu h;exact kN (hi.inj γ β t _ z u r hu ⟨AO hn,.inl h⟩);by_cases he:γ=β;subst he;rw[r]at d;cases d;exact⟨.xA,by simp[wj],rfl⟩;refine⟨b.uW β f m es,by simp[wj,he,d], ?_⟩;cases b<;>simp[q1t,jJ,q04,Pl.wV];rcases h with h|⟨hn,rfl⟩;exact .inl h;exact .inr (.inr ⟨β,_,r,AO hn,.inl rfl⟩);rw[wj]at d;split at d;cases d;cases hu.1;simp only[gD]at d;obtain⟨t,u,rfl⟩:=d;exact .inr ⟨γ,t,u,qD.J1 hu⟩
structure Inv (w:World) (a:Act) (s:St) (ι:uT) (Im:Y->Prop) (nt:Y):Prop where
 heap:zr w s.heap ι Im
 env: ∀t,RA w s.heap ι Im (s.env.get t) (a.tmps.getD t undef)
 nx: ∀β b,s.heap.get β=Z b->β<s.nx
 size:nt<=a.tmps.size
 defers:a.defers=[]
theorem JH(f:AV->AV)(a:f .undef= .undef): ∀(E:uS)(t:Y),U! (E.map λ(t,v)=>(t,f v)) t=f (E.get t)
 |[],t=>by simp[U!,a]
 |(i,v)::r,t=>by simp only[e?,U!];split;rfl;exact JH f a r t
theorem oT{α:Type}{d:Y}: ∀(es:W (W α))(i:Y),(∀ e∈es,e.length=d)-> ∀e(j:Y) p,es[i]? =Z e->e[j]? =Z p->es.flatten[i*d+j]? =Z p
 |[],i,_,e,j,p,h,_=>by simp at h
 |x::r,0,hl,e,j,p,h,a=>by simp at h;subst h;have:=(qK a).1;rw[Y.zero_mul,x!,V!,c? this];exact a
 |x::r,i+1,hl,e,j,p,h,a=>by have b:=hl x z?;rw[V!,J? (by rw[b,T?];omega),b];have c:=oT r i (λe f=>hl e (by simp[f])) e j p (by simpa using h) a;rw[show (i+1)*d+j-d=i*d+j by rw[T?];omega];exact c
theorem ZL.vw{a:W Y}{p:PV}{v:V}{k:Sk}(h:ZL w Im a p v k):p.vw=T:=by cases h with|UQ p v hs h=>(cases p<;>first|rfl|cases hs)|nil=>rfl|sl=>rfl
theorem ZL.pure{n:Y->Prop}(hm: ∀b,Im b->n b){t:W Y}{p:PV}{v:V}{k:Sk}(h:ZL w Im t p v k):(∀ x∈k.blocks,n x)->RP w n p v:=by
 induction h with
  |UQ p v hs h=>exact λ_=>h.mono hm λ_ _=>rfl
  |nil d t=>exact λ_=> .oZ 0
  |sl d t es b o cap ks vs elem fz hb hfz hvs hd m Q s GU val VO X q=>
   (intro z;have a:es≠[]->xB d es=d:=λh=>by cases es with|nil=>exact I rfl h|cons _ _=>rfl);have Kv: ∀(i:Y) e(j:Y) p,es[i]? =Z e->e[j]? =Z p->es.flatten[i*d+j]? =Z p:=λi e j p f l=>oT es i s e j p f l;have L: ∀{i:Y}{e:W PV},es[i]? =Z e->es≠[]:=λh c=>by rw[c]at h;cases h
   have E: ∀(i:Y) e(j:Y) p,es[i]? =Z e->e[j]? =Z p-> ∃k,ks[i*d+j]? =Z k/\ZL w Im t p (val (i*d+j)) k/\RP w n p (val (i*d+j)):=λi e j p f l=>by
    have g:=Kv i e j p f l;have h4:=(qK g).1;obtain⟨k,u⟩: ∃k,ks[i*d+j]? =Z k:=⟨ks[i*d+j]'(o?),z?⟩;exact⟨k,u,X _ p k g u,q _ p k g u λx hx=>z x (by
     simp only[v!,K?,Q!]
     exact .inr ⟨k,zj u,hx⟩)⟩
   refine .sl (xB d es) es b o cap val (λ_=>z b (by simp[v!])) m (λe c=>?_) (λi y=>?_) (λi e j p f l=>?_) (λi e j p f l=>?_) R (λ_=>rfl);rw[a (W.ne_nil_of_mem c)];exact s e c;(have hn:es≠[]:=λc=>by subst c;simp at y);(rw[a hn]at y;have cz:=W.length_pos_iff.2 hn;rw[Q o?,x!,nT hb];have hfll:es.flatten.length=es.length*d:=by clear Kv E L a X q z VO GU m hn cz y Q;induction es with|nil=>simp|cons x r q=>rw[V!,p?,q (λe c=>s e (by simp[c])),s x z?,b?,T?];omega);exact VO i o?;obtain⟨k,_,g,_⟩:=E i e j p f l;exact g.vw;rw[a (L f)];obtain⟨k,_,_,g⟩:=E i e j p f l;exact g
theorem seal_ok(hi:zr w H ι Im){β:Y}{f:C}{t:W Y}{es:W PV}(g:H.get β=Z (.we f t es R)):
  ∃wc,zr w (H.put β (.row f 1 (es.map λp=>[p]))) ι wc/\yA w H ι Im w (H.put β (.row f 1 (es.map λp=>[p]))) ι wc:=by
 let wc:Y->Prop:=λb=>Im b\/(f=F/\b∈(ι β).ks.flatMap v!);have E: ∀b,Im b->wc b:=λb h=> .inl h;have u: ∀{x:Y},f=F/\x∈(ι β).ks.flatMap v!->(qD.we f t es R).uH (ι β) x:=λh=>⟨by simp[v_,h.1],.inr ⟨rfl,h.2⟩⟩;have r: ∀{x:Y},(qD.row f 1 (es.map λp=>[p])).uH (ι β) x->f=F/\x=(ι β).b:=λh=>by refine⟨by simpa[v_]using h.1, ?_⟩;rcases h.2 with h|⟨h,_⟩;exact h;cases h
 have AM: ∀{x:Y},(qD.row f 1 (es.map λp=>[p])).uH (ι β) x->(qD.we f t es R).uH (ι β) x:=λh=>⟨by simp[v_,(r h).1],.inl (r h).2⟩;have m:yA w H ι Im w (H.put β (.row f 1 (es.map λp=>[p]))) ι wc:=by refine⟨λγ b d=>?_,E,λb h=>?_,λγ x z d hu=>?_,λ_ _ _=>rfl,ke _,rfl,rfl⟩;by_cases e:γ=β;subst e;rw[g]at d;cases d;exact⟨.row f 1 (es.map λp=>[p]),by simp[d!],by simp[jJ,q04,Pl.wV]⟩;exact⟨b,by simp[d!,e,d],ni _ _⟩;rcases h with h|h;exact .inl h;exact .inr (.inr ⟨β,_,g,u h⟩);by_cases e:γ=β;subst e;simp only[d!,if_true,wO]at d;subst d;exact .inr ⟨γ,_,g,AM hu⟩;simp only[d!,e,if_false]at d;exact .inr ⟨γ,x,d,hu⟩
 have hold: ∀{γ:Y}{b:qD},(H.put β (.row f 1 (es.map λp=>[p]))).get γ=Z b-> ∃l,H.get γ=Z l/\ ∀{x:Y},b.uH (ι γ) x->l.uH (ι γ) x:=λ{γ b} h=>by by_cases e:γ=β;subst e;simp only[d!,if_true,wO]at h;subst h;exact⟨_,g,AM⟩;simp only[d!,e,if_false]at h;exact⟨b,h,id⟩
 refine⟨wc,⟨λγ b d=>?_,λγ γ' b b' z o n u1 u2=>?_,λb h=>?_,λγ b z d hu h=>?_,hi.TG,λb g=> .inl (hi.HS b g)⟩,m⟩;by_cases e:γ=β;(subst e;simp only[d!,if_true,wO]at d;subst d;cases f with|true=>have:es=[]:=(hi.d5 γ _ g).1;subst this;rfl|false=>(obtain⟨y,elem,fz,o,n,h3,h4,h5,h6,h7,h8,X⟩:=hi.we g;have Q: ∀(i:Y) e(j:Y) p,(es.map λp=>[p])[i]? =Z e->e[j]? =Z p->j=0/\es[i]? =Z p:=by intro i e j p a b;rw[Y?,gD]at a;obtain⟨q,a,rfl⟩:=a;cases j with|zero=>simp at b;subst b;exact⟨rfl,a⟩|succ j=>simp at b);(have L: ∀{i:Y}{p:PV},es[i]? =Z p-> ∃k,(ι γ).ks[i]? =Z k:=λ{i p} a=>by have:=(qK a).1;exact⟨(ι γ).ks[i]'(o?),z?⟩);refine⟨y,elem,fz,o,n,by simpa using h3,o?,by simpa using h4,λe m=>?_,λi e j p a b=>?_,λi e j p a b=>?_⟩;obtain⟨q,_,rfl⟩:=B?.1 m;rfl;obtain⟨rfl,a⟩:=Q i e j p a b;obtain⟨k,c⟩:=L a;obtain⟨v,_,s,_⟩:=X i p k a c;exact(s λ_ _ _ h=>by cases h).vw;obtain⟨rfl,a⟩:=Q i e j p a b;obtain⟨k,c⟩:=L a;obtain⟨v,k1,s,_⟩:=X i p k a c;refine⟨v,by simpa using k1,(s λ_ _ _ h=>by cases h).pure E λx hx=> .inr ⟨rfl,Q!.2 ⟨k,zj c,hx⟩⟩⟩);simp only[d!,e,if_false]at d;exact(hi.d5 γ b d).mono hi m λ_=>⟨rfl,λ_ _=>rfl⟩;obtain⟨l,g1,g2⟩:=hold o;obtain⟨b1,g3,g4⟩:=hold n;exact hi.inj γ γ' l b1 z g1 g3 (g2 u1) (g4 u2);rcases h with h|h;exact hi.im b h;exact(hi.d5 β _ g).fY (u h);obtain⟨l,g1,g2⟩:=hold d;rcases h with h|h;exact hi.Hn γ l z g1 (g2 hu) h;have e:=hi.inj γ β l _ z g1 g (g2 hu) (u h);subst e;simp only[d!,if_true,wO]at d;subst d;obtain⟨e1,e2⟩:=r hu;subst e1;obtain⟨y,elem,fz,o,n,h3,h4,h5,h6,_⟩:=hi.we g;rw[e2]at h;exact(o!.1 h6).1 h.2
theorem Vl(f:qD->qD)(β:Y)(y z:qD): ∀H:qt,k_ ((k_ H β y).map λ(i,b)=>(i,f b)) β z=k_ (H.map λ(i,b)=>(i,f b)) β z
 |[]=>by simp[k_]
 |(i,b)::r=>by by_cases h:i=β;simp[k_,h];simp only[k_,h,if_false,e?];rw[Vl f β y z r]
theorem Ou{a:Act}{s:St}{nt:Y}(h:Inv w a s ι Im nt)(β:Y):
  ∃wc,Inv w a (freeze β s) ι wc nt/\yA w s.heap ι Im w (freeze β s).heap ι wc:=by unfold freeze;split;rename_i d o es f;obtain⟨j,g⟩:=GL h.heap f;refine⟨_,⟨j,λt=>?_,λγ b k=>?_,h.size,h.defers⟩,g⟩;show RA w _ ι _ (U! (s.env.map λ(t,v)=>(t,v.uW β d o es)) t) _;rw[JH _ rfl];exact Yl h.heap f (h.env t);have c :(gR β d o es s.heap).get γ=Z b:=k;rw[wj]at c;split at c;rename_i e;subst e;exact h.nx γ _ f;simp only[gD]at c;obtain⟨m,n,_⟩:=c;exact h.nx γ m n;(rename_i d ds es f;obtain⟨Z0,r,q⟩:=seal_ok h.heap f;have u:(s.heap.put β (.row d 1 (es.map λp=>[p]))).get β=Z (.row d 1 (es.map λp=>[p])):=by simp[d!]);obtain⟨j,g⟩:=GL r u;have l:gR β d 1 (es.map λp=>[p]) (s.heap.put β (.row d 1 (es.map λp=>[p])))=k_ (s.heap.map λ(i,b)=>(i,b.uW β d 1 (es.map λp=>[p]))) β .xA:=Vl _ _ _ _ _;have x:=λt=>Yl r u ((h.env t).mono h.heap q);rw[l]at j g;refine⟨_,⟨j,λt=>?_,λγ b k=>?_,h.size,h.defers⟩,q.trans g⟩;show RA w _ ι _ (U! (s.env.map λ(t,v)=>(t,v.uW β d 1 (es.map λp=>[p]))) t) _;rw[JH _ rfl,<- l];exact x t;have c :(k_ (s.heap.map λ(i,b)=>(i,b.uW β d 1 (es.map λp=>[p]))) β .xA).get γ=Z b:=k;rw[<- l,wj]at c;split at c;rename_i e;subst e;exact h.nx γ _ f;rename_i e;simp only[gD,d!,e,if_false]at c;obtain⟨m,n,_⟩:=c;exact h.nx γ m n;exact⟨Im,h,Y! _ _ _ _⟩
theorem cy{a:Act}{nt:Y}: ∀(l:W Y){s:St}{Im:Y->Prop},Inv w a s ι Im nt->
  ∃b,Inv w a (nv l s) ι b nt/\yA w s.heap ι Im w (nv l s).heap ι b
 |[],s,Im,h=>⟨Im,h,Y! _ _ _ _⟩
 |β::r,s,Im,h=>by obtain⟨Z0,d,e1⟩:=Ou h β;obtain⟨e,c,e2⟩:=cy r d;exact⟨e,c,e1.trans e2⟩
end
section
variable [xY] {P:D} {w:World} {H:qt} {ι:uT} {Im:Y->Prop}
theorem U7(hi:zr w H ι Im){β γ:Y}(E:β≠γ){x y z:qD}{p q:Pl}(L:H.get β=Z x)
  (cb:jJ x y (ι β) p) (cg: ∀c,H.get γ=Z c->jJ c z (ι γ) q)
  (fy: ∀t,y.uH p t->x.uH (ι β) t\/ ∃c,H.get γ=Z c/\c.uH (ι γ) t)
  (fz: ∀t,z.uH q t->x.uH (ι β) t\/ ∃c,H.get γ=Z c/\c.uH (ι γ) t)
  (k: ∀t,y.uH p t->z.uH q t->False)
  (X:yA w H ι Im w ((H.put β y).put γ z) (wh (wh ι β p) γ q) Im->d8 w ((H.put β y).put γ z) (wh (wh ι β p) γ q) Im β y)
  (bz:yA w H ι Im w ((H.put β y).put γ z) (wh (wh ι β p) γ q) Im->d8 w ((H.put β y).put γ z) (wh (wh ι β p) γ q) Im γ z):
  zr w ((H.put β y).put γ z) (wh (wh ι β p) γ q) Im/\yA w H ι Im w ((H.put β y).put γ z) (wh (wh ι β p) γ q) Im:=by
 have get: ∀δ,((H.put β y).put γ z).get δ=if δ=γ then Z z else if δ=β then Z y else H.get δ:=λδ=>by rw[d!];split;rfl;rw[d!]
 have l:wh (wh ι β p) γ q γ=q:=z?;have m:wh (wh ι β p) γ q β=p:=by rw[si _ _ E];simp
 have s: ∀{δ},δ≠β->δ≠γ->wh (wh ι β p) γ q δ=ι δ:=λa d=>by rw[si _ _ d,si _ _ a]
 have r: ∀{δ:Y}{b:qD}{t:Y},((H.put β y).put γ z).get δ=Z b->b.uH (wh (wh ι β p) γ q δ) t-> ∃δ0 g,H.get δ0=Z g/\g.uH (ι δ0) t/\((δ=δ0/\δ≠β/\δ≠γ)\/((δ=β\/δ=γ)/\(δ0=β\/δ0=γ))):=by intro δ b t a d;rw[get]at a;by_cases e1:δ=γ;subst e1;rw[M rfl]at a;cases a;rw[l]at d;rcases fz t d with h|⟨c,g1,g2⟩;exact⟨β,x,L,h,.inr ⟨.inr rfl,.inl rfl⟩⟩;exact⟨δ,c,g1,g2,.inr ⟨.inr rfl,.inr rfl⟩⟩;rw[K e1]at a;by_cases e2:δ=β;subst e2;rw[M rfl]at a;cases a;rw[m]at d;rcases fy t d with h|⟨c,g1,g2⟩;exact⟨δ,x,L,h,.inr ⟨.inl rfl,.inl rfl⟩⟩;exact⟨γ,c,g1,g2,.inr ⟨.inl rfl,.inr rfl⟩⟩;rw[K e2]at a;rw[s e2 e1]at d;exact⟨δ,b,a,d,.inl ⟨rfl,e2,e1⟩⟩
 have o:yA w H ι Im w ((H.put β y).put γ z) (wh (wh ι β p) γ q) Im:=by refine⟨λδ b f=>?_,λ_ h=>h,λ_ h=> .inl h,λδ b t a d=>?_,λ_ _ _=>rfl,ke _,rfl,rfl⟩;by_cases e1:δ=γ;subst e1;exact⟨z,by rw[get,M rfl],by rw[l];exact cg b f⟩;by_cases e2:δ=β;subst e2;rw[L]at f;cases f;exact⟨y,by rw[get,K e1,M rfl],by rw[m];exact cb⟩;exact⟨b,by rw[get,K e1,K e2];exact f,by rw[s e2 e1];exact ni _ _⟩;obtain⟨δ0,g,g1,g2,_⟩:=r a d;exact .inr ⟨δ0,g,g1,g2⟩
 refine⟨⟨λδ b f=>?_,λδ δ' b b' t a d j i=>?_,hi.im,λδ b t a d=>?_,hi.TG,hi.HS⟩,o⟩;have kq:=f;rw[get]at f;by_cases e1:δ=γ;subst e1;rw[M rfl]at f;cases f;exact bz o;rw[K e1]at f;by_cases e2:δ=β;subst e2;rw[M rfl]at f;cases f;exact X o;rw[K e2]at f;exact(hi.d5 δ b f).mono hi o λ_=>⟨s e2 e1,λ_ _=>rfl⟩;obtain⟨δ0,g,g1,g2,g3⟩:=r a j;obtain⟨δ1,b1,k1,k2,n⟩:=r d i;have e:=hi.inj δ0 δ1 g b1 t g1 k1 g2 k2;subst e;rcases g3 with ⟨rfl,v,u⟩|⟨g3,g4⟩;rcases n with ⟨rfl,_,_⟩|⟨_,Q⟩;rfl;rcases Q with h|h;exact I h v;exact I h u;rcases n with ⟨rfl,v,u⟩|⟨n,Q⟩;rcases g4 with h|h;exact I h v;exact I h u;rw[get]at a d;rcases g3 with rfl|rfl<;>rcases n with rfl|rfl;rfl;rw[K E,M rfl]at a;rw[M rfl]at d;cases a;cases d;rw[m]at j;rw[l]at i;exact(k t j i).elim;rw[K E,M rfl]at d;rw[M rfl]at a;cases a;cases d;rw[m]at i;rw[l]at j;exact(k t i j).elim;rfl;obtain⟨δ0,g,g1,g2,_⟩:=r a d;exact hi.Hn δ0 g t g1 g2
theorem Qd: ∀{ks:W Sk}{i:Y}{k:Sk},ks[i]? =Z k->(ks.flatMap v!).Nodup->(∀ x∈k.blocks,x∈ks.flatMap v!/\x∉(ks.set i .leaf).flatMap v!)/\k.blocks.Nodup
 |[],i,k,h,_=>by simp at h
 |a::r,0,k,h,hn=>by simp at h;subst h;rw[A?,O?]at hn;refine⟨λx c=>⟨by simp[c],λb=>?_⟩,hn.1⟩;simp only[q01,A?,v!,W.nil_append]at b;exact hn.2.2 x c x b rfl
 |a::r,i+1,k,h,hn=>by rw[A?,O?]at hn;obtain⟨e,d⟩:=Qd (ks:=r) (i:=i) (by simpa using h) hn.2.1;refine⟨λx c=>?_,d⟩;obtain⟨f,g⟩:=e x c;refine⟨by rw[A?];exact o_ _ f,λb=>?_⟩;rw[q02,A?]at b;rcases t?.1 b with h2|h2;exact hn.2.2 x h2 x f rfl;exact g h2
theorem V7{α:Type}{d:Y}(b:0<d): ∀(es:W (W α)),(∀ e∈es,e.length=d)-> ∀(m:Y) p,es.flatten[m]? =Z p-> ∃e,es[m / d]? =Z e/\e[m % d]? =Z p
 |[],_,m,p,h=>by simp at h
 |x::r,hl,m,p,h=>by have c:=hl x z?;by_cases a:m<d;rw[V!,c? o?]at h;exact⟨x,by rw[Y.div_eq_of_lt a];rfl,by rw[Y.mod_eq_of_lt a];exact h⟩;(rw[V!,J? o?,c]at h;obtain⟨e,i,g⟩:=V7 b r (λe f=>hl e (by simp[f])) (m-d) p h;have e1:m / d=(m-d) / d+1:=by rw[Y.div_eq_sub_div b o?]);(have e2:m % d=(m-d) % d:=by rw[Y.mod_eq_sub_mod o?]);exact⟨e,by rw[e1];simpa using i,by rw[e2];exact g⟩
theorem Xg{α:Type}{d:Y}: ∀(es:W (W α)),(∀ e∈es,e.length=d)->es.flatten.length=es.length*d
 |[],_=>z?
 |x::r,hl=>by rw[V!,p?,Xg r (λe a=>hl e (by simp[a])),hl x z?,b?,T?];omega
theorem Xh{α:Type}(es:W α):(es.map λp=>[p]).flatten=es:=by induction es with|nil=>rfl|cons x r a=>simp[a]
def Sk.pl:Sk->Pl
 | .leaf=>⟨0,0,[]⟩
 | .node b cap ks=>⟨b,cap,ks⟩
theorem Om(hi:zr w H ι Im){nx:Y}(jN: ∀β b,H.get β=Z b->β<nx){β i γ iy:Y}{s :qt}(h:Nu H nx β i=Z (s,iy,γ)):
  ∃ι',zr w s ι' Im/\yA w H ι Im w s ι' Im/\ ∀β b,s.get β=Z b->β<iy:=by
 unfold Nu at h;split at h
 ·rename_i lD es hb;split at h;rotate_left;cases h;rename_i d ds;split at h;rotate_left;cases h;rename_i qx sz g hp;split at h;rotate_left;cases h;(rename_i d5 E;cases h;obtain⟨vs,elem,fz,h1,h2,h3,h4,h5,h6,h7,h8,h9⟩:=hi.we hb;obtain⟨hn1,AK⟩:=o!.1 h6;have lG:=(qK hp).1;obtain⟨k,hk⟩: ∃k,(ι β).ks[i]? =Z k:=⟨(ι β).ks[i]'(o?),z?⟩;obtain⟨v,k1,k2,_⟩:=h9 i _ k hp hk;have hO:=k2 λ_ _ _ h=>by cases h);(obtain⟨tv,D9⟩:=Qd hk AK;have kN:β≠nx:=λe=>by have:=jN β _ hb;omega);(have Zh:H.get nx=R:=by cases hh:H.get nx with|none=>rfl|some b=>have:=jN nx b hh;omega);(have key: ∀(s :qt)(ι' :uT),ι' nx=k.pl->s.get nx=Z d5->d8 w s ι' Im nx d5/\RA w s ι' Im (.row nx g.length 0 g.length) v/\(∀ t,d5.uH k.pl t->t∈k.blocks):=by intro s ι' ee sQ;cases hO with|nil=>unfold Ns at E;split at E;cases E;refine⟨rfl,.row _ _ _ _ _ _ rfl sQ (λ_=>⟨_,_,_,rfl⟩) (λ_ _ _ e=>by cases e;exact ke _) (λ_ _ _ e _=>by cases e;exact⟨z?,rfl⟩),λt f=>?_⟩;exact I f.1 (by simp[v_]);split at E<;>cases E;refine⟨⟨rfl,rfl⟩,.row _ _ _ _ _ _ rfl sQ (λ_=>⟨_,_,_,rfl⟩) (λ_ _ _ e=>by cases e;exact ke _) (λ_ _ _ e _=>by cases e;exact⟨z?,rfl⟩),λt f=>?_⟩;exact I f.1 (by simp[v_])|sl _ _ _ b o cap ks lA n fz' q1 q2 q3 q4 q5 q6 q7 q8 val q9 L=>(have r:(ι' nx)=⟨b,cap,ks⟩:=ee;have l: ∀(bl:qD)(sz:Y),bl.sh=Z (F,sz,g.length)->s.get nx=Z bl->RA w s ι' Im (.row nx g.length 0 g.length) (.slice (Z ⟨b,o,R⟩) g.length cap):=by intro bl sz X hg;refine .row _ _ _ _ _ _ rfl hg (λ_=>⟨_,_,_,X⟩) (λ_ _ _ e=>by rw[X]at e;cases e;exact ke _) (λ_ _ _ e _=>?_);rw[X]at e;cases e;refine⟨z?, ?_⟩;simp only[vH,if_false,r];exact⟨⟨b,o,R⟩,z?,rfl,rfl,λhc=>by rw[q6 hc];simp⟩);(have GU:(Sk.node b cap ks).blocks=b::ks.flatMap v!:=by simp[v!]);have hbl: ∀x∈ks.flatMap v!,x<w.heap.size:=λx hx=>h7 x (tv x (by rw[GU];simp[hx])).1;unfold Ns at E;split at E;cases E;refine⟨⟨lA,n,fz',by rw[r];exact q1,q2,by rw[r];exact q3,q4,by rw[r];exact q5,q7,λi e j p a c=>?_,λi e j p a c=>?_⟩,l _ _ rfl sQ,λt f=>?_⟩;have m:=oT g i q7 e j p a c;have:=(qK m).1;obtain⟨k',Ka⟩: ∃k',ks[i*d+j]? =Z k' :=⟨ks[i*d+j]'(o?),z?⟩;exact(L _ p k' m Ka).vw;(have m:=oT g i q7 e j p a c;have:=(qK m).1;obtain⟨k',Ka⟩: ∃k',ks[i*d+j]? =Z k' :=⟨ks[i*d+j]'(o?),z?⟩;refine⟨val (i*d+j),q9 _ this, ?_⟩;have h0:=L _ p k' m Ka;generalize val (i*d+j)=u at h0;cases h0 with|UQ _ _ _ h=>exact h);rw[GU];rcases f.2 with h|⟨h,_⟩;rw[h];simp[Sk.pl];cases h;(rename_i d1 ds1;split at E<;>cases E;rename_i hd1;subst hd1;have Kv:g.flatten.length=g.length:=by rw[Xg g q7,Y.mul_one]);refine⟨⟨lA,n,fz',by rw[r];exact q1,q2,by rw[r];simpa using q3,by rw[r,Kv];exact q5,by rw[r];exact q8, ?_, ?_,λ_ _ _ h=>(by cases h),λi p k' a c=>?_⟩, ?_,λt f=>?_⟩;rw[r];rw[GU]at D9;exact D9;rw[r];exact hbl;rw[r]at c;have:=(qK a).1;exact⟨val i,q9 _ this,λ_=>L i p k' a c,λ_ _ h=>by cases h⟩;exact l _ 1 (by simp only[q04,Kv]) sQ;rw[GU];rcases f.2 with h|⟨_,h⟩;rw[h];simp[Sk.pl];exact W.mem_cons_of_mem _ h);(refine⟨wh (wh ι β ⟨(ι β).b,(ι β).cap,(ι β).ks.set i .leaf⟩) nx k.pl, ?_⟩;have hgn:((H.put β (.we F (d::ds) es (Z (i,nx,g.length)))).put nx d5).get nx=Z d5:=by simp[d!]);obtain⟨m1,m2,m3⟩:=key _ (wh (wh ι β ⟨(ι β).b,(ι β).cap,(ι β).ks.set i .leaf⟩) nx k.pl) z? hgn;have Q:wh (wh ι β ⟨(ι β).b,(ι β).cap,(ι β).ks.set i .leaf⟩) nx k.pl β=⟨(ι β).b,(ι β).cap,(ι β).ks.set i .leaf⟩:=by rw[si _ _ kN];simp
  have gg:=U7 hi kN (y:= .we F (d::ds) es (Z (i,nx,g.length))) (z:=d5) (p:=⟨(ι β).b,(ι β).cap,(ι β).ks.set i .leaf⟩) (q:=k.pl) hb (by simp[jJ,q04,Pl.wV]) (λc hc=>by rw[Zh]at hc;cases hc)
   (λt f=> .inl ⟨rfl,f.2.imp id λh=>⟨rfl,cw h.2⟩⟩) (λt f=> .inl ⟨rfl,.inr ⟨rfl,(tv t (m3 t f)).1⟩⟩)
   (λt f hz=>by
    have hz' :=m3 t hz
    rcases f.2 with h|⟨_,h⟩
    ·exact hn1 (h ▸ (tv t hz').1)
    exact(tv t hz').2 h)
   (λrF=>by
    refine⟨vs,elem,fz,by rw[Q];exact h1,h2,by rw[Q];exact h3,by rw[Q];exact h4,by rw[Q];simpa using h5,by rw[Q];exact o!.2 ⟨λh=>hn1 (cw h),WC AK⟩,λx hx=>h7 x (by rw[Q]at hx;exact cw hx),λj γ' xS m=>(by cases m;exact lG),λi' p k' a c=>?_⟩
    rw[Q]at c
    by_cases e:i=i'
    ·subst e
     rw[e_ o?]at c
     cases c
     exact⟨v,k1,λh=>I rfl (h _ _ _ rfl),λγ' xS m=>by cases m;exact⟨rfl,m2⟩⟩
    rw[P' e]at c
    obtain⟨v',g1,g2,_⟩:=h9 i' p k' a c
    exact⟨v',g1,λ_=>g2 λ_ _ _ h=>(by cases h),λγ' xS m=>by cases m;exact I rfl e⟩)
   (λ_=>m1)
  refine⟨gg.1,gg.2,λδ b hδ=>?_⟩;rw[d!]at hδ;split at hδ;omega;rw[d!]at hδ;split at hδ;rename_i e;have:=jN β _ hb;omega;have:=jN δ b hδ;omega
 split at h<;>cases h;exact⟨ι,hi,Y! _ _ _ _,jN⟩;cases h
theorem U2: ∀(l:W Y){H:qt}{ι:uT}{nx β:Y},zr w H ι Im->(∀ β b,H.get β=Z b->β<nx)->
  ∃ι',zr w (eG H nx β l).1 ι' Im/\yA w H ι Im w (eG H nx β l).1 ι' Im/\ ∀δ b,(eG H nx β l).1.get δ=Z b->δ<(eG H nx β l).2
 |[],H,ι,nx,β,hi,a=>⟨ι,hi,Y! _ _ _ _,a⟩
 |i::r,H,ι,nx,β,hi,a=>by unfold eG;split;rename_i H' iy γ h;obtain⟨ι1,e,a2,a3⟩:=Om hi a h;obtain⟨ι2,d,b2,c⟩:=U2 r (β:=γ) e a3;exact⟨ι2,d,a2.trans b2,c⟩;exact⟨ι,hi,Y! _ _ _ _,a⟩
theorem Za{ks:W Sk}{i x:Y}{k:Sk}(h:x∈(ks.set i k).flatMap v!):x∈ks.flatMap v!\/x∈k.blocks:=by rw[Q!]at h;obtain⟨b,c,a⟩:=h;rcases C! c with h|h;exact .inl (Q!.2 ⟨b,h,a⟩);subst h;exact .inr a
theorem Bk: ∀{ks:W Sk}{i:Y}{k:Sk},(ks.flatMap v!).Nodup->k.blocks.Nodup->(∀ x∈k.blocks,x∉ks.flatMap v!)->((ks.set i k).flatMap v!).Nodup
 |[],i,k,h,_,_=>z?
 |a::r,0,k,h,f,d=>by rw[A?,O?]at h;rw[q01,A?,O?];exact⟨f,h.2.1,λx b y c e=>d x b (by rw[A?,e];exact o_ _ c)⟩
 |a::r,i+1,k,h,f,d=>by rw[A?,O?]at h;rw[q02,A?,O?];refine⟨h.1,Bk h.2.1 f λx b c=>d x b (by rw[A?];exact o_ _ c),λx b y c e=>?_⟩;subst e;rcases Za c with h2|h2;exact h.2.2 x b x h2 rfl;exact d x h2 (by rw[A?];exact W.mem_append_left _ b)
theorem S6{es:W (W PV)}(h:ae es=T){e:W PV}(b:e∈es){p:PV}(a:p∈e):p.UQ=T:=by unfold ae at h;rw[K!]at h;have:=h e b;rw[K!]at this;exact this p a
theorem DJ(hi:zr w H ι Im){γ:Nat}{b:qD}(hg:H.get γ=some b){d:Nat}{ds:List Nat}{xS:Nat}{p:PV}(hp:KJ d ds xS b=some p){v:Value}(hv:RA w H ι Im (.row γ xS 0 xS) v):
  ∃k,ZL w Im (d::ds) p v k/\k.blocks.Nodup/\(∀ x∈k.blocks,b.uH (ι γ) x)/\(∃ a,b.sh=some a):=by
 cases hv with
  |row _ _ _ _ _ b' ho kq hk kA h=>
   rw[hg]at kq;cases kq;unfold KJ at hp;split at hp;{rename_i qx sz es;split at hp;rotate_left;cases hp;split at hp<;>cases hp;rename_i hc;obtain⟨rfl,rj,hsc⟩:=hc;obtain⟨_,h2⟩:=h _ _ _ rfl rfl;cases qx with|true=>simp only[if_true]at h2;subst h2;have ec:es=[]:=hi.d5 γ _ hg;subst ec;exact⟨.leaf,.nil d [],by simp[Sk.blocks],by simp[Sk.blocks],_,rfl⟩|false=>(have rj:sz=d:=by simpa using rj);(subst rj;simp only[vH,if_false]at h2;obtain⟨⟨ab,ao,II⟩,rfl,ZB,oG,XR⟩:=h2;simp only at ZB oG XR;subst ZB oG;obtain⟨vs,elem,fz,g1,g2,g3,g4,g5,g6,g7,g8⟩:=hi.row hg;have Kv:=Xg es g6;have hle:es.length*sz<=vs.size:=by rw[g3];exact mulR _ g5);refine⟨.node (ι γ).b (ι γ).cap (List.replicate es.flatten.length .leaf), ?_, ?_, ?_,_,rfl⟩;refine .sl sz [] es (ι γ).b ao (ι γ).cap _ vs elem fz g1 g2 g3 g4 g5 (λhc=>by rw[XR hc];simp) g6 z? (λi=>(vs[i]?).getD undef) (λi jv=>?_) (λi p k a c=>?_);have:i<vs.size:=o?;simp[this];(obtain⟨e,e1,e2⟩:=V7 g4 es g6 i p a;obtain⟨v0,k1,k2⟩:=g8 _ e _ p e1 e2;rw[show i / sz*sz+i % sz=i by rw[Nat.mul_comm];exact Nat.div_add_mod i sz]at k1;have hk:k= .leaf:=by have:=zj c;exact(List.mem_replicate.1 this).2);subst hk;simp only[k1,Option.getD_some];exact .UQ p v0 (S6 hsc (zj e1) (zj e2)) k2;(have:(List.replicate es.flatten.length Sk.leaf).flatMap Sk.blocks=[]:=by rw[List.flatMap_eq_nil_iff];intro x hx;rw[(List.mem_replicate.1 hx).2];simp[Sk.blocks]);simp only[Sk.blocks,this];simp;(intro x hx;have:(List.replicate es.flatten.length Sk.leaf).flatMap Sk.blocks=[]:=by rw[List.flatMap_eq_nil_iff];intro x hx;rw[(List.mem_replicate.1 hx).2];simp[Sk.blocks]);simp only[Sk.blocks,this,List.mem_singleton]at hx;exact⟨rfl,.inl hx⟩}
   ·rename_i qx An es;split at hp;cases hp
    rename_i d1 ds1;split at hp<;>cases hp;rename_i hc;obtain⟨rfl,rfl,rfl⟩:=hc;obtain⟨_,h2⟩:=h _ _ _ rfl rfl;cases qx with
     |true=>simp only[if_true]at h2;subst h2;have ec:es=[]:=(hi.d5 γ _ hg).1;subst ec;exact⟨.leaf,.nil 1 _,by simp[Sk.blocks],by simp[Sk.blocks],_,rfl⟩
     |false=>
      simp only[vH,if_false]at h2;obtain⟨⟨ab,ao,II⟩,rfl,ZB,oG,XR⟩:=h2;simp only at ZB oG XR;subst ZB oG;obtain⟨vs,elem,fz,g1,g2,g3,g4,g5,g6,g7,g8,g9⟩:=hi.we hg;have hlen:(es.map λp=>[p]).length=es.length:=z?;refine⟨.node (ι γ).b (ι γ).cap (ι γ).ks, ?_, ?_, ?_,_,rfl⟩
      ·have:=ZL.sl (w:=w) (Im:=Im) 1 (d1::ds1) (es.map λp=>[p]) (ι γ).b ao (ι γ).cap (ι γ).ks vs elem fz g1 g2 (by simpa using g3) o? (by simpa using g4) (λhc=>by have:=XR hc;omega) (λe he=>by
        obtain⟨q,_,rfl⟩:=List.mem_map.1 he
        rfl) (by rw[Xh];exact g5) (λi=>(vs[i]?).getD undef) (λi jv=>by
        rw[Xh]at jv
        have:i<vs.size:=o?
        simp[this]) (λi p k a c=>by
        rw[Xh]at a
        obtain⟨v0,k1,k2,_⟩:=g9 i p k a c
        simp only[k1,Option.getD_some]
        exact k2 λ_ _ _ h=>by cases h)
       rw[hlen]at this;exact this
      simp only[Sk.blocks];exact g6;intro x hx;simp only[Sk.blocks,List.mem_cons]at hx;exact⟨rfl,hx.imp id λh=>⟨rfl,h⟩⟩
   cases hp
theorem pack1_ok(hi:zr w H ι Im)(β:Y): ∃ι',zr w (Bp H β) ι' Im/\yA w H ι Im w (Bp H β) ι' Im/\ ∀δ b,(Bp H β).get δ=Z b-> ∃b0,H.get δ=Z b0:=by
 have Q: ∃ι',zr w H ι' Im/\yA w H ι Im w H ι' Im/\ ∀δ b,H.get δ=Z b-> ∃b0,H.get δ=Z b0:=⟨ι,hi,Y! _ _ _ _,λ_ b h=>⟨b,h⟩⟩;unfold Bp;split
 ·rename_i d ds es i γ xS r;split
  ·rename_i b g;split
   ·(rename_i p hp;obtain⟨vs,elem,fz,h1,h2,h3,h4,h5,h6,h7,h8,h9⟩:=hi.we r;obtain⟨E,AK⟩:=o!.1 h6;have lG:=h8 _ _ _ rfl;obtain⟨v,k1,_,k3⟩:=h9 i es[i] (ι β).ks[i] (by simp[lG]) z?;obtain⟨k4,k5⟩:=k3 _ _ rfl;obtain⟨k,m1,m2,s,⟨sh,m4⟩⟩:=DJ hi g hp k5;have u:β≠γ:=by intro e;subst e;rw[r]at g;cases g;simp[KJ]at hp);have f: ∀x∈k.blocks,¬ (qD.we F (d::ds) es (Z (i,γ,xS))).uH (ι β) x:=λx m L=>u (hi.inj β γ _ _ x r g L (s x m));have l:wh (wh ι β ⟨(ι β).b,(ι β).cap,(ι β).ks.set i k⟩) γ (ι γ) β=⟨(ι β).b,(ι β).cap,(ι β).ks.set i k⟩:=by rw[si _ _ u];simp
    refine⟨wh (wh ι β ⟨(ι β).b,(ι β).cap,(ι β).ks.set i k⟩) γ (ι γ), ?_⟩;have gg:=U7 hi u (y:= .we F (d::ds) (es.set i p) R) (z:= .xA) (p:=⟨(ι β).b,(ι β).cap,(ι β).ks.set i k⟩) (q:=ι γ) r (by simp[jJ,q04,Pl.wV]) (λc hc=>by
      rw[g]at hc
      cases hc
      unfold jJ
      rw[m4]
      rfl)
     (λt o=>by
      rcases o.2 with h|⟨_,h⟩
      ·exact .inl ⟨rfl,.inl h⟩
      rcases Za h with h|h
      ·exact .inl ⟨rfl,.inr ⟨rfl,h⟩⟩
      exact .inr ⟨b,g,s t h⟩) (λt o=>I o.1 (by simp[v_])) (λt _ o=>I o.1 (by simp[v_]))
     (λrF=>by
      refine⟨vs,elem,fz,by rw[l];exact h1,h2,by rw[l];exact h3,by rw[l];simpa using h4,by rw[l];simpa using h5, ?_,λx m=>?_,λ_ _ _ h=>(by cases h),λX p' k' a c=>?_⟩
      ·rw[l]
       refine o!.2 ⟨λh=>?_,Bk AK m2 λx m h=>f x m ⟨rfl,.inr ⟨rfl,h⟩⟩⟩
       rcases Za h with h|h
       ·exact E h
       exact f _ h ⟨rfl,.inl rfl⟩
      ·rw[l]at m
       rcases Za m with h|h
       ·exact h7 x h
       exact(hi.d5 γ b g).fY (s x h)
      rw[l]at c
      by_cases e:i=X
      ·subst e
       rw[e_ o?]at a c
       cases a
       cases c
       exact⟨v,k1,λ_=>m1,λ_ _ h=>by cases h⟩
      rw[P' e]at a c
      obtain⟨v',g1,g2,_⟩:=h9 X p' k' a c
      exact⟨v',g1,λ_=>g2 λj γ' ver' L=>by cases L;exact λe' =>e e'.symm,λ_ _ h=>by cases h⟩)
     (λ_=>trivial)
    refine⟨gg.1,gg.2,λδ b' n=>?_⟩;rw[d!]at n;split at n;rename_i e;subst e;exact⟨_,g⟩;rw[d!]at n;split at n;rename_i e;subst e;exact⟨_,r⟩;exact⟨_,n⟩
   exact Q
  exact Q
 exact Q
theorem Ry: ∀(n:Y){H:qt}{ι:uT},zr w H ι Im-> ∀β,∃ ι',zr w (UG n H β) ι' Im/\yA w H ι Im w (UG n H β) ι' Im/\ ∀δ b,(UG n H β).get δ=Z b-> ∃a,H.get δ=Z a
 |0,H,ι,hi,β=>⟨ι,hi,Y! _ _ _ _,λ_ b h=>⟨b,h⟩⟩
 |n+1,H,ι,hi,β=>by
  unfold UG;split
  ·rename_i x hb;obtain⟨ι1,f,a2,a3⟩:=Ry n hi x.2.1;obtain⟨ι2,e,b2,d⟩:=pack1_ok f β;exact⟨ι2,e,a2.trans b2,λδ b h=>by
    obtain⟨a,c⟩:=d δ b h
    exact a3 δ a c⟩
  exact⟨ι,hi,Y! _ _ _ _,λ_ b h=>⟨b,h⟩⟩
theorem cut_ok(hi:zr w H ι Im){nx:Nat}(jN: ∀β b,H.get β=some b->β<nx){β n l:Nat}{b y:qD}(hb:H.get β=some b)(hc:YR n b=some (l,y)):
  ∃ι',zr w ((H.put β .xA).put nx y) ι' Im/\yA w H ι Im w ((H.put β .xA).put nx y) ι' Im/\(∀ v,RA w H ι Im (.row β l 0 n) v->RA w ((H.put β .xA).put nx y) ι' Im (.row nx n 0 n) v)/\
   ∀δ b,((H.put β .xA).put nx y).get δ=some b->δ<nx+1:=by
 have kN:β≠nx:=λe=>by have:=jN β _ hb;omega
 have Zh:H.get nx=none:=by cases hh:H.get nx with|none=>rfl|some b=>have:=jN nx b hh;omega
 have hgn:((H.put β .xA).put nx y).get nx=some y:=by simp[qt.zy]
 have jv: ∀δ b,((H.put β .xA).put nx y).get δ=some b->δ<nx+1:=λδ b hδ=>by rw[qt.zy]at hδ;split at hδ;omega;rw[qt.zy]at hδ;split at hδ;rename_i e;have:=jN β _ hb;omega;have:=jN δ b hδ;omega
 have head: ∀(ι' :uT)(sz:Nat),(ι' nx).b=(ι β).b->(ι' nx).cap=(ι β).cap->y.sh=some (false,sz,n)->b.sh=some (false,sz,l)-> ∀v,RA w H ι Im (.row β l 0 n) v->RA w ((H.put β .xA).put nx y) ι' Im (.row nx n 0 n) v:=by intro ι' sz e1 e2 hy hbs v hv;cases hv with|row _ _ _ _ _ b' ho kq hk kA h=>rw[hb]at kq;cases kq;obtain⟨_,h2⟩:=h _ _ _ hbs rfl;refine .row _ _ _ _ _ _ ho hgn (λ_=>⟨_,_,_,hy⟩) (λ_ _ _ e=>by rw[hy]at e;cases e;exact ke _) (λ_ _ _ e _=>?_);rw[hy]at e;cases e;refine⟨z?, ?_⟩;simp only[vH,if_false]at h2 |-;rw[e1,e2];exact h2
 unfold YR at hc;split at hc
 ·rename_i sz es;split at hc<;>cases hc;rename_i hle;obtain⟨vs,elem,fz,g1,g2,g3,g4,g5,g6,g7,g8⟩:=hi.row hb;have pn:wh (wh ι β (ι β)) nx (ι β) nx=ι β:=z?;have gg:=U7 hi kN (y:= .xA) (z:= .row false sz (es.take n)) (p:=ι β) (q:=ι β) hb (by simp[jJ,qD.sh]) (λc hc=>by rw[Zh]at hc;cases hc)
   (λt ht=>absurd ht.1 (by simp[qD.used])) (λt ht=> .inl ⟨rfl,ht.2.imp id λh=>absurd h.1 (by simp[qD.AX])⟩) (λt ht _=>absurd ht.1 (by simp[qD.used])) (λ_=>trivial)
   (λrF=>⟨vs,elem,fz,by rw[pn];exact g1,g2,by rw[pn];exact g3,g4,by rw[pn,List.length_take];omega,λe he=>g6 e (List.mem_of_mem_take he),λi e j p a c=>by
     rw[List.getElem?_take]at a
     split at a
     ·exact g7 i e j p a c
     ·(cases a),λi e j p a c=>by
     rw[List.getElem?_take]at a
     split at a
     ·exact g8 i e j p a c
     (cases a)⟩)
  exact⟨_,gg.1,gg.2,head _ sz (by rw[pn]) (by rw[pn]) (by simp[qD.sh];omega) rfl,jv⟩
 ·rename_i qx lD es;split at hc<;>cases hc;rename_i hle;cases qx;rotate_left
  ·obtain⟨ec,_⟩:es=[]/\(none:Option (Nat×Nat×Nat))=none:=hi.d5 β _ hb;subst ec;have P8:n=0:=by simpa using hle
   subst P8;have gg:=U7 hi kN (y:= .xA) (z:= .we true lD [] none) (p:=ι β) (q:=⟨0,0,[]⟩) hb (by simp[jJ,qD.sh]) (λc hc=>by rw[Zh]at hc;cases hc)
    (λt ht=>absurd ht.1 (by simp[qD.used])) (λt ht=>absurd ht.1 (by simp[qD.used])) (λt ht _=>absurd ht.1 (by simp[qD.used])) (λ_=>trivial) (λ_=>⟨rfl,rfl⟩)
   refine⟨_,gg.1,gg.2,λv hv=>?_,jv⟩;cases hv with|row _ _ _ _ _ b' ho kq hk kA h=>rw[hb]at kq;cases kq;obtain⟨_,h2⟩:=h _ _ _ rfl rfl;simp only[if_true]at h2;subst h2;exact .row _ _ _ _ _ (.we true lD [] none) rfl hgn (λ_=>⟨_,_,_,rfl⟩) (λ_ _ _ e=>by cases e;exact ke _) (λ_ _ _ e _=>by cases e;exact⟨z?,rfl⟩)
  (obtain⟨vs,elem,fz,h1,h2,h3,h4,h5,h6,h7,h8,h9⟩:=hi.we hb;obtain⟨hn1,AK⟩:=List.nodup_cons.1 h6;have pn:wh (wh ι β (ι β)) nx ⟨(ι β).b,(ι β).cap,(ι β).ks.take n⟩ nx=⟨(ι β).b,(ι β).cap,(ι β).ks.take n⟩:=z?;have JJ:((ι β).ks.take n).flatMap Sk.blocks ⊆ (ι β).ks.flatMap Sk.blocks:=λx hx=>by obtain⟨k,hk,hx⟩:=List.mem_flatMap.1 hx;exact List.mem_flatMap.2 ⟨k,List.mem_of_mem_take hk,hx⟩);have hnd:(((ι β).ks.take n).flatMap Sk.blocks).Nodup:=by (have:(ι β).ks.flatMap Sk.blocks=((ι β).ks.take n).flatMap Sk.blocks++((ι β).ks.drop n).flatMap Sk.blocks:=by rw[<- List.flatMap_append,List.take_append_drop]);rw[this,List.nodup_append]at AK;exact AK.1
  have gg:=U7 hi kN (y:= .xA) (z:= .we false lD (es.take n) none) (p:=ι β) (q:=⟨(ι β).b,(ι β).cap,(ι β).ks.take n⟩) hb (by simp[jJ,qD.sh]) (λc hc=>by rw[Zh]at hc;cases hc)
   (λt ht=>absurd ht.1 (by simp[qD.used])) (λt ht=> .inl ⟨rfl,ht.2.imp id λh=>⟨rfl,JJ h.2⟩⟩) (λt ht _=>absurd ht.1 (by simp[qD.used])) (λ_=>trivial)
   (λrF=>by
    refine⟨vs,elem,fz,by rw[pn];exact h1,h2,by rw[pn];exact h3,by rw[pn,List.length_take];simp only;omega,by rw[pn,List.length_take,List.length_take,h5],by rw[pn];exact List.nodup_cons.2 ⟨λh=>hn1 (JJ h),hnd⟩,λx hx=>h7 x (by rw[pn]at hx;exact JJ hx),λ_ _ _ h=>(by cases h),λi p k a c=>?_⟩
    rw[pn]at c
    simp only[List.getElem?_take]at a c
    split at a
    ·rename_i jv
     rw[if_pos jv]at c
     obtain⟨v,j1,j2,_⟩:=h9 i p k a c
     exact⟨v,j1,j2,λ_ _ h=>by cases h⟩
    cases a)
  exact⟨_,gg.1,gg.2,head _ 1 (by rw[pn]) (by rw[pn]) (by simp[qD.sh];omega) rfl,jv⟩
 cases hc
theorem nilv{a:Y}{v:V}(h:RA w H ι Im (.pv (.sl T a [])) v):v= .slice R 0 0:=by cases h with|pv _ _ h=>cases h;rfl
theorem UW{a:Act}{s:St}{nt:Y}(h:Inv w a s ι Im nt){H1:qt}{ι1:uT}{j:Y}(d:zr w H1 ι1 Im)(e1:yA w s.heap ι Im w H1 ι1 Im)(E: ∀β b,H1.get β=Z b->β<j)
  (q: ∀β c,s.heap.get β=Z (.box c)->H1.get β=Z (.box c)) {t:Y} {x:AV} (hx: ∀v,RA w s.heap ι Im (ph s t) v->RA w H1 ι1 Im x v) (Kv:x.vw=T):
  ∃ι',Inv w a (XZ { s with heap:=H1,nx:=j } t x) ι' Im nt/\yA w s.heap ι Im w (XZ { s with heap:=H1,nx:=j } t x).heap ι' Im:=by
 have h1:Inv w a { s with heap:=H1,nx:=j } ι1 Im nt:=⟨d,λt=>(h.env t).mono h.heap e1,E,h.size,h.defers⟩;unfold XZ;split;rename_i Q;refine⟨ι1,⟨d,λz =>?_,E,h.size,h.defers⟩,e1⟩;show RA w H1 ι1 Im (U! ((t,x)::s.env) z) _;simp only[U!];split;rename_i e;subst e;refine hx _ ?_;unfold ph;rw[M Q];exact h.env t;exact(h.env z).mono h.heap e1;rename_i Q;split;rotate_left;exact⟨ι1,h1,e1⟩;rename_i β o hp;split;rotate_left;exact⟨ι1,h1,e1⟩;rename_i c hb;split;rotate_left;exact⟨ι1,h1,e1⟩;rename_i jv;have p :s.env.get (t % 1000)= .ptr β o:=hp;have k:H1.get β=Z (.box c):=hb;have Vb:s.heap.get β=Z (.box c):=by have n:=h.env (t % 1000);rw[p]at n;generalize a.tmps.getD (t % 1000) undef=u at n;cases n with|ptr _ _ b r hk=>cases b<;>simp only[qD.isBox,vH]at hk;rename_i c0;have:=q β c0 r;rw[this]at k;cases k;exact r
 have X: ∀v0,c[o+(t / 1000-1)]? =Z v0->ph s t=v0:=λv0 NF=>by unfold ph;rw[K Q,p];simp only;rw[Vb];simp only;rw[NF]
 obtain⟨h2,e2⟩:=zr.put (VN:=noO k rfl) (w' :=w) d β (.box (c.set (o+(t / 1000-1)) x)) (ι1 β) (λy f=>by rw[k]at f;cases f;rfl) ⟨ke _,rfl,rfl⟩ (λ_ _ _=>rfl)
  (λ_=> .inr ⟨_,k,rfl,rfl⟩) (λn=>by
   obtain⟨vs,elem,fz,L,q2,q3,q4,q5⟩:=d.box k
   refine⟨vs,elem,fz,by simpa using L,q2,by simpa using q3,λy f=>?_,λi y v f hv=>?_⟩
   ·rcases C! f with f|rfl
    ·exact q4 y f
    exact Kv
   rw[P!]at f
   split at f
   ·rename_i e
    subst e
    cases f
    obtain⟨vs0,elem0,fz0,p1,p2,p3,p4,p5⟩:=h.heap.box Vb
    have m:=e1.comp β _ Vb
    obtain⟨b',g,hc⟩:=m
    rw[k]at g
    cases g
    have ee:ι β=ι1 β:=hc
    rw[<- ee,p1]at L
    cases L
    refine(hx v ?_).mono d n
    rw[X c[o+(t / 1000-1)] (by simp[jv])]
    exact p5 _ _ v (by simp[jv]) hv
   exact(q5 i y v f hv).mono d n)
 refine⟨_,⟨h2,λz =>((h.env z).mono h.heap e1).mono d e2,λδ b hδ=>?_,h.size,h.defers⟩,e1.trans e2⟩;have l :(k_ H1 β (.box (c.set (o+(t / 1000-1)) x))).get δ=Z b:=hδ;rw[d!]at l;split at l;rename_i e;subst e;exact E _ _ k;exact E δ b l
theorem prom_ok(hi:zr w H ι Im){nx:Y}(g: ∀β b,H.get β=Z b->β<nx)(c:W Y):
  zr w (H.put nx (XV c)) (wh ι nx ⟨0,0,[]⟩) Im/\yA w H ι Im w (H.put nx (XV c)) (wh ι nx ⟨0,0,[]⟩) Im:=by
 have f:H.get nx=R:=by cases h:H.get nx with|none=>rfl|some b=>have:=g nx b h;omega
 cases c with|nil=>exact zr.DV hi nx (.row T 0 []) ⟨0,0,[]⟩ (λx a=>by rw[f]at a;cases a) ⟨ke _,rfl,rfl⟩ (λ_ _ _=>rfl) (λz e=>I e.1 (by simp[v_])) (λ_=>rfl)|cons d i=>exact zr.DV hi nx (.we T (d::i) [] R) ⟨0,0,[]⟩ (λx a=>by rw[f]at a;cases a) ⟨ke _,rfl,rfl⟩ (λ_ _ _=>rfl) (λz e=>I e.1 (by simp[v_])) (λ_=>⟨rfl,rfl⟩)
theorem cmd1_ok{a:Act}{s:St}{nt:Y}(h:Inv w a s ι Im nt)(c:Iq): ∃ι' wc,Inv w a (HM c s) ι' wc nt/\yA w s.heap ι Im w (HM c s).heap ι' wc:=by have i: ∃ι' wc,Inv w a s ι' wc nt/\yA w s.heap ι Im w s.heap ι' wc:=⟨ι,Im,h,Y! _ _ _ _⟩;unfold HM;split;rename_i t is;split;rename_i β o n l hs hl;obtain⟨ι1,g,a2,a3⟩:=U2 l (β:=β) h.heap h.nx;exact⟨ι1,Im,⟨g,λt=>(h.env t).mono h.heap a2,a3,h.size,h.defers⟩,a2⟩;exact i;rename_i t;split;rename_i β o off n hs;obtain⟨ι1,g,a2,a3⟩:=Ry 4 h.heap β;exact⟨ι1,Im,⟨g,λt=>(h.env t).mono h.heap a2,λδ b j=>by obtain⟨L,z⟩:=a3 δ b j;exact h.nx δ L z,h.size,h.defers⟩,a2⟩;exact i;{rename_i t;split;rotate_left;exact i;rename_i β o n hs;split;rotate_left;exact i;rename_i b r;split;rotate_left;exact i;rename_i l y q;split;rotate_left;exact i;(rename_i u;subst u;obtain⟨ι1,g,a2,a3,a4⟩:=cut_ok h.heap h.nx r q;refine q1u (λι2 m=>⟨Im,m⟩) ?_;refine UW h g a2 a4 (λγ c f=>?_) (λv k=>a3 v (by rw[hs]at k;exact k)) rfl;have e1:γ≠β:=by intro e;subst e;rw[r]at f;cases f;simp[YR]at q);(have e2:γ≠s.nx:=λe=>by have:=h.nx γ _ f;omega);simp[d!,e1,e2,f]};{rename_i t p;split;rotate_left;exact i;rename_i sz hs;obtain⟨g,a2⟩:=prom_ok h.heap h.nx p;refine q1u (λι2 m=>⟨Im,m⟩) ?_;refine UW h g a2 (λδ b j=>?_) (λγ c f=>?_) (λv k=>?_) rfl;rw[d!]at j;split at j;omega;have:=h.nx δ b j;omega;(have e2:γ≠s.nx:=λe=>by have:=h.nx γ _ f;omega);simp[d!,e2,f];rw[hs]at k;rw[nilv k];cases p with|nil=>exact .row _ _ _ _ _ (.row T 0 []) rfl (by simp[d!,XV]) (λ_=>⟨_,_,_,rfl⟩) (λ_ _ _ e=>by cases e;exact ke _) (λ_ _ _ e _=>by cases e;exact⟨z?,rfl⟩)|cons d E=>exact .row _ _ _ _ _ (.we T (d::E) [] R) rfl (by simp[d!,XV]) (λ_=>⟨_,_,_,rfl⟩) (λ_ _ _ e=>by cases e;exact ke _) (λ_ _ _ e _=>by cases e;exact⟨z?,rfl⟩)};rename_i t;obtain⟨Q,x,e1⟩:=cy (Y6 s (ph s t)) h;exact⟨ι,Q,x,e1⟩
theorem Y2{a:Act}{nt:Y}: ∀(l:W Iq){s:St}{ι:uT}{Im:Y->Prop},Inv w a s ι Im nt-> ∃ι' b,Inv w a (sG l s) ι' b nt/\yA w s.heap ι Im w (sG l s).heap ι' b
 |[],s,ι,Im,h=>⟨ι,Im,h,Y! _ _ _ _⟩
 |c::r,s,ι,Im,h=>by obtain⟨ι1,Z0,e,a2⟩:=cmd1_ok h c;obtain⟨ι2,f,d,b2⟩:=Y2 r e;exact⟨ι2,f,d,a2.trans b2⟩
end
theorem OT{P:D}{f:FuncId}{fn:Func}{s:ChangeSpec}{c:OpenClaim}(e:(c.inPlace==P.inPlace f)=T)(d:(c.unfollowed==P.unfollowed f)=T)(b:(c.recurses==P.recurses f)=T)(a:(c.named==P.varsNamed f)=T)
  (h:(c.wf (OpenSpec.ofChange s)&&laidOutB P&&mapsRowed P&&fn.params.all (P.readableRec ·)&&namedTie P c.named s.vars&&(c.stops==[])&&(P.stops==[])&&(c.knobs==[])&&(P.stopKnobs==[])&&(c.maps==(fn.params.toList++s.plain.varTypes P).any (P.mapsRec ·))&&(c.ifaces==(fn.params.toList++s.plain.varTypes P).any (P.ifacesRec ·))&&(c.mapsOut==P.mapsAmong fn.resultTypes.toList)&&(c.loops==(fn.params.toList++s.plain.varTypes P).any (P.loopsFrom ·))&&(c.wideKeys==(fn.params.toList++s.plain.varTypes P++fn.resultTypes.toList).any (P.wideKeysFrom ·))&&s.vars.all (P.varReadable ·)&&fn.resultTypes.all (λt=>P.readableRec t&&decide (t<P.types.size))&&(c.ifacesOut==fn.resultTypes.toList.any (P.ifacesRec ·))&&(c.loopsOut==fn.resultTypes.toList.any (P.loopsFrom ·))&&(c.plainKeys==P.plainKeys)&&c.shortTexts.isNone&&P.stopsHeard&&P.mayEnter&&(c.lifted==P.liftsFinal)&&(P.make==Z c.make)&&(c.kinds==(if c.domain.isEmpty then[]else fn.params.toList.map λt=>match P.underlying t with|some (.int k)=>Z k|_=>R))&&(c.pinned==c.pinnedBy)&&(c.veiled==(fn.params.toList++s.plain.varTypes P++fn.resultTypes.toList).any (P.veiledRec ·))&&c.veiledFits P fn.params.toList (fn.params.toList++s.plain.varTypes P++fn.resultTypes.toList))=T):joinedFacts P f fn s c=T:=by unfold joinedFacts;simp only[e,d,b,a,C.and_true];exact h
section
variable [xY] {P:D} {w:World} {H:qt} {ι:uT} {Im:Y->Prop}
theorem cf(g:Y->Y): ∀(l:W AV)(i:Y),(AV.aa.Xw g l)[i]? =(l[i]?).map (AV.aa g)
 |[],i=>by simp[AV.aa.Xw]
 |x::r,i=>by cases i with|zero=>simp[AV.aa.Xw]|succ i=>simp[AV.aa.Xw,cf g r i]
theorem aS(g:Y->Y): ∀(l:W AV),(AV.aa.Xw g l).length=l.length
 |[]=>rfl
 |x::r=>by simp[AV.aa.Xw,aS g r]
theorem UM(g:Y->Y){x:AV}(h:x.vw=T):(x.aa g).vw=T:=by cases x<;>simp[AV.vw]at h<;>first|rfl|exact h
theorem uu{β:Y}: ∀{l:W AV}{i:Y}{x:AV},l[i]? =Z x->β∈x.refs->β∈AV.refs.sB l
 |[],i,x,h,_=>by simp at h
 |y::r,i,x,h,a=>by simp only[AV.refs.sB,t?];cases i with|zero=>simp at h;subst h;exact .inl a|succ i=>exact .inr (uu (by simpa using h) a)
theorem JR(g:Y->Y)(b:qD):(b.aa g).sh=b.sh:=by cases b<;>simp[qD.aa,q04]
theorem WZ{x y:qD}{p q:Pl}(g:Y->Y)(h:jJ x y p q):jJ x (y.aa g) p q:=by unfold jJ at*;rw[JR];cases d:x.sh with|some a=>(cases c:y.sh with|some b=>rw[d,c]at h;exact h|none=>rw[d,c]at h;have e :y= .xA:=h;subst e;rfl)|none=>cases c:y.sh with|some b=>rw[d,c]at h;exact h|none=>rw[d,c]at h;cases x<;>cases y<;>first|exact h|exact(h:False).elim
theorem JQ{H' :qt}{ι' :uT}(g:Y->Y){x:AV}{v:V}(X:RA w H ι Im x v)
  (l: ∀β∈x.refs,∀ b,H.get β=Z b->H'.get (g β)=Z (b.aa g)/\(ι' (g β))=ι β):RA w H' ι' Im (x.aa g) v:=by induction X with|undef v=>exact .undef v|pv p v h=>exact .pv p v h|ptr β o c q hk=>(obtain⟨d,j⟩:=l β (by simp[z!]) _ q;rw[<- j];exact .ptr (g β) o _ d (by cases c<;>first|rfl|cases hk))|bP β s i o b1 o1 b q z h=>obtain⟨d,j⟩:=l β (by simp[z!]) _ q;refine .bP (g β) s i o b1 o1 _ d (λu t es e=>?_) (λu t es e=>?_);rw[JR]at e;exact z _ _ _ e;rw[JR]at e;rw[j];exact h _ _ _ e|row β s off n v b ho q hk z h=>obtain⟨d,j⟩:=l β (by simp[z!]) _ q;refine .row (g β) s off n v _ ho d (λh0=>?_) (λu t es e=>?_) (λu t es e=>?_);rw[JR];exact hk (λe=>h0 (by rw[e];rfl));rw[JR]at e;exact z _ _ _ e;rw[JR]at e;rw[j];exact h _ _ _ e|cE c o b off r Ja hc hf h=>exact .cE c o b off r Ja hc hf h|QZ a=>exact .QZ a|map β es xf q=>obtain⟨d,j⟩:=l β (by simp[z!]) _ q;rw[<- j];exact .map (g β) es xf d|XK f a b va vb HW AH _ _ L E=>refine .XK f _ _ va vb (by rw[aS,HW]) (by rw[aS,AH]) (λi x v d j=>?_) (λi x v d j=>?_);rw[cf]at d;simp only[gD]at d;obtain⟨y,k,rfl⟩:=d;exact L i y v k j λβ m=>l β (by simp only[z!,t?];exact .inl (uu k m));rw[cf]at d;simp only[gD]at d;obtain⟨y,k,rfl⟩:=d;exact E i y v k j λβ m=>l β (by simp only[z!,t?];exact .inr (uu k m))|agg c r hl hf _ Q=>refine .agg _ r (by rw[aS,hl]) (λx X=>?_) (λi x v d j=>?_);obtain⟨i,hi⟩:=kS X;rw[cf]at hi;simp only[gD]at hi;obtain⟨y,k,rfl⟩:=hi;exact UM g (hf y (zj k));rw[cf]at d;simp only[gD]at d;obtain⟨y,k,rfl⟩:=d;exact Q i y v k j λβ m=>l β (by simp only[z!];exact uu k m)|xL c r hl _ Q=>refine .xL _ r (by rw[aS,hl]) (λi x v d j=>?_);rw[cf]at d;simp only[gD]at d;obtain⟨y,k,rfl⟩:=d;exact Q i y v k j λβ m=>l β (by simp only[z!];exact uu k m)
theorem qD.ren_used(g:Y->Y)(b:qD):(b.aa g).used=b.used:=by cases b<;>rfl
theorem qD.ren_isO(g:Y->Y)(b:qD):(b.aa g).AX=b.AX:=by cases b<;>rfl
theorem qD.tK(g:Y->Y)(b:qD)(q:Pl)(x:Y):(b.aa g).uH q x=b.uH q x:=by unfold qD.uH;rw[qD.ren_used,qD.ren_isO]
theorem d8.aa{H' :qt}{ι' :uT}(g:Y->Y){β β' :Y}{b:qD}(h:d8 w H ι Im β b)(d:ι' β' =ι β)
  (hg: ∀γ∈b.refs,∀ c,H.get γ=Z c->H'.get (g γ)=Z (c.aa g)/\(ι' (g γ))=ι γ):d8 w H' ι' Im β' (b.aa g):=by
 cases b with
  |box c=>obtain⟨s,elem,z,m,l,o,u,t⟩:=h;refine⟨s,elem,z,by rw[d];exact m,l,by rw[aS,o],λx hx=>?_,λi x v a b=>?_⟩;obtain⟨i,hi⟩:=kS hx;rw[cf]at hi;simp only[gD]at hi;obtain⟨y,hy,rfl⟩:=hi;exact UM g (u y (zj hy));rw[cf]at a;simp only[gD]at a;obtain⟨y,hy,rfl⟩:=a;exact JQ g (t i y v hy b) λγ E=>hg γ (by simp only[q17];exact uu hy E)
  |row qx sz es=>cases qx with|true=>exact h|false=>obtain⟨s,elem,z,m,l,o,u,t,q6,X,Q⟩:=h;exact⟨s,elem,z,by rw[d];exact m,l,by rw[d];exact o,u,by rw[d];exact t,q6,X,Q⟩
  |map es xf=>obtain⟨xZ,m,l,o⟩:=h;exact⟨xZ,by rw[d];exact m,l,o⟩
  |rq sz es=>
   (obtain⟨s,elem,z,m,l,o,u,t,q6,X,Q⟩:=h;have get: ∀(i:Y) e(j:Y) x,(es.map (AV.aa.Xw g))[i]? =Z e->e[j]? =Z x-> ∃n y,es[i]? =Z n/\n[j]? =Z y/\x=y.aa g:=by intro i e j x r q;rw[Y?,gD]at r;obtain⟨n,r,rfl⟩:=r;rw[cf,gD]at q;obtain⟨y,q,rfl⟩:=q;exact⟨n,y,r,q,rfl⟩);refine⟨s,elem,z,by rw[d];exact m,l,by rw[d];exact o,u,by rw[d];simpa using t,λe he=>?_,λi e j x a b=>?_,λi e j x a b=>?_⟩;obtain⟨n,h0,rfl⟩:=B?.1 he;rw[aS];exact q6 n h0;obtain⟨n,y,r,q,rfl⟩:=get i e j x a b;exact UM g (X i n j y r q)
   obtain⟨n,y,r,q,rfl⟩:=get i e j x a b;obtain⟨v,k1,k2⟩:=Q i n j y r q;exact⟨v,k1,JQ g k2 λγ E=>hg γ (by
    simp only[q17,Q!]
    exact⟨n,zj r,uu q E⟩)⟩
  |we qx ds es ZS=>cases qx with|true=>obtain⟨m,l⟩:=h;exact⟨m,by rw[l];rfl⟩|false=>obtain⟨s,elem,z,m,l,o,u,t,q6,X,Q,q9⟩:=h;refine⟨s,elem,z,by rw[d];exact m,l,by rw[d];exact o,by rw[d];exact u,by rw[d];exact t,by rw[d];exact q6,by rw[d];exact X,λj γ xS f=>?_,λi p k a b=>?_⟩;rw[gD]at f;obtain⟨⟨j0,γ0,L⟩,f,e⟩:=f;cases e;exact Q _ _ _ f;obtain⟨v,k1,k2,k3⟩:=q9 i p k a (by rw[<- d];exact b);refine⟨v,k1,λhj=>k2 λj γ xS f=>hj j (g γ) xS (by rw[f];rfl),λγ xS f=>?_⟩;rw[gD]at f;obtain⟨⟨j0,γ0,L⟩,f,e⟩:=f;cases e;obtain⟨k4,k5⟩:=k3 _ _ f;refine⟨k4,JQ g k5 λγ E=>hg γ ?_⟩;simp only[z!,d?]at E;subst E;simp only[q17,f,d?]
  |xA=>trivial
theorem Xn: ∀(L:W Y)(x:Y),Uu L x=T↔x∈L
 |[],x=>by simp[Uu]
 |β::r,x=>by simp only[Uu,K?];split;rename_i h;subst h;simp;rename_i h;rw[Xn r x];constructor;exact .inr;rintro(h2|h2);exact I h2.symm h;exact h2
theorem H8: ∀(l L:W Y),MO l L=T↔ ∀x∈l,x∈L
 |[],L=>by simp[MO]
 |x::r,L=>by simp[MO,Xn,H8 r L]
theorem KL: ∀(L:W Y)(x:Y),x∈L->L[pos L x]? =Z x
 |[],x,h=>by cases h
 |β::r,x,h=>by simp only[pos];split;rename_i e;simp[e];(rename_i e;have:x∈r:=by rcases K?.1 h with h|h;exact I h.symm e;exact h);simpa using KL r x this
theorem pos_lt{L:W Y}{x:Y}(h:x∈L):pos L x<L.length:=(qK (KL L x h)).1
theorem eR: ∀{L:W Y},L.Nodup-> ∀{i:Y}{x:Y},L[i]? =Z x->pos L x=i
 |[],_,i,x,h=>by simp at h
 |β::r,hn,i,x,h=>by obtain⟨d,c⟩:=o!.1 hn;cases i with|zero=>simp at h;simp[pos,h]|succ i=>simp at h;have b:x∈r:=zj h;have a:β≠x:=λe=>d (e ▸ b);simp[pos,a,eR c h]
theorem JP(H:qt): ∀(n:Y)(todo d:W Y),d.Nodup->(tD H n todo d).Nodup/\ ∃r,tD H n todo d=d++r
 |0,todo,d,h=>⟨h,[],by simp[tD]⟩
 |n+1,[],d,h=>⟨h,[],by simp[tD]⟩
 |n+1,β::r,d,h=>by
  simp only[tD];split;exact JP H n r d h
  rename_i i;have c :β∉d:=λh=>i ((Xn d β).2 h);obtain⟨l,g,k⟩:=JP H n (r++(dQ H β).refs) (d++[β]) (by
   rw[O?]
   exact⟨h,z?,by
    intro a j b f e
    simp at f
    subst f e
    exact c j⟩)
  exact⟨l,β::g,by rw[k];simp⟩
theorem RD(H:qt)(g:Y->Y): ∀(i:Y)(L:W Y)(j:Y),(pick H g i L).get j=if i<=j/\j<i+L.length then(L[j-i]?).map λβ=>(dQ H β).aa g else R
 |i,[],j=>by simp[pick,L!]
 |i,β::r,j=>by simp only[pick,L!,RD H g (i+1) r j,b?];by_cases h:i=j;subst h;simp;rw[K h];by_cases a:i+1<=j/\j<i+1+r.length;rw[M a,M o?];obtain⟨m,rfl⟩: ∃m,j=i+1+m:=⟨j-(i+1),o?⟩;rw[show i+1+m-(i+1)=m from o?,show i+1+m-i=m+1 from o?];simp;rw[K a,K o?]
theorem RE(H:qt)(g:Y->Y): ∀(i:Y)(L:W Y),(pick H g i L).length=L.length
 |_,[]=>rfl
 |i,β::r=>by simp[pick,RE H g (i+1) r]
theorem Jk(H:qt)(L:W Y): ∀(l:W Y),sM H L l=T-> ∀β∈l,∃ b,H.get β=Z b/\ ∀γ∈b.refs,γ∈L
 |[],_,β,h=>by cases h
 |x::r,h,β,hβ=>by simp only[sM,xn]at h;rcases K?.1 hβ with rfl|hβ;(cases a:H.get β with|none=>rw[a]at h;simp at h|some b=>rw[a]at h;exact⟨b,rfl,(H8 _ _).1 h.1⟩);exact Jk H L r h.2 β hβ
structure Kf (H:qt) (L:W Y) (H0:qt):Prop where
 nodup:L.Nodup
 look: ∀j,H0.get j=(L[j]?).bind λβ=>(H.get β).map (qD.aa (pos L))
 has: ∀β∈L,∃ b,H.get β=Z b/\ ∀γ∈b.refs,γ∈L
 len:H0.length=L.length
theorem Zx{d roots:W Y}(f:d.Nodup){L:W Y}{e:qt}(h:dN H d roots=Z (L,e)):
  Kf H L e/\(∀ β∈roots,β∈L)/\ ∃r,L=d++r:=by unfold dN at h;split at h;cases h;exact⟨⟨q1i,λj=>by simp[L!],z?,rfl⟩,z?,[],rfl⟩;simp only at h;split at h<;>cases h;rename_i c;simp only[xn]at c;obtain⟨k,i⟩:=JP H 400 (roots++d.flatMap λβ=>(dQ H β).refs) d f;have hs:=Jk H _ _ c.2;refine⟨⟨k,λj=>?_,hs,RE _ _ _ _⟩,(H8 _ _).1 c.1,i⟩;rw[RD];simp only[A!,true_and,x!,q21];generalize tD H 400 _ d=L at*;by_cases a:j<L.length;(rw[M a];have:L[j]? =Z L[j]:=by simp[a]);rw[this];obtain⟨b,g,_⟩:=hs L[j] z?;simp[dQ,g];rw[K a,Q_ o?];rfl
def K0(ι:uT)(L:W Y):uT:=λi=>match L[i]? with|some β=>ι β|none=>⟨0,0,[]⟩
theorem Kf.Tl{L:W Y}{a:qt}(h:Kf H L a){β:Y}(c:β∈L): ∀b,H.get β=Z b->a.get (pos L β)=Z (b.aa (pos L))/\K0 ι L (pos L β)=ι β:=by intro b d;have:=KL L β c;rw[h.look,this];simp[d,K0,this]
theorem Kf.inv{L:W Y}{e:qt}(h:Kf H L e){j:Y}{b:qD}(a:e.get j=Z b): ∃β c,L[j]? =Z β/\H.get β=Z c/\b=c.aa (pos L)/\K0 ι L j=ι β:=by rw[h.look]at a;cases d:L[j]? with|none=>rw[d]at a;cases a|some β=>rw[d]at a;simp only[qM,gD]at a;obtain⟨c,f,rfl⟩:=a;exact⟨β,c,rfl,f,rfl,by simp[K0,d]⟩
theorem Kf.hinv{L:W Y}{n:qt}(h:Kf H L n)(hi:zr w H ι Im):zr w n (K0 ι L) Im where
 d5:=λj b g=>by obtain⟨β,e,f,a,rfl,d⟩:=h.inv (ι:=ι) g;refine(hi.d5 β e a).aa (pos L) d λγ s=>?_;obtain⟨b1,m,o⟩:=h.has β (zj f);rw[a]at m;cases m;exact h.Tl (o γ s)
 inj:=λi j b c z t v l k=>by obtain⟨β,e,f,a,rfl,d⟩:=h.inv (ι:=ι) t;obtain⟨γ,u,r,q,rfl,p⟩:=h.inv (ι:=ι) v;rw[qD.tK,d]at l;rw[qD.tK,p]at k;have:=hi.inj β γ e u z a q l k;subst this;rw[<- eR h.nodup f,<- eR h.nodup r]
 im:=hi.im
 Hn:=λj b z g hu=>by obtain⟨β,e,f,a,rfl,d⟩:=h.inv (ι:=ι) g;rw[qD.tK,d]at hu;exact hi.Hn β e z a hu
 TG:=hi.TG
 HS:=hi.HS
end
section
variable [xY] {P:D} {w w' :World} {H H0 H' :qt} {ι ι' :uT} {Im wc:Y->Prop} {L:W Y} {nx:Y}
theorem kX: ∀(ws:W (Y×qD))(H:qt)(γ:Y),(∀ x∈ws,x.1≠γ)->(zm ws H).get γ=H.get γ
 |[],H,γ,_=>rfl
 |(i,b)::r,H,γ,h=>by simp only[zm];rw[kX r _ γ λx a=>h x (by simp[a]),d!];rw[K (λe=>h (i,b) z? e.symm)]
theorem eK(g:Y->Y): ∀(H:qt)(i:Y),bS i H=T-> ∀x∈uv g H,∃ j,i<=j/\j<i+H.length/\x.1=g j
 |[],i,_,x,h=>by simp[uv]at h
 |(k,b)::r,i,a,x,h=>by simp only[bS,xn,decide_eq_true_eq]at a;obtain⟨rfl,a⟩:=a;simp only[uv,K?]at h;rcases h with rfl|h;exact⟨k,ke _,z?,rfl⟩;obtain⟨j,h1,h2,c⟩:=eK g r (k+1) a x h;exact⟨j,o?,by simp only[b?];omega,c⟩
theorem fx: ∀(H:qt)(i:Y),bS i H=T-> ∀{j:Y}{b:qD},H.get j=Z b->i<=j/\j<i+H.length
 |[],i,_,j,b,h=>by simp[L!]at h
 |(k,b0)::r,i,a,j,b,h=>by simp only[bS,xn,decide_eq_true_eq]at a;obtain⟨rfl,a⟩:=a;simp only[L!]at h;split at h;rename_i e;subst e;simp;have:=fx r (k+1) a h;simp only[b?];omega
theorem Vo(g:Y->Y): ∀(H' H:qt)(i:Y),bS i H' =T->(∀ j k,i<=j->j<i+H'.length->i<=k->k<i+H'.length->g j=g k->j=k)->
  ∀{j:Y}{b:qD},H'.get j=Z b->(zm (uv g H') H).get (g j)=Z (b.aa g)
 |[],H,i,_,_,j,b,h=>by simp[L!]at h
 |(k,b0)::r,H,i,a,c,j,b,h=>by simp only[bS,xn,decide_eq_true_eq]at a;obtain⟨rfl,a⟩:=a;simp only[L!]at h;simp only[uv,zm];split at h;rename_i e;subst e;cases h;rw[kX _ _ _ λx l=>?_,d!,M rfl];obtain⟨m,h1,h2,n⟩:=eK g r (k+1) a x l;rw[n];intro e;have:=c m k o? (by simp only[b?];omega) (ke _) z? e;omega;exact Vo g r _ (k+1) a (λf d a1 a2 a3 a4 e=>c f d o? (by simp only[b?];omega) o? (by simp only[b?];omega) e) h
theorem CJ{x y:qD}{p q:Pl}{f g:Y->Y}(h:jJ (x.aa f) y p q):jJ x (y.aa g) p q:=by unfold jJ at*;rw[JR]at h |-;cases d:x.sh with|some a=>(cases c:y.sh with|some b=>rw[d,c]at h;exact h|none=>rw[d,c]at h;have e :y= .xA:=h;subst e;rfl)|none=>cases c:y.sh with|some b=>rw[d,c]at h;exact h|none=>rw[d,c]at h;cases x<;>cases y<;>first|exact h|exact(h:False).elim
def Kj(ι ι' :uT)(L:W Y)(nx n:Y):uT:=λγ=>if γ∈L then ι' (pos L γ)else if nx<=γ/\γ<nx+(n-L.length)then ι' (L.length+(γ-nx))else ι γ
theorem back_ok(hs:Kf H L H0)(hi:zr w H ι Im){X:Y->Prop}(jN:Bd X H nx)
  (gS:zr w' H' ι' wc) (he:yA w H0 (K0 ι L) Im w' H' ι' wc) (m:bS 0 H' =T) (hX: ∀γ,X γ->nx+(H'.length-L.length)<=γ):
  zr w' (zm (uv (jT L nx) H') H) (Kj ι ι' L nx H'.length) wc/\yA w H ι Im w' (zm (uv (jT L nx) H') H) (Kj ι ι' L nx H'.length) wc/\
   (∀{r:AV}{v:V},RA w' H' ι' wc r v->RA w' (zm (uv (jT L nx) H') H) (Kj ι ι' L nx H'.length) wc (r.aa (jT L nx)) v)/\
   Bd X (zm (uv (jT L nx) H') H) (nx+(H'.length-L.length)):=by
 have hLlt: ∀β∈L,β<nx\/nx+(H'.length-L.length)<=β:=λβ hβ=>by obtain⟨b,a,_⟩:=hs.has β hβ;exact(jN β b a).imp id (hX β)
 have g1: ∀{j β:Y},L[j]? =Z β->jT L nx j=β:=λh=>by simp[jT,h]
 have g2: ∀{j:Y},L.length<=j->jT L nx j=nx+(j-L.length):=λh=>by simp[jT,Q_ h]
 have ginj: ∀j k,j<H'.length->k<H'.length->jT L nx j=jT L nx k->j=k:=by intro j k TN s9 e;by_cases hj:j<L.length<;>by_cases VL:k<L.length;(have n:L[j]? =Z L[j]:=by simp[hj]);(have a2:L[k]? =Z L[k]:=by simp[VL]);rw[g1 n,g1 a2]at e;rw[<- eR hs.nodup n,<- eR hs.nodup a2,e];(have n:L[j]? =Z L[j]:=by simp[hj]);rw[g1 n,g2 o?]at e;have:=hLlt _ (zj n);omega;(have a2:L[k]? =Z L[k]:=by simp[VL]);rw[g1 a2,g2 o?]at e;have:=hLlt _ (zj a2);omega;rw[g2 o?,g2 o?]at e;omega
 have sQ: ∀{j:Y}{b:qD},H'.get j=Z b->(zm (uv (jT L nx) H') H).get (jT L nx j)=Z (b.aa (jT L nx)):=
  λh=>Vo _ H' H 0 m (λj k _ TN _ s9 e=>ginj j k o? o? e) h
 have Zi: ∀j,j<H'.length->Kj ι ι' L nx H'.length (jT L nx j)=ι' j:=by intro j TN;unfold Kj;by_cases hj:j<L.length;(have n:L[j]? =Z L[j]:=by simp[hj]);rw[g1 n,M (zj n),eR hs.nodup n];rw[g2 o?,K (λh=>by have:=hLlt _ h;omega),M o?];congr 1;omega
 have hlen:L.length<=H'.length:=by rcases q0o L.length with h|h;omega;(have n:L[L.length-1]? =Z L[L.length-1]:=by simp[h]);(obtain⟨b,a,_⟩:=hs.has _ (zj n);have h0:H0.get (L.length-1)=Z (b.aa (pos L)):=by rw[hs.look,n];simp[a]);obtain⟨g,l,_⟩:=he.comp _ _ h0;have:=(fx H' 0 m l).2;omega
 have p: ∀γ,(∃ j,γ=jT L nx j/\j<H'.length)\/((∀ j,j<H'.length->γ≠jT L nx j)/\(zm (uv (jT L nx) H') H).get γ=H.get γ):=by intro γ;by_cases h: ∃j,j<H'.length/\γ=jT L nx j;obtain⟨j,o,d⟩:=h;exact .inl ⟨j,d,o⟩;refine .inr ⟨λj hj e=>h ⟨j,hj,e⟩,kX _ _ _ λx t e=>?_⟩;obtain⟨j,_,d,h3⟩:=eK _ H' 0 m x t;exact h ⟨j,o?,by rw[<- e,h3]⟩
 have hnotL: ∀γ,(∀ j,j<H'.length->γ≠jT L nx j)->γ∉L:=by intro γ h f;have:=KL L γ f;exact h (pos L γ) (G! (pos_lt f) hlen) (g1 this).symm
 have TR: ∀γ b,γ∉L->H.get γ=Z b->Kj ι ι' L nx H'.length γ=ι γ:=by intro γ b h a;have:=(jN γ b a).imp id (hX γ);unfold Kj;rw[K h,K o?]
 have B7: ∀{i:Y}{x:qD}{z:Y},H0.get i=Z x->x.uH (K0 ι L i) z-> ∃β b,β∈L/\H.get β=Z b/\b.uH (ι β) z:=by intro i x z h hu;obtain⟨β,b0,o,d,rfl,h4⟩:=hs.inv (ι:=ι) h;rw[qD.tK,h4]at hu;exact⟨β,b0,zj o,d,hu⟩
 have Ve: ∀γ b z,γ∉L->H.get γ=Z b->b.uH (ι γ) z->w'.heap[z]? =w.heap[z]? :=by intro γ b z f a hu;refine he.wV _ ((hi.d5 γ b a).fY hu) λi x t OM=>?_;obtain⟨β,Q,q1,q,q3⟩:=B7 t OM;exact f (hi.inj β γ Q b z q a q3 hu ▸ q1)
 have rF:yA w H ι Im w' (zm (uv (jT L nx) H') H) (Kj ι ι' L nx H'.length) wc:=by refine⟨λβ b a=>?_,he.im,λb h=>?_,λγ x z t hu=>?_,λb a hn=>?_,he.size,he.io⟩;by_cases f:β∈L;obtain⟨q1,q⟩:=hs.Tl (ι:=ι) f b a;obtain⟨g,q3,q4⟩:=he.comp _ _ q1;have q5:=sQ q3;have e:jT L nx (pos L β)=β:=g1 (KL L β f);rw[e]at q5;refine⟨_,q5, ?_⟩;have:=Zi (pos L β) (G! (pos_lt f) hlen);rw[e]at this;rw[this,<- q];exact CJ q4;rcases p β with ⟨j,e,hj⟩|⟨o,d⟩;exfalso;by_cases TN:j<L.length;(have n:L[j]? =Z L[j]:=by simp[TN]);rw[g1 n]at e;exact f (e ▸ zj n);rw[g2 o?]at e;have:=(jN β b a).imp id (hX β);omega;exact⟨b,by rw[d,a],by rw[TR β b f a];exact ni _ _⟩;rcases he.sR b h with h|h|⟨i,x,o,d⟩;exact .inl h;exact .inr (.inl h);obtain⟨β,Q,q1,q,q3⟩:=B7 o d;exact .inr (.inr ⟨β,Q,q,q3⟩);rcases p γ with ⟨j,rfl,hj⟩|⟨o,d⟩;(rw[Zi j hj]at hu;cases l:H'.get j with|none=>(exfalso;have key: ∀(H:qt)(i:Y),bS i H=T-> ∀j,i<=j->j<i+H.length->H.get j≠R:=by intro H;induction H with|nil=>intro i _ j o d;simp at d;omega|cons y r ih=>intro i m j o d;obtain⟨k,b⟩:=y;simp only[bS,xn,decide_eq_true_eq]at m;obtain⟨rfl,m⟩:=m;simp only[L!];split;simp;exact ih (k+1) m j o? (by simp only[b?]at d;omega));exact key H' 0 m j (A! _) o? l|some g =>rw[sQ l]at t;cases t;rw[qD.tK]at hu;rcases he.tC j g z l hu with h|⟨i,x,q1,q⟩;exact .inl h;obtain⟨β,Q,r1,r2,r3⟩:=B7 q1 q;exact .inr ⟨β,Q,r2,r3⟩);rw[d]at t;rw[TR γ x (hnotL γ o) t]at hu;exact .inr ⟨γ,x,t,hu⟩;refine he.wV b a λi x t OM=>?_;obtain⟨β,Q,q1,q,q3⟩:=B7 t OM;exact hn β Q q q3
 have Tl: ∀γ c,H'.get γ=Z c->(zm (uv (jT L nx) H') H).get (jT L nx γ)=Z (c.aa (jT L nx))/\Kj ι ι' L nx H'.length (jT L nx γ)=ι' γ:=
  λγ c h=>⟨sQ h,Zi γ (by have:=(fx H' 0 m h).2;omega)⟩
 have s : ∀{j:Y}{b:qD},H'.get j=Z b->j<H'.length:=λh=>by have:=(fx H' 0 m h).2;omega
 have split: ∀{γ b},(zm (uv (jT L nx) H') H).get γ=Z b->(∃ j g,γ=jT L nx j/\H'.get j=Z g /\b=g.aa (jT L nx))\/(γ∉L/\H.get γ=Z b):=by intro γ b h;rcases p γ with ⟨j,rfl,hj⟩|⟨o,d⟩;(cases l:H'.get j with|some g =>rw[sQ l]at h;cases h;exact .inl ⟨j,g,rfl,l,rfl⟩|none=>(exfalso;have key: ∀(H:qt)(i:Y),bS i H=T-> ∀j,i<=j->j<i+H.length->H.get j≠R:=by intro H;induction H with|nil=>intro i _ j o d;simp at d;omega|cons y r ih=>intro i m j o d;obtain⟨k,b⟩:=y;simp only[bS,xn,decide_eq_true_eq]at m;obtain⟨rfl,m⟩:=m;simp only[L!];split;simp;exact ih (k+1) m j o? (by simp only[b?]at d;omega));exact key H' 0 m j (A! _) o? l);rw[d]at h;exact .inr ⟨hnotL γ o,h⟩
 have cross: ∀{j g γ b z},H'.get j=Z g ->g.uH (ι' j) z->γ∉L->H.get γ=Z b->b.uH (ι γ) z->False:=by intro j g γ b z o u1 f d u2;rcases he.tC j g z o u1 with h|⟨i,x,q1,q⟩;have:=(hi.d5 γ b d).fY u2;omega;obtain⟨β,Q,r1,r2,r3⟩:=B7 q1 q;exact f (hi.inj β γ Q b z r2 d r3 u2 ▸ r1)
 refine⟨⟨λγ b h=>?_,λγ γ' b g z h h' u u' =>?_,gS.im,λγ b z h hu=>?_,gS.TG,gS.HS⟩,rF,λ{r v} hr=>JQ _ hr λγ _ c E=>Tl γ c E,λγ b h=>?_⟩;rcases split h with ⟨j,g,rfl,l,rfl⟩|⟨f,a⟩;exact(gS.d5 j g l).aa _ (Zi j (s l)) λγ _ c E=>Tl γ c E;exact(hi.d5 γ b a).mono hi rF (λhu=>⟨TR γ b f a,λx t=>Ve γ b x f a t⟩);rcases split h with ⟨j,c,rfl,E,rfl⟩|⟨f,a⟩;rcases split h' with ⟨j',c',rfl,P5,rfl⟩|⟨hL',l⟩;rw[Zi _ (s E),qD.tK]at u;rw[Zi _ (s P5),qD.tK]at u';rw[gS.inj j j' c c' z E P5 u u'];rw[Zi _ (s E),qD.tK]at u;rw[TR γ' g hL' l]at u';exact(cross E u hL' l u').elim;rcases split h' with ⟨j',c',rfl,P5,rfl⟩|⟨hL',l⟩;rw[Zi _ (s P5),qD.tK]at u';rw[TR γ b f a]at u;exact(cross P5 u' f a u).elim;rw[TR γ b f a]at u;rw[TR γ' g hL' l]at u';exact hi.inj γ γ' b g z a l u u';rcases split h with ⟨j,c,rfl,E,rfl⟩|⟨f,a⟩;rw[Zi _ (s E),qD.tK]at hu;exact gS.Hn j c z E hu;rw[TR γ b f a]at hu;intro hIm;rcases he.sR _ hIm with h|h|⟨i,x,q1,q⟩;exact hi.Hn γ b z a hu h;have:=(hi.d5 γ b a).fY hu;omega;obtain⟨β,Q,r1,r2,r3⟩:=B7 q1 q;exact f (hi.inj β γ Q b z r2 a r3 hu ▸ r1);rcases split h with ⟨j,c,rfl,E,rfl⟩|⟨f,a⟩;have d:=(fx H' 0 m E).2;by_cases hj:j<L.length;(have n:L[j]? =Z L[j]:=by simp[hj]);rw[g1 n];obtain⟨Q,GR,_⟩:=hs.has _ (zj n);exact(jN _ Q GR).imp (λh=>o?) id;rw[g2 o?];exact .inl o?;exact(jN γ b a).imp (λh=>o?) id
end
def ZY[xY](P:D)(f:FuncId)(args:W AV)(H:qt)(r:AV)(g :qt):Prop:=
 ∀(w:World)(ι:uT)(d:Y->Prop)(c:W V),zr w H ι d->args.length=c.length->(∀(i:Y) x v,args[i]? =Z x->c[i]? =Z v->RA w H ι d x v)->
  Calls P f ⟨c⟩ w λe b => ∃v ι' a,e= .returned v/\zr b g ι' a/\yA w H ι d b g ι' a/\RA b g ι' a r v
def enters(P:D)(f:FuncId):Prop:= ∃fn,P.funcs[f]? =Z fn/\(fn.name== "runtime.NumGoroutine")=F/\fn.body.isSome=T
structure SoundCall [xY] (P:D) (O:jb):Prop where
 call: ∀f args H r H',O.call f args H=Z (r,H')->enters P f/\ZY P f args H r H'
section
variable [xY] {P:D} {w:World} {H:qt} {ι:uT} {Im:Y->Prop}
theorem MC{f:FuncId}(h:enters P f)(args:A V):(callFunc f args).run P w= .ok (.enter f args) w:=by
 obtain⟨fn,e,d,c⟩:=h;unfold callFunc;have a :fn.body.isNone=F:=by cases b:fn.body<;>simp[b]at c |-
 simp only[w9,run_program,tV,e,d,vH,if_false,a,H?]
theorem T9{O:jb}(q:SoundCall P O)(hi:zr w H ι Im){nx:Y}{X:Y->Prop}(k:Bd X H nx){f:FuncId}{args:W AV}{vs:W V}
  (hl:args.length=vs.length) (p: ∀(i:Y) x v,args[i]? =Z x->vs[i]? =Z v->RA w H ι Im x v) {e:ru} (a:Q0 O f args H nx=Z e) (o: ∀γ,X γ->e.2.2<=γ):
  enters P f/\Calls P f ⟨vs⟩ w λen g => ∃v ι' c,en= .returned v/\zr g (zm e.2.1 H) ι' c/\yA w H ι Im g (zm e.2.1 H) ι' c/\RA g (zm e.2.1 H) ι' c e.1 v/\
   nx<=e.2.2/\Bd X (zm e.2.1 H) e.2.2:=by
 unfold Q0 at a;split at a;cases a;rename_i L H0 JJ;split at a;cases a
 rename_i v H' t;split at a<;>cases a;rename_i m;obtain⟨hs,Ug,_⟩:=Zx q1i JJ;obtain⟨Ua,z⟩:=q.call f _ H0 v H' t;refine⟨Ua, ?_⟩;have:=z w (K0 ι L) Im vs (hs.hinv hi) (by rw[aS,hl]) (λi x v d h=>by
  rw[cf]at d
  simp only[gD]at d
  obtain⟨y,j,rfl⟩:=d
  exact JQ _ (p i y v j h) λβ l b n=>hs.Tl (Ug β (uu j l)) b n)
 refine this.mono λen g⟨u,ι',c,d,h,s,r⟩=>?_;obtain⟨b1,b2,Q,E⟩:=back_ok hs hi k h s m o;exact⟨u,_,c,d,b1,b2,Q r,Y.le_add_right _ _,E⟩
theorem Act.Mm(a:Act)(d:B Tmp)(v:V)(t:Y):(a.put d v).tmps.getD t undef=if d=Z t/\t<a.tmps.size then v else a.tmps.getD t undef:=by cases d with|none=>simp[Act.put]|some d=>simp only[Act.put,wO];by_cases h:d=t;subst h;by_cases b:d<a.tmps.size;simp[b,E_];simp[b,E_];rw[K (λc =>h c.1)];simp only[E_,A.size_setIfInBounds];split;rw[T_,T_,A.getElem_setIfInBounds_ne];exact h;rfl
theorem Act.KN(a:Act)(d:B Tmp)(v:V):(a.put d v).tmps.size=a.tmps.size:=by cases d<;>simp[Act.put]
theorem Act.put_defers(a:Act)(d:B Tmp)(v:V):(a.put d v).defers=a.defers:=by cases d<;>rfl
theorem iD(d:B Tmp)(v:AV)(E:uS)(t:Y):(iC d v E).get t=if d=Z t then v else E.get t:=by cases d with|none=>simp[iC]|some d=>simp[iC,U!]
theorem Y5{a:Act}{E:uS}{nt:Y}(f: ∀t,RA w H ι Im (E.get t) (a.tmps.getD t undef))(b:nt<=a.tmps.size){d:B Tmp}(e: ∀t,d=Z t->t<nt)
  {x:AV} {v:V} (c:RA w H ι Im x v): ∀t,RA w H ι Im ((iC d x E).get t) ((a.put d v).tmps.getD t undef):=by intro t;rw[iD,Act.Mm];by_cases h:d=Z t;rw[M h,M ⟨h,G! (e t h) b⟩];exact c;rw[K h,K (λg =>h g.1)];exact f t
theorem RI:RA w H ι Im (.xL []) Go.undef:= .xL [] [] rfl z?
def Gw(nt:Y)(ops:W Oper):Prop:= ∀o∈ops,∀ t,o.dst=Z t->t<nt
def oM(w:World)(H:qt)(ι:uT)(Im:Y->Prop)(nt:Y)(s:St)(a:Act)(c :World):Prop:=
 ∃ι' b,Inv c a s ι' b nt/\yA w H ι Im c s.heap ι' b
theorem oM.from{b:World}{H1:qt}{ι1:uT}{c:Y->Prop}{nt:Y}{s:St}{a:Act}{w' :World}(h:oM b H1 ι1 c nt s a w')(e:yA w H ι Im b H1 ι1 c):
  oM w H ι Im nt s a w' :=
 let⟨ι',d,g,f⟩:=h
 ⟨ι',d,g,e.trans f⟩
theorem BO{a:Act}{o:Oper}{t:U}{z:Operand}(b:o.op= .box t z){u:V}{w' :World}(h:(Instr.box t (a.eval z)).run P w= .ok u w'):
  (execOp a.eval o).run P w= .ok (.value u) w' :=by unfold execOp;simp only[b];simp[h]
theorem opX_ok{G:GP}{O:jb}(hG:uZ P G)(hO:SoundCall P O){a:Act}{E:uS}{nx:Y}(hi:zr w H ι Im)(VK: ∀t,RA w H ι Im (E.get t) (a.tmps.getD t undef))
  {X:Y->Prop} (s:Bd X H nx) (o:Oper) {x:AV} {ws:W (Y×qD)} {iy:Y} (d:ry G O o.op E H nx=Z (x,ws,iy)) (hX: ∀γ,X γ->iy<=γ)
  (next:Act->World->Prop) (Q:Exit->Act->World->Prop)
  (JF: ∀(u:V)(j :World)(ι' :uT)(n:Y->Prop),zr j (zm ws H) ι' n->yA w H ι Im j (zm ws H) ι' n->RA j (zm ws H) ι' n x u->
   Bd X (zm ws H) iy->next (a.put o.dst u) j):
  o.wp P a w next Q:=by
 unfold Oper.wp;cases hc:Uk o.op with
 |false=>
  obtain⟨u,j,g,ι',b,q,p,h5,h6⟩:=aop_ok hG hi s VK O o hc d hX;rcases g with g|⟨g,rfl⟩
  ·rw[g];exact JF _ _ _ _ b q p h6
  rw[g];exact JF _ _ _ _ b q p h6
 |true=>
  by_cases L: ∃t z,o.op= .box t z
  ·obtain⟨t,z,h⟩:=L;rw[h]at d;unfold ry at d;simp only at d;split at d;rotate_left
   ·cases d
   rename_i hs;unfold aBox at d;split at d
   ·split at d<;>cases d;rename_i l hl;obtain⟨u,j,n,g,b,q,p⟩:=aBoxF_ok (P:=P) (t:=t) hi (Jm VK z) hs hl;rw[BO h g];exact JF _ _ _ _ b q p s
   cases d;obtain⟨u,j,g,ι',b,q,p,h5,h6⟩:=aBox_ok (P:=P) (t:=t) hi s (l5 hX) (Jm VK z) hs;rw[BO h g];exact JF _ _ _ _ b q p h6
  obtain⟨r,args,ai,h⟩: ∃r args ai,o.op= .call { callee:= .value r,args:=args,argTypes:=ai }:=by
   cases ho:o.op<;>simp[Uk,ho]at hc
   ·exact I ⟨_,_,ho⟩ L
   rename_i c;obtain⟨callee,args,ai⟩:=c;cases callee<;>simp at hc;exact⟨_,_,_,rfl⟩
  rw[h]at d;have AA:args.map a.eval=⟨args.toList.map a.eval⟩:=by apply I!; simp
  have VO: ∀(f:FuncId)(first cap:A V),a.eval r= .func (.func f) first cap->enters P f->
    (execOp a.eval o).run P w= .ok (.enter f (first++args.map a.eval++cap)) w:=by
   intro f first cap y Ua
   unfold execOp;simp only[h,resolve,y,Deferred.ofValue,w9,H?,tV,invoke,MC Ua]
  have m:=Jm VK r;have k:=E3 VK args.toList;unfold ry at d;simp only at d;have finish: ∀(f:FuncId)(vs:W V)(e:ru),(x,ws,iy)=e->(Calls P f ⟨vs⟩ w λen j => ∃v ι' n,en= .returned v/\zr j (zm e.2.1 H) ι' n/\yA w H ι Im j (zm e.2.1 H) ι' n/\RA j (zm e.2.1 H) ι' n e.1 v/\
    nx<=e.2.2/\Bd X (zm e.2.1 H) e.2.2)->o.upon P a next Q (.ok (.enter f ⟨vs⟩) w):=by
   intro f vs e he ep;subst he;show Calls P f ⟨vs⟩ w _;refine ep.mono λen j⟨v,ι',n,q1,q2,q3,q4,q5,q6⟩=>?_;subst q1;exact JF _ _ _ _ q2 q3 q4 q6
  split at d
  ·rename_i f y;rw[y]at m;have hp:=m.nZ;generalize hv:a.eval r=vf at hp;cases hp;obtain⟨Ua,ep⟩:=T9 hO hi s (vs:=args.toList.map a.eval) z? k d hX;rw[VO f #[] #[] hv Ua,AA];have:(#[]++(⟨args.toList.map a.eval⟩:A V)++ #[])=⟨args.toList.map a.eval⟩:=z?;rw[this];exact finish f _ _ rfl ep
  ·rename_i f fa fb y;rw[y]at m;generalize hv:a.eval r=vf at m;cases m with
   |XK _ _ _ va vb HW AH ha hb=>
    obtain⟨Ua,ep⟩:=T9 hO hi s (vs:=va++args.toList.map a.eval++vb) (by simp[HW,AH]) (λi z v g b=>by
     rw[T!]at g b
     have hlen:(fa++args.toList.map (ev E)).length=(va++args.toList.map a.eval).length:=by simp[HW]
     rw[<- hlen]at b
     split at g
     ·rename_i Vc
      rw[M Vc]at b
      rw[T!]at g b
      rw[<- HW]at b
      split at g
      ·rename_i Hj
       rw[M Hj]at b
       exact ha i z v g b
      rename_i Hj
      rw[K Hj]at b
      exact k _ z v g b
     rename_i Vc
     rw[K Vc]at b
     exact hb _ z v g b) d hX
    rw[VO f _ _ hv Ua,AA];have:((⟨va⟩:A V)++(⟨args.toList.map a.eval⟩:A V)++(⟨vb⟩:A V))=⟨va++args.toList.map a.eval++vb⟩:=z?;rw[this];exact finish f _ _ rfl ep
  cases d
theorem stepO_ok{G:GP}{O:jb}(m:uZ P G)(l:SoundCall P O){nt:Y}{a:Act}{s f :St}(h:Inv w a s ι Im nt)(o:Oper)(k: ∀t,o.dst=Z t->t<nt)
  (d:KW G O o s=Z f) (next:Act->World->Prop) (Q:Exit->Act->World->Prop) (hn: ∀i c,oM w s.heap ι Im nt f i c ->next i c):
  o.wp P a w next Q:=by
 unfold KW at d;split at d<;>cases d;rename_i x ws iy r;refine opX_ok m l h.heap h.env (X:=λ_=>False) (λβ b e=> .inl (h.nx β b e)) o r (λ_ h=>h.elim) next Q λu c ι' j q g p n=>?_
 refine hn _ _ ⟨ι',j,⟨q, ?_,λβ b e=>(n β b e).resolve_right id,by rw[Act.KN];exact h.size,by rw[Act.put_defers];exact h.defers⟩,g⟩;exact Y5 (λt=>(h.env t).mono h.heap g) h.size k p
theorem oM.post{nt:Y}{s:St}{a:Act}{w' :World}(h:oM w H ι Im nt s a w')(l:W Iq):oM w H ι Im nt (sG l s) a w' :=by obtain⟨ι1,Z0,c,e1⟩:=h;obtain⟨ι2,d,b,e2⟩:=Y2 l c;exact⟨ι2,d,b,e1.trans e2⟩
end
end Go.Gm
