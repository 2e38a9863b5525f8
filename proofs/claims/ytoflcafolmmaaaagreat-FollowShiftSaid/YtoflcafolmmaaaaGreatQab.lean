/-
  The machine, part b.
-/
import Derived.Test.YtoflcafolmmaaaaGreatQaa
import Derived.JoinedOf
import Derived.Lib.UnsafeStr
import GoSem.ClaimGoes
open Array renaming getElem?_toList->H?,ext'->D!,getInternal_eq_getElem->U_,getD->R_,mk->q1s
open Exists renaming imp->q1k
open Go.Gm.AV renaming refs->O?
open Go.Gm.Sk renaming blocks->j!
open Go.Gm.TI renaming isAgg->q1i
open Go.Gm.qD renaming used->j_,jc->Y_,sh->A',refs->q0t,yy->q1j
open Go.Gm.qp renaming zg->p!,get->A!,put->q_
open Go.Gm.tj renaming pure->t!
open Go.Gm.wU renaming refl->W!
open Go.Gm.yo renaming get->V!
open Go.Sem renaming run_pure->K?,run->G_
open List renaming length_cons->g?,mem_append->m?,getElem?_append_left->p?,length_append->t?,map_cons->s?,mem_singleton->d?,getElem?_cons_zero->a?,getElem?_cons_succ->l?,getElem?_map->X?,getElem?_append_right->J?,mem_of_mem_take->W?,getElem?_take_of_lt->Y?,mem_cons->U?,mem_map->N?,flatMap_cons->S?,getElem?_toArray->I?,mem_of_mem_drop->z!,nodup_append->x!,getElem?_drop->w!,nodup_cons->d!,mem_flatMap->e!,mem_or_eq_of_mem_set->l!,all_eq_true->Z!,flatten_cons->K!,getElem?_set->N!,getElem?_append->M!,getElem?_set_self->g_,mem_append_right->b_,getElem?_eq_none->t_,getElem?_set_ne->K',set_cons_zero->S',set_cons_succ->C',foldlM_cons->q0s,nodup_nil->q17
open Nat renaming succ_mul->B?,add_mul->M?,zero_add->A?,add_assoc->i!,lt_of_lt_of_le->U!,zero_le->B!,eq_zero_or_pos->q0o,sub_zero->q1o,sub_sub->q1q
open Option renaming map_some->F!
set_option linter.unusedSimpArgs false
set_option linter.unusedVariables false
set_option linter.unusedSectionVars false
namespace Go.Gm
open Go
section
variable [xd] {P:Program} {w:World} {H:qp} {ι:yp} {Im:Nat->Prop}
theorem XU{a:Act}{E:yo}(hE: ∀t,RA w H ι Im (E.get t) (a.tmps.getD t undef))(d:Nat)(x:Option Operand){n:Nat}(h:ki (ev E) d x=some n):
  (x=none/\n=d)\/ ∃kd,(x.map a.eval)=some (.int kd (n:Int)):=by cases x with|none=>simp only[ki,kG]at h;exact .inl ⟨rfl,h.symm⟩|some x=>simp only[ki]at h;obtain⟨kd,hk⟩:=X0 (QI hE x) h;exact .inr ⟨kd,by simp[hk]⟩
theorem run_sliceBound{kd:IntKind}{n y:Nat}(h:n<=y)(code:BoundsCode):(Instr.sliceBound (.int kd (n:Int)) y code).run P w= .ok n w:=by unfold Instr.sliceBound asIntOf;have:(n:Int)<=(y:Int):=o?;simp[this]
theorem uS(isSlice:Bool){a:Act}{E:yo}(hE: ∀t,RA w H ι Im (E.get t) (a.tmps.getD t undef))(lo hi mx:Option Operand)(len cap:Nat){l h m:Nat}
  (hl:ki (ev E) 0 lo=some l) (hh:ki (ev E) len hi=some h) (hm:ki (ev E) cap mx=some m) (h1:l<=h) (h2:h<=m) (h3:m<=cap)
  (hmx:mx≠none->hi≠none):
  (Instr.sliceBounds isSlice len cap (lo.map a.eval) (hi.map a.eval) (mx.map a.eval)).run P w= .ok (l,h,m) w:=by have e1:=XU hE 0 lo hl;have e2:=XU hE len hi hh;have e3:=XU hE cap mx hm;unfold Instr.sliceBounds;rcases e3 with ⟨rfl,rfl⟩|⟨k3,e3⟩;rcases e2 with ⟨rfl,rfl⟩|⟨k2,e2⟩;rcases e1 with ⟨rfl,rfl⟩|⟨k1,e1⟩;simp;simp only[e1,Option.map_none,jR,Sem.run_pure,md,run_sliceBound h1];rcases e1 with ⟨rfl,rfl⟩|⟨k1,e1⟩;simp only[e2,Option.map_none,jR,Sem.run_pure,md,run_sliceBound h2];simp only[e1,e2,Option.map_none,jR,Sem.run_pure,md,run_sliceBound h1,run_sliceBound h2];rcases e2 with ⟨rfl,rfl⟩|⟨k2,e2⟩;(have:mx≠none:=by intro e;subst e;cases e3);exact absurd rfl (hmx this);rcases e1 with ⟨rfl,rfl⟩|⟨k1,e1⟩;simp only[e2,e3,Option.map_none,jR,Sem.run_pure,md,run_sliceBound h2,run_sliceBound h3];simp only[e1,e2,e3,jR,Sem.run_pure,md,run_sliceBound h1,run_sliceBound h2,run_sliceBound h3]
theorem Vu(s:List UInt8)(l h:Nat):(ByteArray.mk ⟨s⟩).extract l h=⟨⟨(s.take h).drop l⟩⟩:=by apply ByteArray.ext;apply D!;simp[List.extract_eq_take_drop,List.drop_take]
theorem slv_sh{b:qD}{x:Bool×Nat×Nat}(h:b.slv=some x):b.sh=some x:=by unfold qD.slv at h;split at h;exact h;exact h;cases h
theorem slv_cap(hi:zd w H ι Im){β:Nat}{b:qD}{sz k:Nat}(hb:H.get β=some b)(hs:b.slv=some (false,sz,k)):k<=(ι β).cap:=by unfold qD.slv at hs;split at hs;cases hs;obtain⟨vs,elem,fz,g1,g2,g3,g4,g5,_⟩:=hi.row hb;exact g5;cases hs;obtain⟨vs,elem,fz,h1,h2,h3,h4,_⟩:=hi.jc hb;exact h4;cases hs
theorem slv_nil{β:Nat}{b:qD}{sz k:Nat}(h:ro w H ι Im β b)(hs:b.slv=some (true,sz,k)):k=0:=by unfold qD.slv at hs;split at hs;cases hs;have:_=[]:=h;rw[this];rfl;cases hs;obtain⟨h1,_⟩:=h;rw[h1];rfl;cases hs
theorem Dr{G:TypeId->Option TI}(hG: ∀t ti,G t=some ti->zM P t ti){t:TypeId}{ti:TI}(ht:zM P t ti)(yv:zd w H ι Im)
  {a:Act} {E:yo} (hE: ∀t,RA w H ι Im (E.get t) (a.tmps.getD t undef)) {x:AV} {v:Value} (hx:RA w H ι Im x v) (lo hi mx:Option Operand)
  {r:AV} (hr:ei ti.td G (ev E) x lo hi mx H=some r):
  ∃u,(Instr.sliceAt t v (lo.map a.eval) (hi.map a.eval) (mx.map a.eval)).run P w= .ok u w/\RA w H ι Im r u:=by
 unfold ei at hr;split at hr;cases hr;rename_i hmx0;have hmx:mx≠none->hi≠none:=by intro h1 h2;subst h2;cases mx with|none=>exact h1 rfl|some _=>exact hmx0 ⟨rfl,rfl⟩
 split at hr
 ·rename_i ju;have hu:=ht.string ju;split at hr;rotate_left;cases hr;rename_i s;split at hr;cases hr;(rename_i hmn;have hmn' :mx=none:=by cases mx<;>simp_all);subst hmn';split at hr;rotate_left;cases hr
  rename_i l h hl hh;split at hr<;>cases hr;rename_i hc;cases hx with
  |pv _ _ hp=>cases hp with
   |str=>
    have hb:=uS (P:=P) false hE lo hi none s.length s.length hl hh rfl hc.1 hc.2 (jv _) (fun h=>absurd rfl h);refine⟨.string ((ByteArray.mk ⟨s⟩).extract l h), ?_,.pv _ _ (by rw[Vu];exact .str _)⟩;unfold Instr.sliceAt Instr.slice;simp only[jR,qx hu,md];have mq:(ByteArray.mk ⟨s⟩).size=s.length:=rfl;simp only[Option.map_none]at hb |-;simp[mq,hb]
 ·rename_i e ju;have hu:=ht.slice ju;split at hr;cases hr
  rename_i te dw;have sy:=hG _ _ dw;have run: ∀(base:Option Addr)(len cap l h m:Nat),(Instr.sliceBounds true len cap (lo.map a.eval) (hi.map a.eval) (mx.map a.eval)).run P w= .ok (l,h,m) w->
    (Instr.sliceAt t (.slice base len cap) (lo.map a.eval) (hi.map a.eval) (mx.map a.eval)).run P w= .ok (.slice (if m=l then base else base.map (·.add (l*te.size))) (h-l) (m-l)) w:=by
   intro base len cap l h m hb;unfold Instr.sliceAt Instr.slice;simp only[jR,qx hu,md,hb,sy.size,K?]
  split at hr
  ·rename_i qt sz es;split at hr;rotate_left;cases hr;rename_i l h m hl hh hm;split at hr;rotate_left;cases hr
   rename_i hc;obtain⟨c1,c2,c3,c4⟩:=hc;cases hx with
   |pv _ _ hp=>cases hp with
    |aO=>
     have hm0:m=0:=by simpa using c3
     subst hm0;have hh0:h=0:=o?;subst hh0;have hl0:l=0:=o?;subst hl0;have hb:=uS (P:=P) true hE lo hi mx 0 0 hl (by simpa using hh) (by simpa using hm) (jv _) (jv _) (jv _) hmx;simp at hr;subst hr;refine⟨_,run none 0 0 0 0 0 hb, ?_⟩;simp;exact .pv _ _ (.aO 0)
    |sl _ _ b off cap vs Qx JM mq W3 hf hrp sp SA=>
     have Eg: ∃m',ki (ev E) cap mx=some m' /\((mx=none/\m' =cap)\/(mx≠none/\m' =m)):=by
      cases mx with
      |none=>exact⟨cap,rfl,.inl ⟨rfl,rfl⟩⟩
      |some y=>exact⟨m,hm,.inr ⟨z?,rfl⟩⟩
     obtain⟨m',Eg,L3⟩:=Eg;have hhm:h<=m' /\m' <=cap:=by
      rcases L3 with ⟨rfl,rfl⟩|⟨_,rfl⟩
      ·simp only[ki,kG]at hm;omega
      omega
     have hb:=uS (P:=P) true hE lo hi mx es.length cap hl hh Eg c1 hhm.1 hhm.2 hmx;refine⟨_,run (some ⟨b,off,sp⟩) es.length cap l h m' hb, ?_⟩;split at hr
     ·rename_i hz;cases hr;obtain⟨z1,z2,_⟩:=hz;rcases L3 with ⟨rfl,_⟩|⟨_,rfl⟩
      ·cases z1
      have e1:h-l=0:=o?;have e2:m' -l=0:=o?;rw[if_pos z2.symm,e1,e2];exact .iW _
     cases hr;by_cases de:es=[]
     ·subst de;simp only[List.length_nil,Nat.le_zero_eq]at c3;have hh0:h=0:=o?;have hl0:l=0:=o?;subst hh0;subst hl0;have hz:RP w Im (.sl false sz (([]:List (List PV)).take 0 |>.drop 0)) (.slice (some ⟨b,off,sp⟩) (0-0) (m' -0)):=
       .sl sz [] b off (m' -0) (fun _=>undef) (fun h=>absurd rfl h) (B! _) z? (fun i xQ=>by simp at xQ) z? z? sp (fun h=>absurd rfl h)
      have ha:(⟨b,off,sp⟩:Addr).add (0*te.size)=⟨b,off,sp⟩:=by simp[Addr.add]
      split
      ·exact .pv _ _ hz.mk
      simp only[F!,ha];exact .pv _ _ hz.mk
     obtain rfl:=SA de;have hlen:((es.take h).drop l).length=h-l:=v?;have key: ∀(a0:Nat),(l<h->a0=off+l*sz)->RP w Im (.sl false sz ((es.take h).drop l)) (.slice (some ⟨b,a0,none⟩) (h-l) (m' -l)):=by
      intro a0 Ee;rw[<- hlen];have pR: ∀(i:Nat) e0,((es.take h).drop l)[i]? =some e0->l+i<h/\es[l+i]? =some e0:=by
       intro i e0 hi0;have h1:=(qF hi0).1;rw[w!,Y? o?]at hi0;exact⟨o?,hi0⟩
      refine .sl sz _ b a0 (m' -l) (fun i=>vs (l*sz+i)) (fun jx=>Qx (fun h0=>jx (by rw[h0];simp))) o? (fun e0 MF=>mq e0 (W? (z! MF))) (fun i xQ=>?_) (fun i e0 j p q1 q2=>hf _ e0 j p (pR i e0 q1).2 q2) (fun i e0 j p q1 q2=>?_) none (fun _=>rfl)
      ·rw[hlen]at xQ;have jx:l<h:=by
        rcases Nat.lt_or_ge l h with h0|h0
        ·exact h0
        have:h-l=0:=o?;rw[this]at xQ;simp at xQ
       rw[Ee jx,i!];refine W3 _ ?_;have e1:(l+(h-l))*sz<=es.length*sz:=mulR _ o?;rw[M?]at e1;omega
      obtain⟨_,g⟩:=pR i e0 q1;have:=hrp (l+i) e0 j p g q2;rw[M?]at this;rwa[<- i!]
     by_cases Vc:m' =l
     ·rw[if_pos Vc];exact .pv _ _ (key off (fun h0=>o?)).mk
     rw[if_neg Vc];simp only[F!,add_plain];refine .pv _ _ (RP.mk (key _ (fun h0=>?_)));rcases c4 with rfl|c4
     ·rfl
     subst c4;simp at c3;omega
  {rename_i β xc off n;split at hr;rotate_left;cases hr;rename_i rk hb;split at hr;rotate_left;cases hr;rename_i qt sz k0 hsl;split at hr;rotate_left;cases hr;rename_i l h m hl hh hm;split at hr;rotate_left;cases hr;rename_i hc;obtain⟨jy,c1,c2,c3,c4⟩:=hc;have hxx:=hx;cases hx with|row _ _ _ _ _ b ho jo hk hv hh' =>rw[hb]at jo;cases jo;have hsh:=slv_sh hsl;obtain⟨h1,h2⟩:=hh' _ _ _ hsh jy;cases hn:qt;{(subst hn;simp only[wA,if_false]at h2 hr;obtain⟨a0,rfl,oL,eQ,Qi⟩:=h2;obtain⟨ab,ao,Dw⟩:=a0;simp only at oL eQ Qi;subst oL eQ;have hte0:sz=te.size:=by rcases c4 with h|h;exact h;cases h);(have g5:=slv_cap yv hb hsl;have Eg: ∃m',ki (ev E) ((ι β).cap-off) mx=some m' /\((mx=none/\m' =(ι β).cap-off)\/(mx≠none/\m' =m)):=by cases mx with|none=>exact⟨_,rfl,.inl ⟨rfl,rfl⟩⟩|some y=>exact⟨m,hm,.inr ⟨z?,rfl⟩⟩);(obtain⟨m',Eg,L3⟩:=Eg;have hhm:h<=m' /\m' <=(ι β).cap-off:=by rcases L3 with ⟨rfl,rfl⟩|⟨_,rfl⟩;simp only[ki,kG]at hm;omega;omega);have F6:=uS (P:=P) true hE lo hi mx n ((ι β).cap-off) hl hh Eg c1 hhm.1 hhm.2 hmx;refine⟨_,run _ n _ l h m' F6, ?_⟩;split at hr;split at hr<;>cases hr;rename_i hz hlm;rcases L3 with ⟨rfl,_⟩|⟨_,rfl⟩;cases hz;have e1:h-l=0:=o?;have e2:m' -l=0:=o?;rw[if_pos hlm.symm,e1,e2];exact .iW _;rename_i hz;cases hr;rcases L3 with ⟨rfl,rfl⟩|⟨jx,_⟩;rotate_left;(cases mx with|none=>exact absurd rfl jx|some _=>exact absurd rfl hz);refine .row β xc (off+l) (h-l) _ _ (by split<;>rfl) hb hk hv fun qt RG oi e Em=>?_;rw[hsh]at e;cases e;refine⟨o?, ?_⟩;simp only[wA,if_false];by_cases Vc:(ι β).cap-off=l;rw[if_pos Vc];exact⟨⟨(ι β).b,ao,none⟩,by rw[q1q],rfl,rfl,fun h0=>o?⟩;rw[if_neg Vc];refine⟨⟨(ι β).b,ao+l*te.size,none⟩,by simp only[F!,add_plain];rw[q1q],rfl,rfl,fun h0=>?_⟩;have:=Qi o?;subst this;rw[hte0,M?]};subst hn;simp only[if_true]at h2 hr;subst h2;have de:k0=0:=slv_nil (yv.rk β _ hb) hsl;subst de;have Gk:n=0:=o?;subst Gk;have hm0:m=0:=o?;subst hm0;have hh0:h=0:=o?;subst hh0;have hl0:l=0:=o?;subst hl0;simp only[Nat.add_zero,q1o,ite_self,kG]at hr;subst hr;have F6:=uS (P:=P) true hE lo hi mx 0 0 hl hh hm (jv _) (jv _) (jv _) hmx;refine⟨_,run none 0 0 0 0 0 F6, ?_⟩;simpa using hxx};(split at hr<;>cases hr;rename_i hl hh hm;cases hx with|iW a=>have F6:=uS (P:=P) true hE lo hi mx 0 0 hl hh hm (jv _) (jv _) (jv _) hmx;refine⟨_,run (some a) 0 0 0 0 0 F6, ?_⟩;simp;exact .iW _);cases hr
 cases hr
end
section
variable [xd] {P:Program} {w:World} {H:qp} {ι:yp} {Im:Nat->Prop}
theorem RA.row_inv{β xc off n:Nat}{v:Value}(hx:RA w H ι Im (.row β xc off n) v){qt:Bool}{sz:Nat}{es:List (List PV)}
  (hb:H.get β=some (.row qt sz es)) (hv:xc=es.length):off+n<=es.length/\
    if qt=true then v= .slice none 0 0
    else ∃a,v= .slice (some a) n ((ι β).cap-off)/\a.spot=none/\a.block=(ι β).b/\(off<(ι β).cap->a.off=off*sz):=by cases hx with|row _ _ _ _ _ b ho jo hk Em hh' =>rw[hb]at jo;cases jo;exact hh' _ _ _ rfl hv
theorem RA.HO(hi:zd w H ι Im){β xc off n:Nat}{v:Value}(hx:RA w H ι Im (.row β xc off n) v){qt:Bool}{sz:Nat}{es:List (List PV)}
  (hb:H.get β=some (.row qt sz es)) (hv:xc=es.length): ∃a c,v= .slice a n c/\a.isNone=qt:=by
 obtain⟨h1,h2⟩:=hx.row_inv hb hv;cases qt;simp only[wA,if_false]at h2;obtain⟨a,rfl,_⟩:=h2;exact⟨_,_,rfl,rfl⟩;simp only[if_true]at h2;subst h2;have de:es=[]:=hi.rk β _ hb;subst de;have:n=0:=by simp at h1;omega
 subst this;exact⟨_,_,rfl,rfl⟩
theorem RA.O1{β xc off n:Nat}{v:Value}(hx:RA w H ι Im (.row β xc off n) v){sz:Nat}{es:List (List AV)}
  (hb:H.get β=some (.mz sz es)) (hv:xc=es.length): ∃a c,v= .slice a n c:=by cases hx with|row _ _ _ _ _ b ho jo hk jy h=>rw[hb]at jo;cases jo;obtain⟨h1,h2⟩:=h _ _ _ rfl hv;simp only[wA,if_false]at h2;obtain⟨a,rfl,_⟩:=h2;exact⟨_,_,rfl⟩
theorem RA.q0j(hi:zd w H ι Im){β xc off n:Nat}{v:Value}(hx:RA w H ι Im (.row β xc off n) v){qt:Bool}{ds:List Nat}{es:List PV}{l7:Option (Nat×Nat×Nat)}
  (hb:H.get β=some (.jc qt ds es l7)) (hv:xc=es.length): ∃a c,v= .slice a n c:=by cases hx with|row _ _ _ _ _ b ho jo hk jy h=>rw[hb]at jo;cases jo;obtain⟨h1,h2⟩:=h _ _ _ rfl hv;cases qt with|false=>simp only[wA,if_false]at h2;obtain⟨a,rfl,_⟩:=h2;exact⟨_,_,rfl⟩|true=>(simp only[if_true]at h2;subst h2;have de:es=[]:=(hi.rk β _ hb).1;subst de;have:n=0:=by simp at h1;omega);subst this;exact⟨_,_,rfl⟩
theorem aLen_ok{t:TypeId}{ti:TI}(ht:zM P t ti)(hi:zd w H ι Im){x:AV}{v:Value}(hx:RA w H ι Im x v)(tt:TypeId){n:Nat}(ju:ZU ti.td x=true)(hr:B4 x H=some n):
  (Builtin.len_ #[t] tt #[v]).run P w= .ok (.int .i64 n) w:=by
 unfold B4 at hr;unfold Builtin.len_;simp only[I?,a?,jR];split at hr
 ·rename_i s;cases hr;cases hx with
  |pv _ _ h=>cases h with
   |str=>
    have kN:ti.td= .string:=by
     cases h:ti.td<;>simp[ZU,h]at ju |-
    simp only[qx (ht.string kN),md,goInt];rfl
 (rename_i qt sz es;cases hr;have kN: ∃e,ti.td= .slice e:=by cases h:ti.td<;>simp[ZU,h]at ju |-);(obtain⟨e,kN⟩:=kN;simp only[qx (ht.slice kN),md];cases hx with|pv _ _ h=>cases h<;>rfl);(cases hr;have kN: ∃k e,ti.td= .map k e:=by cases h:ti.td<;>simp[ZU,h]at ju |-);(obtain⟨k,e,kN⟩:=kN;simp only[qx (ht.map kN),md];cases hx with|pv _ _ h=>cases h;rfl);(cases hr;have kN: ∃e,ti.td= .slice e:=by cases h:ti.td<;>simp[ZU,h]at ju |-);(obtain⟨e,kN⟩:=kN;simp only[qx (ht.slice kN),md];cases hx with|iW a=>rfl);(rename_i β xc off m;have kN: ∃e,ti.td= .slice e:=by cases h:ti.td<;>simp[ZU,h]at ju |-);obtain⟨e,kN⟩:=kN;simp only[qx (ht.slice kN),md];split at hr;rename_i qt sz es hb;split at hr<;>cases hr;rename_i jy;obtain⟨a,c,rfl,_⟩:=hx.HO hi hb jy;rfl;rename_i sz es hb;split at hr<;>cases hr;rename_i jy;obtain⟨a,c,rfl⟩:=hx.O1 hb jy;rfl;rename_i qt ds es l7 hb;split at hr<;>cases hr;rename_i jy;obtain⟨a,c,rfl⟩:=hx.q0j hi hb jy;rfl;cases hr;(rename_i β;split at hr<;>cases hr;rename_i es zW hb;have kN: ∃k e,ti.td= .map k e:=by cases h:ti.td<;>simp[ZU,h]at ju |-);(obtain⟨k,e,kN⟩:=kN;simp only[qx (ht.map kN),md];cases hx with|map _ oi KL jo=>(obtain⟨xe,h1,h2,h3⟩:=hi.rk β _ hb;have:(getObj (ι β).b).run P w= .ok (.map ⟨xe⟩ zW) w:=by simp[getObj,G_,h1]);simp only[jR,this,md];simp[goInt,h2]);cases hr
theorem Fs{op:BinOp}{k:IntKind}{x y:Int}{p:PV}(ZQ:op≠ .shl/\op≠ .shr)(t:TypeId)(hr:H7 op k x y=some p):
  ∃u,(binOp op t (.int k x) (.int k y)).run P w= .ok u w/\RP w Im p u:=by
 unfold H7 at hr;cases op<;>simp only[reduceCtorEq]at hr;case add=>cases hr;exact⟨.int k (k.wrap (x+y)),by simp[binOp,Op.intArith],.int _ _⟩
 case sub=>cases hr;exact⟨.int k (k.wrap (x-y)),by simp[binOp,Op.intArith],.int _ _⟩
 case mul=>cases hr;exact⟨.int k (k.wrap (x*y)),by simp[binOp,Op.intArith],.int _ _⟩
 case quo=>split at hr<;>cases hr;rename_i h0;exact⟨.int k (k.wrap (x.tdiv y)),by simp[binOp,Op.intDiv,h0],.int _ _⟩
 case rem=>split at hr<;>cases hr;rename_i h0;exact⟨.int k (x.tmod y),by simp[binOp,Op.intDiv,h0],.int _ _⟩
 case eql=>cases hr;exact⟨.bool (x==y),by simp[binOp,Op.intCmp],.bool _⟩
 case neq=>cases hr;exact⟨.bool (x != y),by simp[binOp,Op.intCmp],.bool _⟩
 case lss=>cases hr;exact⟨.bool (decide (x<y)),by simp[binOp,Op.intCmp],.bool _⟩
 case leq=>cases hr;exact⟨.bool (decide (x<=y)),by simp[binOp,Op.intCmp],.bool _⟩
 case gtr=>cases hr;exact⟨.bool (decide (x>y)),by simp[binOp,Op.intCmp],.bool _⟩
 case geq=>cases hr;exact⟨.bool (decide (x>=y)),by simp[binOp,Op.intCmp],.bool _⟩
 case and=>cases hr;exact⟨_,by simp[binOp,Op.intBits],.int _ _⟩
 case or=>cases hr;exact⟨_,by simp[binOp,Op.intBits],.int _ _⟩
 case xor=>cases hr;exact⟨_,by simp[binOp,Op.intBits],.int _ _⟩
 case andNot=>cases hr;exact⟨_,by simp[binOp,Op.intBits],.int _ _⟩
theorem pf: ∀a b:List UInt8,Op.bytesLess a b=k8 a b
 |[],[]=>rfl
 |_::_,[]=>rfl
 |[],_::_=>rfl
 |a::x,b::y=>by simp[Op.bytesLess,k8,pf x y]
theorem AN{op:BinOp}{x y:List UInt8}{p:PV}(t:TypeId)(hr:G0 op x y=some p):
  ∃u,(binOp op t (.string ⟨⟨x⟩⟩) (.string ⟨⟨y⟩⟩)).run P w= .ok u w/\RP w Im p u:=by
 unfold G0 at hr;cases op<;>simp only[reduceCtorEq]at hr
 case add=>
  split at hr<;>cases hr;rename_i hl;refine⟨.string ⟨⟨x++y⟩⟩, ?_,.str _⟩;have h2:(ByteArray.mk ⟨x⟩++ByteArray.mk ⟨y⟩:ByteArray)=⟨⟨x++y⟩⟩:=by
   apply ByteArray.ext;apply D!;simp
  simp[binOp,Op.stringOp,h2];show(x.length:Int)+(y.length:Int)<=_;omega
 case eql=>cases hr;exact⟨.bool (x==y),by simp[binOp,Op.stringOp],.bool _⟩
 case neq=>cases hr;exact⟨.bool (!(x==y)),by simp[binOp,Op.stringOp],.bool _⟩
 case lss=>cases hr;exact⟨.bool (k8 x y),by simp[binOp,Op.stringOp,pf],.bool _⟩
 case leq=>cases hr;exact⟨.bool (k8 x y || x==y),by simp[binOp,Op.stringOp,pf],.bool _⟩
 case gtr=>cases hr;exact⟨.bool (!(k8 x y || x==y)),by simp[binOp,Op.stringOp,pf],.bool _⟩
 case geq=>cases hr;exact⟨.bool (!k8 x y),by simp[binOp,Op.stringOp,pf],.bool _⟩
theorem aUn_ok{op:UnOp}{x:AV}{v:Value}(hx:RA w H ι Im x v){p:PV}(hr:aUn op x=some p): ∃u,(Op.unary op v).run P w= .ok u w/\RP w Im p u:=by unfold aUn at hr;split at hr<;>cases hr;(cases hx with|pv _ _ h=>cases h;exact⟨_,by simp[Op.unary],.bool _⟩);cases hx with|pv _ _ h=>cases h;exact⟨_,by simp[Op.unary,Op.intArith],.int _ _⟩
theorem Wk(isMax:Bool)(k:IntKind): ∀(l:List AV)(a:Int)(vs:List Value),l.length=vs.length->(∀(i:Nat) x v,l[i]? =some x->vs[i]? =some v->RA w H ι Im x v)->
  ∀{p:PV},oA isMax k a l=some p-> ∃u,(vs.foldlM (if isMax then Builtin.max2 else Builtin.min2) (.int k a)).run P w= .ok u w/\RP w Im p u
 |[],a,vs,hl,_,p,h=>by
  have:vs=[]:=by simpa using hl.symm
  subst this;cases h;exact⟨.int k a,z?,.int _ _⟩
 |x::r,a,vs,hl,hR,p,h=>by
  cases vs with
  |nil=>simp at hl
  |cons v vr=>
   have hx:=hR 0 x v z? z?;cases x with
   |pv p0=>cases p0 with
    |int k' b=>
     simp only[oA]at h;cases hx with
     |pv _ _ hp=>cases hp with
      |int=>
       obtain⟨u,g1,g2⟩:=Wk isMax k r _ vr (by simpa using hl) (fun i x v h1 h2=>hR (i+1) x v (by simpa using h1) (by simpa using h2)) h;refine⟨u, ?_,g2⟩;cases isMax
       ·simp only[wA,if_false,q0s,jR,Builtin.min2,K?,md]at g1 |-;exact g1
       simp only[if_true,q0s,jR,Builtin.max2,K?,md]at g1 |-;exact g1
    |_=>simp[oA]at h
   |_=>simp[oA]at h
theorem zM.ptr{t:TypeId}{ti:TI}(ht:zM P t ti)(h:ti.td= .ptr): ∃e,P.underlying t=some (.pointer e):=by obtain⟨d,h1,h2⟩:=ht.und;rw[h]at h2;cases d<;>simp[JW]at h2;exact⟨_,h1⟩
theorem zM.func{t:TypeId}{ti:TI}(ht:zM P t ti)(h:ti.td= .func): ∃a b c,P.underlying t=some (.func a b c):=by obtain⟨d,h1,h2⟩:=ht.und;rw[h]at h2;cases d<;>simp[JW]at h2;exact⟨_,_,_,h1⟩
theorem HT{t:TypeId}{ti:TI}(ht:zM P t ti)(h:ti.isAgg=false):P.cellsOf t=1:=by
 rw[ht.cellsOf];obtain⟨i,z,h1,h2,h3,h4,h5,h6⟩:=ht.info;have hl:=ht.len;have hz:Z9 z=false:=by rw[h6];unfold q1i at h;unfold TD.isAgg;exact h
 have hc:z.cells= #[z]:=by cases z<;>simp[Z9]at hz<;>rfl
 rw[hc]at h5;have h5' :i9 [z]=some ti.zero:=h5;have one: ∀l,i9 [z]=some l->l.length=1:=by intro l h;unfold i9 at h;split at h<;>cases h;rename_i p l e1 e2;unfold i9 at e2;cases e2;rfl
 rw[<- hl];exact one _ h5'
theorem Yb{G:TypeId->Option TI}(hG: ∀t ti,G t=some ti->zM P t ti)(d:Nat)(xs ys:Array Value): ∀(fs:List Field)(i:Nat)(a b:List PV),
  aQ P i fs=true->aK G (fs.map fun f=>(f.offset,P.cellsOf f.type,f.type)) a=true->
  (∀(j:Nat) p v,a[j]? =some p->xs[i+j]? =some v->RP w Im p v)->(∀(j:Nat) p v,b[j]? =some p->ys[i+j]? =some v->RP w Im p v)->
  i+a.length<=xs.size->i+b.length<=ys.size-> ∀{r:Bool},uX a b=some r->(Op.eqFields (d+1) xs ys fs).run P w= .ok r w
 |[],i,a,b,_,hl,_,_,_,_,r,h=>by cases a with|cons p a=>simp[aK]at hl|nil=>cases b<;>simp[uX]at h;subst h;simp[Op.eqFields]
 |f::fs,i,a,b,hp,hl,ha,hb,hxs,hys,r,h=>by
  simp only[aQ,zQ,bne_iff_ne,ne_eq,beq_iff_eq]at hp;obtain⟨⟨hn,oZ⟩,hp⟩:=hp;cases a with
  |nil=>simp[aK]at hl
  |cons p a=>
  simp only[s?,aK,zQ]at hl;obtain⟨H3,hl⟩:=hl;split at H3;rotate_left
  ·cases H3
  rename_i tif htif;have htf:=hG _ _ htif;cases b with
  |nil=>cases p<;>simp[uX]at h
  |cons q b=>
  simp only[g?]at hxs hys;obtain⟨x,hx⟩: ∃x,xs[i]? =some x:=⟨xs[i]'(o?),z?⟩;obtain⟨y,hy⟩: ∃y,ys[i]? =some y:=⟨ys[i]'(o?),z?⟩;have hpx:=ha 0 p x z? (by simpa using hx);have hqy:=hb 0 q y z? (by simpa using hy);have hagg:tif.isAgg=false:=by
   unfold q1i;cases ju:tif.td<;>simp[jL,ju]at H3 |-
  rw[HT htf hagg]at hp;have rest: ∀{t:Bool},uX a b=some t->(Op.eqFields (d+1) xs ys fs).run P w= .ok t w:=fun ht=>
   Yb hG d xs ys fs (i+1) a b hp hl (fun j p v h1 h2=>ha (j+1) p v (by simpa using h1) (by rwa[show i+(j+1)=i+1+j from o?]))
    (fun j p v h1 h2=>hb (j+1) p v (by simpa using h1) (by rwa[show i+(j+1)=i+1+j from o?])) o? o? ht
  have part1: ∀(cs:Array Value)(v:Value),cs[i]? =some v->(part f.type cs f.offset).run P w= .ok v w:=by
   intro cs v hv;unfold part;simp only[oZ,jR,htf.isAgg,hagg,md,wA,if_false,hv,K?]
  have step: ∀(t u:Bool),(Op.equalIn (d+1) f.type x y).run P w= .ok t w->uX a b=some u->(Op.eqFields (d+1) xs ys (f::fs)).run P w= .ok (t&&u) w:=by
   intro t u h1 h2;simp only[Op.eqFields,hn,not_false_eq_true,ne_eq,if_true,jR,part1 xs x hx,part1 ys y hy,md,h1];cases t
   ·simp
   simp[rest h2]
  cases p with
  |int k n=>cases q with
   |int k' n' =>
    simp only[uX]at h;split at h;rotate_left
    ·cases h
    rename_i hk;subst hk;split at h<;>cases h;rename_i t ht;refine step _ _ ?_ ht;cases hpx;cases hqy;obtain⟨k0,ju⟩: ∃k0,tif.td= .int k0:=by cases ju:tif.td<;>simp[jL,ju]at H3 |-
    exact run_equalIn_int w d f.type k k0 n n' (htf.int ju)
   |_=>simp[uX]at h
  |str s=>cases q with
   |str s' =>
    simp only[uX]at h;split at h<;>cases h;rename_i t ht;refine step _ _ ?_ ht;cases hpx;cases hqy;have ju:tif.td= .string:=by cases ju:tif.td<;>simp[jL,ju]at H3 |-
    have:=run_equalIn_string w d f.type ⟨⟨s⟩⟩ ⟨⟨s'⟩⟩ (htf.string ju);simpa using this
   |_=>simp[uX]at h
  |bool x1=>cases q with
   |bool x2=>
    simp only[uX]at h;split at h<;>cases h;rename_i t ht;refine step _ _ ?_ ht;cases hpx;cases hqy;have ju:tif.td= .bool:=by cases ju:tif.td<;>simp[jL,ju]at H3 |-
    exact run_equalIn_bool' w d f.type x1 x2 (htf.bool ju)
   |_=>simp[uX]at h
  |_=>simp[uX]at h
def Z1:Value->Bool
 | .bool _| .agg _| .slice _ _ _| .pointer _| .map _| .func _ _ _| .nilFunc=>true
 |_=>false
theorem binOp_eql{t:TypeId}{x y:Value}(h:Z1 x=true):(binOp .eql t x y).run P w=((Op.equal t x y).run P w).andThen fun b w' => .ok (.bool b) w' :=by cases x<;>simp[Z1]at h<;>simp[binOp]
theorem binOp_neq{t:TypeId}{x y:Value}(h:Z1 x=true):(binOp .neq t x y).run P w=((Op.equal t x y).run P w).andThen fun b w' => .ok (.bool (!b)) w' :=by cases x<;>simp[Z1]at h<;>simp[binOp]
theorem QH(d:Nat){t e:TypeId}(hu:P.underlying t=some (.slice e))(a:Option Addr)(n c n' c' :Nat):
  (Op.equalIn (d+1) t (.slice a n c) (.slice none n' c')).run P w= .ok a.isNone w/\(Op.equalIn (d+1) t (.slice none n' c') (.slice a n c)).run P w= .ok a.isNone w:=by cases a<;>simp[Op.equalIn,qx hu]
theorem J9(d:Nat){t e:TypeId}(hu:P.underlying t=some (.pointer e))(a:Option Addr):
  (Op.equalIn (d+1) t (.pointer a) (.pointer none)).run P w= .ok a.isNone w/\(Op.equalIn (d+1) t (.pointer none) (.pointer a)).run P w= .ok a.isNone w:=by cases a<;>simp[Op.equalIn,qx hu]
theorem J8(d:Nat){t k e:TypeId}(hu:P.underlying t=some (.map k e))(a:Option Nat):
  (Op.equalIn (d+1) t (.map a) (.map none)).run P w= .ok a.isNone w/\(Op.equalIn (d+1) t (.map none) (.map a)).run P w= .ok a.isNone w:=by cases a<;>simp[Op.equalIn,qx hu]
theorem oh(d:Nat){t:TypeId}{p1 p2 p3}(hu:P.underlying t=some (.func p1 p2 p3))(f:Fn)(a b:Array Value):
  (Op.equalIn (d+1) t (.func f a b) .nilFunc).run P w= .ok false w/\(Op.equalIn (d+1) t .nilFunc (.func f a b)).run P w= .ok false w/\
  (Op.equalIn (d+1) t .nilFunc .nilFunc).run P w= .ok true w:=by simp[Op.equalIn,qx hu]
theorem IU{G:TypeId->Option TI}(hG: ∀t ti,G t=some ti->zM P t ti){t:TypeId}{ti:TI}(ht:zM P t ti)(hi:zd w H ι Im){x y:AV}{vx vy:Value}
  (hx:RA w H ι Im x vx) (hy:RA w H ι Im y vy) (ox oy:Operand) {r:Bool} (hr:aEq G ti x y H=some r):
  (eqGuard .eql t ox oy vx vy).run P w= .ok () w/\(eqGuard .neq t ox oy vx vy).run P w= .ok () w/\(Op.equal t vx vy).run P w= .ok r w/\Z1 vx=true:=by
 have sE: ∀(vx vy:Value),(∀ c d,¬ (vx= .agg c/\vy= .agg d))-> ¬(vx= .nilIface/\vy= .nilIface)-> ∀op,(eqGuard op t ox oy vx vy).run P w= .ok () w:=by intro vx vy h1 h2 op;unfold eqGuard;cases vx<;>cases vy<;>simp_all
 unfold aEq at hr;split at hr;(rename_i ju;split at hr<;>cases hr;rename_i b1 b2;cases hx with|pv _ _ hx=>cases hy with|pv _ _ hy=>cases hx;cases hy;refine⟨sE _ _ z? z? _,sE _ _ z? z? _, ?_⟩;exact⟨run_equalIn_bool' w 9999 t b1 b2 (ht.bool ju),rfl⟩)
 ·rename_i fs ju;obtain⟨fields,hu,rfl⟩:=ht.struct ju;split at hr;rotate_left;cases hr;rename_i a b;split at hr;rotate_left;cases hr
  rename_i hc;obtain⟨heq,sw⟩:=hc;have hek:=ht.eqk;rw[heq]at hek;have hek:=hek.symm;unfold eqok at hek;rw[hu]at hek;simp only[zQ,Bool.not_eq_true']at hek;obtain⟨⟨e1,e2⟩,e3⟩:=hek;cases hx with|pv _ _ hx=>cases hy with|pv _ _ hy=>
  cases hx with|agg _ xs hlx _ hxx=>cases hy with|agg _ ys hly _ hyy=>
  (refine⟨run_eqGuard_agg w .eql t ox oy _ _ e2,run_eqGuard_agg w .neq t ox oy _ _ e2, ?_,rfl⟩;have hfo:P.underlying t=some (.struct (P.fieldsOf t)):=by simp[Program.fieldsOf,hu]);have hfe:P.fieldsOf t=fields:=by simp[Program.fieldsOf,hu]
  have:=run_equalIn_struct w 9999 t ⟨xs⟩ ⟨ys⟩ hfo e1;unfold Op.equal;show(Op.equalIn (9999+1) t _ _).run P w=_;rw[this,hfe];exact Yb hG 9998 ⟨xs⟩ ⟨ys⟩ fields.toList 0 a b e3 sw (fun j p v h1 h2=>hxx j p v h1 (by simpa using h2)) (fun j p v h1 h2=>hyy j p v h1 (by simpa using h2))
   (by simp[hlx]) (by simp[hly]) hr
 rename_i td hnb Fc;have nilOf: ∀{z:AV}{vz:Value},RA w H ι Im z vz-> ∀{q:Bool},dc ti.td z H=some q->
   (∃ e,ti.td= .slice e/\ ∃a n c,vz= .slice a n c/\a.isNone=q)\/(ti.td= .ptr/\ ∃a,vz= .pointer a/\a.isNone=q)\/
   ((∃ k e,ti.td= .map k e)/\ ∃a,vz= .map a/\a.isNone=q)\/(ti.td= .func/\((vz= .nilFunc/\q=true)\/ ∃f a b,vz= .func f a b/\q=false)):=by
  intro z vz hz q hq;unfold dc at hq;split at hq
  ·rename_i ju;refine .inr (.inl ⟨ju, ?_⟩);split at hq<;>cases hq
   ·cases hz with|pv _ _ h=>cases h;exact⟨_,rfl,rfl⟩
   ·cases hz;exact⟨_,rfl,rfl⟩
   ·cases hz;exact⟨_,rfl,rfl⟩
   ·cases hz;exact⟨_,rfl,rfl⟩
   cases hz with|pv _ _ h=>cases h;exact⟨_,rfl,rfl⟩
  ·rename_i e ju;refine .inl ⟨e,ju, ?_⟩;split at hq
   ·cases hq;cases hz with|pv _ _ h=>
    cases h
    ·exact⟨_,_,_,rfl,rfl⟩
    exact⟨_,_,_,rfl,rfl⟩
   ·cases hq;cases hz;exact⟨_,_,_,rfl,rfl⟩
   ·rename_i β xc off n;split at hq;rotate_left
    ·cases hq
    rename_i qt sz es hb;split at hq<;>cases hq;rename_i hv;obtain⟨a,c,rfl,hn⟩:=hz.HO hi hb hv;exact⟨_,_,_,rfl,hn⟩
   cases hq
  ·rename_i k e ju;refine .inr (.inr (.inl ⟨⟨k,e,ju⟩, ?_⟩));split at hq<;>cases hq
   ·cases hz with|pv _ _ h=>cases h;exact⟨_,rfl,rfl⟩
   cases hz;exact⟨_,rfl,rfl⟩
  ·rename_i ju;refine .inr (.inr (.inr ⟨ju, ?_⟩));split at hq<;>cases hq
   ·cases hz with|pv _ _ h=>cases h;exact .inl ⟨rfl,rfl⟩
   ·cases hz with|pv _ _ h=>cases h;exact .inr ⟨_,_,_,rfl,rfl⟩
   cases hz;exact .inr ⟨_,_,_,rfl,rfl⟩
  cases hq
 have isNil: ∀{z:AV}{vz:Value},RA w H ι Im z vz->Wg ti.td z=true->dc ti.td z H=some true:=by intro z vz hz h;unfold Wg at h;split at h<;>rename_i h1<;>first|(rw [h1];rfl)|cases h
 have main: ∀{z z' :AV}{vz vz' :Value},RA w H ι Im z vz->RA w H ι Im z' vz' ->dc ti.td z H=some r->dc ti.td z' H=some true->
   (∀ c d,¬ (vz= .agg c/\vz' = .agg d))/\(∀ c d,¬ (vz' = .agg c/\vz= .agg d))/\ ¬(vz= .nilIface/\vz' = .nilIface)/\ ¬(vz' = .nilIface/\vz= .nilIface)/\
   (Op.equal t vz vz').run P w= .ok r w/\(Op.equal t vz' vz).run P w= .ok r w/\Z1 vz=true/\Z1 vz' =true:=by
  intro z z' vz vz' hz hz' h1 h2;have g1:=nilOf hz h1;have g2:=nilOf hz' h2;unfold Op.equal;rcases g1 with ⟨e,ju,a,n,c,rfl,hn⟩|⟨ju,a,rfl,hn⟩|⟨⟨k,e,ju⟩,a,rfl,hn⟩|⟨ju,g1⟩
  ·rcases g2 with ⟨e',kN,a',n',c',rfl,Fb⟩|⟨kN,_⟩|⟨⟨k',e',kN⟩,_⟩|⟨kN,_⟩;rotate_left
   ·rw[ju]at kN;cases kN
   ·rw[ju]at kN;cases kN
   ·rw[ju]at kN;cases kN
   have:a' =none:=by simpa using Fb
   subst this hn;exact⟨z?,z?,z?,z?,(QH 9999 (ht.slice ju) a n c n' c').1,(QH 9999 (ht.slice ju) a n c n' c').2,rfl,rfl⟩
  ·obtain⟨e,hu⟩:=ht.ptr ju;rcases g2 with ⟨e',kN,_⟩|⟨kN,a',rfl,Fb⟩|⟨⟨k',e',kN⟩,_⟩|⟨kN,_⟩
   ·rw[ju]at kN;cases kN
   rotate_left
   ·rw[ju]at kN;cases kN
   ·rw[ju]at kN;cases kN
   have:a' =none:=by simpa using Fb
   subst this hn;exact⟨z?,z?,z?,z?,(J9 9999 hu a).1,(J9 9999 hu a).2,rfl,rfl⟩
  ·rcases g2 with ⟨e',kN,_⟩|⟨kN,_⟩|⟨⟨k',e',kN⟩,a',rfl,Fb⟩|⟨kN,_⟩
   ·rw[ju]at kN;cases kN
   ·rw[ju]at kN;cases kN
   rotate_left
   ·rw[ju]at kN;cases kN
   have:a' =none:=by simpa using Fb
   subst this hn;exact⟨z?,z?,z?,z?,(J8 9999 (ht.map ju) a).1,(J8 9999 (ht.map ju) a).2,rfl,rfl⟩
  obtain⟨p1,p2,p3,hu⟩:=ht.func ju;rcases g2 with ⟨e',kN,_⟩|⟨kN,_⟩|⟨⟨k',e',kN⟩,_⟩|⟨kN,g2⟩
  ·rw[ju]at kN;cases kN
  ·rw[ju]at kN;cases kN
  ·rw[ju]at kN;cases kN
  rcases g2 with ⟨rfl,_⟩|⟨_,_,_,_,h⟩;rotate_left
  ·cases h
  rcases g1 with ⟨rfl,rfl⟩|⟨f,a,b,rfl,rfl⟩
  ·have:=(oh (P:=P) (w:=w) 9999 hu (.func 0) #[] #[]).2.2;exact⟨z?,z?,z?,z?,this,this,rfl,rfl⟩
  exact⟨z?,z?,z?,z?,(oh 9999 hu f a b).1,(oh 9999 hu f a b).2.1,rfl,rfl⟩
 split at hr;rename_i hn;obtain⟨m1,m2,m3,m4,m5,m6,m7,m8⟩:=main hx hy hr (isNil hy hn);exact⟨sE _ _ m1 m3 _,sE _ _ m1 m3 _,m5,m7⟩;split at hr;rename_i hn;obtain⟨m1,m2,m3,m4,m5,m6,m7,m8⟩:=main hy hx hr (isNil hx hn);exact⟨sE _ _ m2 m4 _,sE _ _ m2 m4 _,m6,m8⟩;cases hr
theorem aBin_ok{G:TypeId->Option TI}(hG: ∀t ti,G t=some ti->zM P t ti){t:TypeId}{ti:TI}(ht:zM P t ti)(hi:zd w H ι Im){x y:AV}{vx vy:Value}
  (hx:RA w H ι Im x vx) (hy:RA w H ι Im y vy) (op:BinOp) (ox oy:Operand) {p:PV} (hr:Pe G op ti x y H=some p):
  ∃u,(eqGuard op t ox oy vx vy).run P w= .ok () w/\(binOp op t vx vy).run P w= .ok u w/\RP w Im p u:=by
 have We: ∀(k k' :IntKind)(a b:Int)(op:BinOp),(eqGuard op t ox oy (.int k a) (.int k' b)).run P w= .ok () w:=by intro k k' a b op;unfold eqGuard;cases op<;>simp
 have strGuard: ∀(a b:ByteArray)(op:BinOp),(eqGuard op t ox oy (.string a) (.string b)).run P w= .ok () w:=by intro a b op;unfold eqGuard;cases op<;>simp
 unfold Pe at hr;split at hr;{split at hr;rotate_left;cases hr;rename_i k a k' b;split at hr<;>cases hr;rename_i h0;cases hx with|pv _ _ hx=>cases hy with|pv _ _ hy=>cases hx;cases hy;have: ¬b<0:=o?;exact⟨_,We _ _ _ _ _,by simp[binOp,Op.shift,this],.int _ _⟩};{split at hr;rotate_left;cases hr;rename_i k a k' b;split at hr<;>cases hr;rename_i h0;cases hx with|pv _ _ hx=>cases hy with|pv _ _ hy=>cases hx;cases hy;have: ¬b<0:=o?;exact⟨_,We _ _ _ _ _,by simp[binOp,Op.shift,this],.int _ _⟩};rename_i h1 h2;split at hr;{rename_i k a k' b;split at hr;rotate_left;cases hr;rename_i hk;subst hk;cases hx with|pv _ _ hx=>cases hy with|pv _ _ hy=>cases hx;cases hy;obtain⟨u,g1,g2⟩:=Fs (P:=P) (w:=w) (Im:=Im) ⟨h1,h2⟩ t hr;exact⟨u,We _ _ _ _ _,g1,g2⟩};(cases hx with|pv _ _ hx=>cases hy with|pv _ _ hy=>cases hx;cases hy;obtain⟨u,g1,g2⟩:=AN (P:=P) (w:=w) (Im:=Im) t hr;exact⟨u,strGuard _ _ _,g1,g2⟩);rename_i x y hni Fc;split at hr;split at hr<;>cases hr;rename_i b hb;obtain⟨g1,g2,g3,g4⟩:=IU hG ht hi hx hy ox oy hb;exact⟨.bool b,g1,by rw[binOp_eql g4,g3];rfl,.bool _⟩;split at hr<;>cases hr;rename_i b hb;obtain⟨g1,g2,g3,g4⟩:=IU hG ht hi hx hy ox oy hb;exact⟨.bool (!b),g2,by rw[binOp_neq g4,g3];rfl,.bool _⟩;cases hr
end
section
variable [xd] {P:Program} {w:World} {H:qp} {ι:yp} {Im:Nat->Prop}
theorem RA.gA{p:PV}{v:Value}(h:RA w H ι Im (.pv p) v):RP w Im p v:=by cases h;assumption
theorem KE: ∀(es:List (List PV))(l:List UInt8),ph es=some l-> ∀(cs:Nat->Option Value)(k:Nat),(∀(i:Nat) e(j:Nat) p,es[i]? =some e->e[j]? =some p-> ∃v,cs (k+i)=some v/\RP w Im p v/\j=0)->
  es.length=l.length/\ ∀i,i<es.length-> ∃n:Int,cs (k+i)=some (.int .u8 n)/\l[i]? =some (UInt8.ofNat n.toNat)
 |[],l,h,cs,k,_=>by simp only[ph,kG]at h;subst h;simp
 |e::r,l,h,cs,k,hc=>by
  unfold ph at h;split at h;cases ‹_::_=[]›
  ·rename_i n r' heq;obtain⟨rfl,rfl⟩:e=[.int .u8 n]/\r=r' :=by simpa using heq
   split at h<;>cases h;rename_i l' hl;obtain⟨h1,h2⟩:=KE r l' hl cs (k+1) (fun i e j p a b=>by
    have:=hc (i+1) e j p (by simpa using a) b
    rwa[show k+(i+1)=k+1+i from o?]at this)
   refine⟨by simp[h1],fun i hi=>?_⟩;cases i with|zero=>obtain⟨v,g1,g2,_⟩:=hc 0 [.int .u8 n] 0 (.int .u8 n) z? z?;cases g2;exact⟨n,g1,z?⟩|succ i=>simp only[g?]at hi;obtain⟨n',g1,g2⟩:=h2 i o?;exact⟨n',by rwa[show k+(i+1)=k+1+i from o?],by simpa using g2⟩
  cases h
theorem QO(g:Value->ByteArray->Sem (ForInStep ByteArray))(hg: ∀n s,g (.int .u8 n) s=pure (.yield (s.push (UInt8.ofNat n.toNat)))):
  ∀(l:List Value)(acc:ByteArray)(out:List UInt8),l.length=out.length->
  (∀(i:Nat) v b,l[i]? =some v->out[i]? =some b-> ∃n:Int,v= .int .u8 n/\b=UInt8.ofNat n.toNat)->
  (forIn l acc g).run P w= .ok ⟨⟨acc.data.toList++out⟩⟩ w
 |[],acc,out,hl,_=>by (have:out=[]:=by simpa using hl.symm);subst this;simp
 |v::r,acc,out,hl,h=>by cases out with|nil=>simp at hl|cons b out=>obtain⟨n,rfl,rfl⟩:=h 0 v b z? z?;have ih:=QO g hg r (acc.push (UInt8.ofNat n.toNat)) out (by simpa using hl) (fun i v b h1 h2=>h (i+1) v b (by simpa using h1) (by simpa using h2));simp only[List.forIn_cons,hg,jR,Sem.run_pure,md,ih];simp
theorem Bw{src dst:TypeId}{d1:TypeDesc}{k:IntKind}(h1:P.underlying src=some d1)(h2:P.underlying dst=some (.int k))(kd:IntKind)(n:Int):
  (convert src dst (.int kd n)).run P w= .ok (.int k (k.wrap n)) w:=by unfold convert;simp only[jR,qx h1,qx h2,md];rfl
theorem Bx{src dst:TypeId}{d1:TypeDesc}(h1:P.underlying src=some d1)(h2:P.underlying dst=some .string)(s:ByteArray):
  (convert src dst (.string s)).run P w= .ok (.string s) w:=by unfold convert;simp only[jR,qx h1,qx h2,md];rfl
theorem Vw{src dst e:TypeId}(h1:P.underlying src=some (.slice e))(h2:P.underlying dst=some .string)(h3:P.underlying e=some (.int .u8))(a:Option Addr)(n c:Nat):
  (convert src dst (.slice a n c)).run P w=(Conv.bytesToString (.slice a n c)).run P w:=by unfold convert;simp only[jR,qx h1,qx h2,md,qx h3]
theorem JG{src dst e:TypeId}{d1:TypeDesc}(h1:P.underlying src=some d1)(h2:P.underlying dst=some (.slice e))(h3:P.underlying e=some (.int .u8))(s:ByteArray):
  (convert src dst (.string s)).run P w=(Conv.stringToBytes e s).run P w:=by unfold convert;simp only[jR,qx h1,qx h2,md,qx h3]
theorem zM.undS{t:TypeId}{ti:TI}(ht:zM P t ti): ∃d,P.underlying t=some d:=by obtain⟨d,h,_⟩:=ht.und;exact⟨d,h⟩
theorem GZ{G:TypeId->Option TI}(hG: ∀t ti,G t=some ti->zM P t ti){src dst:TypeId}{ts td:TI}(hs:zM P src ts)(hd:zM P dst td)
  (hi:zd w H ι Im) {nx:Nat} {X:Nat->Prop} (xV:Bd X H nx) {x:AV} {v:Value} (hx:RA w H ι Im x v) {r:mA} (hr:ry ts.td td.td G x H nx=some r) (hX: ∀γ,X γ->r.2.2<=γ):
  ∃u w',(convert src dst v).run P w= .ok u w' /\tj X w H ι Im nx r u w' :=by
 obtain⟨d1,hu1⟩:=hs.undS;unfold ry at hr;split at hr;rename_i k kd n ju;cases hr;have h:=hx.gA;cases h;exact⟨.int k (k.wrap n),w,Bw hu1 (hd.int ju) _ _,tj.pure hi xV (.pv _ _ (.int _ _))⟩;rename_i s ju;cases hr;have h:=hx.gA;cases h;exact⟨_,w,Bx hu1 (hd.string ju) _,tj.pure hi xV (.pv _ _ (.str _))⟩
 ·rename_i e Fc htd1 htd2;split at hr;rotate_left;cases hr;rename_i te dw;have sy:=hG _ _ dw;split at hr;rotate_left;cases hr;rename_i htde;split at hr;rotate_left;cases hr;rename_i rn es rE;split at hr;rotate_left;cases hr;(rename_i Fj;split at hr<;>cases hr;rename_i l hl;have hsl: ∃a n c,v= .slice a n c:=by unfold yH at rE;split at rE;have h:=hx.gA;cases h<;>exact⟨_,_,_,rfl⟩;cases hx;exact⟨_,_,_,rfl⟩;{rename_i β xc off n;split at rE;rotate_left;cases rE;rename_i qt sz oi hb;split at rE;rotate_left;cases rE;rename_i hv;obtain⟨a,c,h,_⟩:=hx.HO hi hb hv;exact⟨_,_,_,h⟩};rename_i s;exact absurd rfl (by first|exact Fc _|exact htd1 _|exact htd2 _|skip);cases rE);obtain⟨a,n,c,rfl⟩:=hsl;obtain⟨l1,l2⟩:=tG (P:=P) hi hx rE;obtain⟨cs,f1,f2,f3⟩:=l2 1 Fj;have hn:n=es.length:=by simp[Builtin.lenOf]at l1;exact l1
  subst hn;obtain⟨k1,k2⟩:=KE (w:=w) (Im:=Im) es l hl (fun i=>cs[i]?) 0 (fun i e j p q1 q2=>by
   obtain⟨v0,g1,g2⟩:=f3.2.2 i e j p q1 q2
   have h1:=f3.1 e (z7 q1)
   have h2:=(qF q2).1
   have:j=0:=o?
   subst this
   exact⟨v0,by simpa using g1,g2,rfl⟩)
  refine⟨.string ⟨⟨l⟩⟩,w, ?_,tj.pure hi xV (.pv _ _ (.str _))⟩;rw[Vw (hs.slice ‹_›) (hd.string ‹_›) (sy.int htde)];unfold Conv.bytesToString;cases a with
   |none=>(have So:cs= #[]:=by simp[Builtin.firstCells]at f1;first|exact f1.symm|exact f1);(subst So;have:es=[]:=by (have:es.length=0:=by simpa using f2.symm);simpa using this);(subst this;have:l=[]:=by simpa using k1.symm);subst this;rfl
   |some a=>
    have hld:(loadCells a es.length).run P w= .ok cs w:=by simpa[Builtin.firstCells]using f1
    have So:cs.toList.length=l.length:=v?;have:=fun g hg=>QO (P:=P) (w:=w) g hg cs.toList ByteArray.empty l So (fun i v b q1 q2=>by
     have db:i<es.length:=by
      have:=(qF q1).1
      omega
     obtain⟨m,g1,g2⟩:=k2 i db
     have q1' :cs[i]? =some v:=by simpa using q1
     simp only[Nat.zero_add,q1']at g1
     rw[q2]at g2
     exact⟨m,Option.some.inj g1,Option.some.inj g2⟩)
    simp only[jR,hld,md];rw[<- Array.forIn_toList,this _ (fun n s=>rfl)];rfl
 ·rename_i e s ju;split at hr;rotate_left;cases hr;rename_i te dw;have sy:=hG _ _ dw;split at hr<;>cases hr;rename_i htde;have h:=hx.gA;cases h;let cap:Nat:=Question.cut (.appendCap s.length 0 e) (w.tape w.drawn (.appendCap s.length 0 e));(have JM:s.length<=cap:=by simp[cap,Question.cut]);let cs:Array Value:=(⟨s⟩:Array UInt8).map (fun b=>Value.int .u8 b.toNat)++Array.replicate (cap-s.length) (.int .u8 0);(have mq:cs.size=cap:=by simp[cs];omega);refine⟨.slice (some ⟨w.heap.size,0,none⟩) s.length cap, { vn w with heap:=w.heap.push (.cells cs e (cs.size,cs.size+1)) }, ?_, ?_⟩;(rw[JG hu1 (hd.slice ju) (sy.int htde)];unfold Conv.stringToBytes;have Vy:(choose (Question.appendCap (ByteArray.mk ⟨s⟩).size 0 e)).run P w= .ok cap (vn w):=by have:(ByteArray.mk ⟨s⟩).size=s.length:=rfl;rw[this];simp[choose,Sem.run,Question.forced,cap,vn]);(have hmark:(markStringish ⟨w.heap.size,0,none⟩).run P { vn w with heap:=w.heap.push (.cells cs e) }= .ok () { vn w with heap:=w.heap.push (.cells cs e (cs.size,cs.size+1)) }:=by (unfold markStringish;have h1:(World.shape? { vn w with heap:=w.heap.push (.cells cs e) } w.heap.size)=some (e,cs.size):=by simp[World.shape?]);simp only[jR,run_shape,md,h1,run_freeze];simp[World.freeze,vn];apply Array.ext;simp;intro i h1 h2;simp at h1;simp only[Array.getElem_modify,Array.getElem_push];split;rename_i h;subst h;simp;rename_i h;simp[show i<w.heap.size from o?]);have e1:(ByteArray.mk ⟨s⟩).size=s.length:=rfl;simp only[jR,Vy,md,newRow,run_newObj,Sem.run_pure];have e2:(vn w).heap=w.heap:=rfl;simp only[e2,e1];have:=hmark;simp only[cs,e1]at this |-;rw[this];rfl
  have:=Ka hi xV (aP hX) 1 (s.map fun b=>[PV.int .u8 b.toNat]) cs e (cs.size,cs.size+1) cap { vn w with heap:=w.heap.push (.cells cs e (cs.size,cs.size+1)) } rfl ⟨rfl,rfl⟩
   ⟨z?,fun i yv h=>by simp at h;omega⟩ o? (by simp[mq]) (by simpa using JM) (by
    refine⟨fun e0 MF=>?_,fun i e0 j p q1 q2=>?_,fun i e0 j p q1 q2=>?_⟩
    ·simp only[List.mem_map]at MF
     obtain⟨b,_,rfl⟩:=MF
     rfl
    ·simp only[List.getElem?_map,yS]at q1
     obtain⟨b,_,rfl⟩:=q1
     cases j with
     |zero=>simp at q2;subst q2;rfl
     |succ j=>simp at q2
    simp only[List.getElem?_map,yS]at q1
    obtain⟨b,hb,rfl⟩:=q1
    cases j with
    |zero=>
     simp at q2
     subst q2
     refine⟨.int .u8 b.toNat, ?_,.int _ _⟩
     have db:=(qF hb).1
     simp only[cs]
     rw[Array.getElem?_append_left v?]
     simp[hb]
    |succ j=>simp at q2)
  simpa using this
 cases hr
theorem qp.Hy: ∀{H:qp}{β:Nat}{b:qD},H.get β=some b->H.put β b=H
 |[],_,_,h=>by cases h
 |(i,v)::r,β,b,h=>by simp only[A!]at h;simp only[q_];split;rename_i hi;rw[if_pos hi]at h;cases h;rw[hi];rename_i hi;rw[if_neg hi]at h;rw[qp.Hy h]
theorem Uu{G:GP}(hG: ∀t ti,G.ti t=some ti->zM P t ti){t:TypeId}
  (hi:zd w H ι Im) {nx:Nat} {X:Nat->Prop} (xV:Bd X H nx) {x:AV} {v:Value} (hx:RA w H ι Im x v) {r:mA} (hr:tH G t x H nx=some r):
  ∃u w',(convert t t v).run P w= .ok u w' /\tj X w H ι Im nx r u w' :=by unfold tH at hr;cases hr
end
section
variable [xd] {P:Program} {w:World} {H:qp} {ι:yp} {Im:Nat->Prop}
theorem GU{ts tx e:TypeId}{ti te oI:TI}(K5:zM P ts ti)(ju:ti.td= .slice e)(dw:zM P e te)(Ji:zM P tx oI)
  (ZS:(∃ e',oI.td= .slice e')\/oI.td= .string) (tt:TypeId) (hi:zd w H ι Im) {nx:Nat} {X:Nat->Prop} (xV:Bd X H nx)
  {x y:AV} {vx vy:Value} (hx:RA w H ι Im x vx) (hy:RA w H ι Im y vy) {r:mA} (hr:gZ e te x y H nx=some r):
  ∃u w',(Builtin.append_ #[ts,tx] tt #[vx,vy]).run P w= .ok u w' /\tj X w H ι Im nx r u w' :=by unfold gZ at hr;cases hr
theorem Vs{x:AV}{v:Value}(hx:RA w H ι Im x v)(hi:zd w H ι Im){nx:Nat}{X:Nat->Prop}(xV:Bd X H nx){r:mA}(hr:tu x H nx=some r)(ch:Array TypeId)(tt:TypeId):
  ∃u w',(Builtin.unsafeSliceData_ ch tt #[v]).run P w= .ok u w' /\tj X w H ι Im nx r u w' :=by unfold tu at hr;cases hr
theorem Xv{tp el:TypeId}{ch:Array TypeId}(h0:ch[0]? =some tp){ti:TI}(ht:zM P tp ti)(MG:ti.pe=some el)(K4:P.cellsOf el=1){p x:AV}{vp vx:Value}(hp:RA w H ι Im p vp)(hx:RA w H ι Im x vx)(hi:zd w H ι Im)
  {nx:Nat} {X:Nat->Prop} (xV:Bd X H nx) {r:mA} (hr:gv el p x H nx=some r) (tt:TypeId):
  ∃u w',(Builtin.unsafeString_ ch tt #[vp,vx]).run P w= .ok u w' /\tj X w H ι Im nx r u w' :=by unfold gv at hr;cases hr
end
section
variable [xd] {P:Program} {w:World} {H:qp} {ι:yp} {Im:Nat->Prop}
theorem XV{w' :World}{H' :qp}{ι' :yp}{β γ fv:Nat}{ds:List Nat}{es:List PV}{ks:List Sk}(sZ:(ι' β).ks=ks++[.leaf]){eg:Array Value}{elem:TypeId}{fz:Nat×Nat}
  (h1:w'.heap[(ι' β).b]? =some (.cells eg elem fz)) (h2:wE fz eg.size) (h3:eg.size=(ι' β).cap) (h4:es.length+1<=(ι' β).cap) (h5:ks.length=es.length)
  (h6:((ι' β).b::ks.flatMap j!).Nodup) (h7: ∀x∈ks.flatMap j!,x<w'.heap.size)
  (h8: ∀(i:Nat) p k,es[i]? =some p->ks[i]? =some k-> ∃v,eg[i]? =some v/\oW w' Im ds p v k) {v0:Value} (h9:eg[es.length]? =some v0) (h10:RA w' H' ι' Im (.row γ fv 0 fv) v0):
  ro w' H' ι' Im β (.jc false ds (es++[.sl true 0 []]) (some (es.length,γ,fv))):=by
 have Qw:(ks++[Sk.leaf]).flatMap j!=ks.flatMap j!:=by simp[j!]
 refine⟨eg,elem,fz,h1,h2,h3,by simpa using h4,by rw[sZ];simp[h5],by rw[sZ,Qw];exact h6,by rw[sZ,Qw];exact h7,fun j γ' xc hf=>by cases hf;simp,fun i p k hp hk=>?_⟩;rw[sZ]at hk;by_cases hi:i<es.length;rw[p? hi]at hp;rw[p? o?]at hk;obtain⟨v,k1,k2⟩:=h8 i p k hp hk;exact⟨v,k1,fun _=>k2,fun γ' xc hf=>by cases hf;omega⟩;have MI:i=es.length:=by have:=(qF hp).1;simp at this;omega
 subst MI;refine⟨v0,h9,fun h=>absurd rfl (h _ _ _ rfl),fun γ' xc hf=>?_⟩;cases hf;rw[J? o?,h5]at hk;simp at hk;exact⟨hk.symm,h10⟩
theorem GS{ts tx e:TypeId}{ti te oI:TI}(K5:zM P ts ti)(ju:ti.td= .slice e)(dw:zM P e te)(Ji:zM P tx oI)
  (ZS:(∃ e',oI.td= .slice e')\/oI.td= .string) (tt:TypeId) (hi:zd w H ι Im) {nx:Nat} {X:Nat->Prop} (xV:Bd X H nx)
  {x y:AV} {vx vy:Value} (hx:RA w H ι Im x vx) (hy:RA w H ι Im y vy) {r:mA} (hr:nK te x y H nx=some r):
  ∃u w',(Builtin.append_ #[ts,tx] tt #[vx,vy]).run P w= .ok u w' /\tj X w H ι Im nx r u w' :=by
 unfold nK at hr;split at hr;rotate_left;cases hr;rename_i rn γ fv fn rE;split at hr;rotate_left;cases hr;rename_i β xc off n;split at hr;rotate_left;cases hr
 rename_i qt ds es hb;split at hr<;>cases hr;rename_i hc;obtain⟨jy,rfl,rfl,rfl,T9,rfl,gU⟩:=hc;obtain⟨l1,cs,f1,f2,f3⟩:=Qm (P:=P) hi hy rE;have hxx:=hx;cases hx with
  |row _ _ _ _ _ b ho jo hk hv hh=>(rw[hb]at jo;cases jo;obtain⟨h1,h2⟩:=hh _ _ _ rfl jy;have hg: ∀y,(z6 [(β,y)] H).get β=some y:=fun y=>by simp[z6,qp.zg]);(have Oe: ∀{w0:World}{H0:qp}{ι0:yp}{get:Nat->Option Value},mi w0 H0 ι0 Im te.size [[AV.row γ fn 0 fn]] get-> ∃v0,get 0=some v0/\RA w0 H0 ι0 Im (.row γ fn 0 fn) v0:=by intro w0 H0 ι0 get hA;have:=hA.2.2 0 _ 0 _ rfl rfl;rw[T9]at this;exact this);cases qt with
  |true=>
   simp only[if_true]at h2;subst h2;have de:es=[]:=(hi.rk β _ hb).1;subst de;obtain⟨nc,w',cs',g1,g2,g3,g4,g5⟩:=UR K5 ju dw Ji ZS tt hi hy rE z? (by simpa using gU);refine⟨_,w',g5,jW ι β ⟨w.heap.size,nc,[.leaf]⟩, ?_⟩;have key:=zd.TQ hi (w' :=w') β (.jc false ds ([]++[.sl true 0 []]) (some (0,γ,fn))) ⟨w.heap.size,nc,[.leaf]⟩ (fun x hx=>by rw[hb]at hx;cases hx;simp[xN,qD.sh])
    ⟨by rw[g2.1];simp,g2.2⟩ (fun b' jo _=>by rw[g2.1];simp[Array.getElem?_push,Nat.ne_of_lt jo]) (fun z hz=>by
     rcases hz.2 with h|⟨_,h⟩
     ·exact .inl (by rw[h];exact jv _)
     ·simp[Sk.blocks]at h) (fun he=>by
     obtain⟨v0,k1,k2⟩:=Oe (g4.mono hi he)
     exact XV (es:=[]) (ks:=[]) (eg:=cs') (elem:=e) (fz:=(0,0)) z? (by simp[g2]) (kf _) (by simp[g3,T9]) (by simpa using g1) rfl z? z? z? k1 k2)
   refine⟨key.1,key.2, ?_,jv _,yT xV (jv _) (xV β _ hb)⟩;refine .row β _ 0 _ _ _ rfl (hg _) (fun _=>⟨_,_,_,rfl⟩) (fun _ _ _ e=>by cases e;exact jv _) fun _ _ _ e _=>?_;cases e;refine⟨z?, ?_⟩;simp only[wA,if_false];exact⟨⟨w.heap.size,0,none⟩,z?,rfl,z?,fun _=>z?⟩
  |false=>
   (simp only[wA,if_false]at h2;obtain⟨a,rfl,oL,eQ,Qi⟩:=h2;obtain⟨ab,ao,Dw⟩:=a;simp only at oL eQ Qi;subst oL eQ;obtain⟨vs,elem,fz,g1,g2,g3,g4,g5,g6,g7,g8,g9⟩:=hi.jc hb;obtain⟨Eh,T4⟩:=List.nodup_cons.1 g6;have BU: ∀(i:Nat) p k,es[i]? =some p->(ι β).ks[i]? =some k-> ∃v,vs[i]? =some v/\oW w Im ds p v k:=fun i p k hp hk=>by obtain⟨v,k1,k2,_⟩:=g9 i p k hp hk;exact⟨v,k1,k2 fun _ _ _ h=>by cases h⟩);have Yj: ∀z,z∈((ι β).ks++[Sk.leaf]).flatMap Sk.blocks->(qD.jc false ds es none).yb (ι β) z:=fun z hz=>⟨rfl,.inr ⟨rfl,by simpa[Sk.blocks]using hz⟩⟩;by_cases sw:es.length+1<=(ι β).cap
   ·(have ON:ao=0:=by have:=Qi o?;omega);(subst ON;obtain⟨v0,c1,c2⟩:=Oe f3;have So:cs.toList=[v0]:=by (have nH:cs.size=1:=by rw[f2,T9];rfl);(have:cs= #[v0]:=by apply Array.ext;simpa using nH;intro i h1 h2;have:i=0:=o?;subst this;have:=(Array.getElem?_eq_some_iff.1 c1).2;simpa using this);rw[this]);have ot: ∀x∈cs.toList,dx x=true:=by intro x hx;rw[So]at hx;simp at hx;subst hx;exact c2.dx rfl
    obtain⟨w',q1,q2,q3,eg,q4,q5,q6⟩:=uH (P:=P) (ι β).b es.length elem fz cs.toList 0 w vs g1 g2 (by simp[So,g3];omega) ot;have T8:=run_append_fits (w' :=w') K5 ju dw Ji ZS tt (some ⟨(ι β).b,0,none⟩) es.length ((ι β).cap-0) 1 vy l1 o? cs f1
     (fun a ha=>by cases ha;rw[add_plain,Nat.zero_add,T9,Nat.mul_one];exact q1) (fun h=>by cases h)
    have hw: ∀b,Im b->w'.heap[b]? =w.heap[b]? :=fun b jo=>q3 b (fun e=>hi.Vd β _ b hb ⟨rfl,.inl e⟩ jo);refine⟨_,w',T8,jW ι β ⟨(ι β).b,(ι β).cap,(ι β).ks++[.leaf]⟩, ?_⟩;have key:=zd.TQ hi (w' :=w') β (.jc false ds (es++[.sl true 0 []]) (some (es.length,γ,fn))) ⟨(ι β).b,(ι β).cap,(ι β).ks++[.leaf]⟩
     (fun x hx=>by
      rw[hb]at hx
      cases hx
      simp[xN,qD.sh])
     ⟨o?,q2.2⟩ (fun b' _ jx=>q3 b' (fun e=>jx _ hb ⟨rfl,.inl e⟩)) (fun z hz=> .inr ⟨_,hb,(by
      rcases hz.2 with h|⟨_,h⟩
      ·exact⟨rfl,.inl h⟩
      ·exact Yj z h)⟩) (fun mI=>by
      refine XV (ks:=(ι β).ks) z? (by simpa using q4) (by rw[q5];exact g2) (by simp[q5,g3]) (by simpa using sw) g5 (by simpa using g6) (fun x hx=>by rw[q2.1];exact g7 x hx) (fun i p k hp hk=>?_) (v0:=v0) ?_ (c2.mono hi mI)
      ·obtain⟨v,k1,k2⟩:=BU i p k hp hk
       have db:=(qF hp).1
       refine⟨v, ?_,k2.mono mI.im hw fun x hx=>q3 x fun e=>?_⟩
       ·rw[q6,if_neg o?]
        exact k1
       subst e
       exact Eh (List.mem_flatMap.2 ⟨k,z7 hk,hx⟩)
      rw[q6,So]
      simp)
    refine⟨key.1,key.2, ?_,jv _,yT xV (jv _) (xV β _ hb)⟩;refine .row β _ 0 _ _ _ rfl (hg _) (fun _=>⟨_,_,_,rfl⟩) (fun _ _ _ e=>by cases e;simp) fun _ _ _ e _=>?_;cases e;refine⟨z?, ?_⟩;simp only[wA,if_false];exact⟨⟨(ι β).b,0,none⟩,z?,rfl,z?,fun _=>z?⟩
   (have hw:(vn w).heap=w.heap:=rfl;have yv:=hi.bK hw ⟨rfl,rfl⟩;obtain⟨new,m1,m2,m3⟩:=(Qm (P:=P) yv (hy.bK hw ⟨rfl,rfl⟩ hi) rE).2;have hold:(Builtin.firstCells te.size es.length (.slice (some ⟨(ι β).b,ao,none⟩) es.length ((ι β).cap-0))).run P (vn w)= .ok ((List.range es.length).map fun j=>(vs[j]?).getD undef).toArray (vn w):=by by_cases Gk:es.length=0;rw[Gk];simp[Builtin.firstCells,loadCells,loadCellsFrom];(have ON:ao=0:=by have:=Qi o?;omega);subst ON;simp only[Builtin.firstCells];rw[T9,Nat.mul_one];refine(run_loadCells (P:=P) (w:=vn w) (ι β).b 0 es.length (fun j=>(vs[j]?).getD undef) fun j hj=>?_);have:(vn w).cell? ⟨(ι β).b,0+j,none⟩=w.cell? ⟨(ι β).b,0+j,none⟩:=rfl;rw[this,gx g1];have:j<vs.size:=o?;simp[this]);(obtain⟨nc,rest,r1,r2,r3⟩:=px (w:=w) K5 ju dw Ji ZS tt (some ⟨(ι β).b,ao,none⟩) es.length ((ι β).cap-0) 1 vy l1 o? (by simpa using gU) _ new hold m1;generalize hO:((List.range es.length).map fun j=>(vs[j]?).getD undef).toArray=Nu at r3;have hos:Nu.size=es.length:=by rw[<- hO];simp);(have hog: ∀i,i<es.length->Nu[i]? =vs[i]? :=fun i xQ=>by rw[<- hO];have:i<vs.size:=o?;simp[List.getElem?_range xQ,this]);(obtain⟨v0,c1,c2⟩:=Oe (m3.mono (w' :=w) (H' :=H) (ι' :=ι) (jT:=Im) yv (wU.bK (w:=vn w) (w' :=w) rfl ⟨rfl,rfl⟩));have Fc:new.size=1:=by rw[m2,T9];rfl);refine⟨_,_,r3,jW ι β ⟨w.heap.size,nc,(ι β).ks++[.leaf]⟩, ?_⟩;have OX: ∀b',b' <w.heap.size->({ vn w with heap:=w.heap.push (.cells (Nu++new++rest) e) }:World).heap[b']? =w.heap[b']? :=fun b' jo=>by simp[Array.getElem?_push,Nat.ne_of_lt jo]
   have key:=zd.TQ hi (w' :={ vn w with heap:=w.heap.push (.cells (Nu++new++rest) e) }) β (.jc false ds (es++[.sl true 0 []]) (some (es.length,γ,fn))) ⟨w.heap.size,nc,(ι β).ks++[.leaf]⟩
    (fun x hx=>by
     rw[hb]at hx
     cases hx
     simp[xN,qD.sh])
    ⟨z?,rfl,rfl⟩ (fun b' jo _=>OX b' jo) (fun z hz=>by
     rcases hz.2 with h|⟨_,h⟩
     ·exact .inl (by rw[h];exact jv _)
     ·exact .inr ⟨_,hb,Yj z h⟩) (fun he=>by
     refine XV (ks:=(ι β).ks) z? (eg:=Nu++new++rest) (elem:=e) (fz:=(0,0)) z? (kf _) ?_ (by simp only[wS];omega) g5 ?_ (fun x hx=>?_) (fun i p k hp hk=>?_) (v0:=v0) ?_ (c2.mono hi he)
     ·simp only[wS,Array.size_append,hos,Fc,r2,T9,Nat.mul_one]
      omega
     ·simp only[wS]
      exact List.nodup_cons.2 ⟨fun h=>absurd (g7 _ h) (Nat.lt_irrefl _),T4⟩
     ·have:=g7 x hx
      simp
      omega
     ·obtain⟨v,k1,k2⟩:=BU i p k hp hk
      have db:=(qF hp).1
      refine⟨v, ?_,k2.mono he.im (fun b jo=>OX b (hi.im b jo)) fun x hx=>OX x (g7 x (List.mem_flatMap.2 ⟨k,z7 hk,hx⟩))⟩
      rw[Array.append_assoc,Array.getElem?_append_left o?,hog i db]
      exact k1
     rw[Array.append_assoc,Array.getElem?_append_right o?,hos,Nat.sub_self,Array.getElem?_append_left o?]
     exact c1)
   refine⟨key.1,key.2, ?_,jv _,yT xV (jv _) (xV β _ hb)⟩;refine .row β _ 0 _ _ _ rfl (hg _) (fun _=>⟨_,_,_,rfl⟩) (fun _ _ _ e=>by cases e;simp) fun _ _ _ e _=>?_;cases e;refine⟨z?, ?_⟩;simp only[wA,if_false];exact⟨⟨w.heap.size,0,none⟩,z?,rfl,z?,fun _=>z?⟩
end
section
variable [xd] {P:Program} {w:World} {H:qp} {ι:yp} {Im:Nat->Prop}
def oU(w:World)(Im:Nat->Prop)(es:List (PV×PV×Nat))(xe:List MapEntry):Prop:=
 es.length=xe.length/\ ∀(i:Nat)(k x:PV)(born:Nat) e,es[i]? =some (k,x,born)->xe[i]? =some e->RP w Im k e.key/\RP w Im x e.val/\e.born=born
theorem oU.mono{w' :World}{jT:Nat->Prop}(hi: ∀b,Im b->jT b)(hw: ∀b,Im b->w'.heap[b]? =w.heap[b]?){es:List (PV×PV×Nat)}{xe:List MapEntry}
  (h:oU w Im es xe):oU w' jT es xe:=
 ⟨h.1,fun i k x born e a b=>let⟨g1,g2,g3⟩:=h.2 i k x born e a b;⟨g1.mono hi hw,g2.mono hi hw,g3⟩⟩
theorem oU.tail{x:PV×PV×Nat}{es:List (PV×PV×Nat)}{e:MapEntry}{xe:List MapEntry}(h:oU w Im (x::es) (e::xe)):oU w Im es xe:=
 ⟨by simpa using h.1,fun i k y born e' a b=>h.2 (i+1) k y born e' (by simpa using a) (by simpa using b)⟩
theorem QE(a b:List UInt8):((⟨⟨a⟩⟩:ByteArray)==⟨⟨b⟩⟩)=(a==b):=by have:=beq_toListBytes ⟨⟨a⟩⟩ ⟨⟨b⟩⟩;simpa using this
theorem Rq{t:TypeId}{tk:TI}(ht:zM P t tk){k:PV}(hk:jL tk.td k=true){d:TypeDesc}(hd:P.underlying t=some d){k' :PV}{vk vk' :Value}
  (h1:RP w Im k vk) (h2:RP w Im k' vk') {b:Bool} (hb:SH k k' =some b):Instr.sameNow d vk vk' =some b/\(b=true->vk=vk'):=by
 have key: ∀td,tk.td=td->jL td k=true->_:=fun td e h=>(⟨e,h⟩:tk.td=td/\jL td k=true);cases k<;>cases k' <;>simp only[SH,reduceCtorEq]at hb;(rename_i a b';cases hb;cases h1;cases h2;have ju:tk.td= .bool:=by cases ju:tk.td<;>simp[jL,ju]at hk |-);rw[ht.bool ju]at hd;cases hd;exact⟨rfl,fun h=>by simpa using h⟩;(rename_i kd a kd' b';split at hb<;>cases hb;rename_i JO;subst JO;cases h1;cases h2;obtain⟨k0,ju⟩: ∃k0,tk.td= .int k0:=by cases ju:tk.td<;>simp[jL,ju]at hk |-);rw[ht.int ju]at hd;cases hd;exact⟨by simp[Instr.sameNow],fun h=>by simpa using h⟩;rename_i a b';cases hb;cases h1;cases h2;have ju:tk.td= .string:=by cases ju:tk.td<;>simp[jL,ju]at hk |-
 rw[ht.string ju]at hd;cases hd;refine⟨?_,fun h=>?_⟩;simp only[Instr.sameNow,QE];have:a=b' :=by simpa using h
 rw[this]
theorem su{t:TypeId}{tk:TI}(ht:zM P t tk){k:PV}(hk:jL tk.td k=true){d:TypeDesc}(hd:P.underlying t=some d){vk:Value}(h1:RP w Im k vk):
  ∀(es:List (PV×PV×Nat))(xe:List MapEntry)(i:Nat),oU w Im es xe-> ∀{r:Option (Nat×PV×Nat)},findKey k es i=some r->
   (r=none/\Instr.findNow d vk xe i=some none)\/
   ∃j x born e,r=some (i+j,x,born)/\Instr.findNow d vk xe i=some (some (i+j,e.val))/\xe[j]? =some e/\RP w Im x e.val/\e.born=born/\e.key=vk
 |[],xe,i,hE,r,h=>by (have:xe=[]:=by simpa using hE.1.symm);subst this;cases h;exact .inl ⟨rfl,rfl⟩
 |(k',x,born)::es,[],i,hE,r,h=>by have:=hE.1;simp at this
 |(k',x,born)::es,e::xe,i,hE,r,h=>by obtain⟨g1,g2,g3⟩:=hE.2 0 k' x born e z? z?;unfold findKey at h;cases hq:SH k k' with|none=>simp[hq]at h|some b=>obtain⟨s1,s2⟩:=Rq ht hk hd h1 g1 hq;cases b with|true=>simp only[hq,kG]at h;subst h;refine .inr ⟨0,x,born,e,rfl, ?_,rfl,g2,g3,(s2 rfl).symm⟩;simp[Instr.findNow,s1]|false=>simp only[hq]at h;rcases su ht hk hd h1 es xe (i+1) hE.tail h with ⟨rfl,q⟩|⟨j,x',aH,e',rfl,q1,q2,q3,q4,q5⟩;exact .inl ⟨rfl,by simp[Instr.findNow,s1,q]⟩;refine .inr ⟨j+1,x',aH,e',by rw[Nat.add_assoc,Nat.add_comm 1 j], ?_,by simpa using q2,q3,q4,q5⟩;simp only[Instr.findNow,s1,q1];rw[Nat.add_assoc,Nat.add_comm 1 j]
theorem py{t:TypeId}{tk:TI}(ht:zM P t tk){k:PV}(hk:jL tk.td k=true)(empty:Bool)(vk:Value):(Instr.checkKey empty 10000 t vk).run P w= .ok () w:=by
 have gen: ∀n,(Instr.checkKey empty (n+1) t vk).run P w= .ok () w:=by (intro n;unfold Instr.checkKey;have:P.underlying t=some .bool\/P.underlying t=some .string\/ ∃k0,P.underlying t=some (.int k0):=by cases ju:tk.td<;>simp[jL,ju]at hk;exact .inl (ht.bool ju);exact .inr (.inr ⟨_,ht.int ju⟩);exact .inr (.inl (ht.string ju)));rcases this with h|h|⟨k0,h⟩<;>simp[qx h]
 exact gen 9999
theorem mX{t:TypeId}{tk:TI}(ht:zM P t tk){d:TypeDesc}(hd:P.underlying t=some d)(vk:Value)(xe:List MapEntry){r:Option (Nat×Value)}
  (h:Instr.findNow d vk xe 0=some r):(Instr.findKey t vk xe).run P w= .ok r w:=by unfold Instr.findKey;simp[qx hd,h]
theorem zd.map{β:Nat}{es:List (PV×PV×Nat)}{zW:Nat}(hi:zd w H ι Im)(hb:H.get β=some (.map es zW)):
  ∃xe:List MapEntry,w.heap[(ι β).b]? =some (.map ⟨xe⟩ zW)/\oU w Im es xe:=hi.rk β _ hb
theorem oF{b:Nat}{xe:List MapEntry}{zW:Nat}(h:w.heap[b]? =some (.map ⟨xe⟩ zW)):(getObj b).run P w= .ok (.map ⟨xe⟩ zW) w:=by simp[getObj,G_,h]
theorem an{b:Nat}{xe:List MapEntry}{zW:Nat}(h:w.heap[b]? =some (.map ⟨xe⟩ zW))(o:Obj):
  (setObj b o).run P w= .ok () { w with heap:=w.heap.setIfInBounds b o }:=by simp[setObj,G_,h]
theorem K9(hi:zd w H ι Im){nx:Nat}{X:Nat->Prop}(xV:Bd X H nx){β:Nat}{es oi:List (PV×PV×Nat)}{zW KL:Nat}{Se:List MapEntry}
  (hb:H.get β=some (.map es zW)) (h:oU w Im oi Se) {r:AV} {u:Value} (hru: ∀w' H' ι',zd w' H' ι' Im->wU w H ι Im w' H' ι' Im->RA w' H' ι' Im r u):
  tj X w H ι Im nx (r,[(β,.map oi KL)],nx) u { w with heap:=w.heap.setIfInBounds (ι β).b (.map ⟨Se⟩ KL) }:=by
 obtain⟨xe,h1,h2⟩:=hi.map hb;have xQ:=(hi.rk β _ hb).lt rfl;have key:=zd.put (Xn:=noO hb rfl) hi (w' :={ w with heap:=w.heap.setIfInBounds (ι β).b (.map ⟨Se⟩ KL) }) β (.map oi KL) (ι β)
  (fun x hx=>by rw[hb]at hx;cases hx;rfl) ⟨z?,rfl,rfl⟩
  (fun b' _ jx=>by
   have:(ι β).b≠b' :=jx _ hb rfl
   simp[Array.getElem?_setIfInBounds,this])
  (fun _=> .inr ⟨_,hb,rfl,rfl⟩) (fun he=>by
   have hw: ∀b,Im b->_:=fun b hb=>he.bc hi b hb
   exact⟨Se,by simp[xQ],h.mono he.im hw⟩)
 exact⟨_,key.1,key.2,hru _ _ _ key.1 key.2,jv _,yT xV (jv _) (xV β _ hb)⟩
theorem zeroV_ok{t:TypeId}{ti:TI}(ht:zM P t ti): ∃z,(zeroValue t).run P w= .ok z w/\RP w Im (WC ti) z:=by
 obtain⟨z,h1,h2,h3,h4⟩:=Qq (w:=w) (Im:=Im) ht;refine⟨z,h1, ?_⟩;unfold WC;have hagg:ti.isAgg=ti.td.isAgg:=by unfold q1i TD.isAgg;cases ti.td<;>rfl
 rw[hagg,<- h4];cases z with|agg cs=>simp only[Z9,if_true];exact .agg ti.zero cs.toList (by simpa[Value.cells]using h2) ht.kP (fun i p v a b=>h3 i p v a (by simpa[Value.cells]using b))|_=>simp only[Z9,wA,if_false,Value.cells]at h2 h3 |-;cases hz:ti.zero with|nil=>rw[hz]at h2;simp at h2|cons p r=>rw[hz]at h3;exact h3 0 p _ z? z?
theorem B3{t:TypeId}{tk:TI}(ht:zM P t tk)(hi:zd w H ι Im){m:AV}{vm vk:Value}(hm:RA w H ι Im m vm){k:PV}(hk:jL tk.td k=true)(h1:RP w Im k vk)
  {r:Option (Nat×PV×Nat)} (hr:Kv m k H=some r):
  (vm= .map none/\r=none)\/ ∃b xe zW,vm= .map (some b)/\w.heap[b]? =some (.map ⟨xe⟩ zW)/\
   ((r=none/\(Instr.findKey t vk xe).run P w= .ok none w)\/ ∃j x born u,r=some (j,x,born)/\(Instr.findKey t vk xe).run P w= .ok (some (j,u)) w/\RP w Im x u):=by obtain⟨d,hd⟩:=ht.undS;unfold Kv at hr;split at hr;cases hr;have h:=hm.gA;cases h;exact .inl ⟨rfl,rfl⟩;{rename_i β;split at hr;rotate_left;cases hr;rename_i es zW hb;cases hm;obtain⟨xe,g1,g2⟩:=hi.map hb;refine .inr ⟨_,xe,zW,rfl,g1, ?_⟩;rcases su ht hk hd h1 es xe 0 g2 hr with ⟨rfl,q⟩|⟨j,x,born,e,rfl,q1,q2,q3,q4,q5⟩;exact .inl ⟨rfl,mX ht hd vk xe q⟩;exact .inr ⟨_,x,born,e.val,rfl,mX ht hd vk xe q1,q3⟩};cases hr
theorem Pm{t k0 e0:TypeId}{ti tk te:TI}(ht:zM P t ti)(ju:ti.td= .map k0 e0)(hk:zM P k0 tk)(he:zM P e0 te)(hi:zd w H ι Im){m k:AV}{vm vk:Value}
  (hm:RA w H ι Im m vm) (hkv:RA w H ι Im k vk) {ok:Bool} {r:AV} (hr:aF tk te m k ok H=some r):
  ∃u,(Instr.lookup t vm vk ok).run P w= .ok u w/\RA w H ι Im r u:=by
 unfold aF at hr;split at hr;rotate_left;cases hr;rename_i k;split at hr;rotate_left;cases hr;rename_i sw;have OY:=hkv.gA;obtain⟨z,hz1,hz2⟩:=zeroV_ok (w:=w) (Im:=Im) he;have pair: ∀(p:PV)(v:Value)(b:Bool),RP w Im p v->RA w H ι Im (if ok=true then .xR [.pv p,.pv (.bool b)]else .pv p) (if ok=true then .tuple #[v,.bool b]else v):=by intro p v b h;cases ok;exact .pv _ _ h;refine .xR _ [v,.bool b] rfl fun i x u h1 h2=>?_;match i with|0=>simp at h1 h2;subst h1 h2;exact .pv _ _ h|1=>simp at h1 h2;subst h1 h2;exact .pv _ _ (.bool _)|i+2=>simp at h1
 unfold Instr.lookup;simp only[jR,qx (ht.map ju),md];split at hr;rename_i j v born hf;cases hr;rcases B3 hk hi hm sw OY hf with ⟨_,h⟩|⟨b,xe,zW,rfl,g1,g2⟩;cases h;rcases g2 with ⟨h,_⟩|⟨j',x,aH,u,h,g3,g4⟩;cases h;cases h;refine⟨_, ?_,pair v u true g4⟩;simp only[oF g1,jR,md,K?,py hk sw,g3];{rename_i hf;cases hr;rcases B3 hk hi hm sw OY hf with ⟨rfl,_⟩|⟨b,xe,zW,rfl,g1,g2⟩;(refine⟨_, ?_,pair _ z false hz2⟩;have:(Instr.findKey k0 vk ([]:List MapEntry)).run P w= .ok none w:=by obtain⟨d,hd⟩:=hk.undS;exact mX hk hd vk [] rfl);simp only[jR,md,K?,py hk sw,this,hz1];rcases g2 with ⟨_,g3⟩|⟨j',x,aH,u,h,_⟩;rotate_left;cases h;refine⟨_, ?_,pair _ z false hz2⟩;simp only[oF g1,jR,md,K?,py hk sw,g3,hz1]};cases hr
end
section
variable [xd] {P:Program} {w:World} {H:qp} {ι:yp} {Im:Nat->Prop}
theorem oU.set{es:List (PV×PV×Nat)}{xe:List MapEntry}(h:oU w Im es xe)(i:Nat){k x:PV}{born:Nat}{e:MapEntry}
  (hk:RP w Im k e.key) (hx:RP w Im x e.val) (hb:e.born=born):oU w Im (es.set i (k,x,born)) (xe.set i e):=by refine⟨by simp[h.1],fun j k' x' aH e' h1 h2=>?_⟩;rw[N!]at h1 h2;by_cases Ef:i=j;subst Ef;rw[if_pos rfl]at h1 h2;split at h1<;>cases h1;split at h2<;>cases h2;exact⟨hk,hx,hb⟩;rw[if_neg Ef]at h1 h2;exact h.2 j k' x' aH e' h1 h2
theorem oU.push{es:List (PV×PV×Nat)}{xe:List MapEntry}(h:oU w Im es xe){k x:PV}{born:Nat}{e:MapEntry}
  (hk:RP w Im k e.key) (hx:RP w Im x e.val) (hb:e.born=born):oU w Im (es++[(k,x,born)]) (xe++[e]):=by refine⟨by simp[h.1],fun j k' x' aH e' h1 h2=>?_⟩;rw[M!]at h1 h2;rw[<- h.1]at h2;by_cases hj:j<es.length;rw[if_pos hj]at h1 h2;exact h.2 j k' x' aH e' h1 h2;rw[if_neg hj]at h1 h2;cases hd:j-es.length with|zero=>rw[hd]at h1 h2;simp at h1 h2;obtain⟨rfl,rfl,rfl⟩:=h1;subst h2;exact⟨hk,hx,hb⟩|succ n=>rw[hd]at h1;simp at h1
theorem oU.erase{es:List (PV×PV×Nat)}{xe:List MapEntry}(h:oU w Im es xe)(i:Nat):oU w Im (es.eraseIdx i) (xe.eraseIdx i):=by refine⟨by simp[List.length_eraseIdx,h.1],fun j k' x' aH e' h1 h2=>?_⟩;rw[List.getElem?_eraseIdx]at h1 h2;split at h1;rename_i hc;rw[if_pos hc]at h2;exact h.2 _ k' x' aH e' h1 h2;rename_i hc;rw[if_neg hc]at h2;exact h.2 _ k' x' aH e' h1 h2
theorem modify_eq_set{l:List MapEntry}{i:Nat}{e:MapEntry}(h:l[i]? =some e)(f:MapEntry->MapEntry):(⟨l⟩:Array MapEntry).modify i f=⟨l.set i (f e)⟩:=by obtain⟨xQ,he⟩:=qF h;apply D!;simp only[Array.toList_modify];apply List.ext_getElem?;intro j;rw[List.getElem?_modify,N!];by_cases Ef:i=j;subst Ef;simp[xQ,he];simp[Ef]
theorem VU{k:PV}{tk:TI}(hk:jL tk.td k=true){v:Value}(h:RP w Im k v):Instr.sameBits 10000 v v=true:=by cases h<;>simp[jL]at hk;simp[Instr.sameBits];simp[Instr.sameBits];simp[Instr.sameBits,QE];all_goals (cases ju:tk.td<;>simp[ju]at hk)
theorem HQ{k:PV}{tk:TI}(hk:jL tk.td k=true){v:Value}(h:RP w Im k v):(Instr.keyThatStays v v).run P w= .ok v w:=by unfold Instr.keyThatStays;simp[VU hk h]
theorem Kz{t k0 e0:TypeId}{ti tk:TI}(ht:zM P t ti)(ju:ti.td= .map k0 e0)(hk:zM P k0 tk)(hi:zd w H ι Im)
  {nx:Nat} {X:Nat->Prop} (xV:Bd X H nx) {m k:AV} {x:PV} {vm vk vx:Value}
  (hm:RA w H ι Im m vm) (hkv:RA w H ι Im k vk) (hx:RP w Im x vx) {ws:List (Nat×qD)} (hr:rz tk m k x H=some ws):
  ∃w',(Instr.mapUpdate t vm vk vx).run P w= .ok () w' /\tj X w H ι Im nx (.xR [],ws,nx) undef w' :=by have XI: ∀w' H' ι',zd w' H' ι' Im->wU w H ι Im w' H' ι' Im->RA w' H' ι' Im (.xR []) undef:=fun _ _ _ _ _=> .xR [] [] rfl z?;obtain⟨d,hd⟩:=hk.undS;unfold rz at hr;split at hr;rotate_left;cases hr;rename_i β k;split at hr;rotate_left;cases hr;rename_i sw;split at hr;rotate_left;cases hr;rename_i es zW hb;have OY:=hkv.gA;cases hm;obtain⟨xe,g1,g2⟩:=hi.map hb;unfold Instr.mapUpdate;simp only[jR,qx (ht.map ju),md,oF g1,py hk sw];split at hr;rename_i j y born hf;cases hr;rcases su hk sw hd OY es xe 0 g2 hf with ⟨h,_⟩|⟨j',x',aH,e,h,q1,q2,q3,q4,q5⟩;cases h;(rw[A?]at h q1;cases h;have hkey:((xe[j]?.map (·.key)).getD vk)=vk:=by rw[q2];simp[q5]);(refine⟨_, ?_,K9 hi xV hb (g2.set j (k:=k) (x:=x) (born:=born) (e:={ e with key:=vk,val:=vx }) OY hx q4) XI⟩;simp only[mX hk hd vk xe q1,md,jR];have Sr:((q1s xe)[j]?.map (·.key)).getD vk=vk:=by simpa using hkey);rw[Sr,HQ sw OY];simp only[md,modify_eq_set q2,an g1];{rename_i hf;cases hr;rcases su hk sw hd OY es xe 0 g2 hf with ⟨_,q1⟩|⟨j',x',aH,e,h,_⟩;rotate_left;cases h;refine⟨_, ?_,K9 hi xV hb (g2.push (k:=k) (x:=x) (born:=zW) (e:={ key:=vk,val:=vx,born:=zW }) OY hx rfl) XI⟩;simp only[mX hk hd vk xe q1,md,an g1];simp};cases hr
theorem Dn{t k0 e0:TypeId}{ti tk te:TI}(ht:zM P t ti)(ju:ti.td= .map k0 e0)(hk:zM P k0 tk)(he:zM P e0 te)(hi:zd w H ι Im)
  {nx:Nat} {X:Nat->Prop} (xV:Bd X H nx) {m k:AV} {vm vk:Value}
  (hm:RA w H ι Im m vm) (hkv:RA w H ι Im k vk) {r:AV} {ws:List (Nat×qD)} (hr:lk tk te m k H=some (r,ws)):
  ∃u w',(Instr.mapEntry t vm vk).run P w= .ok u w' /\tj X w H ι Im nx (r,ws,nx) u w' :=by unfold lk at hr;cases hr
theorem Ku(t:TypeId)(hi:zd w H ι Im){nx:Nat}{X:Nat->Prop}(xV:Bd X H nx){m st:AV}{x:PV}{vm vs vx:Value}
  (hm:RA w H ι Im m vm) (hsv:RA w H ι Im st vs) (hx:RP w Im x vx) {ws:List (Nat×qD)} (hr:bD m st x H=some ws):
  ∃w',(Instr.entryStore t vm vs vx).run P w= .ok () w' /\tj X w H ι Im nx (.xR [],ws,nx) undef w' :=by unfold bD at hr;cases hr
theorem Ph{t k0 e0:TypeId}{ti tk:TI}(ht:zM P t ti)(ju:ti.td= .map k0 e0)(hk:zM P k0 tk)(hi:zd w H ι Im)
  {nx:Nat} {X:Nat->Prop} (xV:Bd X H nx) (ch:Array TypeId) (H3:ch[0]? =some t) (tt:TypeId) {m k:AV} {vm vk:Value}
  (hm:RA w H ι Im m vm) (hkv:RA w H ι Im k vk) {ws:List (Nat×qD)} (hr:sV tk m k H=some ws):
  ∃w',(Builtin.delete_ ch tt #[vm,vk]).run P w= .ok undef w' /\tj X w H ι Im nx (.xR [],ws,nx) undef w' :=by have XI: ∀w' H' ι',zd w' H' ι' Im->wU w H ι Im w' H' ι' Im->RA w' H' ι' Im (.xR []) undef:=fun _ _ _ _ _=> .xR [] [] rfl z?;obtain⟨d,hd⟩:=hk.undS;unfold Builtin.delete_;simp only[H3,I?,a?,l?,jR,qx (ht.map ju),md];unfold sV at hr;split at hr;rename_i k;split at hr<;>cases hr;rename_i sw;have h:=hm.gA;cases h;refine⟨w, ?_,t! hi xV (XI _ _ _ hi (W! _ _ _ _))⟩;simp only[jR,py hk sw,md,K?];rfl;{rename_i β k;split at hr;rotate_left;cases hr;rename_i sw;split at hr;rotate_left;cases hr;rename_i es zW hb;have OY:=hkv.gA;cases hm;obtain⟨xe,g1,g2⟩:=hi.map hb;simp only[jR,oF g1,md,py hk sw];split at hr;rename_i j y born hf;cases hr;rcases su hk sw hd OY es xe 0 g2 hf with ⟨h,_⟩|⟨j',x',aH,e,h,q1,q2,q3,q4,q5⟩;cases h;(rw[A?]at h q1;cases h;refine⟨_, ?_,K9 hi xV hb (g2.erase j) XI⟩;simp only[jR,mX hk hd vk xe q1,md,an g1,K?];have:(q1s xe).eraseIdxIfInBounds j=⟨xe.eraseIdx j⟩:=by obtain⟨xQ,_⟩:=qF q2;simp[Array.eraseIdxIfInBounds,xQ]);simp only[jR,this,an g1,md,K?];rfl;{rename_i hf;cases hr;rcases su hk sw hd OY es xe 0 g2 hf with ⟨_,q1⟩|⟨j',x',aH,e,h,_⟩;rotate_left;cases h;refine⟨_, ?_,K9 hi xV hb g2 XI⟩;simp only[jR,mX hk hd vk xe q1,md,an g1,K?];rfl};cases hr};cases hr
theorem B8(t:TypeId)(hi:zd w H ι Im){nx:Nat}{X:Nat->Prop}(xV:Bd X H nx)(hX: ¬X nx):
  ∃u w',(Instr.makeMap t none).run P w= .ok u w' /\tj X w H ι Im nx (.map nx,[(nx,.map [] 0)],nx+1) u w' :=by
 refine⟨.map (some w.heap.size), { w with heap:=w.heap.push (.map #[] 0) },by simp[Instr.makeMap], ?_⟩;obtain⟨ι',h0,h1,h2⟩:=zd.new hi xV hX { w with heap:=w.heap.push (.map #[] 0) } (.map [] 0) (.map #[] 0) 0 rfl ⟨rfl,rfl⟩ (fun ι' hp he=>by
  exact⟨[],by simp[hp],rfl,z?⟩)
 refine⟨ι',h1,h2, ?_,z?,yT xV z? (.inl z?)⟩;have hg:(z6 [(nx,qD.map [] 0)] H).get nx=some (.map [] 0):=by simp[z6,p!]
 have:=RA.map (w:={ w with heap:=w.heap.push (.map #[] 0) }) (ι:=ι') (Im:=Im) nx [] 0 hg;rw[h0]at this;exact this
end
section
variable [xd] {P:Program} {w:World} {H:qp} {ι:yp} {Im:Nat->Prop}
theorem B7{t k0 e0:TypeId}{ti tk te:TI}(ht:zM P t ti)(ju:ti.td= .map k0 e0)(hk:zM P k0 tk)(he:zM P e0 te)(hi:zd w H ι Im){m k:AV}{vm vk:Value}
  (hm:RA w H ι Im m vm) (hkv:RA w H ι Im k vk) {ok:Bool} {r:AV} (hr:ll tk te m k ok H=some r):
  ∃u,(Instr.lookup t vm vk ok).run P w= .ok u w/\RA w H ι Im r u:=by unfold ll at hr;cases hr
theorem Bb{t k0 e0:TypeId}{ti tk:TI}(ht:zM P t ti)(ju:ti.td= .map k0 e0)(hk:zM P k0 tk)(hi:zd w H ι Im)
  {nx:Nat} {X:Nat->Prop} (xV:Bd X H nx) {m k x:AV} {vm vk vx:Value}
  (hm:RA w H ι Im m vm) (hkv:RA w H ι Im k vk) (hx:RA w H ι Im x vx) {ws:List (Nat×qD)} (hr:dU tk m k x H=some ws):
  ∃w',(Instr.mapUpdate t vm vk vx).run P w= .ok () w' /\tj X w H ι Im nx (.xR [],ws,nx) undef w' :=by unfold dU at hr;cases hr
end
section
variable [xd] {P:Program} {w:World} {H:qp} {ι:yp} {Im:Nat->Prop}
def yA(P:Program)(G:GP):Prop:= ∀t ti,G.ti t=some ti->zM P t ti
def u7(X:Nat->Prop)(r:Result Next)(w:World)(H:qp)(ι:yp)(Im:Nat->Prop)(nx:Nat)(e:mA):Prop:=
 ∃u w',(r= .ok (.value u) w' \/(r= .ok .skip w' /\u=undef))/\tj X w H ι Im nx e u w'
theorem u7.val{X:Nat->Prop}{s:Sem Value}{u:Value}{w' :World}{nx:Nat}{e:mA}(h:s.run P w= .ok u w')(hd:tj X w H ι Im nx e u w'):
  u7 X ((do pure (.value (<- s)):Sem Next).run P w) w H ι Im nx e:=
 ⟨u,w',.inl (by simp[h]),hd⟩
theorem u7.skip{X:Nat->Prop}{s:Sem Unit}{w' :World}{nx:Nat}{e:mA}(h:s.run P w= .ok () w')(hd:tj X w H ι Im nx e undef w'):
  u7 X ((do s;pure .skip:Sem Next).run P w) w H ι Im nx e:=
 ⟨undef,w',.inr ⟨by simp[h],rfl⟩,hd⟩
theorem u7.now{X:Nat->Prop}{u:Value}{nx:Nat}{e:mA}(hd:tj X w H ι Im nx e u w):u7 X ((pure (.value u):Sem Next).run P w) w H ι Im nx e:=
 ⟨u,w,.inl rfl,hd⟩
def Wf:Op->Bool
 | .call { callee:= .value _,.. }=>true
 | .box _ _=>true
 |_=>false
theorem tj.puts{β:Nat}{b b' :qD}{nx:Nat}{X:Nat->Prop}(xV:Bd X H nx)(hb:H.get β=some b){w' :World}{ι' :yp}(h1:zd w' (z6 [(β,b')] H) ι' Im)
  (h2:wU w H ι Im w' (z6 [(β,b')] H) ι' Im):tj X w H ι Im nx (.xR [],[(β,b')],nx) undef w' :=
 ⟨ι',h1,h2,.xR [] [] rfl z?,jv _,yT xV (jv _) (xV β _ hb)⟩
theorem cE{G:GP}{t:TypeId}{tk te:TI}(h:cD G t=some (tk,te)): ∃ti k e,G.ti t=some ti/\ti.td= .map k e/\G.ti k=some tk/\G.ti e=some te:=by unfold cD at h;split at h;rotate_left;cases h;rename_i ti l8;split at h;rotate_left;cases h;rename_i k e ju;split at h<;>cases h;rename_i hk he;exact⟨ti,k,e,l8,ju,hk,he⟩
theorem SN{a:Act}{E:yo}(hE: ∀t,RA w H ι Im (E.get t) (a.tmps.getD t undef)): ∀(l:List Operand)(i:Nat) z v,(l.map (ev E))[i]? =some z->(l.map a.eval)[i]? =some v->RA w H ι Im z v:=by intro l i z v h1 h2;simp only[X?,yS]at h1 h2;obtain⟨o1,q1,rfl⟩:=h1;obtain⟨o2,q2,rfl⟩:=h2;rw[q1]at q2;cases q2;exact QI hE o1
theorem S4{isMax:Bool}{l:List AV}{vs:List Value}(hl:l.length=vs.length)(hR: ∀(i:Nat) x v,l[i]? =some x->vs[i]? =some v->RA w H ι Im x v)
  {p:PV} (h:IV isMax l=some p) (ch:Array TypeId) (tt:TypeId):
  ∃u,(if isMax then Builtin.max_ ch tt ⟨vs⟩else Builtin.min_ ch tt ⟨vs⟩).run P w= .ok u w/\RP w Im p u:=by unfold IV at h;split at h;rotate_left;(rename_i a b;split at h<;>cases h;rename_i hm;obtain⟨v,u,rfl⟩: ∃v u,vs=[v,u]:=by match vs,hl with|[v,u],_=>exact⟨v,u,rfl⟩);have hx:=(hR 0 (.pv (.str a)) v z? z?).gA;have hy:=(hR 1 (.pv (.str b)) u z? z?).gA;cases hx;cases hy;refine⟨.string ⟨⟨if k8 a b=true then b else a⟩⟩, ?_,.str _⟩;rw[if_pos hm];cases hc:k8 a b<;>simp[Builtin.max_,Builtin.max2,Op.stringOp,asBool,pf,hc];cases h;rename_i k a r;cases vs with|nil=>simp at hl|cons v vr=>have hx:=(hR 0 (.pv (.int k a)) v z? z?).gA;cases hx;obtain⟨u,g1,g2⟩:=Wk (P:=P) isMax k r a vr (by simpa using hl) (fun i x v h1 h2=>hR (i+1) x v (by simpa using h1) (by simpa using h2)) h;refine⟨u, ?_,g2⟩;cases isMax;exact g1;exact g1
theorem GY{G:GP}(hG:yA P G)(hi:zd w H ι Im){nx:Nat}{X:Nat->Prop}(xV:Bd X H nx)(b:Builtin)(ch:Array TypeId)(tt:TypeId)(consts:Array Bool)
  {l:List AV} {vs:List Value} (hl:l.length=vs.length) (hR: ∀(i:Nat) x v,l[i]? =some x->vs[i]? =some v->RA w H ι Im x v) {e:mA} (hr:ru G b ch.toList l H nx=some e) (hX: ∀γ,X γ->e.2.2<=γ):
  u7 X ((builtin b ch tt consts ⟨vs⟩).run P w) w H ι Im nx e:=by
 unfold ru at hr;unfold builtin;split at hr;{rename_i t r x H3;split at hr;rotate_left;cases hr;rename_i ti l8;split at hr;rotate_left;cases hr;rename_i ju;split at hr<;>cases hr;rename_i n hn;match vs,hl with|[v],_=>(have h1:=aLen_ok (hG _ _ l8) hi (hR 0 x v z? z?) tt ju hn;refine u7.val (s:=Builtin.len_ ch tt #[v]) (u:= .int .i64 n) (w' :=w) ?_ (t! hi xV (.pv _ _ (.int _ _)));have h0:ch[0]? =some t:=by rw[<- H?,H3];rfl);unfold Builtin.len_ at h1 |-;simp only[I?,a?,h0]at h1 |-;exact h1};rename_i x;(match vs,hl with|[v],_=>obtain⟨u,w',h1,h2⟩:=Vs (P:=P) (hR 0 x v z? z?) hi xV hr ch tt;exact u7.val (s:=Builtin.unsafeSliceData_ ch tt #[v]) h1 h2);{rename_i tp r p x H3;split at hr;rotate_left;cases hr;rename_i ti l8;split at hr;rotate_left;cases hr;rename_i el MG;split at hr;rotate_left;cases hr;rename_i tel htel;split at hr;rotate_left;cases hr;rename_i h1z;match vs,hl with|[vp,vx],_=>(have h0:ch[0]? =some tp:=by rw[<- H?,H3];rfl);obtain⟨u,w',h1,h2⟩:=Xv h0 (hG _ _ l8) MG ((hG _ _ htel).cellsOf.trans h1z) (hR 0 p vp z? z?) (hR 1 x vx z? z?) hi xV hr tt;exact u7.val (s:=Builtin.unsafeString_ ch tt #[vp,vx]) h1 h2};split at hr<;>cases hr;rename_i p hp;obtain⟨u,h1,h2⟩:=S4 (P:=P) hl hR hp ch tt;exact u7.val (s:=Builtin.max_ ch tt ⟨vs⟩) h1 (t! hi xV (.pv _ _ h2));split at hr<;>cases hr;rename_i p hp;obtain⟨u,h1,h2⟩:=S4 (P:=P) hl hR hp ch tt;exact u7.val (s:=Builtin.min_ ch tt ⟨vs⟩) h1 (t! hi xV (.pv _ _ h2))
 ·rename_i ts tx r s x H3
  match vs,hl with
   |[vs,vx],_=>
    have key: ∀{e te oI ti},G.ti ts=some ti->ti.td= .slice e->G.ti e=some te->G.ti tx=some oI->((∃ e',oI.td= .slice e')\/oI.td= .string)-> ∀{ef},orT (uU te s x H nx) (orT (gZ e te s x H nx) (nK te s x H nx))=some ef->(∀ γ,X γ->ef.2.2<=γ)->
      u7 X ((do pure (.value (<- Builtin.append_ ch tt #[vs,vx])):Sem Next).run P w) w H ι Im nx ef:=by
     intro e te oI ti h1 h2 h3 h4 h5 ef h6 hX;obtain⟨u,w',g1,g2⟩: ∃u w',(Builtin.append_ #[ts,tx] tt #[vs,vx]).run P w= .ok u w' /\tj X w H ι Im nx ef u w' :=by
      cases ha:uU te s x H nx with
      |some r=>
       rw[ha]at h6;cases h6;exact Pd (hG _ _ h1) h2 (hG _ _ h3) (hG _ _ h4) h5 tt hi xV (hR 0 s vs z? z?) (hR 1 x vx z? z?) ha hX
      |none=>
       rw[ha]at h6;cases hb:gZ e te s x H nx with
       |some r=>
        rw[hb]at h6;cases h6;exact GU (hG _ _ h1) h2 (hG _ _ h3) (hG _ _ h4) h5 tt hi xV (hR 0 s vs z? z?) (hR 1 x vx z? z?) hb
       |none=>
        rw[hb]at h6;exact GS (hG _ _ h1) h2 (hG _ _ h3) (hG _ _ h4) h5 tt hi xV (hR 0 s vs z? z?) (hR 1 x vx z? z?) h6
     refine u7.val (u:=u) (w' :=w') ?_ g2;have q0:ch[0]? =some ts:=by rw[<- H?,H3];rfl
     have q1:ch[1]? =some tx:=by rw[<- H?,H3];rfl
     unfold Builtin.append_ at g1 |-;simp only[I?,a?,l?,q0,q1]at g1 |-;exact g1
    split at hr;rotate_left;cases hr;rename_i ti oI h1 h2;split at hr;{rename_i e e' h3 h4;split at hr;rotate_left;cases hr;rename_i te h5;exact key h1 h3 h5 h2 (.inl ⟨_,h4⟩) hr hX};{rename_i e h3 h4;split at hr;rotate_left;cases hr;rename_i te h5;exact key h1 h3 h5 h2 (.inr h4) hr hX};cases hr
 {rename_i ts r s x H3;match vs,hl with|[vs,vx],_=>split at hr;rotate_left;cases hr;rename_i ti h1;split at hr;rotate_left;cases hr;rename_i e0 h2;split at hr;rotate_left;cases hr;(rename_i te h3;have q0:ch[0]? =some ts:=by rw[<- H?,H3];rfl);obtain⟨u,w',g1,g2⟩:=IP (hG _ _ h1) h2 (hG _ _ h3) q0 tt hi xV (hR 0 s vs z? z?) (hR 1 x vx z? z?) hr;exact u7.val (s:=Builtin.copy_ ch tt #[vs,vx]) g1 g2};{rename_i tm r m k H3;match vs,hl with|[vm,vk],_=>split at hr;rotate_left;cases hr;rename_i ti h1;split at hr;rotate_left;cases hr;rename_i k0 e0 h2;split at hr;rotate_left;cases hr;(rename_i tk h3;split at hr<;>cases hr;rename_i ws Fi;have q0:ch[0]? =some tm:=by rw[<- H?,H3];rfl);obtain⟨w',g1,g2⟩:=Ph (hG _ _ h1) h2 (hG _ _ h3) hi xV ch q0 tt (hR 0 m vm z? z?) (hR 1 k vk z? z?) Fi;exact u7.val (s:=Builtin.delete_ ch tt #[vm,vk]) g1 g2};cases hr
theorem aop_ok{G:GP}(hG:yA P G)(hi:zd w H ι Im){nx:Nat}{X:Nat->Prop}(xV:Bd X H nx)
  {a:Act} {E:yo} (hE: ∀t,RA w H ι Im (E.get t) (a.tmps.getD t undef)) (O:xi) (o:Oper) (dj:Wf o.op=false) {e:mA} (hr:mB G O o.op E H nx=some e) (hX: ∀γ,X γ->e.2.2<=γ):
  u7 X ((execOp a.eval o).run P w) w H ι Im nx e:=by
 have mI:=fun x=>QI hE x;unfold execOp;generalize o.type=C0;generalize o.op=op at hr dj;unfold mB at hr;split at hr;case h_1 x=>cases hr;exact u7.now (t! hi xV (mI x))
 case h_2 x=>cases hr;exact u7.now (t! hi xV (mI x))
 case h_3 c x y=>
  split at hr<;>cases hr;rename_i t hc;have h:=mI c;rw[hc]at h;have h:=h.gA;generalize hv:a.eval c=vc at h;cases h;refine⟨if t then a.eval x else a.eval y,w,.inl (by simp[hv,asBool]),t! hi xV ?_⟩;cases t
  ·exact mI y
  exact mI x
 case h_4 t=>
  split at hr;rotate_left
  ·cases hr
  rename_i ti l8;split at hr
  ·obtain⟨u,w',h1,h2⟩:=Pc (hG _ _ l8) hi xV hr hX;exact u7.val h1 h2
  cases hr;obtain⟨u,w',h1,h2⟩:=Dk (hG _ _ l8) hi xV (aP hX);exact u7.val h1 h2
 case h_5 t x=>simp[Wf]at dj
 case h_6 t parts=>
  split at hr;rotate_left
  ·cases hr
  rename_i ti l8;unfold bC at hr;split at hr<;>cases hr;rename_i v hv;obtain⟨u,h1,h2⟩:=Dl hG (hG _ _ l8) hE parts hv;exact u7.val h1 (t! hi xV h2)
 case h_7 t len parts=>
  split at hr;rotate_left
  ·cases hr
  rename_i ti l8;split at hr;rotate_left
  ·cases hr
  rename_i el ju;split at hr;rotate_left
  ·cases hr
  rename_i te dw;split at hr;rotate_left
  ·cases hr
  rename_i hc;split at hr
  ·split at hr<;>cases hr;rename_i es de;obtain⟨u,w',h1,h2⟩:=JB hG (hG _ _ l8) ju dw hi xV (aP hX) hE len parts hc.1 hc.2 de;exact u7.val h1 h2
  split at hr<;>cases hr;rename_i es de;obtain⟨u,w',h1,h2⟩:=Kq hG (hG _ _ l8) ju dw hi xV (aP hX) hE len parts hc.1 hc.2 de;exact u7.val h1 h2
 case h_8 t x=>
  split at hr;rotate_left
  ·cases hr
  rename_i ti l8;unfold bC at hr;split at hr<;>cases hr;rename_i v hv;obtain⟨u,h1,h2⟩:=B6 (hG _ _ l8) hi (mI x) hv;exact u7.val h1 (t! hi xV h2)
 case h_9 t x y=>
  split at hr;rotate_left
  ·cases hr
  rename_i ti l8;unfold mw at hr;split at hr<;>cases hr;rename_i ws Fi;obtain⟨w',ι',h1,h2,h3,β,b,b',rfl,hb⟩:=Ds (hG _ _ l8) hi (mI x) (mI y) Fi;exact u7.skip h1 (tj.puts xV hb h2 h3)
 case h_10 x=>
  split at hr<;>cases hr;all_goals
   rename_i hx;have h:=mI x;rw[hx]at h;generalize hv:a.eval x=vx at h;refine⟨vx,w,.inl ?_,t! hi xV h⟩
  ·cases h;simp[hv]
  ·cases h;simp[hv]
  ·have h:=h.gA;cases h;simp[hv]
  ·cases h;simp[hv]
  ·have h:=h.gA;cases h;simp[hv]
  cases h;simp[hv]
 case h_11 op t x y yt=>
  split at hr;rotate_left
  ·cases hr
  rename_i ti l8;unfold Jr at hr;split at hr<;>cases hr;rename_i p hp;obtain⟨u,h1,h2,h3⟩:=aBin_ok hG (hG _ _ l8) hi (mI x) (mI y) op x y hp;exact u7.val (s:=do eqGuard op t x y (a.eval x) (a.eval y);binOp op t (a.eval x) (a.eval y)) (by simp[h1,h2]) (t! hi xV (.pv _ _ h3))
 case h_12 op t x=>
  unfold Jr at hr;split at hr<;>cases hr;rename_i p hp;obtain⟨u,h1,h2⟩:=aUn_ok (P:=P) (mI x) hp;exact u7.val h1 (t! hi xV (.pv _ _ h2))
 case h_13 s d x=>
  split at hr
  ·rename_i hsd;subst hsd;obtain⟨u,w',h1,h2⟩:=Uu hG hi xV (mI x) hr;exact u7.val h1 h2
  split at hr;rotate_left
  ·cases hr
  rename_i ts td K5 ju;obtain⟨u,w',h1,h2⟩:=GZ hG (hG _ _ K5) (hG _ _ ju) hi xV (mI x) hr hX;exact u7.val h1 h2
 case h_14 f x y=>
  cases hr;refine u7.val (s:=Instr.makeFunc (.func f) (x.map a.eval) (y.map a.eval)) (w' :=w) rfl (t! hi xV ?_);have listR: ∀(l:List Operand)(i:Nat) z v,(l.map (ev E))[i]? =some z->(l.map a.eval)[i]? =some v->RA w H ι Im z v:=by
   intro l i z v h1 h2;simp only[X?,yS]at h1 h2;obtain⟨o1,q1,rfl⟩:=h1;obtain⟨o2,q2,rfl⟩:=h2;rw[q1]at q2;cases q2;exact mI o1
  have hx:x.map a.eval=⟨x.toList.map a.eval⟩:=by apply D!; simp
  have hy:y.map a.eval=⟨y.toList.map a.eval⟩:=by apply D!; simp
  rw[hx,hy];split
  ·rename_i h1 h2;rw[h1,h2];exact .pv _ _ (.fn f)
  exact .QX f _ _ _ _ z? z? (listR _) (listR _)
 case h_15 t=>
  cases hr;obtain⟨u,w',h1,h2⟩:=B8 (P:=P) t hi xV (aP hX);exact u7.val h1 h2
 case h_16 t x lo yv mx=>
  split at hr;rotate_left
  ·cases hr
  rename_i ti l8;unfold bC at hr;split at hr<;>cases hr;rename_i v hv;obtain⟨u,h1,h2⟩:=Dr hG (hG _ _ l8) hi hE (mI x) lo yv mx hv;exact u7.val h1 (t! hi xV h2)
 case h_17 t x f=>
  split at hr;rotate_left
  ·cases hr
  rename_i ti l8;unfold bC at hr;split at hr<;>cases hr;rename_i v hv;obtain⟨u,h1,h2⟩:=Vo (hG _ _ l8) (mI x) hv;exact u7.val h1 (t! hi xV h2)
 case h_18 t x f=>
  split at hr;rotate_left
  ·cases hr
  rename_i ti l8;split at hr;rotate_left
  ·cases hr
  rename_i fs ju;split at hr;rotate_left
  ·cases hr
  rename_i off sz tf hf;split at hr;rotate_left
  ·cases hr
  rename_i tif htif;unfold bC at hr;split at hr<;>cases hr;rename_i v hv;obtain⟨fields,hu,rfl⟩:=(hG _ _ l8).struct ju;simp only[X?,yS]at hf;obtain⟨fd,hf,hfe⟩:=hf;simp only[Prod.mk.injEq]at hfe;obtain⟨rfl,rfl,rfl⟩:=hfe;have hfa:fields[f]? =some fd:=by rw[<- hf];simp
  obtain⟨cs,u,h0,h1,h2⟩:=Ba (hG _ _ htif) (mI x) hv;refine u7.val (s:=Instr.field t (a.eval x) f) (u:=u) (w' :=w) ?_ (t! hi xV h2);unfold Instr.field;simp only[jR,qx hu,md,hfa,h0,asAgg,K?,h1]
 case h_19 t x i=>
  split at hr;rotate_left
  ·cases hr
  rename_i ti l8;unfold bC at hr;split at hr<;>cases hr;rename_i v hv;obtain⟨u,h1,h2⟩:=Vp hG (hG _ _ l8) hi (mI x) (mI i) hv;exact u7.val h1 (t! hi xV h2)
 case h_20 t x i=>
  split at hr;rotate_left
  ·cases hr
  rename_i ti l8;split at hr
  ·rename_i s k ju hx hk;split at hr<;>cases hr;rename_i b hb;obtain⟨kd,Xm⟩:=X0 (mI i) hk;have h:=mI x;rw[hx]at h;have h:=h.gA;generalize hv:a.eval x=vx at h;cases h;refine u7.val (s:=Instr.index t (a.eval x) (a.eval i)) (u:= .int .u8 b.toNat) (w' :=w) ?_ (t! hi xV (.pv _ _ (.int _ _)));have hbb:(ByteArray.mk ⟨s⟩)[k]? =some b:=by
    obtain⟨xQ,he⟩:=qF hb;have:k<(ByteArray.mk ⟨s⟩).size:=xQ;rw[getElem?_pos (ByteArray.mk ⟨s⟩) k this];exact congrArg some he
   unfold Instr.index;simp[hv,Xm,asIntOf,qx ((hG _ _ l8).string ju),hbb]
  ·rename_i len el k ju hk;split at hr;rotate_left
   ·cases hr
   rename_i pS;split at hr;rotate_left
   ·cases hr
   rename_i te dw;unfold bC at hr;split at hr<;>cases hr;rename_i r hrr;obtain⟨kd,Xm⟩:=X0 (mI i) hk;obtain⟨cs,u,h0,h1,h2⟩:=Ba (hG _ _ dw) (mI x) hrr;refine u7.val (s:=Instr.index t (a.eval x) (a.eval i)) (u:=u) (w' :=w) ?_ (t! hi xV h2);unfold Instr.index;simp[Xm,asIntOf,qx ((hG _ _ l8).array ju),pS,(hG _ _ dw).size,h0,h1]
  cases hr
 case h_21 t m k ok=>
  split at hr;rotate_left
  ·cases hr
  rename_i tk te hmt;unfold bC at hr;split at hr<;>cases hr;rename_i v hv;obtain⟨ti,k0,e0,q1,q2,q3,q4⟩:=cE hmt;split at hv
  ·obtain⟨u,h1,h2⟩:=B7 (hG _ _ q1) q2 (hG _ _ q3) (hG _ _ q4) hi (mI m) (mI k) hv;exact u7.val h1 (t! hi xV h2)
  obtain⟨u,h1,h2⟩:=Pm (hG _ _ q1) q2 (hG _ _ q3) (hG _ _ q4) hi (mI m) (mI k) hv;exact u7.val h1 (t! hi xV h2)
 case h_22 t m k x=>
  split at hr
  ·unfold ln at hr;split at hr;rotate_left
   ·cases hr
   rename_i tk te hmt;split at hr;rotate_left
   ·cases hr
   unfold mw at hr;split at hr<;>cases hr;rename_i ws Fi;obtain⟨ti,k0,e0,q1,q2,q3,q4⟩:=cE hmt;obtain⟨w',h1,h2⟩:=Bb (hG _ _ q1) q2 (hG _ _ q3) hi xV (mI m) (mI k) (mI x) Fi;exact u7.skip h1 h2
  split at hr;rotate_left
  ·cases hr
  rename_i tk te p hmt hp;split at hr;rotate_left
  ·cases hr
  unfold mw at hr;split at hr<;>cases hr;rename_i ws Fi;obtain⟨ti,k0,e0,q1,q2,q3,q4⟩:=cE hmt;obtain⟨w',h1,h2⟩:=Kz (hG _ _ q1) q2 (hG _ _ q3) hi xV (mI m) (mI k) (X6 (mI x) hp) Fi;exact u7.skip h1 h2
 case h_23 t m k x=>
  split at hr;rotate_left
  ·cases hr
  rename_i tk te p hmt hp;split at hr;rotate_left
  ·cases hr
  unfold mw at hr;split at hr<;>cases hr;rename_i ws Fi;obtain⟨ti,k0,e0,q1,q2,q3,q4⟩:=cE hmt;obtain⟨w',h1,h2⟩:=Kz (hG _ _ q1) q2 (hG _ _ q3) hi xV (mI m) (mI k) (X6 (mI x) hp) Fi;exact u7.skip h1 h2
 case h_24 t m k=>
  split at hr;rotate_left
  ·cases hr
  rename_i tk te hmt;split at hr<;>cases hr;rename_i v ws Fi;obtain⟨ti,k0,e0,q1,q2,q3,q4⟩:=cE hmt;obtain⟨u,w',h1,h2⟩:=Dn (hG _ _ q1) q2 (hG _ _ q3) (hG _ _ q4) hi xV (mI m) (mI k) Fi;exact u7.val h1 h2
 case h_25 t m st x=>
  split at hr;rotate_left
  ·cases hr
  rename_i p hp;unfold mw at hr;split at hr<;>cases hr;rename_i ws Fi;obtain⟨w',h1,h2⟩:=Ku (P:=P) t hi xV (mI m) (mI st) (X6 (mI x) hp) Fi;exact u7.skip h1 h2
 case h_26 x i=>
  split at hr;rotate_left
  ·cases hr
  rename_i l hl;split at hr<;>cases hr;rename_i v hv;have h:=mI x;rw[hl]at h;generalize hvx:a.eval x=vx at h;cases h with
  |xR _ vs hlen hR=>
   obtain⟨u,hu⟩: ∃u,vs[i]? =some u:=⟨vs[i]'(by rw[<- hlen];exact(qF hv).1),z?⟩;refine⟨u,w,.inl ?_,t! hi xV (hR i v u hv hu)⟩;have:(⟨vs⟩:Array Value)[i]? =some u:=by simpa using hu
   simp[hvx,Instr.extract,this]
 case h_27 b args ch=>
  have T8:(do let d <-resolve a.eval { callee:= .builtin b,args:=args,argTypes:=ch } C0;invoke d.target d.args:Sem Next).run P w=
    (builtin b ch C0 (args.map fun| .const _=>true|_=>false) ⟨args.toList.map a.eval⟩).run P w:=by
   have:args.map a.eval=⟨args.toList.map a.eval⟩:=by apply D!; simp
   simp only[resolve,jR,K?,md,invoke,this];rfl
  show u7 X ((do let d <-resolve a.eval { callee:= .builtin b,args:=args,argTypes:=ch } C0;invoke d.target d.args:Sem Next).run P w) w H ι Im nx e;rw[T8];exact GY hG hi xV b ch C0 _ z? (SN hE args.toList) hr hX
 case h_28=>simp[Wf]at dj
 case h_29 t x y=>
  split at hr;rotate_left
  ·cases hr
  rename_i ti l8;have hX' : ∀γ,X γ->nx+1<=γ:=by
   unfold sr at hr;split at hr;rotate_left
   ·cases hr
   split at hr;rotate_left
   ·cases hr
   split at hr<;>cases hr;exact hX
  obtain⟨u,w',h1,h2⟩:=Vr hG (hG _ _ l8) hi xV hX' (mI x) (mI y) hr;exact u7.val h1 h2
 case h_30=>cases hr
end
section
variable [xd] {P:Program} {w:World} {H:qp} {ι:yp} {Im:Nat->Prop}
theorem iT(β:Nat)(qt:Bool)(sz:Nat)(es:List (List PV)): ∀(l:List AV)(i:Nat),(AV.yy.rf β qt sz es l)[i]? =(l[i]?).map (AV.yy β qt sz es)
 |[],i=>by simp[AV.yy.rf]
 |x::r,i=>by cases i with|zero=>simp[AV.yy.rf]|succ i=>simp[AV.yy.rf,iT β qt sz es r i]
theorem Qo(β:Nat)(qt:Bool)(sz:Nat)(es:List (List PV)): ∀(l:List AV),(AV.yy.rf β qt sz es l).length=l.length
 |[]=>rfl
 |x::r=>by simp[AV.yy.rf,Qo β qt sz es r]
theorem AS(β:Nat)(qt:Bool)(sz:Nat)(es:List (List PV)){x:AV}(h:x.kP=true):(x.yy β qt sz es).kP=true:=by cases x<;>simp[AV.kP]at h<;>simp only[AV.yy];all_goals first|exact h|rfl|(split<;>rfl)
theorem Zo(β:Nat)(qt:Bool)(sz:Nat)(es:List (List PV)){l:List AV}(h: ∀x∈l,x.kP=true): ∀x∈AV.yy.rf β qt sz es l,x.kP=true:=by intro x hx;obtain⟨i,hi⟩:=kh hx;rw[iT]at hi;simp only[yS]at hi;obtain⟨y,hy,rfl⟩:=hi;exact AS β qt sz es (h y (z7 hy))
theorem Jf(β:Nat)(qt:Bool)(sz:Nat)(es:List (List PV)): ∀(H:qp)(γ:Nat),
  A! (H.map fun(i,b)=>(i,b.yy β qt sz es)) γ=(H.get γ).map (q1j β qt sz es)
 |[],γ=>rfl
 |(i,b)::r,γ=>by simp only[s?,A!];split;rfl;exact Jf β qt sz es r γ
theorem qD.AW(β:Nat)(qt:Bool)(sz:Nat)(es:List (List PV))(b:qD):(b.yy β qt sz es).used=b.used:=by cases b<;>rfl
def u9(β:Nat)(qt:Bool)(sz:Nat)(es:List (List PV))(H:qp):qp:=q_ (H.map fun(i,b)=>(i,b.yy β qt sz es)) β .xt
theorem jX(β:Nat)(qt:Bool)(sz:Nat)(es:List (List PV))(H:qp)(γ:Nat):
  (u9 β qt sz es H).get γ=if γ=β then some .xt else(H.get γ).map (q1j β qt sz es):=by unfold u9;rw[p!,Jf]
def nP(ι:yp)(β:Nat)(qt:Bool)(Im:Nat->Prop):Nat->Prop:=fun b=>Im b\/(qt=false/\b=(ι β).b)
theorem row_pure(hi:zd w H ι Im){β:Nat}{qt:Bool}{sz:Nat}{es:List (List PV)}(hb:H.get β=some (.row qt sz es)){off n:Nat}{v:Value}
  (h1:off+n<=es.length) (h2:if qt=true then v= .slice none 0 0 else ∃a,v= .slice (some a) n ((ι β).cap-off)/\a.spot=none/\a.block=(ι β).b/\(off<(ι β).cap->a.off=off*sz)):
  RP w (nP ι β qt Im) (FA qt sz ((es.drop off).take n)) v:=by
 refine RP.mk ?_;cases qt
 ·simp only[wA,if_false]at h2;obtain⟨a,rfl,oL,eQ,Qi⟩:=h2;obtain⟨ab,ao,Dw⟩:=a;simp only at oL eQ Qi;subst oL eQ;obtain⟨vs,elem,fz,g1,g2,g3,g4,g5,g6,g7,g8⟩:=hi.row hb;have hlen:((es.drop off).take n).length=n:=v?;have pR: ∀(i:Nat) e,((es.drop off).take n)[i]? =some e->i<n/\es[off+i]? =some e:=by intro i e VA;have:=(qF VA).1;have dE:i<n:=o?;rw[Y? dE,w!]at VA;exact⟨dE,VA⟩
  have hm: ∀b,Im b->nP ι β false Im b:=fun b h=> .inl h;have key:=RP.sl (w:=w) (Im:=nP ι β false Im) sz ((es.drop off).take n) (ι β).b ao ((ι β).cap-off) (fun i=>(vs[off*sz+i]?).getD undef)
   (fun _=> .inr ⟨rfl,rfl⟩) o? (fun e he=>g6 e (z! (W? he))) (fun i xQ=>by
    rw[hlen]at xQ
    have hn:0<n:=by
     rcases q0o n with h|h
     ·subst h;simp at xQ
     exact h
    have:=Qi o?
    subst this
    rw[gx g1]
    have e1:(off+n)*sz<=(ι β).cap*sz:=mulR _ o?
    rw[M?]at e1
    have:off*sz+i<vs.size:=o?
    simp[this])
   (fun i e j p q1 q2=>g7 _ e j p (pR i e q1).2 q2) (fun i e j p q1 q2=>by
    obtain⟨_,VA⟩:=pR i e q1
    obtain⟨v,k1,k2⟩:=g8 _ e j p VA q2
    have e1:off*sz+(i*sz+j)=(off+i)*sz+j:=by rw[M?];omega
    simp only[e1,k1,Option.getD_some]
    exact k2.mono hm fun _ _=>rfl) none (fun _=>rfl)
  rw[hlen]at key;exact key
 simp only[if_true]at h2;subst h2;have de:es=[]:=hi.rk β _ hb;subst de;have:(([]:List (List PV)).drop off).take n=[]:=z?;rw[this];exact .aO sz
theorem ed(β:Nat)(qt:Bool)(sz:Nat)(es:List (List PV))(b:qD):(b.yy β qt sz es).sh=b.sh:=by cases b<;>simp[q1j,A']
theorem AU{β:Nat}{qt:Bool}{sz:Nat}{es:List (List PV)}(hb:H.get β=some (.row qt sz es)){β' xc off n:Nat}{v:Value}(hx:RA w H ι Im (.row β' xc off n) v):
  RA w (u9 β qt sz es H) ι (nP ι β qt Im) (.row β' xc off n) v:=by cases hx with|row _ _ _ _ _ b ho jo hk hv h=>by_cases he:β' =β;subst he;exact .row β' xc off n v .xt ho (by simp[jX]) (fun h=>absurd rfl h) (fun _ _ _ e=>by cases e) (fun _ _ _ e=>by cases e);refine .row β' xc off n v (b.yy β qt sz es) ho (by simp[jX,he,jo]) (fun h=>?_) (fun rF RG oi e=>?_) (fun rF RG oi e=>?_);rw[ed];exact hk (fun e=>h (by rw[e];rfl));rw[ed]at e;exact hv _ _ _ e;rw[ed]at e;exact h _ _ _ e
theorem Kh(hi:zd w H ι Im){β:Nat}{qt:Bool}{sz:Nat}{es:List (List PV)}(hb:H.get β=some (.row qt sz es)){x:AV}{v:Value}(hx:RA w H ι Im x v):
  RA w (u9 β qt sz es H) ι (nP ι β qt Im) (x.yy β qt sz es) v:=by
 have hm: ∀b,Im b->nP ι β qt Im b:=fun b h=> .inl h;have hw: ∀b,Im b->w.heap[b]? =w.heap[b]? :=fun _ _=>rfl;have rowStay: ∀(β' xc off n:Nat)(v:Value)(b:qD),dx v=true->H.get β' =some b->(b≠ .xt-> ∃qt sz l,b.sh=some (qt,sz,l))->(∀ qt sz l,b.sh=some (qt,sz,l)->xc<=l)->
   (∀ qt sz l,b.sh=some (qt,sz,l)->xc=l->off+n<=l/\
    if qt=true then v= .slice none 0 0
    else ∃a,v= .slice (some a) n ((ι β').cap-off)/\a.spot=none/\a.block=(ι β').b/\(off<(ι β').cap->a.off=off*sz))->
   RA w (u9 β qt sz es H) ι (nP ι β qt Im) (.row β' xc off n) v:=by
  intro β' xc off n v b ho jo hk hv h;by_cases he:β' =β
  ·subst he;exact .row β' xc off n v .xt ho (by simp[jX]) (fun h=>absurd rfl h) (fun _ _ _ e=>by cases e) (fun _ _ _ e=>by cases e)
  refine .row β' xc off n v (b.yy β qt sz es) ho (by simp[jX,he,jo]) (fun h=>?_) (fun rF RG oi e=>?_) (fun rF RG oi e=>?_)
  ·rw[ed];exact hk (fun e=>h (by rw[e];rfl))
  ·rw[ed]at e;exact hv _ _ _ e
  rw[ed]at e;exact h _ _ _ e
 have tL: ∀(c:List AV)(vs:List Value),c.length=vs.length->(∀(i:Nat) x v,c[i]? =some x->vs[i]? =some v->RA w (u9 β qt sz es H) ι (nP ι β qt Im) (x.yy β qt sz es) v)->
   (AV.yy.rf β qt sz es c).length=vs.length/\ ∀(i:Nat) x v,(AV.yy.rf β qt sz es c)[i]? =some x->vs[i]? =some v->RA w (u9 β qt sz es H) ι (nP ι β qt Im) x v:=by
  intro c vs hl h;refine⟨by rw[Qo,hl],fun i x v h1 h2=>?_⟩;rw[iT]at h1;simp only[yS]at h1;obtain⟨y,hy,rfl⟩:=h1;exact h i y v hy h2
 induction hx with|undef v=>exact .undef v|pv p v h=>exact .pv p v (h.mono hm hw)|ptr β' o b' jo hk=>((have jx:β' ≠β:=by intro e;subst e;rw[hb]at jo;cases jo;cases hk);exact .ptr β' o (b'.yy β qt sz es) (by simp[jX,jx,jo]) (by cases b' <;>first|rfl|cases hk))|uJ β' xc i o b1 o1 b jo jy h=>by_cases he:β' =β;subst he;exact .uJ β' xc i o b1 o1 .xt (by simp[jX]) (fun _ _ _ e=>by cases e) (fun _ _ _ e=>by cases e);refine .uJ β' xc i o b1 o1 (b.yy β qt sz es) (by simp[jX,he,jo]) (fun rF RG oi e=>?_) (fun rF RG oi e=>?_);rw[ed]at e;exact jy _ _ _ e;rw[ed]at e;exact h _ _ _ e|row β' xc off n v b ho jo hk jy h=>simp only[AV.yy];split;rename_i hc;obtain⟨rfl,hv⟩:=hc;rw[hb]at jo;cases jo;obtain⟨h1,h2⟩:=h _ _ _ rfl hv;exact .pv _ _ (row_pure hi hb h1 h2);exact rowStay β' xc off n v b ho jo hk jy h|tE c o b off vs Qx hc hf h=>exact .tE c o b off vs (hm b Qx) hc hf fun i p hp=>(h i p hp).mono hm hw|iW a=>exact .iW a|map β' oi zW jo=>(have jx:β' ≠β:=by intro e;subst e;rw[hb]at jo;cases jo);exact .map β' oi zW (by simp[jX,jx,jo,q1j])|QX f a b va vb VB Su _ _ iha ihb=>obtain⟨q1,q2⟩:=tL a va VB iha;obtain⟨q3,q4⟩:=tL b vb Su ihb;exact .QX f _ _ va vb q1 q3 q2 q4|agg c vs hl hf _ ih=>obtain⟨q1,q2⟩:=tL c vs hl ih;exact lP q1 (Zo β qt sz es hf) q2|xR c vs hl _ ih=>obtain⟨q1,q2⟩:=tL c vs hl ih;exact .xR _ vs q1 q2
theorem qD.thaw_isO(β:Nat)(qt:Bool)(sz:Nat)(es:List (List PV))(b:qD):(b.yy β qt sz es).SG=b.SG:=by cases b<;>rfl
theorem qD.Qp{β:Nat}{qt:Bool}{sz:Nat}{es:List (List PV)}{b:qD}{q:Pl}{x:Nat}(h:(b.yy β qt sz es).yb q x):b.yb q x:=by unfold qD.yb at*;rw[qD.AW,qD.thaw_isO]at h;exact h
theorem Yg(hi:zd w H ι Im){β:Nat}{qt:Bool}{sz:Nat}{es:List (List PV)}(hb:H.get β=some (.row qt sz es)):
  zd w (u9 β qt sz es H) ι (nP ι β qt Im)/\wU w H ι Im w (u9 β qt sz es H) ι (nP ι β qt Im):=by
 have hm: ∀b,Im b->nP ι β qt Im b:=fun b h=> .inl h;have hw: ∀b,Im b->w.heap[b]? =w.heap[b]? :=fun _ _=>rfl;have SB:qt=false->(qD.row qt sz es).used=true:=fun h=>by simp[j_,h]
 refine⟨⟨fun γ b hγ=>?_,fun γ γ' b b' z h1 h2 u1 u2=>?_,fun b h=>?_,fun γ b z hγ hu h=>?_,hi.BM,fun b hb=> .inl (hi.Vx b hb)⟩,⟨fun γ b hγ=>?_,hm,fun b h=>?_,fun γ x z hγ hu=>?_,fun _ _ _=>rfl,jv _,rfl,rfl⟩⟩;rw[jX]at hγ;split at hγ;cases hγ;trivial;(simp only[yS]at hγ;obtain⟨b0,Xk,rfl⟩:=hγ;have h0:=hi.rk γ b0 Xk;cases b0 with|box c=>obtain⟨vs,elem,fz,q1,q2,q3,q4,q5⟩:=h0;refine⟨vs,elem,fz,q1,q2,by rw[Qo,q3],Zo β qt sz es q4,fun i x v a b=>?_⟩;rw[iT]at a;simp only[yS]at a;obtain⟨y,hy,rfl⟩:=a;exact Kh hi hb (q5 i y v hy b)|row rF RG oi=>(cases rF with|true=>exact h0|false=>obtain⟨vs,elem,fz,q1,q2,q3,q4,q5,q6,q7,q8⟩:=h0;refine⟨vs,elem,fz,q1,q2,q3,q4,q5,q6,q7,fun i e j p a b=>?_⟩;obtain⟨v,k1,k2⟩:=q8 i e j p a b;exact⟨v,k1,k2.mono hm hw⟩)|map oi zW=>obtain⟨xe,q1,q2,q3⟩:=h0;refine⟨xe,q1,q2,fun i k x born e a b=>?_⟩;obtain⟨k1,k2,k3⟩:=q3 i k x born e a b;exact⟨k1.mono hm hw,k2.mono hm hw,k3⟩|mz RG oi=>(obtain⟨vs,elem,fz,q1,q2,q3,q4,q5,q6,q7,q8⟩:=h0;have get: ∀(i:Nat) e(j:Nat) x,(oi.map (AV.yy.rf β qt sz es))[i]? =some e->e[j]? =some x-> ∃e0 y,oi[i]? =some e0/\e0[j]? =some y/\x=y.yy β qt sz es/\e=AV.yy.rf β qt sz es e0:=by intro i e j x h1 h2;rw[X?,yS]at h1;obtain⟨e0,h1,rfl⟩:=h1;rw[iT,yS]at h2;obtain⟨y,h2,rfl⟩:=h2;exact⟨e0,y,h1,h2,rfl,rfl⟩);refine⟨vs,elem,fz,q1,q2,q3,q4,by simpa using q5,fun e he=>?_,fun i e j x a b=>?_,fun i e j x a b=>?_⟩;obtain⟨e0,h0,rfl⟩:=N?.1 he;rw[Qo];exact q6 e0 h0;(obtain⟨e0,y,h1,h2,rfl,rfl⟩:=get i e j x a b;have hf: ∀x∈e0,x.kP=true:=fun x hx=>by obtain⟨j',Sq⟩:=kh hx;exact q7 i e0 j' x h1 Sq);exact Zo β qt sz es hf _ (z7 b);obtain⟨e0,y,h1,h2,rfl,rfl⟩:=get i e j x a b;obtain⟨v,k1,k2⟩:=q8 i e0 j y h1 h2;exact⟨v,k1,Kh hi hb k2⟩|jc rF Sa oi l7=>(cases rF with|true=>exact h0|false=>obtain⟨vs,elem,fz,q1,q2,q3,q4,q5,q6,q7,q8,q9⟩:=h0;refine⟨vs,elem,fz,q1,q2,q3,q4,q5,q6,q7,q8,fun i p k a b=>?_⟩;obtain⟨v,k1,k2,k3⟩:=q9 i p k a b;exact⟨v,k1,fun hj=>(k2 hj).mono hm hw fun _ _=>rfl,fun γ xc hf=>⟨(k3 γ xc hf).1,AU hb (k3 γ xc hf).2⟩⟩)|xt=>trivial);rw[jX]at h1 h2;split at h1;cases h1;cases u1.1;split at h2;cases h2;cases u2.1;simp only[yS]at h1 h2;obtain⟨b0,Xk,rfl⟩:=h1;obtain⟨b1,UW,rfl⟩:=h2;exact hi.inj γ γ' b0 b1 z Xk UW (qD.Qp u1) (qD.Qp u2);rcases h with h|⟨hn,rfl⟩;exact hi.im b h;exact(hi.rk β _ hb).lt (SB hn);rw[jX]at hγ;split at hγ;cases hγ;cases hu.1;rename_i jx;simp only[yS]at hγ;obtain⟨b0,Xk,rfl⟩:=hγ;have hu:=qD.Qp hu;rcases h with h|⟨hn,h⟩;exact hi.Vd γ b0 z Xk hu h;exact jx (hi.inj γ β b0 _ z Xk hb hu ⟨SB hn,.inl h⟩);by_cases he:γ=β;subst he;rw[hb]at hγ;cases hγ;exact⟨.xt,by simp[jX],rfl⟩;refine⟨b.yy β qt sz es,by simp[jX,he,hγ], ?_⟩;cases b<;>simp[q1j,xN,A',Pl.kF];rcases h with h|⟨hn,rfl⟩;exact .inl h;exact .inr (.inr ⟨β,_,hb,SB hn,.inl rfl⟩);rw[jX]at hγ;split at hγ;cases hγ;cases hu.1;simp only[yS]at hγ;obtain⟨b0,Xk,rfl⟩:=hγ;exact .inr ⟨γ,b0,Xk,qD.Qp hu⟩
structure Inv (w:World) (a:Act) (s:St) (ι:yp) (Im:Nat->Prop) (nt:Nat):Prop where
 heap:zd w s.heap ι Im
 env: ∀t,RA w s.heap ι Im (s.env.get t) (a.tmps.getD t undef)
 nx: ∀β b,s.heap.get β=some b->β<s.nx
 size:nt<=a.tmps.size
 defers:a.defers=[]
theorem Z4(f:AV->AV)(hf:f .undef= .undef): ∀(E:yo)(t:Nat),V! (E.map fun(t,v)=>(t,f v)) t=f (E.get t)
 |[],t=>by simp[V!,hf]
 |(i,v)::r,t=>by simp only[s?,V!];split;rfl;exact Z4 f hf r t
theorem aL{α:Type}{d:Nat}: ∀(es:List (List α))(i:Nat),(∀ e∈es,e.length=d)-> ∀e(j:Nat) p,es[i]? =some e->e[j]? =some p->es.flatten[i*d+j]? =some p
 |[],i,_,e,j,p,h,_=>by simp at h
 |x::r,0,hl,e,j,p,h,hj=>by simp at h;subst h;have:=(qF hj).1;rw[Nat.zero_mul,A?,K!,p? this];exact hj
 |x::r,i+1,hl,e,j,p,h,hj=>by have hx:=hl x z?;rw[K!,J? (by rw[hx,B?];omega),hx];have ih:=aL r i (fun e he=>hl e (by simp[he])) e j p (by simpa using h) hj;rw[show (i+1)*d+j-d=i*d+j by rw[B?];omega];exact ih
theorem oW.kP{ds:List Nat}{p:PV}{v:Value}{k:Sk}(h:oW w Im ds p v k):p.kP=true:=by cases h with|WI p v hs h=>(cases p<;>first|rfl|cases hs)|nil=>rfl|sl=>rfl
theorem oW.pure{jT:Nat->Prop}(hm: ∀b,Im b->jT b){ds:List Nat}{p:PV}{v:Value}{k:Sk}(h:oW w Im ds p v k):(∀ x∈k.blocks,jT x)->RP w jT p v:=by
 induction h with
  |WI p v hs h=>exact fun _=>h.mono hm fun _ _=>rfl
  |nil d ds=>exact fun _=> .aO 0
  |sl d ds es b o cap ks vs elem fz hb hfz En hd hle ho de BS val JQ hh ih=>
   (intro hk;have hszc:es≠[]->zT d es=d:=fun h=>by cases es with|nil=>exact absurd rfl h|cons _ _=>rfl);have Qw: ∀(i:Nat) e(j:Nat) p,es[i]? =some e->e[j]? =some p->es.flatten[i*d+j]? =some p:=fun i e j p h1 h2=>aL es i de e j p h1 h2;have jx: ∀{i:Nat}{e:List PV},es[i]? =some e->es≠[]:=fun h he=>by rw[he]at h;cases h
   have Vy: ∀(i:Nat) e(j:Nat) p,es[i]? =some e->e[j]? =some p-> ∃k,ks[i*d+j]? =some k/\oW w Im ds p (val (i*d+j)) k/\RP w jT p (val (i*d+j)):=fun i e j p h1 h2=>by
    have h3:=Qw i e j p h1 h2;have h4:=(qF h3).1;obtain⟨k,Xm⟩: ∃k,ks[i*d+j]? =some k:=⟨ks[i*d+j]'(o?),z?⟩;exact⟨k,Xm,hh _ p k h3 Xm,ih _ p k h3 Xm fun x hx=>hk x (by
     simp only[j!,U?,e!]
     exact .inr ⟨k,z7 Xm,hx⟩)⟩
   refine .sl (zT d es) es b o cap val (fun _=>hk b (by simp[j!])) hle (fun e he=>?_) (fun i xQ=>?_) (fun i e j p h1 h2=>?_) (fun i e j p h1 h2=>?_) none (fun _=>rfl);rw[hszc (List.ne_nil_of_mem he)];exact de e he;(have hn:es≠[]:=fun he=>by subst he;simp at xQ);(rw[hszc hn]at xQ;have pT:=List.length_pos_iff.2 hn;rw[ho o?,A?,gx hb];have hfll:es.flatten.length=es.length*d:=by clear Qw Vy jx hszc hh ih hk JQ BS hle hn pT xQ ho;induction es with|nil=>simp|cons x r ih=>rw[K!,t?,ih (fun e he=>de e (by simp[he])),de x z?,g?,B?];omega);exact JQ i o?;obtain⟨k,_,h3,_⟩:=Vy i e j p h1 h2;exact h3.kP;rw[hszc (jx h1)];obtain⟨k,_,_,h3⟩:=Vy i e j p h1 h2;exact h3
theorem seal_ok(hi:zd w H ι Im){β:Nat}{qt:Bool}{ds:List Nat}{es:List PV}(hb:H.get β=some (.jc qt ds es none)):
  ∃jT,zd w (H.put β (.row qt 1 (es.map fun p=>[p]))) ι jT/\wU w H ι Im w (H.put β (.row qt 1 (es.map fun p=>[p]))) ι jT:=by
 let jT:Nat->Prop:=fun b=>Im b\/(qt=false/\b∈(ι β).ks.flatMap j!);have hm: ∀b,Im b->jT b:=fun b h=> .inl h;have Yj: ∀{x:Nat},qt=false/\x∈(ι β).ks.flatMap j!->(Y_ qt ds es none).yb (ι β) x:=fun h=>⟨by simp[j_,h.1],.inr ⟨rfl,h.2⟩⟩;have eu: ∀{x:Nat},(qD.row qt 1 (es.map fun p=>[p])).yb (ι β) x->qt=false/\x=(ι β).b:=fun h=>by refine⟨by simpa[j_]using h.1, ?_⟩;rcases h.2 with h|⟨h,_⟩;exact h;cases h
 have Sz: ∀{x:Nat},(qD.row qt 1 (es.map fun p=>[p])).yb (ι β) x->(Y_ qt ds es none).yb (ι β) x:=fun h=>⟨by simp[j_,(eu h).1],.inl (eu h).2⟩;have he:wU w H ι Im w (H.put β (.row qt 1 (es.map fun p=>[p]))) ι jT:=by refine⟨fun γ b hγ=>?_,hm,fun b h=>?_,fun γ x z hγ hu=>?_,fun _ _ _=>rfl,jv _,rfl,rfl⟩;by_cases e:γ=β;subst e;rw[hb]at hγ;cases hγ;exact⟨.row qt 1 (es.map fun p=>[p]),by simp[p!],by simp[xN,A',Pl.kF]⟩;exact⟨b,by simp[p!,e,hγ],uV _ _⟩;rcases h with h|h;exact .inl h;exact .inr (.inr ⟨β,_,hb,Yj h⟩);by_cases e:γ=β;subst e;simp only[p!,if_true,kG]at hγ;subst hγ;exact .inr ⟨γ,_,hb,Sz hu⟩;simp only[p!,e,if_false]at hγ;exact .inr ⟨γ,x,hγ,hu⟩
 have hold: ∀{γ:Nat}{b:qD},(H.put β (.row qt 1 (es.map fun p=>[p]))).get γ=some b-> ∃b0,H.get γ=some b0/\ ∀{x:Nat},b.yb (ι γ) x->b0.yb (ι γ) x:=fun{γ b} h=>by by_cases e:γ=β;subst e;simp only[p!,if_true,kG]at h;subst h;exact⟨_,hb,Sz⟩;simp only[p!,e,if_false]at h;exact⟨b,h,id⟩
 refine⟨jT,⟨fun γ b hγ=>?_,fun γ γ' b b' z h1 h2 u1 u2=>?_,fun b h=>?_,fun γ b z hγ hu h=>?_,hi.BM,fun b hb=> .inl (hi.Vx b hb)⟩,he⟩;by_cases e:γ=β;(subst e;simp only[p!,if_true,kG]at hγ;subst hγ;cases qt with|true=>have:es=[]:=(hi.rk γ _ hb).1;subst this;rfl|false=>(obtain⟨vs,elem,fz,h1,h2,h3,h4,h5,h6,h7,h8,h9⟩:=hi.jc hb;have hg: ∀(i:Nat) e(j:Nat) p,(es.map fun p=>[p])[i]? =some e->e[j]? =some p->j=0/\es[i]? =some p:=by intro i e j p a b;rw[X?,yS]at a;obtain⟨q,a,rfl⟩:=a;cases j with|zero=>simp at b;subst b;exact⟨rfl,a⟩|succ j=>simp at b);(have hk: ∀{i:Nat}{p:PV},es[i]? =some p-> ∃k,(ι γ).ks[i]? =some k:=fun{i p} a=>by have:=(qF a).1;exact⟨(ι γ).ks[i]'(o?),z?⟩);refine⟨vs,elem,fz,h1,h2,by simpa using h3,o?,by simpa using h4,fun e he=>?_,fun i e j p a b=>?_,fun i e j p a b=>?_⟩;obtain⟨q,_,rfl⟩:=N?.1 he;rfl;obtain⟨rfl,a⟩:=hg i e j p a b;obtain⟨k,c⟩:=hk a;obtain⟨v,_,k2,_⟩:=h9 i p k a c;exact(k2 fun _ _ _ h=>by cases h).kP;obtain⟨rfl,a⟩:=hg i e j p a b;obtain⟨k,c⟩:=hk a;obtain⟨v,k1,k2,_⟩:=h9 i p k a c;refine⟨v,by simpa using k1,(k2 fun _ _ _ h=>by cases h).pure hm fun x hx=> .inr ⟨rfl,e!.2 ⟨k,z7 c,hx⟩⟩⟩);simp only[p!,e,if_false]at hγ;exact(hi.rk γ b hγ).mono hi he fun _=>⟨rfl,fun _ _=>rfl⟩;obtain⟨b0,g1,g2⟩:=hold h1;obtain⟨b1,g3,g4⟩:=hold h2;exact hi.inj γ γ' b0 b1 z g1 g3 (g2 u1) (g4 u2);rcases h with h|h;exact hi.im b h;exact(hi.rk β _ hb).sY (Yj h);obtain⟨b0,g1,g2⟩:=hold hγ;rcases h with h|h;exact hi.Vd γ b0 z g1 (g2 hu) h;have e:=hi.inj γ β b0 _ z g1 hb (g2 hu) (Yj h);subst e;simp only[p!,if_true,kG]at hγ;subst hγ;obtain⟨e1,e2⟩:=eu hu;subst e1;obtain⟨vs,elem,fz,h1,h2,h3,h4,h5,h6,_⟩:=hi.jc hb;rw[e2]at h;exact(d!.1 h6).1 h.2
theorem Jq(f:qD->qD)(β:Nat)(y z:qD): ∀H:qp,q_ ((q_ H β y).map fun(i,b)=>(i,f b)) β z=q_ (H.map fun(i,b)=>(i,f b)) β z
 |[]=>by simp[q_]
 |(i,b)::r=>by by_cases h:i=β;simp[q_,h];simp only[q_,h,if_false,s?];rw[Jq f β y z r]
theorem F3{a:Act}{s:St}{nt:Nat}(h:Inv w a s ι Im nt)(β:Nat):
  ∃jT,Inv w a (freeze β s) ι jT nt/\wU w s.heap ι Im w (freeze β s).heap ι jT:=by unfold freeze;split;rename_i qt sz es hb;obtain⟨h1,h2⟩:=Yg h.heap hb;refine⟨_,⟨h1,fun t=>?_,fun γ b hγ=>?_,h.size,h.defers⟩,h2⟩;show RA w _ ι _ (V! (s.env.map fun(t,v)=>(t,v.yy β qt sz es)) t) _;rw[Z4 _ rfl];exact Kh h.heap hb (h.env t);have hγ' :(u9 β qt sz es s.heap).get γ=some b:=hγ;rw[jX]at hγ';split at hγ';rename_i e;subst e;exact h.nx γ _ hb;simp only[yS]at hγ';obtain⟨b0,Xk,_⟩:=hγ';exact h.nx γ b0 Xk;(rename_i qt ds es hb;obtain⟨iX,q1,q2⟩:=seal_ok h.heap hb;have UW:(s.heap.put β (.row qt 1 (es.map fun p=>[p]))).get β=some (.row qt 1 (es.map fun p=>[p])):=by simp[p!]);obtain⟨h1,h2⟩:=Yg q1 UW;have hf:u9 β qt 1 (es.map fun p=>[p]) (s.heap.put β (.row qt 1 (es.map fun p=>[p])))=q_ (s.heap.map fun(i,b)=>(i,b.yy β qt 1 (es.map fun p=>[p]))) β .xt:=Jq _ _ _ _ _;have JN:=fun t=>Kh q1 UW ((h.env t).mono h.heap q2);rw[hf]at h1 h2;refine⟨_,⟨h1,fun t=>?_,fun γ b hγ=>?_,h.size,h.defers⟩,q2.trans h2⟩;show RA w _ ι _ (V! (s.env.map fun(t,v)=>(t,v.yy β qt 1 (es.map fun p=>[p]))) t) _;rw[Z4 _ rfl,<- hf];exact JN t;have hγ' :(q_ (s.heap.map fun(i,b)=>(i,b.yy β qt 1 (es.map fun p=>[p]))) β .xt).get γ=some b:=hγ;rw[<- hf,jX]at hγ';split at hγ';rename_i e;subst e;exact h.nx γ _ hb;rename_i e;simp only[yS,p!,e,if_false]at hγ';obtain⟨b0,Xk,_⟩:=hγ';exact h.nx γ b0 Xk;exact⟨Im,h,W! _ _ _ _⟩
theorem tz{a:Act}{nt:Nat}: ∀(l:List Nat){s:St}{Im:Nat->Prop},Inv w a s ι Im nt->
  ∃jT,Inv w a (uW l s) ι jT nt/\wU w s.heap ι Im w (uW l s).heap ι jT
 |[],s,Im,h=>⟨Im,h,W! _ _ _ _⟩
 |β::r,s,Im,h=>by obtain⟨iX,h1,e1⟩:=F3 h β;obtain⟨Gd,h2,e2⟩:=tz r h1;exact⟨Gd,h2,e1.trans e2⟩
end
section
variable [xd] {P:Program} {w:World} {H:qp} {ι:yp} {Im:Nat->Prop}
theorem KZ(hi:zd w H ι Im){β γ:Nat}(jx:β≠γ){x y z:qD}{p q:Pl}(hx:H.get β=some x)
  (cb:xN x y (ι β) p) (cg: ∀c,H.get γ=some c->xN c z (ι γ) q)
  (fy: ∀t,y.yb p t->x.yb (ι β) t\/ ∃c,H.get γ=some c/\c.yb (ι γ) t)
  (fz: ∀t,z.yb q t->x.yb (ι β) t\/ ∃c,H.get γ=some c/\c.yb (ι γ) t)
  (dis: ∀t,y.yb p t->z.yb q t->False)
  (eL:wU w H ι Im w ((H.put β y).put γ z) (jW (jW ι β p) γ q) Im->ro w ((H.put β y).put γ z) (jW (jW ι β p) γ q) Im β y)
  (bz:wU w H ι Im w ((H.put β y).put γ z) (jW (jW ι β p) γ q) Im->ro w ((H.put β y).put γ z) (jW (jW ι β p) γ q) Im γ z):
  zd w ((H.put β y).put γ z) (jW (jW ι β p) γ q) Im/\wU w H ι Im w ((H.put β y).put γ z) (jW (jW ι β p) γ q) Im:=by
 have get: ∀δ,((H.put β y).put γ z).get δ=if δ=γ then some z else if δ=β then some y else H.get δ:=fun δ=>by rw[p!];split;rfl;rw[p!]
 have pg:jW (jW ι β p) γ q γ=q:=z?;have pb:jW (jW ι β p) γ q β=p:=by rw[pz _ _ jx];simp
 have po: ∀{δ},δ≠β->δ≠γ->jW (jW ι β p) γ q δ=ι δ:=fun h1 h2=>by rw[pz _ _ h2,pz _ _ h1]
 have Nu: ∀{δ:Nat}{b:qD}{t:Nat},((H.put β y).put γ z).get δ=some b->b.yb (jW (jW ι β p) γ q δ) t-> ∃δ0 b0,H.get δ0=some b0/\b0.yb (ι δ0) t/\((δ=δ0/\δ≠β/\δ≠γ)\/((δ=β\/δ=γ)/\(δ0=β\/δ0=γ))):=by intro δ b t h1 h2;rw[get]at h1;by_cases e1:δ=γ;subst e1;rw[if_pos rfl]at h1;cases h1;rw[pg]at h2;rcases fz t h2 with h|⟨c,g1,g2⟩;exact⟨β,x,hx,h,.inr ⟨.inr rfl,.inl rfl⟩⟩;exact⟨δ,c,g1,g2,.inr ⟨.inr rfl,.inr rfl⟩⟩;rw[if_neg e1]at h1;by_cases e2:δ=β;subst e2;rw[if_pos rfl]at h1;cases h1;rw[pb]at h2;rcases fy t h2 with h|⟨c,g1,g2⟩;exact⟨δ,x,hx,h,.inr ⟨.inl rfl,.inl rfl⟩⟩;exact⟨γ,c,g1,g2,.inr ⟨.inl rfl,.inr rfl⟩⟩;rw[if_neg e2]at h1;rw[po e2 e1]at h2;exact⟨δ,b,h1,h2,.inl ⟨rfl,e2,e1⟩⟩
 have he:wU w H ι Im w ((H.put β y).put γ z) (jW (jW ι β p) γ q) Im:=by refine⟨fun δ b hb=>?_,fun _ h=>h,fun _ h=> .inl h,fun δ b t h1 h2=>?_,fun _ _ _=>rfl,jv _,rfl,rfl⟩;by_cases e1:δ=γ;subst e1;exact⟨z,by rw[get,if_pos rfl],by rw[pg];exact cg b hb⟩;by_cases e2:δ=β;subst e2;rw[hx]at hb;cases hb;exact⟨y,by rw[get,if_neg e1,if_pos rfl],by rw[pb];exact cb⟩;exact⟨b,by rw[get,if_neg e1,if_neg e2];exact hb,by rw[po e2 e1];exact uV _ _⟩;obtain⟨δ0,b0,g1,g2,_⟩:=Nu h1 h2;exact .inr ⟨δ0,b0,g1,g2⟩
 refine⟨⟨fun δ b hb=>?_,fun δ δ' b b' t h1 h2 u1 u2=>?_,hi.im,fun δ b t h1 h2=>?_,hi.BM,hi.Vx⟩,he⟩;have jo:=hb;rw[get]at hb;by_cases e1:δ=γ;subst e1;rw[if_pos rfl]at hb;cases hb;exact bz he;rw[if_neg e1]at hb;by_cases e2:δ=β;subst e2;rw[if_pos rfl]at hb;cases hb;exact eL he;rw[if_neg e2]at hb;exact(hi.rk δ b hb).mono hi he fun _=>⟨po e2 e1,fun _ _=>rfl⟩;obtain⟨δ0,b0,g1,g2,g3⟩:=Nu h1 u1;obtain⟨δ1,b1,k1,k2,k3⟩:=Nu h2 u2;have e:=hi.inj δ0 δ1 b0 b1 t g1 k1 g2 k2;subst e;rcases g3 with ⟨rfl,n1,n2⟩|⟨g3,g4⟩;rcases k3 with ⟨rfl,_,_⟩|⟨_,k4⟩;rfl;rcases k4 with h|h;exact absurd h n1;exact absurd h n2;rcases k3 with ⟨rfl,n1,n2⟩|⟨k3,k4⟩;rcases g4 with h|h;exact absurd h n1;exact absurd h n2;rw[get]at h1 h2;rcases g3 with rfl|rfl<;>rcases k3 with rfl|rfl;rfl;rw[if_neg jx,if_pos rfl]at h1;rw[if_pos rfl]at h2;cases h1;cases h2;rw[pb]at u1;rw[pg]at u2;exact(dis t u1 u2).elim;rw[if_neg jx,if_pos rfl]at h2;rw[if_pos rfl]at h1;cases h1;cases h2;rw[pb]at u2;rw[pg]at u1;exact(dis t u2 u1).elim;rfl;obtain⟨δ0,b0,g1,g2,_⟩:=Nu h1 h2;exact hi.Vd δ0 b0 t g1 g2
theorem i4: ∀{ks:List Sk}{i:Nat}{k:Sk},ks[i]? =some k->(ks.flatMap j!).Nodup->(∀ x∈k.blocks,x∈ks.flatMap j!/\x∉(ks.set i .leaf).flatMap j!)/\k.blocks.Nodup
 |[],i,k,h,_=>by simp at h
 |a::r,0,k,h,hn=>by simp at h;subst h;rw[S?,x!]at hn;refine⟨fun x hx=>⟨by simp[hx],fun Lg=>?_⟩,hn.1⟩;simp only[S',S?,j!,List.nil_append]at Lg;exact hn.2.2 x hx x Lg rfl
 |a::r,i+1,k,h,hn=>by rw[S?,x!]at hn;obtain⟨ih1,H5⟩:=i4 (ks:=r) (i:=i) (by simpa using h) hn.2.1;refine⟨fun x hx=>?_,H5⟩;obtain⟨j1,j2⟩:=ih1 x hx;refine⟨by rw[S?];exact b_ _ j1,fun Lg=>?_⟩;rw[C',S?]at Lg;rcases m?.1 Lg with h2|h2;exact hn.2.2 x h2 x j1 rfl;exact j2 h2
theorem Jd{α:Type}{d:Nat}(hd:0<d): ∀(es:List (List α)),(∀ e∈es,e.length=d)-> ∀(m:Nat) p,es.flatten[m]? =some p-> ∃e,es[m / d]? =some e/\e[m % d]? =some p
 |[],_,m,p,h=>by simp at h
 |x::r,hl,m,p,h=>by have hx:=hl x z?;by_cases hm:m<d;rw[K!,p? o?]at h;exact⟨x,by rw[Nat.div_eq_of_lt hm];rfl,by rw[Nat.mod_eq_of_lt hm];exact h⟩;(rw[K!,J? o?,hx]at h;obtain⟨e,h1,h2⟩:=Jd hd r (fun e he=>hl e (by simp[he])) (m-d) p h;have e1:m / d=(m-d) / d+1:=by rw[Nat.div_eq_sub_div hd o?]);(have e2:m % d=(m-d) % d:=by rw[Nat.mod_eq_sub_mod o?]);exact⟨e,by rw[e1];simpa using h1,by rw[e2];exact h2⟩
theorem lG{α:Type}{d:Nat}: ∀(es:List (List α)),(∀ e∈es,e.length=d)->es.flatten.length=es.length*d
 |[],_=>z?
 |x::r,hl=>by rw[K!,t?,lG r (fun e he=>hl e (by simp[he])),hl x z?,g?,B?];omega
theorem lH{α:Type}(es:List α):(es.map fun p=>[p]).flatten=es:=by induction es with|nil=>rfl|cons x r ih=>simp[ih]
def Sk.pl:Sk->Pl
 | .leaf=>⟨0,0,[]⟩
 | .node b cap ks=>⟨b,cap,ks⟩
theorem F1(hi:zd w H ι Im){nx:Nat}(xV: ∀β b,H.get β=some b->β<nx){β i γ fg:Nat}{H' :qp}(h:UN H nx β i=some (H',fg,γ)):
  ∃ι',zd w H' ι' Im/\wU w H ι Im w H' ι' Im/\ ∀β b,H'.get β=some b->β<fg:=by
 unfold UN at h;split at h
 ·rename_i eo es hb;split at h;rotate_left;cases h;rename_i d ds;split at h;rotate_left;cases h;rename_i qt sz oi hp;split at h;rotate_left;cases h;(rename_i rk oY;cases h;obtain⟨vs,elem,fz,h1,h2,h3,h4,h5,h6,h7,h8,h9⟩:=hi.jc hb;obtain⟨Eh,T4⟩:=d!.1 h6;have db:=(qF hp).1;obtain⟨k,hk⟩: ∃k,(ι β).ks[i]? =some k:=⟨(ι β).ks[i]'(o?),z?⟩;obtain⟨v,k1,k2,_⟩:=h9 i _ k hp hk;have hO:=k2 fun _ _ _ h=>by cases h);(obtain⟨nH,El⟩:=i4 hk T4;have jx:β≠nx:=fun e=>by have:=xV β _ hb;omega);(have oq:H.get nx=none:=by cases hh:H.get nx with|none=>rfl|some b=>have:=xV nx b hh;omega);(have key: ∀(H' :qp)(ι' :yp),ι' nx=k.pl->H'.get nx=some rk->ro w H' ι' Im nx rk/\RA w H' ι' Im (.row nx oi.length 0 oi.length) v/\(∀ t,rk.yb k.pl t->t∈k.blocks):=by intro H' ι' sZ pR;cases hO with|nil=>unfold UK at oY;split at oY;cases oY;refine⟨rfl,.row _ _ _ _ _ _ rfl pR (fun _=>⟨_,_,_,rfl⟩) (fun _ _ _ e=>by cases e;exact jv _) (fun _ _ _ e _=>by cases e;exact⟨z?,rfl⟩),fun t ht=>?_⟩;exact absurd ht.1 (by simp[j_]);split at oY<;>cases oY;refine⟨⟨rfl,rfl⟩,.row _ _ _ _ _ _ rfl pR (fun _=>⟨_,_,_,rfl⟩) (fun _ _ _ e=>by cases e;exact jv _) (fun _ _ _ e _=>by cases e;exact⟨z?,rfl⟩),fun t ht=>?_⟩;exact absurd ht.1 (by simp[j_])|sl _ _ _ b o cap ks eg elem' fz' q1 q2 q3 q4 q5 q6 q7 q8 val q9 q10=>(have W8:(ι' nx)=⟨b,cap,ks⟩:=sZ;have hhead: ∀(bl:qD)(sz:Nat),bl.sh=some (false,sz,oi.length)->H'.get nx=some bl->RA w H' ι' Im (.row nx oi.length 0 oi.length) (.slice (some ⟨b,o,none⟩) oi.length cap):=by intro bl sz hsh hg;refine .row _ _ _ _ _ _ rfl hg (fun _=>⟨_,_,_,hsh⟩) (fun _ _ _ e=>by rw[hsh]at e;cases e;exact jv _) (fun _ _ _ e _=>?_);rw[hsh]at e;cases e;refine⟨z?, ?_⟩;simp only[wA,if_false,W8];exact⟨⟨b,o,none⟩,z?,rfl,rfl,fun hc=>by rw[q6 hc];simp⟩);(have BS:(Sk.node b cap ks).blocks=b::ks.flatMap j!:=by simp[j!]);have hbl: ∀x∈ks.flatMap j!,x<w.heap.size:=fun x hx=>h7 x (nH x (by rw[BS];simp[hx])).1;unfold UK at oY;split at oY;cases oY;refine⟨⟨eg,elem',fz',by rw[W8];exact q1,q2,by rw[W8];exact q3,q4,by rw[W8];exact q5,q7,fun i e j p a c=>?_,fun i e j p a c=>?_⟩,hhead _ _ rfl pR,fun t ht=>?_⟩;have hf:=aL oi i q7 e j p a c;have:=(qF hf).1;obtain⟨k',Xm⟩: ∃k',ks[i*d+j]? =some k' :=⟨ks[i*d+j]'(o?),z?⟩;exact(q10 _ p k' hf Xm).kP;(have hf:=aL oi i q7 e j p a c;have:=(qF hf).1;obtain⟨k',Xm⟩: ∃k',ks[i*d+j]? =some k' :=⟨ks[i*d+j]'(o?),z?⟩;refine⟨val (i*d+j),q9 _ this, ?_⟩;have h0:=q10 _ p k' hf Xm;generalize val (i*d+j)=u at h0;cases h0 with|WI _ _ _ h=>exact h);rw[BS];rcases ht.2 with h|⟨h,_⟩;rw[h];simp[Sk.pl];cases h;(rename_i d1 ds1;split at oY<;>cases oY;rename_i hd1;subst hd1;have Qw:oi.flatten.length=oi.length:=by rw[lG oi q7,Nat.mul_one]);refine⟨⟨eg,elem',fz',by rw[W8];exact q1,q2,by rw[W8];simpa using q3,by rw[W8,Qw];exact q5,by rw[W8];exact q8, ?_, ?_,fun _ _ _ h=>(by cases h),fun i p k' a c=>?_⟩, ?_,fun t ht=>?_⟩;rw[W8];rw[BS]at El;exact El;rw[W8];exact hbl;rw[W8]at c;have:=(qF a).1;exact⟨val i,q9 _ this,fun _=>q10 i p k' a c,fun _ _ h=>by cases h⟩;exact hhead _ 1 (by simp only[A',Qw]) pR;rw[BS];rcases ht.2 with h|⟨_,h⟩;rw[h];simp[Sk.pl];exact List.mem_cons_of_mem _ h);(refine⟨jW (jW ι β ⟨(ι β).b,(ι β).cap,(ι β).ks.set i .leaf⟩) nx k.pl, ?_⟩;have hgn:((H.put β (.jc false (d::ds) es (some (i,nx,oi.length)))).put nx rk).get nx=some rk:=by simp[p!]);obtain⟨m1,m2,m3⟩:=key _ (jW (jW ι β ⟨(ι β).b,(ι β).cap,(ι β).ks.set i .leaf⟩) nx k.pl) z? hgn;have pb:jW (jW ι β ⟨(ι β).b,(ι β).cap,(ι β).ks.set i .leaf⟩) nx k.pl β=⟨(ι β).b,(ι β).cap,(ι β).ks.set i .leaf⟩:=by rw[pz _ _ jx];simp
  have gg:=KZ hi jx (y:= .jc false (d::ds) es (some (i,nx,oi.length))) (z:=rk) (p:=⟨(ι β).b,(ι β).cap,(ι β).ks.set i .leaf⟩) (q:=k.pl) hb (by simp[xN,A',Pl.kF]) (fun c hc=>by rw[oq]at hc;cases hc)
   (fun t ht=> .inl ⟨rfl,ht.2.imp id fun h=>⟨rfl,tw h.2⟩⟩) (fun t ht=> .inl ⟨rfl,.inr ⟨rfl,(nH t (m3 t ht)).1⟩⟩)
   (fun t ht hz=>by
    have hz' :=m3 t hz
    rcases ht.2 with h|⟨_,h⟩
    ·exact Eh (h ▸ (nH t hz').1)
    exact(nH t hz').2 h)
   (fun mI=>by
    refine⟨vs,elem,fz,by rw[pb];exact h1,h2,by rw[pb];exact h3,by rw[pb];exact h4,by rw[pb];simpa using h5,by rw[pb];exact d!.2 ⟨fun h=>Eh (tw h),XR T4⟩,fun x hx=>h7 x (by rw[pb]at hx;exact tw hx),fun j γ' xc hf=>(by cases hf;exact db),fun i' p k' a c=>?_⟩
    rw[pb]at c
    by_cases e:i=i'
    ·subst e
     rw[g_ o?]at c
     cases c
     exact⟨v,k1,fun h=>absurd rfl (h _ _ _ rfl),fun γ' xc hf=>by cases hf;exact⟨rfl,m2⟩⟩
    rw[K' e]at c
    obtain⟨v',g1,g2,_⟩:=h9 i' p k' a c
    exact⟨v',g1,fun _=>g2 fun _ _ _ h=>(by cases h),fun γ' xc hf=>by cases hf;exact absurd rfl e⟩)
   (fun _=>m1)
  refine⟨gg.1,gg.2,fun δ b hδ=>?_⟩;rw[p!]at hδ;split at hδ;omega;rw[p!]at hδ;split at hδ;rename_i e;have:=xV β _ hb;omega;have:=xV δ b hδ;omega
 split at h<;>cases h;exact⟨ι,hi,W! _ _ _ _,xV⟩;cases h
theorem KX: ∀(l:List Nat){H:qp}{ι:yp}{nx β:Nat},zd w H ι Im->(∀ β b,H.get β=some b->β<nx)->
  ∃ι',zd w (du H nx β l).1 ι' Im/\wU w H ι Im w (du H nx β l).1 ι' Im/\ ∀δ b,(du H nx β l).1.get δ=some b->δ<(du H nx β l).2
 |[],H,ι,nx,β,hi,xV=>⟨ι,hi,W! _ _ _ _,xV⟩
 |i::r,H,ι,nx,β,hi,xV=>by unfold du;split;rename_i H' fg γ h;obtain⟨ι1,a1,a2,a3⟩:=F1 hi xV h;obtain⟨ι2,b1,b2,b3⟩:=KX r (β:=γ) a1 a3;exact⟨ι2,b1,a2.trans b2,b3⟩;exact⟨ι,hi,W! _ _ _ _,xV⟩
theorem oa{ks:List Sk}{i x:Nat}{k:Sk}(h:x∈(ks.set i k).flatMap j!):x∈ks.flatMap j!\/x∈k.blocks:=by rw[e!]at h;obtain⟨k',hk,hx⟩:=h;rcases l! hk with h|h;exact .inl (e!.2 ⟨k',h,hx⟩);subst h;exact .inr hx
theorem YF: ∀{ks:List Sk}{i:Nat}{k:Sk},(ks.flatMap j!).Nodup->k.blocks.Nodup->(∀ x∈k.blocks,x∉ks.flatMap j!)->((ks.set i k).flatMap j!).Nodup
 |[],i,k,h,_,_=>z?
 |a::r,0,k,h,hk,hd=>by rw[S?,x!]at h;rw[S',S?,x!];exact⟨hk,h.2.1,fun x hx y hy e=>hd x hx (by rw[S?,e];exact b_ _ hy)⟩
 |a::r,i+1,k,h,hk,hd=>by rw[S?,x!]at h;rw[C',S?,x!];refine⟨h.1,YF h.2.1 hk fun x hx hy=>hd x hx (by rw[S?];exact b_ _ hy),fun x hx y hy e=>?_⟩;subst e;rcases oa hy with h2|h2;exact h.2.2 x hx x h2 rfl;exact hd x h2 (by rw[S?];exact List.mem_append_left _ hx)
theorem Mb{es:List (List PV)}(h:cd es=true){e:List PV}(he:e∈es){p:PV}(hp:p∈e):p.WI=true:=by unfold cd at h;rw[Z!]at h;have:=h e he;rw[Z!]at this;exact this p hp
theorem TG(hi:zd w H ι Im){γ:Nat}{b:qD}(hg:H.get γ=some b){d:Nat}{ds:List Nat}{xc:Nat}{p:PV}(hp:X3 d ds xc b=some p){v:Value}(hv:RA w H ι Im (.row γ xc 0 xc) v):
  ∃k,oW w Im (d::ds) p v k/\k.blocks.Nodup/\(∀ x∈k.blocks,b.yb (ι γ) x)/\(∃ a,b.sh=some a):=by
 cases hv with
  |row _ _ _ _ _ b' ho jo hk jy h=>
   rw[hg]at jo;cases jo;unfold X3 at hp;split at hp;{rename_i qt sz es;split at hp;rotate_left;cases hp;split at hp<;>cases hp;rename_i hc;obtain⟨rfl,mq,hsc⟩:=hc;obtain⟨_,h2⟩:=h _ _ _ rfl rfl;cases qt with|true=>simp only[if_true]at h2;subst h2;have de:es=[]:=hi.rk γ _ hg;subst de;exact⟨.leaf,.nil d [],by simp[Sk.blocks],by simp[Sk.blocks],_,rfl⟩|false=>(have mq:sz=d:=by simpa using mq);(subst mq;simp only[wA,if_false]at h2;obtain⟨⟨ab,ao,Dw⟩,rfl,oL,eQ,Qi⟩:=h2;simp only at oL eQ Qi;subst oL eQ;obtain⟨vs,elem,fz,g1,g2,g3,g4,g5,g6,g7,g8⟩:=hi.row hg;have Qw:=lG es g6;have hle:es.length*sz<=vs.size:=by rw[g3];exact mulR _ g5);refine⟨.node (ι γ).b (ι γ).cap (List.replicate es.flatten.length .leaf), ?_, ?_, ?_,_,rfl⟩;refine .sl sz [] es (ι γ).b ao (ι γ).cap _ vs elem fz g1 g2 g3 g4 g5 (fun hc=>by rw[Qi hc];simp) g6 z? (fun i=>(vs[i]?).getD undef) (fun i xQ=>?_) (fun i p k a c=>?_);have:i<vs.size:=o?;simp[this];(obtain⟨e,e1,e2⟩:=Jd g4 es g6 i p a;obtain⟨v0,k1,k2⟩:=g8 _ e _ p e1 e2;rw[show i / sz*sz+i % sz=i by rw[Nat.mul_comm];exact Nat.div_add_mod i sz]at k1;have hk:k= .leaf:=by have:=z7 c;exact(List.mem_replicate.1 this).2);subst hk;simp only[k1,Option.getD_some];exact .WI p v0 (Mb hsc (z7 e1) (z7 e2)) k2;(have:(List.replicate es.flatten.length Sk.leaf).flatMap Sk.blocks=[]:=by rw[List.flatMap_eq_nil_iff];intro x hx;rw[(List.mem_replicate.1 hx).2];simp[Sk.blocks]);simp only[Sk.blocks,this];simp;(intro x hx;have:(List.replicate es.flatten.length Sk.leaf).flatMap Sk.blocks=[]:=by rw[List.flatMap_eq_nil_iff];intro x hx;rw[(List.mem_replicate.1 hx).2];simp[Sk.blocks]);simp only[Sk.blocks,this,List.mem_singleton]at hx;exact⟨rfl,.inl hx⟩}
   ·rename_i qt Sa es;split at hp;cases hp
    rename_i d1 ds1;split at hp<;>cases hp;rename_i hc;obtain⟨rfl,rfl,rfl⟩:=hc;obtain⟨_,h2⟩:=h _ _ _ rfl rfl;cases qt with
     |true=>simp only[if_true]at h2;subst h2;have de:es=[]:=(hi.rk γ _ hg).1;subst de;exact⟨.leaf,.nil 1 _,by simp[Sk.blocks],by simp[Sk.blocks],_,rfl⟩
     |false=>
      simp only[wA,if_false]at h2;obtain⟨⟨ab,ao,Dw⟩,rfl,oL,eQ,Qi⟩:=h2;simp only at oL eQ Qi;subst oL eQ;obtain⟨vs,elem,fz,g1,g2,g3,g4,g5,g6,g7,g8,g9⟩:=hi.jc hg;have hlen:(es.map fun p=>[p]).length=es.length:=z?;refine⟨.node (ι γ).b (ι γ).cap (ι γ).ks, ?_, ?_, ?_,_,rfl⟩
      ·have:=oW.sl (w:=w) (Im:=Im) 1 (d1::ds1) (es.map fun p=>[p]) (ι γ).b ao (ι γ).cap (ι γ).ks vs elem fz g1 g2 (by simpa using g3) o? (by simpa using g4) (fun hc=>by have:=Qi hc;omega) (fun e he=>by
        obtain⟨q,_,rfl⟩:=List.mem_map.1 he
        rfl) (by rw[lH];exact g5) (fun i=>(vs[i]?).getD undef) (fun i xQ=>by
        rw[lH]at xQ
        have:i<vs.size:=o?
        simp[this]) (fun i p k a c=>by
        rw[lH]at a
        obtain⟨v0,k1,k2,_⟩:=g9 i p k a c
        simp only[k1,Option.getD_some]
        exact k2 fun _ _ _ h=>by cases h)
       rw[hlen]at this;exact this
      simp only[Sk.blocks];exact g6;intro x hx;simp only[Sk.blocks,List.mem_cons]at hx;exact⟨rfl,hx.imp id fun h=>⟨rfl,h⟩⟩
   cases hp
theorem pack1_ok(hi:zd w H ι Im)(β:Nat): ∃ι',zd w (YK H β) ι' Im/\wU w H ι Im w (YK H β) ι' Im/\ ∀δ b,(YK H β).get δ=some b-> ∃b0,H.get δ=some b0:=by
 have WU: ∃ι',zd w H ι' Im/\wU w H ι Im w H ι' Im/\ ∀δ b,H.get δ=some b-> ∃b0,H.get δ=some b0:=⟨ι,hi,W! _ _ _ _,fun _ b h=>⟨b,h⟩⟩;unfold YK;split
 ·rename_i d ds es i γ xc hb;split
  ·rename_i b hg;split
   ·(rename_i p hp;obtain⟨vs,elem,fz,h1,h2,h3,h4,h5,h6,h7,h8,h9⟩:=hi.jc hb;obtain⟨Eh,T4⟩:=d!.1 h6;have db:=h8 _ _ _ rfl;obtain⟨v,k1,_,k3⟩:=h9 i es[i] (ι β).ks[i] (by simp[db]) z?;obtain⟨k4,k5⟩:=k3 _ _ rfl;obtain⟨k,m1,m2,m3,⟨sh,m4⟩⟩:=TG hi hg hp k5;have jx:β≠γ:=by intro e;subst e;rw[hb]at hg;cases hg;simp[X3]at hp);have hdisj: ∀x∈k.blocks,¬ (Y_ false (d::ds) es (some (i,γ,xc))).yb (ι β) x:=fun x hx hf=>jx (hi.inj β γ _ _ x hb hg hf (m3 x hx));have pb:jW (jW ι β ⟨(ι β).b,(ι β).cap,(ι β).ks.set i k⟩) γ (ι γ) β=⟨(ι β).b,(ι β).cap,(ι β).ks.set i k⟩:=by rw[pz _ _ jx];simp
    refine⟨jW (jW ι β ⟨(ι β).b,(ι β).cap,(ι β).ks.set i k⟩) γ (ι γ), ?_⟩;have gg:=KZ hi jx (y:= .jc false (d::ds) (es.set i p) none) (z:= .xt) (p:=⟨(ι β).b,(ι β).cap,(ι β).ks.set i k⟩) (q:=ι γ) hb (by simp[xN,A',Pl.kF]) (fun c hc=>by
      rw[hg]at hc
      cases hc
      unfold xN
      rw[m4]
      rfl)
     (fun t ht=>by
      rcases ht.2 with h|⟨_,h⟩
      ·exact .inl ⟨rfl,.inl h⟩
      rcases oa h with h|h
      ·exact .inl ⟨rfl,.inr ⟨rfl,h⟩⟩
      exact .inr ⟨b,hg,m3 t h⟩) (fun t ht=>absurd ht.1 (by simp[j_])) (fun t _ ht=>absurd ht.1 (by simp[j_]))
     (fun mI=>by
      refine⟨vs,elem,fz,by rw[pb];exact h1,h2,by rw[pb];exact h3,by rw[pb];simpa using h4,by rw[pb];simpa using h5, ?_,fun x hx=>?_,fun _ _ _ h=>(by cases h),fun i' p' k' a c=>?_⟩
      ·rw[pb]
       refine d!.2 ⟨fun h=>?_,YF T4 m2 fun x hx h=>hdisj x hx ⟨rfl,.inr ⟨rfl,h⟩⟩⟩
       rcases oa h with h|h
       ·exact Eh h
       exact hdisj _ h ⟨rfl,.inl rfl⟩
      ·rw[pb]at hx
       rcases oa hx with h|h
       ·exact h7 x h
       exact(hi.rk γ b hg).sY (m3 x h)
      rw[pb]at c
      by_cases e:i=i'
      ·subst e
       rw[g_ o?]at a c
       cases a
       cases c
       exact⟨v,k1,fun _=>m1,fun _ _ h=>by cases h⟩
      rw[K' e]at a c
      obtain⟨v',g1,g2,_⟩:=h9 i' p' k' a c
      exact⟨v',g1,fun _=>g2 fun j γ' ver' hf=>by cases hf;exact fun e' =>e e'.symm,fun _ _ h=>by cases h⟩)
     (fun _=>trivial)
    refine⟨gg.1,gg.2,fun δ b' hδ=>?_⟩;rw[p!]at hδ;split at hδ;rename_i e;subst e;exact⟨_,hg⟩;rw[p!]at hδ;split at hδ;rename_i e;subst e;exact⟨_,hb⟩;exact⟨_,hδ⟩
   exact WU
  exact WU
 exact WU
theorem NA: ∀(n:Nat){H:qp}{ι:yp},zd w H ι Im-> ∀β,∃ ι',zd w (Wy n H β) ι' Im/\wU w H ι Im w (Wy n H β) ι' Im/\ ∀δ b,(Wy n H β).get δ=some b-> ∃b0,H.get δ=some b0
 |0,H,ι,hi,β=>⟨ι,hi,W! _ _ _ _,fun _ b h=>⟨b,h⟩⟩
 |n+1,H,ι,hi,β=>by
  unfold Wy;split
  ·rename_i x hb;obtain⟨ι1,a1,a2,a3⟩:=NA n hi x.2.1;obtain⟨ι2,b1,b2,b3⟩:=pack1_ok a1 β;exact⟨ι2,b1,a2.trans b2,fun δ b h=>by
    obtain⟨b0,h0⟩:=b3 δ b h
    exact a3 δ b0 h0⟩
  exact⟨ι,hi,W! _ _ _ _,fun _ b h=>⟨b,h⟩⟩
theorem cut_ok(hi:zd w H ι Im){nx:Nat}(xV: ∀β b,H.get β=some b->β<nx){β n l:Nat}{b y:qD}(hb:H.get β=some b)(hc:KM n b=some (l,y)):
  ∃ι',zd w ((H.put β .xt).put nx y) ι' Im/\wU w H ι Im w ((H.put β .xt).put nx y) ι' Im/\(∀ v,RA w H ι Im (.row β l 0 n) v->RA w ((H.put β .xt).put nx y) ι' Im (.row nx n 0 n) v)/\
   ∀δ b,((H.put β .xt).put nx y).get δ=some b->δ<nx+1:=by
 have jx:β≠nx:=fun e=>by have:=xV β _ hb;omega
 have oq:H.get nx=none:=by cases hh:H.get nx with|none=>rfl|some b=>have:=xV nx b hh;omega
 have hgn:((H.put β .xt).put nx y).get nx=some y:=by simp[qp.zg]
 have xQ: ∀δ b,((H.put β .xt).put nx y).get δ=some b->δ<nx+1:=fun δ b hδ=>by rw[qp.zg]at hδ;split at hδ;omega;rw[qp.zg]at hδ;split at hδ;rename_i e;have:=xV β _ hb;omega;have:=xV δ b hδ;omega
 have head: ∀(ι' :yp)(sz:Nat),(ι' nx).b=(ι β).b->(ι' nx).cap=(ι β).cap->y.sh=some (false,sz,n)->b.sh=some (false,sz,l)-> ∀v,RA w H ι Im (.row β l 0 n) v->RA w ((H.put β .xt).put nx y) ι' Im (.row nx n 0 n) v:=by intro ι' sz e1 e2 hy hbs v hv;cases hv with|row _ _ _ _ _ b' ho jo hk jy h=>rw[hb]at jo;cases jo;obtain⟨_,h2⟩:=h _ _ _ hbs rfl;refine .row _ _ _ _ _ _ ho hgn (fun _=>⟨_,_,_,hy⟩) (fun _ _ _ e=>by rw[hy]at e;cases e;exact jv _) (fun _ _ _ e _=>?_);rw[hy]at e;cases e;refine⟨z?, ?_⟩;simp only[wA,if_false]at h2 |-;rw[e1,e2];exact h2
 unfold KM at hc;split at hc
 ·rename_i sz es;split at hc<;>cases hc;rename_i hle;obtain⟨vs,elem,fz,g1,g2,g3,g4,g5,g6,g7,g8⟩:=hi.row hb;have pn:jW (jW ι β (ι β)) nx (ι β) nx=ι β:=z?;have gg:=KZ hi jx (y:= .xt) (z:= .row false sz (es.take n)) (p:=ι β) (q:=ι β) hb (by simp[xN,qD.sh]) (fun c hc=>by rw[oq]at hc;cases hc)
   (fun t ht=>absurd ht.1 (by simp[qD.used])) (fun t ht=> .inl ⟨rfl,ht.2.imp id fun h=>absurd h.1 (by simp[qD.SG])⟩) (fun t ht _=>absurd ht.1 (by simp[qD.used])) (fun _=>trivial)
   (fun mI=>⟨vs,elem,fz,by rw[pn];exact g1,g2,by rw[pn];exact g3,g4,by rw[pn,List.length_take];omega,fun e he=>g6 e (List.mem_of_mem_take he),fun i e j p a c=>by
     rw[List.getElem?_take]at a
     split at a
     ·exact g7 i e j p a c
     ·(cases a),fun i e j p a c=>by
     rw[List.getElem?_take]at a
     split at a
     ·exact g8 i e j p a c
     (cases a)⟩)
  exact⟨_,gg.1,gg.2,head _ sz (by rw[pn]) (by rw[pn]) (by simp[qD.sh];omega) rfl,xQ⟩
 ·rename_i qt eo es;split at hc<;>cases hc;rename_i hle;cases qt;rotate_left
  ·obtain⟨de,_⟩:es=[]/\(none:Option (Nat×Nat×Nat))=none:=hi.rk β _ hb;subst de;have Gk:n=0:=by simpa using hle
   subst Gk;have gg:=KZ hi jx (y:= .xt) (z:= .jc true eo [] none) (p:=ι β) (q:=⟨0,0,[]⟩) hb (by simp[xN,qD.sh]) (fun c hc=>by rw[oq]at hc;cases hc)
    (fun t ht=>absurd ht.1 (by simp[qD.used])) (fun t ht=>absurd ht.1 (by simp[qD.used])) (fun t ht _=>absurd ht.1 (by simp[qD.used])) (fun _=>trivial) (fun _=>⟨rfl,rfl⟩)
   refine⟨_,gg.1,gg.2,fun v hv=>?_,xQ⟩;cases hv with|row _ _ _ _ _ b' ho jo hk jy h=>rw[hb]at jo;cases jo;obtain⟨_,h2⟩:=h _ _ _ rfl rfl;simp only[if_true]at h2;subst h2;exact .row _ _ _ _ _ (.jc true eo [] none) rfl hgn (fun _=>⟨_,_,_,rfl⟩) (fun _ _ _ e=>by cases e;exact jv _) (fun _ _ _ e _=>by cases e;exact⟨z?,rfl⟩)
  (obtain⟨vs,elem,fz,h1,h2,h3,h4,h5,h6,h7,h8,h9⟩:=hi.jc hb;obtain⟨Eh,T4⟩:=List.nodup_cons.1 h6;have pn:jW (jW ι β (ι β)) nx ⟨(ι β).b,(ι β).cap,(ι β).ks.take n⟩ nx=⟨(ι β).b,(ι β).cap,(ι β).ks.take n⟩:=z?;have Z6:((ι β).ks.take n).flatMap Sk.blocks ⊆ (ι β).ks.flatMap Sk.blocks:=fun x hx=>by obtain⟨k,hk,hx⟩:=List.mem_flatMap.1 hx;exact List.mem_flatMap.2 ⟨k,List.mem_of_mem_take hk,hx⟩);have Ei:(((ι β).ks.take n).flatMap Sk.blocks).Nodup:=by (have:(ι β).ks.flatMap Sk.blocks=((ι β).ks.take n).flatMap Sk.blocks++((ι β).ks.drop n).flatMap Sk.blocks:=by rw[<- List.flatMap_append,List.take_append_drop]);rw[this,List.nodup_append]at T4;exact T4.1
  have gg:=KZ hi jx (y:= .xt) (z:= .jc false eo (es.take n) none) (p:=ι β) (q:=⟨(ι β).b,(ι β).cap,(ι β).ks.take n⟩) hb (by simp[xN,qD.sh]) (fun c hc=>by rw[oq]at hc;cases hc)
   (fun t ht=>absurd ht.1 (by simp[qD.used])) (fun t ht=> .inl ⟨rfl,ht.2.imp id fun h=>⟨rfl,Z6 h.2⟩⟩) (fun t ht _=>absurd ht.1 (by simp[qD.used])) (fun _=>trivial)
   (fun mI=>by
    refine⟨vs,elem,fz,by rw[pn];exact h1,h2,by rw[pn];exact h3,by rw[pn,List.length_take];simp only;omega,by rw[pn,List.length_take,List.length_take,h5],by rw[pn];exact List.nodup_cons.2 ⟨fun h=>Eh (Z6 h),Ei⟩,fun x hx=>h7 x (by rw[pn]at hx;exact Z6 hx),fun _ _ _ h=>(by cases h),fun i p k a c=>?_⟩
    rw[pn]at c
    simp only[List.getElem?_take]at a c
    split at a
    ·rename_i xQ
     rw[if_pos xQ]at c
     obtain⟨v,j1,j2,_⟩:=h9 i p k a c
     exact⟨v,j1,j2,fun _ _ h=>by cases h⟩
    cases a)
  exact⟨_,gg.1,gg.2,head _ 1 (by rw[pn]) (by rw[pn]) (by simp[qD.sh];omega) rfl,xQ⟩
 cases hc
theorem nilv{sz:Nat}{v:Value}(h:RA w H ι Im (.pv (.sl true sz [])) v):v= .slice none 0 0:=by cases h with|pv _ _ h=>cases h;rfl
theorem WM{a:Act}{s:St}{nt:Nat}(h:Inv w a s ι Im nt){H1:qp}{ι1:yp}{nx1:Nat}(hi1:zd w H1 ι1 Im)(e1:wU w s.heap ι Im w H1 ι1 Im)(xV: ∀β b,H1.get β=some b->β<nx1)
  (hbox: ∀β c,s.heap.get β=some (.box c)->H1.get β=some (.box c)) {t:Nat} {x:AV} (hx: ∀v,RA w s.heap ι Im (bx s t) v->RA w H1 ι1 Im x v) (Qw:x.kP=true):
  ∃ι',Inv w a (Qn { s with heap:=H1,nx:=nx1 } t x) ι' Im nt/\wU w s.heap ι Im w (Qn { s with heap:=H1,nx:=nx1 } t x).heap ι' Im:=by
 have h1:Inv w a { s with heap:=H1,nx:=nx1 } ι1 Im nt:=⟨hi1,fun t=>(h.env t).mono h.heap e1,xV,h.size,h.defers⟩;unfold Qn;split;rename_i ht;refine⟨ι1,⟨hi1,fun t' =>?_,xV,h.size,h.defers⟩,e1⟩;show RA w H1 ι1 Im (V! ((t,x)::s.env) t') _;simp only[V!];split;rename_i e;subst e;refine hx _ ?_;unfold bx;rw[if_pos ht];exact h.env t;exact(h.env t').mono h.heap e1;rename_i ht;split;rotate_left;exact⟨ι1,h1,e1⟩;rename_i β o hp;split;rotate_left;exact⟨ι1,h1,e1⟩;rename_i c hb;split;rotate_left;exact⟨ι1,h1,e1⟩;rename_i xQ;have Sx:s.env.get (t % 1000)= .ptr β o:=hp;have jo:H1.get β=some (.box c):=hb;have Xk:s.heap.get β=some (.box c):=by have he:=h.env (t % 1000);rw[Sx]at he;generalize a.tmps.getD (t % 1000) undef=u at he;cases he with|ptr _ _ b hbb hk=>cases b<;>simp only[qD.Lu,wA]at hk;rename_i c0;have:=hbox β c0 hbb;rw[this]at jo;cases jo;exact hbb
 have hsv: ∀v0,c[o+(t / 1000-1)]? =some v0->bx s t=v0:=fun v0 H4=>by unfold bx;rw[if_neg ht,Sx];simp only;rw[Xk];simp only;rw[H4]
 obtain⟨h2,e2⟩:=zd.put (Xn:=noO jo rfl) (w' :=w) hi1 β (.box (c.set (o+(t / 1000-1)) x)) (ι1 β) (fun y hy=>by rw[jo]at hy;cases hy;rfl) ⟨jv _,rfl,rfl⟩ (fun _ _ _=>rfl)
  (fun _=> .inr ⟨_,jo,rfl,rfl⟩) (fun he=>by
   obtain⟨vs,elem,fz,q1,q2,q3,q4,q5⟩:=hi1.box jo
   refine⟨vs,elem,fz,by simpa using q1,q2,by simpa using q3,fun y hy=>?_,fun i y v hy hv=>?_⟩
   ·rcases l! hy with hy|rfl
    ·exact q4 y hy
    exact Qw
   rw[N!]at hy
   split at hy
   ·rename_i e
    subst e
    cases hy
    obtain⟨vs0,elem0,fz0,p1,p2,p3,p4,p5⟩:=h.heap.box Xk
    have hcomp:=e1.comp β _ Xk
    obtain⟨b',g,hc⟩:=hcomp
    rw[jo]at g
    cases g
    have sZ:ι β=ι1 β:=hc
    rw[<- sZ,p1]at q1
    cases q1
    refine(hx v ?_).mono hi1 he
    rw[hsv c[o+(t / 1000-1)] (by simp[xQ])]
    exact p5 _ _ v (by simp[xQ]) hv
   exact(q5 i y v hy hv).mono hi1 he)
 refine⟨_,⟨h2,fun t' =>((h.env t').mono h.heap e1).mono hi1 e2,fun δ b hδ=>?_,h.size,h.defers⟩,e1.trans e2⟩;have hδ' :(q_ H1 β (.box (c.set (o+(t / 1000-1)) x))).get δ=some b:=hδ;rw[p!]at hδ';split at hδ';rename_i e;subst e;exact xV _ _ jo;exact xV δ b hδ'
theorem prom_ok(hi:zd w H ι Im){nx:Nat}(xV: ∀β b,H.get β=some b->β<nx)(eo:List Nat):
  zd w (H.put nx (Qj eo)) (jW ι nx ⟨0,0,[]⟩) Im/\wU w H ι Im w (H.put nx (Qj eo)) (jW ι nx ⟨0,0,[]⟩) Im:=by
 have oq:H.get nx=none:=by cases hh:H.get nx with|none=>rfl|some b=>have:=xV nx b hh;omega
 cases eo with|nil=>exact zd.TQ hi nx (.row true 0 []) ⟨0,0,[]⟩ (fun x hx=>by rw[oq]at hx;cases hx) ⟨jv _,rfl,rfl⟩ (fun _ _ _=>rfl) (fun z hz=>absurd hz.1 (by simp[j_])) (fun _=>rfl)|cons d ds=>exact zd.TQ hi nx (.jc true (d::ds) [] none) ⟨0,0,[]⟩ (fun x hx=>by rw[oq]at hx;cases hx) ⟨jv _,rfl,rfl⟩ (fun _ _ _=>rfl) (fun z hz=>absurd hz.1 (by simp[j_])) (fun _=>⟨rfl,rfl⟩)
theorem cmd1_ok{a:Act}{s:St}{nt:Nat}(h:Inv w a s ι Im nt)(c:Da): ∃ι' jT,Inv w a (Vv c s) ι' jT nt/\wU w s.heap ι Im w (Vv c s).heap ι' jT:=by have WU: ∃ι' jT,Inv w a s ι' jT nt/\wU w s.heap ι Im w s.heap ι' jT:=⟨ι,Im,h,W! _ _ _ _⟩;unfold Vv;split;rename_i t is;split;rename_i β xc n l hs hl;obtain⟨ι1,a1,a2,a3⟩:=KX l (β:=β) h.heap h.nx;exact⟨ι1,Im,⟨a1,fun t=>(h.env t).mono h.heap a2,a3,h.size,h.defers⟩,a2⟩;exact WU;rename_i t;split;rename_i β xc off n hs;obtain⟨ι1,a1,a2,a3⟩:=NA 4 h.heap β;exact⟨ι1,Im,⟨a1,fun t=>(h.env t).mono h.heap a2,fun δ b hδ=>by obtain⟨b0,h0⟩:=a3 δ b hδ;exact h.nx δ b0 h0,h.size,h.defers⟩,a2⟩;exact WU;{rename_i t;split;rotate_left;exact WU;rename_i β xc n hs;split;rotate_left;exact WU;rename_i b hb;split;rotate_left;exact WU;rename_i l y hc;split;rotate_left;exact WU;(rename_i jy;subst jy;obtain⟨ι1,a1,a2,a3,a4⟩:=cut_ok h.heap h.nx hb hc;refine q1k (fun ι2 hh=>⟨Im,hh⟩) ?_;refine WM h a1 a2 a4 (fun γ c hγ=>?_) (fun v hv=>a3 v (by rw[hs]at hv;exact hv)) rfl;have e1:γ≠β:=by intro e;subst e;rw[hb]at hγ;cases hγ;simp[KM]at hc);(have e2:γ≠s.nx:=fun e=>by have:=h.nx γ _ hγ;omega);simp[p!,e1,e2,hγ]};{rename_i t eo;split;rotate_left;exact WU;rename_i sz hs;obtain⟨a1,a2⟩:=prom_ok h.heap h.nx eo;refine q1k (fun ι2 hh=>⟨Im,hh⟩) ?_;refine WM h a1 a2 (fun δ b hδ=>?_) (fun γ c hγ=>?_) (fun v hv=>?_) rfl;rw[p!]at hδ;split at hδ;omega;have:=h.nx δ b hδ;omega;(have e2:γ≠s.nx:=fun e=>by have:=h.nx γ _ hγ;omega);simp[p!,e2,hγ];rw[hs]at hv;rw[nilv hv];cases eo with|nil=>exact .row _ _ _ _ _ (.row true 0 []) rfl (by simp[p!,Qj]) (fun _=>⟨_,_,_,rfl⟩) (fun _ _ _ e=>by cases e;exact jv _) (fun _ _ _ e _=>by cases e;exact⟨z?,rfl⟩)|cons d ds=>exact .row _ _ _ _ _ (.jc true (d::ds) [] none) rfl (by simp[p!,Qj]) (fun _=>⟨_,_,_,rfl⟩) (fun _ _ _ e=>by cases e;exact jv _) (fun _ _ _ e _=>by cases e;exact⟨z?,rfl⟩)};rename_i t;obtain⟨iX,h1,e1⟩:=tz (K2 s (bx s t)) h;exact⟨ι,iX,h1,e1⟩
theorem JZ{a:Act}{nt:Nat}: ∀(l:List Da){s:St}{ι:yp}{Im:Nat->Prop},Inv w a s ι Im nt-> ∃ι' jT,Inv w a (pL l s) ι' jT nt/\wU w s.heap ι Im w (pL l s).heap ι' jT
 |[],s,ι,Im,h=>⟨ι,Im,h,W! _ _ _ _⟩
 |c::r,s,ι,Im,h=>by obtain⟨ι1,iX,a1,a2⟩:=cmd1_ok h c;obtain⟨ι2,Gd,b1,b2⟩:=JZ r a1;exact⟨ι2,Gd,b1,a2.trans b2⟩
end
theorem Ft{P:Program}{f:FuncId}{fn:Func}{s:ChangeSpec}{c:OpenClaim}(h1:(c.inPlace==P.inPlace f)=true)(h2:(c.unfollowed==P.unfollowed f)=true)(h3:(c.recurses==P.recurses f)=true)(h4:(c.named==P.varsNamed f)=true)
  (h:(c.wf (OpenSpec.ofChange s)&&laidOutB P&&mapsRowed P&&fn.params.all (P.readableRec ·)&&namedTie P c.named s.vars&&(c.stops==[])&&(P.stops==[])&&(c.knobs==[])&&(P.stopKnobs==[])&&(c.maps==(fn.params.toList++s.plain.varTypes P).any (P.mapsRec ·))&&(c.ifaces==(fn.params.toList++s.plain.varTypes P).any (P.ifacesRec ·))&&(c.mapsOut==P.mapsAmong fn.resultTypes.toList)&&(c.loops==(fn.params.toList++s.plain.varTypes P).any (P.loopsFrom ·))&&(c.wideKeys==(fn.params.toList++s.plain.varTypes P++fn.resultTypes.toList).any (P.wideKeysFrom ·))&&s.vars.all (P.varReadable ·)&&fn.resultTypes.all (fun t=>P.readableRec t&&decide (t<P.types.size))&&(c.ifacesOut==fn.resultTypes.toList.any (P.ifacesRec ·))&&(c.loopsOut==fn.resultTypes.toList.any (P.loopsFrom ·))&&(c.plainKeys==P.plainKeys)&&c.shortTexts.isNone&&P.stopsHeard&&P.mayEnter&&(c.lifted==P.liftsFinal)&&(P.make==some c.make)&&(c.kinds==(if c.domain.isEmpty then[]else fn.params.toList.map fun t=>match P.underlying t with|some (.int k)=>some k|_=>none))&&(c.pinned==c.pinnedBy)&&(c.veiled==(fn.params.toList++s.plain.varTypes P++fn.resultTypes.toList).any (P.veiledRec ·))&&c.veiledFits P fn.params.toList (fn.params.toList++s.plain.varTypes P++fn.resultTypes.toList))=true):joinedFacts P f fn s c=true:=by unfold joinedFacts;simp only[h1,h2,h3,h4,Bool.and_true];exact h
section
variable [xd] {P:Program} {w:World} {H:qp} {ι:yp} {Im:Nat->Prop}
theorem ta(g:Nat->Nat): ∀(l:List AV)(i:Nat),(AV.c9.lX g l)[i]? =(l[i]?).map (AV.c9 g)
 |[],i=>by simp[AV.c9.lX]
 |x::r,i=>by cases i with|zero=>simp[AV.c9.lX]|succ i=>simp[AV.c9.lX,ta g r i]
theorem cY(g:Nat->Nat): ∀(l:List AV),(AV.c9.lX g l).length=l.length
 |[]=>rfl
 |x::r=>by simp[AV.c9.lX,cY g r]
theorem WD(g:Nat->Nat){x:AV}(h:x.kP=true):(x.c9 g).kP=true:=by cases x<;>simp[AV.kP]at h<;>first|rfl|exact h
theorem vU{β:Nat}: ∀{l:List AV}{i:Nat}{x:AV},l[i]? =some x->β∈x.refs->β∈AV.refs.pH l
 |[],i,x,h,_=>by simp at h
 |y::r,i,x,h,hβ=>by simp only[AV.refs.pH,m?];cases i with|zero=>simp at h;subst h;exact .inl hβ|succ i=>exact .inr (vU (by simpa using h) hβ)
theorem Zf(g:Nat->Nat)(b:qD):(b.c9 g).sh=b.sh:=by cases b<;>simp[qD.c9,A']
theorem J6{x y:qD}{p q:Pl}(g:Nat->Nat)(h:xN x y p q):xN x (y.c9 g) p q:=by unfold xN at*;rw[Zf];cases hx:x.sh with|some a=>(cases hy:y.sh with|some b=>rw[hx,hy]at h;exact h|none=>rw[hx,hy]at h;have h' :y= .xt:=h;subst h';rfl)|none=>cases hy:y.sh with|some b=>rw[hx,hy]at h;exact h|none=>rw[hx,hy]at h;cases x<;>cases y<;>first|exact h|exact(h:False).elim
theorem Ze{H' :qp}{ι' :yp}(g:Nat->Nat){x:AV}{v:Value}(hx:RA w H ι Im x v)
  (hg: ∀β∈x.refs,∀ b,H.get β=some b->H'.get (g β)=some (b.c9 g)/\(ι' (g β))=ι β):RA w H' ι' Im (x.c9 g) v:=by induction hx with|undef v=>exact .undef v|pv p v h=>exact .pv p v h|ptr β o c hb hk=>(obtain⟨h1,h2⟩:=hg β (by simp[O?]) _ hb;rw[<- h2];exact .ptr (g β) o _ h1 (by cases c<;>first|rfl|cases hk))|uJ β xc i o b1 o1 b hb jy h=>obtain⟨h1,h2⟩:=hg β (by simp[O?]) _ hb;refine .uJ (g β) xc i o b1 o1 _ h1 (fun qt sz es e=>?_) (fun qt sz es e=>?_);rw[Zf]at e;exact jy _ _ _ e;rw[Zf]at e;rw[h2];exact h _ _ _ e|row β xc off n v b ho hb hk jy h=>obtain⟨h1,h2⟩:=hg β (by simp[O?]) _ hb;refine .row (g β) xc off n v _ ho h1 (fun h0=>?_) (fun qt sz es e=>?_) (fun qt sz es e=>?_);rw[Zf];exact hk (fun e=>h0 (by rw[e];rfl));rw[Zf]at e;exact jy _ _ _ e;rw[Zf]at e;rw[h2];exact h _ _ _ e|tE c o b off vs Qx hc hf h=>exact .tE c o b off vs Qx hc hf h|iW a=>exact .iW a|map β es zW hb=>obtain⟨h1,h2⟩:=hg β (by simp[O?]) _ hb;rw[<- h2];exact .map (g β) es zW h1|QX f a b va vb VB Su _ _ iha ihb=>refine .QX f _ _ va vb (by rw[cY,VB]) (by rw[cY,Su]) (fun i x v h1 h2=>?_) (fun i x v h1 h2=>?_);rw[ta]at h1;simp only[yS]at h1;obtain⟨y,hy,rfl⟩:=h1;exact iha i y v hy h2 fun β hβ=>hg β (by simp only[O?,m?];exact .inl (vU hy hβ));rw[ta]at h1;simp only[yS]at h1;obtain⟨y,hy,rfl⟩:=h1;exact ihb i y v hy h2 fun β hβ=>hg β (by simp only[O?,m?];exact .inr (vU hy hβ))|agg c vs hl hf _ ih=>refine .agg _ vs (by rw[cY,hl]) (fun x hx=>?_) (fun i x v h1 h2=>?_);obtain⟨i,hi⟩:=kh hx;rw[ta]at hi;simp only[yS]at hi;obtain⟨y,hy,rfl⟩:=hi;exact WD g (hf y (z7 hy));rw[ta]at h1;simp only[yS]at h1;obtain⟨y,hy,rfl⟩:=h1;exact ih i y v hy h2 fun β hβ=>hg β (by simp only[O?];exact vU hy hβ)|xR c vs hl _ ih=>refine .xR _ vs (by rw[cY,hl]) (fun i x v h1 h2=>?_);rw[ta]at h1;simp only[yS]at h1;obtain⟨y,hy,rfl⟩:=h1;exact ih i y v hy h2 fun β hβ=>hg β (by simp only[O?];exact vU hy hβ)
theorem qD.ren_used(g:Nat->Nat)(b:qD):(b.c9 g).used=b.used:=by cases b<;>rfl
theorem qD.ren_isO(g:Nat->Nat)(b:qD):(b.c9 g).SG=b.SG:=by cases b<;>rfl
theorem qD.nW(g:Nat->Nat)(b:qD)(q:Pl)(x:Nat):(b.c9 g).yb q x=b.yb q x:=by unfold qD.yb;rw[qD.ren_used,qD.ren_isO]
theorem ro.c9{H' :qp}{ι' :yp}(g:Nat->Nat){β β' :Nat}{b:qD}(h:ro w H ι Im β b)(hp:ι' β' =ι β)
  (hg: ∀γ∈b.refs,∀ c,H.get γ=some c->H'.get (g γ)=some (c.c9 g)/\(ι' (g γ))=ι γ):ro w H' ι' Im β' (b.c9 g):=by
 cases b with
  |box c=>obtain⟨vs,elem,fz,q1,q2,q3,q4,q5⟩:=h;refine⟨vs,elem,fz,by rw[hp];exact q1,q2,by rw[cY,q3],fun x hx=>?_,fun i x v a b=>?_⟩;obtain⟨i,hi⟩:=kh hx;rw[ta]at hi;simp only[yS]at hi;obtain⟨y,hy,rfl⟩:=hi;exact WD g (q4 y (z7 hy));rw[ta]at a;simp only[yS]at a;obtain⟨y,hy,rfl⟩:=a;exact Ze g (q5 i y v hy b) fun γ hγ=>hg γ (by simp only[q0t];exact vU hy hγ)
  |row qt sz es=>cases qt with|true=>exact h|false=>obtain⟨vs,elem,fz,q1,q2,q3,q4,q5,q6,q7,q8⟩:=h;exact⟨vs,elem,fz,by rw[hp];exact q1,q2,by rw[hp];exact q3,q4,by rw[hp];exact q5,q6,q7,q8⟩
  |map es zW=>obtain⟨xe,q1,q2,q3⟩:=h;exact⟨xe,by rw[hp];exact q1,q2,q3⟩
  |mz sz es=>
   (obtain⟨vs,elem,fz,q1,q2,q3,q4,q5,q6,q7,q8⟩:=h;have get: ∀(i:Nat) e(j:Nat) x,(es.map (AV.c9.lX g))[i]? =some e->e[j]? =some x-> ∃e0 y,es[i]? =some e0/\e0[j]? =some y/\x=y.c9 g:=by intro i e j x h1 h2;rw[X?,yS]at h1;obtain⟨e0,h1,rfl⟩:=h1;rw[ta,yS]at h2;obtain⟨y,h2,rfl⟩:=h2;exact⟨e0,y,h1,h2,rfl⟩);refine⟨vs,elem,fz,by rw[hp];exact q1,q2,by rw[hp];exact q3,q4,by rw[hp];simpa using q5,fun e he=>?_,fun i e j x a b=>?_,fun i e j x a b=>?_⟩;obtain⟨e0,h0,rfl⟩:=N?.1 he;rw[cY];exact q6 e0 h0;obtain⟨e0,y,h1,h2,rfl⟩:=get i e j x a b;exact WD g (q7 i e0 j y h1 h2)
   obtain⟨e0,y,h1,h2,rfl⟩:=get i e j x a b;obtain⟨v,k1,k2⟩:=q8 i e0 j y h1 h2;exact⟨v,k1,Ze g k2 fun γ hγ=>hg γ (by
    simp only[q0t,e!]
    exact⟨e0,z7 h1,vU h2 hγ⟩)⟩
  |jc qt ds es l7=>cases qt with|true=>obtain⟨q1,q2⟩:=h;exact⟨q1,by rw[q2];rfl⟩|false=>obtain⟨vs,elem,fz,q1,q2,q3,q4,q5,q6,q7,q8,q9⟩:=h;refine⟨vs,elem,fz,by rw[hp];exact q1,q2,by rw[hp];exact q3,by rw[hp];exact q4,by rw[hp];exact q5,by rw[hp];exact q6,by rw[hp];exact q7,fun j γ xc hf=>?_,fun i p k a b=>?_⟩;rw[yS]at hf;obtain⟨⟨j0,γ0,ver0⟩,hf,e⟩:=hf;cases e;exact q8 _ _ _ hf;obtain⟨v,k1,k2,k3⟩:=q9 i p k a (by rw[<- hp];exact b);refine⟨v,k1,fun hj=>k2 fun j γ xc hf=>hj j (g γ) xc (by rw[hf];rfl),fun γ xc hf=>?_⟩;rw[yS]at hf;obtain⟨⟨j0,γ0,ver0⟩,hf,e⟩:=hf;cases e;obtain⟨k4,k5⟩:=k3 _ _ hf;refine⟨k4,Ze g k5 fun γ hγ=>hg γ ?_⟩;simp only[O?,d?]at hγ;subst hγ;simp only[q0t,hf,d?]
  |xt=>trivial
theorem lO: ∀(L:List Nat)(x:Nat),Wm L x=true↔x∈L
 |[],x=>by simp[Wm]
 |β::r,x=>by simp only[Wm,U?];split;rename_i h;subst h;simp;rename_i h;rw[lO r x];constructor;exact .inr;rintro(h2|h2);exact absurd h2.symm h;exact h2
theorem WZ: ∀(l L:List Nat),G2 l L=true↔ ∀x∈l,x∈L
 |[],L=>by simp[G2]
 |x::r,L=>by simp[G2,lO,WZ r L]
theorem X5: ∀(L:List Nat)(x:Nat),x∈L->L[pos L x]? =some x
 |[],x,h=>by cases h
 |β::r,x,h=>by simp only[pos];split;rename_i e;simp[e];(rename_i e;have:x∈r:=by rcases U?.1 h with h|h;exact absurd h.symm e;exact h);simpa using X5 r x this
theorem pos_lt{L:List Nat}{x:Nat}(h:x∈L):pos L x<L.length:=(qF (X5 L x h)).1
theorem dG: ∀{L:List Nat},L.Nodup-> ∀{i:Nat}{x:Nat},L[i]? =some x->pos L x=i
 |[],_,i,x,h=>by simp at h
 |β::r,hn,i,x,h=>by obtain⟨h1,h2⟩:=d!.1 hn;cases i with|zero=>simp at h;simp[pos,h]|succ i=>simp at h;have hx:x∈r:=z7 h;have jx:β≠x:=fun e=>h1 (e ▸ hx);simp[pos,jx,dG h2 h]
theorem Zd(H:qp): ∀(n:Nat)(todo d:List Nat),d.Nodup->(nR H n todo d).Nodup/\ ∃r,nR H n todo d=d++r
 |0,todo,d,h=>⟨h,[],by simp[nR]⟩
 |n+1,[],d,h=>⟨h,[],by simp[nR]⟩
 |n+1,β::r,d,h=>by
  simp only[nR];split;exact Zd H n r d h
  rename_i hm;have Eg:β∉d:=fun h=>hm ((lO d β).2 h);obtain⟨h1,r',h2⟩:=Zd H n (r++(sc H β).refs) (d++[β]) (by
   rw[x!]
   exact⟨h,z?,by
    intro a ha b hb e
    simp at hb
    subst hb e
    exact Eg ha⟩)
  exact⟨h1,β::r',by rw[h2];simp⟩
theorem NF(H:qp)(g:Nat->Nat): ∀(i:Nat)(L:List Nat)(j:Nat),(pick H g i L).get j=if i<=j/\j<i+L.length then(L[j-i]?).map fun β=>(sc H β).c9 g else none
 |i,[],j=>by simp[pick,A!]
 |i,β::r,j=>by simp only[pick,A!,NF H g (i+1) r j,g?];by_cases h:i=j;subst h;simp;rw[if_neg h];by_cases h2:i+1<=j/\j<i+1+r.length;rw[if_pos h2,if_pos o?];obtain⟨m,rfl⟩: ∃m,j=i+1+m:=⟨j-(i+1),o?⟩;rw[show i+1+m-(i+1)=m from o?,show i+1+m-i=m+1 from o?];simp;rw[if_neg h2,if_neg o?]
theorem NG(H:qp)(g:Nat->Nat): ∀(i:Nat)(L:List Nat),(pick H g i L).length=L.length
 |_,[]=>rfl
 |i,β::r=>by simp[pick,NG H g (i+1) r]
theorem QG(H:qp)(L:List Nat): ∀(l:List Nat),pP H L l=true-> ∀β∈l,∃ b,H.get β=some b/\ ∀γ∈b.refs,γ∈L
 |[],_,β,h=>by cases h
 |x::r,h,β,hβ=>by simp only[pP,zQ]at h;rcases U?.1 hβ with rfl|hβ;(cases hb:H.get β with|none=>rw[hb]at h;simp at h|some b=>rw[hb]at h;exact⟨b,rfl,(WZ _ _).1 h.1⟩);exact QG H L r h.2 β hβ
structure Zz (H:qp) (L:List Nat) (H0:qp):Prop where
 nodup:L.Nodup
 look: ∀j,H0.get j=(L[j]?).bind fun β=>(H.get β).map (qD.c9 (pos L))
 has: ∀β∈L,∃ b,H.get β=some b/\ ∀γ∈b.refs,γ∈L
 len:H0.length=L.length
theorem oH{d roots:List Nat}(hd:d.Nodup){L:List Nat}{H0:qp}(h:s9 H d roots=some (L,H0)):
  Zz H L H0/\(∀ β∈roots,β∈L)/\ ∃r,L=d++r:=by unfold s9 at h;split at h;cases h;exact⟨⟨q17,fun j=>by simp[A!],z?,rfl⟩,z?,[],rfl⟩;simp only at h;split at h<;>cases h;rename_i hc;simp only[zQ]at hc;obtain⟨h1,h2⟩:=Zd H 400 (roots++d.flatMap fun β=>(sc H β).refs) d hd;have hs:=QG H _ _ hc.2;refine⟨⟨h1,fun j=>?_,hs,NG _ _ _ _⟩,(WZ _ _).1 hc.1,h2⟩;rw[NF];simp only[B!,true_and,A?,q1o];generalize nR H 400 _ d=L at*;by_cases hj:j<L.length;(rw[if_pos hj];have:L[j]? =some L[j]:=by simp[hj]);rw[this];obtain⟨b,hb,_⟩:=hs L[j] z?;simp[sc,hb];rw[if_neg hj,t_ o?];rfl
def Zn(ι:yp)(L:List Nat):yp:=fun i=>match L[i]? with|some β=>ι β|none=>⟨0,0,[]⟩
theorem Zz.Bv{L:List Nat}{H0:qp}(h:Zz H L H0){β:Nat}(hβ:β∈L): ∀b,H.get β=some b->H0.get (pos L β)=some (b.c9 (pos L))/\Zn ι L (pos L β)=ι β:=by intro b hb;have:=X5 L β hβ;rw[h.look,this];simp[hb,Zn,this]
theorem Zz.inv{L:List Nat}{H0:qp}(h:Zz H L H0){j:Nat}{b:qD}(hj:H0.get j=some b): ∃β b0,L[j]? =some β/\H.get β=some b0/\b=b0.c9 (pos L)/\Zn ι L j=ι β:=by rw[h.look]at hj;cases hL:L[j]? with|none=>rw[hL]at hj;cases hj|some β=>rw[hL]at hj;simp only[qS,yS]at hj;obtain⟨b0,Xk,rfl⟩:=hj;exact⟨β,b0,rfl,Xk,rfl,by simp[Zn,hL]⟩
theorem Zz.hinv{L:List Nat}{H0:qp}(h:Zz H L H0)(hi:zd w H ι Im):zd w H0 (Zn ι L) Im where
 rk:=fun j b hj=>by obtain⟨β,b0,h1,h2,rfl,h4⟩:=h.inv (ι:=ι) hj;refine(hi.rk β b0 h2).c9 (pos L) h4 fun γ hγ=>?_;obtain⟨b1,q1,q2⟩:=h.has β (z7 h1);rw[h2]at q1;cases q1;exact h.Bv (q2 γ hγ)
 inj:=fun i j b c z yv Sq ub uc=>by obtain⟨β,b0,h1,h2,rfl,h4⟩:=h.inv (ι:=ι) yv;obtain⟨γ,c0,k1,k2,rfl,k4⟩:=h.inv (ι:=ι) Sq;rw[qD.nW,h4]at ub;rw[qD.nW,k4]at uc;have:=hi.inj β γ b0 c0 z h2 k2 ub uc;subst this;rw[<- dG h.nodup h1,<- dG h.nodup k1]
 im:=hi.im
 Vd:=fun j b z hj hu=>by obtain⟨β,b0,h1,h2,rfl,h4⟩:=h.inv (ι:=ι) hj;rw[qD.nW,h4]at hu;exact hi.Vd β b0 z h2 hu
 BM:=hi.BM
 Vx:=hi.Vx
end
section
variable [xd] {P:Program} {w w' :World} {H H0 H' :qp} {ι ι' :yp} {Im jT:Nat->Prop} {L:List Nat} {nx:Nat}
theorem jM: ∀(ws:List (Nat×qD))(H:qp)(γ:Nat),(∀ x∈ws,x.1≠γ)->(z6 ws H).get γ=H.get γ
 |[],H,γ,_=>rfl
 |(i,b)::r,H,γ,h=>by simp only[z6];rw[jM r _ γ fun x hx=>h x (by simp[hx]),p!];rw[if_neg (fun e=>h (i,b) z? e.symm)]
theorem dA(g:Nat->Nat): ∀(H:qp)(i:Nat),uM i H=true-> ∀x∈vV g H,∃ j,i<=j/\j<i+H.length/\x.1=g j
 |[],i,_,x,h=>by simp[vV]at h
 |(k,b)::r,i,hk,x,h=>by simp only[uM,zQ,decide_eq_true_eq]at hk;obtain⟨rfl,hk⟩:=hk;simp only[vV,U?]at h;rcases h with rfl|h;exact⟨k,jv _,z?,rfl⟩;obtain⟨j,h1,h2,h3⟩:=dA g r (k+1) hk x h;exact⟨j,o?,by simp only[g?];omega,h3⟩
theorem sB: ∀(H:qp)(i:Nat),uM i H=true-> ∀{j:Nat}{b:qD},H.get j=some b->i<=j/\j<i+H.length
 |[],i,_,j,b,h=>by simp[A!]at h
 |(k,b0)::r,i,hk,j,b,h=>by simp only[uM,zQ,decide_eq_true_eq]at hk;obtain⟨rfl,hk⟩:=hk;simp only[A!]at h;split at h;rename_i e;subst e;simp;have:=sB r (k+1) hk h;simp only[g?];omega
theorem Jt(g:Nat->Nat): ∀(H' H:qp)(i:Nat),uM i H' =true->(∀ j k,i<=j->j<i+H'.length->i<=k->k<i+H'.length->g j=g k->j=k)->
  ∀{j:Nat}{b:qD},H'.get j=some b->(z6 (vV g H') H).get (g j)=some (b.c9 g)
 |[],H,i,_,_,j,b,h=>by simp[A!]at h
 |(k,b0)::r,H,i,hk,hg,j,b,h=>by simp only[uM,zQ,decide_eq_true_eq]at hk;obtain⟨rfl,hk⟩:=hk;simp only[A!]at h;simp only[vV,z6];split at h;rename_i e;subst e;cases h;rw[jM _ _ _ fun x hx=>?_,p!,if_pos rfl];obtain⟨m,h1,h2,h3⟩:=dA g r (k+1) hk x hx;rw[h3];intro e;have:=hg m k o? (by simp only[g?];omega) (jv _) z? e;omega;exact Jt g r _ (k+1) hk (fun j' k' a1 a2 a3 a4 e=>hg j' k' o? (by simp only[g?];omega) o? (by simp only[g?];omega) e) h
theorem PG{x y:qD}{p q:Pl}{f g:Nat->Nat}(h:xN (x.c9 f) y p q):xN x (y.c9 g) p q:=by unfold xN at*;rw[Zf]at h |-;cases hx:x.sh with|some a=>(cases hy:y.sh with|some b=>rw[hx,hy]at h;exact h|none=>rw[hx,hy]at h;have h' :y= .xt:=h;subst h';rfl)|none=>cases hy:y.sh with|some b=>rw[hx,hy]at h;exact h|none=>rw[hx,hy]at h;cases x<;>cases y<;>first|exact h|exact(h:False).elim
def ZD(ι ι' :yp)(L:List Nat)(nx n:Nat):yp:=fun γ=>if γ∈L then ι' (pos L γ)else if nx<=γ/\γ<nx+(n-L.length)then ι' (L.length+(γ-nx))else ι γ
theorem back_ok(hs:Zz H L H0)(hi:zd w H ι Im){X:Nat->Prop}(xV:Bd X H nx)
  (yv:zd w' H' ι' jT) (he:wU w H0 (Zn ι L) Im w' H' ι' jT) (hk:uM 0 H' =true) (hX: ∀γ,X γ->nx+(H'.length-L.length)<=γ):
  zd w' (z6 (vV (j9 L nx) H') H) (ZD ι ι' L nx H'.length) jT/\wU w H ι Im w' (z6 (vV (j9 L nx) H') H) (ZD ι ι' L nx H'.length) jT/\
   (∀{r:AV}{v:Value},RA w' H' ι' jT r v->RA w' (z6 (vV (j9 L nx) H') H) (ZD ι ι' L nx H'.length) jT (r.c9 (j9 L nx)) v)/\
   Bd X (z6 (vV (j9 L nx) H') H) (nx+(H'.length-L.length)):=by
 have hLlt: ∀β∈L,β<nx\/nx+(H'.length-L.length)<=β:=fun β hβ=>by obtain⟨b,hb,_⟩:=hs.has β hβ;exact(xV β b hb).imp id (hX β)
 have g1: ∀{j β:Nat},L[j]? =some β->j9 L nx j=β:=fun h=>by simp[j9,h]
 have g2: ∀{j:Nat},L.length<=j->j9 L nx j=nx+(j-L.length):=fun h=>by simp[j9,t_ h]
 have ginj: ∀j k,j<H'.length->k<H'.length->j9 L nx j=j9 L nx k->j=k:=by intro j k Gj pS e;by_cases hj:j<L.length<;>by_cases JO:k<L.length;(have a1:L[j]? =some L[j]:=by simp[hj]);(have a2:L[k]? =some L[k]:=by simp[JO]);rw[g1 a1,g1 a2]at e;rw[<- dG hs.nodup a1,<- dG hs.nodup a2,e];(have a1:L[j]? =some L[j]:=by simp[hj]);rw[g1 a1,g2 o?]at e;have:=hLlt _ (z7 a1);omega;(have a2:L[k]? =some L[k]:=by simp[JO]);rw[g1 a2,g2 o?]at e;have:=hLlt _ (z7 a2);omega;rw[g2 o?,g2 o?]at e;omega
 have pR: ∀{j:Nat}{b:qD},H'.get j=some b->(z6 (vV (j9 L nx) H') H).get (j9 L nx j)=some (b.c9 (j9 L nx)):=
  fun h=>Jt _ H' H 0 hk (fun j k _ Gj _ pS e=>ginj j k o? o? e) h
 have ou: ∀j,j<H'.length->ZD ι ι' L nx H'.length (j9 L nx j)=ι' j:=by intro j Gj;unfold ZD;by_cases hj:j<L.length;(have a1:L[j]? =some L[j]:=by simp[hj]);rw[g1 a1,if_pos (z7 a1),dG hs.nodup a1];rw[g2 o?,if_neg (fun h=>by have:=hLlt _ h;omega),if_pos o?];congr 1;omega
 have hlen:L.length<=H'.length:=by rcases q0o L.length with h|h;omega;(have a1:L[L.length-1]? =some L[L.length-1]:=by simp[h]);(obtain⟨b,hb,_⟩:=hs.has _ (z7 a1);have h0:H0.get (L.length-1)=some (b.c9 (pos L)):=by rw[hs.look,a1];simp[hb]);obtain⟨b',jo,_⟩:=he.comp _ _ h0;have:=(sB H' 0 hk jo).2;omega
 have OO: ∀γ,(∃ j,γ=j9 L nx j/\j<H'.length)\/((∀ j,j<H'.length->γ≠j9 L nx j)/\(z6 (vV (j9 L nx) H') H).get γ=H.get γ):=by intro γ;by_cases h: ∃j,j<H'.length/\γ=j9 L nx j;obtain⟨j,h1,h2⟩:=h;exact .inl ⟨j,h2,h1⟩;refine .inr ⟨fun j hj e=>h ⟨j,hj,e⟩,jM _ _ _ fun x hx e=>?_⟩;obtain⟨j,_,h2,h3⟩:=dA _ H' 0 hk x hx;exact h ⟨j,o?,by rw[<- e,h3]⟩
 have hnotL: ∀γ,(∀ j,j<H'.length->γ≠j9 L nx j)->γ∉L:=by intro γ h hL;have:=X5 L γ hL;exact h (pos L γ) (U! (pos_lt hL) hlen) (g1 this).symm
 have BV: ∀γ b,γ∉L->H.get γ=some b->ZD ι ι' L nx H'.length γ=ι γ:=by intro γ b h hb;have:=(xV γ b hb).imp id (hX γ);unfold ZD;rw[if_neg h,if_neg o?]
 have Yt: ∀{i:Nat}{x:qD}{z:Nat},H0.get i=some x->x.yb (Zn ι L i) z-> ∃β b,β∈L/\H.get β=some b/\b.yb (ι β) z:=by intro i x z h hu;obtain⟨β,b0,h1,h2,rfl,h4⟩:=hs.inv (ι:=ι) h;rw[qD.nW,h4]at hu;exact⟨β,b0,z7 h1,h2,hu⟩
 have Jh: ∀γ b z,γ∉L->H.get γ=some b->b.yb (ι γ) z->w'.heap[z]? =w.heap[z]? :=by intro γ b z hL hb hu;refine he.kF _ ((hi.rk γ b hb).sY hu) fun i x hx ML=>?_;obtain⟨β,b1,q1,q2,q3⟩:=Yt hx ML;exact hL (hi.inj β γ b1 b z q2 hb q3 hu ▸ q1)
 have mI:wU w H ι Im w' (z6 (vV (j9 L nx) H') H) (ZD ι ι' L nx H'.length) jT:=by refine⟨fun β b hb=>?_,he.im,fun b h=>?_,fun γ x z hx hu=>?_,fun b hb hn=>?_,he.size,he.io⟩;by_cases hL:β∈L;obtain⟨q1,q2⟩:=hs.Bv (ι:=ι) hL b hb;obtain⟨b',q3,q4⟩:=he.comp _ _ q1;have q5:=pR q3;have e:j9 L nx (pos L β)=β:=g1 (X5 L β hL);rw[e]at q5;refine⟨_,q5, ?_⟩;have:=ou (pos L β) (U! (pos_lt hL) hlen);rw[e]at this;rw[this,<- q2];exact PG q4;rcases OO β with ⟨j,e,hj⟩|⟨h1,h2⟩;exfalso;by_cases Gj:j<L.length;(have a1:L[j]? =some L[j]:=by simp[Gj]);rw[g1 a1]at e;exact hL (e ▸ z7 a1);rw[g2 o?]at e;have:=(xV β b hb).imp id (hX β);omega;exact⟨b,by rw[h2,hb],by rw[BV β b hL hb];exact uV _ _⟩;rcases he.pU b h with h|h|⟨i,x,h1,h2⟩;exact .inl h;exact .inr (.inl h);obtain⟨β,b1,q1,q2,q3⟩:=Yt h1 h2;exact .inr (.inr ⟨β,b1,q2,q3⟩);rcases OO γ with ⟨j,rfl,hj⟩|⟨h1,h2⟩;(rw[ou j hj]at hu;cases jo:H'.get j with|none=>(exfalso;have key: ∀(H:qp)(i:Nat),uM i H=true-> ∀j,i<=j->j<i+H.length->H.get j≠none:=by intro H;induction H with|nil=>intro i _ j h1 h2;simp at h2;omega|cons y r ih=>intro i hk j h1 h2;obtain⟨k,b⟩:=y;simp only[uM,zQ,decide_eq_true_eq]at hk;obtain⟨rfl,hk⟩:=hk;simp only[A!];split;simp;exact ih (k+1) hk j o? (by simp only[g?]at h2;omega));exact key H' 0 hk j (B! _) o? jo|some b' =>rw[pR jo]at hx;cases hx;rw[qD.nW]at hu;rcases he.nQ j b' z jo hu with h|⟨i,x,q1,q2⟩;exact .inl h;obtain⟨β,b1,r1,r2,r3⟩:=Yt q1 q2;exact .inr ⟨β,b1,r2,r3⟩);rw[h2]at hx;rw[BV γ x (hnotL γ h1) hx]at hu;exact .inr ⟨γ,x,hx,hu⟩;refine he.kF b hb fun i x hx ML=>?_;obtain⟨β,b1,q1,q2,q3⟩:=Yt hx ML;exact hn β b1 q2 q3
 have Bv: ∀γ c,H'.get γ=some c->(z6 (vV (j9 L nx) H') H).get (j9 L nx γ)=some (c.c9 (j9 L nx))/\ZD ι ι' L nx H'.length (j9 L nx γ)=ι' γ:=
  fun γ c h=>⟨pR h,ou γ (by have:=(sB H' 0 hk h).2;omega)⟩
 have lt' : ∀{j:Nat}{b:qD},H'.get j=some b->j<H'.length:=fun h=>by have:=(sB H' 0 hk h).2;omega
 have split: ∀{γ b},(z6 (vV (j9 L nx) H') H).get γ=some b->(∃ j b',γ=j9 L nx j/\H'.get j=some b' /\b=b'.c9 (j9 L nx))\/(γ∉L/\H.get γ=some b):=by intro γ b h;rcases OO γ with ⟨j,rfl,hj⟩|⟨h1,h2⟩;(cases jo:H'.get j with|some b' =>rw[pR jo]at h;cases h;exact .inl ⟨j,b',rfl,jo,rfl⟩|none=>(exfalso;have key: ∀(H:qp)(i:Nat),uM i H=true-> ∀j,i<=j->j<i+H.length->H.get j≠none:=by intro H;induction H with|nil=>intro i _ j h1 h2;simp at h2;omega|cons y r ih=>intro i hk j h1 h2;obtain⟨k,b⟩:=y;simp only[uM,zQ,decide_eq_true_eq]at hk;obtain⟨rfl,hk⟩:=hk;simp only[A!];split;simp;exact ih (k+1) hk j o? (by simp only[g?]at h2;omega));exact key H' 0 hk j (B! _) o? jo);rw[h2]at h;exact .inr ⟨hnotL γ h1,h⟩
 have cross: ∀{j b' γ b z},H'.get j=some b' ->b'.yb (ι' j) z->γ∉L->H.get γ=some b->b.yb (ι γ) z->False:=by intro j b' γ b z h1 u1 hL h2 u2;rcases he.nQ j b' z h1 u1 with h|⟨i,x,q1,q2⟩;have:=(hi.rk γ b h2).sY u2;omega;obtain⟨β,b1,r1,r2,r3⟩:=Yt q1 q2;exact hL (hi.inj β γ b1 b z r2 h2 r3 u2 ▸ r1)
 refine⟨⟨fun γ b h=>?_,fun γ γ' b b' z h h' u u' =>?_,yv.im,fun γ b z h hu=>?_,yv.BM,yv.Vx⟩,mI,fun{r v} hr=>Ze _ hr fun γ _ c hc=>Bv γ c hc,fun γ b h=>?_⟩;rcases split h with ⟨j,b',rfl,jo,rfl⟩|⟨hL,hb⟩;exact(yv.rk j b' jo).c9 _ (ou j (lt' jo)) fun γ _ c hc=>Bv γ c hc;exact(hi.rk γ b hb).mono hi mI (fun hu=>⟨BV γ b hL hb,fun x hx=>Jh γ b x hL hb hx⟩);rcases split h with ⟨j,c,rfl,hc,rfl⟩|⟨hL,hb⟩;rcases split h' with ⟨j',c',rfl,Gh,rfl⟩|⟨hL',jo⟩;rw[ou _ (lt' hc),qD.nW]at u;rw[ou _ (lt' Gh),qD.nW]at u';rw[yv.inj j j' c c' z hc Gh u u'];rw[ou _ (lt' hc),qD.nW]at u;rw[BV γ' b' hL' jo]at u';exact(cross hc u hL' jo u').elim;rcases split h' with ⟨j',c',rfl,Gh,rfl⟩|⟨hL',jo⟩;rw[ou _ (lt' Gh),qD.nW]at u';rw[BV γ b hL hb]at u;exact(cross Gh u' hL hb u).elim;rw[BV γ b hL hb]at u;rw[BV γ' b' hL' jo]at u';exact hi.inj γ γ' b b' z hb jo u u';rcases split h with ⟨j,c,rfl,hc,rfl⟩|⟨hL,hb⟩;rw[ou _ (lt' hc),qD.nW]at hu;exact yv.Vd j c z hc hu;rw[BV γ b hL hb]at hu;intro hIm;rcases he.pU _ hIm with h|h|⟨i,x,q1,q2⟩;exact hi.Vd γ b z hb hu h;have:=(hi.rk γ b hb).sY hu;omega;obtain⟨β,b1,r1,r2,r3⟩:=Yt q1 q2;exact hL (hi.inj β γ b1 b z r2 hb r3 hu ▸ r1);rcases split h with ⟨j,c,rfl,hc,rfl⟩|⟨hL,hb⟩;have h2:=(sB H' 0 hk hc).2;by_cases hj:j<L.length;(have a1:L[j]? =some L[j]:=by simp[hj]);rw[g1 a1];obtain⟨b1,UW,_⟩:=hs.has _ (z7 a1);exact(xV _ b1 UW).imp (fun h=>o?) id;rw[g2 o?];exact .inl o?;exact(xV γ b hb).imp (fun h=>o?) id
end
def lh[xd](P:Program)(f:FuncId)(args:List AV)(H:qp)(r:AV)(H' :qp):Prop:=
 ∀(w:World)(ι:yp)(Im:Nat->Prop)(vs:List Value),zd w H ι Im->args.length=vs.length->(∀(i:Nat) x v,args[i]? =some x->vs[i]? =some v->RA w H ι Im x v)->
  Calls P f ⟨vs⟩ w fun e w' => ∃v ι' jT,e= .returned v/\zd w' H' ι' jT/\wU w H ι Im w' H' ι' jT/\RA w' H' ι' jT r v
def enters(P:Program)(f:FuncId):Prop:= ∃fn,P.funcs[f]? =some fn/\(fn.name== "runtime.NumGoroutine")=false/\fn.body.isSome=true
structure SoundCall [xd] (P:Program) (O:xi):Prop where
 call: ∀f args H r H',O.call f args H=some (r,H')->enters P f/\lh P f args H r H'
section
variable [xd] {P:Program} {w:World} {H:qp} {ι:yp} {Im:Nat->Prop}
theorem HP{f:FuncId}(h:enters P f)(args:Array Value):(callFunc f args).run P w= .ok (.enter f args) w:=by
 obtain⟨fn,h1,h2,h3⟩:=h;unfold callFunc;have h3' :fn.body.isNone=false:=by cases hb:fn.body<;>simp[hb]at h3 |-
 simp only[jR,run_program,md,h1,h2,wA,if_false,h3',K?]
theorem Bl{O:xi}(hO:SoundCall P O)(hi:zd w H ι Im){nx:Nat}{X:Nat->Prop}(xV:Bd X H nx){f:FuncId}{args:List AV}{vs:List Value}
  (hl:args.length=vs.length) (hR: ∀(i:Nat) x v,args[i]? =some x->vs[i]? =some v->RA w H ι Im x v) {e:mA} (hr:eM O f args H nx=some e) (hX: ∀γ,X γ->e.2.2<=γ):
  enters P f/\Calls P f ⟨vs⟩ w fun en w' => ∃v ι' jT,en= .returned v/\zd w' (z6 e.2.1 H) ι' jT/\wU w H ι Im w' (z6 e.2.1 H) ι' jT/\RA w' (z6 e.2.1 H) ι' jT e.1 v/\
   nx<=e.2.2/\Bd X (z6 e.2.1 H) e.2.2:=by
 unfold eM at hr;split at hr;cases hr;rename_i L H0 Z6;split at hr;cases hr
 rename_i v H' dj;split at hr<;>cases hr;rename_i hk;obtain⟨hs,W9,_⟩:=oH q17 Z6;obtain⟨W4,df⟩:=hO.call f _ H0 v H' dj;refine⟨W4, ?_⟩;have:=df w (Zn ι L) Im vs (hs.hinv hi) (by rw[cY,hl]) (fun i x v h1 h2=>by
  rw[ta]at h1
  simp only[yS]at h1
  obtain⟨y,hy,rfl⟩:=h1
  exact Ze _ (hR i y v hy h2) fun β hβ b hb=>hs.Bv (W9 β (vU hy hβ)) b hb)
 refine this.mono fun en w'⟨u,ι',jT,h1,h2,h3,h4⟩=>?_;obtain⟨b1,b2,b3,b4⟩:=back_ok hs hi xV h2 h3 hk hX;exact⟨u,_,jT,h1,b1,b2,b3 h4,Nat.le_add_right _ _,b4⟩
theorem Act.Hy(a:Act)(d:Option Tmp)(v:Value)(t:Nat):(a.put d v).tmps.getD t undef=if d=some t/\t<a.tmps.size then v else a.tmps.getD t undef:=by cases d with|none=>simp[Act.put]|some d=>simp only[Act.put,kG];by_cases h:d=t;subst h;by_cases h2:d<a.tmps.size;simp[h2,R_];simp[h2,R_];rw[if_neg (fun h' =>h h'.1)];simp only[R_,Array.size_setIfInBounds];split;rw[U_,U_,Array.getElem_setIfInBounds_ne];exact h;rfl
theorem Act.X7(a:Act)(d:Option Tmp)(v:Value):(a.put d v).tmps.size=a.tmps.size:=by cases d<;>simp[Act.put]
theorem Act.put_defers(a:Act)(d:Option Tmp)(v:Value):(a.put d v).defers=a.defers:=by cases d<;>rfl
theorem fm(d:Option Tmp)(v:AV)(E:yo)(t:Nat):(fj d v E).get t=if d=some t then v else E.get t:=by cases d with|none=>simp[fj]|some d=>simp[fj,V!]
theorem K1{a:Act}{E:yo}{nt:Nat}(hE: ∀t,RA w H ι Im (E.get t) (a.tmps.getD t undef))(mq:nt<=a.tmps.size){d:Option Tmp}(hd: ∀t,d=some t->t<nt)
  {x:AV} {v:Value} (hx:RA w H ι Im x v): ∀t,RA w H ι Im ((fj d x E).get t) ((a.put d v).tmps.getD t undef):=by intro t;rw[fm,Act.Hy];by_cases h:d=some t;rw[if_pos h,if_pos ⟨h,U! (hd t h) mq⟩];exact hx;rw[if_neg h,if_neg (fun h' =>h h'.1)];exact hE t
theorem NK:RA w H ι Im (.xR []) Go.undef:= .xR [] [] rfl z?
def Y8(nt:Nat)(ops:List Oper):Prop:= ∀o∈ops,∀ t,o.dst=some t->t<nt
def aE(w:World)(H:qp)(ι:yp)(Im:Nat->Prop)(nt:Nat)(s:St)(a:Act)(w' :World):Prop:=
 ∃ι' jT,Inv w' a s ι' jT nt/\wU w H ι Im w' s.heap ι' jT
theorem aE.from{w1:World}{H1:qp}{ι1:yp}{iX:Nat->Prop}{nt:Nat}{s:St}{a:Act}{w' :World}(h:aE w1 H1 ι1 iX nt s a w')(he:wU w H ι Im w1 H1 ι1 iX):
  aE w H ι Im nt s a w' :=
 let⟨ι',jT,h1,h2⟩:=h
 ⟨ι',jT,h1,he.trans h2⟩
theorem U8{a:Act}{o:Oper}{t:TypeId}{z:Operand}(Ej:o.op= .box t z){u:Value}{w' :World}(h:(Instr.box t (a.eval z)).run P w= .ok u w'):
  (execOp a.eval o).run P w= .ok (.value u) w' :=by unfold execOp;simp only[Ej];simp[h]
theorem q0f{G:GP}{O:xi}(hG:yA P G)(hO:SoundCall P O){a:Act}{E:yo}{nx:Nat}(hi:zd w H ι Im)(JN: ∀t,RA w H ι Im (E.get t) (a.tmps.getD t undef))
  {X:Nat->Prop} (xV:Bd X H nx) (o:Oper) {x:AV} {ws:List (Nat×qD)} {fg:Nat} (ZQ:mB G O o.op E H nx=some (x,ws,fg)) (hX: ∀γ,X γ->fg<=γ)
  (next:Act->World->Prop) (Q:Exit->Act->World->Prop)
  (oX: ∀(u:Value)(w' :World)(ι' :yp)(jT:Nat->Prop),zd w' (z6 ws H) ι' jT->wU w H ι Im w' (z6 ws H) ι' jT->RA w' (z6 ws H) ι' jT x u->
   Bd X (z6 ws H) fg->next (a.put o.dst u) w'):
  o.wp P a w next Q:=by
 unfold Oper.wp;cases hc:Wf o.op with
 |false=>
  obtain⟨u,w',h1,ι',h2,h3,h4,h5,h6⟩:=aop_ok hG hi xV JN O o hc ZQ hX;rcases h1 with h1|⟨h1,rfl⟩
  ·rw[h1];exact oX _ _ _ _ h2 h3 h4 h6
  rw[h1];exact oX _ _ _ _ h2 h3 h4 h6
 |true=>
  by_cases hbx: ∃t z,o.op= .box t z
  ·obtain⟨t,z,Ej⟩:=hbx;rw[Ej]at ZQ;unfold mB at ZQ;simp only at ZQ;split at ZQ;rotate_left
   ·cases ZQ
   rename_i hs;unfold aBox at ZQ;split at ZQ
   ·split at ZQ<;>cases ZQ;rename_i l hl;obtain⟨u,w',jT,h1,h2,h3,h4⟩:=IM (P:=P) (t:=t) hi (QI JN z) hs hl;rw[U8 Ej h1];exact oX _ _ _ _ h2 h3 h4 xV
   cases ZQ;obtain⟨u,w',h1,ι',h2,h3,h4,h5,h6⟩:=aBox_ok (P:=P) (t:=t) hi xV (aP hX) (QI JN z) hs;rw[U8 Ej h1];exact oX _ _ _ _ h2 h3 h4 h6
  obtain⟨fo,args,ch,Ej⟩: ∃fo args ch,o.op= .call { callee:= .value fo,args:=args,argTypes:=ch }:=by
   cases ho:o.op<;>simp[Wf,ho]at hc
   ·exact absurd ⟨_,_,ho⟩ hbx
   rename_i c;obtain⟨callee,args,ch⟩:=c;cases callee<;>simp at hc;exact⟨_,_,_,rfl⟩
  rw[Ej]at ZQ;have Sm:args.map a.eval=⟨args.toList.map a.eval⟩:=by apply D!; simp
  have JQ: ∀(f:FuncId)(first cap:Array Value),a.eval fo= .func (.func f) first cap->enters P f->
    (execOp a.eval o).run P w= .ok (.enter f (first++args.map a.eval++cap)) w:=by
   intro f first cap hf W4
   unfold execOp;simp only[Ej,resolve,hf,Deferred.ofValue,jR,K?,md,invoke,HP W4]
  have hfo:=QI JN fo;have hlist:=SN JN args.toList;unfold mB at ZQ;simp only at ZQ;have finish: ∀(f:FuncId)(vs:List Value)(e:mA),(x,ws,fg)=e->(Calls P f ⟨vs⟩ w fun en w' => ∃v ι' jT,en= .returned v/\zd w' (z6 e.2.1 H) ι' jT/\wU w H ι Im w' (z6 e.2.1 H) ι' jT/\RA w' (z6 e.2.1 H) ι' jT e.1 v/\
    nx<=e.2.2/\Bd X (z6 e.2.1 H) e.2.2)->o.upon P a next Q (.ok (.enter f ⟨vs⟩) w):=by
   intro f vs e he dj;subst he;show Calls P f ⟨vs⟩ w _;refine dj.mono fun en w'⟨v,ι',jT,q1,q2,q3,q4,q5,q6⟩=>?_;subst q1;exact oX _ _ _ _ q2 q3 q4 q6
  split at ZQ
  ·rename_i f hf;rw[hf]at hfo;have hp:=hfo.gA;generalize hv:a.eval fo=vf at hp;cases hp;obtain⟨W4,dj⟩:=Bl hO hi xV (vs:=args.toList.map a.eval) z? hlist ZQ hX;rw[JQ f #[] #[] hv W4,Sm];have:(#[]++(⟨args.toList.map a.eval⟩:Array Value)++ #[])=⟨args.toList.map a.eval⟩:=z?;rw[this];exact finish f _ _ rfl dj
  ·rename_i f fa fb hf;rw[hf]at hfo;generalize hv:a.eval fo=vf at hfo;cases hfo with
   |QX _ _ _ va vb VB Su ha hb=>
    obtain⟨W4,dj⟩:=Bl hO hi xV (vs:=va++args.toList.map a.eval++vb) (by simp[VB,Su]) (fun i z v h1 h2=>by
     rw[M!]at h1 h2
     have hlen:(fa++args.toList.map (ev E)).length=(va++args.toList.map a.eval).length:=by simp[VB]
     rw[<- hlen]at h2
     split at h1
     ·rename_i K4
      rw[if_pos K4]at h2
      rw[M!]at h1 h2
      rw[<- VB]at h2
      split at h1
      ·rename_i UX
       rw[if_pos UX]at h2
       exact ha i z v h1 h2
      rename_i UX
      rw[if_neg UX]at h2
      exact hlist _ z v h1 h2
     rename_i K4
     rw[if_neg K4]at h2
     exact hb _ z v h1 h2) ZQ hX
    rw[JQ f _ _ hv W4,Sm];have:((⟨va⟩:Array Value)++(⟨args.toList.map a.eval⟩:Array Value)++(⟨vb⟩:Array Value))=⟨va++args.toList.map a.eval++vb⟩:=z?;rw[this];exact finish f _ _ rfl dj
  cases ZQ
theorem stepO_ok{G:GP}{O:xi}(hG:yA P G)(hO:SoundCall P O){nt:Nat}{a:Act}{s s' :St}(h:Inv w a s ι Im nt)(o:Oper)(hd: ∀t,o.dst=some t->t<nt)
  (hr:Xf G O o s=some s') (next:Act->World->Prop) (Q:Exit->Act->World->Prop) (hn: ∀a' w',aE w s.heap ι Im nt s' a' w' ->next a' w'):
  o.wp P a w next Q:=by
 unfold Xf at hr;split at hr<;>cases hr;rename_i x ws fg ZQ;refine q0f hG hO h.heap h.env (X:=fun _=>False) (fun β b hb=> .inl (h.nx β b hb)) o ZQ (fun _ h=>h.elim) next Q fun u w' ι' jT h1 h2 h3 h4=>?_
 refine hn _ _ ⟨ι',jT,⟨h1, ?_,fun β b hb=>(h4 β b hb).resolve_right id,by rw[Act.X7];exact h.size,by rw[Act.put_defers];exact h.defers⟩,h2⟩;exact K1 (fun t=>(h.env t).mono h.heap h2) h.size hd h3
theorem aE.post{nt:Nat}{s:St}{a:Act}{w' :World}(h:aE w H ι Im nt s a w')(l:List Da):aE w H ι Im nt (pL l s) a w' :=by obtain⟨ι1,iX,h1,e1⟩:=h;obtain⟨ι2,Gd,h2,e2⟩:=JZ l h1;exact⟨ι2,Gd,h2,e1.trans e2⟩
end
end Go.Gm
