/-
  The machine, part b.
-/
import Derived.Test.YtnojdepmnnebnaaGreatQaa
import Derived.JoinedOf
import Derived.Lib.UnsafeStr
import GoSem.ClaimGoes
open Array renaming getElem?_toList->H?,ext'->D!,getInternal_eq_getElem->G_,getD->F_,mk->q2b
open Exists renaming imp->q23
open Go.Gm.AV renaming refs->O?
open Go.Gm.Sk renaming blocks->k!
open Go.Gm.TI renaming isAgg->q21
open Go.Gm.qE renaming used->w_,jf->H_,sh->q11,refs->q1b,yz->q22
open Go.Gm.qr renaming zg->p!,get->A!,put->q_
open Go.Gm.tD renaming pure->t!
open Go.Gm.wR renaming refl->W!
open Go.Gm.yp renaming get->V!
open Go.Sem renaming run_pure->K?,run->M_
open List renaming length_cons->h?,mem_append->m?,length_append->t?,getElem?_append_left->r?,map_cons->s?,getElem?_cons_zero->c?,mem_singleton->a?,getElem?_cons_succ->i?,getElem?_map->X?,getElem?_append_right->J?,mem_of_mem_take->W?,getElem?_take_of_lt->V?,mem_cons->U?,mem_map->N?,flatMap_cons->D?,getElem?_toArray->I?,mem_of_mem_drop->x!,nodup_append->j!,getElem?_drop->v!,nodup_cons->d!,mem_flatMap->e!,mem_or_eq_of_mem_set->l!,all_eq_true->Z!,flatten_cons->K!,getElem?_set->N!,getElem?_append->M!,getElem?_set_self->m_,mem_append_right->t_,getElem?_eq_none->d_,getElem?_set_ne->B',set_cons_zero->L',set_cons_succ->q06,foldlM_cons->q1a,nodup_nil->q1p
open Nat renaming succ_mul->B?,zero_add->P?,add_mul->T?,add_assoc->i!,lt_of_lt_of_le->U!,zero_le->B!,eq_zero_or_pos->q16,sub_zero->q27,sub_sub->q29
open Option renaming map_some->F!
set_option linter.unusedSimpArgs false
set_option linter.unusedVariables false
set_option linter.unusedSectionVars false
namespace Go.Gm
open Go
section
variable [xg] {P:Program} {w:World} {H:qr} {ι:yq} {Im:Nat->Prop}
theorem J7{a:Act}{E:yp}(hE: ∀t,RA w H ι Im (E.get t) (a.tmps.getD t undef))(d:Nat)(x:Option Operand){n:Nat}(h:kj (ev E) d x=some n):
  (x=none/\n=d)\/ ∃kd,(x.map a.eval)=some (.int kd (n:Int)):=by cases x with|none=>simp only[kj,ki]at h;exact .inl ⟨rfl,h.symm⟩|some x=>simp only[kj]at h;obtain⟨kd,hk⟩:=X9 (QP hE x) h;exact .inr ⟨kd,by simp[hk]⟩
theorem run_sliceBound{kd:IntKind}{n y:Nat}(h:n<=y)(code:BoundsCode):(Instr.sliceBound (.int kd (n:Int)) y code).run P w= .ok n w:=by unfold Instr.sliceBound asIntOf;have:(n:Int)<=(y:Int):=o?;simp[this]
theorem uR(isSlice:Bool){a:Act}{E:yp}(hE: ∀t,RA w H ι Im (E.get t) (a.tmps.getD t undef))(lo hi mx:Option Operand)(len cap:Nat){l h m:Nat}
  (hl:kj (ev E) 0 lo=some l) (hh:kj (ev E) len hi=some h) (hm:kj (ev E) cap mx=some m) (h1:l<=h) (h2:h<=m) (h3:m<=cap)
  (hmx:mx≠none->hi≠none):
  (Instr.sliceBounds isSlice len cap (lo.map a.eval) (hi.map a.eval) (mx.map a.eval)).run P w= .ok (l,h,m) w:=by have e1:=J7 hE 0 lo hl;have e2:=J7 hE len hi hh;have e3:=J7 hE cap mx hm;unfold Instr.sliceBounds;rcases e3 with ⟨rfl,rfl⟩|⟨k3,e3⟩;rcases e2 with ⟨rfl,rfl⟩|⟨k2,e2⟩;rcases e1 with ⟨rfl,rfl⟩|⟨k1,e1⟩;simp;simp only[e1,Option.map_none,jT,Sem.run_pure,me,run_sliceBound h1];rcases e1 with ⟨rfl,rfl⟩|⟨k1,e1⟩;simp only[e2,Option.map_none,jT,Sem.run_pure,me,run_sliceBound h2];simp only[e1,e2,Option.map_none,jT,Sem.run_pure,me,run_sliceBound h1,run_sliceBound h2];rcases e2 with ⟨rfl,rfl⟩|⟨k2,e2⟩;(have:mx≠none:=by intro e;subst e;cases e3);exact absurd rfl (hmx this);rcases e1 with ⟨rfl,rfl⟩|⟨k1,e1⟩;simp only[e2,e3,Option.map_none,jT,Sem.run_pure,me,run_sliceBound h2,run_sliceBound h3];simp only[e1,e2,e3,jT,Sem.run_pure,me,run_sliceBound h1,run_sliceBound h2,run_sliceBound h3]
theorem VM(s:List UInt8)(l h:Nat):(ByteArray.mk ⟨s⟩).extract l h=⟨⟨(s.take h).drop l⟩⟩:=by apply ByteArray.ext;apply D!;simp[List.extract_eq_take_drop,List.drop_take]
theorem slv_sh{b:qE}{x:Bool×Nat×Nat}(h:b.slv=some x):b.sh=some x:=by unfold qE.slv at h;split at h;exact h;exact h;cases h
theorem slv_cap(hi:zc w H ι Im){β:Nat}{b:qE}{sz k:Nat}(hb:H.get β=some b)(hs:b.slv=some (false,sz,k)):k<=(ι β).cap:=by unfold qE.slv at hs;split at hs;cases hs;obtain⟨vs,elem,fz,g1,g2,g3,g4,g5,_⟩:=hi.row hb;exact g5;cases hs;obtain⟨vs,elem,fz,h1,h2,h3,h4,_⟩:=hi.jf hb;exact h4;cases hs
theorem slv_nil{β:Nat}{b:qE}{sz k:Nat}(h:rE w H ι Im β b)(hs:b.slv=some (true,sz,k)):k=0:=by unfold qE.slv at hs;split at hs;cases hs;have:_=[]:=h;rw[this];rfl;cases hs;obtain⟨h1,_⟩:=h;rw[h1];rfl;cases hs
theorem DN{G:TypeId->Option TI}(hG: ∀t ti,G t=some ti->zN P t ti){t:TypeId}{ti:TI}(ht:zN P t ti)(yw:zc w H ι Im)
  {a:Act} {E:yp} (hE: ∀t,RA w H ι Im (E.get t) (a.tmps.getD t undef)) {x:AV} {v:Value} (hx:RA w H ι Im x v) (lo hi mx:Option Operand)
  {r:AV} (hr:ek ti.td G (ev E) x lo hi mx H=some r):
  ∃u,(Instr.sliceAt t v (lo.map a.eval) (hi.map a.eval) (mx.map a.eval)).run P w= .ok u w/\RA w H ι Im r u:=by
 unfold ek at hr;split at hr;cases hr;rename_i hmx0;have hmx:mx≠none->hi≠none:=by intro h1 h2;subst h2;cases mx with|none=>exact h1 rfl|some _=>exact hmx0 ⟨rfl,rfl⟩
 split at hr
 ·rename_i jw;have hu:=ht.string jw;split at hr;rotate_left;cases hr;rename_i s;split at hr;cases hr;(rename_i hmn;have hmn' :mx=none:=by cases mx<;>simp_all);subst hmn';split at hr;rotate_left;cases hr
  rename_i l h hl hh;split at hr<;>cases hr;rename_i hc;cases hx with
  |pv _ _ hp=>cases hp with
   |str=>
    have hb:=uR (P:=P) false hE lo hi none s.length s.length hl hh rfl hc.1 hc.2 (jx _) (fun h=>absurd rfl h);refine⟨.string ((ByteArray.mk ⟨s⟩).extract l h), ?_,.pv _ _ (by rw[VM];exact .str _)⟩;unfold Instr.sliceAt Instr.slice;simp only[jT,qx hu,me];have mr:(ByteArray.mk ⟨s⟩).size=s.length:=rfl;simp only[Option.map_none]at hb |-;simp[mr,hb]
 ·rename_i e jw;have hu:=ht.slice jw;split at hr;cases hr
  rename_i te dC;have sH:=hG _ _ dC;have run: ∀(base:Option Addr)(len cap l h m:Nat),(Instr.sliceBounds true len cap (lo.map a.eval) (hi.map a.eval) (mx.map a.eval)).run P w= .ok (l,h,m) w->
    (Instr.sliceAt t (.slice base len cap) (lo.map a.eval) (hi.map a.eval) (mx.map a.eval)).run P w= .ok (.slice (if m=l then base else base.map (·.add (l*te.size))) (h-l) (m-l)) w:=by
   intro base len cap l h m hb;unfold Instr.sliceAt Instr.slice;simp only[jT,qx hu,me,hb,sH.size,K?]
  split at hr
  ·rename_i qu sz es;split at hr;rotate_left;cases hr;rename_i l h m hl hh hm;split at hr;rotate_left;cases hr
   rename_i hc;obtain⟨c1,c2,c3,c4⟩:=hc;cases hx with
   |pv _ _ hp=>cases hp with
    |aS=>
     have hm0:m=0:=by simpa using c3
     subst hm0;have hh0:h=0:=o?;subst hh0;have hl0:l=0:=o?;subst hl0;have hb:=uR (P:=P) true hE lo hi mx 0 0 hl (by simpa using hh) (by simpa using hm) (jx _) (jx _) (jx _) hmx;simp at hr;subst hr;refine⟨_,run none 0 0 0 0 0 hb, ?_⟩;simp;exact .pv _ _ (.aS 0)
    |sl _ _ b off cap vs QF JX mr Wg hf hrp sp C2=>
     have EG: ∃m',kj (ev E) cap mx=some m' /\((mx=none/\m' =cap)\/(mx≠none/\m' =m)):=by
      cases mx with
      |none=>exact⟨cap,rfl,.inl ⟨rfl,rfl⟩⟩
      |some y=>exact⟨m,hm,.inr ⟨z?,rfl⟩⟩
     obtain⟨m',EG,Lt⟩:=EG;have hhm:h<=m' /\m' <=cap:=by
      rcases Lt with ⟨rfl,rfl⟩|⟨_,rfl⟩
      ·simp only[kj,ki]at hm;omega
      omega
     have hb:=uR (P:=P) true hE lo hi mx es.length cap hl hh EG c1 hhm.1 hhm.2 hmx;refine⟨_,run (some ⟨b,off,sp⟩) es.length cap l h m' hb, ?_⟩;split at hr
     ·rename_i hz;cases hr;obtain⟨z1,z2,_⟩:=hz;rcases Lt with ⟨rfl,_⟩|⟨_,rfl⟩
      ·cases z1
      have e1:h-l=0:=o?;have e2:m' -l=0:=o?;rw[if_pos z2.symm,e1,e2];exact .o5 _
     cases hr;by_cases dm:es=[]
     ·subst dm;simp only[List.length_nil,Nat.le_zero_eq]at c3;have hh0:h=0:=o?;have hl0:l=0:=o?;subst hh0;subst hl0;have hz:RP w Im (.sl false sz (([]:List (List PV)).take 0 |>.drop 0)) (.slice (some ⟨b,off,sp⟩) (0-0) (m' -0)):=
       .sl sz [] b off (m' -0) (fun _=>undef) (fun h=>absurd rfl h) (B! _) z? (fun i xJ=>by simp at xJ) z? z? sp (fun h=>absurd rfl h)
      have ha:(⟨b,off,sp⟩:Addr).add (0*te.size)=⟨b,off,sp⟩:=by simp[Addr.add]
      split
      ·exact .pv _ _ hz.mk
      simp only[F!,ha];exact .pv _ _ hz.mk
     obtain rfl:=C2 dm;have hlen:((es.take h).drop l).length=h-l:=v?;have key: ∀(a0:Nat),(l<h->a0=off+l*sz)->RP w Im (.sl false sz ((es.take h).drop l)) (.slice (some ⟨b,a0,none⟩) (h-l) (m' -l)):=by
      intro a0 EE;rw[<- hlen];have pY: ∀(i:Nat) e0,((es.take h).drop l)[i]? =some e0->l+i<h/\es[l+i]? =some e0:=by
       intro i e0 hi0;have h1:=(qF hi0).1;rw[v!,V? o?]at hi0;exact⟨o?,hi0⟩
      refine .sl sz _ b a0 (m' -l) (fun i=>vs (l*sz+i)) (fun jz=>QF (fun h0=>jz (by rw[h0];simp))) o? (fun e0 P2=>mr e0 (W? (x! P2))) (fun i xJ=>?_) (fun i e0 j p q1 q2=>hf _ e0 j p (pY i e0 q1).2 q2) (fun i e0 j p q1 q2=>?_) none (fun _=>rfl)
      ·rw[hlen]at xJ;have jz:l<h:=by
        rcases Nat.lt_or_ge l h with h0|h0
        ·exact h0
        have:h-l=0:=o?;rw[this]at xJ;simp at xJ
       rw[EE jz,i!];refine Wg _ ?_;have e1:(l+(h-l))*sz<=es.length*sz:=mulR _ o?;rw[T?]at e1;omega
      obtain⟨_,g⟩:=pY i e0 q1;have:=hrp (l+i) e0 j p g q2;rw[T?]at this;rwa[<- i!]
     by_cases Vs:m' =l
     ·rw[if_pos Vs];exact .pv _ _ (key off (fun h0=>o?)).mk
     rw[if_neg Vs];simp only[F!,add_plain];refine .pv _ _ (RP.mk (key _ (fun h0=>?_)));rcases c4 with rfl|c4
     ·rfl
     subst c4;simp at c3;omega
  {rename_i β xf off n;split at hr;rotate_left;cases hr;rename_i rB hb;split at hr;rotate_left;cases hr;rename_i qu sz k0 hsl;split at hr;rotate_left;cases hr;rename_i l h m hl hh hm;split at hr;rotate_left;cases hr;rename_i hc;obtain⟨jA,c1,c2,c3,c4⟩:=hc;have hxx:=hx;cases hx with|row _ _ _ _ _ b ho js hk hv hh' =>rw[hb]at js;cases js;have hsh:=slv_sh hsl;obtain⟨h1,h2⟩:=hh' _ _ _ hsh jA;cases hn:qu;{(subst hn;simp only[ko,if_false]at h2 hr;obtain⟨a0,rfl,oP,eU,Qm⟩:=h2;obtain⟨ab,ao,DT⟩:=a0;simp only at oP eU Qm;subst oP eU;have hte0:sz=te.size:=by rcases c4 with h|h;exact h;cases h);(have g5:=slv_cap yw hb hsl;have EG: ∃m',kj (ev E) ((ι β).cap-off) mx=some m' /\((mx=none/\m' =(ι β).cap-off)\/(mx≠none/\m' =m)):=by cases mx with|none=>exact⟨_,rfl,.inl ⟨rfl,rfl⟩⟩|some y=>exact⟨m,hm,.inr ⟨z?,rfl⟩⟩);(obtain⟨m',EG,Lt⟩:=EG;have hhm:h<=m' /\m' <=(ι β).cap-off:=by rcases Lt with ⟨rfl,rfl⟩|⟨_,rfl⟩;simp only[kj,ki]at hm;omega;omega);have Fw:=uR (P:=P) true hE lo hi mx n ((ι β).cap-off) hl hh EG c1 hhm.1 hhm.2 hmx;refine⟨_,run _ n _ l h m' Fw, ?_⟩;split at hr;split at hr<;>cases hr;rename_i hz hlm;rcases Lt with ⟨rfl,_⟩|⟨_,rfl⟩;cases hz;have e1:h-l=0:=o?;have e2:m' -l=0:=o?;rw[if_pos hlm.symm,e1,e2];exact .o5 _;rename_i hz;cases hr;rcases Lt with ⟨rfl,rfl⟩|⟨jz,_⟩;rotate_left;(cases mx with|none=>exact absurd rfl jz|some _=>exact absurd rfl hz);refine .row β xf (off+l) (h-l) _ _ (by split<;>rfl) hb hk hv fun qu Sa ov e Hq=>?_;rw[hsh]at e;cases e;refine⟨o?, ?_⟩;simp only[ko,if_false];by_cases Vs:(ι β).cap-off=l;rw[if_pos Vs];exact⟨⟨(ι β).b,ao,none⟩,by rw[q29],rfl,rfl,fun h0=>o?⟩;rw[if_neg Vs];refine⟨⟨(ι β).b,ao+l*te.size,none⟩,by simp only[F!,add_plain];rw[q29],rfl,rfl,fun h0=>?_⟩;have:=Qm o?;subst this;rw[hte0,T?]};subst hn;simp only[if_true]at h2 hr;subst h2;have dm:k0=0:=slv_nil (yw.rB β _ hb) hsl;subst dm;have GJ:n=0:=o?;subst GJ;have hm0:m=0:=o?;subst hm0;have hh0:h=0:=o?;subst hh0;have hl0:l=0:=o?;subst hl0;simp only[Nat.add_zero,q27,ite_self,ki]at hr;subst hr;have Fw:=uR (P:=P) true hE lo hi mx 0 0 hl hh hm (jx _) (jx _) (jx _) hmx;refine⟨_,run none 0 0 0 0 0 Fw, ?_⟩;simpa using hxx};(split at hr<;>cases hr;rename_i hl hh hm;cases hx with|o5 a=>have Fw:=uR (P:=P) true hE lo hi mx 0 0 hl hh hm (jx _) (jx _) (jx _) hmx;refine⟨_,run (some a) 0 0 0 0 0 Fw, ?_⟩;simp;exact .o5 _);cases hr
 cases hr
end
section
variable [xg] {P:Program} {w:World} {H:qr} {ι:yq} {Im:Nat->Prop}
theorem RA.row_inv{β xf off n:Nat}{v:Value}(hx:RA w H ι Im (.row β xf off n) v){qu:Bool}{sz:Nat}{es:List (List PV)}
  (hb:H.get β=some (.row qu sz es)) (hv:xf=es.length):off+n<=es.length/\
    if qu=true then v= .slice none 0 0
    else ∃a,v= .slice (some a) n ((ι β).cap-off)/\a.spot=none/\a.block=(ι β).b/\(off<(ι β).cap->a.off=off*sz):=by cases hx with|row _ _ _ _ _ b ho js hk Hq hh' =>rw[hb]at js;cases js;exact hh' _ _ _ rfl hv
theorem RA.Gb(hi:zc w H ι Im){β xf off n:Nat}{v:Value}(hx:RA w H ι Im (.row β xf off n) v){qu:Bool}{sz:Nat}{es:List (List PV)}
  (hb:H.get β=some (.row qu sz es)) (hv:xf=es.length): ∃a c,v= .slice a n c/\a.isNone=qu:=by
 obtain⟨h1,h2⟩:=hx.row_inv hb hv;cases qu;simp only[ko,if_false]at h2;obtain⟨a,rfl,_⟩:=h2;exact⟨_,_,rfl,rfl⟩;simp only[if_true]at h2;subst h2;have dm:es=[]:=hi.rB β _ hb;subst dm;have:n=0:=by simp at h1;omega
 subst this;exact⟨_,_,rfl,rfl⟩
theorem RA.Ot{β xf off n:Nat}{v:Value}(hx:RA w H ι Im (.row β xf off n) v){sz:Nat}{es:List (List AV)}
  (hb:H.get β=some (.mB sz es)) (hv:xf=es.length): ∃a c,v= .slice a n c:=by cases hx with|row _ _ _ _ _ b ho js hk jA h=>rw[hb]at js;cases js;obtain⟨h1,h2⟩:=h _ _ _ rfl hv;simp only[ko,if_false]at h2;obtain⟨a,rfl,_⟩:=h2;exact⟨_,_,rfl⟩
theorem RA.q0Q(hi:zc w H ι Im){β xf off n:Nat}{v:Value}(hx:RA w H ι Im (.row β xf off n) v){qu:Bool}{ds:List Nat}{es:List PV}{lg:Option (Nat×Nat×Nat)}
  (hb:H.get β=some (.jf qu ds es lg)) (hv:xf=es.length): ∃a c,v= .slice a n c:=by cases hx with|row _ _ _ _ _ b ho js hk jA h=>rw[hb]at js;cases js;obtain⟨h1,h2⟩:=h _ _ _ rfl hv;cases qu with|false=>simp only[ko,if_false]at h2;obtain⟨a,rfl,_⟩:=h2;exact⟨_,_,rfl⟩|true=>(simp only[if_true]at h2;subst h2;have dm:es=[]:=(hi.rB β _ hb).1;subst dm;have:n=0:=by simp at h1;omega);subst this;exact⟨_,_,rfl⟩
theorem aLen_ok{t:TypeId}{ti:TI}(ht:zN P t ti)(hi:zc w H ι Im){x:AV}{v:Value}(hx:RA w H ι Im x v)(tt:TypeId){n:Nat}(jw:X2 ti.td x=true)(hr:Br x H=some n):
  (Builtin.len_ #[t] tt #[v]).run P w= .ok (.int .i64 n) w:=by
 unfold Br at hr;unfold Builtin.len_;simp only[I?,c?,jT];split at hr
 ·rename_i s;cases hr;cases hx with
  |pv _ _ h=>cases h with
   |str=>
    have kN:ti.td= .string:=by
     cases h:ti.td<;>simp[X2,h]at jw |-
    simp only[qx (ht.string kN),me,goInt];rfl
 (rename_i qu sz es;cases hr;have kN: ∃e,ti.td= .slice e:=by cases h:ti.td<;>simp[X2,h]at jw |-);(obtain⟨e,kN⟩:=kN;simp only[qx (ht.slice kN),me];cases hx with|pv _ _ h=>cases h<;>rfl);(cases hr;have kN: ∃k e,ti.td= .map k e:=by cases h:ti.td<;>simp[X2,h]at jw |-);(obtain⟨k,e,kN⟩:=kN;simp only[qx (ht.map kN),me];cases hx with|pv _ _ h=>cases h;rfl);(cases hr;have kN: ∃e,ti.td= .slice e:=by cases h:ti.td<;>simp[X2,h]at jw |-);(obtain⟨e,kN⟩:=kN;simp only[qx (ht.slice kN),me];cases hx with|o5 a=>rfl);(rename_i β xf off m;have kN: ∃e,ti.td= .slice e:=by cases h:ti.td<;>simp[X2,h]at jw |-);obtain⟨e,kN⟩:=kN;simp only[qx (ht.slice kN),me];split at hr;rename_i qu sz es hb;split at hr<;>cases hr;rename_i jA;obtain⟨a,c,rfl,_⟩:=hx.Gb hi hb jA;rfl;rename_i sz es hb;split at hr<;>cases hr;rename_i jA;obtain⟨a,c,rfl⟩:=hx.Ot hb jA;rfl;rename_i qu ds es lg hb;split at hr<;>cases hr;rename_i jA;obtain⟨a,c,rfl⟩:=hx.q0Q hi hb jA;rfl;cases hr;(rename_i β;split at hr<;>cases hr;rename_i es zR hb;have kN: ∃k e,ti.td= .map k e:=by cases h:ti.td<;>simp[X2,h]at jw |-);(obtain⟨k,e,kN⟩:=kN;simp only[qx (ht.map kN),me];cases hx with|map _ ov KY js=>(obtain⟨xi,h1,h2,h3⟩:=hi.rB β _ hb;have:(getObj (ι β).b).run P w= .ok (.map ⟨xi⟩ zR) w:=by simp[getObj,M_,h1]);simp only[jT,this,me];simp[goInt,h2]);cases hr
theorem FR{op:BinOp}{k:IntKind}{x y:Int}{p:PV}(X0:op≠ .shl/\op≠ .shr)(t:TypeId)(hr:Ht op k x y=some p):
  ∃u,(binOp op t (.int k x) (.int k y)).run P w= .ok u w/\RP w Im p u:=by
 unfold Ht at hr;cases op<;>simp only[reduceCtorEq]at hr;case add=>cases hr;exact⟨.int k (k.wrap (x+y)),by simp[binOp,Op.intArith],.int _ _⟩
 case sub=>cases hr;exact⟨.int k (k.wrap (x-y)),by simp[binOp,Op.intArith],.int _ _⟩
 case mul=>cases hr;exact⟨.int k (k.wrap (x*y)),by simp[binOp,Op.intArith],.int _ _⟩
 case quo=>split at hr<;>cases hr;rename_i h0;exact⟨.int k (k.wrap (x.tdiv y)),by simp[binOp,Op.intDiv,h0],.int _ _⟩
 case rem=>split at hr<;>cases hr;rename_i h0;exact⟨.int k (x.tmod y),by simp[binOp,Op.intDiv,h0],.int _ _⟩
 case eql=>cases hr;exact⟨.bool (x==y),by simp[binOp,Op.intCmp],.bool _⟩
 case neq=>cases hr;exact⟨.bool (x != y),by simp[binOp,Op.intCmp],.bool _⟩
 case lss=>cases hr;exact⟨.bool (decide (x<y)),by simp[binOp,Op.intCmp],.bool _⟩
 case leq=>cases hr;exact⟨.bool (decide (x<=y)),by simp[binOp,Op.intCmp],.bool _⟩
 case gtr=>cases hr;exact⟨.bool (decide (x>y)),by simp[binOp,Op.intCmp],.bool _⟩
 case geq=>cases hr;exact⟨.bool (decide (x>=y)),by simp[binOp,Op.intCmp],.bool _⟩
 case and=>cases hr;exact⟨_,by simp[binOp,Op.intBits],.int _ _⟩
 case or=>cases hr;exact⟨_,by simp[binOp,Op.intBits],.int _ _⟩
 case xor=>cases hr;exact⟨_,by simp[binOp,Op.intBits],.int _ _⟩
 case andNot=>cases hr;exact⟨_,by simp[binOp,Op.intBits],.int _ _⟩
theorem pq: ∀a b:List UInt8,Op.bytesLess a b=ka a b
 |[],[]=>rfl
 |_::_,[]=>rfl
 |[],_::_=>rfl
 |a::x,b::y=>by simp[Op.bytesLess,ka,pq x y]
theorem Ec{op:BinOp}{x y:List UInt8}{p:PV}(t:TypeId)(hr:Gn op x y=some p):
  ∃u,(binOp op t (.string ⟨⟨x⟩⟩) (.string ⟨⟨y⟩⟩)).run P w= .ok u w/\RP w Im p u:=by
 unfold Gn at hr;cases op<;>simp only[reduceCtorEq]at hr
 case add=>
  split at hr<;>cases hr;rename_i hl;refine⟨.string ⟨⟨x++y⟩⟩, ?_,.str _⟩;have h2:(ByteArray.mk ⟨x⟩++ByteArray.mk ⟨y⟩:ByteArray)=⟨⟨x++y⟩⟩:=by
   apply ByteArray.ext;apply D!;simp
  simp[binOp,Op.stringOp,h2];show(x.length:Int)+(y.length:Int)<=_;omega
 case eql=>cases hr;exact⟨.bool (x==y),by simp[binOp,Op.stringOp],.bool _⟩
 case neq=>cases hr;exact⟨.bool (!(x==y)),by simp[binOp,Op.stringOp],.bool _⟩
 case lss=>cases hr;exact⟨.bool (ka x y),by simp[binOp,Op.stringOp,pq],.bool _⟩
 case leq=>cases hr;exact⟨.bool (ka x y || x==y),by simp[binOp,Op.stringOp,pq],.bool _⟩
 case gtr=>cases hr;exact⟨.bool (!(ka x y || x==y)),by simp[binOp,Op.stringOp,pq],.bool _⟩
 case geq=>cases hr;exact⟨.bool (!ka x y),by simp[binOp,Op.stringOp,pq],.bool _⟩
theorem aUn_ok{op:UnOp}{x:AV}{v:Value}(hx:RA w H ι Im x v){p:PV}(hr:aUn op x=some p): ∃u,(Op.unary op v).run P w= .ok u w/\RP w Im p u:=by unfold aUn at hr;split at hr<;>cases hr;(cases hx with|pv _ _ h=>cases h;exact⟨_,by simp[Op.unary],.bool _⟩);cases hx with|pv _ _ h=>cases h;exact⟨_,by simp[Op.unary,Op.intArith],.int _ _⟩
theorem Wx(isMax:Bool)(k:IntKind): ∀(l:List AV)(a:Int)(vs:List Value),l.length=vs.length->(∀(i:Nat) x v,l[i]? =some x->vs[i]? =some v->RA w H ι Im x v)->
  ∀{p:PV},oG isMax k a l=some p-> ∃u,(vs.foldlM (if isMax then Builtin.max2 else Builtin.min2) (.int k a)).run P w= .ok u w/\RP w Im p u
 |[],a,vs,hl,_,p,h=>by
  have:vs=[]:=by simpa using hl.symm
  subst this;cases h;exact⟨.int k a,z?,.int _ _⟩
 |x::r,a,vs,hl,hR,p,h=>by
  cases vs with
  |nil=>simp at hl
  |cons v vr=>
   have hx:=hR 0 x v z? z?;cases x with
   |pv p0=>cases p0 with
    |int k' b=>
     simp only[oG]at h;cases hx with
     |pv _ _ hp=>cases hp with
      |int=>
       obtain⟨u,g1,g2⟩:=Wx isMax k r _ vr (by simpa using hl) (fun i x v h1 h2=>hR (i+1) x v (by simpa using h1) (by simpa using h2)) h;refine⟨u, ?_,g2⟩;cases isMax
       ·simp only[ko,if_false,q1a,jT,Builtin.min2,K?,me]at g1 |-;exact g1
       simp only[if_true,q1a,jT,Builtin.max2,K?,me]at g1 |-;exact g1
    |_=>simp[oG]at h
   |_=>simp[oG]at h
theorem zN.ptr{t:TypeId}{ti:TI}(ht:zN P t ti)(h:ti.td= .ptr): ∃e,P.underlying t=some (.pointer e):=by obtain⟨d,h1,h2⟩:=ht.und;rw[h]at h2;cases d<;>simp[K8]at h2;exact⟨_,h1⟩
theorem zN.func{t:TypeId}{ti:TI}(ht:zN P t ti)(h:ti.td= .func): ∃a b c,P.underlying t=some (.func a b c):=by obtain⟨d,h1,h2⟩:=ht.und;rw[h]at h2;cases d<;>simp[K8]at h2;exact⟨_,_,_,h1⟩
theorem Gf{t:TypeId}{ti:TI}(ht:zN P t ti)(h:ti.isAgg=false):P.cellsOf t=1:=by
 rw[ht.cellsOf];obtain⟨i,z,h1,h2,h3,h4,h5,h6⟩:=ht.info;have hl:=ht.len;have hz:Zh z=false:=by rw[h6];unfold q21 at h;unfold TD.isAgg;exact h
 have hc:z.cells= #[z]:=by cases z<;>simp[Zh]at hz<;>rfl
 rw[hc]at h5;have h5' :ie [z]=some ti.zero:=h5;have one: ∀l,ie [z]=some l->l.length=1:=by intro l h;unfold ie at h;split at h<;>cases h;rename_i p l e1 e2;unfold ie at e2;cases e2;rfl
 rw[<- hl];exact one _ h5'
theorem Yu{G:TypeId->Option TI}(hG: ∀t ti,G t=some ti->zN P t ti)(d:Nat)(xs ys:Array Value): ∀(fs:List Field)(i:Nat)(a b:List PV),
  aU P i fs=true->aO G (fs.map fun f=>(f.offset,P.cellsOf f.type,f.type)) a=true->
  (∀(j:Nat) p v,a[j]? =some p->xs[i+j]? =some v->RP w Im p v)->(∀(j:Nat) p v,b[j]? =some p->ys[i+j]? =some v->RP w Im p v)->
  i+a.length<=xs.size->i+b.length<=ys.size-> ∀{r:Bool},uX a b=some r->(Op.eqFields (d+1) xs ys fs).run P w= .ok r w
 |[],i,a,b,_,hl,_,_,_,_,r,h=>by cases a with|cons p a=>simp[aO]at hl|nil=>cases b<;>simp[uX]at h;subst h;simp[Op.eqFields]
 |f::fs,i,a,b,hp,hl,ha,hb,hxs,hys,r,h=>by
  simp only[aU,zO,bne_iff_ne,ne_eq,beq_iff_eq]at hp;obtain⟨⟨hn,l7⟩,hp⟩:=hp;cases a with
  |nil=>simp[aO]at hl
  |cons p a=>
  simp only[s?,aO,zO]at hl;obtain⟨Hp,hl⟩:=hl;split at Hp;rotate_left
  ·cases Hp
  rename_i tif htif;have htf:=hG _ _ htif;cases b with
  |nil=>cases p<;>simp[uX]at h
  |cons q b=>
  simp only[h?]at hxs hys;obtain⟨x,hx⟩: ∃x,xs[i]? =some x:=⟨xs[i]'(o?),z?⟩;obtain⟨y,hy⟩: ∃y,ys[i]? =some y:=⟨ys[i]'(o?),z?⟩;have hpx:=ha 0 p x z? (by simpa using hx);have hqy:=hb 0 q y z? (by simpa using hy);have hagg:tif.isAgg=false:=by
   unfold q21;cases jw:tif.td<;>simp[jN,jw]at Hp |-
  rw[Gf htf hagg]at hp;have rest: ∀{t:Bool},uX a b=some t->(Op.eqFields (d+1) xs ys fs).run P w= .ok t w:=fun ht=>
   Yu hG d xs ys fs (i+1) a b hp hl (fun j p v h1 h2=>ha (j+1) p v (by simpa using h1) (by rwa[show i+(j+1)=i+1+j from o?]))
    (fun j p v h1 h2=>hb (j+1) p v (by simpa using h1) (by rwa[show i+(j+1)=i+1+j from o?])) o? o? ht
  have part1: ∀(cs:Array Value)(v:Value),cs[i]? =some v->(part f.type cs f.offset).run P w= .ok v w:=by
   intro cs v hv;unfold part;simp only[l7,jT,htf.isAgg,hagg,me,ko,if_false,hv,K?]
  have step: ∀(t u:Bool),(Op.equalIn (d+1) f.type x y).run P w= .ok t w->uX a b=some u->(Op.eqFields (d+1) xs ys (f::fs)).run P w= .ok (t&&u) w:=by
   intro t u h1 h2;simp only[Op.eqFields,hn,not_false_eq_true,ne_eq,if_true,jT,part1 xs x hx,part1 ys y hy,me,h1];cases t
   ·simp
   simp[rest h2]
  cases p with
  |int k n=>cases q with
   |int k' n' =>
    simp only[uX]at h;split at h;rotate_left
    ·cases h
    rename_i hk;subst hk;split at h<;>cases h;rename_i t ht;refine step _ _ ?_ ht;cases hpx;cases hqy;obtain⟨k0,jw⟩: ∃k0,tif.td= .int k0:=by cases jw:tif.td<;>simp[jN,jw]at Hp |-
    exact run_equalIn_int w d f.type k k0 n n' (htf.int jw)
   |_=>simp[uX]at h
  |str s=>cases q with
   |str s' =>
    simp only[uX]at h;split at h<;>cases h;rename_i t ht;refine step _ _ ?_ ht;cases hpx;cases hqy;have jw:tif.td= .string:=by cases jw:tif.td<;>simp[jN,jw]at Hp |-
    have:=run_equalIn_string w d f.type ⟨⟨s⟩⟩ ⟨⟨s'⟩⟩ (htf.string jw);simpa using this
   |_=>simp[uX]at h
  |bool x1=>cases q with
   |bool x2=>
    simp only[uX]at h;split at h<;>cases h;rename_i t ht;refine step _ _ ?_ ht;cases hpx;cases hqy;have jw:tif.td= .bool:=by cases jw:tif.td<;>simp[jN,jw]at Hp |-
    exact run_equalIn_bool' w d f.type x1 x2 (htf.bool jw)
   |_=>simp[uX]at h
  |_=>simp[uX]at h
def Z9:Value->Bool
 | .bool _| .agg _| .slice _ _ _| .pointer _| .map _| .func _ _ _| .nilFunc=>true
 |_=>false
theorem binOp_eql{t:TypeId}{x y:Value}(h:Z9 x=true):(binOp .eql t x y).run P w=((Op.equal t x y).run P w).andThen fun b w' => .ok (.bool b) w' :=by cases x<;>simp[Z9]at h<;>simp[binOp]
theorem binOp_neq{t:TypeId}{x y:Value}(h:Z9 x=true):(binOp .neq t x y).run P w=((Op.equal t x y).run P w).andThen fun b w' => .ok (.bool (!b)) w' :=by cases x<;>simp[Z9]at h<;>simp[binOp]
theorem QO(d:Nat){t e:TypeId}(hu:P.underlying t=some (.slice e))(a:Option Addr)(n c n' c' :Nat):
  (Op.equalIn (d+1) t (.slice a n c) (.slice none n' c')).run P w= .ok a.isNone w/\(Op.equalIn (d+1) t (.slice none n' c') (.slice a n c)).run P w= .ok a.isNone w:=by cases a<;>simp[Op.equalIn,qx hu]
theorem Jl(d:Nat){t e:TypeId}(hu:P.underlying t=some (.pointer e))(a:Option Addr):
  (Op.equalIn (d+1) t (.pointer a) (.pointer none)).run P w= .ok a.isNone w/\(Op.equalIn (d+1) t (.pointer none) (.pointer a)).run P w= .ok a.isNone w:=by cases a<;>simp[Op.equalIn,qx hu]
theorem Jk(d:Nat){t k e:TypeId}(hu:P.underlying t=some (.map k e))(a:Option Nat):
  (Op.equalIn (d+1) t (.map a) (.map none)).run P w= .ok a.isNone w/\(Op.equalIn (d+1) t (.map none) (.map a)).run P w= .ok a.isNone w:=by cases a<;>simp[Op.equalIn,qx hu]
theorem ou(d:Nat){t:TypeId}{p1 p2 p3}(hu:P.underlying t=some (.func p1 p2 p3))(f:Fn)(a b:Array Value):
  (Op.equalIn (d+1) t (.func f a b) .nilFunc).run P w= .ok false w/\(Op.equalIn (d+1) t .nilFunc (.func f a b)).run P w= .ok false w/\
  (Op.equalIn (d+1) t .nilFunc .nilFunc).run P w= .ok true w:=by simp[Op.equalIn,qx hu]
theorem Oh{G:TypeId->Option TI}(hG: ∀t ti,G t=some ti->zN P t ti){t:TypeId}{ti:TI}(ht:zN P t ti)(hi:zc w H ι Im){x y:AV}{vx vy:Value}
  (hx:RA w H ι Im x vx) (hy:RA w H ι Im y vy) (ox oy:Operand) {r:Bool} (hr:aEq G ti x y H=some r):
  (eqGuard .eql t ox oy vx vy).run P w= .ok () w/\(eqGuard .neq t ox oy vx vy).run P w= .ok () w/\(Op.equal t vx vy).run P w= .ok r w/\Z9 vx=true:=by
 have sM: ∀(vx vy:Value),(∀ c d,¬ (vx= .agg c/\vy= .agg d))-> ¬(vx= .nilIface/\vy= .nilIface)-> ∀op,(eqGuard op t ox oy vx vy).run P w= .ok () w:=by intro vx vy h1 h2 op;unfold eqGuard;cases vx<;>cases vy<;>simp_all
 unfold aEq at hr;split at hr;(rename_i jw;split at hr<;>cases hr;rename_i b1 b2;cases hx with|pv _ _ hx=>cases hy with|pv _ _ hy=>cases hx;cases hy;refine⟨sM _ _ z? z? _,sM _ _ z? z? _, ?_⟩;exact⟨run_equalIn_bool' w 9999 t b1 b2 (ht.bool jw),rfl⟩)
 ·rename_i fs jw;obtain⟨fields,hu,rfl⟩:=ht.struct jw;split at hr;rotate_left;cases hr;rename_i a b;split at hr;rotate_left;cases hr
  rename_i hc;obtain⟨heq,sE⟩:=hc;have hek:=ht.eqk;rw[heq]at hek;have hek:=hek.symm;unfold eqok at hek;rw[hu]at hek;simp only[zO,Bool.not_eq_true']at hek;obtain⟨⟨e1,e2⟩,e3⟩:=hek;cases hx with|pv _ _ hx=>cases hy with|pv _ _ hy=>
  cases hx with|agg _ xs hlx _ hxx=>cases hy with|agg _ ys hly _ hyy=>
  (refine⟨run_eqGuard_agg w .eql t ox oy _ _ e2,run_eqGuard_agg w .neq t ox oy _ _ e2, ?_,rfl⟩;have hfo:P.underlying t=some (.struct (P.fieldsOf t)):=by simp[Program.fieldsOf,hu]);have hfe:P.fieldsOf t=fields:=by simp[Program.fieldsOf,hu]
  have:=run_equalIn_struct w 9999 t ⟨xs⟩ ⟨ys⟩ hfo e1;unfold Op.equal;show(Op.equalIn (9999+1) t _ _).run P w=_;rw[this,hfe];exact Yu hG 9998 ⟨xs⟩ ⟨ys⟩ fields.toList 0 a b e3 sE (fun j p v h1 h2=>hxx j p v h1 (by simpa using h2)) (fun j p v h1 h2=>hyy j p v h1 (by simpa using h2))
   (by simp[hlx]) (by simp[hly]) hr
 rename_i td hnb FC;have nilOf: ∀{z:AV}{vz:Value},RA w H ι Im z vz-> ∀{q:Bool},di ti.td z H=some q->
   (∃ e,ti.td= .slice e/\ ∃a n c,vz= .slice a n c/\a.isNone=q)\/(ti.td= .ptr/\ ∃a,vz= .pointer a/\a.isNone=q)\/
   ((∃ k e,ti.td= .map k e)/\ ∃a,vz= .map a/\a.isNone=q)\/(ti.td= .func/\((vz= .nilFunc/\q=true)\/ ∃f a b,vz= .func f a b/\q=false)):=by
  intro z vz hz q hq;unfold di at hq;split at hq
  ·rename_i jw;refine .inr (.inl ⟨jw, ?_⟩);split at hq<;>cases hq
   ·cases hz with|pv _ _ h=>cases h;exact⟨_,rfl,rfl⟩
   ·cases hz;exact⟨_,rfl,rfl⟩
   ·cases hz;exact⟨_,rfl,rfl⟩
   ·cases hz;exact⟨_,rfl,rfl⟩
   cases hz with|pv _ _ h=>cases h;exact⟨_,rfl,rfl⟩
  ·rename_i e jw;refine .inl ⟨e,jw, ?_⟩;split at hq
   ·cases hq;cases hz with|pv _ _ h=>
    cases h
    ·exact⟨_,_,_,rfl,rfl⟩
    exact⟨_,_,_,rfl,rfl⟩
   ·cases hq;cases hz;exact⟨_,_,_,rfl,rfl⟩
   ·rename_i β xf off n;split at hq;rotate_left
    ·cases hq
    rename_i qu sz es hb;split at hq<;>cases hq;rename_i hv;obtain⟨a,c,rfl,hn⟩:=hz.Gb hi hb hv;exact⟨_,_,_,rfl,hn⟩
   cases hq
  ·rename_i k e jw;refine .inr (.inr (.inl ⟨⟨k,e,jw⟩, ?_⟩));split at hq<;>cases hq
   ·cases hz with|pv _ _ h=>cases h;exact⟨_,rfl,rfl⟩
   cases hz;exact⟨_,rfl,rfl⟩
  ·rename_i jw;refine .inr (.inr (.inr ⟨jw, ?_⟩));split at hq<;>cases hq
   ·cases hz with|pv _ _ h=>cases h;exact .inl ⟨rfl,rfl⟩
   ·cases hz with|pv _ _ h=>cases h;exact .inr ⟨_,_,_,rfl,rfl⟩
   cases hz;exact .inr ⟨_,_,_,rfl,rfl⟩
  cases hq
 have isNil: ∀{z:AV}{vz:Value},RA w H ι Im z vz->Wt ti.td z=true->di ti.td z H=some true:=by intro z vz hz h;unfold Wt at h;split at h<;>rename_i h1<;>first|(rw [h1];rfl)|cases h
 have main: ∀{z z' :AV}{vz vz' :Value},RA w H ι Im z vz->RA w H ι Im z' vz' ->di ti.td z H=some r->di ti.td z' H=some true->
   (∀ c d,¬ (vz= .agg c/\vz' = .agg d))/\(∀ c d,¬ (vz' = .agg c/\vz= .agg d))/\ ¬(vz= .nilIface/\vz' = .nilIface)/\ ¬(vz' = .nilIface/\vz= .nilIface)/\
   (Op.equal t vz vz').run P w= .ok r w/\(Op.equal t vz' vz).run P w= .ok r w/\Z9 vz=true/\Z9 vz' =true:=by
  intro z z' vz vz' hz hz' h1 h2;have g1:=nilOf hz h1;have g2:=nilOf hz' h2;unfold Op.equal;rcases g1 with ⟨e,jw,a,n,c,rfl,hn⟩|⟨jw,a,rfl,hn⟩|⟨⟨k,e,jw⟩,a,rfl,hn⟩|⟨jw,g1⟩
  ·rcases g2 with ⟨e',kN,a',n',c',rfl,FB⟩|⟨kN,_⟩|⟨⟨k',e',kN⟩,_⟩|⟨kN,_⟩;rotate_left
   ·rw[jw]at kN;cases kN
   ·rw[jw]at kN;cases kN
   ·rw[jw]at kN;cases kN
   have:a' =none:=by simpa using FB
   subst this hn;exact⟨z?,z?,z?,z?,(QO 9999 (ht.slice jw) a n c n' c').1,(QO 9999 (ht.slice jw) a n c n' c').2,rfl,rfl⟩
  ·obtain⟨e,hu⟩:=ht.ptr jw;rcases g2 with ⟨e',kN,_⟩|⟨kN,a',rfl,FB⟩|⟨⟨k',e',kN⟩,_⟩|⟨kN,_⟩
   ·rw[jw]at kN;cases kN
   rotate_left
   ·rw[jw]at kN;cases kN
   ·rw[jw]at kN;cases kN
   have:a' =none:=by simpa using FB
   subst this hn;exact⟨z?,z?,z?,z?,(Jl 9999 hu a).1,(Jl 9999 hu a).2,rfl,rfl⟩
  ·rcases g2 with ⟨e',kN,_⟩|⟨kN,_⟩|⟨⟨k',e',kN⟩,a',rfl,FB⟩|⟨kN,_⟩
   ·rw[jw]at kN;cases kN
   ·rw[jw]at kN;cases kN
   rotate_left
   ·rw[jw]at kN;cases kN
   have:a' =none:=by simpa using FB
   subst this hn;exact⟨z?,z?,z?,z?,(Jk 9999 (ht.map jw) a).1,(Jk 9999 (ht.map jw) a).2,rfl,rfl⟩
  obtain⟨p1,p2,p3,hu⟩:=ht.func jw;rcases g2 with ⟨e',kN,_⟩|⟨kN,_⟩|⟨⟨k',e',kN⟩,_⟩|⟨kN,g2⟩
  ·rw[jw]at kN;cases kN
  ·rw[jw]at kN;cases kN
  ·rw[jw]at kN;cases kN
  rcases g2 with ⟨rfl,_⟩|⟨_,_,_,_,h⟩;rotate_left
  ·cases h
  rcases g1 with ⟨rfl,rfl⟩|⟨f,a,b,rfl,rfl⟩
  ·have:=(ou (P:=P) (w:=w) 9999 hu (.func 0) #[] #[]).2.2;exact⟨z?,z?,z?,z?,this,this,rfl,rfl⟩
  exact⟨z?,z?,z?,z?,(ou 9999 hu f a b).1,(ou 9999 hu f a b).2.1,rfl,rfl⟩
 split at hr;rename_i hn;obtain⟨m1,m2,m3,m4,m5,m6,m7,m8⟩:=main hx hy hr (isNil hy hn);exact⟨sM _ _ m1 m3 _,sM _ _ m1 m3 _,m5,m7⟩;split at hr;rename_i hn;obtain⟨m1,m2,m3,m4,m5,m6,m7,m8⟩:=main hy hx hr (isNil hx hn);exact⟨sM _ _ m2 m4 _,sM _ _ m2 m4 _,m6,m8⟩;cases hr
theorem aBin_ok{G:TypeId->Option TI}(hG: ∀t ti,G t=some ti->zN P t ti){t:TypeId}{ti:TI}(ht:zN P t ti)(hi:zc w H ι Im){x y:AV}{vx vy:Value}
  (hx:RA w H ι Im x vx) (hy:RA w H ι Im y vy) (op:BinOp) (ox oy:Operand) {p:PV} (hr:PJ G op ti x y H=some p):
  ∃u,(eqGuard op t ox oy vx vy).run P w= .ok () w/\(binOp op t vx vy).run P w= .ok u w/\RP w Im p u:=by
 have Wr: ∀(k k' :IntKind)(a b:Int)(op:BinOp),(eqGuard op t ox oy (.int k a) (.int k' b)).run P w= .ok () w:=by intro k k' a b op;unfold eqGuard;cases op<;>simp
 have strGuard: ∀(a b:ByteArray)(op:BinOp),(eqGuard op t ox oy (.string a) (.string b)).run P w= .ok () w:=by intro a b op;unfold eqGuard;cases op<;>simp
 unfold PJ at hr;split at hr;{split at hr;rotate_left;cases hr;rename_i k a k' b;split at hr<;>cases hr;rename_i h0;cases hx with|pv _ _ hx=>cases hy with|pv _ _ hy=>cases hx;cases hy;have: ¬b<0:=o?;exact⟨_,Wr _ _ _ _ _,by simp[binOp,Op.shift,this],.int _ _⟩};{split at hr;rotate_left;cases hr;rename_i k a k' b;split at hr<;>cases hr;rename_i h0;cases hx with|pv _ _ hx=>cases hy with|pv _ _ hy=>cases hx;cases hy;have: ¬b<0:=o?;exact⟨_,Wr _ _ _ _ _,by simp[binOp,Op.shift,this],.int _ _⟩};rename_i h1 h2;split at hr;{rename_i k a k' b;split at hr;rotate_left;cases hr;rename_i hk;subst hk;cases hx with|pv _ _ hx=>cases hy with|pv _ _ hy=>cases hx;cases hy;obtain⟨u,g1,g2⟩:=FR (P:=P) (w:=w) (Im:=Im) ⟨h1,h2⟩ t hr;exact⟨u,Wr _ _ _ _ _,g1,g2⟩};(cases hx with|pv _ _ hx=>cases hy with|pv _ _ hy=>cases hx;cases hy;obtain⟨u,g1,g2⟩:=Ec (P:=P) (w:=w) (Im:=Im) t hr;exact⟨u,strGuard _ _ _,g1,g2⟩);rename_i x y hni FC;split at hr;split at hr<;>cases hr;rename_i b hb;obtain⟨g1,g2,g3,g4⟩:=Oh hG ht hi hx hy ox oy hb;exact⟨.bool b,g1,by rw[binOp_eql g4,g3];rfl,.bool _⟩;split at hr<;>cases hr;rename_i b hb;obtain⟨g1,g2,g3,g4⟩:=Oh hG ht hi hx hy ox oy hb;exact⟨.bool (!b),g2,by rw[binOp_neq g4,g3];rfl,.bool _⟩;cases hr
end
section
variable [xg] {P:Program} {w:World} {H:qr} {ι:yq} {Im:Nat->Prop}
theorem RA.gC{p:PV}{v:Value}(h:RA w H ι Im (.pv p) v):RP w Im p v:=by cases h;assumption
theorem KR: ∀(es:List (List PV))(l:List UInt8),pr es=some l-> ∀(cs:Nat->Option Value)(k:Nat),(∀(i:Nat) e(j:Nat) p,es[i]? =some e->e[j]? =some p-> ∃v,cs (k+i)=some v/\RP w Im p v/\j=0)->
  es.length=l.length/\ ∀i,i<es.length-> ∃n:Int,cs (k+i)=some (.int .u8 n)/\l[i]? =some (UInt8.ofNat n.toNat)
 |[],l,h,cs,k,_=>by simp only[pr,ki]at h;subst h;simp
 |e::r,l,h,cs,k,hc=>by
  unfold pr at h;split at h;cases ‹_::_=[]›
  ·rename_i n r' heq;obtain⟨rfl,rfl⟩:e=[.int .u8 n]/\r=r' :=by simpa using heq
   split at h<;>cases h;rename_i l' hl;obtain⟨h1,h2⟩:=KR r l' hl cs (k+1) (fun i e j p a b=>by
    have:=hc (i+1) e j p (by simpa using a) b
    rwa[show k+(i+1)=k+1+i from o?]at this)
   refine⟨by simp[h1],fun i hi=>?_⟩;cases i with|zero=>obtain⟨v,g1,g2,_⟩:=hc 0 [.int .u8 n] 0 (.int .u8 n) z? z?;cases g2;exact⟨n,g1,z?⟩|succ i=>simp only[h?]at hi;obtain⟨n',g1,g2⟩:=h2 i o?;exact⟨n',by rwa[show k+(i+1)=k+1+i from o?],by simpa using g2⟩
  cases h
theorem QW(g:Value->ByteArray->Sem (ForInStep ByteArray))(hg: ∀n s,g (.int .u8 n) s=pure (.yield (s.push (UInt8.ofNat n.toNat)))):
  ∀(l:List Value)(acc:ByteArray)(out:List UInt8),l.length=out.length->
  (∀(i:Nat) v b,l[i]? =some v->out[i]? =some b-> ∃n:Int,v= .int .u8 n/\b=UInt8.ofNat n.toNat)->
  (forIn l acc g).run P w= .ok ⟨⟨acc.data.toList++out⟩⟩ w
 |[],acc,out,hl,_=>by (have:out=[]:=by simpa using hl.symm);subst this;simp
 |v::r,acc,out,hl,h=>by cases out with|nil=>simp at hl|cons b out=>obtain⟨n,rfl,rfl⟩:=h 0 v b z? z?;have ih:=QW g hg r (acc.push (UInt8.ofNat n.toNat)) out (by simpa using hl) (fun i v b h1 h2=>h (i+1) v b (by simpa using h1) (by simpa using h2));simp only[List.forIn_cons,hg,jT,Sem.run_pure,me,ih];simp
theorem BU{src dst:TypeId}{d1:TypeDesc}{k:IntKind}(h1:P.underlying src=some d1)(h2:P.underlying dst=some (.int k))(kd:IntKind)(n:Int):
  (convert src dst (.int kd n)).run P w= .ok (.int k (k.wrap n)) w:=by unfold convert;simp only[jT,qx h1,qx h2,me];rfl
theorem BV{src dst:TypeId}{d1:TypeDesc}(h1:P.underlying src=some d1)(h2:P.underlying dst=some .string)(s:ByteArray):
  (convert src dst (.string s)).run P w= .ok (.string s) w:=by unfold convert;simp only[jT,qx h1,qx h2,me];rfl
theorem VO{src dst e:TypeId}(h1:P.underlying src=some (.slice e))(h2:P.underlying dst=some .string)(h3:P.underlying e=some (.int .u8))(a:Option Addr)(n c:Nat):
  (convert src dst (.slice a n c)).run P w=(Conv.bytesToString (.slice a n c)).run P w:=by unfold convert;simp only[jT,qx h1,qx h2,me,qx h3]
theorem JR{src dst e:TypeId}{d1:TypeDesc}(h1:P.underlying src=some d1)(h2:P.underlying dst=some (.slice e))(h3:P.underlying e=some (.int .u8))(s:ByteArray):
  (convert src dst (.string s)).run P w=(Conv.stringToBytes e s).run P w:=by unfold convert;simp only[jT,qx h1,qx h2,me,qx h3]
theorem zN.undS{t:TypeId}{ti:TI}(ht:zN P t ti): ∃d,P.underlying t=some d:=by obtain⟨d,h,_⟩:=ht.und;exact⟨d,h⟩
theorem Bm{G:TypeId->Option TI}(hG: ∀t ti,G t=some ti->zN P t ti){src dst:TypeId}{ts td:TI}(hs:zN P src ts)(hd:zN P dst td)
  (hi:zc w H ι Im) {nx:Nat} {X:Nat->Prop} (xY:Bd X H nx) {x:AV} {v:Value} (hx:RA w H ι Im x v) {r:mC} (hr:rI ts.td td.td G x H nx=some r) (hX: ∀γ,X γ->r.2.2<=γ):
  ∃u w',(convert src dst v).run P w= .ok u w' /\tD X w H ι Im nx r u w' :=by
 obtain⟨d1,hu1⟩:=hs.undS;unfold rI at hr;split at hr;rename_i k kd n jw;cases hr;have h:=hx.gC;cases h;exact⟨.int k (k.wrap n),w,BU hu1 (hd.int jw) _ _,tD.pure hi xY (.pv _ _ (.int _ _))⟩;rename_i s jw;cases hr;have h:=hx.gC;cases h;exact⟨_,w,BV hu1 (hd.string jw) _,tD.pure hi xY (.pv _ _ (.str _))⟩
 ·rename_i e FC htd1 htd2;split at hr;rotate_left;cases hr;rename_i te dC;have sH:=hG _ _ dC;split at hr;rotate_left;cases hr;rename_i htde;split at hr;rotate_left;cases hr;rename_i rD es rP;split at hr;rotate_left;cases hr;(rename_i FK;split at hr<;>cases hr;rename_i l hl;have hsl: ∃a n c,v= .slice a n c:=by unfold yI at rP;split at rP;have h:=hx.gC;cases h<;>exact⟨_,_,_,rfl⟩;cases hx;exact⟨_,_,_,rfl⟩;{rename_i β xf off n;split at rP;rotate_left;cases rP;rename_i qu sz ov hb;split at rP;rotate_left;cases rP;rename_i hv;obtain⟨a,c,h,_⟩:=hx.Gb hi hb hv;exact⟨_,_,_,h⟩};rename_i s;exact absurd rfl (by first|exact FC _|exact htd1 _|exact htd2 _|skip);cases rP);obtain⟨a,n,c,rfl⟩:=hsl;obtain⟨l1,l2⟩:=tV (P:=P) hi hx rP;obtain⟨cs,f1,f2,f3⟩:=l2 1 FK;have hn:n=es.length:=by simp[Builtin.lenOf]at l1;exact l1
  subst hn;obtain⟨k1,k2⟩:=KR (w:=w) (Im:=Im) es l hl (fun i=>cs[i]?) 0 (fun i e j p q1 q2=>by
   obtain⟨v0,g1,g2⟩:=f3.2.2 i e j p q1 q2
   have h1:=f3.1 e (z6 q1)
   have h2:=(qF q2).1
   have:j=0:=o?
   subst this
   exact⟨v0,by simpa using g1,g2,rfl⟩)
  refine⟨.string ⟨⟨l⟩⟩,w, ?_,tD.pure hi xY (.pv _ _ (.str _))⟩;rw[VO (hs.slice ‹_›) (hd.string ‹_›) (sH.int htde)];unfold Conv.bytesToString;cases a with
   |none=>(have SQ:cs= #[]:=by simp[Builtin.firstCells]at f1;first|exact f1.symm|exact f1);(subst SQ;have:es=[]:=by (have:es.length=0:=by simpa using f2.symm);simpa using this);(subst this;have:l=[]:=by simpa using k1.symm);subst this;rfl
   |some a=>
    have hld:(loadCells a es.length).run P w= .ok cs w:=by simpa[Builtin.firstCells]using f1
    have SQ:cs.toList.length=l.length:=v?;have:=fun g hg=>QW (P:=P) (w:=w) g hg cs.toList ByteArray.empty l SQ (fun i v b q1 q2=>by
     have dh:i<es.length:=by
      have:=(qF q1).1
      omega
     obtain⟨m,g1,g2⟩:=k2 i dh
     have q1' :cs[i]? =some v:=by simpa using q1
     simp only[Nat.zero_add,q1']at g1
     rw[q2]at g2
     exact⟨m,Option.some.inj g1,Option.some.inj g2⟩)
    simp only[jT,hld,me];rw[<- Array.forIn_toList,this _ (fun n s=>rfl)];rfl
 ·rename_i e s jw;split at hr;rotate_left;cases hr;rename_i te dC;have sH:=hG _ _ dC;split at hr<;>cases hr;rename_i htde;have h:=hx.gC;cases h;let cap:Nat:=Question.cut (.appendCap s.length 0 e) (w.tape w.drawn (.appendCap s.length 0 e));(have JX:s.length<=cap:=by simp[cap,Question.cut]);let cs:Array Value:=(⟨s⟩:Array UInt8).map (fun b=>Value.int .u8 b.toNat)++Array.replicate (cap-s.length) (.int .u8 0);(have mr:cs.size=cap:=by simp[cs];omega);refine⟨.slice (some ⟨w.heap.size,0,none⟩) s.length cap, { vn w with heap:=w.heap.push (.cells cs e (cs.size,cs.size+1)) }, ?_, ?_⟩;(rw[JR hu1 (hd.slice jw) (sH.int htde)];unfold Conv.stringToBytes;have VQ:(choose (Question.appendCap (ByteArray.mk ⟨s⟩).size 0 e)).run P w= .ok cap (vn w):=by have:(ByteArray.mk ⟨s⟩).size=s.length:=rfl;rw[this];simp[choose,Sem.run,Question.forced,cap,vn]);(have hmark:(markStringish ⟨w.heap.size,0,none⟩).run P { vn w with heap:=w.heap.push (.cells cs e) }= .ok () { vn w with heap:=w.heap.push (.cells cs e (cs.size,cs.size+1)) }:=by (unfold markStringish;have h1:(World.shape? { vn w with heap:=w.heap.push (.cells cs e) } w.heap.size)=some (e,cs.size):=by simp[World.shape?]);simp only[jT,run_shape,me,h1,run_freeze];simp[World.freeze,vn];apply Array.ext;simp;intro i h1 h2;simp at h1;simp only[Array.getElem_modify,Array.getElem_push];split;rename_i h;subst h;simp;rename_i h;simp[show i<w.heap.size from o?]);have e1:(ByteArray.mk ⟨s⟩).size=s.length:=rfl;simp only[jT,VQ,me,newRow,run_newObj,Sem.run_pure];have e2:(vn w).heap=w.heap:=rfl;simp only[e2,e1];have:=hmark;simp only[cs,e1]at this |-;rw[this];rfl
  have:=Km hi xY (aT hX) 1 (s.map fun b=>[PV.int .u8 b.toNat]) cs e (cs.size,cs.size+1) cap { vn w with heap:=w.heap.push (.cells cs e (cs.size,cs.size+1)) } rfl ⟨rfl,rfl⟩
   ⟨z?,fun i yw h=>by simp at h;omega⟩ o? (by simp[mr]) (by simpa using JX) (by
    refine⟨fun e0 P2=>?_,fun i e0 j p q1 q2=>?_,fun i e0 j p q1 q2=>?_⟩
    ·simp only[List.mem_map]at P2
     obtain⟨b,_,rfl⟩:=P2
     rfl
    ·simp only[List.getElem?_map,yR]at q1
     obtain⟨b,_,rfl⟩:=q1
     cases j with
     |zero=>simp at q2;subst q2;rfl
     |succ j=>simp at q2
    simp only[List.getElem?_map,yR]at q1
    obtain⟨b,hb,rfl⟩:=q1
    cases j with
    |zero=>
     simp at q2
     subst q2
     refine⟨.int .u8 b.toNat, ?_,.int _ _⟩
     have dh:=(qF hb).1
     simp only[cs]
     rw[Array.getElem?_append_left v?]
     simp[hb]
    |succ j=>simp at q2)
  simpa using this
 cases hr
theorem qr.HW: ∀{H:qr}{β:Nat}{b:qE},H.get β=some b->H.put β b=H
 |[],_,_,h=>by cases h
 |(i,v)::r,β,b,h=>by simp only[A!]at h;simp only[q_];split;rename_i hi;rw[if_pos hi]at h;cases h;rw[hi];rename_i hi;rw[if_neg hi]at h;rw[qr.HW h]
theorem UQ{G:GP}(hG: ∀t ti,G.ti t=some ti->zN P t ti){t:TypeId}
  (hi:zc w H ι Im) {nx:Nat} {X:Nat->Prop} (xY:Bd X H nx) {x:AV} {v:Value} (hx:RA w H ι Im x v) {r:mC} (hr:tX G t x H nx=some r):
  ∃u w',(convert t t v).run P w= .ok u w' /\tD X w H ι Im nx r u w' :=by unfold tX at hr;cases hr
end
section
variable [xg] {P:Program} {w:World} {H:qr} {ι:yq} {Im:Nat->Prop}
theorem Bh{ts tx e:TypeId}{ti te oN:TI}(Kh:zN P ts ti)(jw:ti.td= .slice e)(dC:zN P e te)(Ju:zN P tx oN)
  (X1:(∃ e',oN.td= .slice e')\/oN.td= .string) (tt:TypeId) (hi:zc w H ι Im) {nx:Nat} {X:Nat->Prop} (xY:Bd X H nx)
  {x y:AV} {vx vy:Value} (hx:RA w H ι Im x vx) (hy:RA w H ι Im y vy) {r:mC} (hr:bf e te x y H nx=some r):
  ∃u w',(Builtin.append_ #[ts,tx] tt #[vx,vy]).run P w= .ok u w' /\tD X w H ι Im nx r u w' :=by unfold bf at hr;cases hr
theorem VK{x:AV}{v:Value}(hx:RA w H ι Im x v)(hi:zc w H ι Im){nx:Nat}{X:Nat->Prop}(xY:Bd X H nx){r:mC}(hr:tH x H nx=some r)(cu:Array TypeId)(tt:TypeId):
  ∃u w',(Builtin.unsafeSliceData_ cu tt #[v]).run P w= .ok u w' /\tD X w H ι Im nx r u w' :=by unfold tH at hr;cases hr
theorem XF{tp el:TypeId}{cu:Array TypeId}(h0:cu[0]? =some tp){ti:TI}(ht:zN P tp ti)(P3:ti.pe=some el)(Kg:P.cellsOf el=1){p x:AV}{vp vx:Value}(hp:RA w H ι Im p vp)(hx:RA w H ι Im x vx)(hi:zc w H ι Im)
  {nx:Nat} {X:Nat->Prop} (xY:Bd X H nx) {r:mC} (hr:gy el p x H nx=some r) (tt:TypeId):
  ∃u w',(Builtin.unsafeString_ cu tt #[vp,vx]).run P w= .ok u w' /\tD X w H ι Im nx r u w' :=by unfold gy at hr;cases hr
end
section
variable [xg] {P:Program} {w:World} {H:qr} {ι:yq} {Im:Nat->Prop}
theorem J8{w' :World}{H' :qr}{ι' :yq}{β γ fv:Nat}{ds:List Nat}{es:List PV}{ks:List Sk}(cp:(ι' β).ks=ks++[.leaf]){ei:Array Value}{elem:TypeId}{fz:Nat×Nat}
  (h1:w'.heap[(ι' β).b]? =some (.cells ei elem fz)) (h2:wC fz ei.size) (h3:ei.size=(ι' β).cap) (h4:es.length+1<=(ι' β).cap) (h5:ks.length=es.length)
  (h6:((ι' β).b::ks.flatMap k!).Nodup) (h7: ∀x∈ks.flatMap k!,x<w'.heap.size)
  (h8: ∀(i:Nat) p k,es[i]? =some p->ks[i]? =some k-> ∃v,ei[i]? =some v/\l5 w' Im ds p v k) {v0:Value} (h9:ei[es.length]? =some v0) (h10:RA w' H' ι' Im (.row γ fv 0 fv) v0):
  rE w' H' ι' Im β (.jf false ds (es++[.sl true 0 []]) (some (es.length,γ,fv))):=by
 have QE:(ks++[Sk.leaf]).flatMap k!=ks.flatMap k!:=by simp[k!]
 refine⟨ei,elem,fz,h1,h2,h3,by simpa using h4,by rw[cp];simp[h5],by rw[cp,QE];exact h6,by rw[cp,QE];exact h7,fun j γ' xf hf=>by cases hf;simp,fun i p k hp hk=>?_⟩;rw[cp]at hk;by_cases hi:i<es.length;rw[r? hi]at hp;rw[r? o?]at hk;obtain⟨v,k1,k2⟩:=h8 i p k hp hk;exact⟨v,k1,fun _=>k2,fun γ' xf hf=>by cases hf;omega⟩;have P5:i=es.length:=by have:=(qF hp).1;simp at this;omega
 subst P5;refine⟨v0,h9,fun h=>absurd rfl (h _ _ _ rfl),fun γ' xf hf=>?_⟩;cases hf;rw[J? o?,h5]at hk;simp at hk;exact⟨hk.symm,h10⟩
theorem Bg{ts tx e:TypeId}{ti te oN:TI}(Kh:zN P ts ti)(jw:ti.td= .slice e)(dC:zN P e te)(Ju:zN P tx oN)
  (X1:(∃ e',oN.td= .slice e')\/oN.td= .string) (tt:TypeId) (hi:zc w H ι Im) {nx:Nat} {X:Nat->Prop} (xY:Bd X H nx)
  {x y:AV} {vx vy:Value} (hx:RA w H ι Im x vx) (hy:RA w H ι Im y vy) {r:mC} (hr:nN te x y H nx=some r):
  ∃u w',(Builtin.append_ #[ts,tx] tt #[vx,vy]).run P w= .ok u w' /\tD X w H ι Im nx r u w' :=by
 unfold nN at hr;split at hr;rotate_left;cases hr;rename_i rD γ fv fn rP;split at hr;rotate_left;cases hr;rename_i β xf off n;split at hr;rotate_left;cases hr
 rename_i qu ds es hb;split at hr<;>cases hr;rename_i hc;obtain⟨jA,rfl,rfl,rfl,Tz,rfl,gY⟩:=hc;obtain⟨l1,cs,f1,f2,f3⟩:=Qt (P:=P) hi hy rP;have hxx:=hx;cases hx with
  |row _ _ _ _ _ b ho js hk hv hh=>(rw[hb]at js;cases js;obtain⟨h1,h2⟩:=hh _ _ _ rfl jA;have hg: ∀y,(qZ [(β,y)] H).get β=some y:=fun y=>by simp[qZ,qr.zg]);(have OE: ∀{w0:World}{H0:qr}{ι0:yq}{get:Nat->Option Value},mj w0 H0 ι0 Im te.size [[AV.row γ fn 0 fn]] get-> ∃v0,get 0=some v0/\RA w0 H0 ι0 Im (.row γ fn 0 fn) v0:=by intro w0 H0 ι0 get hA;have:=hA.2.2 0 _ 0 _ rfl rfl;rw[Tz]at this;exact this);cases qu with
  |true=>
   simp only[if_true]at h2;subst h2;have dm:es=[]:=(hi.rB β _ hb).1;subst dm;obtain⟨nc,w',cs',g1,g2,g3,g4,g5⟩:=Hg Kh jw dC Ju X1 tt hi hy rP z? (by simpa using gY);refine⟨_,w',g5,jY ι β ⟨w.heap.size,nc,[.leaf]⟩, ?_⟩;have key:=zc.Rk hi (w' :=w') β (.jf false ds ([]++[.sl true 0 []]) (some (0,γ,fn))) ⟨w.heap.size,nc,[.leaf]⟩ (fun x hx=>by rw[hb]at hx;cases hx;simp[xS,qE.sh])
    ⟨by rw[g2.1];simp,g2.2⟩ (fun b' js _=>by rw[g2.1];simp[Array.getElem?_push,Nat.ne_of_lt js]) (fun z hz=>by
     rcases hz.2 with h|⟨_,h⟩
     ·exact .inl (by rw[h];exact jx _)
     ·simp[Sk.blocks]at h) (fun he=>by
     obtain⟨v0,k1,k2⟩:=OE (g4.mono hi he)
     exact J8 (es:=[]) (ks:=[]) (ei:=cs') (elem:=e) (fz:=(0,0)) z? (by simp[g2]) (kh _) (by simp[g3,Tz]) (by simpa using g1) rfl z? z? z? k1 k2)
   refine⟨key.1,key.2, ?_,jx _,yS xY (jx _) (xY β _ hb)⟩;refine .row β _ 0 _ _ _ rfl (hg _) (fun _=>⟨_,_,_,rfl⟩) (fun _ _ _ e=>by cases e;exact jx _) fun _ _ _ e _=>?_;cases e;refine⟨z?, ?_⟩;simp only[ko,if_false];exact⟨⟨w.heap.size,0,none⟩,z?,rfl,z?,fun _=>z?⟩
  |false=>
   (simp only[ko,if_false]at h2;obtain⟨a,rfl,oP,eU,Qm⟩:=h2;obtain⟨ab,ao,DT⟩:=a;simp only at oP eU Qm;subst oP eU;obtain⟨vs,elem,fz,g1,g2,g3,g4,g5,g6,g7,g8,g9⟩:=hi.jf hb;obtain⟨EH,Tt⟩:=List.nodup_cons.1 g6;have Ni: ∀(i:Nat) p k,es[i]? =some p->(ι β).ks[i]? =some k-> ∃v,vs[i]? =some v/\l5 w Im ds p v k:=fun i p k hp hk=>by obtain⟨v,k1,k2,_⟩:=g9 i p k hp hk;exact⟨v,k1,k2 fun _ _ _ h=>by cases h⟩);have YC: ∀z,z∈((ι β).ks++[Sk.leaf]).flatMap Sk.blocks->(qE.jf false ds es none).yc (ι β) z:=fun z hz=>⟨rfl,.inr ⟨rfl,by simpa[Sk.blocks]using hz⟩⟩;by_cases sE:es.length+1<=(ι β).cap
   ·(have Lc:ao=0:=by have:=Qm o?;omega);(subst Lc;obtain⟨v0,c1,c2⟩:=OE f3;have SQ:cs.toList=[v0]:=by (have nK:cs.size=1:=by rw[f2,Tz];rfl);(have:cs= #[v0]:=by apply Array.ext;simpa using nK;intro i h1 h2;have:i=0:=o?;subst this;have:=(Array.getElem?_eq_some_iff.1 c1).2;simpa using this);rw[this]);have oC: ∀x∈cs.toList,dD x=true:=by intro x hx;rw[SQ]at hx;simp at hx;subst hx;exact c2.dD rfl
    obtain⟨w',q1,q2,q3,ei,q4,q5,q6⟩:=uG (P:=P) (ι β).b es.length elem fz cs.toList 0 w vs g1 g2 (by simp[SQ,g3];omega) oC;have Ty:=run_append_fits (w' :=w') Kh jw dC Ju X1 tt (some ⟨(ι β).b,0,none⟩) es.length ((ι β).cap-0) 1 vy l1 o? cs f1
     (fun a ha=>by cases ha;rw[add_plain,Nat.zero_add,Tz,Nat.mul_one];exact q1) (fun h=>by cases h)
    have hw: ∀b,Im b->w'.heap[b]? =w.heap[b]? :=fun b js=>q3 b (fun e=>hi.Vt β _ b hb ⟨rfl,.inl e⟩ js);refine⟨_,w',Ty,jY ι β ⟨(ι β).b,(ι β).cap,(ι β).ks++[.leaf]⟩, ?_⟩;have key:=zc.Rk hi (w' :=w') β (.jf false ds (es++[.sl true 0 []]) (some (es.length,γ,fn))) ⟨(ι β).b,(ι β).cap,(ι β).ks++[.leaf]⟩
     (fun x hx=>by
      rw[hb]at hx
      cases hx
      simp[xS,qE.sh])
     ⟨o?,q2.2⟩ (fun b' _ jz=>q3 b' (fun e=>jz _ hb ⟨rfl,.inl e⟩)) (fun z hz=> .inr ⟨_,hb,(by
      rcases hz.2 with h|⟨_,h⟩
      ·exact⟨rfl,.inl h⟩
      ·exact YC z h)⟩) (fun mM=>by
      refine J8 (ks:=(ι β).ks) z? (by simpa using q4) (by rw[q5];exact g2) (by simp[q5,g3]) (by simpa using sE) g5 (by simpa using g6) (fun x hx=>by rw[q2.1];exact g7 x hx) (fun i p k hp hk=>?_) (v0:=v0) ?_ (c2.mono hi mM)
      ·obtain⟨v,k1,k2⟩:=Ni i p k hp hk
       have dh:=(qF hp).1
       refine⟨v, ?_,k2.mono mM.im hw fun x hx=>q3 x fun e=>?_⟩
       ·rw[q6,if_neg o?]
        exact k1
       subst e
       exact EH (List.mem_flatMap.2 ⟨k,z6 hk,hx⟩)
      rw[q6,SQ]
      simp)
    refine⟨key.1,key.2, ?_,jx _,yS xY (jx _) (xY β _ hb)⟩;refine .row β _ 0 _ _ _ rfl (hg _) (fun _=>⟨_,_,_,rfl⟩) (fun _ _ _ e=>by cases e;simp) fun _ _ _ e _=>?_;cases e;refine⟨z?, ?_⟩;simp only[ko,if_false];exact⟨⟨(ι β).b,0,none⟩,z?,rfl,z?,fun _=>z?⟩
   (have hw:(vn w).heap=w.heap:=rfl;have yw:=hi.bP hw ⟨rfl,rfl⟩;obtain⟨new,m1,m2,m3⟩:=(Qt (P:=P) yw (hy.bP hw ⟨rfl,rfl⟩ hi) rP).2;have hold:(Builtin.firstCells te.size es.length (.slice (some ⟨(ι β).b,ao,none⟩) es.length ((ι β).cap-0))).run P (vn w)= .ok ((List.range es.length).map fun j=>(vs[j]?).getD undef).toArray (vn w):=by by_cases GJ:es.length=0;rw[GJ];simp[Builtin.firstCells,loadCells,loadCellsFrom];(have Lc:ao=0:=by have:=Qm o?;omega);subst Lc;simp only[Builtin.firstCells];rw[Tz,Nat.mul_one];refine(run_loadCells (P:=P) (w:=vn w) (ι β).b 0 es.length (fun j=>(vs[j]?).getD undef) fun j hj=>?_);have:(vn w).cell? ⟨(ι β).b,0+j,none⟩=w.cell? ⟨(ι β).b,0+j,none⟩:=rfl;rw[this,gA g1];have:j<vs.size:=o?;simp[this]);(obtain⟨nc,rest,r1,r2,r3⟩:=pA (w:=w) Kh jw dC Ju X1 tt (some ⟨(ι β).b,ao,none⟩) es.length ((ι β).cap-0) 1 vy l1 o? (by simpa using gY) _ new hold m1;generalize hO:((List.range es.length).map fun j=>(vs[j]?).getD undef).toArray=NW at r3;have hos:NW.size=es.length:=by rw[<- hO];simp);(have hog: ∀i,i<es.length->NW[i]? =vs[i]? :=fun i xJ=>by rw[<- hO];have:i<vs.size:=o?;simp[List.getElem?_range xJ,this]);(obtain⟨v0,c1,c2⟩:=OE (m3.mono (w' :=w) (H' :=H) (ι' :=ι) (jV:=Im) yw (wR.bP (w:=vn w) (w' :=w) rfl ⟨rfl,rfl⟩));have FC:new.size=1:=by rw[m2,Tz];rfl);refine⟨_,_,r3,jY ι β ⟨w.heap.size,nc,(ι β).ks++[.leaf]⟩, ?_⟩;have Lm: ∀b',b' <w.heap.size->({ vn w with heap:=w.heap.push (.cells (NW++new++rest) e) }:World).heap[b']? =w.heap[b']? :=fun b' js=>by simp[Array.getElem?_push,Nat.ne_of_lt js]
   have key:=zc.Rk hi (w' :={ vn w with heap:=w.heap.push (.cells (NW++new++rest) e) }) β (.jf false ds (es++[.sl true 0 []]) (some (es.length,γ,fn))) ⟨w.heap.size,nc,(ι β).ks++[.leaf]⟩
    (fun x hx=>by
     rw[hb]at hx
     cases hx
     simp[xS,qE.sh])
    ⟨z?,rfl,rfl⟩ (fun b' js _=>Lm b' js) (fun z hz=>by
     rcases hz.2 with h|⟨_,h⟩
     ·exact .inl (by rw[h];exact jx _)
     ·exact .inr ⟨_,hb,YC z h⟩) (fun he=>by
     refine J8 (ks:=(ι β).ks) z? (ei:=NW++new++rest) (elem:=e) (fz:=(0,0)) z? (kh _) ?_ (by simp only[wQ];omega) g5 ?_ (fun x hx=>?_) (fun i p k hp hk=>?_) (v0:=v0) ?_ (c2.mono hi he)
     ·simp only[wQ,Array.size_append,hos,FC,r2,Tz,Nat.mul_one]
      omega
     ·simp only[wQ]
      exact List.nodup_cons.2 ⟨fun h=>absurd (g7 _ h) (Nat.lt_irrefl _),Tt⟩
     ·have:=g7 x hx
      simp
      omega
     ·obtain⟨v,k1,k2⟩:=Ni i p k hp hk
      have dh:=(qF hp).1
      refine⟨v, ?_,k2.mono he.im (fun b js=>Lm b (hi.im b js)) fun x hx=>Lm x (g7 x (List.mem_flatMap.2 ⟨k,z6 hk,hx⟩))⟩
      rw[Array.append_assoc,Array.getElem?_append_left o?,hog i dh]
      exact k1
     rw[Array.append_assoc,Array.getElem?_append_right o?,hos,Nat.sub_self,Array.getElem?_append_left o?]
     exact c1)
   refine⟨key.1,key.2, ?_,jx _,yS xY (jx _) (xY β _ hb)⟩;refine .row β _ 0 _ _ _ rfl (hg _) (fun _=>⟨_,_,_,rfl⟩) (fun _ _ _ e=>by cases e;simp) fun _ _ _ e _=>?_;cases e;refine⟨z?, ?_⟩;simp only[ko,if_false];exact⟨⟨w.heap.size,0,none⟩,z?,rfl,z?,fun _=>z?⟩
end
section
variable [xg] {P:Program} {w:World} {H:qr} {ι:yq} {Im:Nat->Prop}
def oY(w:World)(Im:Nat->Prop)(es:List (PV×PV×Nat))(xi:List MapEntry):Prop:=
 es.length=xi.length/\ ∀(i:Nat)(k x:PV)(born:Nat) e,es[i]? =some (k,x,born)->xi[i]? =some e->RP w Im k e.key/\RP w Im x e.val/\e.born=born
theorem oY.mono{w' :World}{jV:Nat->Prop}(hi: ∀b,Im b->jV b)(hw: ∀b,Im b->w'.heap[b]? =w.heap[b]?){es:List (PV×PV×Nat)}{xi:List MapEntry}
  (h:oY w Im es xi):oY w' jV es xi:=
 ⟨h.1,fun i k x born e a b=>let⟨g1,g2,g3⟩:=h.2 i k x born e a b;⟨g1.mono hi hw,g2.mono hi hw,g3⟩⟩
theorem oY.tail{x:PV×PV×Nat}{es:List (PV×PV×Nat)}{e:MapEntry}{xi:List MapEntry}(h:oY w Im (x::es) (e::xi)):oY w Im es xi:=
 ⟨by simpa using h.1,fun i k y born e' a b=>h.2 (i+1) k y born e' (by simpa using a) (by simpa using b)⟩
theorem QL(a b:List UInt8):((⟨⟨a⟩⟩:ByteArray)==⟨⟨b⟩⟩)=(a==b):=by have:=beq_toListBytes ⟨⟨a⟩⟩ ⟨⟨b⟩⟩;simpa using this
theorem RU{t:TypeId}{tk:TI}(ht:zN P t tk){k:PV}(hk:jN tk.td k=true){d:TypeDesc}(hd:P.underlying t=some d){k' :PV}{vk vk' :Value}
  (h1:RP w Im k vk) (h2:RP w Im k' vk') {b:Bool} (hb:C8 k k' =some b):Instr.sameNow d vk vk' =some b/\(b=true->vk=vk'):=by
 have key: ∀td,tk.td=td->jN td k=true->_:=fun td e h=>(⟨e,h⟩:tk.td=td/\jN td k=true);cases k<;>cases k' <;>simp only[C8,reduceCtorEq]at hb;(rename_i a b';cases hb;cases h1;cases h2;have jw:tk.td= .bool:=by cases jw:tk.td<;>simp[jN,jw]at hk |-);rw[ht.bool jw]at hd;cases hd;exact⟨rfl,fun h=>by simpa using h⟩;(rename_i kd a kd' b';split at hb<;>cases hb;rename_i JZ;subst JZ;cases h1;cases h2;obtain⟨k0,jw⟩: ∃k0,tk.td= .int k0:=by cases jw:tk.td<;>simp[jN,jw]at hk |-);rw[ht.int jw]at hd;cases hd;exact⟨by simp[Instr.sameNow],fun h=>by simpa using h⟩;rename_i a b';cases hb;cases h1;cases h2;have jw:tk.td= .string:=by cases jw:tk.td<;>simp[jN,jw]at hk |-
 rw[ht.string jw]at hd;cases hd;refine⟨?_,fun h=>?_⟩;simp only[Instr.sameNow,QL];have:a=b' :=by simpa using h
 rw[this]
theorem sD{t:TypeId}{tk:TI}(ht:zN P t tk){k:PV}(hk:jN tk.td k=true){d:TypeDesc}(hd:P.underlying t=some d){vk:Value}(h1:RP w Im k vk):
  ∀(es:List (PV×PV×Nat))(xi:List MapEntry)(i:Nat),oY w Im es xi-> ∀{r:Option (Nat×PV×Nat)},findKey k es i=some r->
   (r=none/\Instr.findNow d vk xi i=some none)\/
   ∃j x born e,r=some (i+j,x,born)/\Instr.findNow d vk xi i=some (some (i+j,e.val))/\xi[j]? =some e/\RP w Im x e.val/\e.born=born/\e.key=vk
 |[],xi,i,hE,r,h=>by (have:xi=[]:=by simpa using hE.1.symm);subst this;cases h;exact .inl ⟨rfl,rfl⟩
 |(k',x,born)::es,[],i,hE,r,h=>by have:=hE.1;simp at this
 |(k',x,born)::es,e::xi,i,hE,r,h=>by obtain⟨g1,g2,g3⟩:=hE.2 0 k' x born e z? z?;unfold findKey at h;cases hq:C8 k k' with|none=>simp[hq]at h|some b=>obtain⟨s1,s2⟩:=RU ht hk hd h1 g1 hq;cases b with|true=>simp only[hq,ki]at h;subst h;refine .inr ⟨0,x,born,e,rfl, ?_,rfl,g2,g3,(s2 rfl).symm⟩;simp[Instr.findNow,s1]|false=>simp only[hq]at h;rcases sD ht hk hd h1 es xi (i+1) hE.tail h with ⟨rfl,q⟩|⟨j,x',aM,e',rfl,q1,q2,q3,q4,q5⟩;exact .inl ⟨rfl,by simp[Instr.findNow,s1,q]⟩;refine .inr ⟨j+1,x',aM,e',by rw[Nat.add_assoc,Nat.add_comm 1 j], ?_,by simpa using q2,q3,q4,q5⟩;simp only[Instr.findNow,s1,q1];rw[Nat.add_assoc,Nat.add_comm 1 j]
theorem pB{t:TypeId}{tk:TI}(ht:zN P t tk){k:PV}(hk:jN tk.td k=true)(empty:Bool)(vk:Value):(Instr.checkKey empty 10000 t vk).run P w= .ok () w:=by
 have gen: ∀n,(Instr.checkKey empty (n+1) t vk).run P w= .ok () w:=by (intro n;unfold Instr.checkKey;have:P.underlying t=some .bool\/P.underlying t=some .string\/ ∃k0,P.underlying t=some (.int k0):=by cases jw:tk.td<;>simp[jN,jw]at hk;exact .inl (ht.bool jw);exact .inr (.inr ⟨_,ht.int jw⟩);exact .inr (.inl (ht.string jw)));rcases this with h|h|⟨k0,h⟩<;>simp[qx h]
 exact gen 9999
theorem pa{t:TypeId}{tk:TI}(ht:zN P t tk){d:TypeDesc}(hd:P.underlying t=some d)(vk:Value)(xi:List MapEntry){r:Option (Nat×Value)}
  (h:Instr.findNow d vk xi 0=some r):(Instr.findKey t vk xi).run P w= .ok r w:=by unfold Instr.findKey;simp[qx hd,h]
theorem zc.map{β:Nat}{es:List (PV×PV×Nat)}{zR:Nat}(hi:zc w H ι Im)(hb:H.get β=some (.map es zR)):
  ∃xi:List MapEntry,w.heap[(ι β).b]? =some (.map ⟨xi⟩ zR)/\oY w Im es xi:=hi.rB β _ hb
theorem oK{b:Nat}{xi:List MapEntry}{zR:Nat}(h:w.heap[b]? =some (.map ⟨xi⟩ zR)):(getObj b).run P w= .ok (.map ⟨xi⟩ zR) w:=by simp[getObj,M_,h]
theorem aq{b:Nat}{xi:List MapEntry}{zR:Nat}(h:w.heap[b]? =some (.map ⟨xi⟩ zR))(o:Obj):
  (setObj b o).run P w= .ok () { w with heap:=w.heap.setIfInBounds b o }:=by simp[setObj,M_,h]
theorem Kl(hi:zc w H ι Im){nx:Nat}{X:Nat->Prop}(xY:Bd X H nx){β:Nat}{es ov:List (PV×PV×Nat)}{zR KY:Nat}{SJ:List MapEntry}
  (hb:H.get β=some (.map es zR)) (h:oY w Im ov SJ) {r:AV} {u:Value} (hru: ∀w' H' ι',zc w' H' ι' Im->wR w H ι Im w' H' ι' Im->RA w' H' ι' Im r u):
  tD X w H ι Im nx (r,[(β,.map ov KY)],nx) u { w with heap:=w.heap.setIfInBounds (ι β).b (.map ⟨SJ⟩ KY) }:=by
 obtain⟨xi,h1,h2⟩:=hi.map hb;have xJ:=(hi.rB β _ hb).lt rfl;have key:=zc.put (Xx:=noO hb rfl) hi (w' :={ w with heap:=w.heap.setIfInBounds (ι β).b (.map ⟨SJ⟩ KY) }) β (.map ov KY) (ι β)
  (fun x hx=>by rw[hb]at hx;cases hx;rfl) ⟨z?,rfl,rfl⟩
  (fun b' _ jz=>by
   have:(ι β).b≠b' :=jz _ hb rfl
   simp[Array.getElem?_setIfInBounds,this])
  (fun _=> .inr ⟨_,hb,rfl,rfl⟩) (fun he=>by
   have hw: ∀b,Im b->_:=fun b hb=>he.bh hi b hb
   exact⟨SJ,by simp[xJ],h.mono he.im hw⟩)
 exact⟨_,key.1,key.2,hru _ _ _ key.1 key.2,jx _,yS xY (jx _) (xY β _ hb)⟩
theorem zeroV_ok{t:TypeId}{ti:TI}(ht:zN P t ti): ∃z,(zeroValue t).run P w= .ok z w/\RP w Im (WV ti) z:=by
 obtain⟨z,h1,h2,h3,h4⟩:=Qx (w:=w) (Im:=Im) ht;refine⟨z,h1, ?_⟩;unfold WV;have hagg:ti.isAgg=ti.td.isAgg:=by unfold q21 TD.isAgg;cases ti.td<;>rfl
 rw[hagg,<- h4];cases z with|agg cs=>simp only[Zh,if_true];exact .agg ti.zero cs.toList (by simpa[Value.cells]using h2) ht.kP (fun i p v a b=>h3 i p v a (by simpa[Value.cells]using b))|_=>simp only[Zh,ko,if_false,Value.cells]at h2 h3 |-;cases hz:ti.zero with|nil=>rw[hz]at h2;simp at h2|cons p r=>rw[hz]at h3;exact h3 0 p _ z? z?
theorem Bq{t:TypeId}{tk:TI}(ht:zN P t tk)(hi:zc w H ι Im){m:AV}{vm vk:Value}(hm:RA w H ι Im m vm){k:PV}(hk:jN tk.td k=true)(h1:RP w Im k vk)
  {r:Option (Nat×PV×Nat)} (hr:KH m k H=some r):
  (vm= .map none/\r=none)\/ ∃b xi zR,vm= .map (some b)/\w.heap[b]? =some (.map ⟨xi⟩ zR)/\
   ((r=none/\(Instr.findKey t vk xi).run P w= .ok none w)\/ ∃j x born u,r=some (j,x,born)/\(Instr.findKey t vk xi).run P w= .ok (some (j,u)) w/\RP w Im x u):=by obtain⟨d,hd⟩:=ht.undS;unfold KH at hr;split at hr;cases hr;have h:=hm.gC;cases h;exact .inl ⟨rfl,rfl⟩;{rename_i β;split at hr;rotate_left;cases hr;rename_i es zR hb;cases hm;obtain⟨xi,g1,g2⟩:=hi.map hb;refine .inr ⟨_,xi,zR,rfl,g1, ?_⟩;rcases sD ht hk hd h1 es xi 0 g2 hr with ⟨rfl,q⟩|⟨j,x,born,e,rfl,q1,q2,q3,q4,q5⟩;exact .inl ⟨rfl,pa ht hd vk xi q⟩;exact .inr ⟨_,x,born,e.val,rfl,pa ht hd vk xi q1,q3⟩};cases hr
theorem PQ{t k0 e0:TypeId}{ti tk te:TI}(ht:zN P t ti)(jw:ti.td= .map k0 e0)(hk:zN P k0 tk)(he:zN P e0 te)(hi:zc w H ι Im){m k:AV}{vm vk:Value}
  (hm:RA w H ι Im m vm) (hkv:RA w H ι Im k vk) {ok:Bool} {r:AV} (hr:aJ tk te m k ok H=some r):
  ∃u,(Instr.lookup t vm vk ok).run P w= .ok u w/\RA w H ι Im r u:=by
 unfold aJ at hr;split at hr;rotate_left;cases hr;rename_i k;split at hr;rotate_left;cases hr;rename_i sE;have Ln:=hkv.gC;obtain⟨z,hz1,hz2⟩:=zeroV_ok (w:=w) (Im:=Im) he;have pair: ∀(p:PV)(v:Value)(b:Bool),RP w Im p v->RA w H ι Im (if ok=true then .xV [.pv p,.pv (.bool b)]else .pv p) (if ok=true then .tuple #[v,.bool b]else v):=by intro p v b h;cases ok;exact .pv _ _ h;refine .xV _ [v,.bool b] rfl fun i x u h1 h2=>?_;match i with|0=>simp at h1 h2;subst h1 h2;exact .pv _ _ h|1=>simp at h1 h2;subst h1 h2;exact .pv _ _ (.bool _)|i+2=>simp at h1
 unfold Instr.lookup;simp only[jT,qx (ht.map jw),me];split at hr;rename_i j v born hf;cases hr;rcases Bq hk hi hm sE Ln hf with ⟨_,h⟩|⟨b,xi,zR,rfl,g1,g2⟩;cases h;rcases g2 with ⟨h,_⟩|⟨j',x,aM,u,h,g3,g4⟩;cases h;cases h;refine⟨_, ?_,pair v u true g4⟩;simp only[oK g1,jT,me,K?,pB hk sE,g3];{rename_i hf;cases hr;rcases Bq hk hi hm sE Ln hf with ⟨rfl,_⟩|⟨b,xi,zR,rfl,g1,g2⟩;(refine⟨_, ?_,pair _ z false hz2⟩;have:(Instr.findKey k0 vk ([]:List MapEntry)).run P w= .ok none w:=by obtain⟨d,hd⟩:=hk.undS;exact pa hk hd vk [] rfl);simp only[jT,me,K?,pB hk sE,this,hz1];rcases g2 with ⟨_,g3⟩|⟨j',x,aM,u,h,_⟩;rotate_left;cases h;refine⟨_, ?_,pair _ z false hz2⟩;simp only[oK g1,jT,me,K?,pB hk sE,g3,hz1]};cases hr
end
section
variable [xg] {P:Program} {w:World} {H:qr} {ι:yq} {Im:Nat->Prop}
theorem oY.set{es:List (PV×PV×Nat)}{xi:List MapEntry}(h:oY w Im es xi)(i:Nat){k x:PV}{born:Nat}{e:MapEntry}
  (hk:RP w Im k e.key) (hx:RP w Im x e.val) (hb:e.born=born):oY w Im (es.set i (k,x,born)) (xi.set i e):=by refine⟨by simp[h.1],fun j k' x' aM e' h1 h2=>?_⟩;rw[N!]at h1 h2;by_cases EF:i=j;subst EF;rw[if_pos rfl]at h1 h2;split at h1<;>cases h1;split at h2<;>cases h2;exact⟨hk,hx,hb⟩;rw[if_neg EF]at h1 h2;exact h.2 j k' x' aM e' h1 h2
theorem oY.push{es:List (PV×PV×Nat)}{xi:List MapEntry}(h:oY w Im es xi){k x:PV}{born:Nat}{e:MapEntry}
  (hk:RP w Im k e.key) (hx:RP w Im x e.val) (hb:e.born=born):oY w Im (es++[(k,x,born)]) (xi++[e]):=by refine⟨by simp[h.1],fun j k' x' aM e' h1 h2=>?_⟩;rw[M!]at h1 h2;rw[<- h.1]at h2;by_cases hj:j<es.length;rw[if_pos hj]at h1 h2;exact h.2 j k' x' aM e' h1 h2;rw[if_neg hj]at h1 h2;cases hd:j-es.length with|zero=>rw[hd]at h1 h2;simp at h1 h2;obtain⟨rfl,rfl,rfl⟩:=h1;subst h2;exact⟨hk,hx,hb⟩|succ n=>rw[hd]at h1;simp at h1
theorem oY.erase{es:List (PV×PV×Nat)}{xi:List MapEntry}(h:oY w Im es xi)(i:Nat):oY w Im (es.eraseIdx i) (xi.eraseIdx i):=by refine⟨by simp[List.length_eraseIdx,h.1],fun j k' x' aM e' h1 h2=>?_⟩;rw[List.getElem?_eraseIdx]at h1 h2;split at h1;rename_i hc;rw[if_pos hc]at h2;exact h.2 _ k' x' aM e' h1 h2;rename_i hc;rw[if_neg hc]at h2;exact h.2 _ k' x' aM e' h1 h2
theorem modify_eq_set{l:List MapEntry}{i:Nat}{e:MapEntry}(h:l[i]? =some e)(f:MapEntry->MapEntry):(⟨l⟩:Array MapEntry).modify i f=⟨l.set i (f e)⟩:=by obtain⟨xJ,he⟩:=qF h;apply D!;simp only[Array.toList_modify];apply List.ext_getElem?;intro j;rw[List.getElem?_modify,N!];by_cases EF:i=j;subst EF;simp[xJ,he];simp[EF]
theorem Yc{k:PV}{tk:TI}(hk:jN tk.td k=true){v:Value}(h:RP w Im k v):Instr.sameBits 10000 v v=true:=by cases h<;>simp[jN]at hk;simp[Instr.sameBits];simp[Instr.sameBits];simp[Instr.sameBits,QL];all_goals (cases jw:tk.td<;>simp[jw]at hk)
theorem Gd{k:PV}{tk:TI}(hk:jN tk.td k=true){v:Value}(h:RP w Im k v):(Instr.keyThatStays v v).run P w= .ok v w:=by unfold Instr.keyThatStays;simp[Yc hk h]
theorem KL{t k0 e0:TypeId}{ti tk:TI}(ht:zN P t ti)(jw:ti.td= .map k0 e0)(hk:zN P k0 tk)(hi:zc w H ι Im)
  {nx:Nat} {X:Nat->Prop} (xY:Bd X H nx) {m k:AV} {x:PV} {vm vk vx:Value}
  (hm:RA w H ι Im m vm) (hkv:RA w H ι Im k vk) (hx:RP w Im x vx) {ws:List (Nat×qE)} (hr:rJ tk m k x H=some ws):
  ∃w',(Instr.mapUpdate t vm vk vx).run P w= .ok () w' /\tD X w H ι Im nx (.xV [],ws,nx) undef w' :=by have XS: ∀w' H' ι',zc w' H' ι' Im->wR w H ι Im w' H' ι' Im->RA w' H' ι' Im (.xV []) undef:=fun _ _ _ _ _=> .xV [] [] rfl z?;obtain⟨d,hd⟩:=hk.undS;unfold rJ at hr;split at hr;rotate_left;cases hr;rename_i β k;split at hr;rotate_left;cases hr;rename_i sE;split at hr;rotate_left;cases hr;rename_i es zR hb;have Ln:=hkv.gC;cases hm;obtain⟨xi,g1,g2⟩:=hi.map hb;unfold Instr.mapUpdate;simp only[jT,qx (ht.map jw),me,oK g1,pB hk sE];split at hr;rename_i j y born hf;cases hr;rcases sD hk sE hd Ln es xi 0 g2 hf with ⟨h,_⟩|⟨j',x',aM,e,h,q1,q2,q3,q4,q5⟩;cases h;(rw[P?]at h q1;cases h;have hkey:((xi[j]?.map (·.key)).getD vk)=vk:=by rw[q2];simp[q5]);(refine⟨_, ?_,Kl hi xY hb (g2.set j (k:=k) (x:=x) (born:=born) (e:={ e with key:=vk,val:=vx }) Ln hx q4) XS⟩;simp only[pa hk hd vk xi q1,me,jT];have SV:((q2b xi)[j]?.map (·.key)).getD vk=vk:=by simpa using hkey);rw[SV,Gd sE Ln];simp only[me,modify_eq_set q2,aq g1];{rename_i hf;cases hr;rcases sD hk sE hd Ln es xi 0 g2 hf with ⟨_,q1⟩|⟨j',x',aM,e,h,_⟩;rotate_left;cases h;refine⟨_, ?_,Kl hi xY hb (g2.push (k:=k) (x:=x) (born:=zR) (e:={ key:=vk,val:=vx,born:=zR }) Ln hx rfl) XS⟩;simp only[pa hk hd vk xi q1,me,aq g1];simp};cases hr
theorem DK{t k0 e0:TypeId}{ti tk te:TI}(ht:zN P t ti)(jw:ti.td= .map k0 e0)(hk:zN P k0 tk)(he:zN P e0 te)(hi:zc w H ι Im)
  {nx:Nat} {X:Nat->Prop} (xY:Bd X H nx) {m k:AV} {vm vk:Value}
  (hm:RA w H ι Im m vm) (hkv:RA w H ι Im k vk) {r:AV} {ws:List (Nat×qE)} (hr:lq tk te m k H=some (r,ws)):
  ∃u w',(Instr.mapEntry t vm vk).run P w= .ok u w' /\tD X w H ι Im nx (r,ws,nx) u w' :=by unfold lq at hr;cases hr
theorem KG(t:TypeId)(hi:zc w H ι Im){nx:Nat}{X:Nat->Prop}(xY:Bd X H nx){m st:AV}{x:PV}{vm vs vx:Value}
  (hm:RA w H ι Im m vm) (hsv:RA w H ι Im st vs) (hx:RP w Im x vx) {ws:List (Nat×qE)} (hr:bI m st x H=some ws):
  ∃w',(Instr.entryStore t vm vs vx).run P w= .ok () w' /\tD X w H ι Im nx (.xV [],ws,nx) undef w' :=by unfold bI at hr;cases hr
theorem PM{t k0 e0:TypeId}{ti tk:TI}(ht:zN P t ti)(jw:ti.td= .map k0 e0)(hk:zN P k0 tk)(hi:zc w H ι Im)
  {nx:Nat} {X:Nat->Prop} (xY:Bd X H nx) (cu:Array TypeId) (Hp:cu[0]? =some t) (tt:TypeId) {m k:AV} {vm vk:Value}
  (hm:RA w H ι Im m vm) (hkv:RA w H ι Im k vk) {ws:List (Nat×qE)} (hr:cj tk m k H=some ws):
  ∃w',(Builtin.delete_ cu tt #[vm,vk]).run P w= .ok undef w' /\tD X w H ι Im nx (.xV [],ws,nx) undef w' :=by have XS: ∀w' H' ι',zc w' H' ι' Im->wR w H ι Im w' H' ι' Im->RA w' H' ι' Im (.xV []) undef:=fun _ _ _ _ _=> .xV [] [] rfl z?;obtain⟨d,hd⟩:=hk.undS;unfold Builtin.delete_;simp only[Hp,I?,c?,i?,jT,qx (ht.map jw),me];unfold cj at hr;split at hr;rename_i k;split at hr<;>cases hr;rename_i sE;have h:=hm.gC;cases h;refine⟨w, ?_,t! hi xY (XS _ _ _ hi (W! _ _ _ _))⟩;simp only[jT,pB hk sE,me,K?];rfl;{rename_i β k;split at hr;rotate_left;cases hr;rename_i sE;split at hr;rotate_left;cases hr;rename_i es zR hb;have Ln:=hkv.gC;cases hm;obtain⟨xi,g1,g2⟩:=hi.map hb;simp only[jT,oK g1,me,pB hk sE];split at hr;rename_i j y born hf;cases hr;rcases sD hk sE hd Ln es xi 0 g2 hf with ⟨h,_⟩|⟨j',x',aM,e,h,q1,q2,q3,q4,q5⟩;cases h;(rw[P?]at h q1;cases h;refine⟨_, ?_,Kl hi xY hb (g2.erase j) XS⟩;simp only[jT,pa hk hd vk xi q1,me,aq g1,K?];have:(q2b xi).eraseIdxIfInBounds j=⟨xi.eraseIdx j⟩:=by obtain⟨xJ,_⟩:=qF q2;simp[Array.eraseIdxIfInBounds,xJ]);simp only[jT,this,aq g1,me,K?];rfl;{rename_i hf;cases hr;rcases sD hk sE hd Ln es xi 0 g2 hf with ⟨_,q1⟩|⟨j',x',aM,e,h,_⟩;rotate_left;cases h;refine⟨_, ?_,Kl hi xY hb g2 XS⟩;simp only[jT,pa hk hd vk xi q1,me,aq g1,K?];rfl};cases hr};cases hr
theorem Bv(t:TypeId)(hi:zc w H ι Im){nx:Nat}{X:Nat->Prop}(xY:Bd X H nx)(hX: ¬X nx):
  ∃u w',(Instr.makeMap t none).run P w= .ok u w' /\tD X w H ι Im nx (.map nx,[(nx,.map [] 0)],nx+1) u w' :=by
 refine⟨.map (some w.heap.size), { w with heap:=w.heap.push (.map #[] 0) },by simp[Instr.makeMap], ?_⟩;obtain⟨ι',h0,h1,h2⟩:=zc.new hi xY hX { w with heap:=w.heap.push (.map #[] 0) } (.map [] 0) (.map #[] 0) 0 rfl ⟨rfl,rfl⟩ (fun ι' hp he=>by
  exact⟨[],by simp[hp],rfl,z?⟩)
 refine⟨ι',h1,h2, ?_,z?,yS xY z? (.inl z?)⟩;have hg:(qZ [(nx,qE.map [] 0)] H).get nx=some (.map [] 0):=by simp[qZ,p!]
 have:=RA.map (w:={ w with heap:=w.heap.push (.map #[] 0) }) (ι:=ι') (Im:=Im) nx [] 0 hg;rw[h0]at this;exact this
end
section
variable [xg] {P:Program} {w:World} {H:qr} {ι:yq} {Im:Nat->Prop}
theorem Bu{t k0 e0:TypeId}{ti tk te:TI}(ht:zN P t ti)(jw:ti.td= .map k0 e0)(hk:zN P k0 tk)(he:zN P e0 te)(hi:zc w H ι Im){m k:AV}{vm vk:Value}
  (hm:RA w H ι Im m vm) (hkv:RA w H ι Im k vk) {ok:Bool} {r:AV} (hr:lr tk te m k ok H=some r):
  ∃u,(Instr.lookup t vm vk ok).run P w= .ok u w/\RA w H ι Im r u:=by unfold lr at hr;cases hr
theorem Bz{t k0 e0:TypeId}{ti tk:TI}(ht:zN P t ti)(jw:ti.td= .map k0 e0)(hk:zN P k0 tk)(hi:zc w H ι Im)
  {nx:Nat} {X:Nat->Prop} (xY:Bd X H nx) {m k x:AV} {vm vk vx:Value}
  (hm:RA w H ι Im m vm) (hkv:RA w H ι Im k vk) (hx:RA w H ι Im x vx) {ws:List (Nat×qE)} (hr:dZ tk m k x H=some ws):
  ∃w',(Instr.mapUpdate t vm vk vx).run P w= .ok () w' /\tD X w H ι Im nx (.xV [],ws,nx) undef w' :=by unfold dZ at hr;cases hr
end
section
variable [xg] {P:Program} {w:World} {H:qr} {ι:yq} {Im:Nat->Prop}
def yB(P:Program)(G:GP):Prop:= ∀t ti,G.ti t=some ti->zN P t ti
def yZ(X:Nat->Prop)(r:Result Next)(w:World)(H:qr)(ι:yq)(Im:Nat->Prop)(nx:Nat)(e:mC):Prop:=
 ∃u w',(r= .ok (.value u) w' \/(r= .ok .skip w' /\u=undef))/\tD X w H ι Im nx e u w'
theorem yZ.val{X:Nat->Prop}{s:Sem Value}{u:Value}{w' :World}{nx:Nat}{e:mC}(h:s.run P w= .ok u w')(hd:tD X w H ι Im nx e u w'):
  yZ X ((do pure (.value (<- s)):Sem Next).run P w) w H ι Im nx e:=
 ⟨u,w',.inl (by simp[h]),hd⟩
theorem yZ.skip{X:Nat->Prop}{s:Sem Unit}{w' :World}{nx:Nat}{e:mC}(h:s.run P w= .ok () w')(hd:tD X w H ι Im nx e undef w'):
  yZ X ((do s;pure .skip:Sem Next).run P w) w H ι Im nx e:=
 ⟨undef,w',.inr ⟨by simp[h],rfl⟩,hd⟩
theorem yZ.now{X:Nat->Prop}{u:Value}{nx:Nat}{e:mC}(hd:tD X w H ι Im nx e u w):yZ X ((pure (.value u):Sem Next).run P w) w H ι Im nx e:=
 ⟨u,w,.inl rfl,hd⟩
def Ws:Op->Bool
 | .call { callee:= .value _,.. }=>true
 | .box _ _=>true
 |_=>false
theorem tD.puts{β:Nat}{b b' :qE}{nx:Nat}{X:Nat->Prop}(xY:Bd X H nx)(hb:H.get β=some b){w' :World}{ι' :yq}(h1:zc w' (qZ [(β,b')] H) ι' Im)
  (h2:wR w H ι Im w' (qZ [(β,b')] H) ι' Im):tD X w H ι Im nx (.xV [],[(β,b')],nx) undef w' :=
 ⟨ι',h1,h2,.xV [] [] rfl z?,jx _,yS xY (jx _) (xY β _ hb)⟩
theorem cM{G:GP}{t:TypeId}{tk te:TI}(h:cL G t=some (tk,te)): ∃ti k e,G.ti t=some ti/\ti.td= .map k e/\G.ti k=some tk/\G.ti e=some te:=by unfold cL at h;split at h;rotate_left;cases h;rename_i ti lh;split at h;rotate_left;cases h;rename_i k e jw;split at h<;>cases h;rename_i hk he;exact⟨ti,k,e,lh,jw,hk,he⟩
theorem Ce{a:Act}{E:yp}(hE: ∀t,RA w H ι Im (E.get t) (a.tmps.getD t undef)): ∀(l:List Operand)(i:Nat) z v,(l.map (ev E))[i]? =some z->(l.map a.eval)[i]? =some v->RA w H ι Im z v:=by intro l i z v h1 h2;simp only[X?,yR]at h1 h2;obtain⟨o1,q1,rfl⟩:=h1;obtain⟨o2,q2,rfl⟩:=h2;rw[q1]at q2;cases q2;exact QP hE o1
theorem SA{isMax:Bool}{l:List AV}{vs:List Value}(hl:l.length=vs.length)(hR: ∀(i:Nat) x v,l[i]? =some x->vs[i]? =some v->RA w H ι Im x v)
  {p:PV} (h:Oi isMax l=some p) (cu:Array TypeId) (tt:TypeId):
  ∃u,(if isMax then Builtin.max_ cu tt ⟨vs⟩else Builtin.min_ cu tt ⟨vs⟩).run P w= .ok u w/\RP w Im p u:=by unfold Oi at h;split at h;rotate_left;(rename_i a b;split at h<;>cases h;rename_i hm;obtain⟨v,u,rfl⟩: ∃v u,vs=[v,u]:=by match vs,hl with|[v,u],_=>exact⟨v,u,rfl⟩);have hx:=(hR 0 (.pv (.str a)) v z? z?).gC;have hy:=(hR 1 (.pv (.str b)) u z? z?).gC;cases hx;cases hy;refine⟨.string ⟨⟨if ka a b=true then b else a⟩⟩, ?_,.str _⟩;rw[if_pos hm];cases hc:ka a b<;>simp[Builtin.max_,Builtin.max2,Op.stringOp,asBool,pq,hc];cases h;rename_i k a r;cases vs with|nil=>simp at hl|cons v vr=>have hx:=(hR 0 (.pv (.int k a)) v z? z?).gC;cases hx;obtain⟨u,g1,g2⟩:=Wx (P:=P) isMax k r a vr (by simpa using hl) (fun i x v h1 h2=>hR (i+1) x v (by simpa using h1) (by simpa using h2)) h;refine⟨u, ?_,g2⟩;cases isMax;exact g1;exact g1
theorem Bl{G:GP}(hG:yB P G)(hi:zc w H ι Im){nx:Nat}{X:Nat->Prop}(xY:Bd X H nx)(b:Builtin)(cu:Array TypeId)(tt:TypeId)(consts:Array Bool)
  {l:List AV} {vs:List Value} (hl:l.length=vs.length) (hR: ∀(i:Nat) x v,l[i]? =some x->vs[i]? =some v->RA w H ι Im x v) {e:mC} (hr:rH G b cu.toList l H nx=some e) (hX: ∀γ,X γ->e.2.2<=γ):
  yZ X ((builtin b cu tt consts ⟨vs⟩).run P w) w H ι Im nx e:=by
 unfold rH at hr;unfold builtin;split at hr;{rename_i t r x Hp;split at hr;rotate_left;cases hr;rename_i ti lh;split at hr;rotate_left;cases hr;rename_i jw;split at hr<;>cases hr;rename_i n hn;match vs,hl with|[v],_=>(have h1:=aLen_ok (hG _ _ lh) hi (hR 0 x v z? z?) tt jw hn;refine yZ.val (s:=Builtin.len_ cu tt #[v]) (u:= .int .i64 n) (w' :=w) ?_ (t! hi xY (.pv _ _ (.int _ _)));have h0:cu[0]? =some t:=by rw[<- H?,Hp];rfl);unfold Builtin.len_ at h1 |-;simp only[I?,c?,h0]at h1 |-;exact h1};rename_i x;(match vs,hl with|[v],_=>obtain⟨u,w',h1,h2⟩:=VK (P:=P) (hR 0 x v z? z?) hi xY hr cu tt;exact yZ.val (s:=Builtin.unsafeSliceData_ cu tt #[v]) h1 h2);{rename_i tp r p x Hp;split at hr;rotate_left;cases hr;rename_i ti lh;split at hr;rotate_left;cases hr;rename_i el P3;split at hr;rotate_left;cases hr;rename_i tel htel;split at hr;rotate_left;cases hr;rename_i h1z;match vs,hl with|[vp,vx],_=>(have h0:cu[0]? =some tp:=by rw[<- H?,Hp];rfl);obtain⟨u,w',h1,h2⟩:=XF h0 (hG _ _ lh) P3 ((hG _ _ htel).cellsOf.trans h1z) (hR 0 p vp z? z?) (hR 1 x vx z? z?) hi xY hr tt;exact yZ.val (s:=Builtin.unsafeString_ cu tt #[vp,vx]) h1 h2};split at hr<;>cases hr;rename_i p hp;obtain⟨u,h1,h2⟩:=SA (P:=P) hl hR hp cu tt;exact yZ.val (s:=Builtin.max_ cu tt ⟨vs⟩) h1 (t! hi xY (.pv _ _ h2));split at hr<;>cases hr;rename_i p hp;obtain⟨u,h1,h2⟩:=SA (P:=P) hl hR hp cu tt;exact yZ.val (s:=Builtin.min_ cu tt ⟨vs⟩) h1 (t! hi xY (.pv _ _ h2))
 ·rename_i ts tx r s x Hp
  match vs,hl with
   |[vs,vx],_=>
    have key: ∀{e te oN ti},G.ti ts=some ti->ti.td= .slice e->G.ti e=some te->G.ti tx=some oN->((∃ e',oN.td= .slice e')\/oN.td= .string)-> ∀{ef},orT (uT te s x H nx) (orT (bf e te s x H nx) (nN te s x H nx))=some ef->(∀ γ,X γ->ef.2.2<=γ)->
      yZ X ((do pure (.value (<- Builtin.append_ cu tt #[vs,vx])):Sem Next).run P w) w H ι Im nx ef:=by
     intro e te oN ti h1 h2 h3 h4 h5 ef h6 hX;obtain⟨u,w',g1,g2⟩: ∃u w',(Builtin.append_ #[ts,tx] tt #[vs,vx]).run P w= .ok u w' /\tD X w H ι Im nx ef u w' :=by
      cases ha:uT te s x H nx with
      |some r=>
       rw[ha]at h6;cases h6;exact PH (hG _ _ h1) h2 (hG _ _ h3) (hG _ _ h4) h5 tt hi xY (hR 0 s vs z? z?) (hR 1 x vx z? z?) ha hX
      |none=>
       rw[ha]at h6;cases hb:bf e te s x H nx with
       |some r=>
        rw[hb]at h6;cases h6;exact Bh (hG _ _ h1) h2 (hG _ _ h3) (hG _ _ h4) h5 tt hi xY (hR 0 s vs z? z?) (hR 1 x vx z? z?) hb
       |none=>
        rw[hb]at h6;exact Bg (hG _ _ h1) h2 (hG _ _ h3) (hG _ _ h4) h5 tt hi xY (hR 0 s vs z? z?) (hR 1 x vx z? z?) h6
     refine yZ.val (u:=u) (w' :=w') ?_ g2;have q0:cu[0]? =some ts:=by rw[<- H?,Hp];rfl
     have q1:cu[1]? =some tx:=by rw[<- H?,Hp];rfl
     unfold Builtin.append_ at g1 |-;simp only[I?,c?,i?,q0,q1]at g1 |-;exact g1
    split at hr;rotate_left;cases hr;rename_i ti oN h1 h2;split at hr;{rename_i e e' h3 h4;split at hr;rotate_left;cases hr;rename_i te h5;exact key h1 h3 h5 h2 (.inl ⟨_,h4⟩) hr hX};{rename_i e h3 h4;split at hr;rotate_left;cases hr;rename_i te h5;exact key h1 h3 h5 h2 (.inr h4) hr hX};cases hr
 {rename_i ts r s x Hp;match vs,hl with|[vs,vx],_=>split at hr;rotate_left;cases hr;rename_i ti h1;split at hr;rotate_left;cases hr;rename_i e0 h2;split at hr;rotate_left;cases hr;(rename_i te h3;have q0:cu[0]? =some ts:=by rw[<- H?,Hp];rfl);obtain⟨u,w',g1,g2⟩:=Of (hG _ _ h1) h2 (hG _ _ h3) q0 tt hi xY (hR 0 s vs z? z?) (hR 1 x vx z? z?) hr;exact yZ.val (s:=Builtin.copy_ cu tt #[vs,vx]) g1 g2};{rename_i tm r m k Hp;match vs,hl with|[vm,vk],_=>split at hr;rotate_left;cases hr;rename_i ti h1;split at hr;rotate_left;cases hr;rename_i k0 e0 h2;split at hr;rotate_left;cases hr;(rename_i tk h3;split at hr<;>cases hr;rename_i ws FJ;have q0:cu[0]? =some tm:=by rw[<- H?,Hp];rfl);obtain⟨w',g1,g2⟩:=PM (hG _ _ h1) h2 (hG _ _ h3) hi xY cu q0 tt (hR 0 m vm z? z?) (hR 1 k vk z? z?) FJ;exact yZ.val (s:=Builtin.delete_ cu tt #[vm,vk]) g1 g2};cases hr
theorem aop_ok{G:GP}(hG:yB P G)(hi:zc w H ι Im){nx:Nat}{X:Nat->Prop}(xY:Bd X H nx)
  {a:Act} {E:yp} (hE: ∀t,RA w H ι Im (E.get t) (a.tmps.getD t undef)) (O:xm) (o:Oper) (dw:Ws o.op=false) {e:mC} (hr:mD G O o.op E H nx=some e) (hX: ∀γ,X γ->e.2.2<=γ):
  yZ X ((execOp a.eval o).run P w) w H ι Im nx e:=by
 have mM:=fun x=>QP hE x;unfold execOp;generalize o.type=Cq;generalize o.op=op at hr dw;unfold mD at hr;split at hr;case h_1 x=>cases hr;exact yZ.now (t! hi xY (mM x))
 case h_2 x=>cases hr;exact yZ.now (t! hi xY (mM x))
 case h_3 c x y=>
  split at hr<;>cases hr;rename_i t hc;have h:=mM c;rw[hc]at h;have h:=h.gC;generalize hv:a.eval c=vc at h;cases h;refine⟨if t then a.eval x else a.eval y,w,.inl (by simp[hv,asBool]),t! hi xY ?_⟩;cases t
  ·exact mM y
  exact mM x
 case h_4 t=>
  split at hr;rotate_left
  ·cases hr
  rename_i ti lh;split at hr
  ·obtain⟨u,w',h1,h2⟩:=PG (hG _ _ lh) hi xY hr hX;exact yZ.val h1 h2
  cases hr;obtain⟨u,w',h1,h2⟩:=DH (hG _ _ lh) hi xY (aT hX);exact yZ.val h1 h2
 case h_5 t x=>simp[Ws]at dw
 case h_6 t parts=>
  split at hr;rotate_left
  ·cases hr
  rename_i ti lh;unfold bG at hr;split at hr<;>cases hr;rename_i v hv;obtain⟨u,h1,h2⟩:=DI hG (hG _ _ lh) hE parts hv;exact yZ.val h1 (t! hi xY h2)
 case h_7 t len parts=>
  split at hr;rotate_left
  ·cases hr
  rename_i ti lh;split at hr;rotate_left
  ·cases hr
  rename_i el jw;split at hr;rotate_left
  ·cases hr
  rename_i te dC;split at hr;rotate_left
  ·cases hr
  rename_i hc;split at hr
  ·split at hr<;>cases hr;rename_i es dm;obtain⟨u,w',h1,h2⟩:=JN hG (hG _ _ lh) jw dC hi xY (aT hX) hE len parts hc.1 hc.2 dm;exact yZ.val h1 h2
  split at hr<;>cases hr;rename_i es dm;obtain⟨u,w',h1,h2⟩:=KC hG (hG _ _ lh) jw dC hi xY (aT hX) hE len parts hc.1 hc.2 dm;exact yZ.val h1 h2
 case h_8 t x=>
  split at hr;rotate_left
  ·cases hr
  rename_i ti lh;unfold bG at hr;split at hr<;>cases hr;rename_i v hv;obtain⟨u,h1,h2⟩:=Bt (hG _ _ lh) hi (mM x) hv;exact yZ.val h1 (t! hi xY h2)
 case h_9 t x y=>
  split at hr;rotate_left
  ·cases hr
  rename_i ti lh;unfold my at hr;split at hr<;>cases hr;rename_i ws FJ;obtain⟨w',ι',h1,h2,h3,β,b,b',rfl,hb⟩:=DO (hG _ _ lh) hi (mM x) (mM y) FJ;exact yZ.skip h1 (tD.puts xY hb h2 h3)
 case h_10 x=>
  split at hr<;>cases hr;all_goals
   rename_i hx;have h:=mM x;rw[hx]at h;generalize hv:a.eval x=vx at h;refine⟨vx,w,.inl ?_,t! hi xY h⟩
  ·cases h;simp[hv]
  ·cases h;simp[hv]
  ·have h:=h.gC;cases h;simp[hv]
  ·cases h;simp[hv]
  ·have h:=h.gC;cases h;simp[hv]
  cases h;simp[hv]
 case h_11 op t x y yt=>
  split at hr;rotate_left
  ·cases hr
  rename_i ti lh;unfold JD at hr;split at hr<;>cases hr;rename_i p hp;obtain⟨u,h1,h2,h3⟩:=aBin_ok hG (hG _ _ lh) hi (mM x) (mM y) op x y hp;exact yZ.val (s:=do eqGuard op t x y (a.eval x) (a.eval y);binOp op t (a.eval x) (a.eval y)) (by simp[h1,h2]) (t! hi xY (.pv _ _ h3))
 case h_12 op t x=>
  unfold JD at hr;split at hr<;>cases hr;rename_i p hp;obtain⟨u,h1,h2⟩:=aUn_ok (P:=P) (mM x) hp;exact yZ.val h1 (t! hi xY (.pv _ _ h2))
 case h_13 s d x=>
  split at hr
  ·rename_i hsd;subst hsd;obtain⟨u,w',h1,h2⟩:=UQ hG hi xY (mM x) hr;exact yZ.val h1 h2
  split at hr;rotate_left
  ·cases hr
  rename_i ts td Kh jw;obtain⟨u,w',h1,h2⟩:=Bm hG (hG _ _ Kh) (hG _ _ jw) hi xY (mM x) hr hX;exact yZ.val h1 h2
 case h_14 f x y=>
  cases hr;refine yZ.val (s:=Instr.makeFunc (.func f) (x.map a.eval) (y.map a.eval)) (w' :=w) rfl (t! hi xY ?_);have listR: ∀(l:List Operand)(i:Nat) z v,(l.map (ev E))[i]? =some z->(l.map a.eval)[i]? =some v->RA w H ι Im z v:=by
   intro l i z v h1 h2;simp only[X?,yR]at h1 h2;obtain⟨o1,q1,rfl⟩:=h1;obtain⟨o2,q2,rfl⟩:=h2;rw[q1]at q2;cases q2;exact mM o1
  have hx:x.map a.eval=⟨x.toList.map a.eval⟩:=by apply D!; simp
  have hy:y.map a.eval=⟨y.toList.map a.eval⟩:=by apply D!; simp
  rw[hx,hy];split
  ·rename_i h1 h2;rw[h1,h2];exact .pv _ _ (.fn f)
  exact .Z5 f _ _ _ _ z? z? (listR _) (listR _)
 case h_15 t=>
  cases hr;obtain⟨u,w',h1,h2⟩:=Bv (P:=P) t hi xY (aT hX);exact yZ.val h1 h2
 case h_16 t x lo yw mx=>
  split at hr;rotate_left
  ·cases hr
  rename_i ti lh;unfold bG at hr;split at hr<;>cases hr;rename_i v hv;obtain⟨u,h1,h2⟩:=DN hG (hG _ _ lh) hi hE (mM x) lo yw mx hv;exact yZ.val h1 (t! hi xY h2)
 case h_17 t x f=>
  split at hr;rotate_left
  ·cases hr
  rename_i ti lh;unfold bG at hr;split at hr<;>cases hr;rename_i v hv;obtain⟨u,h1,h2⟩:=VG (hG _ _ lh) (mM x) hv;exact yZ.val h1 (t! hi xY h2)
 case h_18 t x f=>
  split at hr;rotate_left
  ·cases hr
  rename_i ti lh;split at hr;rotate_left
  ·cases hr
  rename_i fs jw;split at hr;rotate_left
  ·cases hr
  rename_i off sz tf hf;split at hr;rotate_left
  ·cases hr
  rename_i tif htif;unfold bG at hr;split at hr<;>cases hr;rename_i v hv;obtain⟨fields,hu,rfl⟩:=(hG _ _ lh).struct jw;simp only[X?,yR]at hf;obtain⟨fd,hf,hfe⟩:=hf;simp only[Prod.mk.injEq]at hfe;obtain⟨rfl,rfl,rfl⟩:=hfe;have hfa:fields[f]? =some fd:=by rw[<- hf];simp
  obtain⟨cs,u,h0,h1,h2⟩:=Bx (hG _ _ htif) (mM x) hv;refine yZ.val (s:=Instr.field t (a.eval x) f) (u:=u) (w' :=w) ?_ (t! hi xY h2);unfold Instr.field;simp only[jT,qx hu,me,hfa,h0,asAgg,K?,h1]
 case h_19 t x i=>
  split at hr;rotate_left
  ·cases hr
  rename_i ti lh;unfold bG at hr;split at hr<;>cases hr;rename_i v hv;obtain⟨u,h1,h2⟩:=VH hG (hG _ _ lh) hi (mM x) (mM i) hv;exact yZ.val h1 (t! hi xY h2)
 case h_20 t x i=>
  split at hr;rotate_left
  ·cases hr
  rename_i ti lh;split at hr
  ·rename_i s k jw hx hk;split at hr<;>cases hr;rename_i b hb;obtain⟨kd,ZG⟩:=X9 (mM i) hk;have h:=mM x;rw[hx]at h;have h:=h.gC;generalize hv:a.eval x=vx at h;cases h;refine yZ.val (s:=Instr.index t (a.eval x) (a.eval i)) (u:= .int .u8 b.toNat) (w' :=w) ?_ (t! hi xY (.pv _ _ (.int _ _)));have hbb:(ByteArray.mk ⟨s⟩)[k]? =some b:=by
    obtain⟨xJ,he⟩:=qF hb;have:k<(ByteArray.mk ⟨s⟩).size:=xJ;rw[getElem?_pos (ByteArray.mk ⟨s⟩) k this];exact congrArg some he
   unfold Instr.index;simp[hv,ZG,asIntOf,qx ((hG _ _ lh).string jw),hbb]
  ·rename_i len el k jw hk;split at hr;rotate_left
   ·cases hr
   rename_i pf;split at hr;rotate_left
   ·cases hr
   rename_i te dC;unfold bG at hr;split at hr<;>cases hr;rename_i r hrr;obtain⟨kd,ZG⟩:=X9 (mM i) hk;obtain⟨cs,u,h0,h1,h2⟩:=Bx (hG _ _ dC) (mM x) hrr;refine yZ.val (s:=Instr.index t (a.eval x) (a.eval i)) (u:=u) (w' :=w) ?_ (t! hi xY h2);unfold Instr.index;simp[ZG,asIntOf,qx ((hG _ _ lh).array jw),pf,(hG _ _ dC).size,h0,h1]
  cases hr
 case h_21 t m k ok=>
  split at hr;rotate_left
  ·cases hr
  rename_i tk te hmt;unfold bG at hr;split at hr<;>cases hr;rename_i v hv;obtain⟨ti,k0,e0,q1,q2,q3,q4⟩:=cM hmt;split at hv
  ·obtain⟨u,h1,h2⟩:=Bu (hG _ _ q1) q2 (hG _ _ q3) (hG _ _ q4) hi (mM m) (mM k) hv;exact yZ.val h1 (t! hi xY h2)
  obtain⟨u,h1,h2⟩:=PQ (hG _ _ q1) q2 (hG _ _ q3) (hG _ _ q4) hi (mM m) (mM k) hv;exact yZ.val h1 (t! hi xY h2)
 case h_22 t m k x=>
  split at hr
  ·unfold lu at hr;split at hr;rotate_left
   ·cases hr
   rename_i tk te hmt;split at hr;rotate_left
   ·cases hr
   unfold my at hr;split at hr<;>cases hr;rename_i ws FJ;obtain⟨ti,k0,e0,q1,q2,q3,q4⟩:=cM hmt;obtain⟨w',h1,h2⟩:=Bz (hG _ _ q1) q2 (hG _ _ q3) hi xY (mM m) (mM k) (mM x) FJ;exact yZ.skip h1 h2
  split at hr;rotate_left
  ·cases hr
  rename_i tk te p hmt hp;split at hr;rotate_left
  ·cases hr
  unfold my at hr;split at hr<;>cases hr;rename_i ws FJ;obtain⟨ti,k0,e0,q1,q2,q3,q4⟩:=cM hmt;obtain⟨w',h1,h2⟩:=KL (hG _ _ q1) q2 (hG _ _ q3) hi xY (mM m) (mM k) (Xg (mM x) hp) FJ;exact yZ.skip h1 h2
 case h_23 t m k x=>
  split at hr;rotate_left
  ·cases hr
  rename_i tk te p hmt hp;split at hr;rotate_left
  ·cases hr
  unfold my at hr;split at hr<;>cases hr;rename_i ws FJ;obtain⟨ti,k0,e0,q1,q2,q3,q4⟩:=cM hmt;obtain⟨w',h1,h2⟩:=KL (hG _ _ q1) q2 (hG _ _ q3) hi xY (mM m) (mM k) (Xg (mM x) hp) FJ;exact yZ.skip h1 h2
 case h_24 t m k=>
  split at hr;rotate_left
  ·cases hr
  rename_i tk te hmt;split at hr<;>cases hr;rename_i v ws FJ;obtain⟨ti,k0,e0,q1,q2,q3,q4⟩:=cM hmt;obtain⟨u,w',h1,h2⟩:=DK (hG _ _ q1) q2 (hG _ _ q3) (hG _ _ q4) hi xY (mM m) (mM k) FJ;exact yZ.val h1 h2
 case h_25 t m st x=>
  split at hr;rotate_left
  ·cases hr
  rename_i p hp;unfold my at hr;split at hr<;>cases hr;rename_i ws FJ;obtain⟨w',h1,h2⟩:=KG (P:=P) t hi xY (mM m) (mM st) (Xg (mM x) hp) FJ;exact yZ.skip h1 h2
 case h_26 x i=>
  split at hr;rotate_left
  ·cases hr
  rename_i l hl;split at hr<;>cases hr;rename_i v hv;have h:=mM x;rw[hl]at h;generalize hvx:a.eval x=vx at h;cases h with
  |xV _ vs hlen hR=>
   obtain⟨u,hu⟩: ∃u,vs[i]? =some u:=⟨vs[i]'(by rw[<- hlen];exact(qF hv).1),z?⟩;refine⟨u,w,.inl ?_,t! hi xY (hR i v u hv hu)⟩;have:(⟨vs⟩:Array Value)[i]? =some u:=by simpa using hu
   simp[hvx,Instr.extract,this]
 case h_27 b args cu=>
  have Ty:(do let d <-resolve a.eval { callee:= .builtin b,args:=args,argTypes:=cu } Cq;invoke d.target d.args:Sem Next).run P w=
    (builtin b cu Cq (args.map fun| .const _=>true|_=>false) ⟨args.toList.map a.eval⟩).run P w:=by
   have:args.map a.eval=⟨args.toList.map a.eval⟩:=by apply D!; simp
   simp only[resolve,jT,K?,me,invoke,this];rfl
  show yZ X ((do let d <-resolve a.eval { callee:= .builtin b,args:=args,argTypes:=cu } Cq;invoke d.target d.args:Sem Next).run P w) w H ι Im nx e;rw[Ty];exact Bl hG hi xY b cu Cq _ z? (Ce hE args.toList) hr hX
 case h_28=>simp[Ws]at dw
 case h_29 t x y=>
  split at hr;rotate_left
  ·cases hr
  rename_i ti lh;have hX' : ∀γ,X γ->nx+1<=γ:=by
   unfold sC at hr;split at hr;rotate_left
   ·cases hr
   split at hr;rotate_left
   ·cases hr
   split at hr<;>cases hr;exact hX
  obtain⟨u,w',h1,h2⟩:=VJ hG (hG _ _ lh) hi xY hX' (mM x) (mM y) hr;exact yZ.val h1 h2
 case h_30=>cases hr
end
section
variable [xg] {P:Program} {w:World} {H:qr} {ι:yq} {Im:Nat->Prop}
theorem iX(β:Nat)(qu:Bool)(sz:Nat)(es:List (List PV)): ∀(l:List AV)(i:Nat),(AV.yz.ry β qu sz es l)[i]? =(l[i]?).map (AV.yz β qu sz es)
 |[],i=>by simp[AV.yz.ry]
 |x::r,i=>by cases i with|zero=>simp[AV.yz.ry]|succ i=>simp[AV.yz.ry,iX β qu sz es r i]
theorem Qv(β:Nat)(qu:Bool)(sz:Nat)(es:List (List PV)): ∀(l:List AV),(AV.yz.ry β qu sz es l).length=l.length
 |[]=>rfl
 |x::r=>by simp[AV.yz.ry,Qv β qu sz es r]
theorem Eh(β:Nat)(qu:Bool)(sz:Nat)(es:List (List PV)){x:AV}(h:x.kP=true):(x.yz β qu sz es).kP=true:=by cases x<;>simp[AV.kP]at h<;>simp only[AV.yz];all_goals first|exact h|rfl|(split<;>rfl)
theorem Zx(β:Nat)(qu:Bool)(sz:Nat)(es:List (List PV)){l:List AV}(h: ∀x∈l,x.kP=true): ∀x∈AV.yz.ry β qu sz es l,x.kP=true:=by intro x hx;obtain⟨i,hi⟩:=kb hx;rw[iX]at hi;simp only[yR]at hi;obtain⟨y,hy,rfl⟩:=hi;exact Eh β qu sz es (h y (z6 hy))
theorem Jr(β:Nat)(qu:Bool)(sz:Nat)(es:List (List PV)): ∀(H:qr)(γ:Nat),
  A! (H.map fun(i,b)=>(i,b.yz β qu sz es)) γ=(H.get γ).map (q22 β qu sz es)
 |[],γ=>rfl
 |(i,b)::r,γ=>by simp only[s?,A!];split;rfl;exact Jr β qu sz es r γ
theorem qE.Ej(β:Nat)(qu:Bool)(sz:Nat)(es:List (List PV))(b:qE):(b.yz β qu sz es).used=b.used:=by cases b<;>rfl
def u7(β:Nat)(qu:Bool)(sz:Nat)(es:List (List PV))(H:qr):qr:=q_ (H.map fun(i,b)=>(i,b.yz β qu sz es)) β .xw
theorem jZ(β:Nat)(qu:Bool)(sz:Nat)(es:List (List PV))(H:qr)(γ:Nat):
  (u7 β qu sz es H).get γ=if γ=β then some .xw else(H.get γ).map (q22 β qu sz es):=by unfold u7;rw[p!,Jr]
def nS(ι:yq)(β:Nat)(qu:Bool)(Im:Nat->Prop):Nat->Prop:=fun b=>Im b\/(qu=false/\b=(ι β).b)
theorem row_pure(hi:zc w H ι Im){β:Nat}{qu:Bool}{sz:Nat}{es:List (List PV)}(hb:H.get β=some (.row qu sz es)){off n:Nat}{v:Value}
  (h1:off+n<=es.length) (h2:if qu=true then v= .slice none 0 0 else ∃a,v= .slice (some a) n ((ι β).cap-off)/\a.spot=none/\a.block=(ι β).b/\(off<(ι β).cap->a.off=off*sz)):
  RP w (nS ι β qu Im) (A0 qu sz ((es.drop off).take n)) v:=by
 refine RP.mk ?_;cases qu
 ·simp only[ko,if_false]at h2;obtain⟨a,rfl,oP,eU,Qm⟩:=h2;obtain⟨ab,ao,DT⟩:=a;simp only at oP eU Qm;subst oP eU;obtain⟨vs,elem,fz,g1,g2,g3,g4,g5,g6,g7,g8⟩:=hi.row hb;have hlen:((es.drop off).take n).length=n:=v?;have pY: ∀(i:Nat) e,((es.drop off).take n)[i]? =some e->i<n/\es[off+i]? =some e:=by intro i e VS;have:=(qF VS).1;have dK:i<n:=o?;rw[V? dK,v!]at VS;exact⟨dK,VS⟩
  have hm: ∀b,Im b->nS ι β false Im b:=fun b h=> .inl h;have key:=RP.sl (w:=w) (Im:=nS ι β false Im) sz ((es.drop off).take n) (ι β).b ao ((ι β).cap-off) (fun i=>(vs[off*sz+i]?).getD undef)
   (fun _=> .inr ⟨rfl,rfl⟩) o? (fun e he=>g6 e (x! (W? he))) (fun i xJ=>by
    rw[hlen]at xJ
    have hn:0<n:=by
     rcases q16 n with h|h
     ·subst h;simp at xJ
     exact h
    have:=Qm o?
    subst this
    rw[gA g1]
    have e1:(off+n)*sz<=(ι β).cap*sz:=mulR _ o?
    rw[T?]at e1
    have:off*sz+i<vs.size:=o?
    simp[this])
   (fun i e j p q1 q2=>g7 _ e j p (pY i e q1).2 q2) (fun i e j p q1 q2=>by
    obtain⟨_,VS⟩:=pY i e q1
    obtain⟨v,k1,k2⟩:=g8 _ e j p VS q2
    have e1:off*sz+(i*sz+j)=(off+i)*sz+j:=by rw[T?];omega
    simp only[e1,k1,Option.getD_some]
    exact k2.mono hm fun _ _=>rfl) none (fun _=>rfl)
  rw[hlen]at key;exact key
 simp only[if_true]at h2;subst h2;have dm:es=[]:=hi.rB β _ hb;subst dm;have:(([]:List (List PV)).drop off).take n=[]:=z?;rw[this];exact .aS sz
theorem eh(β:Nat)(qu:Bool)(sz:Nat)(es:List (List PV))(b:qE):(b.yz β qu sz es).sh=b.sh:=by cases b<;>simp[q22,q11]
theorem Ei{β:Nat}{qu:Bool}{sz:Nat}{es:List (List PV)}(hb:H.get β=some (.row qu sz es)){β' xf off n:Nat}{v:Value}(hx:RA w H ι Im (.row β' xf off n) v):
  RA w (u7 β qu sz es H) ι (nS ι β qu Im) (.row β' xf off n) v:=by cases hx with|row _ _ _ _ _ b ho js hk hv h=>by_cases he:β' =β;subst he;exact .row β' xf off n v .xw ho (by simp[jZ]) (fun h=>absurd rfl h) (fun _ _ _ e=>by cases e) (fun _ _ _ e=>by cases e);refine .row β' xf off n v (b.yz β qu sz es) ho (by simp[jZ,he,js]) (fun h=>?_) (fun rQ Sa ov e=>?_) (fun rQ Sa ov e=>?_);rw[eh];exact hk (fun e=>h (by rw[e];rfl));rw[eh]at e;exact hv _ _ _ e;rw[eh]at e;exact h _ _ _ e
theorem Kt(hi:zc w H ι Im){β:Nat}{qu:Bool}{sz:Nat}{es:List (List PV)}(hb:H.get β=some (.row qu sz es)){x:AV}{v:Value}(hx:RA w H ι Im x v):
  RA w (u7 β qu sz es H) ι (nS ι β qu Im) (x.yz β qu sz es) v:=by
 have hm: ∀b,Im b->nS ι β qu Im b:=fun b h=> .inl h;have hw: ∀b,Im b->w.heap[b]? =w.heap[b]? :=fun _ _=>rfl;have rowStay: ∀(β' xf off n:Nat)(v:Value)(b:qE),dD v=true->H.get β' =some b->(b≠ .xw-> ∃qu sz l,b.sh=some (qu,sz,l))->(∀ qu sz l,b.sh=some (qu,sz,l)->xf<=l)->
   (∀ qu sz l,b.sh=some (qu,sz,l)->xf=l->off+n<=l/\
    if qu=true then v= .slice none 0 0
    else ∃a,v= .slice (some a) n ((ι β').cap-off)/\a.spot=none/\a.block=(ι β').b/\(off<(ι β').cap->a.off=off*sz))->
   RA w (u7 β qu sz es H) ι (nS ι β qu Im) (.row β' xf off n) v:=by
  intro β' xf off n v b ho js hk hv h;by_cases he:β' =β
  ·subst he;exact .row β' xf off n v .xw ho (by simp[jZ]) (fun h=>absurd rfl h) (fun _ _ _ e=>by cases e) (fun _ _ _ e=>by cases e)
  refine .row β' xf off n v (b.yz β qu sz es) ho (by simp[jZ,he,js]) (fun h=>?_) (fun rQ Sa ov e=>?_) (fun rQ Sa ov e=>?_)
  ·rw[eh];exact hk (fun e=>h (by rw[e];rfl))
  ·rw[eh]at e;exact hv _ _ _ e
  rw[eh]at e;exact h _ _ _ e
 have tL: ∀(c:List AV)(vs:List Value),c.length=vs.length->(∀(i:Nat) x v,c[i]? =some x->vs[i]? =some v->RA w (u7 β qu sz es H) ι (nS ι β qu Im) (x.yz β qu sz es) v)->
   (AV.yz.ry β qu sz es c).length=vs.length/\ ∀(i:Nat) x v,(AV.yz.ry β qu sz es c)[i]? =some x->vs[i]? =some v->RA w (u7 β qu sz es H) ι (nS ι β qu Im) x v:=by
  intro c vs hl h;refine⟨by rw[Qv,hl],fun i x v h1 h2=>?_⟩;rw[iX]at h1;simp only[yR]at h1;obtain⟨y,hy,rfl⟩:=h1;exact h i y v hy h2
 induction hx with|undef v=>exact .undef v|pv p v h=>exact .pv p v (h.mono hm hw)|ptr β' o b' js hk=>((have jz:β' ≠β:=by intro e;subst e;rw[hb]at js;cases js;cases hk);exact .ptr β' o (b'.yz β qu sz es) (by simp[jZ,jz,js]) (by cases b' <;>first|rfl|cases hk))|uI β' xf i o b1 o1 b js jA h=>by_cases he:β' =β;subst he;exact .uI β' xf i o b1 o1 .xw (by simp[jZ]) (fun _ _ _ e=>by cases e) (fun _ _ _ e=>by cases e);refine .uI β' xf i o b1 o1 (b.yz β qu sz es) (by simp[jZ,he,js]) (fun rQ Sa ov e=>?_) (fun rQ Sa ov e=>?_);rw[eh]at e;exact jA _ _ _ e;rw[eh]at e;exact h _ _ _ e|row β' xf off n v b ho js hk jA h=>simp only[AV.yz];split;rename_i hc;obtain⟨rfl,hv⟩:=hc;rw[hb]at js;cases js;obtain⟨h1,h2⟩:=h _ _ _ rfl hv;exact .pv _ _ (row_pure hi hb h1 h2);exact rowStay β' xf off n v b ho js hk jA h|tU c o b off vs QF hc hf h=>exact .tU c o b off vs (hm b QF) hc hf fun i p hp=>(h i p hp).mono hm hw|o5 a=>exact .o5 a|map β' ov zR js=>(have jz:β' ≠β:=by intro e;subst e;rw[hb]at js;cases js);exact .map β' ov zR (by simp[jZ,jz,js,q22])|Z5 f a b va vb VT SX _ _ iha ihb=>obtain⟨q1,q2⟩:=tL a va VT iha;obtain⟨q3,q4⟩:=tL b vb SX ihb;exact .Z5 f _ _ va vb q1 q3 q2 q4|agg c vs hl hf _ ih=>obtain⟨q1,q2⟩:=tL c vs hl ih;exact lT q1 (Zx β qu sz es hf) q2|xV c vs hl _ ih=>obtain⟨q1,q2⟩:=tL c vs hl ih;exact .xV _ vs q1 q2
theorem qE.thaw_isO(β:Nat)(qu:Bool)(sz:Nat)(es:List (List PV))(b:qE):(b.yz β qu sz es).C7=b.C7:=by cases b<;>rfl
theorem qE.Qw{β:Nat}{qu:Bool}{sz:Nat}{es:List (List PV)}{b:qE}{q:Pl}{x:Nat}(h:(b.yz β qu sz es).yc q x):b.yc q x:=by unfold qE.yc at*;rw[qE.Ej,qE.thaw_isO]at h;exact h
theorem Yz(hi:zc w H ι Im){β:Nat}{qu:Bool}{sz:Nat}{es:List (List PV)}(hb:H.get β=some (.row qu sz es)):
  zc w (u7 β qu sz es H) ι (nS ι β qu Im)/\wR w H ι Im w (u7 β qu sz es H) ι (nS ι β qu Im):=by
 have hm: ∀b,Im b->nS ι β qu Im b:=fun b h=> .inl h;have hw: ∀b,Im b->w.heap[b]? =w.heap[b]? :=fun _ _=>rfl;have C3:qu=false->(qE.row qu sz es).used=true:=fun h=>by simp[w_,h]
 refine⟨⟨fun γ b hγ=>?_,fun γ γ' b b' z h1 h2 u1 u2=>?_,fun b h=>?_,fun γ b z hγ hu h=>?_,hi.Na,fun b hb=> .inl (hi.VP b hb)⟩,⟨fun γ b hγ=>?_,hm,fun b h=>?_,fun γ x z hγ hu=>?_,fun _ _ _=>rfl,jx _,rfl,rfl⟩⟩;rw[jZ]at hγ;split at hγ;cases hγ;trivial;(simp only[yR]at hγ;obtain⟨b0,Xv,rfl⟩:=hγ;have h0:=hi.rB γ b0 Xv;cases b0 with|box c=>obtain⟨vs,elem,fz,q1,q2,q3,q4,q5⟩:=h0;refine⟨vs,elem,fz,q1,q2,by rw[Qv,q3],Zx β qu sz es q4,fun i x v a b=>?_⟩;rw[iX]at a;simp only[yR]at a;obtain⟨y,hy,rfl⟩:=a;exact Kt hi hb (q5 i y v hy b)|row rQ Sa ov=>(cases rQ with|true=>exact h0|false=>obtain⟨vs,elem,fz,q1,q2,q3,q4,q5,q6,q7,q8⟩:=h0;refine⟨vs,elem,fz,q1,q2,q3,q4,q5,q6,q7,fun i e j p a b=>?_⟩;obtain⟨v,k1,k2⟩:=q8 i e j p a b;exact⟨v,k1,k2.mono hm hw⟩)|map ov zR=>obtain⟨xi,q1,q2,q3⟩:=h0;refine⟨xi,q1,q2,fun i k x born e a b=>?_⟩;obtain⟨k1,k2,k3⟩:=q3 i k x born e a b;exact⟨k1.mono hm hw,k2.mono hm hw,k3⟩|mB Sa ov=>(obtain⟨vs,elem,fz,q1,q2,q3,q4,q5,q6,q7,q8⟩:=h0;have get: ∀(i:Nat) e(j:Nat) x,(ov.map (AV.yz.ry β qu sz es))[i]? =some e->e[j]? =some x-> ∃e0 y,ov[i]? =some e0/\e0[j]? =some y/\x=y.yz β qu sz es/\e=AV.yz.ry β qu sz es e0:=by intro i e j x h1 h2;rw[X?,yR]at h1;obtain⟨e0,h1,rfl⟩:=h1;rw[iX,yR]at h2;obtain⟨y,h2,rfl⟩:=h2;exact⟨e0,y,h1,h2,rfl,rfl⟩);refine⟨vs,elem,fz,q1,q2,q3,q4,by simpa using q5,fun e he=>?_,fun i e j x a b=>?_,fun i e j x a b=>?_⟩;obtain⟨e0,h0,rfl⟩:=N?.1 he;rw[Qv];exact q6 e0 h0;(obtain⟨e0,y,h1,h2,rfl,rfl⟩:=get i e j x a b;have hf: ∀x∈e0,x.kP=true:=fun x hx=>by obtain⟨j',SU⟩:=kb hx;exact q7 i e0 j' x h1 SU);exact Zx β qu sz es hf _ (z6 b);obtain⟨e0,y,h1,h2,rfl,rfl⟩:=get i e j x a b;obtain⟨v,k1,k2⟩:=q8 i e0 j y h1 h2;exact⟨v,k1,Kt hi hb k2⟩|jf rQ SF ov lg=>(cases rQ with|true=>exact h0|false=>obtain⟨vs,elem,fz,q1,q2,q3,q4,q5,q6,q7,q8,q9⟩:=h0;refine⟨vs,elem,fz,q1,q2,q3,q4,q5,q6,q7,q8,fun i p k a b=>?_⟩;obtain⟨v,k1,k2,k3⟩:=q9 i p k a b;exact⟨v,k1,fun hj=>(k2 hj).mono hm hw fun _ _=>rfl,fun γ xf hf=>⟨(k3 γ xf hf).1,Ei hb (k3 γ xf hf).2⟩⟩)|xw=>trivial);rw[jZ]at h1 h2;split at h1;cases h1;cases u1.1;split at h2;cases h2;cases u2.1;simp only[yR]at h1 h2;obtain⟨b0,Xv,rfl⟩:=h1;obtain⟨b1,Hk,rfl⟩:=h2;exact hi.inj γ γ' b0 b1 z Xv Hk (qE.Qw u1) (qE.Qw u2);rcases h with h|⟨hn,rfl⟩;exact hi.im b h;exact(hi.rB β _ hb).lt (C3 hn);rw[jZ]at hγ;split at hγ;cases hγ;cases hu.1;rename_i jz;simp only[yR]at hγ;obtain⟨b0,Xv,rfl⟩:=hγ;have hu:=qE.Qw hu;rcases h with h|⟨hn,h⟩;exact hi.Vt γ b0 z Xv hu h;exact jz (hi.inj γ β b0 _ z Xv hb hu ⟨C3 hn,.inl h⟩);by_cases he:γ=β;subst he;rw[hb]at hγ;cases hγ;exact⟨.xw,by simp[jZ],rfl⟩;refine⟨b.yz β qu sz es,by simp[jZ,he,hγ], ?_⟩;cases b<;>simp[q22,xS,q11,Pl.kD];rcases h with h|⟨hn,rfl⟩;exact .inl h;exact .inr (.inr ⟨β,_,hb,C3 hn,.inl rfl⟩);rw[jZ]at hγ;split at hγ;cases hγ;cases hu.1;simp only[yR]at hγ;obtain⟨b0,Xv,rfl⟩:=hγ;exact .inr ⟨γ,b0,Xv,qE.Qw hu⟩
structure Inv (w:World) (a:Act) (s:St) (ι:yq) (Im:Nat->Prop) (nt:Nat):Prop where
 heap:zc w s.heap ι Im
 env: ∀t,RA w s.heap ι Im (s.env.get t) (a.tmps.getD t undef)
 nx: ∀β b,s.heap.get β=some b->β<s.nx
 size:nt<=a.tmps.size
 defers:a.defers=[]
theorem Zc(f:AV->AV)(hf:f .undef= .undef): ∀(E:yp)(t:Nat),V! (E.map fun(t,v)=>(t,f v)) t=f (E.get t)
 |[],t=>by simp[V!,hf]
 |(i,v)::r,t=>by simp only[s?,V!];split;rfl;exact Zc f hf r t
theorem aP{α:Type}{d:Nat}: ∀(es:List (List α))(i:Nat),(∀ e∈es,e.length=d)-> ∀e(j:Nat) p,es[i]? =some e->e[j]? =some p->es.flatten[i*d+j]? =some p
 |[],i,_,e,j,p,h,_=>by simp at h
 |x::r,0,hl,e,j,p,h,hj=>by simp at h;subst h;have:=(qF hj).1;rw[Nat.zero_mul,P?,K!,r? this];exact hj
 |x::r,i+1,hl,e,j,p,h,hj=>by have hx:=hl x z?;rw[K!,J? (by rw[hx,B?];omega),hx];have ih:=aP r i (fun e he=>hl e (by simp[he])) e j p (by simpa using h) hj;rw[show (i+1)*d+j-d=i*d+j by rw[B?];omega];exact ih
theorem l5.kP{ds:List Nat}{p:PV}{v:Value}{k:Sk}(h:l5 w Im ds p v k):p.kP=true:=by cases h with|V0 p v hs h=>(cases p<;>first|rfl|cases hs)|nil=>rfl|sl=>rfl
theorem l5.pure{jV:Nat->Prop}(hm: ∀b,Im b->jV b){ds:List Nat}{p:PV}{v:Value}{k:Sk}(h:l5 w Im ds p v k):(∀ x∈k.blocks,jV x)->RP w jV p v:=by
 induction h with
  |V0 p v hs h=>exact fun _=>h.mono hm fun _ _=>rfl
  |nil d ds=>exact fun _=> .aS 0
  |sl d ds es b o cap ks vs elem fz hb hfz EL hd hle ho dm Ng val K1 hh ih=>
   (intro hk;have hszc:es≠[]->zV d es=d:=fun h=>by cases es with|nil=>exact absurd rfl h|cons _ _=>rfl);have QE: ∀(i:Nat) e(j:Nat) p,es[i]? =some e->e[j]? =some p->es.flatten[i*d+j]? =some p:=fun i e j p h1 h2=>aP es i dm e j p h1 h2;have jz: ∀{i:Nat}{e:List PV},es[i]? =some e->es≠[]:=fun h he=>by rw[he]at h;cases h
   have VQ: ∀(i:Nat) e(j:Nat) p,es[i]? =some e->e[j]? =some p-> ∃k,ks[i*d+j]? =some k/\l5 w Im ds p (val (i*d+j)) k/\RP w jV p (val (i*d+j)):=fun i e j p h1 h2=>by
    have h3:=QE i e j p h1 h2;have h4:=(qF h3).1;obtain⟨k,ZG⟩: ∃k,ks[i*d+j]? =some k:=⟨ks[i*d+j]'(o?),z?⟩;exact⟨k,ZG,hh _ p k h3 ZG,ih _ p k h3 ZG fun x hx=>hk x (by
     simp only[k!,U?,e!]
     exact .inr ⟨k,z6 ZG,hx⟩)⟩
   refine .sl (zV d es) es b o cap val (fun _=>hk b (by simp[k!])) hle (fun e he=>?_) (fun i xJ=>?_) (fun i e j p h1 h2=>?_) (fun i e j p h1 h2=>?_) none (fun _=>rfl);rw[hszc (List.ne_nil_of_mem he)];exact dm e he;(have hn:es≠[]:=fun he=>by subst he;simp at xJ);(rw[hszc hn]at xJ;have pZ:=List.length_pos_iff.2 hn;rw[ho o?,P?,gA hb];have hfll:es.flatten.length=es.length*d:=by clear QE VQ jz hszc hh ih hk K1 Ng hle hn pZ xJ ho;induction es with|nil=>simp|cons x r ih=>rw[K!,t?,ih (fun e he=>dm e (by simp[he])),dm x z?,h?,B?];omega);exact K1 i o?;obtain⟨k,_,h3,_⟩:=VQ i e j p h1 h2;exact h3.kP;rw[hszc (jz h1)];obtain⟨k,_,_,h3⟩:=VQ i e j p h1 h2;exact h3
theorem seal_ok(hi:zc w H ι Im){β:Nat}{qu:Bool}{ds:List Nat}{es:List PV}(hb:H.get β=some (.jf qu ds es none)):
  ∃jV,zc w (H.put β (.row qu 1 (es.map fun p=>[p]))) ι jV/\wR w H ι Im w (H.put β (.row qu 1 (es.map fun p=>[p]))) ι jV:=by
 let jV:Nat->Prop:=fun b=>Im b\/(qu=false/\b∈(ι β).ks.flatMap k!);have hm: ∀b,Im b->jV b:=fun b h=> .inl h;have YC: ∀{x:Nat},qu=false/\x∈(ι β).ks.flatMap k!->(H_ qu ds es none).yc (ι β) x:=fun h=>⟨by simp[w_,h.1],.inr ⟨rfl,h.2⟩⟩;have eB: ∀{x:Nat},(qE.row qu 1 (es.map fun p=>[p])).yc (ι β) x->qu=false/\x=(ι β).b:=fun h=>by refine⟨by simpa[w_]using h.1, ?_⟩;rcases h.2 with h|⟨h,_⟩;exact h;cases h
 have C1: ∀{x:Nat},(qE.row qu 1 (es.map fun p=>[p])).yc (ι β) x->(H_ qu ds es none).yc (ι β) x:=fun h=>⟨by simp[w_,(eB h).1],.inl (eB h).2⟩;have he:wR w H ι Im w (H.put β (.row qu 1 (es.map fun p=>[p]))) ι jV:=by refine⟨fun γ b hγ=>?_,hm,fun b h=>?_,fun γ x z hγ hu=>?_,fun _ _ _=>rfl,jx _,rfl,rfl⟩;by_cases e:γ=β;subst e;rw[hb]at hγ;cases hγ;exact⟨.row qu 1 (es.map fun p=>[p]),by simp[p!],by simp[xS,q11,Pl.kD]⟩;exact⟨b,by simp[p!,e,hγ],uU _ _⟩;rcases h with h|h;exact .inl h;exact .inr (.inr ⟨β,_,hb,YC h⟩);by_cases e:γ=β;subst e;simp only[p!,if_true,ki]at hγ;subst hγ;exact .inr ⟨γ,_,hb,C1 hu⟩;simp only[p!,e,if_false]at hγ;exact .inr ⟨γ,x,hγ,hu⟩
 have hold: ∀{γ:Nat}{b:qE},(H.put β (.row qu 1 (es.map fun p=>[p]))).get γ=some b-> ∃b0,H.get γ=some b0/\ ∀{x:Nat},b.yc (ι γ) x->b0.yc (ι γ) x:=fun{γ b} h=>by by_cases e:γ=β;subst e;simp only[p!,if_true,ki]at h;subst h;exact⟨_,hb,C1⟩;simp only[p!,e,if_false]at h;exact⟨b,h,id⟩
 refine⟨jV,⟨fun γ b hγ=>?_,fun γ γ' b b' z h1 h2 u1 u2=>?_,fun b h=>?_,fun γ b z hγ hu h=>?_,hi.Na,fun b hb=> .inl (hi.VP b hb)⟩,he⟩;by_cases e:γ=β;(subst e;simp only[p!,if_true,ki]at hγ;subst hγ;cases qu with|true=>have:es=[]:=(hi.rB γ _ hb).1;subst this;rfl|false=>(obtain⟨vs,elem,fz,h1,h2,h3,h4,h5,h6,h7,h8,h9⟩:=hi.jf hb;have hg: ∀(i:Nat) e(j:Nat) p,(es.map fun p=>[p])[i]? =some e->e[j]? =some p->j=0/\es[i]? =some p:=by intro i e j p a b;rw[X?,yR]at a;obtain⟨q,a,rfl⟩:=a;cases j with|zero=>simp at b;subst b;exact⟨rfl,a⟩|succ j=>simp at b);(have hk: ∀{i:Nat}{p:PV},es[i]? =some p-> ∃k,(ι γ).ks[i]? =some k:=fun{i p} a=>by have:=(qF a).1;exact⟨(ι γ).ks[i]'(o?),z?⟩);refine⟨vs,elem,fz,h1,h2,by simpa using h3,o?,by simpa using h4,fun e he=>?_,fun i e j p a b=>?_,fun i e j p a b=>?_⟩;obtain⟨q,_,rfl⟩:=N?.1 he;rfl;obtain⟨rfl,a⟩:=hg i e j p a b;obtain⟨k,c⟩:=hk a;obtain⟨v,_,k2,_⟩:=h9 i p k a c;exact(k2 fun _ _ _ h=>by cases h).kP;obtain⟨rfl,a⟩:=hg i e j p a b;obtain⟨k,c⟩:=hk a;obtain⟨v,k1,k2,_⟩:=h9 i p k a c;refine⟨v,by simpa using k1,(k2 fun _ _ _ h=>by cases h).pure hm fun x hx=> .inr ⟨rfl,e!.2 ⟨k,z6 c,hx⟩⟩⟩);simp only[p!,e,if_false]at hγ;exact(hi.rB γ b hγ).mono hi he fun _=>⟨rfl,fun _ _=>rfl⟩;obtain⟨b0,g1,g2⟩:=hold h1;obtain⟨b1,g3,g4⟩:=hold h2;exact hi.inj γ γ' b0 b1 z g1 g3 (g2 u1) (g4 u2);rcases h with h|h;exact hi.im b h;exact(hi.rB β _ hb).cn (YC h);obtain⟨b0,g1,g2⟩:=hold hγ;rcases h with h|h;exact hi.Vt γ b0 z g1 (g2 hu) h;have e:=hi.inj γ β b0 _ z g1 hb (g2 hu) (YC h);subst e;simp only[p!,if_true,ki]at hγ;subst hγ;obtain⟨e1,e2⟩:=eB hu;subst e1;obtain⟨vs,elem,fz,h1,h2,h3,h4,h5,h6,_⟩:=hi.jf hb;rw[e2]at h;exact(d!.1 h6).1 h.2
theorem JC(f:qE->qE)(β:Nat)(y z:qE): ∀H:qr,q_ ((q_ H β y).map fun(i,b)=>(i,f b)) β z=q_ (H.map fun(i,b)=>(i,f b)) β z
 |[]=>by simp[q_]
 |(i,b)::r=>by by_cases h:i=β;simp[q_,h];simp only[q_,h,if_false,s?];rw[JC f β y z r]
theorem Ft{a:Act}{s:St}{nt:Nat}(h:Inv w a s ι Im nt)(β:Nat):
  ∃jV,Inv w a (freeze β s) ι jV nt/\wR w s.heap ι Im w (freeze β s).heap ι jV:=by unfold freeze;split;rename_i qu sz es hb;obtain⟨h1,h2⟩:=Yz h.heap hb;refine⟨_,⟨h1,fun t=>?_,fun γ b hγ=>?_,h.size,h.defers⟩,h2⟩;show RA w _ ι _ (V! (s.env.map fun(t,v)=>(t,v.yz β qu sz es)) t) _;rw[Zc _ rfl];exact Kt h.heap hb (h.env t);have hγ' :(u7 β qu sz es s.heap).get γ=some b:=hγ;rw[jZ]at hγ';split at hγ';rename_i e;subst e;exact h.nx γ _ hb;simp only[yR]at hγ';obtain⟨b0,Xv,_⟩:=hγ';exact h.nx γ b0 Xv;(rename_i qu ds es hb;obtain⟨o6,q1,q2⟩:=seal_ok h.heap hb;have Hk:(s.heap.put β (.row qu 1 (es.map fun p=>[p]))).get β=some (.row qu 1 (es.map fun p=>[p])):=by simp[p!]);obtain⟨h1,h2⟩:=Yz q1 Hk;have hf:u7 β qu 1 (es.map fun p=>[p]) (s.heap.put β (.row qu 1 (es.map fun p=>[p])))=q_ (s.heap.map fun(i,b)=>(i,b.yz β qu 1 (es.map fun p=>[p]))) β .xw:=JC _ _ _ _ _;have JY:=fun t=>Kt q1 Hk ((h.env t).mono h.heap q2);rw[hf]at h1 h2;refine⟨_,⟨h1,fun t=>?_,fun γ b hγ=>?_,h.size,h.defers⟩,q2.trans h2⟩;show RA w _ ι _ (V! (s.env.map fun(t,v)=>(t,v.yz β qu 1 (es.map fun p=>[p]))) t) _;rw[Zc _ rfl,<- hf];exact JY t;have hγ' :(q_ (s.heap.map fun(i,b)=>(i,b.yz β qu 1 (es.map fun p=>[p]))) β .xw).get γ=some b:=hγ;rw[<- hf,jZ]at hγ';split at hγ';rename_i e;subst e;exact h.nx γ _ hb;rename_i e;simp only[yR,p!,e,if_false]at hγ';obtain⟨b0,Xv,_⟩:=hγ';exact h.nx γ b0 Xv;exact⟨Im,h,W! _ _ _ _⟩
theorem tM{a:Act}{nt:Nat}: ∀(l:List Nat){s:St}{Im:Nat->Prop},Inv w a s ι Im nt->
  ∃jV,Inv w a (uW l s) ι jV nt/\wR w s.heap ι Im w (uW l s).heap ι jV
 |[],s,Im,h=>⟨Im,h,W! _ _ _ _⟩
 |β::r,s,Im,h=>by obtain⟨o6,h1,e1⟩:=Ft h β;obtain⟨GC,h2,e2⟩:=tM r h1;exact⟨GC,h2,e1.trans e2⟩
end
section
variable [xg] {P:Program} {w:World} {H:qr} {ι:yq} {Im:Nat->Prop}
theorem Wc(hi:zc w H ι Im){β γ:Nat}(jz:β≠γ){x y z:qE}{p q:Pl}(hx:H.get β=some x)
  (cb:xS x y (ι β) p) (cg: ∀c,H.get γ=some c->xS c z (ι γ) q)
  (fy: ∀t,y.yc p t->x.yc (ι β) t\/ ∃c,H.get γ=some c/\c.yc (ι γ) t)
  (fz: ∀t,z.yc q t->x.yc (ι β) t\/ ∃c,H.get γ=some c/\c.yc (ι γ) t)
  (dis: ∀t,y.yc p t->z.yc q t->False)
  (eP:wR w H ι Im w ((H.put β y).put γ z) (jY (jY ι β p) γ q) Im->rE w ((H.put β y).put γ z) (jY (jY ι β p) γ q) Im β y)
  (bz:wR w H ι Im w ((H.put β y).put γ z) (jY (jY ι β p) γ q) Im->rE w ((H.put β y).put γ z) (jY (jY ι β p) γ q) Im γ z):
  zc w ((H.put β y).put γ z) (jY (jY ι β p) γ q) Im/\wR w H ι Im w ((H.put β y).put γ z) (jY (jY ι β p) γ q) Im:=by
 have get: ∀δ,((H.put β y).put γ z).get δ=if δ=γ then some z else if δ=β then some y else H.get δ:=fun δ=>by rw[p!];split;rfl;rw[p!]
 have pg:jY (jY ι β p) γ q γ=q:=z?;have pb:jY (jY ι β p) γ q β=p:=by rw[pD _ _ jz];simp
 have po: ∀{δ},δ≠β->δ≠γ->jY (jY ι β p) γ q δ=ι δ:=fun h1 h2=>by rw[pD _ _ h2,pD _ _ h1]
 have NW: ∀{δ:Nat}{b:qE}{t:Nat},((H.put β y).put γ z).get δ=some b->b.yc (jY (jY ι β p) γ q δ) t-> ∃δ0 b0,H.get δ0=some b0/\b0.yc (ι δ0) t/\((δ=δ0/\δ≠β/\δ≠γ)\/((δ=β\/δ=γ)/\(δ0=β\/δ0=γ))):=by intro δ b t h1 h2;rw[get]at h1;by_cases e1:δ=γ;subst e1;rw[if_pos rfl]at h1;cases h1;rw[pg]at h2;rcases fz t h2 with h|⟨c,g1,g2⟩;exact⟨β,x,hx,h,.inr ⟨.inr rfl,.inl rfl⟩⟩;exact⟨δ,c,g1,g2,.inr ⟨.inr rfl,.inr rfl⟩⟩;rw[if_neg e1]at h1;by_cases e2:δ=β;subst e2;rw[if_pos rfl]at h1;cases h1;rw[pb]at h2;rcases fy t h2 with h|⟨c,g1,g2⟩;exact⟨δ,x,hx,h,.inr ⟨.inl rfl,.inl rfl⟩⟩;exact⟨γ,c,g1,g2,.inr ⟨.inl rfl,.inr rfl⟩⟩;rw[if_neg e2]at h1;rw[po e2 e1]at h2;exact⟨δ,b,h1,h2,.inl ⟨rfl,e2,e1⟩⟩
 have he:wR w H ι Im w ((H.put β y).put γ z) (jY (jY ι β p) γ q) Im:=by refine⟨fun δ b hb=>?_,fun _ h=>h,fun _ h=> .inl h,fun δ b t h1 h2=>?_,fun _ _ _=>rfl,jx _,rfl,rfl⟩;by_cases e1:δ=γ;subst e1;exact⟨z,by rw[get,if_pos rfl],by rw[pg];exact cg b hb⟩;by_cases e2:δ=β;subst e2;rw[hx]at hb;cases hb;exact⟨y,by rw[get,if_neg e1,if_pos rfl],by rw[pb];exact cb⟩;exact⟨b,by rw[get,if_neg e1,if_neg e2];exact hb,by rw[po e2 e1];exact uU _ _⟩;obtain⟨δ0,b0,g1,g2,_⟩:=NW h1 h2;exact .inr ⟨δ0,b0,g1,g2⟩
 refine⟨⟨fun δ b hb=>?_,fun δ δ' b b' t h1 h2 u1 u2=>?_,hi.im,fun δ b t h1 h2=>?_,hi.Na,hi.VP⟩,he⟩;have js:=hb;rw[get]at hb;by_cases e1:δ=γ;subst e1;rw[if_pos rfl]at hb;cases hb;exact bz he;rw[if_neg e1]at hb;by_cases e2:δ=β;subst e2;rw[if_pos rfl]at hb;cases hb;exact eP he;rw[if_neg e2]at hb;exact(hi.rB δ b hb).mono hi he fun _=>⟨po e2 e1,fun _ _=>rfl⟩;obtain⟨δ0,b0,g1,g2,g3⟩:=NW h1 u1;obtain⟨δ1,b1,k1,k2,k3⟩:=NW h2 u2;have e:=hi.inj δ0 δ1 b0 b1 t g1 k1 g2 k2;subst e;rcases g3 with ⟨rfl,n1,n2⟩|⟨g3,g4⟩;rcases k3 with ⟨rfl,_,_⟩|⟨_,k4⟩;rfl;rcases k4 with h|h;exact absurd h n1;exact absurd h n2;rcases k3 with ⟨rfl,n1,n2⟩|⟨k3,k4⟩;rcases g4 with h|h;exact absurd h n1;exact absurd h n2;rw[get]at h1 h2;rcases g3 with rfl|rfl<;>rcases k3 with rfl|rfl;rfl;rw[if_neg jz,if_pos rfl]at h1;rw[if_pos rfl]at h2;cases h1;cases h2;rw[pb]at u1;rw[pg]at u2;exact(dis t u1 u2).elim;rw[if_neg jz,if_pos rfl]at h2;rw[if_pos rfl]at h1;cases h1;cases h2;rw[pb]at u2;rw[pg]at u1;exact(dis t u2 u1).elim;rfl;obtain⟨δ0,b0,g1,g2,_⟩:=NW h1 h2;exact hi.Vt δ0 b0 t g1 g2
theorem i7: ∀{ks:List Sk}{i:Nat}{k:Sk},ks[i]? =some k->(ks.flatMap k!).Nodup->(∀ x∈k.blocks,x∈ks.flatMap k!/\x∉(ks.set i .leaf).flatMap k!)/\k.blocks.Nodup
 |[],i,k,h,_=>by simp at h
 |a::r,0,k,h,hn=>by simp at h;subst h;rw[D?,j!]at hn;refine⟨fun x hx=>⟨by simp[hx],fun LK=>?_⟩,hn.1⟩;simp only[L',D?,k!,List.nil_append]at LK;exact hn.2.2 x hx x LK rfl
 |a::r,i+1,k,h,hn=>by rw[D?,j!]at hn;obtain⟨ih1,ih2⟩:=i7 (ks:=r) (i:=i) (by simpa using h) hn.2.1;refine⟨fun x hx=>?_,ih2⟩;obtain⟨j1,j2⟩:=ih1 x hx;refine⟨by rw[D?];exact t_ _ j1,fun LK=>?_⟩;rw[q06,D?]at LK;rcases m?.1 LK with h2|h2;exact hn.2.2 x h2 x j1 rfl;exact j2 h2
theorem Jp{α:Type}{d:Nat}(hd:0<d): ∀(es:List (List α)),(∀ e∈es,e.length=d)-> ∀(m:Nat) p,es.flatten[m]? =some p-> ∃e,es[m / d]? =some e/\e[m % d]? =some p
 |[],_,m,p,h=>by simp at h
 |x::r,hl,m,p,h=>by have hx:=hl x z?;by_cases hm:m<d;rw[K!,r? o?]at h;exact⟨x,by rw[Nat.div_eq_of_lt hm];rfl,by rw[Nat.mod_eq_of_lt hm];exact h⟩;(rw[K!,J? o?,hx]at h;obtain⟨e,h1,h2⟩:=Jp hd r (fun e he=>hl e (by simp[he])) (m-d) p h;have e1:m / d=(m-d) / d+1:=by rw[Nat.div_eq_sub_div hd o?]);(have e2:m % d=(m-d) % d:=by rw[Nat.mod_eq_sub_mod o?]);exact⟨e,by rw[e1];simpa using h1,by rw[e2];exact h2⟩
theorem lJ{α:Type}{d:Nat}: ∀(es:List (List α)),(∀ e∈es,e.length=d)->es.flatten.length=es.length*d
 |[],_=>z?
 |x::r,hl=>by rw[K!,t?,lJ r (fun e he=>hl e (by simp[he])),hl x z?,h?,B?];omega
theorem lK{α:Type}(es:List α):(es.map fun p=>[p]).flatten=es:=by induction es with|nil=>rfl|cons x r ih=>simp[ih]
def Sk.pl:Sk->Pl
 | .leaf=>⟨0,0,[]⟩
 | .node b cap ks=>⟨b,cap,ks⟩
theorem Fq(hi:zc w H ι Im){nx:Nat}(xY: ∀β b,H.get β=some b->β<nx){β i γ fm:Nat}{H' :qr}(h:Hc H nx β i=some (H',fm,γ)):
  ∃ι',zc w H' ι' Im/\wR w H ι Im w H' ι' Im/\ ∀β b,H'.get β=some b->β<fm:=by
 unfold Hc at h;split at h
 ·rename_i eu es hb;split at h;rotate_left;cases h;rename_i d ds;split at h;rotate_left;cases h;rename_i qu sz ov hp;split at h;rotate_left;cases h;(rename_i rB l6;cases h;obtain⟨vs,elem,fz,h1,h2,h3,h4,h5,h6,h7,h8,h9⟩:=hi.jf hb;obtain⟨EH,Tt⟩:=d!.1 h6;have dh:=(qF hp).1;obtain⟨k,hk⟩: ∃k,(ι β).ks[i]? =some k:=⟨(ι β).ks[i]'(o?),z?⟩;obtain⟨v,k1,k2,_⟩:=h9 i _ k hp hk;have hO:=k2 fun _ _ _ h=>by cases h);(obtain⟨nK,EK⟩:=i7 hk Tt;have jz:β≠nx:=fun e=>by have:=xY β _ hb;omega);(have oB:H.get nx=none:=by cases hh:H.get nx with|none=>rfl|some b=>have:=xY nx b hh;omega);(have key: ∀(H' :qr)(ι' :yq),ι' nx=k.pl->H'.get nx=some rB->rE w H' ι' Im nx rB/\RA w H' ι' Im (.row nx ov.length 0 ov.length) v/\(∀ t,rB.yc k.pl t->t∈k.blocks):=by intro H' ι' cp pY;cases hO with|nil=>unfold Ha at l6;split at l6;cases l6;refine⟨rfl,.row _ _ _ _ _ _ rfl pY (fun _=>⟨_,_,_,rfl⟩) (fun _ _ _ e=>by cases e;exact jx _) (fun _ _ _ e _=>by cases e;exact⟨z?,rfl⟩),fun t ht=>?_⟩;exact absurd ht.1 (by simp[w_]);split at l6<;>cases l6;refine⟨⟨rfl,rfl⟩,.row _ _ _ _ _ _ rfl pY (fun _=>⟨_,_,_,rfl⟩) (fun _ _ _ e=>by cases e;exact jx _) (fun _ _ _ e _=>by cases e;exact⟨z?,rfl⟩),fun t ht=>?_⟩;exact absurd ht.1 (by simp[w_])|sl _ _ _ b o cap ks ei elem' fz' q1 q2 q3 q4 q5 q6 q7 q8 val q9 q10=>(have Wl:(ι' nx)=⟨b,cap,ks⟩:=cp;have hhead: ∀(bl:qE)(sz:Nat),bl.sh=some (false,sz,ov.length)->H'.get nx=some bl->RA w H' ι' Im (.row nx ov.length 0 ov.length) (.slice (some ⟨b,o,none⟩) ov.length cap):=by intro bl sz hsh hg;refine .row _ _ _ _ _ _ rfl hg (fun _=>⟨_,_,_,hsh⟩) (fun _ _ _ e=>by rw[hsh]at e;cases e;exact jx _) (fun _ _ _ e _=>?_);rw[hsh]at e;cases e;refine⟨z?, ?_⟩;simp only[ko,if_false,Wl];exact⟨⟨b,o,none⟩,z?,rfl,rfl,fun hc=>by rw[q6 hc];simp⟩);(have Ng:(Sk.node b cap ks).blocks=b::ks.flatMap k!:=by simp[k!]);have hbl: ∀x∈ks.flatMap k!,x<w.heap.size:=fun x hx=>h7 x (nK x (by rw[Ng];simp[hx])).1;unfold Ha at l6;split at l6;cases l6;refine⟨⟨ei,elem',fz',by rw[Wl];exact q1,q2,by rw[Wl];exact q3,q4,by rw[Wl];exact q5,q7,fun i e j p a c=>?_,fun i e j p a c=>?_⟩,hhead _ _ rfl pY,fun t ht=>?_⟩;have hf:=aP ov i q7 e j p a c;have:=(qF hf).1;obtain⟨k',ZG⟩: ∃k',ks[i*d+j]? =some k' :=⟨ks[i*d+j]'(o?),z?⟩;exact(q10 _ p k' hf ZG).kP;(have hf:=aP ov i q7 e j p a c;have:=(qF hf).1;obtain⟨k',ZG⟩: ∃k',ks[i*d+j]? =some k' :=⟨ks[i*d+j]'(o?),z?⟩;refine⟨val (i*d+j),q9 _ this, ?_⟩;have h0:=q10 _ p k' hf ZG;generalize val (i*d+j)=u at h0;cases h0 with|V0 _ _ _ h=>exact h);rw[Ng];rcases ht.2 with h|⟨h,_⟩;rw[h];simp[Sk.pl];cases h;(rename_i d1 ds1;split at l6<;>cases l6;rename_i hd1;subst hd1;have QE:ov.flatten.length=ov.length:=by rw[lJ ov q7,Nat.mul_one]);refine⟨⟨ei,elem',fz',by rw[Wl];exact q1,q2,by rw[Wl];simpa using q3,by rw[Wl,QE];exact q5,by rw[Wl];exact q8, ?_, ?_,fun _ _ _ h=>(by cases h),fun i p k' a c=>?_⟩, ?_,fun t ht=>?_⟩;rw[Wl];rw[Ng]at EK;exact EK;rw[Wl];exact hbl;rw[Wl]at c;have:=(qF a).1;exact⟨val i,q9 _ this,fun _=>q10 i p k' a c,fun _ _ h=>by cases h⟩;exact hhead _ 1 (by simp only[q11,QE]) pY;rw[Ng];rcases ht.2 with h|⟨_,h⟩;rw[h];simp[Sk.pl];exact List.mem_cons_of_mem _ h);(refine⟨jY (jY ι β ⟨(ι β).b,(ι β).cap,(ι β).ks.set i .leaf⟩) nx k.pl, ?_⟩;have hgn:((H.put β (.jf false (d::ds) es (some (i,nx,ov.length)))).put nx rB).get nx=some rB:=by simp[p!]);obtain⟨m1,m2,m3⟩:=key _ (jY (jY ι β ⟨(ι β).b,(ι β).cap,(ι β).ks.set i .leaf⟩) nx k.pl) z? hgn;have pb:jY (jY ι β ⟨(ι β).b,(ι β).cap,(ι β).ks.set i .leaf⟩) nx k.pl β=⟨(ι β).b,(ι β).cap,(ι β).ks.set i .leaf⟩:=by rw[pD _ _ jz];simp
  have gg:=Wc hi jz (y:= .jf false (d::ds) es (some (i,nx,ov.length))) (z:=rB) (p:=⟨(ι β).b,(ι β).cap,(ι β).ks.set i .leaf⟩) (q:=k.pl) hb (by simp[xS,q11,Pl.kD]) (fun c hc=>by rw[oB]at hc;cases hc)
   (fun t ht=> .inl ⟨rfl,ht.2.imp id fun h=>⟨rfl,tK h.2⟩⟩) (fun t ht=> .inl ⟨rfl,.inr ⟨rfl,(nK t (m3 t ht)).1⟩⟩)
   (fun t ht hz=>by
    have hz' :=m3 t hz
    rcases ht.2 with h|⟨_,h⟩
    ·exact EH (h ▸ (nK t hz').1)
    exact(nK t hz').2 h)
   (fun mM=>by
    refine⟨vs,elem,fz,by rw[pb];exact h1,h2,by rw[pb];exact h3,by rw[pb];exact h4,by rw[pb];simpa using h5,by rw[pb];exact d!.2 ⟨fun h=>EH (tK h),J4 Tt⟩,fun x hx=>h7 x (by rw[pb]at hx;exact tK hx),fun j γ' xf hf=>(by cases hf;exact dh),fun i' p k' a c=>?_⟩
    rw[pb]at c
    by_cases e:i=i'
    ·subst e
     rw[m_ o?]at c
     cases c
     exact⟨v,k1,fun h=>absurd rfl (h _ _ _ rfl),fun γ' xf hf=>by cases hf;exact⟨rfl,m2⟩⟩
    rw[B' e]at c
    obtain⟨v',g1,g2,_⟩:=h9 i' p k' a c
    exact⟨v',g1,fun _=>g2 fun _ _ _ h=>(by cases h),fun γ' xf hf=>by cases hf;exact absurd rfl e⟩)
   (fun _=>m1)
  refine⟨gg.1,gg.2,fun δ b hδ=>?_⟩;rw[p!]at hδ;split at hδ;omega;rw[p!]at hδ;split at hδ;rename_i e;have:=xY β _ hb;omega;have:=xY δ b hδ;omega
 split at h<;>cases h;exact⟨ι,hi,W! _ _ _ _,xY⟩;cases h
theorem Wa: ∀(l:List Nat){H:qr}{ι:yq}{nx β:Nat},zc w H ι Im->(∀ β b,H.get β=some b->β<nx)->
  ∃ι',zc w (dB H nx β l).1 ι' Im/\wR w H ι Im w (dB H nx β l).1 ι' Im/\ ∀δ b,(dB H nx β l).1.get δ=some b->δ<(dB H nx β l).2
 |[],H,ι,nx,β,hi,xY=>⟨ι,hi,W! _ _ _ _,xY⟩
 |i::r,H,ι,nx,β,hi,xY=>by unfold dB;split;rename_i H' fm γ h;obtain⟨ι1,a1,a2,a3⟩:=Fq hi xY h;obtain⟨ι2,b1,b2,b3⟩:=Wa r (β:=γ) a1 a3;exact⟨ι2,b1,a2.trans b2,b3⟩;exact⟨ι,hi,W! _ _ _ _,xY⟩
theorem oo{ks:List Sk}{i x:Nat}{k:Sk}(h:x∈(ks.set i k).flatMap k!):x∈ks.flatMap k!\/x∈k.blocks:=by rw[e!]at h;obtain⟨k',hk,hx⟩:=h;rcases l! hk with h|h;exact .inl (e!.2 ⟨k',h,hx⟩);subst h;exact .inr hx
theorem U3: ∀{ks:List Sk}{i:Nat}{k:Sk},(ks.flatMap k!).Nodup->k.blocks.Nodup->(∀ x∈k.blocks,x∉ks.flatMap k!)->((ks.set i k).flatMap k!).Nodup
 |[],i,k,h,_,_=>z?
 |a::r,0,k,h,hk,hd=>by rw[D?,j!]at h;rw[L',D?,j!];exact⟨hk,h.2.1,fun x hx y hy e=>hd x hx (by rw[D?,e];exact t_ _ hy)⟩
 |a::r,i+1,k,h,hk,hd=>by rw[D?,j!]at h;rw[q06,D?,j!];refine⟨h.1,U3 h.2.1 hk fun x hx hy=>hd x hx (by rw[D?];exact t_ _ hy),fun x hx y hy e=>?_⟩;subst e;rcases oo hy with h2|h2;exact h.2.2 x hx x h2 rfl;exact hd x h2 (by rw[D?];exact List.mem_append_left _ hx)
theorem Mz{es:List (List PV)}(h:cr es=true){e:List PV}(he:e∈es){p:PV}(hp:p∈e):p.V0=true:=by unfold cr at h;rw[Z!]at h;have:=h e he;rw[Z!]at this;exact this p hp
theorem R9(hi:zc w H ι Im){γ:Nat}{b:qE}(hg:H.get γ=some b){d:Nat}{ds:List Nat}{xf:Nat}{p:PV}(hp:Xd d ds xf b=some p){v:Value}(hv:RA w H ι Im (.row γ xf 0 xf) v):
  ∃k,l5 w Im (d::ds) p v k/\k.blocks.Nodup/\(∀ x∈k.blocks,b.yc (ι γ) x)/\(∃ a,b.sh=some a):=by
 cases hv with
  |row _ _ _ _ _ b' ho js hk jA h=>
   rw[hg]at js;cases js;unfold Xd at hp;split at hp;{rename_i qu sz es;split at hp;rotate_left;cases hp;split at hp<;>cases hp;rename_i hc;obtain⟨rfl,mr,hsc⟩:=hc;obtain⟨_,h2⟩:=h _ _ _ rfl rfl;cases qu with|true=>simp only[if_true]at h2;subst h2;have dm:es=[]:=hi.rB γ _ hg;subst dm;exact⟨.leaf,.nil d [],by simp[Sk.blocks],by simp[Sk.blocks],_,rfl⟩|false=>(have mr:sz=d:=by simpa using mr);(subst mr;simp only[ko,if_false]at h2;obtain⟨⟨ab,ao,DT⟩,rfl,oP,eU,Qm⟩:=h2;simp only at oP eU Qm;subst oP eU;obtain⟨vs,elem,fz,g1,g2,g3,g4,g5,g6,g7,g8⟩:=hi.row hg;have QE:=lJ es g6;have hle:es.length*sz<=vs.size:=by rw[g3];exact mulR _ g5);refine⟨.node (ι γ).b (ι γ).cap (List.replicate es.flatten.length .leaf), ?_, ?_, ?_,_,rfl⟩;refine .sl sz [] es (ι γ).b ao (ι γ).cap _ vs elem fz g1 g2 g3 g4 g5 (fun hc=>by rw[Qm hc];simp) g6 z? (fun i=>(vs[i]?).getD undef) (fun i xJ=>?_) (fun i p k a c=>?_);have:i<vs.size:=o?;simp[this];(obtain⟨e,e1,e2⟩:=Jp g4 es g6 i p a;obtain⟨v0,k1,k2⟩:=g8 _ e _ p e1 e2;rw[show i / sz*sz+i % sz=i by rw[Nat.mul_comm];exact Nat.div_add_mod i sz]at k1;have hk:k= .leaf:=by have:=z6 c;exact(List.mem_replicate.1 this).2);subst hk;simp only[k1,Option.getD_some];exact .V0 p v0 (Mz hsc (z6 e1) (z6 e2)) k2;(have:(List.replicate es.flatten.length Sk.leaf).flatMap Sk.blocks=[]:=by rw[List.flatMap_eq_nil_iff];intro x hx;rw[(List.mem_replicate.1 hx).2];simp[Sk.blocks]);simp only[Sk.blocks,this];simp;(intro x hx;have:(List.replicate es.flatten.length Sk.leaf).flatMap Sk.blocks=[]:=by rw[List.flatMap_eq_nil_iff];intro x hx;rw[(List.mem_replicate.1 hx).2];simp[Sk.blocks]);simp only[Sk.blocks,this,List.mem_singleton]at hx;exact⟨rfl,.inl hx⟩}
   ·rename_i qu SF es;split at hp;cases hp
    rename_i d1 ds1;split at hp<;>cases hp;rename_i hc;obtain⟨rfl,rfl,rfl⟩:=hc;obtain⟨_,h2⟩:=h _ _ _ rfl rfl;cases qu with
     |true=>simp only[if_true]at h2;subst h2;have dm:es=[]:=(hi.rB γ _ hg).1;subst dm;exact⟨.leaf,.nil 1 _,by simp[Sk.blocks],by simp[Sk.blocks],_,rfl⟩
     |false=>
      simp only[ko,if_false]at h2;obtain⟨⟨ab,ao,DT⟩,rfl,oP,eU,Qm⟩:=h2;simp only at oP eU Qm;subst oP eU;obtain⟨vs,elem,fz,g1,g2,g3,g4,g5,g6,g7,g8,g9⟩:=hi.jf hg;have hlen:(es.map fun p=>[p]).length=es.length:=z?;refine⟨.node (ι γ).b (ι γ).cap (ι γ).ks, ?_, ?_, ?_,_,rfl⟩
      ·have:=l5.sl (w:=w) (Im:=Im) 1 (d1::ds1) (es.map fun p=>[p]) (ι γ).b ao (ι γ).cap (ι γ).ks vs elem fz g1 g2 (by simpa using g3) o? (by simpa using g4) (fun hc=>by have:=Qm hc;omega) (fun e he=>by
        obtain⟨q,_,rfl⟩:=List.mem_map.1 he
        rfl) (by rw[lK];exact g5) (fun i=>(vs[i]?).getD undef) (fun i xJ=>by
        rw[lK]at xJ
        have:i<vs.size:=o?
        simp[this]) (fun i p k a c=>by
        rw[lK]at a
        obtain⟨v0,k1,k2,_⟩:=g9 i p k a c
        simp only[k1,Option.getD_some]
        exact k2 fun _ _ _ h=>by cases h)
       rw[hlen]at this;exact this
      simp only[Sk.blocks];exact g6;intro x hx;simp only[Sk.blocks,List.mem_cons]at hx;exact⟨rfl,hx.imp id fun h=>⟨rfl,h⟩⟩
   cases hp
theorem pack1_ok(hi:zc w H ι Im)(β:Nat): ∃ι',zc w (U9 H β) ι' Im/\wR w H ι Im w (U9 H β) ι' Im/\ ∀δ b,(U9 H β).get δ=some b-> ∃b0,H.get δ=some b0:=by
 have V8: ∃ι',zc w H ι' Im/\wR w H ι Im w H ι' Im/\ ∀δ b,H.get δ=some b-> ∃b0,H.get δ=some b0:=⟨ι,hi,W! _ _ _ _,fun _ b h=>⟨b,h⟩⟩;unfold U9;split
 ·rename_i d ds es i γ xf hb;split
  ·rename_i b hg;split
   ·(rename_i p hp;obtain⟨vs,elem,fz,h1,h2,h3,h4,h5,h6,h7,h8,h9⟩:=hi.jf hb;obtain⟨EH,Tt⟩:=d!.1 h6;have dh:=h8 _ _ _ rfl;obtain⟨v,k1,_,k3⟩:=h9 i es[i] (ι β).ks[i] (by simp[dh]) z?;obtain⟨k4,k5⟩:=k3 _ _ rfl;obtain⟨k,m1,m2,m3,⟨sh,m4⟩⟩:=R9 hi hg hp k5;have jz:β≠γ:=by intro e;subst e;rw[hb]at hg;cases hg;simp[Xd]at hp);have hdisj: ∀x∈k.blocks,¬ (H_ false (d::ds) es (some (i,γ,xf))).yc (ι β) x:=fun x hx hf=>jz (hi.inj β γ _ _ x hb hg hf (m3 x hx));have pb:jY (jY ι β ⟨(ι β).b,(ι β).cap,(ι β).ks.set i k⟩) γ (ι γ) β=⟨(ι β).b,(ι β).cap,(ι β).ks.set i k⟩:=by rw[pD _ _ jz];simp
    refine⟨jY (jY ι β ⟨(ι β).b,(ι β).cap,(ι β).ks.set i k⟩) γ (ι γ), ?_⟩;have gg:=Wc hi jz (y:= .jf false (d::ds) (es.set i p) none) (z:= .xw) (p:=⟨(ι β).b,(ι β).cap,(ι β).ks.set i k⟩) (q:=ι γ) hb (by simp[xS,q11,Pl.kD]) (fun c hc=>by
      rw[hg]at hc
      cases hc
      unfold xS
      rw[m4]
      rfl)
     (fun t ht=>by
      rcases ht.2 with h|⟨_,h⟩
      ·exact .inl ⟨rfl,.inl h⟩
      rcases oo h with h|h
      ·exact .inl ⟨rfl,.inr ⟨rfl,h⟩⟩
      exact .inr ⟨b,hg,m3 t h⟩) (fun t ht=>absurd ht.1 (by simp[w_])) (fun t _ ht=>absurd ht.1 (by simp[w_]))
     (fun mM=>by
      refine⟨vs,elem,fz,by rw[pb];exact h1,h2,by rw[pb];exact h3,by rw[pb];simpa using h4,by rw[pb];simpa using h5, ?_,fun x hx=>?_,fun _ _ _ h=>(by cases h),fun i' p' k' a c=>?_⟩
      ·rw[pb]
       refine d!.2 ⟨fun h=>?_,U3 Tt m2 fun x hx h=>hdisj x hx ⟨rfl,.inr ⟨rfl,h⟩⟩⟩
       rcases oo h with h|h
       ·exact EH h
       exact hdisj _ h ⟨rfl,.inl rfl⟩
      ·rw[pb]at hx
       rcases oo hx with h|h
       ·exact h7 x h
       exact(hi.rB γ b hg).cn (m3 x h)
      rw[pb]at c
      by_cases e:i=i'
      ·subst e
       rw[m_ o?]at a c
       cases a
       cases c
       exact⟨v,k1,fun _=>m1,fun _ _ h=>by cases h⟩
      rw[B' e]at a c
      obtain⟨v',g1,g2,_⟩:=h9 i' p' k' a c
      exact⟨v',g1,fun _=>g2 fun j γ' ver' hf=>by cases hf;exact fun e' =>e e'.symm,fun _ _ h=>by cases h⟩)
     (fun _=>trivial)
    refine⟨gg.1,gg.2,fun δ b' hδ=>?_⟩;rw[p!]at hδ;split at hδ;rename_i e;subst e;exact⟨_,hg⟩;rw[p!]at hδ;split at hδ;rename_i e;subst e;exact⟨_,hb⟩;exact⟨_,hδ⟩
   exact V8
  exact V8
 exact V8
theorem M3: ∀(n:Nat){H:qr}{ι:yq},zc w H ι Im-> ∀β,∃ ι',zc w (WQ n H β) ι' Im/\wR w H ι Im w (WQ n H β) ι' Im/\ ∀δ b,(WQ n H β).get δ=some b-> ∃b0,H.get δ=some b0
 |0,H,ι,hi,β=>⟨ι,hi,W! _ _ _ _,fun _ b h=>⟨b,h⟩⟩
 |n+1,H,ι,hi,β=>by
  unfold WQ;split
  ·rename_i x hb;obtain⟨ι1,a1,a2,a3⟩:=M3 n hi x.2.1;obtain⟨ι2,b1,b2,b3⟩:=pack1_ok a1 β;exact⟨ι2,b1,a2.trans b2,fun δ b h=>by
    obtain⟨b0,h0⟩:=b3 δ b h
    exact a3 δ b0 h0⟩
  exact⟨ι,hi,W! _ _ _ _,fun _ b h=>⟨b,h⟩⟩
theorem cut_ok(hi:zc w H ι Im){nx:Nat}(xY: ∀β b,H.get β=some b->β<nx){β n l:Nat}{b y:qE}(hb:H.get β=some b)(hc:KZ n b=some (l,y)):
  ∃ι',zc w ((H.put β .xw).put nx y) ι' Im/\wR w H ι Im w ((H.put β .xw).put nx y) ι' Im/\(∀ v,RA w H ι Im (.row β l 0 n) v->RA w ((H.put β .xw).put nx y) ι' Im (.row nx n 0 n) v)/\
   ∀δ b,((H.put β .xw).put nx y).get δ=some b->δ<nx+1:=by
 have jz:β≠nx:=fun e=>by have:=xY β _ hb;omega
 have oB:H.get nx=none:=by cases hh:H.get nx with|none=>rfl|some b=>have:=xY nx b hh;omega
 have hgn:((H.put β .xw).put nx y).get nx=some y:=by simp[qr.zg]
 have xJ: ∀δ b,((H.put β .xw).put nx y).get δ=some b->δ<nx+1:=fun δ b hδ=>by rw[qr.zg]at hδ;split at hδ;omega;rw[qr.zg]at hδ;split at hδ;rename_i e;have:=xY β _ hb;omega;have:=xY δ b hδ;omega
 have head: ∀(ι' :yq)(sz:Nat),(ι' nx).b=(ι β).b->(ι' nx).cap=(ι β).cap->y.sh=some (false,sz,n)->b.sh=some (false,sz,l)-> ∀v,RA w H ι Im (.row β l 0 n) v->RA w ((H.put β .xw).put nx y) ι' Im (.row nx n 0 n) v:=by intro ι' sz e1 e2 hy hbs v hv;cases hv with|row _ _ _ _ _ b' ho js hk jA h=>rw[hb]at js;cases js;obtain⟨_,h2⟩:=h _ _ _ hbs rfl;refine .row _ _ _ _ _ _ ho hgn (fun _=>⟨_,_,_,hy⟩) (fun _ _ _ e=>by rw[hy]at e;cases e;exact jx _) (fun _ _ _ e _=>?_);rw[hy]at e;cases e;refine⟨z?, ?_⟩;simp only[ko,if_false]at h2 |-;rw[e1,e2];exact h2
 unfold KZ at hc;split at hc
 ·rename_i sz es;split at hc<;>cases hc;rename_i hle;obtain⟨vs,elem,fz,g1,g2,g3,g4,g5,g6,g7,g8⟩:=hi.row hb;have pn:jY (jY ι β (ι β)) nx (ι β) nx=ι β:=z?;have gg:=Wc hi jz (y:= .xw) (z:= .row false sz (es.take n)) (p:=ι β) (q:=ι β) hb (by simp[xS,qE.sh]) (fun c hc=>by rw[oB]at hc;cases hc)
   (fun t ht=>absurd ht.1 (by simp[qE.used])) (fun t ht=> .inl ⟨rfl,ht.2.imp id fun h=>absurd h.1 (by simp[qE.C7])⟩) (fun t ht _=>absurd ht.1 (by simp[qE.used])) (fun _=>trivial)
   (fun mM=>⟨vs,elem,fz,by rw[pn];exact g1,g2,by rw[pn];exact g3,g4,by rw[pn,List.length_take];omega,fun e he=>g6 e (List.mem_of_mem_take he),fun i e j p a c=>by
     rw[List.getElem?_take]at a
     split at a
     ·exact g7 i e j p a c
     ·(cases a),fun i e j p a c=>by
     rw[List.getElem?_take]at a
     split at a
     ·exact g8 i e j p a c
     (cases a)⟩)
  exact⟨_,gg.1,gg.2,head _ sz (by rw[pn]) (by rw[pn]) (by simp[qE.sh];omega) rfl,xJ⟩
 ·rename_i qu eu es;split at hc<;>cases hc;rename_i hle;cases qu;rotate_left
  ·obtain⟨dm,_⟩:es=[]/\(none:Option (Nat×Nat×Nat))=none:=hi.rB β _ hb;subst dm;have GJ:n=0:=by simpa using hle
   subst GJ;have gg:=Wc hi jz (y:= .xw) (z:= .jf true eu [] none) (p:=ι β) (q:=⟨0,0,[]⟩) hb (by simp[xS,qE.sh]) (fun c hc=>by rw[oB]at hc;cases hc)
    (fun t ht=>absurd ht.1 (by simp[qE.used])) (fun t ht=>absurd ht.1 (by simp[qE.used])) (fun t ht _=>absurd ht.1 (by simp[qE.used])) (fun _=>trivial) (fun _=>⟨rfl,rfl⟩)
   refine⟨_,gg.1,gg.2,fun v hv=>?_,xJ⟩;cases hv with|row _ _ _ _ _ b' ho js hk jA h=>rw[hb]at js;cases js;obtain⟨_,h2⟩:=h _ _ _ rfl rfl;simp only[if_true]at h2;subst h2;exact .row _ _ _ _ _ (.jf true eu [] none) rfl hgn (fun _=>⟨_,_,_,rfl⟩) (fun _ _ _ e=>by cases e;exact jx _) (fun _ _ _ e _=>by cases e;exact⟨z?,rfl⟩)
  (obtain⟨vs,elem,fz,h1,h2,h3,h4,h5,h6,h7,h8,h9⟩:=hi.jf hb;obtain⟨EH,Tt⟩:=List.nodup_cons.1 h6;have pn:jY (jY ι β (ι β)) nx ⟨(ι β).b,(ι β).cap,(ι β).ks.take n⟩ nx=⟨(ι β).b,(ι β).cap,(ι β).ks.take n⟩:=z?;have Ze:((ι β).ks.take n).flatMap Sk.blocks ⊆ (ι β).ks.flatMap Sk.blocks:=fun x hx=>by obtain⟨k,hk,hx⟩:=List.mem_flatMap.1 hx;exact List.mem_flatMap.2 ⟨k,List.mem_of_mem_take hk,hx⟩);have EI:(((ι β).ks.take n).flatMap Sk.blocks).Nodup:=by (have:(ι β).ks.flatMap Sk.blocks=((ι β).ks.take n).flatMap Sk.blocks++((ι β).ks.drop n).flatMap Sk.blocks:=by rw[<- List.flatMap_append,List.take_append_drop]);rw[this,List.nodup_append]at Tt;exact Tt.1
  have gg:=Wc hi jz (y:= .xw) (z:= .jf false eu (es.take n) none) (p:=ι β) (q:=⟨(ι β).b,(ι β).cap,(ι β).ks.take n⟩) hb (by simp[xS,qE.sh]) (fun c hc=>by rw[oB]at hc;cases hc)
   (fun t ht=>absurd ht.1 (by simp[qE.used])) (fun t ht=> .inl ⟨rfl,ht.2.imp id fun h=>⟨rfl,Ze h.2⟩⟩) (fun t ht _=>absurd ht.1 (by simp[qE.used])) (fun _=>trivial)
   (fun mM=>by
    refine⟨vs,elem,fz,by rw[pn];exact h1,h2,by rw[pn];exact h3,by rw[pn,List.length_take];simp only;omega,by rw[pn,List.length_take,List.length_take,h5],by rw[pn];exact List.nodup_cons.2 ⟨fun h=>EH (Ze h),EI⟩,fun x hx=>h7 x (by rw[pn]at hx;exact Ze hx),fun _ _ _ h=>(by cases h),fun i p k a c=>?_⟩
    rw[pn]at c
    simp only[List.getElem?_take]at a c
    split at a
    ·rename_i xJ
     rw[if_pos xJ]at c
     obtain⟨v,j1,j2,_⟩:=h9 i p k a c
     exact⟨v,j1,j2,fun _ _ h=>by cases h⟩
    cases a)
  exact⟨_,gg.1,gg.2,head _ 1 (by rw[pn]) (by rw[pn]) (by simp[qE.sh];omega) rfl,xJ⟩
 cases hc
theorem nilv{sz:Nat}{v:Value}(h:RA w H ι Im (.pv (.sl true sz [])) v):v= .slice none 0 0:=by cases h with|pv _ _ h=>cases h;rfl
theorem V3{a:Act}{s:St}{nt:Nat}(h:Inv w a s ι Im nt){H1:qr}{ι1:yq}{nx1:Nat}(hi1:zc w H1 ι1 Im)(e1:wR w s.heap ι Im w H1 ι1 Im)(xY: ∀β b,H1.get β=some b->β<nx1)
  (hbox: ∀β c,s.heap.get β=some (.box c)->H1.get β=some (.box c)) {t:Nat} {x:AV} (hx: ∀v,RA w s.heap ι Im (bD s t) v->RA w H1 ι1 Im x v) (QE:x.kP=true):
  ∃ι',Inv w a (Qu { s with heap:=H1,nx:=nx1 } t x) ι' Im nt/\wR w s.heap ι Im w (Qu { s with heap:=H1,nx:=nx1 } t x).heap ι' Im:=by
 have h1:Inv w a { s with heap:=H1,nx:=nx1 } ι1 Im nt:=⟨hi1,fun t=>(h.env t).mono h.heap e1,xY,h.size,h.defers⟩;unfold Qu;split;rename_i ht;refine⟨ι1,⟨hi1,fun t' =>?_,xY,h.size,h.defers⟩,e1⟩;show RA w H1 ι1 Im (V! ((t,x)::s.env) t') _;simp only[V!];split;rename_i e;subst e;refine hx _ ?_;unfold bD;rw[if_pos ht];exact h.env t;exact(h.env t').mono h.heap e1;rename_i ht;split;rotate_left;exact⟨ι1,h1,e1⟩;rename_i β o hp;split;rotate_left;exact⟨ι1,h1,e1⟩;rename_i c hb;split;rotate_left;exact⟨ι1,h1,e1⟩;rename_i xJ;have SZ:s.env.get (t % 1000)= .ptr β o:=hp;have js:H1.get β=some (.box c):=hb;have Xv:s.heap.get β=some (.box c):=by have he:=h.env (t % 1000);rw[SZ]at he;generalize a.tmps.getD (t % 1000) undef=u at he;cases he with|ptr _ _ b hbb hk=>cases b<;>simp only[qE.LZ,ko]at hk;rename_i c0;have:=hbox β c0 hbb;rw[this]at js;cases js;exact hbb
 have hsv: ∀v0,c[o+(t / 1000-1)]? =some v0->bD s t=v0:=fun v0 Hr=>by unfold bD;rw[if_neg ht,SZ];simp only;rw[Xv];simp only;rw[Hr]
 obtain⟨h2,e2⟩:=zc.put (Xx:=noO js rfl) (w' :=w) hi1 β (.box (c.set (o+(t / 1000-1)) x)) (ι1 β) (fun y hy=>by rw[js]at hy;cases hy;rfl) ⟨jx _,rfl,rfl⟩ (fun _ _ _=>rfl)
  (fun _=> .inr ⟨_,js,rfl,rfl⟩) (fun he=>by
   obtain⟨vs,elem,fz,q1,q2,q3,q4,q5⟩:=hi1.box js
   refine⟨vs,elem,fz,by simpa using q1,q2,by simpa using q3,fun y hy=>?_,fun i y v hy hv=>?_⟩
   ·rcases l! hy with hy|rfl
    ·exact q4 y hy
    exact QE
   rw[N!]at hy
   split at hy
   ·rename_i e
    subst e
    cases hy
    obtain⟨vs0,elem0,fz0,p1,p2,p3,p4,p5⟩:=h.heap.box Xv
    have hcomp:=e1.comp β _ Xv
    obtain⟨b',g,hc⟩:=hcomp
    rw[js]at g
    cases g
    have cp:ι β=ι1 β:=hc
    rw[<- cp,p1]at q1
    cases q1
    refine(hx v ?_).mono hi1 he
    rw[hsv c[o+(t / 1000-1)] (by simp[xJ])]
    exact p5 _ _ v (by simp[xJ]) hv
   exact(q5 i y v hy hv).mono hi1 he)
 refine⟨_,⟨h2,fun t' =>((h.env t').mono h.heap e1).mono hi1 e2,fun δ b hδ=>?_,h.size,h.defers⟩,e1.trans e2⟩;have hδ' :(q_ H1 β (.box (c.set (o+(t / 1000-1)) x))).get δ=some b:=hδ;rw[p!]at hδ';split at hδ';rename_i e;subst e;exact xY _ _ js;exact xY δ b hδ'
theorem prom_ok(hi:zc w H ι Im){nx:Nat}(xY: ∀β b,H.get β=some b->β<nx)(eu:List Nat):
  zc w (H.put nx (Qp eu)) (jY ι nx ⟨0,0,[]⟩) Im/\wR w H ι Im w (H.put nx (Qp eu)) (jY ι nx ⟨0,0,[]⟩) Im:=by
 have oB:H.get nx=none:=by cases hh:H.get nx with|none=>rfl|some b=>have:=xY nx b hh;omega
 cases eu with|nil=>exact zc.Rk hi nx (.row true 0 []) ⟨0,0,[]⟩ (fun x hx=>by rw[oB]at hx;cases hx) ⟨jx _,rfl,rfl⟩ (fun _ _ _=>rfl) (fun z hz=>absurd hz.1 (by simp[w_])) (fun _=>rfl)|cons d ds=>exact zc.Rk hi nx (.jf true (d::ds) [] none) ⟨0,0,[]⟩ (fun x hx=>by rw[oB]at hx;cases hx) ⟨jx _,rfl,rfl⟩ (fun _ _ _=>rfl) (fun z hz=>absurd hz.1 (by simp[w_])) (fun _=>⟨rfl,rfl⟩)
theorem cmd1_ok{a:Act}{s:St}{nt:Nat}(h:Inv w a s ι Im nt)(c:Dx): ∃ι' jV,Inv w a (VN c s) ι' jV nt/\wR w s.heap ι Im w (VN c s).heap ι' jV:=by have V8: ∃ι' jV,Inv w a s ι' jV nt/\wR w s.heap ι Im w s.heap ι' jV:=⟨ι,Im,h,W! _ _ _ _⟩;unfold VN;split;rename_i t is;split;rename_i β xf n l hs hl;obtain⟨ι1,a1,a2,a3⟩:=Wa l (β:=β) h.heap h.nx;exact⟨ι1,Im,⟨a1,fun t=>(h.env t).mono h.heap a2,a3,h.size,h.defers⟩,a2⟩;exact V8;rename_i t;split;rename_i β xf off n hs;obtain⟨ι1,a1,a2,a3⟩:=M3 4 h.heap β;exact⟨ι1,Im,⟨a1,fun t=>(h.env t).mono h.heap a2,fun δ b hδ=>by obtain⟨b0,h0⟩:=a3 δ b hδ;exact h.nx δ b0 h0,h.size,h.defers⟩,a2⟩;exact V8;{rename_i t;split;rotate_left;exact V8;rename_i β xf n hs;split;rotate_left;exact V8;rename_i b hb;split;rotate_left;exact V8;rename_i l y hc;split;rotate_left;exact V8;(rename_i jA;subst jA;obtain⟨ι1,a1,a2,a3,a4⟩:=cut_ok h.heap h.nx hb hc;refine q23 (fun ι2 hh=>⟨Im,hh⟩) ?_;refine V3 h a1 a2 a4 (fun γ c hγ=>?_) (fun v hv=>a3 v (by rw[hs]at hv;exact hv)) rfl;have e1:γ≠β:=by intro e;subst e;rw[hb]at hγ;cases hγ;simp[KZ]at hc);(have e2:γ≠s.nx:=fun e=>by have:=h.nx γ _ hγ;omega);simp[p!,e1,e2,hγ]};{rename_i t eu;split;rotate_left;exact V8;rename_i sz hs;obtain⟨a1,a2⟩:=prom_ok h.heap h.nx eu;refine q23 (fun ι2 hh=>⟨Im,hh⟩) ?_;refine V3 h a1 a2 (fun δ b hδ=>?_) (fun γ c hγ=>?_) (fun v hv=>?_) rfl;rw[p!]at hδ;split at hδ;omega;have:=h.nx δ b hδ;omega;(have e2:γ≠s.nx:=fun e=>by have:=h.nx γ _ hγ;omega);simp[p!,e2,hγ];rw[hs]at hv;rw[nilv hv];cases eu with|nil=>exact .row _ _ _ _ _ (.row true 0 []) rfl (by simp[p!,Qp]) (fun _=>⟨_,_,_,rfl⟩) (fun _ _ _ e=>by cases e;exact jx _) (fun _ _ _ e _=>by cases e;exact⟨z?,rfl⟩)|cons d ds=>exact .row _ _ _ _ _ (.jf true (d::ds) [] none) rfl (by simp[p!,Qp]) (fun _=>⟨_,_,_,rfl⟩) (fun _ _ _ e=>by cases e;exact jx _) (fun _ _ _ e _=>by cases e;exact⟨z?,rfl⟩)};rename_i t;obtain⟨o6,h1,e1⟩:=tM (Ke s (bD s t)) h;exact⟨ι,o6,h1,e1⟩
theorem Kb{a:Act}{nt:Nat}: ∀(l:List Dx){s:St}{ι:yq}{Im:Nat->Prop},Inv w a s ι Im nt-> ∃ι' jV,Inv w a (pR l s) ι' jV nt/\wR w s.heap ι Im w (pR l s).heap ι' jV
 |[],s,ι,Im,h=>⟨ι,Im,h,W! _ _ _ _⟩
 |c::r,s,ι,Im,h=>by obtain⟨ι1,o6,a1,a2⟩:=cmd1_ok h c;obtain⟨ι2,GC,b1,b2⟩:=Kb r a1;exact⟨ι2,GC,b1,a2.trans b2⟩
end
theorem FT{P:Program}{f:FuncId}{fn:Func}{s:ChangeSpec}{c:OpenClaim}(h1:(c.inPlace==P.inPlace f)=true)(h2:(c.unfollowed==P.unfollowed f)=true)(h3:(c.recurses==P.recurses f)=true)(h4:(c.named==P.varsNamed f)=true)
  (h:(c.wf (OpenSpec.ofChange s)&&laidOutB P&&mapsRowed P&&fn.params.all (P.readableRec ·)&&namedTie P c.named s.vars&&(c.stops==[])&&(P.stops==[])&&(c.knobs==[])&&(P.stopKnobs==[])&&(c.maps==(fn.params.toList++s.plain.varTypes P).any (P.mapsRec ·))&&(c.ifaces==(fn.params.toList++s.plain.varTypes P).any (P.ifacesRec ·))&&(c.mapsOut==P.mapsAmong fn.resultTypes.toList)&&(c.loops==(fn.params.toList++s.plain.varTypes P).any (P.loopsFrom ·))&&(c.wideKeys==(fn.params.toList++s.plain.varTypes P++fn.resultTypes.toList).any (P.wideKeysFrom ·))&&s.vars.all (P.varReadable ·)&&fn.resultTypes.all (fun t=>P.readableRec t&&decide (t<P.types.size))&&(c.ifacesOut==fn.resultTypes.toList.any (P.ifacesRec ·))&&(c.loopsOut==fn.resultTypes.toList.any (P.loopsFrom ·))&&(c.plainKeys==P.plainKeys)&&c.shortTexts.isNone&&P.stopsHeard&&P.mayEnter&&(c.lifted==P.liftsFinal)&&(P.make==some c.make)&&(c.kinds==(if c.domain.isEmpty then[]else fn.params.toList.map fun t=>match P.underlying t with|some (.int k)=>some k|_=>none))&&(c.pinned==c.pinnedBy)&&(c.veiled==(fn.params.toList++s.plain.varTypes P++fn.resultTypes.toList).any (P.veiledRec ·))&&c.veiledFits P fn.params.toList (fn.params.toList++s.plain.varTypes P++fn.resultTypes.toList))=true):joinedFacts P f fn s c=true:=by unfold joinedFacts;simp only[h1,h2,h3,h4,Bool.and_true];exact h
section
variable [xg] {P:Program} {w:World} {H:qr} {ι:yq} {Im:Nat->Prop}
theorem tz(g:Nat->Nat): ∀(l:List AV)(i:Nat),(AV.cq.Q1 g l)[i]? =(l[i]?).map (AV.cq g)
 |[],i=>by simp[AV.cq.Q1]
 |x::r,i=>by cases i with|zero=>simp[AV.cq.Q1]|succ i=>simp[AV.cq.Q1,tz g r i]
theorem da(g:Nat->Nat): ∀(l:List AV),(AV.cq.Q1 g l).length=l.length
 |[]=>rfl
 |x::r=>by simp[AV.cq.Q1,da g r]
theorem WW(g:Nat->Nat){x:AV}(h:x.kP=true):(x.cq g).kP=true:=by cases x<;>simp[AV.kP]at h<;>first|rfl|exact h
theorem vV{β:Nat}: ∀{l:List AV}{i:Nat}{x:AV},l[i]? =some x->β∈x.refs->β∈AV.refs.pN l
 |[],i,x,h,_=>by simp at h
 |y::r,i,x,h,hβ=>by simp only[AV.refs.pN,m?];cases i with|zero=>simp at h;subst h;exact .inl hβ|succ i=>exact .inr (vV (by simpa using h) hβ)
theorem Zo(g:Nat->Nat)(b:qE):(b.cq g).sh=b.sh:=by cases b<;>simp[qE.cq,q11]
theorem Ji{x y:qE}{p q:Pl}(g:Nat->Nat)(h:xS x y p q):xS x (y.cq g) p q:=by unfold xS at*;rw[Zo];cases hx:x.sh with|some a=>(cases hy:y.sh with|some b=>rw[hx,hy]at h;exact h|none=>rw[hx,hy]at h;have h' :y= .xw:=h;subst h';rfl)|none=>cases hy:y.sh with|some b=>rw[hx,hy]at h;exact h|none=>rw[hx,hy]at h;cases x<;>cases y<;>first|exact h|exact(h:False).elim
theorem Zn{H' :qr}{ι' :yq}(g:Nat->Nat){x:AV}{v:Value}(hx:RA w H ι Im x v)
  (hg: ∀β∈x.refs,∀ b,H.get β=some b->H'.get (g β)=some (b.cq g)/\(ι' (g β))=ι β):RA w H' ι' Im (x.cq g) v:=by induction hx with|undef v=>exact .undef v|pv p v h=>exact .pv p v h|ptr β o c hb hk=>(obtain⟨h1,h2⟩:=hg β (by simp[O?]) _ hb;rw[<- h2];exact .ptr (g β) o _ h1 (by cases c<;>first|rfl|cases hk))|uI β xf i o b1 o1 b hb jA h=>obtain⟨h1,h2⟩:=hg β (by simp[O?]) _ hb;refine .uI (g β) xf i o b1 o1 _ h1 (fun qu sz es e=>?_) (fun qu sz es e=>?_);rw[Zo]at e;exact jA _ _ _ e;rw[Zo]at e;rw[h2];exact h _ _ _ e|row β xf off n v b ho hb hk jA h=>obtain⟨h1,h2⟩:=hg β (by simp[O?]) _ hb;refine .row (g β) xf off n v _ ho h1 (fun h0=>?_) (fun qu sz es e=>?_) (fun qu sz es e=>?_);rw[Zo];exact hk (fun e=>h0 (by rw[e];rfl));rw[Zo]at e;exact jA _ _ _ e;rw[Zo]at e;rw[h2];exact h _ _ _ e|tU c o b off vs QF hc hf h=>exact .tU c o b off vs QF hc hf h|o5 a=>exact .o5 a|map β es zR hb=>obtain⟨h1,h2⟩:=hg β (by simp[O?]) _ hb;rw[<- h2];exact .map (g β) es zR h1|Z5 f a b va vb VT SX _ _ iha ihb=>refine .Z5 f _ _ va vb (by rw[da,VT]) (by rw[da,SX]) (fun i x v h1 h2=>?_) (fun i x v h1 h2=>?_);rw[tz]at h1;simp only[yR]at h1;obtain⟨y,hy,rfl⟩:=h1;exact iha i y v hy h2 fun β hβ=>hg β (by simp only[O?,m?];exact .inl (vV hy hβ));rw[tz]at h1;simp only[yR]at h1;obtain⟨y,hy,rfl⟩:=h1;exact ihb i y v hy h2 fun β hβ=>hg β (by simp only[O?,m?];exact .inr (vV hy hβ))|agg c vs hl hf _ ih=>refine .agg _ vs (by rw[da,hl]) (fun x hx=>?_) (fun i x v h1 h2=>?_);obtain⟨i,hi⟩:=kb hx;rw[tz]at hi;simp only[yR]at hi;obtain⟨y,hy,rfl⟩:=hi;exact WW g (hf y (z6 hy));rw[tz]at h1;simp only[yR]at h1;obtain⟨y,hy,rfl⟩:=h1;exact ih i y v hy h2 fun β hβ=>hg β (by simp only[O?];exact vV hy hβ)|xV c vs hl _ ih=>refine .xV _ vs (by rw[da,hl]) (fun i x v h1 h2=>?_);rw[tz]at h1;simp only[yR]at h1;obtain⟨y,hy,rfl⟩:=h1;exact ih i y v hy h2 fun β hβ=>hg β (by simp only[O?];exact vV hy hβ)
theorem qE.ren_used(g:Nat->Nat)(b:qE):(b.cq g).used=b.used:=by cases b<;>rfl
theorem qE.ren_isO(g:Nat->Nat)(b:qE):(b.cq g).C7=b.C7:=by cases b<;>rfl
theorem qE.nZ(g:Nat->Nat)(b:qE)(q:Pl)(x:Nat):(b.cq g).yc q x=b.yc q x:=by unfold qE.yc;rw[qE.ren_used,qE.ren_isO]
theorem rE.cq{H' :qr}{ι' :yq}(g:Nat->Nat){β β' :Nat}{b:qE}(h:rE w H ι Im β b)(hp:ι' β' =ι β)
  (hg: ∀γ∈b.refs,∀ c,H.get γ=some c->H'.get (g γ)=some (c.cq g)/\(ι' (g γ))=ι γ):rE w H' ι' Im β' (b.cq g):=by
 cases b with
  |box c=>obtain⟨vs,elem,fz,q1,q2,q3,q4,q5⟩:=h;refine⟨vs,elem,fz,by rw[hp];exact q1,q2,by rw[da,q3],fun x hx=>?_,fun i x v a b=>?_⟩;obtain⟨i,hi⟩:=kb hx;rw[tz]at hi;simp only[yR]at hi;obtain⟨y,hy,rfl⟩:=hi;exact WW g (q4 y (z6 hy));rw[tz]at a;simp only[yR]at a;obtain⟨y,hy,rfl⟩:=a;exact Zn g (q5 i y v hy b) fun γ hγ=>hg γ (by simp only[q1b];exact vV hy hγ)
  |row qu sz es=>cases qu with|true=>exact h|false=>obtain⟨vs,elem,fz,q1,q2,q3,q4,q5,q6,q7,q8⟩:=h;exact⟨vs,elem,fz,by rw[hp];exact q1,q2,by rw[hp];exact q3,q4,by rw[hp];exact q5,q6,q7,q8⟩
  |map es zR=>obtain⟨xi,q1,q2,q3⟩:=h;exact⟨xi,by rw[hp];exact q1,q2,q3⟩
  |mB sz es=>
   (obtain⟨vs,elem,fz,q1,q2,q3,q4,q5,q6,q7,q8⟩:=h;have get: ∀(i:Nat) e(j:Nat) x,(es.map (AV.cq.Q1 g))[i]? =some e->e[j]? =some x-> ∃e0 y,es[i]? =some e0/\e0[j]? =some y/\x=y.cq g:=by intro i e j x h1 h2;rw[X?,yR]at h1;obtain⟨e0,h1,rfl⟩:=h1;rw[tz,yR]at h2;obtain⟨y,h2,rfl⟩:=h2;exact⟨e0,y,h1,h2,rfl⟩);refine⟨vs,elem,fz,by rw[hp];exact q1,q2,by rw[hp];exact q3,q4,by rw[hp];simpa using q5,fun e he=>?_,fun i e j x a b=>?_,fun i e j x a b=>?_⟩;obtain⟨e0,h0,rfl⟩:=N?.1 he;rw[da];exact q6 e0 h0;obtain⟨e0,y,h1,h2,rfl⟩:=get i e j x a b;exact WW g (q7 i e0 j y h1 h2)
   obtain⟨e0,y,h1,h2,rfl⟩:=get i e j x a b;obtain⟨v,k1,k2⟩:=q8 i e0 j y h1 h2;exact⟨v,k1,Zn g k2 fun γ hγ=>hg γ (by
    simp only[q1b,e!]
    exact⟨e0,z6 h1,vV h2 hγ⟩)⟩
  |jf qu ds es lg=>cases qu with|true=>obtain⟨q1,q2⟩:=h;exact⟨q1,by rw[q2];rfl⟩|false=>obtain⟨vs,elem,fz,q1,q2,q3,q4,q5,q6,q7,q8,q9⟩:=h;refine⟨vs,elem,fz,by rw[hp];exact q1,q2,by rw[hp];exact q3,by rw[hp];exact q4,by rw[hp];exact q5,by rw[hp];exact q6,by rw[hp];exact q7,fun j γ xf hf=>?_,fun i p k a b=>?_⟩;rw[yR]at hf;obtain⟨⟨j0,γ0,ver0⟩,hf,e⟩:=hf;cases e;exact q8 _ _ _ hf;obtain⟨v,k1,k2,k3⟩:=q9 i p k a (by rw[<- hp];exact b);refine⟨v,k1,fun hj=>k2 fun j γ xf hf=>hj j (g γ) xf (by rw[hf];rfl),fun γ xf hf=>?_⟩;rw[yR]at hf;obtain⟨⟨j0,γ0,ver0⟩,hf,e⟩:=hf;cases e;obtain⟨k4,k5⟩:=k3 _ _ hf;refine⟨k4,Zn g k5 fun γ hγ=>hg γ ?_⟩;simp only[O?,a?]at hγ;subst hγ;simp only[q1b,hf,a?]
  |xw=>trivial
theorem lS: ∀(L:List Nat)(x:Nat),Wz L x=true↔x∈L
 |[],x=>by simp[Wz]
 |β::r,x=>by simp only[Wz,U?];split;rename_i h;subst h;simp;rename_i h;rw[lS r x];constructor;exact .inr;rintro(h2|h2);exact absurd h2.symm h;exact h2
theorem Vd: ∀(l L:List Nat),Gq l L=true↔ ∀x∈l,x∈L
 |[],L=>by simp[Gq]
 |x::r,L=>by simp[Gq,lS,Vd r L]
theorem Xf: ∀(L:List Nat)(x:Nat),x∈L->L[pos L x]? =some x
 |[],x,h=>by cases h
 |β::r,x,h=>by simp only[pos];split;rename_i e;simp[e];(rename_i e;have:x∈r:=by rcases U?.1 h with h|h;exact absurd h.symm e;exact h);simpa using Xf r x this
theorem pos_lt{L:List Nat}{x:Nat}(h:x∈L):pos L x<L.length:=(qF (Xf L x h)).1
theorem dL: ∀{L:List Nat},L.Nodup-> ∀{i:Nat}{x:Nat},L[i]? =some x->pos L x=i
 |[],_,i,x,h=>by simp at h
 |β::r,hn,i,x,h=>by obtain⟨h1,h2⟩:=d!.1 hn;cases i with|zero=>simp at h;simp[pos,h]|succ i=>simp at h;have hx:x∈r:=z6 h;have jz:β≠x:=fun e=>h1 (e ▸ hx);simp[pos,jz,dL h2 h]
theorem Zm(H:qr): ∀(n:Nat)(todo d:List Nat),d.Nodup->(nU H n todo d).Nodup/\ ∃r,nU H n todo d=d++r
 |0,todo,d,h=>⟨h,[],by simp[nU]⟩
 |n+1,[],d,h=>⟨h,[],by simp[nU]⟩
 |n+1,β::r,d,h=>by
  simp only[nU];split;exact Zm H n r d h
  rename_i hm;have EG:β∉d:=fun h=>hm ((lS d β).2 h);obtain⟨h1,r',h2⟩:=Zm H n (r++(so H β).refs) (d++[β]) (by
   rw[j!]
   exact⟨h,z?,by
    intro a ha b hb e
    simp at hb
    subst hb e
    exact EG ha⟩)
  exact⟨h1,β::r',by rw[h2];simp⟩
theorem M7(H:qr)(g:Nat->Nat): ∀(i:Nat)(L:List Nat)(j:Nat),(pick H g i L).get j=if i<=j/\j<i+L.length then(L[j-i]?).map fun β=>(so H β).cq g else none
 |i,[],j=>by simp[pick,A!]
 |i,β::r,j=>by simp only[pick,A!,M7 H g (i+1) r j,h?];by_cases h:i=j;subst h;simp;rw[if_neg h];by_cases h2:i+1<=j/\j<i+1+r.length;rw[if_pos h2,if_pos o?];obtain⟨m,rfl⟩: ∃m,j=i+1+m:=⟨j-(i+1),o?⟩;rw[show i+1+m-(i+1)=m from o?,show i+1+m-i=m+1 from o?];simp;rw[if_neg h2,if_neg o?]
theorem M8(H:qr)(g:Nat->Nat): ∀(i:Nat)(L:List Nat),(pick H g i L).length=L.length
 |_,[]=>rfl
 |i,β::r=>by simp[pick,M8 H g (i+1) r]
theorem QN(H:qr)(L:List Nat): ∀(l:List Nat),pW H L l=true-> ∀β∈l,∃ b,H.get β=some b/\ ∀γ∈b.refs,γ∈L
 |[],_,β,h=>by cases h
 |x::r,h,β,hβ=>by simp only[pW,zO]at h;rcases U?.1 hβ with rfl|hβ;(cases hb:H.get β with|none=>rw[hb]at h;simp at h|some b=>rw[hb]at h;exact⟨b,rfl,(Vd _ _).1 h.1⟩);exact QN H L r h.2 β hβ
structure ZK (H:qr) (L:List Nat) (H0:qr):Prop where
 nodup:L.Nodup
 look: ∀j,H0.get j=(L[j]?).bind fun β=>(H.get β).map (qE.cq (pos L))
 has: ∀β∈L,∃ b,H.get β=some b/\ ∀γ∈b.refs,γ∈L
 len:H0.length=L.length
theorem oM{d roots:List Nat}(hd:d.Nodup){L:List Nat}{H0:qr}(h:sj H d roots=some (L,H0)):
  ZK H L H0/\(∀ β∈roots,β∈L)/\ ∃r,L=d++r:=by unfold sj at h;split at h;cases h;exact⟨⟨q1p,fun j=>by simp[A!],z?,rfl⟩,z?,[],rfl⟩;simp only at h;split at h<;>cases h;rename_i hc;simp only[zO]at hc;obtain⟨h1,h2⟩:=Zm H 400 (roots++d.flatMap fun β=>(so H β).refs) d hd;have hs:=QN H _ _ hc.2;refine⟨⟨h1,fun j=>?_,hs,M8 _ _ _ _⟩,(Vd _ _).1 hc.1,h2⟩;rw[M7];simp only[B!,true_and,P?,q27];generalize nU H 400 _ d=L at*;by_cases hj:j<L.length;(rw[if_pos hj];have:L[j]? =some L[j]:=by simp[hj]);rw[this];obtain⟨b,hb,_⟩:=hs L[j] z?;simp[so,hb];rw[if_neg hj,d_ o?];rfl
def Zw(ι:yq)(L:List Nat):yq:=fun i=>match L[i]? with|some β=>ι β|none=>⟨0,0,[]⟩
theorem ZK.BT{L:List Nat}{H0:qr}(h:ZK H L H0){β:Nat}(hβ:β∈L): ∀b,H.get β=some b->H0.get (pos L β)=some (b.cq (pos L))/\Zw ι L (pos L β)=ι β:=by intro b hb;have:=Xf L β hβ;rw[h.look,this];simp[hb,Zw,this]
theorem ZK.inv{L:List Nat}{H0:qr}(h:ZK H L H0){j:Nat}{b:qE}(hj:H0.get j=some b): ∃β b0,L[j]? =some β/\H.get β=some b0/\b=b0.cq (pos L)/\Zw ι L j=ι β:=by rw[h.look]at hj;cases hL:L[j]? with|none=>rw[hL]at hj;cases hj|some β=>rw[hL]at hj;simp only[qS,yR]at hj;obtain⟨b0,Xv,rfl⟩:=hj;exact⟨β,b0,rfl,Xv,rfl,by simp[Zw,hL]⟩
theorem ZK.hinv{L:List Nat}{H0:qr}(h:ZK H L H0)(hi:zc w H ι Im):zc w H0 (Zw ι L) Im where
 rB:=fun j b hj=>by obtain⟨β,b0,h1,h2,rfl,h4⟩:=h.inv (ι:=ι) hj;refine(hi.rB β b0 h2).cq (pos L) h4 fun γ hγ=>?_;obtain⟨b1,q1,q2⟩:=h.has β (z6 h1);rw[h2]at q1;cases q1;exact h.BT (q2 γ hγ)
 inj:=fun i j b c z yw SU ub uc=>by obtain⟨β,b0,h1,h2,rfl,h4⟩:=h.inv (ι:=ι) yw;obtain⟨γ,c0,k1,k2,rfl,k4⟩:=h.inv (ι:=ι) SU;rw[qE.nZ,h4]at ub;rw[qE.nZ,k4]at uc;have:=hi.inj β γ b0 c0 z h2 k2 ub uc;subst this;rw[<- dL h.nodup h1,<- dL h.nodup k1]
 im:=hi.im
 Vt:=fun j b z hj hu=>by obtain⟨β,b0,h1,h2,rfl,h4⟩:=h.inv (ι:=ι) hj;rw[qE.nZ,h4]at hu;exact hi.Vt β b0 z h2 hu
 Na:=hi.Na
 VP:=hi.VP
end
section
variable [xg] {P:Program} {w w' :World} {H H0 H' :qr} {ι ι' :yq} {Im jV:Nat->Prop} {L:List Nat} {nx:Nat}
theorem jO: ∀(ws:List (Nat×qE))(H:qr)(γ:Nat),(∀ x∈ws,x.1≠γ)->(qZ ws H).get γ=H.get γ
 |[],H,γ,_=>rfl
 |(i,b)::r,H,γ,h=>by simp only[qZ];rw[jO r _ γ fun x hx=>h x (by simp[hx]),p!];rw[if_neg (fun e=>h (i,b) z? e.symm)]
theorem dG(g:Nat->Nat): ∀(H:qr)(i:Nat),uL i H=true-> ∀x∈vW g H,∃ j,i<=j/\j<i+H.length/\x.1=g j
 |[],i,_,x,h=>by simp[vW]at h
 |(k,b)::r,i,hk,x,h=>by simp only[uL,zO,decide_eq_true_eq]at hk;obtain⟨rfl,hk⟩:=hk;simp only[vW,U?]at h;rcases h with rfl|h;exact⟨k,jx _,z?,rfl⟩;obtain⟨j,h1,h2,h3⟩:=dG g r (k+1) hk x h;exact⟨j,o?,by simp only[h?];omega,h3⟩
theorem sJ: ∀(H:qr)(i:Nat),uL i H=true-> ∀{j:Nat}{b:qE},H.get j=some b->i<=j/\j<i+H.length
 |[],i,_,j,b,h=>by simp[A!]at h
 |(k,b0)::r,i,hk,j,b,h=>by simp only[uL,zO,decide_eq_true_eq]at hk;obtain⟨rfl,hk⟩:=hk;simp only[A!]at h;split at h;rename_i e;subst e;simp;have:=sJ r (k+1) hk h;simp only[h?];omega
theorem JF(g:Nat->Nat): ∀(H' H:qr)(i:Nat),uL i H' =true->(∀ j k,i<=j->j<i+H'.length->i<=k->k<i+H'.length->g j=g k->j=k)->
  ∀{j:Nat}{b:qE},H'.get j=some b->(qZ (vW g H') H).get (g j)=some (b.cq g)
 |[],H,i,_,_,j,b,h=>by simp[A!]at h
 |(k,b0)::r,H,i,hk,hg,j,b,h=>by simp only[uL,zO,decide_eq_true_eq]at hk;obtain⟨rfl,hk⟩:=hk;simp only[A!]at h;simp only[vW,qZ];split at h;rename_i e;subst e;cases h;rw[jO _ _ _ fun x hx=>?_,p!,if_pos rfl];obtain⟨m,h1,h2,h3⟩:=dG g r (k+1) hk x hx;rw[h3];intro e;have:=hg m k o? (by simp only[h?];omega) (jx _) z? e;omega;exact JF g r _ (k+1) hk (fun j' k' a1 a2 a3 a4 e=>hg j' k' o? (by simp only[h?];omega) o? (by simp only[h?];omega) e) h
theorem Tb{x y:qE}{p q:Pl}{f g:Nat->Nat}(h:xS (x.cq f) y p q):xS x (y.cq g) p q:=by unfold xS at*;rw[Zo]at h |-;cases hx:x.sh with|some a=>(cases hy:y.sh with|some b=>rw[hx,hy]at h;exact h|none=>rw[hx,hy]at h;have h' :y= .xw:=h;subst h';rfl)|none=>cases hy:y.sh with|some b=>rw[hx,hy]at h;exact h|none=>rw[hx,hy]at h;cases x<;>cases y<;>first|exact h|exact(h:False).elim
def ZO(ι ι' :yq)(L:List Nat)(nx n:Nat):yq:=fun γ=>if γ∈L then ι' (pos L γ)else if nx<=γ/\γ<nx+(n-L.length)then ι' (L.length+(γ-nx))else ι γ
theorem back_ok(hs:ZK H L H0)(hi:zc w H ι Im){X:Nat->Prop}(xY:Bd X H nx)
  (yw:zc w' H' ι' jV) (he:wR w H0 (Zw ι L) Im w' H' ι' jV) (hk:uL 0 H' =true) (hX: ∀γ,X γ->nx+(H'.length-L.length)<=γ):
  zc w' (qZ (vW (jc L nx) H') H) (ZO ι ι' L nx H'.length) jV/\wR w H ι Im w' (qZ (vW (jc L nx) H') H) (ZO ι ι' L nx H'.length) jV/\
   (∀{r:AV}{v:Value},RA w' H' ι' jV r v->RA w' (qZ (vW (jc L nx) H') H) (ZO ι ι' L nx H'.length) jV (r.cq (jc L nx)) v)/\
   Bd X (qZ (vW (jc L nx) H') H) (nx+(H'.length-L.length)):=by
 have hLlt: ∀β∈L,β<nx\/nx+(H'.length-L.length)<=β:=fun β hβ=>by obtain⟨b,hb,_⟩:=hs.has β hβ;exact(xY β b hb).imp id (hX β)
 have g1: ∀{j β:Nat},L[j]? =some β->jc L nx j=β:=fun h=>by simp[jc,h]
 have g2: ∀{j:Nat},L.length<=j->jc L nx j=nx+(j-L.length):=fun h=>by simp[jc,d_ h]
 have ginj: ∀j k,j<H'.length->k<H'.length->jc L nx j=jc L nx k->j=k:=by intro j k Vr pf e;by_cases hj:j<L.length<;>by_cases JZ:k<L.length;(have a1:L[j]? =some L[j]:=by simp[hj]);(have a2:L[k]? =some L[k]:=by simp[JZ]);rw[g1 a1,g1 a2]at e;rw[<- dL hs.nodup a1,<- dL hs.nodup a2,e];(have a1:L[j]? =some L[j]:=by simp[hj]);rw[g1 a1,g2 o?]at e;have:=hLlt _ (z6 a1);omega;(have a2:L[k]? =some L[k]:=by simp[JZ]);rw[g1 a2,g2 o?]at e;have:=hLlt _ (z6 a2);omega;rw[g2 o?,g2 o?]at e;omega
 have pY: ∀{j:Nat}{b:qE},H'.get j=some b->(qZ (vW (jc L nx) H') H).get (jc L nx j)=some (b.cq (jc L nx)):=
  fun h=>JF _ H' H 0 hk (fun j k _ Vr _ pf e=>ginj j k o? o? e) h
 have oD: ∀j,j<H'.length->ZO ι ι' L nx H'.length (jc L nx j)=ι' j:=by intro j Vr;unfold ZO;by_cases hj:j<L.length;(have a1:L[j]? =some L[j]:=by simp[hj]);rw[g1 a1,if_pos (z6 a1),dL hs.nodup a1];rw[g2 o?,if_neg (fun h=>by have:=hLlt _ h;omega),if_pos o?];congr 1;omega
 have hlen:L.length<=H'.length:=by rcases q16 L.length with h|h;omega;(have a1:L[L.length-1]? =some L[L.length-1]:=by simp[h]);(obtain⟨b,hb,_⟩:=hs.has _ (z6 a1);have h0:H0.get (L.length-1)=some (b.cq (pos L)):=by rw[hs.look,a1];simp[hb]);obtain⟨b',js,_⟩:=he.comp _ _ h0;have:=(sJ H' 0 hk js).2;omega
 have Ld: ∀γ,(∃ j,γ=jc L nx j/\j<H'.length)\/((∀ j,j<H'.length->γ≠jc L nx j)/\(qZ (vW (jc L nx) H') H).get γ=H.get γ):=by intro γ;by_cases h: ∃j,j<H'.length/\γ=jc L nx j;obtain⟨j,h1,h2⟩:=h;exact .inl ⟨j,h2,h1⟩;refine .inr ⟨fun j hj e=>h ⟨j,hj,e⟩,jO _ _ _ fun x hx e=>?_⟩;obtain⟨j,_,h2,h3⟩:=dG _ H' 0 hk x hx;exact h ⟨j,o?,by rw[<- e,h3]⟩
 have hnotL: ∀γ,(∀ j,j<H'.length->γ≠jc L nx j)->γ∉L:=by intro γ h hL;have:=Xf L γ hL;exact h (pos L γ) (U! (pos_lt hL) hlen) (g1 this).symm
 have Nj: ∀γ b,γ∉L->H.get γ=some b->ZO ι ι' L nx H'.length γ=ι γ:=by intro γ b h hb;have:=(xY γ b hb).imp id (hX γ);unfold ZO;rw[if_neg h,if_neg o?]
 have YP: ∀{i:Nat}{x:qE}{z:Nat},H0.get i=some x->x.yc (Zw ι L i) z-> ∃β b,β∈L/\H.get β=some b/\b.yc (ι β) z:=by intro i x z h hu;obtain⟨β,b0,h1,h2,rfl,h4⟩:=hs.inv (ι:=ι) h;rw[qE.nZ,h4]at hu;exact⟨β,b0,z6 h1,h2,hu⟩
 have Jt: ∀γ b z,γ∉L->H.get γ=some b->b.yc (ι γ) z->w'.heap[z]? =w.heap[z]? :=by intro γ b z hL hb hu;refine he.kD _ ((hi.rB γ b hb).cn hu) fun i x hx P8=>?_;obtain⟨β,b1,q1,q2,q3⟩:=YP hx P8;exact hL (hi.inj β γ b1 b z q2 hb q3 hu ▸ q1)
 have mM:wR w H ι Im w' (qZ (vW (jc L nx) H') H) (ZO ι ι' L nx H'.length) jV:=by refine⟨fun β b hb=>?_,he.im,fun b h=>?_,fun γ x z hx hu=>?_,fun b hb hn=>?_,he.size,he.io⟩;by_cases hL:β∈L;obtain⟨q1,q2⟩:=hs.BT (ι:=ι) hL b hb;obtain⟨b',q3,q4⟩:=he.comp _ _ q1;have q5:=pY q3;have e:jc L nx (pos L β)=β:=g1 (Xf L β hL);rw[e]at q5;refine⟨_,q5, ?_⟩;have:=oD (pos L β) (U! (pos_lt hL) hlen);rw[e]at this;rw[this,<- q2];exact Tb q4;rcases Ld β with ⟨j,e,hj⟩|⟨h1,h2⟩;exfalso;by_cases Vr:j<L.length;(have a1:L[j]? =some L[j]:=by simp[Vr]);rw[g1 a1]at e;exact hL (e ▸ z6 a1);rw[g2 o?]at e;have:=(xY β b hb).imp id (hX β);omega;exact⟨b,by rw[h2,hb],by rw[Nj β b hL hb];exact uU _ _⟩;rcases he.ta b h with h|h|⟨i,x,h1,h2⟩;exact .inl h;exact .inr (.inl h);obtain⟨β,b1,q1,q2,q3⟩:=YP h1 h2;exact .inr (.inr ⟨β,b1,q2,q3⟩);rcases Ld γ with ⟨j,rfl,hj⟩|⟨h1,h2⟩;(rw[oD j hj]at hu;cases js:H'.get j with|none=>(exfalso;have key: ∀(H:qr)(i:Nat),uL i H=true-> ∀j,i<=j->j<i+H.length->H.get j≠none:=by intro H;induction H with|nil=>intro i _ j h1 h2;simp at h2;omega|cons y r ih=>intro i hk j h1 h2;obtain⟨k,b⟩:=y;simp only[uL,zO,decide_eq_true_eq]at hk;obtain⟨rfl,hk⟩:=hk;simp only[A!];split;simp;exact ih (k+1) hk j o? (by simp only[h?]at h2;omega));exact key H' 0 hk j (B! _) o? js|some b' =>rw[pY js]at hx;cases hx;rw[qE.nZ]at hu;rcases he.nT j b' z js hu with h|⟨i,x,q1,q2⟩;exact .inl h;obtain⟨β,b1,r1,r2,r3⟩:=YP q1 q2;exact .inr ⟨β,b1,r2,r3⟩);rw[h2]at hx;rw[Nj γ x (hnotL γ h1) hx]at hu;exact .inr ⟨γ,x,hx,hu⟩;refine he.kD b hb fun i x hx P8=>?_;obtain⟨β,b1,q1,q2,q3⟩:=YP hx P8;exact hn β b1 q2 q3
 have BT: ∀γ c,H'.get γ=some c->(qZ (vW (jc L nx) H') H).get (jc L nx γ)=some (c.cq (jc L nx))/\ZO ι ι' L nx H'.length (jc L nx γ)=ι' γ:=
  fun γ c h=>⟨pY h,oD γ (by have:=(sJ H' 0 hk h).2;omega)⟩
 have lt' : ∀{j:Nat}{b:qE},H'.get j=some b->j<H'.length:=fun h=>by have:=(sJ H' 0 hk h).2;omega
 have split: ∀{γ b},(qZ (vW (jc L nx) H') H).get γ=some b->(∃ j b',γ=jc L nx j/\H'.get j=some b' /\b=b'.cq (jc L nx))\/(γ∉L/\H.get γ=some b):=by intro γ b h;rcases Ld γ with ⟨j,rfl,hj⟩|⟨h1,h2⟩;(cases js:H'.get j with|some b' =>rw[pY js]at h;cases h;exact .inl ⟨j,b',rfl,js,rfl⟩|none=>(exfalso;have key: ∀(H:qr)(i:Nat),uL i H=true-> ∀j,i<=j->j<i+H.length->H.get j≠none:=by intro H;induction H with|nil=>intro i _ j h1 h2;simp at h2;omega|cons y r ih=>intro i hk j h1 h2;obtain⟨k,b⟩:=y;simp only[uL,zO,decide_eq_true_eq]at hk;obtain⟨rfl,hk⟩:=hk;simp only[A!];split;simp;exact ih (k+1) hk j o? (by simp only[h?]at h2;omega));exact key H' 0 hk j (B! _) o? js);rw[h2]at h;exact .inr ⟨hnotL γ h1,h⟩
 have cross: ∀{j b' γ b z},H'.get j=some b' ->b'.yc (ι' j) z->γ∉L->H.get γ=some b->b.yc (ι γ) z->False:=by intro j b' γ b z h1 u1 hL h2 u2;rcases he.nT j b' z h1 u1 with h|⟨i,x,q1,q2⟩;have:=(hi.rB γ b h2).cn u2;omega;obtain⟨β,b1,r1,r2,r3⟩:=YP q1 q2;exact hL (hi.inj β γ b1 b z r2 h2 r3 u2 ▸ r1)
 refine⟨⟨fun γ b h=>?_,fun γ γ' b b' z h h' u u' =>?_,yw.im,fun γ b z h hu=>?_,yw.Na,yw.VP⟩,mM,fun{r v} hr=>Zn _ hr fun γ _ c hc=>BT γ c hc,fun γ b h=>?_⟩;rcases split h with ⟨j,b',rfl,js,rfl⟩|⟨hL,hb⟩;exact(yw.rB j b' js).cq _ (oD j (lt' js)) fun γ _ c hc=>BT γ c hc;exact(hi.rB γ b hb).mono hi mM (fun hu=>⟨Nj γ b hL hb,fun x hx=>Jt γ b x hL hb hx⟩);rcases split h with ⟨j,c,rfl,hc,rfl⟩|⟨hL,hb⟩;rcases split h' with ⟨j',c',rfl,GH,rfl⟩|⟨hL',js⟩;rw[oD _ (lt' hc),qE.nZ]at u;rw[oD _ (lt' GH),qE.nZ]at u';rw[yw.inj j j' c c' z hc GH u u'];rw[oD _ (lt' hc),qE.nZ]at u;rw[Nj γ' b' hL' js]at u';exact(cross hc u hL' js u').elim;rcases split h' with ⟨j',c',rfl,GH,rfl⟩|⟨hL',js⟩;rw[oD _ (lt' GH),qE.nZ]at u';rw[Nj γ b hL hb]at u;exact(cross GH u' hL hb u).elim;rw[Nj γ b hL hb]at u;rw[Nj γ' b' hL' js]at u';exact hi.inj γ γ' b b' z hb js u u';rcases split h with ⟨j,c,rfl,hc,rfl⟩|⟨hL,hb⟩;rw[oD _ (lt' hc),qE.nZ]at hu;exact yw.Vt j c z hc hu;rw[Nj γ b hL hb]at hu;intro hIm;rcases he.ta _ hIm with h|h|⟨i,x,q1,q2⟩;exact hi.Vt γ b z hb hu h;have:=(hi.rB γ b hb).cn hu;omega;obtain⟨β,b1,r1,r2,r3⟩:=YP q1 q2;exact hL (hi.inj β γ b1 b z r2 hb r3 hu ▸ r1);rcases split h with ⟨j,c,rfl,hc,rfl⟩|⟨hL,hb⟩;have h2:=(sJ H' 0 hk hc).2;by_cases hj:j<L.length;(have a1:L[j]? =some L[j]:=by simp[hj]);rw[g1 a1];obtain⟨b1,Hk,_⟩:=hs.has _ (z6 a1);exact(xY _ b1 Hk).imp (fun h=>o?) id;rw[g2 o?];exact .inl o?;exact(xY γ b hb).imp (fun h=>o?) id
end
def ln[xg](P:Program)(f:FuncId)(args:List AV)(H:qr)(r:AV)(H' :qr):Prop:=
 ∀(w:World)(ι:yq)(Im:Nat->Prop)(vs:List Value),zc w H ι Im->args.length=vs.length->(∀(i:Nat) x v,args[i]? =some x->vs[i]? =some v->RA w H ι Im x v)->
  Calls P f ⟨vs⟩ w fun e w' => ∃v ι' jV,e= .returned v/\zc w' H' ι' jV/\wR w H ι Im w' H' ι' jV/\RA w' H' ι' jV r v
def enters(P:Program)(f:FuncId):Prop:= ∃fn,P.funcs[f]? =some fn/\(fn.name== "runtime.NumGoroutine")=false/\fn.body.isSome=true
structure SoundCall [xg] (P:Program) (O:xm):Prop where
 call: ∀f args H r H',O.call f args H=some (r,H')->enters P f/\ln P f args H r H'
section
variable [xg] {P:Program} {w:World} {H:qr} {ι:yq} {Im:Nat->Prop}
theorem Gc{f:FuncId}(h:enters P f)(args:Array Value):(callFunc f args).run P w= .ok (.enter f args) w:=by
 obtain⟨fn,h1,h2,h3⟩:=h;unfold callFunc;have h3' :fn.body.isNone=false:=by cases hb:fn.body<;>simp[hb]at h3 |-
 simp only[jT,run_program,me,h1,h2,ko,if_false,h3',K?]
theorem BI{O:xm}(hO:SoundCall P O)(hi:zc w H ι Im){nx:Nat}{X:Nat->Prop}(xY:Bd X H nx){f:FuncId}{args:List AV}{vs:List Value}
  (hl:args.length=vs.length) (hR: ∀(i:Nat) x v,args[i]? =some x->vs[i]? =some v->RA w H ι Im x v) {e:mC} (hr:eQ O f args H nx=some e) (hX: ∀γ,X γ->e.2.2<=γ):
  enters P f/\Calls P f ⟨vs⟩ w fun en w' => ∃v ι' jV,en= .returned v/\zc w' (qZ e.2.1 H) ι' jV/\wR w H ι Im w' (qZ e.2.1 H) ι' jV/\RA w' (qZ e.2.1 H) ι' jV e.1 v/\
   nx<=e.2.2/\Bd X (qZ e.2.1 H) e.2.2:=by
 unfold eQ at hr;split at hr;cases hr;rename_i L H0 Ze;split at hr;cases hr
 rename_i v H' dw;split at hr<;>cases hr;rename_i hk;obtain⟨hs,Wm,_⟩:=oM q1p Ze;obtain⟨Wi,dn⟩:=hO.call f _ H0 v H' dw;refine⟨Wi, ?_⟩;have:=dn w (Zw ι L) Im vs (hs.hinv hi) (by rw[da,hl]) (fun i x v h1 h2=>by
  rw[tz]at h1
  simp only[yR]at h1
  obtain⟨y,hy,rfl⟩:=h1
  exact Zn _ (hR i y v hy h2) fun β hβ b hb=>hs.BT (Wm β (vV hy hβ)) b hb)
 refine this.mono fun en w'⟨u,ι',jV,h1,h2,h3,h4⟩=>?_;obtain⟨b1,b2,b3,b4⟩:=back_ok hs hi xY h2 h3 hk hX;exact⟨u,_,jV,h1,b1,b2,b3 h4,Nat.le_add_right _ _,b4⟩
theorem Act.HW(a:Act)(d:Option Tmp)(v:Value)(t:Nat):(a.put d v).tmps.getD t undef=if d=some t/\t<a.tmps.size then v else a.tmps.getD t undef:=by cases d with|none=>simp[Act.put]|some d=>simp only[Act.put,ki];by_cases h:d=t;subst h;by_cases h2:d<a.tmps.size;simp[h2,F_];simp[h2,F_];rw[if_neg (fun h' =>h h'.1)];simp only[F_,Array.size_setIfInBounds];split;rw[G_,G_,Array.getElem_setIfInBounds_ne];exact h;rfl
theorem Act.Xh(a:Act)(d:Option Tmp)(v:Value):(a.put d v).tmps.size=a.tmps.size:=by cases d<;>simp[Act.put]
theorem Act.put_defers(a:Act)(d:Option Tmp)(v:Value):(a.put d v).defers=a.defers:=by cases d<;>rfl
theorem ft(d:Option Tmp)(v:AV)(E:yp)(t:Nat):(fq d v E).get t=if d=some t then v else E.get t:=by cases d with|none=>simp[fq]|some d=>simp[fq,V!]
theorem Kd{a:Act}{E:yp}{nt:Nat}(hE: ∀t,RA w H ι Im (E.get t) (a.tmps.getD t undef))(mr:nt<=a.tmps.size){d:Option Tmp}(hd: ∀t,d=some t->t<nt)
  {x:AV} {v:Value} (hx:RA w H ι Im x v): ∀t,RA w H ι Im ((fq d x E).get t) ((a.put d v).tmps.getD t undef):=by intro t;rw[ft,Act.HW];by_cases h:d=some t;rw[if_pos h,if_pos ⟨h,U! (hd t h) mr⟩];exact hx;rw[if_neg h,if_neg (fun h' =>h h'.1)];exact hE t
theorem Mb:RA w H ι Im (.xV []) Go.undef:= .xV [] [] rfl z?
def Yr(nt:Nat)(ops:List Oper):Prop:= ∀o∈ops,∀ t,o.dst=some t->t<nt
def aH(w:World)(H:qr)(ι:yq)(Im:Nat->Prop)(nt:Nat)(s:St)(a:Act)(w' :World):Prop:=
 ∃ι' jV,Inv w' a s ι' jV nt/\wR w H ι Im w' s.heap ι' jV
theorem aH.from{w1:World}{H1:qr}{ι1:yq}{o6:Nat->Prop}{nt:Nat}{s:St}{a:Act}{w' :World}(h:aH w1 H1 ι1 o6 nt s a w')(he:wR w H ι Im w1 H1 ι1 o6):
  aH w H ι Im nt s a w' :=
 let⟨ι',jV,h1,h2⟩:=h
 ⟨ι',jV,h1,he.trans h2⟩
theorem Uw{a:Act}{o:Oper}{t:TypeId}{z:Operand}(Tv:o.op= .box t z){u:Value}{w' :World}(h:(Instr.box t (a.eval z)).run P w= .ok u w'):
  (execOp a.eval o).run P w= .ok (.value u) w' :=by unfold execOp;simp only[Tv];simp[h]
theorem q0M{G:GP}{O:xm}(hG:yB P G)(hO:SoundCall P O){a:Act}{E:yp}{nx:Nat}(hi:zc w H ι Im)(JY: ∀t,RA w H ι Im (E.get t) (a.tmps.getD t undef))
  {X:Nat->Prop} (xY:Bd X H nx) (o:Oper) {x:AV} {ws:List (Nat×qE)} {fm:Nat} (X0:mD G O o.op E H nx=some (x,ws,fm)) (hX: ∀γ,X γ->fm<=γ)
  (next:Act->World->Prop) (Q:Exit->Act->World->Prop)
  (o4: ∀(u:Value)(w' :World)(ι' :yq)(jV:Nat->Prop),zc w' (qZ ws H) ι' jV->wR w H ι Im w' (qZ ws H) ι' jV->RA w' (qZ ws H) ι' jV x u->
   Bd X (qZ ws H) fm->next (a.put o.dst u) w'):
  o.wp P a w next Q:=by
 unfold Oper.wp;cases hc:Ws o.op with
 |false=>
  obtain⟨u,w',h1,ι',h2,h3,h4,h5,h6⟩:=aop_ok hG hi xY JY O o hc X0 hX;rcases h1 with h1|⟨h1,rfl⟩
  ·rw[h1];exact o4 _ _ _ _ h2 h3 h4 h6
  rw[h1];exact o4 _ _ _ _ h2 h3 h4 h6
 |true=>
  by_cases hbx: ∃t z,o.op= .box t z
  ·obtain⟨t,z,Tv⟩:=hbx;rw[Tv]at X0;unfold mD at X0;simp only at X0;split at X0;rotate_left
   ·cases X0
   rename_i hs;unfold aBox at X0;split at X0
   ·split at X0<;>cases X0;rename_i l hl;obtain⟨u,w',jV,h1,h2,h3,h4⟩:=Oe (P:=P) (t:=t) hi (QP JY z) hs hl;rw[Uw Tv h1];exact o4 _ _ _ _ h2 h3 h4 xY
   cases X0;obtain⟨u,w',h1,ι',h2,h3,h4,h5,h6⟩:=aBox_ok (P:=P) (t:=t) hi xY (aT hX) (QP JY z) hs;rw[Uw Tv h1];exact o4 _ _ _ _ h2 h3 h4 h6
  obtain⟨fo,args,cu,Tv⟩: ∃fo args cu,o.op= .call { callee:= .value fo,args:=args,argTypes:=cu }:=by
   cases ho:o.op<;>simp[Ws,ho]at hc
   ·exact absurd ⟨_,_,ho⟩ hbx
   rename_i c;obtain⟨callee,args,cu⟩:=c;cases callee<;>simp at hc;exact⟨_,_,_,rfl⟩
  rw[Tv]at X0;have SO:args.map a.eval=⟨args.toList.map a.eval⟩:=by apply D!; simp
  have K1: ∀(f:FuncId)(first cap:Array Value),a.eval fo= .func (.func f) first cap->enters P f->
    (execOp a.eval o).run P w= .ok (.enter f (first++args.map a.eval++cap)) w:=by
   intro f first cap hf Wi
   unfold execOp;simp only[Tv,resolve,hf,Deferred.ofValue,jT,K?,me,invoke,Gc Wi]
  have hfo:=QP JY fo;have hlist:=Ce JY args.toList;unfold mD at X0;simp only at X0;have finish: ∀(f:FuncId)(vs:List Value)(e:mC),(x,ws,fm)=e->(Calls P f ⟨vs⟩ w fun en w' => ∃v ι' jV,en= .returned v/\zc w' (qZ e.2.1 H) ι' jV/\wR w H ι Im w' (qZ e.2.1 H) ι' jV/\RA w' (qZ e.2.1 H) ι' jV e.1 v/\
    nx<=e.2.2/\Bd X (qZ e.2.1 H) e.2.2)->o.upon P a next Q (.ok (.enter f ⟨vs⟩) w):=by
   intro f vs e he dw;subst he;show Calls P f ⟨vs⟩ w _;refine dw.mono fun en w'⟨v,ι',jV,q1,q2,q3,q4,q5,q6⟩=>?_;subst q1;exact o4 _ _ _ _ q2 q3 q4 q6
  split at X0
  ·rename_i f hf;rw[hf]at hfo;have hp:=hfo.gC;generalize hv:a.eval fo=vf at hp;cases hp;obtain⟨Wi,dw⟩:=BI hO hi xY (vs:=args.toList.map a.eval) z? hlist X0 hX;rw[K1 f #[] #[] hv Wi,SO];have:(#[]++(⟨args.toList.map a.eval⟩:Array Value)++ #[])=⟨args.toList.map a.eval⟩:=z?;rw[this];exact finish f _ _ rfl dw
  ·rename_i f fa fb hf;rw[hf]at hfo;generalize hv:a.eval fo=vf at hfo;cases hfo with
   |Z5 _ _ _ va vb VT SX ha hb=>
    obtain⟨Wi,dw⟩:=BI hO hi xY (vs:=va++args.toList.map a.eval++vb) (by simp[VT,SX]) (fun i z v h1 h2=>by
     rw[M!]at h1 h2
     have hlen:(fa++args.toList.map (ev E)).length=(va++args.toList.map a.eval).length:=by simp[VT]
     rw[<- hlen]at h2
     split at h1
     ·rename_i Kg
      rw[if_pos Kg]at h2
      rw[M!]at h1 h2
      rw[<- VT]at h2
      split at h1
      ·rename_i Hl
       rw[if_pos Hl]at h2
       exact ha i z v h1 h2
      rename_i Hl
      rw[if_neg Hl]at h2
      exact hlist _ z v h1 h2
     rename_i Kg
     rw[if_neg Kg]at h2
     exact hb _ z v h1 h2) X0 hX
    rw[K1 f _ _ hv Wi,SO];have:((⟨va⟩:Array Value)++(⟨args.toList.map a.eval⟩:Array Value)++(⟨vb⟩:Array Value))=⟨va++args.toList.map a.eval++vb⟩:=z?;rw[this];exact finish f _ _ rfl dw
  cases X0
theorem stepO_ok{G:GP}{O:xm}(hG:yB P G)(hO:SoundCall P O){nt:Nat}{a:Act}{s s' :St}(h:Inv w a s ι Im nt)(o:Oper)(hd: ∀t,o.dst=some t->t<nt)
  (hr:Xp G O o s=some s') (next:Act->World->Prop) (Q:Exit->Act->World->Prop) (hn: ∀a' w',aH w s.heap ι Im nt s' a' w' ->next a' w'):
  o.wp P a w next Q:=by
 unfold Xp at hr;split at hr<;>cases hr;rename_i x ws fm X0;refine q0M hG hO h.heap h.env (X:=fun _=>False) (fun β b hb=> .inl (h.nx β b hb)) o X0 (fun _ h=>h.elim) next Q fun u w' ι' jV h1 h2 h3 h4=>?_
 refine hn _ _ ⟨ι',jV,⟨h1, ?_,fun β b hb=>(h4 β b hb).resolve_right id,by rw[Act.Xh];exact h.size,by rw[Act.put_defers];exact h.defers⟩,h2⟩;exact Kd (fun t=>(h.env t).mono h.heap h2) h.size hd h3
theorem aH.post{nt:Nat}{s:St}{a:Act}{w' :World}(h:aH w H ι Im nt s a w')(l:List Dx):aH w H ι Im nt (pR l s) a w' :=by obtain⟨ι1,o6,h1,e1⟩:=h;obtain⟨ι2,GC,h2,e2⟩:=Kb l h1;exact⟨ι2,GC,h2,e1.trans e2⟩
end
end Go.Gm
