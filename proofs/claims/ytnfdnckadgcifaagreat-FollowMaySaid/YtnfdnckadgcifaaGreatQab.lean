/-
  The machine, part b.
-/
import Derived.Test.YtnfdnckadgcifaaGreatQaa
import Derived.JoinedOf
import Derived.Lib.UnsafeStr
import GoSem.ClaimGoes
open Array renaming getElem?_toList->H?,ext'->I!,getInternal_eq_getElem->R_,getD->I_,mk->q1i
open Exists renaming imp->q1a
open Go.Gm.AV renaming refs->E?
open Go.Gm.Sk renaming blocks->k!
open Go.Gm.TI renaming isAgg->q0x
open Go.Gm.qJ renaming used->y_,sh->q0c,refs->q0l,yz->q19
open Go.Gm.qp renaming zm->c!,get->L!,put->k_
open Go.Gm.tA renaming pure->a!
open Go.Gm.vj renaming refl->G!
open Go.Gm.yu renaming get->B!
open Go.Sem renaming run_pure->W?,run->C_
open List renaming length_cons->b?,mem_append->p?,getElem?_append_left->t?,length_append->s?,mem_singleton->c?,map_cons->d?,getElem?_cons_zero->a?,getElem?_cons_succ->i?,getElem?_append_right->J?,getElem?_map->K?,getElem?_take_of_lt->V?,mem_of_mem_take->Y?,mem_cons->U?,mem_map->G?,flatMap_cons->T?,nodup_append->D?,getElem?_toArray->A?,mem_of_mem_drop->q!,getElem?_drop->h!,mem_or_eq_of_mem_set->n!,nodup_cons->i!,mem_flatMap->l!,all_eq_true->V!,flatten_cons->U!,getElem?_set->T!,getElem?_append->R!,getElem?_set_self->d_,mem_append_right->f_,getElem?_eq_none->o_,getElem?_set_ne->S',set_cons_zero->q09,set_cons_succ->q0a,foldlM_cons->q0k,nodup_nil->q0y
open Nat renaming succ_mul->B?,add_mul->N?,zero_add->O?,add_assoc->Q!,lt_of_lt_of_le->N!,zero_le->E!,eq_zero_or_pos->q0g,sub_zero->q1e,sub_sub->q1g
open Option renaming map_some->D!
set_option linter.unusedSimpArgs false
set_option linter.unusedVariables false
set_option linter.unusedSectionVars false
namespace Go.Gm
open Go
section
variable [xn] {P:Program} {w:World} {H:qp} {ι:yv} {Im:Nat->Prop}
theorem XX{a:Act}{E:yu}(hE: ∀t,RA w H ι Im (E.get t) (a.tmps.getD t undef))(d:Nat)(x:Option Operand){n:Nat}(h:kz (ev E) d x=some n):
  (x=none/\n=d)\/ ∃kd,(x.map a.eval)=some (.int kd (n:Int)):=by cases x with|none=>simp only[kz,wd]at h;exact .inl ⟨rfl,h.symm⟩|some x=>simp only[kz]at h;obtain⟨kd,hk⟩:=ZY (QH hE x) h;exact .inr ⟨kd,by simp[hk]⟩
theorem run_sliceBound{kd:IntKind}{n y:Nat}(h:n<=y)(code:BoundsCode):(Instr.sliceBound (.int kd (n:Int)) y code).run P w= .ok n w:=by unfold Instr.sliceBound asIntOf;have:(n:Int)<=(y:Int):=o?;simp[this]
theorem hU(isSlice:Bool){a:Act}{E:yu}(hE: ∀t,RA w H ι Im (E.get t) (a.tmps.getD t undef))(lo hi mx:Option Operand)(len cap:Nat){l h m:Nat}
  (hl:kz (ev E) 0 lo=some l) (hh:kz (ev E) len hi=some h) (hm:kz (ev E) cap mx=some m) (h1:l<=h) (h2:h<=m) (h3:m<=cap)
  (hmx:mx≠none->hi≠none):
  (Instr.sliceBounds isSlice len cap (lo.map a.eval) (hi.map a.eval) (mx.map a.eval)).run P w= .ok (l,h,m) w:=by have e1:=XX hE 0 lo hl;have e2:=XX hE len hi hh;have e3:=XX hE cap mx hm;unfold Instr.sliceBounds;rcases e3 with ⟨rfl,rfl⟩|⟨k3,e3⟩;rcases e2 with ⟨rfl,rfl⟩|⟨k2,e2⟩;rcases e1 with ⟨rfl,rfl⟩|⟨k1,e1⟩;simp;simp only[e1,Option.map_none,kf,Sem.run_pure,mb,run_sliceBound h1];rcases e1 with ⟨rfl,rfl⟩|⟨k1,e1⟩;simp only[e2,Option.map_none,kf,Sem.run_pure,mb,run_sliceBound h2];simp only[e1,e2,Option.map_none,kf,Sem.run_pure,mb,run_sliceBound h1,run_sliceBound h2];rcases e2 with ⟨rfl,rfl⟩|⟨k2,e2⟩;(have:mx≠none:=by intro e;subst e;cases e3);exact absurd rfl (hmx this);rcases e1 with ⟨rfl,rfl⟩|⟨k1,e1⟩;simp only[e2,e3,Option.map_none,kf,Sem.run_pure,mb,run_sliceBound h2,run_sliceBound h3];simp only[e1,e2,e3,kf,Sem.run_pure,mb,run_sliceBound h1,run_sliceBound h2,run_sliceBound h3]
theorem VN(s:List UInt8)(l h:Nat):(ByteArray.mk ⟨s⟩).extract l h=⟨⟨(s.take h).drop l⟩⟩:=by apply ByteArray.ext;apply I!;simp[List.extract_eq_take_drop,List.drop_take]
theorem slv_sh{b:qJ}{x:Bool×Nat×Nat}(h:b.slv=some x):b.sh=some x:=by unfold qJ.slv at h;split at h;exact h;exact h;cases h
theorem slv_cap(hi:zf w H ι Im){β:Nat}{b:qJ}{sz k:Nat}(hb:H.get β=some b)(hs:b.slv=some (false,sz,k)):k<=(ι β).cap:=by unfold qJ.slv at hs;split at hs;cases hs;obtain⟨vs,elem,fz,g1,g2,g3,g4,g5,_⟩:=hi.row hb;exact g5;cases hs;obtain⟨vs,elem,fz,h1,h2,h3,h4,_⟩:=hi.kj hb;exact h4;cases hs
theorem slv_nil{β:Nat}{b:qJ}{sz k:Nat}(h:rA w H ι Im β b)(hs:b.slv=some (true,sz,k)):k=0:=by unfold qJ.slv at hs;split at hs;cases hs;have:_=[]:=h;rw[this];rfl;cases hs;obtain⟨h1,_⟩:=h;rw[h1];rfl;cases hs
theorem Dl{G:TypeId->Option TI}(hG: ∀t ti,G t=some ti->zT P t ti){t:TypeId}{ti:TI}(ht:zT P t ti)(uj:zf w H ι Im)
  {a:Act} {E:yu} (hE: ∀t,RA w H ι Im (E.get t) (a.tmps.getD t undef)) {x:AV} {v:Value} (hx:RA w H ι Im x v) (lo hi mx:Option Operand)
  {r:AV} (hr:eh ti.td G (ev E) x lo hi mx H=some r):
  ∃u,(Instr.sliceAt t v (lo.map a.eval) (hi.map a.eval) (mx.map a.eval)).run P w= .ok u w/\RA w H ι Im r u:=by
 unfold eh at hr;split at hr;cases hr;rename_i hmx0;have hmx:mx≠none->hi≠none:=by intro h1 h2;subst h2;cases mx with|none=>exact h1 rfl|some _=>exact hmx0 ⟨rfl,rfl⟩
 split at hr
 ·rename_i jF;have hu:=ht.string jF;split at hr;rotate_left;cases hr;rename_i s;split at hr;cases hr;(rename_i hmn;have hmn' :mx=none:=by cases mx<;>simp_all);subst hmn';split at hr;rotate_left;cases hr
  rename_i l h hl hh;split at hr<;>cases hr;rename_i hc;cases hx with
  |pv _ _ hp=>cases hp with
   |str=>
    have hb:=hU (P:=P) false hE lo hi none s.length s.length hl hh rfl hc.1 hc.2 (ju _) (fun h=>absurd rfl h);refine⟨.string ((ByteArray.mk ⟨s⟩).extract l h), ?_,.pv _ _ (by rw[VN];exact .str _)⟩;unfold Instr.sliceAt Instr.slice;simp only[kf,qy hu,mb];have ml:(ByteArray.mk ⟨s⟩).size=s.length:=rfl;simp only[Option.map_none]at hb |-;simp[ml,hb]
 ·rename_i e jF;have hu:=ht.slice jF;split at hr;cases hr
  rename_i te dy;have sJ:=hG _ _ dy;have run: ∀(base:Option Addr)(len cap l h m:Nat),(Instr.sliceBounds true len cap (lo.map a.eval) (hi.map a.eval) (mx.map a.eval)).run P w= .ok (l,h,m) w->
    (Instr.sliceAt t (.slice base len cap) (lo.map a.eval) (hi.map a.eval) (mx.map a.eval)).run P w= .ok (.slice (if m=l then base else base.map (·.add (l*te.size))) (h-l) (m-l)) w:=by
   intro base len cap l h m hb;unfold Instr.sliceAt Instr.slice;simp only[kf,qy hu,mb,hb,sJ.size,W?]
  split at hr
  ·rename_i qw sz es;split at hr;rotate_left;cases hr;rename_i l h m hl hh hm;split at hr;rotate_left;cases hr
   rename_i hc;obtain⟨c1,c2,c3,c4⟩:=hc;cases hx with
   |pv _ _ hp=>cases hp with
    |aP=>
     have hm0:m=0:=by simpa using c3
     subst hm0;have hh0:h=0:=o?;subst hh0;have hl0:l=0:=o?;subst hl0;have hb:=hU (P:=P) true hE lo hi mx 0 0 hl (by simpa using hh) (by simpa using hm) (ju _) (ju _) (ju _) hmx;simp at hr;subst hr;refine⟨_,run none 0 0 0 0 0 hb, ?_⟩;simp;exact .pv _ _ (.aP 0)
    |sl _ _ b off cap vs Qt JV ml Wg hf hrp sp Sz=>
     have hm' : ∃m',kz (ev E) cap mx=some m' /\((mx=none/\m' =cap)\/(mx≠none/\m' =m)):=by
      cases mx with
      |none=>exact⟨cap,rfl,.inl ⟨rfl,rfl⟩⟩
      |some y=>exact⟨m,hm,.inr ⟨z?,rfl⟩⟩
     obtain⟨m',hm',OR⟩:=hm';have hhm:h<=m' /\m' <=cap:=by
      rcases OR with ⟨rfl,rfl⟩|⟨_,rfl⟩
      ·simp only[kz,wd]at hm;omega
      omega
     have hb:=hU (P:=P) true hE lo hi mx es.length cap hl hh hm' c1 hhm.1 hhm.2 hmx;refine⟨_,run (some ⟨b,off,sp⟩) es.length cap l h m' hb, ?_⟩;split at hr
     ·rename_i hz;cases hr;obtain⟨z1,z2,_⟩:=hz;rcases OR with ⟨rfl,_⟩|⟨_,rfl⟩
      ·cases z1
      have e1:h-l=0:=o?;have e2:m' -l=0:=o?;rw[if_pos z2.symm,e1,e2];exact .iW _
     cases hr;by_cases df:es=[]
     ·subst df;simp only[List.length_nil,Nat.le_zero_eq]at c3;have hh0:h=0:=o?;have hl0:l=0:=o?;subst hh0;subst hl0;have hz:RP w Im (.sl false sz (([]:List (List PV)).take 0 |>.drop 0)) (.slice (some ⟨b,off,sp⟩) (0-0) (m' -0)):=
       .sl sz [] b off (m' -0) (fun _=>undef) (fun h=>absurd rfl h) (E! _) z? (fun i xS=>by simp at xS) z? z? sp (fun h=>absurd rfl h)
      have ha:(⟨b,off,sp⟩:Addr).add (0*te.size)=⟨b,off,sp⟩:=by simp[Addr.add]
      split
      ·exact .pv _ _ hz.mk
      simp only[D!,ha];exact .pv _ _ hz.mk
     obtain rfl:=Sz df;have hlen:((es.take h).drop l).length=h-l:=v?;have key: ∀(a0:Nat),(l<h->a0=off+l*sz)->RP w Im (.sl false sz ((es.take h).drop l)) (.slice (some ⟨b,a0,none⟩) (h-l) (m' -l)):=by
      intro a0 Ec;rw[<- hlen];have pW: ∀(i:Nat) e0,((es.take h).drop l)[i]? =some e0->l+i<h/\es[l+i]? =some e0:=by
       intro i e0 hi0;have h1:=(qL hi0).1;rw[h!,V? o?]at hi0;exact⟨o?,hi0⟩
      refine .sl sz _ b a0 (m' -l) (fun i=>vs (l*sz+i)) (fun jZ=>Qt (fun h0=>jZ (by rw[h0];simp))) o? (fun e0 Gu=>ml e0 (Y? (q! Gu))) (fun i xS=>?_) (fun i e0 j p q1 q2=>hf _ e0 j p (pW i e0 q1).2 q2) (fun i e0 j p q1 q2=>?_) none (fun _=>rfl)
      ·rw[hlen]at xS;have jZ:l<h:=by
        rcases Nat.lt_or_ge l h with h0|h0
        ·exact h0
        have:h-l=0:=o?;rw[this]at xS;simp at xS
       rw[Ec jZ,Q!];refine Wg _ ?_;have e1:(l+(h-l))*sz<=es.length*sz:=mulR _ o?;rw[N?]at e1;omega
      obtain⟨_,g⟩:=pW i e0 q1;have:=hrp (l+i) e0 j p g q2;rw[N?]at this;rwa[<- Q!]
     by_cases Wi:m' =l
     ·rw[if_pos Wi];exact .pv _ _ (key off (fun h0=>o?)).mk
     rw[if_neg Wi];simp only[D!,add_plain];refine .pv _ _ (RP.mk (key _ (fun h0=>?_)));rcases c4 with rfl|c4
     ·rfl
     subst c4;simp at c3;omega
  {rename_i β xm off n;split at hr;rotate_left;cases hr;rename_i ru hb;split at hr;rotate_left;cases hr;rename_i qw sz k0 hsl;split at hr;rotate_left;cases hr;rename_i l h m hl hh hm;split at hr;rotate_left;cases hr;rename_i hc;obtain⟨jJ,c1,c2,c3,c4⟩:=hc;have hxx:=hx;cases hx with|row _ _ _ _ _ b ho jD hk hv hh' =>rw[hb]at jD;cases jD;have hsh:=slv_sh hsl;obtain⟨h1,h2⟩:=hh' _ _ _ hsh jJ;cases hn:qw;{(subst hn;simp only[wH,if_false]at h2 hr;obtain⟨a0,rfl,oL,ay,Qa⟩:=h2;obtain⟨ab,ao,Dq⟩:=a0;simp only at oL ay Qa;subst oL ay;have hte0:sz=te.size:=by rcases c4 with h|h;exact h;cases h);(have g5:=slv_cap uj hb hsl;have hm' : ∃m',kz (ev E) ((ι β).cap-off) mx=some m' /\((mx=none/\m' =(ι β).cap-off)\/(mx≠none/\m' =m)):=by cases mx with|none=>exact⟨_,rfl,.inl ⟨rfl,rfl⟩⟩|some y=>exact⟨m,hm,.inr ⟨z?,rfl⟩⟩);(obtain⟨m',hm',OR⟩:=hm';have hhm:h<=m' /\m' <=(ι β).cap-off:=by rcases OR with ⟨rfl,rfl⟩|⟨_,rfl⟩;simp only[kz,wd]at hm;omega;omega);have F5:=hU (P:=P) true hE lo hi mx n ((ι β).cap-off) hl hh hm' c1 hhm.1 hhm.2 hmx;refine⟨_,run _ n _ l h m' F5, ?_⟩;split at hr;split at hr<;>cases hr;rename_i hz hlm;rcases OR with ⟨rfl,_⟩|⟨_,rfl⟩;cases hz;have e1:h-l=0:=o?;have e2:m' -l=0:=o?;rw[if_pos hlm.symm,e1,e2];exact .iW _;rename_i hz;cases hr;rcases OR with ⟨rfl,rfl⟩|⟨jZ,_⟩;rotate_left;(cases mx with|none=>exact absurd rfl jZ|some _=>exact absurd rfl hz);refine .row β xm (off+l) (h-l) _ _ (by split<;>rfl) hb hk hv fun qw RH og e MS=>?_;rw[hsh]at e;cases e;refine⟨o?, ?_⟩;simp only[wH,if_false];by_cases Wi:(ι β).cap-off=l;rw[if_pos Wi];exact⟨⟨(ι β).b,ao,none⟩,by rw[q1g],rfl,rfl,fun h0=>o?⟩;rw[if_neg Wi];refine⟨⟨(ι β).b,ao+l*te.size,none⟩,by simp only[D!,add_plain];rw[q1g],rfl,rfl,fun h0=>?_⟩;have:=Qa o?;subst this;rw[hte0,N?]};subst hn;simp only[if_true]at h2 hr;subst h2;have df:k0=0:=slv_nil (uj.ru β _ hb) hsl;subst df;have Gw:n=0:=o?;subst Gw;have hm0:m=0:=o?;subst hm0;have hh0:h=0:=o?;subst hh0;have hl0:l=0:=o?;subst hl0;simp only[Nat.add_zero,q1e,ite_self,wd]at hr;subst hr;have F5:=hU (P:=P) true hE lo hi mx 0 0 hl hh hm (ju _) (ju _) (ju _) hmx;refine⟨_,run none 0 0 0 0 0 F5, ?_⟩;simpa using hxx};(split at hr<;>cases hr;rename_i hl hh hm;cases hx with|iW a=>have F5:=hU (P:=P) true hE lo hi mx 0 0 hl hh hm (ju _) (ju _) (ju _) hmx;refine⟨_,run (some a) 0 0 0 0 0 F5, ?_⟩;simp;exact .iW _);cases hr
 cases hr
end
section
variable [xn] {P:Program} {w:World} {H:qp} {ι:yv} {Im:Nat->Prop}
theorem RA.row_inv{β xm off n:Nat}{v:Value}(hx:RA w H ι Im (.row β xm off n) v){qw:Bool}{sz:Nat}{es:List (List PV)}
  (hb:H.get β=some (.row qw sz es)) (hv:xm=es.length):off+n<=es.length/\
    if qw=true then v= .slice none 0 0
    else ∃a,v= .slice (some a) n ((ι β).cap-off)/\a.spot=none/\a.block=(ι β).b/\(off<(ι β).cap->a.off=off*sz):=by cases hx with|row _ _ _ _ _ b ho jD hk MS hh' =>rw[hb]at jD;cases jD;exact hh' _ _ _ rfl hv
theorem RA.G3(hi:zf w H ι Im){β xm off n:Nat}{v:Value}(hx:RA w H ι Im (.row β xm off n) v){qw:Bool}{sz:Nat}{es:List (List PV)}
  (hb:H.get β=some (.row qw sz es)) (hv:xm=es.length): ∃a c,v= .slice a n c/\a.isNone=qw:=by
 obtain⟨h1,h2⟩:=hx.row_inv hb hv;cases qw;simp only[wH,if_false]at h2;obtain⟨a,rfl,_⟩:=h2;exact⟨_,_,rfl,rfl⟩;simp only[if_true]at h2;subst h2;have df:es=[]:=hi.ru β _ hb;subst df;have:n=0:=by simp at h1;omega
 subst this;exact⟨_,_,rfl,rfl⟩
theorem RA.IQ{β xm off n:Nat}{v:Value}(hx:RA w H ι Im (.row β xm off n) v){sz:Nat}{es:List (List AV)}
  (hb:H.get β=some (.mr sz es)) (hv:xm=es.length): ∃a c,v= .slice a n c:=by cases hx with|row _ _ _ _ _ b ho jD hk jJ h=>rw[hb]at jD;cases jD;obtain⟨h1,h2⟩:=h _ _ _ rfl hv;simp only[wH,if_false]at h2;obtain⟨a,rfl,_⟩:=h2;exact⟨_,_,rfl⟩
theorem RA.orow_len(hi:zf w H ι Im){β xm off n:Nat}{v:Value}(hx:RA w H ι Im (.row β xm off n) v){qw:Bool}{ds:List Nat}{es:List PV}{l4:Option (Nat×Nat×Nat)}
  (hb:H.get β=some (.kj qw ds es l4)) (hv:xm=es.length): ∃a c,v= .slice a n c:=by cases hx with|row _ _ _ _ _ b ho jD hk jJ h=>rw[hb]at jD;cases jD;obtain⟨h1,h2⟩:=h _ _ _ rfl hv;cases qw with|false=>simp only[wH,if_false]at h2;obtain⟨a,rfl,_⟩:=h2;exact⟨_,_,rfl⟩|true=>(simp only[if_true]at h2;subst h2;have df:es=[]:=(hi.ru β _ hb).1;subst df;have:n=0:=by simp at h1;omega);subst this;exact⟨_,_,rfl⟩
theorem aLen_ok{t:TypeId}{ti:TI}(ht:zT P t ti)(hi:zf w H ι Im){x:AV}{v:Value}(hx:RA w H ι Im x v)(tt:TypeId){n:Nat}(jF:ZT ti.td x=true)(hr:Bh x H=some n):
  (Builtin.len_ #[t] tt #[v]).run P w= .ok (.int .i64 n) w:=by
 unfold Bh at hr;unfold Builtin.len_;simp only[A?,a?,kf];split at hr
 ·rename_i s;cases hr;cases hx with
  |pv _ _ h=>cases h with
   |str=>
    have kZ:ti.td= .string:=by
     cases h:ti.td<;>simp[ZT,h]at jF |-
    simp only[qy (ht.string kZ),mb,goInt];rfl
 (rename_i qw sz es;cases hr;have kZ: ∃e,ti.td= .slice e:=by cases h:ti.td<;>simp[ZT,h]at jF |-);(obtain⟨e,kZ⟩:=kZ;simp only[qy (ht.slice kZ),mb];cases hx with|pv _ _ h=>cases h<;>rfl);(cases hr;have kZ: ∃k e,ti.td= .map k e:=by cases h:ti.td<;>simp[ZT,h]at jF |-);(obtain⟨k,e,kZ⟩:=kZ;simp only[qy (ht.map kZ),mb];cases hx with|pv _ _ h=>cases h;rfl);(cases hr;have kZ: ∃e,ti.td= .slice e:=by cases h:ti.td<;>simp[ZT,h]at jF |-);(obtain⟨e,kZ⟩:=kZ;simp only[qy (ht.slice kZ),mb];cases hx with|iW a=>rfl);(rename_i β xm off m;have kZ: ∃e,ti.td= .slice e:=by cases h:ti.td<;>simp[ZT,h]at jF |-);obtain⟨e,kZ⟩:=kZ;simp only[qy (ht.slice kZ),mb];split at hr;rename_i qw sz es hb;split at hr<;>cases hr;rename_i jJ;obtain⟨a,c,rfl,_⟩:=hx.G3 hi hb jJ;rfl;rename_i sz es hb;split at hr<;>cases hr;rename_i jJ;obtain⟨a,c,rfl⟩:=hx.IQ hb jJ;rfl;rename_i qw ds es l4 hb;split at hr<;>cases hr;rename_i jJ;obtain⟨a,c,rfl⟩:=hx.orow_len hi hb jJ;rfl;cases hr;(rename_i β;split at hr<;>cases hr;rename_i es zN hb;have kZ: ∃k e,ti.td= .map k e:=by cases h:ti.td<;>simp[ZT,h]at jF |-);(obtain⟨k,e,kZ⟩:=kZ;simp only[qy (ht.map kZ),mb];cases hx with|map _ og KY jD=>(obtain⟨xo,h1,h2,h3⟩:=hi.ru β _ hb;have:(getObj (ι β).b).run P w= .ok (.map ⟨xo⟩ zN) w:=by simp[getObj,C_,h1]);simp only[kf,this,mb];simp[goInt,h2]);cases hr
theorem Fs{op:BinOp}{k:IntKind}{x y:Int}{p:PV}(ZP:op≠ .shl/\op≠ .shr)(t:TypeId)(hr:Hj op k x y=some p):
  ∃u,(binOp op t (.int k x) (.int k y)).run P w= .ok u w/\RP w Im p u:=by
 unfold Hj at hr;cases op<;>simp only[reduceCtorEq]at hr;case add=>cases hr;exact⟨.int k (k.wrap (x+y)),by simp[binOp,Op.intArith],.int _ _⟩
 case sub=>cases hr;exact⟨.int k (k.wrap (x-y)),by simp[binOp,Op.intArith],.int _ _⟩
 case mul=>cases hr;exact⟨.int k (k.wrap (x*y)),by simp[binOp,Op.intArith],.int _ _⟩
 case quo=>split at hr<;>cases hr;rename_i h0;exact⟨.int k (k.wrap (x.tdiv y)),by simp[binOp,Op.intDiv,h0],.int _ _⟩
 case rem=>split at hr<;>cases hr;rename_i h0;exact⟨.int k (x.tmod y),by simp[binOp,Op.intDiv,h0],.int _ _⟩
 case eql=>cases hr;exact⟨.bool (x==y),by simp[binOp,Op.intCmp],.bool _⟩
 case neq=>cases hr;exact⟨.bool (x != y),by simp[binOp,Op.intCmp],.bool _⟩
 case lss=>cases hr;exact⟨.bool (decide (x<y)),by simp[binOp,Op.intCmp],.bool _⟩
 case leq=>cases hr;exact⟨.bool (decide (x<=y)),by simp[binOp,Op.intCmp],.bool _⟩
 case gtr=>cases hr;exact⟨.bool (decide (x>y)),by simp[binOp,Op.intCmp],.bool _⟩
 case geq=>cases hr;exact⟨.bool (decide (x>=y)),by simp[binOp,Op.intCmp],.bool _⟩
 case and=>cases hr;exact⟨_,by simp[binOp,Op.intBits],.int _ _⟩
 case or=>cases hr;exact⟨_,by simp[binOp,Op.intBits],.int _ _⟩
 case xor=>cases hr;exact⟨_,by simp[binOp,Op.intBits],.int _ _⟩
 case andNot=>cases hr;exact⟨_,by simp[binOp,Op.intBits],.int _ _⟩
theorem mY: ∀a b:List UInt8,Op.bytesLess a b=kr a b
 |[],[]=>rfl
 |_::_,[]=>rfl
 |[],_::_=>rfl
 |a::x,b::y=>by simp[Op.bytesLess,kr,mY x y]
theorem AQ{op:BinOp}{x y:List UInt8}{p:PV}(t:TypeId)(hr:Gd op x y=some p):
  ∃u,(binOp op t (.string ⟨⟨x⟩⟩) (.string ⟨⟨y⟩⟩)).run P w= .ok u w/\RP w Im p u:=by
 unfold Gd at hr;cases op<;>simp only[reduceCtorEq]at hr
 case add=>
  split at hr<;>cases hr;rename_i hl;refine⟨.string ⟨⟨x++y⟩⟩, ?_,.str _⟩;have h2:(ByteArray.mk ⟨x⟩++ByteArray.mk ⟨y⟩:ByteArray)=⟨⟨x++y⟩⟩:=by
   apply ByteArray.ext;apply I!;simp
  simp[binOp,Op.stringOp,h2];show(x.length:Int)+(y.length:Int)<=_;omega
 case eql=>cases hr;exact⟨.bool (x==y),by simp[binOp,Op.stringOp],.bool _⟩
 case neq=>cases hr;exact⟨.bool (!(x==y)),by simp[binOp,Op.stringOp],.bool _⟩
 case lss=>cases hr;exact⟨.bool (kr x y),by simp[binOp,Op.stringOp,mY],.bool _⟩
 case leq=>cases hr;exact⟨.bool (kr x y || x==y),by simp[binOp,Op.stringOp,mY],.bool _⟩
 case gtr=>cases hr;exact⟨.bool (!(kr x y || x==y)),by simp[binOp,Op.stringOp,mY],.bool _⟩
 case geq=>cases hr;exact⟨.bool (!kr x y),by simp[binOp,Op.stringOp,mY],.bool _⟩
theorem aUn_ok{op:UnOp}{x:AV}{v:Value}(hx:RA w H ι Im x v){p:PV}(hr:aUn op x=some p): ∃u,(Op.unary op v).run P w= .ok u w/\RP w Im p u:=by unfold aUn at hr;split at hr<;>cases hr;(cases hx with|pv _ _ h=>cases h;exact⟨_,by simp[Op.unary],.bool _⟩);cases hx with|pv _ _ h=>cases h;exact⟨_,by simp[Op.unary,Op.intArith],.int _ _⟩
theorem Wz(isMax:Bool)(k:IntKind): ∀(l:List AV)(a:Int)(vs:List Value),l.length=vs.length->(∀(i:Nat) x v,l[i]? =some x->vs[i]? =some v->RA w H ι Im x v)->
  ∀{p:PV},ot isMax k a l=some p-> ∃u,(vs.foldlM (if isMax then Builtin.max2 else Builtin.min2) (.int k a)).run P w= .ok u w/\RP w Im p u
 |[],a,vs,hl,_,p,h=>by
  have:vs=[]:=by simpa using hl.symm
  subst this;cases h;exact⟨.int k a,z?,.int _ _⟩
 |x::r,a,vs,hl,hR,p,h=>by
  cases vs with
  |nil=>simp at hl
  |cons v vr=>
   have hx:=hR 0 x v z? z?;cases x with
   |pv p0=>cases p0 with
    |int k' b=>
     simp only[ot]at h;cases hx with
     |pv _ _ hp=>cases hp with
      |int=>
       obtain⟨u,g1,g2⟩:=Wz isMax k r _ vr (by simpa using hl) (fun i x v h1 h2=>hR (i+1) x v (by simpa using h1) (by simpa using h2)) h;refine⟨u, ?_,g2⟩;cases isMax
       ·simp only[wH,if_false,q0k,kf,Builtin.min2,W?,mb]at g1 |-;exact g1
       simp only[if_true,q0k,kf,Builtin.max2,W?,mb]at g1 |-;exact g1
    |_=>simp[ot]at h
   |_=>simp[ot]at h
theorem zT.ptr{t:TypeId}{ti:TI}(ht:zT P t ti)(h:ti.td= .ptr): ∃e,P.underlying t=some (.pointer e):=by obtain⟨d,h1,h2⟩:=ht.und;rw[h]at h2;cases d<;>simp[Ka]at h2;exact⟨_,h1⟩
theorem zT.func{t:TypeId}{ti:TI}(ht:zT P t ti)(h:ti.td= .func): ∃a b c,P.underlying t=some (.func a b c):=by obtain⟨d,h1,h2⟩:=ht.und;rw[h]at h2;cases d<;>simp[Ka]at h2;exact⟨_,_,_,h1⟩
theorem G6{t:TypeId}{ti:TI}(ht:zT P t ti)(h:ti.isAgg=false):P.cellsOf t=1:=by
 rw[ht.cellsOf];obtain⟨i,z,h1,h2,h3,h4,h5,h6⟩:=ht.info;have hl:=ht.len;have hz:Z3 z=false:=by rw[h6];unfold q0x at h;unfold TD.isAgg;exact h
 have hc:z.cells= #[z]:=by cases z<;>simp[Z3]at hz<;>rfl
 rw[hc]at h5;have h5' :i4 [z]=some ti.zero:=h5;have one: ∀l,i4 [z]=some l->l.length=1:=by intro l h;unfold i4 at h;split at h<;>cases h;rename_i p l e1 e2;unfold i4 at e2;cases e2;rfl
 rw[<- hl];exact one _ h5'
theorem Yv{G:TypeId->Option TI}(hG: ∀t ti,G t=some ti->zT P t ti)(d:Nat)(xs ys:Array Value): ∀(fs:List Field)(i:Nat)(a b:List PV),
  aS P i fs=true->aI G (fs.map fun f=>(f.offset,P.cellsOf f.type,f.type)) a=true->
  (∀(j:Nat) p v,a[j]? =some p->xs[i+j]? =some v->RP w Im p v)->(∀(j:Nat) p v,b[j]? =some p->ys[i+j]? =some v->RP w Im p v)->
  i+a.length<=xs.size->i+b.length<=ys.size-> ∀{r:Bool},gj a b=some r->(Op.eqFields (d+1) xs ys fs).run P w= .ok r w
 |[],i,a,b,_,hl,_,_,_,_,r,h=>by cases a with|cons p a=>simp[aI]at hl|nil=>cases b<;>simp[gj]at h;subst h;simp[Op.eqFields]
 |f::fs,i,a,b,hp,hl,ha,hb,Ek,hys,r,h=>by
  simp only[aS,zU,bne_iff_ne,ne_eq,beq_iff_eq]at hp;obtain⟨⟨hn,oX⟩,hp⟩:=hp;cases a with
  |nil=>simp[aI]at hl
  |cons p a=>
  simp only[d?,aI,zU]at hl;obtain⟨Hg,hl⟩:=hl;split at Hg;rotate_left
  ·cases Hg
  rename_i tif htif;have htf:=hG _ _ htif;cases b with
  |nil=>cases p<;>simp[gj]at h
  |cons q b=>
  simp only[b?]at Ek hys;obtain⟨x,hx⟩: ∃x,xs[i]? =some x:=⟨xs[i]'(o?),z?⟩;obtain⟨y,hy⟩: ∃y,ys[i]? =some y:=⟨ys[i]'(o?),z?⟩;have hpx:=ha 0 p x z? (by simpa using hx);have hqy:=hb 0 q y z? (by simpa using hy);have hagg:tif.isAgg=false:=by
   unfold q0x;cases jF:tif.td<;>simp[k8,jF]at Hg |-
  rw[G6 htf hagg]at hp;have rest: ∀{t:Bool},gj a b=some t->(Op.eqFields (d+1) xs ys fs).run P w= .ok t w:=fun ht=>
   Yv hG d xs ys fs (i+1) a b hp hl (fun j p v h1 h2=>ha (j+1) p v (by simpa using h1) (by rwa[show i+(j+1)=i+1+j from o?]))
    (fun j p v h1 h2=>hb (j+1) p v (by simpa using h1) (by rwa[show i+(j+1)=i+1+j from o?])) o? o? ht
  have part1: ∀(cs:Array Value)(v:Value),cs[i]? =some v->(part f.type cs f.offset).run P w= .ok v w:=by
   intro cs v hv;unfold part;simp only[oX,kf,htf.isAgg,hagg,mb,wH,if_false,hv,W?]
  have step: ∀(t u:Bool),(Op.equalIn (d+1) f.type x y).run P w= .ok t w->gj a b=some u->(Op.eqFields (d+1) xs ys (f::fs)).run P w= .ok (t&&u) w:=by
   intro t u h1 h2;simp only[Op.eqFields,hn,not_false_eq_true,ne_eq,if_true,kf,part1 xs x hx,part1 ys y hy,mb,h1];cases t
   ·simp
   simp[rest h2]
  cases p with
  |int k n=>cases q with
   |int k' n' =>
    simp only[gj]at h;split at h;rotate_left
    ·cases h
    rename_i hk;subst hk;split at h<;>cases h;rename_i t ht;refine step _ _ ?_ ht;cases hpx;cases hqy;obtain⟨k0,jF⟩: ∃k0,tif.td= .int k0:=by cases jF:tif.td<;>simp[k8,jF]at Hg |-
    exact run_equalIn_int w d f.type k k0 n n' (htf.int jF)
   |_=>simp[gj]at h
  |str s=>cases q with
   |str s' =>
    simp only[gj]at h;split at h<;>cases h;rename_i t ht;refine step _ _ ?_ ht;cases hpx;cases hqy;have jF:tif.td= .string:=by cases jF:tif.td<;>simp[k8,jF]at Hg |-
    have:=run_equalIn_string w d f.type ⟨⟨s⟩⟩ ⟨⟨s'⟩⟩ (htf.string jF);simpa using this
   |_=>simp[gj]at h
  |bool x1=>cases q with
   |bool x2=>
    simp only[gj]at h;split at h<;>cases h;rename_i t ht;refine step _ _ ?_ ht;cases hpx;cases hqy;have jF:tif.td= .bool:=by cases jF:tif.td<;>simp[k8,jF]at Hg |-
    exact run_equalIn_bool' w d f.type x1 x2 (htf.bool jF)
   |_=>simp[gj]at h
  |_=>simp[gj]at h
def QW:Value->Bool
 | .bool _| .agg _| .slice _ _ _| .pointer _| .map _| .func _ _ _| .nilFunc=>true
 |_=>false
theorem binOp_eql{t:TypeId}{x y:Value}(h:QW x=true):(binOp .eql t x y).run P w=((Op.equal t x y).run P w).andThen fun b w' => .ok (.bool b) w' :=by cases x<;>simp[QW]at h<;>simp[binOp]
theorem binOp_neq{t:TypeId}{x y:Value}(h:QW x=true):(binOp .neq t x y).run P w=((Op.equal t x y).run P w).andThen fun b w' => .ok (.bool (!b)) w' :=by cases x<;>simp[QW]at h<;>simp[binOp]
theorem QG(d:Nat){t e:TypeId}(hu:P.underlying t=some (.slice e))(a:Option Addr)(n c n' c' :Nat):
  (Op.equalIn (d+1) t (.slice a n c) (.slice none n' c')).run P w= .ok a.isNone w/\(Op.equalIn (d+1) t (.slice none n' c') (.slice a n c)).run P w= .ok a.isNone w:=by cases a<;>simp[Op.equalIn,qy hu]
theorem Jd(d:Nat){t e:TypeId}(hu:P.underlying t=some (.pointer e))(a:Option Addr):
  (Op.equalIn (d+1) t (.pointer a) (.pointer none)).run P w= .ok a.isNone w/\(Op.equalIn (d+1) t (.pointer none) (.pointer a)).run P w= .ok a.isNone w:=by cases a<;>simp[Op.equalIn,qy hu]
theorem Jc(d:Nat){t k e:TypeId}(hu:P.underlying t=some (.map k e))(a:Option Nat):
  (Op.equalIn (d+1) t (.map a) (.map none)).run P w= .ok a.isNone w/\(Op.equalIn (d+1) t (.map none) (.map a)).run P w= .ok a.isNone w:=by cases a<;>simp[Op.equalIn,qy hu]
theorem oe(d:Nat){t:TypeId}{p1 p2 p3}(hu:P.underlying t=some (.func p1 p2 p3))(f:Fn)(a b:Array Value):
  (Op.equalIn (d+1) t (.func f a b) .nilFunc).run P w= .ok false w/\(Op.equalIn (d+1) t .nilFunc (.func f a b)).run P w= .ok false w/\
  (Op.equalIn (d+1) t .nilFunc .nilFunc).run P w= .ok true w:=by simp[Op.equalIn,qy hu]
theorem II{G:TypeId->Option TI}(hG: ∀t ti,G t=some ti->zT P t ti){t:TypeId}{ti:TI}(ht:zT P t ti)(hi:zf w H ι Im){x y:AV}{vx vy:Value}
  (hx:RA w H ι Im x vx) (hy:RA w H ι Im y vy) (ox oy:Operand) {r:Bool} (hr:aEq G ti x y H=some r):
  (eqGuard .eql t ox oy vx vy).run P w= .ok () w/\(eqGuard .neq t ox oy vx vy).run P w= .ok () w/\(Op.equal t vx vy).run P w= .ok r w/\QW vx=true:=by
 have sN: ∀(vx vy:Value),(∀ c d,¬ (vx= .agg c/\vy= .agg d))-> ¬(vx= .nilIface/\vy= .nilIface)-> ∀op,(eqGuard op t ox oy vx vy).run P w= .ok () w:=by intro vx vy h1 h2 op;unfold eqGuard;cases vx<;>cases vy<;>simp_all
 unfold aEq at hr;split at hr;(rename_i jF;split at hr<;>cases hr;rename_i b1 b2;cases hx with|pv _ _ hx=>cases hy with|pv _ _ hy=>cases hx;cases hy;refine⟨sN _ _ z? z? _,sN _ _ z? z? _, ?_⟩;exact⟨run_equalIn_bool' w 9999 t b1 b2 (ht.bool jF),rfl⟩)
 ·rename_i fs jF;obtain⟨fields,hu,rfl⟩:=ht.struct jF;split at hr;rotate_left;cases hr;rename_i a b;split at hr;rotate_left;cases hr
  rename_i hc;obtain⟨heq,rI⟩:=hc;have hek:=ht.eqk;rw[heq]at hek;have hek:=hek.symm;unfold eqok at hek;rw[hu]at hek;simp only[zU,Bool.not_eq_true']at hek;obtain⟨⟨e1,e2⟩,e3⟩:=hek;cases hx with|pv _ _ hx=>cases hy with|pv _ _ hy=>
  cases hx with|agg _ xs hlx _ hxx=>cases hy with|agg _ ys hly _ hyy=>
  (refine⟨run_eqGuard_agg w .eql t ox oy _ _ e2,run_eqGuard_agg w .neq t ox oy _ _ e2, ?_,rfl⟩;have hfo:P.underlying t=some (.struct (P.fieldsOf t)):=by simp[Program.fieldsOf,hu]);have hfe:P.fieldsOf t=fields:=by simp[Program.fieldsOf,hu]
  have:=run_equalIn_struct w 9999 t ⟨xs⟩ ⟨ys⟩ hfo e1;unfold Op.equal;show(Op.equalIn (9999+1) t _ _).run P w=_;rw[this,hfe];exact Yv hG 9998 ⟨xs⟩ ⟨ys⟩ fields.toList 0 a b e3 rI (fun j p v h1 h2=>hxx j p v h1 (by simpa using h2)) (fun j p v h1 h2=>hyy j p v h1 (by simpa using h2))
   (by simp[hlx]) (by simp[hly]) hr
 rename_i td hnb Fc;have nilOf: ∀{z:AV}{vz:Value},RA w H ι Im z vz-> ∀{q:Bool},dd ti.td z H=some q->
   (∃ e,ti.td= .slice e/\ ∃a n c,vz= .slice a n c/\a.isNone=q)\/(ti.td= .ptr/\ ∃a,vz= .pointer a/\a.isNone=q)\/
   ((∃ k e,ti.td= .map k e)/\ ∃a,vz= .map a/\a.isNone=q)\/(ti.td= .func/\((vz= .nilFunc/\q=true)\/ ∃f a b,vz= .func f a b/\q=false)):=by
  intro z vz hz q hq;unfold dd at hq;split at hq
  ·rename_i jF;refine .inr (.inl ⟨jF, ?_⟩);split at hq<;>cases hq
   ·cases hz with|pv _ _ h=>cases h;exact⟨_,rfl,rfl⟩
   ·cases hz;exact⟨_,rfl,rfl⟩
   ·cases hz;exact⟨_,rfl,rfl⟩
   ·cases hz;exact⟨_,rfl,rfl⟩
   cases hz with|pv _ _ h=>cases h;exact⟨_,rfl,rfl⟩
  ·rename_i e jF;refine .inl ⟨e,jF, ?_⟩;split at hq
   ·cases hq;cases hz with|pv _ _ h=>
    cases h
    ·exact⟨_,_,_,rfl,rfl⟩
    exact⟨_,_,_,rfl,rfl⟩
   ·cases hq;cases hz;exact⟨_,_,_,rfl,rfl⟩
   ·rename_i β xm off n;split at hq;rotate_left
    ·cases hq
    rename_i qw sz es hb;split at hq<;>cases hq;rename_i hv;obtain⟨a,c,rfl,hn⟩:=hz.G3 hi hb hv;exact⟨_,_,_,rfl,hn⟩
   cases hq
  ·rename_i k e jF;refine .inr (.inr (.inl ⟨⟨k,e,jF⟩, ?_⟩));split at hq<;>cases hq
   ·cases hz with|pv _ _ h=>cases h;exact⟨_,rfl,rfl⟩
   cases hz;exact⟨_,rfl,rfl⟩
  ·rename_i jF;refine .inr (.inr (.inr ⟨jF, ?_⟩));split at hq<;>cases hq
   ·cases hz with|pv _ _ h=>cases h;exact .inl ⟨rfl,rfl⟩
   ·cases hz with|pv _ _ h=>cases h;exact .inr ⟨_,_,_,rfl,rfl⟩
   cases hz;exact .inr ⟨_,_,_,rfl,rfl⟩
  cases hq
 have isNil: ∀{z:AV}{vz:Value},RA w H ι Im z vz->Wu ti.td z=true->dd ti.td z H=some true:=by intro z vz hz h;unfold Wu at h;split at h<;>rename_i h1<;>first|(rw [h1];rfl)|cases h
 have main: ∀{z z' :AV}{vz vz' :Value},RA w H ι Im z vz->RA w H ι Im z' vz' ->dd ti.td z H=some r->dd ti.td z' H=some true->
   (∀ c d,¬ (vz= .agg c/\vz' = .agg d))/\(∀ c d,¬ (vz' = .agg c/\vz= .agg d))/\ ¬(vz= .nilIface/\vz' = .nilIface)/\ ¬(vz' = .nilIface/\vz= .nilIface)/\
   (Op.equal t vz vz').run P w= .ok r w/\(Op.equal t vz' vz).run P w= .ok r w/\QW vz=true/\QW vz' =true:=by
  intro z z' vz vz' hz hz' h1 h2;have g1:=nilOf hz h1;have g2:=nilOf hz' h2;unfold Op.equal;rcases g1 with ⟨e,jF,a,n,c,rfl,hn⟩|⟨jF,a,rfl,hn⟩|⟨⟨k,e,jF⟩,a,rfl,hn⟩|⟨jF,g1⟩
  ·rcases g2 with ⟨e',kZ,a',n',c',rfl,Fb⟩|⟨kZ,_⟩|⟨⟨k',e',kZ⟩,_⟩|⟨kZ,_⟩;rotate_left
   ·rw[jF]at kZ;cases kZ
   ·rw[jF]at kZ;cases kZ
   ·rw[jF]at kZ;cases kZ
   have:a' =none:=by simpa using Fb
   subst this hn;exact⟨z?,z?,z?,z?,(QG 9999 (ht.slice jF) a n c n' c').1,(QG 9999 (ht.slice jF) a n c n' c').2,rfl,rfl⟩
  ·obtain⟨e,hu⟩:=ht.ptr jF;rcases g2 with ⟨e',kZ,_⟩|⟨kZ,a',rfl,Fb⟩|⟨⟨k',e',kZ⟩,_⟩|⟨kZ,_⟩
   ·rw[jF]at kZ;cases kZ
   rotate_left
   ·rw[jF]at kZ;cases kZ
   ·rw[jF]at kZ;cases kZ
   have:a' =none:=by simpa using Fb
   subst this hn;exact⟨z?,z?,z?,z?,(Jd 9999 hu a).1,(Jd 9999 hu a).2,rfl,rfl⟩
  ·rcases g2 with ⟨e',kZ,_⟩|⟨kZ,_⟩|⟨⟨k',e',kZ⟩,a',rfl,Fb⟩|⟨kZ,_⟩
   ·rw[jF]at kZ;cases kZ
   ·rw[jF]at kZ;cases kZ
   rotate_left
   ·rw[jF]at kZ;cases kZ
   have:a' =none:=by simpa using Fb
   subst this hn;exact⟨z?,z?,z?,z?,(Jc 9999 (ht.map jF) a).1,(Jc 9999 (ht.map jF) a).2,rfl,rfl⟩
  obtain⟨p1,p2,p3,hu⟩:=ht.func jF;rcases g2 with ⟨e',kZ,_⟩|⟨kZ,_⟩|⟨⟨k',e',kZ⟩,_⟩|⟨kZ,g2⟩
  ·rw[jF]at kZ;cases kZ
  ·rw[jF]at kZ;cases kZ
  ·rw[jF]at kZ;cases kZ
  rcases g2 with ⟨rfl,_⟩|⟨_,_,_,_,h⟩;rotate_left
  ·cases h
  rcases g1 with ⟨rfl,rfl⟩|⟨f,a,b,rfl,rfl⟩
  ·have:=(oe (P:=P) (w:=w) 9999 hu (.func 0) #[] #[]).2.2;exact⟨z?,z?,z?,z?,this,this,rfl,rfl⟩
  exact⟨z?,z?,z?,z?,(oe 9999 hu f a b).1,(oe 9999 hu f a b).2.1,rfl,rfl⟩
 split at hr;rename_i hn;obtain⟨m1,m2,m3,m4,m5,m6,m7,m8⟩:=main hx hy hr (isNil hy hn);exact⟨sN _ _ m1 m3 _,sN _ _ m1 m3 _,m5,m7⟩;split at hr;rename_i hn;obtain⟨m1,m2,m3,m4,m5,m6,m7,m8⟩:=main hy hx hr (isNil hx hn);exact⟨sN _ _ m2 m4 _,sN _ _ m2 m4 _,m6,m8⟩;cases hr
theorem aBin_ok{G:TypeId->Option TI}(hG: ∀t ti,G t=some ti->zT P t ti){t:TypeId}{ti:TI}(ht:zT P t ti)(hi:zf w H ι Im){x y:AV}{vx vy:Value}
  (hx:RA w H ι Im x vx) (hy:RA w H ι Im y vy) (op:BinOp) (ox oy:Operand) {p:PV} (hr:Pq G op ti x y H=some p):
  ∃u,(eqGuard op t ox oy vx vy).run P w= .ok () w/\(binOp op t vx vy).run P w= .ok u w/\RP w Im p u:=by
 have Ws: ∀(k k' :IntKind)(a b:Int)(op:BinOp),(eqGuard op t ox oy (.int k a) (.int k' b)).run P w= .ok () w:=by intro k k' a b op;unfold eqGuard;cases op<;>simp
 have strGuard: ∀(a b:ByteArray)(op:BinOp),(eqGuard op t ox oy (.string a) (.string b)).run P w= .ok () w:=by intro a b op;unfold eqGuard;cases op<;>simp
 unfold Pq at hr;split at hr;{split at hr;rotate_left;cases hr;rename_i k a k' b;split at hr<;>cases hr;rename_i h0;cases hx with|pv _ _ hx=>cases hy with|pv _ _ hy=>cases hx;cases hy;have: ¬b<0:=o?;exact⟨_,Ws _ _ _ _ _,by simp[binOp,Op.shift,this],.int _ _⟩};{split at hr;rotate_left;cases hr;rename_i k a k' b;split at hr<;>cases hr;rename_i h0;cases hx with|pv _ _ hx=>cases hy with|pv _ _ hy=>cases hx;cases hy;have: ¬b<0:=o?;exact⟨_,Ws _ _ _ _ _,by simp[binOp,Op.shift,this],.int _ _⟩};rename_i h1 h2;split at hr;{rename_i k a k' b;split at hr;rotate_left;cases hr;rename_i hk;subst hk;cases hx with|pv _ _ hx=>cases hy with|pv _ _ hy=>cases hx;cases hy;obtain⟨u,g1,g2⟩:=Fs (P:=P) (w:=w) (Im:=Im) ⟨h1,h2⟩ t hr;exact⟨u,Ws _ _ _ _ _,g1,g2⟩};(cases hx with|pv _ _ hx=>cases hy with|pv _ _ hy=>cases hx;cases hy;obtain⟨u,g1,g2⟩:=AQ (P:=P) (w:=w) (Im:=Im) t hr;exact⟨u,strGuard _ _ _,g1,g2⟩);rename_i x y hni Fc;split at hr;split at hr<;>cases hr;rename_i b hb;obtain⟨g1,g2,g3,g4⟩:=II hG ht hi hx hy ox oy hb;exact⟨.bool b,g1,by rw[binOp_eql g4,g3];rfl,.bool _⟩;split at hr<;>cases hr;rename_i b hb;obtain⟨g1,g2,g3,g4⟩:=II hG ht hi hx hy ox oy hb;exact⟨.bool (!b),g2,by rw[binOp_neq g4,g3];rfl,.bool _⟩;cases hr
end
section
variable [xn] {P:Program} {w:World} {H:qp} {ι:yv} {Im:Nat->Prop}
theorem RA.gO{p:PV}{v:Value}(h:RA w H ι Im (.pv p) v):RP w Im p v:=by cases h;assumption
theorem KR: ∀(es:List (List PV))(l:List UInt8),mZ es=some l-> ∀(cs:Nat->Option Value)(k:Nat),(∀(i:Nat) e(j:Nat) p,es[i]? =some e->e[j]? =some p-> ∃v,cs (k+i)=some v/\RP w Im p v/\j=0)->
  es.length=l.length/\ ∀i,i<es.length-> ∃n:Int,cs (k+i)=some (.int .u8 n)/\l[i]? =some (UInt8.ofNat n.toNat)
 |[],l,h,cs,k,_=>by simp only[mZ,wd]at h;subst h;simp
 |e::r,l,h,cs,k,hc=>by
  unfold mZ at h;split at h;cases ‹_::_=[]›
  ·rename_i n r' heq;obtain⟨rfl,rfl⟩:e=[.int .u8 n]/\r=r' :=by simpa using heq
   split at h<;>cases h;rename_i l' hl;obtain⟨h1,h2⟩:=KR r l' hl cs (k+1) (fun i e j p a b=>by
    have:=hc (i+1) e j p (by simpa using a) b
    rwa[show k+(i+1)=k+1+i from o?]at this)
   refine⟨by simp[h1],fun i hi=>?_⟩;cases i with|zero=>obtain⟨v,g1,g2,_⟩:=hc 0 [.int .u8 n] 0 (.int .u8 n) z? z?;cases g2;exact⟨n,g1,z?⟩|succ i=>simp only[b?]at hi;obtain⟨n',g1,g2⟩:=h2 i o?;exact⟨n',by rwa[show k+(i+1)=k+1+i from o?],by simpa using g2⟩
  cases h
theorem QO(g:Value->ByteArray->Sem (ForInStep ByteArray))(hg: ∀n s,g (.int .u8 n) s=pure (.yield (s.push (UInt8.ofNat n.toNat)))):
  ∀(l:List Value)(acc:ByteArray)(out:List UInt8),l.length=out.length->
  (∀(i:Nat) v b,l[i]? =some v->out[i]? =some b-> ∃n:Int,v= .int .u8 n/\b=UInt8.ofNat n.toNat)->
  (forIn l acc g).run P w= .ok ⟨⟨acc.data.toList++out⟩⟩ w
 |[],acc,out,hl,_=>by (have:out=[]:=by simpa using hl.symm);subst this;simp
 |v::r,acc,out,hl,h=>by cases out with|nil=>simp at hl|cons b out=>obtain⟨n,rfl,rfl⟩:=h 0 v b z? z?;have ih:=QO g hg r (acc.push (UInt8.ofNat n.toNat)) out (by simpa using hl) (fun i v b h1 h2=>h (i+1) v b (by simpa using h1) (by simpa using h2));simp only[List.forIn_cons,hg,kf,Sem.run_pure,mb,ih];simp
theorem BI{src dst:TypeId}{d1:TypeDesc}{k:IntKind}(h1:P.underlying src=some d1)(h2:P.underlying dst=some (.int k))(kd:IntKind)(n:Int):
  (convert src dst (.int kd n)).run P w= .ok (.int k (k.wrap n)) w:=by unfold convert;simp only[kf,qy h1,qy h2,mb];rfl
theorem BJ{src dst:TypeId}{d1:TypeDesc}(h1:P.underlying src=some d1)(h2:P.underlying dst=some .string)(s:ByteArray):
  (convert src dst (.string s)).run P w= .ok (.string s) w:=by unfold convert;simp only[kf,qy h1,qy h2,mb];rfl
theorem VP{src dst e:TypeId}(h1:P.underlying src=some (.slice e))(h2:P.underlying dst=some .string)(h3:P.underlying e=some (.int .u8))(a:Option Addr)(n c:Nat):
  (convert src dst (.slice a n c)).run P w=(Conv.bytesToString (.slice a n c)).run P w:=by unfold convert;simp only[kf,qy h1,qy h2,mb,qy h3]
theorem JN{src dst e:TypeId}{d1:TypeDesc}(h1:P.underlying src=some d1)(h2:P.underlying dst=some (.slice e))(h3:P.underlying e=some (.int .u8))(s:ByteArray):
  (convert src dst (.string s)).run P w=(Conv.stringToBytes e s).run P w:=by unfold convert;simp only[kf,qy h1,qy h2,mb,qy h3]
theorem zT.undS{t:TypeId}{ti:TI}(ht:zT P t ti): ∃d,P.underlying t=some d:=by obtain⟨d,h,_⟩:=ht.und;exact⟨d,h⟩
theorem Bb{G:TypeId->Option TI}(hG: ∀t ti,G t=some ti->zT P t ti){src dst:TypeId}{ts td:TI}(hs:zT P src ts)(hd:zT P dst td)
  (hi:zf w H ι Im) {nx:Nat} {X:Nat->Prop} (jf:Bd X H nx) {x:AV} {v:Value} (hx:RA w H ι Im x v) {r:my} (hr:rD ts.td td.td G x H nx=some r) (hX: ∀γ,X γ->r.2.2<=γ):
  ∃u w',(convert src dst v).run P w= .ok u w' /\tA X w H ι Im nx r u w' :=by
 obtain⟨d1,hu1⟩:=hs.undS;unfold rD at hr;split at hr;rename_i k kd n jF;cases hr;have h:=hx.gO;cases h;exact⟨.int k (k.wrap n),w,BI hu1 (hd.int jF) _ _,tA.pure hi jf (.pv _ _ (.int _ _))⟩;rename_i s jF;cases hr;have h:=hx.gO;cases h;exact⟨_,w,BJ hu1 (hd.string jF) _,tA.pure hi jf (.pv _ _ (.str _))⟩
 ·rename_i e Fc htd1 htd2;split at hr;rotate_left;cases hr;rename_i te dy;have sJ:=hG _ _ dy;split at hr;rotate_left;cases hr;rename_i htde;split at hr;rotate_left;cases hr;rename_i rz es rJ;split at hr;rotate_left;cases hr;(rename_i Fm;split at hr<;>cases hr;rename_i l hl;have hsl: ∃a n c,v= .slice a n c:=by unfold yN at rJ;split at rJ;have h:=hx.gO;cases h<;>exact⟨_,_,_,rfl⟩;cases hx;exact⟨_,_,_,rfl⟩;{rename_i β xm off n;split at rJ;rotate_left;cases rJ;rename_i qw sz og hb;split at rJ;rotate_left;cases rJ;rename_i hv;obtain⟨a,c,h,_⟩:=hx.G3 hi hb hv;exact⟨_,_,_,h⟩};rename_i s;exact absurd rfl (by first|exact Fc _|exact htd1 _|exact htd2 _|skip);cases rJ);obtain⟨a,n,c,rfl⟩:=hsl;obtain⟨l1,l2⟩:=tR (P:=P) hi hx rJ;obtain⟨cs,f1,f2,f3⟩:=l2 1 Fm;have hn:n=es.length:=by simp[Builtin.lenOf]at l1;exact l1
  subst hn;obtain⟨k1,k2⟩:=KR (w:=w) (Im:=Im) es l hl (fun i=>cs[i]?) 0 (fun i e j p q1 q2=>by
   obtain⟨v0,g1,g2⟩:=f3.2.2 i e j p q1 q2
   have h1:=f3.1 e (zc q1)
   have h2:=(qL q2).1
   have:j=0:=o?
   subst this
   exact⟨v0,by simpa using g1,g2,rfl⟩)
  refine⟨.string ⟨⟨l⟩⟩,w, ?_,tA.pure hi jf (.pv _ _ (.str _))⟩;rw[VP (hs.slice ‹_›) (hd.string ‹_›) (sJ.int htde)];unfold Conv.bytesToString;cases a with
   |none=>(have Sp:cs= #[]:=by simp[Builtin.firstCells]at f1;first|exact f1.symm|exact f1);(subst Sp;have:es=[]:=by (have:es.length=0:=by simpa using f2.symm);simpa using this);(subst this;have:l=[]:=by simpa using k1.symm);subst this;rfl
   |some a=>
    have hld:(loadCells a es.length).run P w= .ok cs w:=by simpa[Builtin.firstCells]using f1
    have Sp:cs.toList.length=l.length:=v?;have:=fun g hg=>QO (P:=P) (w:=w) g hg cs.toList ByteArray.empty l Sp (fun i v b q1 q2=>by
     have eo:i<es.length:=by
      have:=(qL q1).1
      omega
     obtain⟨m,g1,g2⟩:=k2 i eo
     have q1' :cs[i]? =some v:=by simpa using q1
     simp only[Nat.zero_add,q1']at g1
     rw[q2]at g2
     exact⟨m,Option.some.inj g1,Option.some.inj g2⟩)
    simp only[kf,hld,mb];rw[<- Array.forIn_toList,this _ (fun n s=>rfl)];rfl
 ·rename_i e s jF;split at hr;rotate_left;cases hr;rename_i te dy;have sJ:=hG _ _ dy;split at hr<;>cases hr;rename_i htde;have h:=hx.gO;cases h;let cap:Nat:=Question.cut (.appendCap s.length 0 e) (w.tape w.drawn (.appendCap s.length 0 e));(have JV:s.length<=cap:=by simp[cap,Question.cut]);let cs:Array Value:=(⟨s⟩:Array UInt8).map (fun b=>Value.int .u8 b.toNat)++Array.replicate (cap-s.length) (.int .u8 0);(have ml:cs.size=cap:=by simp[cs];omega);refine⟨.slice (some ⟨w.heap.size,0,none⟩) s.length cap, { vI w with heap:=w.heap.push (.cells cs e (cs.size,cs.size+1)) }, ?_, ?_⟩;(rw[JN hu1 (hd.slice jF) (sJ.int htde)];unfold Conv.stringToBytes;have VT:(choose (Question.appendCap (ByteArray.mk ⟨s⟩).size 0 e)).run P w= .ok cap (vI w):=by have:(ByteArray.mk ⟨s⟩).size=s.length:=rfl;rw[this];simp[choose,Sem.run,Question.forced,cap,vI]);(have hmark:(markStringish ⟨w.heap.size,0,none⟩).run P { vI w with heap:=w.heap.push (.cells cs e) }= .ok () { vI w with heap:=w.heap.push (.cells cs e (cs.size,cs.size+1)) }:=by (unfold markStringish;have h1:(World.shape? { vI w with heap:=w.heap.push (.cells cs e) } w.heap.size)=some (e,cs.size):=by simp[World.shape?]);simp only[kf,run_shape,mb,h1,run_freeze];simp[World.freeze,vI];apply Array.ext;simp;intro i h1 h2;simp at h1;simp only[Array.getElem_modify,Array.getElem_push];split;rename_i h;subst h;simp;rename_i h;simp[show i<w.heap.size from o?]);have e1:(ByteArray.mk ⟨s⟩).size=s.length:=rfl;simp only[kf,VT,mb,newRow,run_newObj,Sem.run_pure];have e2:(vI w).heap=w.heap:=rfl;simp only[e2,e1];have:=hmark;simp only[cs,e1]at this |-;rw[this];rfl
  have:=Kn hi jf (aQ hX) 1 (s.map fun b=>[PV.int .u8 b.toNat]) cs e (cs.size,cs.size+1) cap { vI w with heap:=w.heap.push (.cells cs e (cs.size,cs.size+1)) } rfl ⟨rfl,rfl⟩
   ⟨z?,fun i uj h=>by simp at h;omega⟩ o? (by simp[ml]) (by simpa using JV) (by
    refine⟨fun e0 Gu=>?_,fun i e0 j p q1 q2=>?_,fun i e0 j p q1 q2=>?_⟩
    ·simp only[List.mem_map]at Gu
     obtain⟨b,_,rfl⟩:=Gu
     rfl
    ·simp only[List.getElem?_map,yZ]at q1
     obtain⟨b,_,rfl⟩:=q1
     cases j with
     |zero=>simp at q2;subst q2;rfl
     |succ j=>simp at q2
    simp only[List.getElem?_map,yZ]at q1
    obtain⟨b,hb,rfl⟩:=q1
    cases j with
    |zero=>
     simp at q2
     subst q2
     refine⟨.int .u8 b.toNat, ?_,.int _ _⟩
     have eo:=(qL hb).1
     simp only[cs]
     rw[Array.getElem?_append_left v?]
     simp[hb]
    |succ j=>simp at q2)
  simpa using this
 cases hr
theorem qp.HO: ∀{H:qp}{β:Nat}{b:qJ},H.get β=some b->H.put β b=H
 |[],_,_,h=>by cases h
 |(i,v)::r,β,b,h=>by simp only[L!]at h;simp only[k_];split;rename_i hi;rw[if_pos hi]at h;cases h;rw[hi];rename_i hi;rw[if_neg hi]at h;rw[qp.HO h]
theorem UJ{G:GP}(hG: ∀t ti,G.ti t=some ti->zT P t ti){t:TypeId}
  (hi:zf w H ι Im) {nx:Nat} {X:Nat->Prop} (jf:Bd X H nx) {x:AV} {v:Value} (hx:RA w H ι Im x v) {r:my} (hr:tU G t x H nx=some r):
  ∃u w',(convert t t v).run P w= .ok u w' /\tA X w H ι Im nx r u w' :=by unfold tU at hr;cases hr
end
section
variable [xn] {P:Program} {w:World} {H:qp} {ι:yv} {Im:Nat->Prop}
theorem B6{ts tx e:TypeId}{ti te oJ:TI}(Ki:zT P ts ti)(jF:ti.td= .slice e)(dy:zT P e te)(K0:zT P tx oJ)
  (ZR:(∃ e',oJ.td= .slice e')\/oJ.td= .string) (tt:TypeId) (hi:zf w H ι Im) {nx:Nat} {X:Nat->Prop} (jf:Bd X H nx)
  {x y:AV} {vx vy:Value} (hx:RA w H ι Im x vx) (hy:RA w H ι Im y vy) {r:my} (hr:bA e te x y H nx=some r):
  ∃u w',(Builtin.append_ #[ts,tx] tt #[vx,vy]).run P w= .ok u w' /\tA X w H ι Im nx r u w' :=by unfold bA at hr;cases hr
theorem VK{x:AV}{v:Value}(hx:RA w H ι Im x v)(hi:zf w H ι Im){nx:Nat}{X:Nat->Prop}(jf:Bd X H nx){r:my}(hr:tD x H nx=some r)(cu:Array TypeId)(tt:TypeId):
  ∃u w',(Builtin.unsafeSliceData_ cu tt #[v]).run P w= .ok u w' /\tA X w H ι Im nx r u w' :=by unfold tD at hr;cases hr
theorem Xt{tp el:TypeId}{cu:Array TypeId}(h0:cu[0]? =some tp){ti:TI}(ht:zT P tp ti)(MO:ti.pe=some el)(Jn:P.cellsOf el=1){p x:AV}{vp vx:Value}(hp:RA w H ι Im p vp)(hx:RA w H ι Im x vx)(hi:zf w H ι Im)
  {nx:Nat} {X:Nat->Prop} (jf:Bd X H nx) {r:my} (hr:gH el p x H nx=some r) (tt:TypeId):
  ∃u w',(Builtin.unsafeString_ cu tt #[vp,vx]).run P w= .ok u w' /\tA X w H ι Im nx r u w' :=by unfold gH at hr;cases hr
end
section
variable [xn] {P:Program} {w:World} {H:qp} {ι:yv} {Im:Nat->Prop}
theorem XY{w' :World}{H' :qp}{ι' :yv}{β γ fv:Nat}{ds:List Nat}{es:List PV}{ks:List Sk}(dg:(ι' β).ks=ks++[.leaf]){ee:Array Value}{elem:TypeId}{fz:Nat×Nat}
  (h1:w'.heap[(ι' β).b]? =some (.cells ee elem fz)) (h2:wQ fz ee.size) (h3:ee.size=(ι' β).cap) (h4:es.length+1<=(ι' β).cap) (h5:ks.length=es.length)
  (h6:((ι' β).b::ks.flatMap k!).Nodup) (h7: ∀x∈ks.flatMap k!,x<w'.heap.size)
  (h8: ∀(i:Nat) p k,es[i]? =some p->ks[i]? =some k-> ∃v,ee[i]? =some v/\oV w' Im ds p v k) {v0:Value} (h9:ee[es.length]? =some v0) (h10:RA w' H' ι' Im (.row γ fv 0 fv) v0):
  rA w' H' ι' Im β (.kj false ds (es++[.sl true 0 []]) (some (es.length,γ,fv))):=by
 have ZN:(ks++[Sk.leaf]).flatMap k!=ks.flatMap k!:=by simp[k!]
 refine⟨ee,elem,fz,h1,h2,h3,by simpa using h4,by rw[dg];simp[h5],by rw[dg,ZN];exact h6,by rw[dg,ZN];exact h7,fun j γ' xm hf=>by cases hf;simp,fun i p k hp hk=>?_⟩;rw[dg]at hk;by_cases hi:i<es.length;rw[t? hi]at hp;rw[t? o?]at hk;obtain⟨v,k1,k2⟩:=h8 i p k hp hk;exact⟨v,k1,fun _=>k2,fun γ' xm hf=>by cases hf;omega⟩;have MQ:i=es.length:=by have:=(qL hp).1;simp at this;omega
 subst MQ;refine⟨v0,h9,fun h=>absurd rfl (h _ _ _ rfl),fun γ' xm hf=>?_⟩;cases hf;rw[J? o?,h5]at hk;simp at hk;exact⟨hk.symm,h10⟩
theorem B5{ts tx e:TypeId}{ti te oJ:TI}(Ki:zT P ts ti)(jF:ti.td= .slice e)(dy:zT P e te)(K0:zT P tx oJ)
  (ZR:(∃ e',oJ.td= .slice e')\/oJ.td= .string) (tt:TypeId) (hi:zf w H ι Im) {nx:Nat} {X:Nat->Prop} (jf:Bd X H nx)
  {x y:AV} {vx vy:Value} (hx:RA w H ι Im x vx) (hy:RA w H ι Im y vy) {r:my} (hr:nP te x y H nx=some r):
  ∃u w',(Builtin.append_ #[ts,tx] tt #[vx,vy]).run P w= .ok u w' /\tA X w H ι Im nx r u w' :=by
 unfold nP at hr;split at hr;rotate_left;cases hr;rename_i rz γ fv fn rJ;split at hr;rotate_left;cases hr;rename_i β xm off n;split at hr;rotate_left;cases hr
 rename_i qw ds es hb;split at hr<;>cases hr;rename_i hc;obtain⟨jJ,rfl,rfl,rfl,T7,rfl,bk⟩:=hc;obtain⟨l1,cs,f1,f2,f3⟩:=Qh (P:=P) hi hy rJ;have hxx:=hx;cases hx with
  |row _ _ _ _ _ b ho jD hk hv hh=>(rw[hb]at jD;cases jD;obtain⟨h1,h2⟩:=hh _ _ _ rfl jJ;have hg: ∀y,(za [(β,y)] H).get β=some y:=fun y=>by simp[za,qp.zm]);(have O3: ∀{w0:World}{H0:qp}{ι0:yv}{get:Nat->Option Value},mf w0 H0 ι0 Im te.size [[AV.row γ fn 0 fn]] get-> ∃v0,get 0=some v0/\RA w0 H0 ι0 Im (.row γ fn 0 fn) v0:=by intro w0 H0 ι0 get hA;have:=hA.2.2 0 _ 0 _ rfl rfl;rw[T7]at this;exact this);cases qw with
  |true=>
   simp only[if_true]at h2;subst h2;have df:es=[]:=(hi.ru β _ hb).1;subst df;obtain⟨nc,w',cs',g1,g2,g3,g4,g5⟩:=H9 Ki jF dy K0 ZR tt hi hy rJ z? (by simpa using bk);refine⟨_,w',g5,kl ι β ⟨w.heap.size,nc,[.leaf]⟩, ?_⟩;have key:=zf.TQ hi (w' :=w') β (.kj false ds ([]++[.sl true 0 []]) (some (0,γ,fn))) ⟨w.heap.size,nc,[.leaf]⟩ (fun x hx=>by rw[hb]at hx;cases hx;simp[jc,qJ.sh])
    ⟨by rw[g2.1];simp,g2.2⟩ (fun b' jD _=>by rw[g2.1];simp[Array.getElem?_push,Nat.ne_of_lt jD]) (fun z hz=>by
     rcases hz.2 with h|⟨_,h⟩
     ·exact .inl (by rw[h];exact ju _)
     ·simp[Sk.blocks]at h) (fun he=>by
     obtain⟨v0,k1,k2⟩:=O3 (g4.mono hi he)
     exact XY (es:=[]) (ks:=[]) (ee:=cs') (elem:=e) (fz:=(0,0)) z? (by simp[g2]) (ky _) (by simp[g3,T7]) (by simpa using g1) rfl z? z? z? k1 k2)
   refine⟨key.1,key.2, ?_,ju _,u7 jf (ju _) (jf β _ hb)⟩;refine .row β _ 0 _ _ _ rfl (hg _) (fun _=>⟨_,_,_,rfl⟩) (fun _ _ _ e=>by cases e;exact ju _) fun _ _ _ e _=>?_;cases e;refine⟨z?, ?_⟩;simp only[wH,if_false];exact⟨⟨w.heap.size,0,none⟩,z?,rfl,z?,fun _=>z?⟩
  |false=>
   (simp only[wH,if_false]at h2;obtain⟨a,rfl,oL,ay,Qa⟩:=h2;obtain⟨ab,ao,Dq⟩:=a;simp only at oL ay Qa;subst oL ay;obtain⟨vs,elem,fz,g1,g2,g3,g4,g5,g6,g7,g8,g9⟩:=hi.kj hb;obtain⟨Ee,Sw⟩:=List.nodup_cons.1 g6;have N8: ∀(i:Nat) p k,es[i]? =some p->(ι β).ks[i]? =some k-> ∃v,vs[i]? =some v/\oV w Im ds p v k:=fun i p k hp hk=>by obtain⟨v,k1,k2,_⟩:=g9 i p k hp hk;exact⟨v,k1,k2 fun _ _ _ h=>by cases h⟩);have YE: ∀z,z∈((ι β).ks++[Sk.leaf]).flatMap Sk.blocks->(qJ.kj false ds es none).yi (ι β) z:=fun z hz=>⟨rfl,.inr ⟨rfl,by simpa[Sk.blocks]using hz⟩⟩;by_cases rI:es.length+1<=(ι β).cap
   ·(have OB:ao=0:=by have:=Qa o?;omega);(subst OB;obtain⟨v0,c1,c2⟩:=O3 f3;have Sp:cs.toList=[v0]:=by (have mF:cs.size=1:=by rw[f2,T7];rfl);(have:cs= #[v0]:=by apply Array.ext;simpa using mF;intro i h1 h2;have:i=0:=o?;subst this;have:=(Array.getElem?_eq_some_iff.1 c1).2;simpa using this);rw[this]);have Wl: ∀x∈cs.toList,dz x=true:=by intro x hx;rw[Sp]at hx;simp at hx;subst hx;exact c2.dz rfl
    obtain⟨w',q1,q2,q3,ee,q4,q5,q6⟩:=uP (P:=P) (ι β).b es.length elem fz cs.toList 0 w vs g1 g2 (by simp[Sp,g3];omega) Wl;have T6:=run_append_fits (w' :=w') Ki jF dy K0 ZR tt (some ⟨(ι β).b,0,none⟩) es.length ((ι β).cap-0) 1 vy l1 o? cs f1
     (fun a ha=>by cases ha;rw[add_plain,Nat.zero_add,T7,Nat.mul_one];exact q1) (fun h=>by cases h)
    have hw: ∀b,Im b->w'.heap[b]? =w.heap[b]? :=fun b jD=>q3 b (fun e=>hi.Vt β _ b hb ⟨rfl,.inl e⟩ jD);refine⟨_,w',T6,kl ι β ⟨(ι β).b,(ι β).cap,(ι β).ks++[.leaf]⟩, ?_⟩;have key:=zf.TQ hi (w' :=w') β (.kj false ds (es++[.sl true 0 []]) (some (es.length,γ,fn))) ⟨(ι β).b,(ι β).cap,(ι β).ks++[.leaf]⟩
     (fun x hx=>by
      rw[hb]at hx
      cases hx
      simp[jc,qJ.sh])
     ⟨o?,q2.2⟩ (fun b' _ jZ=>q3 b' (fun e=>jZ _ hb ⟨rfl,.inl e⟩)) (fun z hz=> .inr ⟨_,hb,(by
      rcases hz.2 with h|⟨_,h⟩
      ·exact⟨rfl,.inl h⟩
      ·exact YE z h)⟩) (fun mE=>by
      refine XY (ks:=(ι β).ks) z? (by simpa using q4) (by rw[q5];exact g2) (by simp[q5,g3]) (by simpa using rI) g5 (by simpa using g6) (fun x hx=>by rw[q2.1];exact g7 x hx) (fun i p k hp hk=>?_) (v0:=v0) ?_ (c2.mono hi mE)
      ·obtain⟨v,k1,k2⟩:=N8 i p k hp hk
       have eo:=(qL hp).1
       refine⟨v, ?_,k2.mono mE.im hw fun x hx=>q3 x fun e=>?_⟩
       ·rw[q6,if_neg o?]
        exact k1
       subst e
       exact Ee (List.mem_flatMap.2 ⟨k,zc hk,hx⟩)
      rw[q6,Sp]
      simp)
    refine⟨key.1,key.2, ?_,ju _,u7 jf (ju _) (jf β _ hb)⟩;refine .row β _ 0 _ _ _ rfl (hg _) (fun _=>⟨_,_,_,rfl⟩) (fun _ _ _ e=>by cases e;simp) fun _ _ _ e _=>?_;cases e;refine⟨z?, ?_⟩;simp only[wH,if_false];exact⟨⟨(ι β).b,0,none⟩,z?,rfl,z?,fun _=>z?⟩
   (have hw:(vI w).heap=w.heap:=rfl;have uj:=hi.bV hw ⟨rfl,rfl⟩;obtain⟨new,m1,m2,m3⟩:=(Qh (P:=P) uj (hy.bV hw ⟨rfl,rfl⟩ hi) rJ).2;have hold:(Builtin.firstCells te.size es.length (.slice (some ⟨(ι β).b,ao,none⟩) es.length ((ι β).cap-0))).run P (vI w)= .ok ((List.range es.length).map fun j=>(vs[j]?).getD undef).toArray (vI w):=by by_cases Gw:es.length=0;rw[Gw];simp[Builtin.firstCells,loadCells,loadCellsFrom];(have OB:ao=0:=by have:=Qa o?;omega);subst OB;simp only[Builtin.firstCells];rw[T7,Nat.mul_one];refine(run_loadCells (P:=P) (w:=vI w) (ι β).b 0 es.length (fun j=>(vs[j]?).getD undef) fun j hj=>?_);have:(vI w).cell? ⟨(ι β).b,0+j,none⟩=w.cell? ⟨(ι β).b,0+j,none⟩:=rfl;rw[this,gJ g1];have:j<vs.size:=o?;simp[this]);(obtain⟨nc,rest,r1,r2,r3⟩:=pq (w:=w) Ki jF dy K0 ZR tt (some ⟨(ι β).b,ao,none⟩) es.length ((ι β).cap-0) 1 vy l1 o? (by simpa using bk) _ new hold m1;generalize hO:((List.range es.length).map fun j=>(vs[j]?).getD undef).toArray=NJ at r3;have hos:NJ.size=es.length:=by rw[<- hO];simp);(have hog: ∀i,i<es.length->NJ[i]? =vs[i]? :=fun i xS=>by rw[<- hO];have:i<vs.size:=o?;simp[List.getElem?_range xS,this]);(obtain⟨v0,c1,c2⟩:=O3 (m3.mono (w' :=w) (H' :=H) (ι' :=ι) (kh:=Im) uj (vj.bV (w:=vI w) (w' :=w) rfl ⟨rfl,rfl⟩));have Fc:new.size=1:=by rw[m2,T7];rfl);refine⟨_,_,r3,kl ι β ⟨w.heap.size,nc,(ι β).ks++[.leaf]⟩, ?_⟩;have OM: ∀b',b' <w.heap.size->({ vI w with heap:=w.heap.push (.cells (NJ++new++rest) e) }:World).heap[b']? =w.heap[b']? :=fun b' jD=>by simp[Array.getElem?_push,Nat.ne_of_lt jD]
   have key:=zf.TQ hi (w' :={ vI w with heap:=w.heap.push (.cells (NJ++new++rest) e) }) β (.kj false ds (es++[.sl true 0 []]) (some (es.length,γ,fn))) ⟨w.heap.size,nc,(ι β).ks++[.leaf]⟩
    (fun x hx=>by
     rw[hb]at hx
     cases hx
     simp[jc,qJ.sh])
    ⟨z?,rfl,rfl⟩ (fun b' jD _=>OM b' jD) (fun z hz=>by
     rcases hz.2 with h|⟨_,h⟩
     ·exact .inl (by rw[h];exact ju _)
     ·exact .inr ⟨_,hb,YE z h⟩) (fun he=>by
     refine XY (ks:=(ι β).ks) z? (ee:=NJ++new++rest) (elem:=e) (fz:=(0,0)) z? (ky _) ?_ (by simp only[vi];omega) g5 ?_ (fun x hx=>?_) (fun i p k hp hk=>?_) (v0:=v0) ?_ (c2.mono hi he)
     ·simp only[vi,Array.size_append,hos,Fc,r2,T7,Nat.mul_one]
      omega
     ·simp only[vi]
      exact List.nodup_cons.2 ⟨fun h=>absurd (g7 _ h) (Nat.lt_irrefl _),Sw⟩
     ·have:=g7 x hx
      simp
      omega
     ·obtain⟨v,k1,k2⟩:=N8 i p k hp hk
      have eo:=(qL hp).1
      refine⟨v, ?_,k2.mono he.im (fun b jD=>OM b (hi.im b jD)) fun x hx=>OM x (g7 x (List.mem_flatMap.2 ⟨k,zc hk,hx⟩))⟩
      rw[Array.append_assoc,Array.getElem?_append_left o?,hog i eo]
      exact k1
     rw[Array.append_assoc,Array.getElem?_append_right o?,hos,Nat.sub_self,Array.getElem?_append_left o?]
     exact c1)
   refine⟨key.1,key.2, ?_,ju _,u7 jf (ju _) (jf β _ hb)⟩;refine .row β _ 0 _ _ _ rfl (hg _) (fun _=>⟨_,_,_,rfl⟩) (fun _ _ _ e=>by cases e;simp) fun _ _ _ e _=>?_;cases e;refine⟨z?, ?_⟩;simp only[wH,if_false];exact⟨⟨w.heap.size,0,none⟩,z?,rfl,z?,fun _=>z?⟩
end
section
variable [xn] {P:Program} {w:World} {H:qp} {ι:yv} {Im:Nat->Prop}
def oT(w:World)(Im:Nat->Prop)(es:List (PV×PV×Nat))(xo:List MapEntry):Prop:=
 es.length=xo.length/\ ∀(i:Nat)(k x:PV)(born:Nat) e,es[i]? =some (k,x,born)->xo[i]? =some e->RP w Im k e.key/\RP w Im x e.val/\e.born=born
theorem oT.mono{w' :World}{kh:Nat->Prop}(hi: ∀b,Im b->kh b)(hw: ∀b,Im b->w'.heap[b]? =w.heap[b]?){es:List (PV×PV×Nat)}{xo:List MapEntry}
  (h:oT w Im es xo):oT w' kh es xo:=
 ⟨h.1,fun i k x born e a b=>let⟨g1,g2,g3⟩:=h.2 i k x born e a b;⟨g1.mono hi hw,g2.mono hi hw,g3⟩⟩
theorem oT.tail{x:PV×PV×Nat}{es:List (PV×PV×Nat)}{e:MapEntry}{xo:List MapEntry}(h:oT w Im (x::es) (e::xo)):oT w Im es xo:=
 ⟨by simpa using h.1,fun i k y born e' a b=>h.2 (i+1) k y born e' (by simpa using a) (by simpa using b)⟩
theorem QD(a b:List UInt8):((⟨⟨a⟩⟩:ByteArray)==⟨⟨b⟩⟩)=(a==b):=by have:=beq_toListBytes ⟨⟨a⟩⟩ ⟨⟨b⟩⟩;simpa using this
theorem Rs{t:TypeId}{tk:TI}(ht:zT P t tk){k:PV}(hk:k8 tk.td k=true){d:TypeDesc}(hd:P.underlying t=some d){k' :PV}{vk vk' :Value}
  (h1:RP w Im k vk) (h2:RP w Im k' vk') {b:Bool} (hb:Nh k k' =some b):Instr.sameNow d vk vk' =some b/\(b=true->vk=vk'):=by
 have key: ∀td,tk.td=td->k8 td k=true->_:=fun td e h=>(⟨e,h⟩:tk.td=td/\k8 td k=true);cases k<;>cases k' <;>simp only[Nh,reduceCtorEq]at hb;(rename_i a b';cases hb;cases h1;cases h2;have jF:tk.td= .bool:=by cases jF:tk.td<;>simp[k8,jF]at hk |-);rw[ht.bool jF]at hd;cases hd;exact⟨rfl,fun h=>by simpa using h⟩;(rename_i kd a kd' b';split at hb<;>cases hb;rename_i JX;subst JX;cases h1;cases h2;obtain⟨k0,jF⟩: ∃k0,tk.td= .int k0:=by cases jF:tk.td<;>simp[k8,jF]at hk |-);rw[ht.int jF]at hd;cases hd;exact⟨by simp[Instr.sameNow],fun h=>by simpa using h⟩;rename_i a b';cases hb;cases h1;cases h2;have jF:tk.td= .string:=by cases jF:tk.td<;>simp[k8,jF]at hk |-
 rw[ht.string jF]at hd;cases hd;refine⟨?_,fun h=>?_⟩;simp only[Instr.sameNow,QD];have:a=b' :=by simpa using h
 rw[this]
theorem sH{t:TypeId}{tk:TI}(ht:zT P t tk){k:PV}(hk:k8 tk.td k=true){d:TypeDesc}(hd:P.underlying t=some d){vk:Value}(h1:RP w Im k vk):
  ∀(es:List (PV×PV×Nat))(xo:List MapEntry)(i:Nat),oT w Im es xo-> ∀{r:Option (Nat×PV×Nat)},findKey k es i=some r->
   (r=none/\Instr.findNow d vk xo i=some none)\/
   ∃j x born e,r=some (i+j,x,born)/\Instr.findNow d vk xo i=some (some (i+j,e.val))/\xo[j]? =some e/\RP w Im x e.val/\e.born=born/\e.key=vk
 |[],xo,i,hE,r,h=>by (have:xo=[]:=by simpa using hE.1.symm);subst this;cases h;exact .inl ⟨rfl,rfl⟩
 |(k',x,born)::es,[],i,hE,r,h=>by have:=hE.1;simp at this
 |(k',x,born)::es,e::xo,i,hE,r,h=>by obtain⟨g1,g2,g3⟩:=hE.2 0 k' x born e z? z?;unfold findKey at h;cases hq:Nh k k' with|none=>simp[hq]at h|some b=>obtain⟨s1,s2⟩:=Rs ht hk hd h1 g1 hq;cases b with|true=>simp only[hq,wd]at h;subst h;refine .inr ⟨0,x,born,e,rfl, ?_,rfl,g2,g3,(s2 rfl).symm⟩;simp[Instr.findNow,s1]|false=>simp only[hq]at h;rcases sH ht hk hd h1 es xo (i+1) hE.tail h with ⟨rfl,q⟩|⟨j,x',aG,e',rfl,q1,q2,q3,q4,q5⟩;exact .inl ⟨rfl,by simp[Instr.findNow,s1,q]⟩;refine .inr ⟨j+1,x',aG,e',by rw[Nat.add_assoc,Nat.add_comm 1 j], ?_,by simpa using q2,q3,q4,q5⟩;simp only[Instr.findNow,s1,q1];rw[Nat.add_assoc,Nat.add_comm 1 j]
theorem pr{t:TypeId}{tk:TI}(ht:zT P t tk){k:PV}(hk:k8 tk.td k=true)(empty:Bool)(vk:Value):(Instr.checkKey empty 10000 t vk).run P w= .ok () w:=by
 have gen: ∀n,(Instr.checkKey empty (n+1) t vk).run P w= .ok () w:=by (intro n;unfold Instr.checkKey;have:P.underlying t=some .bool\/P.underlying t=some .string\/ ∃k0,P.underlying t=some (.int k0):=by cases jF:tk.td<;>simp[k8,jF]at hk;exact .inl (ht.bool jF);exact .inr (.inr ⟨_,ht.int jF⟩);exact .inr (.inl (ht.string jF)));rcases this with h|h|⟨k0,h⟩<;>simp[qy h]
 exact gen 9999
theorem mU{t:TypeId}{tk:TI}(ht:zT P t tk){d:TypeDesc}(hd:P.underlying t=some d)(vk:Value)(xo:List MapEntry){r:Option (Nat×Value)}
  (h:Instr.findNow d vk xo 0=some r):(Instr.findKey t vk xo).run P w= .ok r w:=by unfold Instr.findKey;simp[qy hd,h]
theorem zf.map{β:Nat}{es:List (PV×PV×Nat)}{zN:Nat}(hi:zf w H ι Im)(hb:H.get β=some (.map es zN)):
  ∃xo:List MapEntry,w.heap[(ι β).b]? =some (.map ⟨xo⟩ zN)/\oT w Im es xo:=hi.ru β _ hb
theorem oB{b:Nat}{xo:List MapEntry}{zN:Nat}(h:w.heap[b]? =some (.map ⟨xo⟩ zN)):(getObj b).run P w= .ok (.map ⟨xo⟩ zN) w:=by simp[getObj,C_,h]
theorem ak{b:Nat}{xo:List MapEntry}{zN:Nat}(h:w.heap[b]? =some (.map ⟨xo⟩ zN))(o:Obj):
  (setObj b o).run P w= .ok () { w with heap:=w.heap.setIfInBounds b o }:=by simp[setObj,C_,h]
theorem Km(hi:zf w H ι Im){nx:Nat}{X:Nat->Prop}(jf:Bd X H nx){β:Nat}{es og:List (PV×PV×Nat)}{zN KY:Nat}{Se:List MapEntry}
  (hb:H.get β=some (.map es zN)) (h:oT w Im og Se) {r:AV} {u:Value} (hru: ∀w' H' ι',zf w' H' ι' Im->vj w H ι Im w' H' ι' Im->RA w' H' ι' Im r u):
  tA X w H ι Im nx (r,[(β,.map og KY)],nx) u { w with heap:=w.heap.setIfInBounds (ι β).b (.map ⟨Se⟩ KY) }:=by
 obtain⟨xo,h1,h2⟩:=hi.map hb;have xS:=(hi.ru β _ hb).lt rfl;have key:=zf.put (JZ:=noO hb rfl) hi (w' :={ w with heap:=w.heap.setIfInBounds (ι β).b (.map ⟨Se⟩ KY) }) β (.map og KY) (ι β)
  (fun x hx=>by rw[hb]at hx;cases hx;rfl) ⟨z?,rfl,rfl⟩
  (fun b' _ jZ=>by
   have:(ι β).b≠b' :=jZ _ hb rfl
   simp[Array.getElem?_setIfInBounds,this])
  (fun _=> .inr ⟨_,hb,rfl,rfl⟩) (fun he=>by
   have hw: ∀b,Im b->_:=fun b hb=>he.ZS hi b hb
   exact⟨Se,by simp[xS],h.mono he.im hw⟩)
 exact⟨_,key.1,key.2,hru _ _ _ key.1 key.2,ju _,u7 jf (ju _) (jf β _ hb)⟩
theorem zeroV_ok{t:TypeId}{ti:TI}(ht:zT P t ti): ∃z,(zeroValue t).run P w= .ok z w/\RP w Im (X6 ti) z:=by
 obtain⟨z,h1,h2,h3,h4⟩:=Ql (w:=w) (Im:=Im) ht;refine⟨z,h1, ?_⟩;unfold X6;have hagg:ti.isAgg=ti.td.isAgg:=by unfold q0x TD.isAgg;cases ti.td<;>rfl
 rw[hagg,<- h4];cases z with|agg cs=>simp only[Z3,if_true];exact .agg ti.zero cs.toList (by simpa[Value.cells]using h2) ht.wc (fun i p v a b=>h3 i p v a (by simpa[Value.cells]using b))|_=>simp only[Z3,wH,if_false,Value.cells]at h2 h3 |-;cases hz:ti.zero with|nil=>rw[hz]at h2;simp at h2|cons p r=>rw[hz]at h3;exact h3 0 p _ z? z?
theorem Bg{t:TypeId}{tk:TI}(ht:zT P t tk)(hi:zf w H ι Im){m:AV}{vm vk:Value}(hm:RA w H ι Im m vm){k:PV}(hk:k8 tk.td k=true)(h1:RP w Im k vk)
  {r:Option (Nat×PV×Nat)} (hr:KI m k H=some r):
  (vm= .map none/\r=none)\/ ∃b xo zN,vm= .map (some b)/\w.heap[b]? =some (.map ⟨xo⟩ zN)/\
   ((r=none/\(Instr.findKey t vk xo).run P w= .ok none w)\/ ∃j x born u,r=some (j,x,born)/\(Instr.findKey t vk xo).run P w= .ok (some (j,u)) w/\RP w Im x u):=by obtain⟨d,hd⟩:=ht.undS;unfold KI at hr;split at hr;cases hr;have h:=hm.gO;cases h;exact .inl ⟨rfl,rfl⟩;{rename_i β;split at hr;rotate_left;cases hr;rename_i es zN hb;cases hm;obtain⟨xo,g1,g2⟩:=hi.map hb;refine .inr ⟨_,xo,zN,rfl,g1, ?_⟩;rcases sH ht hk hd h1 es xo 0 g2 hr with ⟨rfl,q⟩|⟨j,x,born,e,rfl,q1,q2,q3,q4,q5⟩;exact .inl ⟨rfl,mU ht hd vk xo q⟩;exact .inr ⟨_,x,born,e.val,rfl,mU ht hd vk xo q1,q3⟩};cases hr
theorem Px{t k0 e0:TypeId}{ti tk te:TI}(ht:zT P t ti)(jF:ti.td= .map k0 e0)(hk:zT P k0 tk)(he:zT P e0 te)(hi:zf w H ι Im){m k:AV}{vm vk:Value}
  (hm:RA w H ι Im m vm) (hkv:RA w H ι Im k vk) {ok:Bool} {r:AV} (hr:aE tk te m k ok H=some r):
  ∃u,(Instr.lookup t vm vk ok).run P w= .ok u w/\RA w H ι Im r u:=by
 unfold aE at hr;split at hr;rotate_left;cases hr;rename_i k;split at hr;rotate_left;cases hr;rename_i rI;have ON:=hkv.gO;obtain⟨z,hz1,hz2⟩:=zeroV_ok (w:=w) (Im:=Im) he;have pair: ∀(p:PV)(v:Value)(b:Bool),RP w Im p v->RA w H ι Im (if ok=true then .xW [.pv p,.pv (.bool b)]else .pv p) (if ok=true then .tuple #[v,.bool b]else v):=by intro p v b h;cases ok;exact .pv _ _ h;refine .xW _ [v,.bool b] rfl fun i x u h1 h2=>?_;match i with|0=>simp at h1 h2;subst h1 h2;exact .pv _ _ h|1=>simp at h1 h2;subst h1 h2;exact .pv _ _ (.bool _)|i+2=>simp at h1
 unfold Instr.lookup;simp only[kf,qy (ht.map jF),mb];split at hr;rename_i j v born hf;cases hr;rcases Bg hk hi hm rI ON hf with ⟨_,h⟩|⟨b,xo,zN,rfl,g1,g2⟩;cases h;rcases g2 with ⟨h,_⟩|⟨j',x,aG,u,h,g3,g4⟩;cases h;cases h;refine⟨_, ?_,pair v u true g4⟩;simp only[oB g1,kf,mb,W?,pr hk rI,g3];{rename_i hf;cases hr;rcases Bg hk hi hm rI ON hf with ⟨rfl,_⟩|⟨b,xo,zN,rfl,g1,g2⟩;(refine⟨_, ?_,pair _ z false hz2⟩;have:(Instr.findKey k0 vk ([]:List MapEntry)).run P w= .ok none w:=by obtain⟨d,hd⟩:=hk.undS;exact mU hk hd vk [] rfl);simp only[kf,mb,W?,pr hk rI,this,hz1];rcases g2 with ⟨_,g3⟩|⟨j',x,aG,u,h,_⟩;rotate_left;cases h;refine⟨_, ?_,pair _ z false hz2⟩;simp only[oB g1,kf,mb,W?,pr hk rI,g3,hz1]};cases hr
end
section
variable [xn] {P:Program} {w:World} {H:qp} {ι:yv} {Im:Nat->Prop}
theorem oT.set{es:List (PV×PV×Nat)}{xo:List MapEntry}(h:oT w Im es xo)(i:Nat){k x:PV}{born:Nat}{e:MapEntry}
  (hk:RP w Im k e.key) (hx:RP w Im x e.val) (hb:e.born=born):oT w Im (es.set i (k,x,born)) (xo.set i e):=by refine⟨by simp[h.1],fun j k' x' aG e' h1 h2=>?_⟩;rw[T!]at h1 h2;by_cases Ed:i=j;subst Ed;rw[if_pos rfl]at h1 h2;split at h1<;>cases h1;split at h2<;>cases h2;exact⟨hk,hx,hb⟩;rw[if_neg Ed]at h1 h2;exact h.2 j k' x' aG e' h1 h2
theorem oT.push{es:List (PV×PV×Nat)}{xo:List MapEntry}(h:oT w Im es xo){k x:PV}{born:Nat}{e:MapEntry}
  (hk:RP w Im k e.key) (hx:RP w Im x e.val) (hb:e.born=born):oT w Im (es++[(k,x,born)]) (xo++[e]):=by refine⟨by simp[h.1],fun j k' x' aG e' h1 h2=>?_⟩;rw[R!]at h1 h2;rw[<- h.1]at h2;by_cases hj:j<es.length;rw[if_pos hj]at h1 h2;exact h.2 j k' x' aG e' h1 h2;rw[if_neg hj]at h1 h2;cases hd:j-es.length with|zero=>rw[hd]at h1 h2;simp at h1 h2;obtain⟨rfl,rfl,rfl⟩:=h1;subst h2;exact⟨hk,hx,hb⟩|succ n=>rw[hd]at h1;simp at h1
theorem oT.erase{es:List (PV×PV×Nat)}{xo:List MapEntry}(h:oT w Im es xo)(i:Nat):oT w Im (es.eraseIdx i) (xo.eraseIdx i):=by refine⟨by simp[List.length_eraseIdx,h.1],fun j k' x' aG e' h1 h2=>?_⟩;rw[List.getElem?_eraseIdx]at h1 h2;split at h1;rename_i hc;rw[if_pos hc]at h2;exact h.2 _ k' x' aG e' h1 h2;rename_i hc;rw[if_neg hc]at h2;exact h.2 _ k' x' aG e' h1 h2
theorem modify_eq_set{l:List MapEntry}{i:Nat}{e:MapEntry}(h:l[i]? =some e)(f:MapEntry->MapEntry):(⟨l⟩:Array MapEntry).modify i f=⟨l.set i (f e)⟩:=by obtain⟨xS,he⟩:=qL h;apply I!;simp only[Array.toList_modify];apply List.ext_getElem?;intro j;rw[List.getElem?_modify,T!];by_cases Ed:i=j;subst Ed;simp[xS,he];simp[Ed]
theorem Yd{k:PV}{tk:TI}(hk:k8 tk.td k=true){v:Value}(h:RP w Im k v):Instr.sameBits 10000 v v=true:=by cases h<;>simp[k8]at hk;simp[Instr.sameBits];simp[Instr.sameBits];simp[Instr.sameBits,QD];all_goals (cases jF:tk.td<;>simp[jF]at hk)
theorem G5{k:PV}{tk:TI}(hk:k8 tk.td k=true){v:Value}(h:RP w Im k v):(Instr.keyThatStays v v).run P w= .ok v w:=by unfold Instr.keyThatStays;simp[Yd hk h]
theorem KM{t k0 e0:TypeId}{ti tk:TI}(ht:zT P t ti)(jF:ti.td= .map k0 e0)(hk:zT P k0 tk)(hi:zf w H ι Im)
  {nx:Nat} {X:Nat->Prop} (jf:Bd X H nx) {m k:AV} {x:PV} {vm vk vx:Value}
  (hm:RA w H ι Im m vm) (hkv:RA w H ι Im k vk) (hx:RP w Im x vx) {ws:List (Nat×qJ)} (hr:rE tk m k x H=some ws):
  ∃w',(Instr.mapUpdate t vm vk vx).run P w= .ok () w' /\tA X w H ι Im nx (.xW [],ws,nx) undef w' :=by have XK: ∀w' H' ι',zf w' H' ι' Im->vj w H ι Im w' H' ι' Im->RA w' H' ι' Im (.xW []) undef:=fun _ _ _ _ _=> .xW [] [] rfl z?;obtain⟨d,hd⟩:=hk.undS;unfold rE at hr;split at hr;rotate_left;cases hr;rename_i β k;split at hr;rotate_left;cases hr;rename_i rI;split at hr;rotate_left;cases hr;rename_i es zN hb;have ON:=hkv.gO;cases hm;obtain⟨xo,g1,g2⟩:=hi.map hb;unfold Instr.mapUpdate;simp only[kf,qy (ht.map jF),mb,oB g1,pr hk rI];split at hr;rename_i j y born hf;cases hr;rcases sH hk rI hd ON es xo 0 g2 hf with ⟨h,_⟩|⟨j',x',aG,e,h,q1,q2,q3,q4,q5⟩;cases h;(rw[O?]at h q1;cases h;have hkey:((xo[j]?.map (·.key)).getD vk)=vk:=by rw[q2];simp[q5]);(refine⟨_, ?_,Km hi jf hb (g2.set j (k:=k) (x:=x) (born:=born) (e:={ e with key:=vk,val:=vx }) ON hx q4) XK⟩;simp only[mU hk hd vk xo q1,mb,kf];have Sr:((q1i xo)[j]?.map (·.key)).getD vk=vk:=by simpa using hkey);rw[Sr,G5 rI ON];simp only[mb,modify_eq_set q2,ak g1];{rename_i hf;cases hr;rcases sH hk rI hd ON es xo 0 g2 hf with ⟨_,q1⟩|⟨j',x',aG,e,h,_⟩;rotate_left;cases h;refine⟨_, ?_,Km hi jf hb (g2.push (k:=k) (x:=x) (born:=zN) (e:={ key:=vk,val:=vx,born:=zN }) ON hx rfl) XK⟩;simp only[mU hk hd vk xo q1,mb,ak g1];simp};cases hr
theorem Di{t k0 e0:TypeId}{ti tk te:TI}(ht:zT P t ti)(jF:ti.td= .map k0 e0)(hk:zT P k0 tk)(he:zT P e0 te)(hi:zf w H ι Im)
  {nx:Nat} {X:Nat->Prop} (jf:Bd X H nx) {m k:AV} {vm vk:Value}
  (hm:RA w H ι Im m vm) (hkv:RA w H ι Im k vk) {r:AV} {ws:List (Nat×qJ)} (hr:lh tk te m k H=some (r,ws)):
  ∃u w',(Instr.mapEntry t vm vk).run P w= .ok u w' /\tA X w H ι Im nx (r,ws,nx) u w' :=by unfold lh at hr;cases hr
theorem KH(t:TypeId)(hi:zf w H ι Im){nx:Nat}{X:Nat->Prop}(jf:Bd X H nx){m st:AV}{x:PV}{vm vs vx:Value}
  (hm:RA w H ι Im m vm) (hsv:RA w H ι Im st vs) (hx:RP w Im x vx) {ws:List (Nat×qJ)} (hr:bP m st x H=some ws):
  ∃w',(Instr.entryStore t vm vs vx).run P w= .ok () w' /\tA X w H ι Im nx (.xW [],ws,nx) undef w' :=by unfold bP at hr;cases hr
theorem Pu{t k0 e0:TypeId}{ti tk:TI}(ht:zT P t ti)(jF:ti.td= .map k0 e0)(hk:zT P k0 tk)(hi:zf w H ι Im)
  {nx:Nat} {X:Nat->Prop} (jf:Bd X H nx) (cu:Array TypeId) (Hg:cu[0]? =some t) (tt:TypeId) {m k:AV} {vm vk:Value}
  (hm:RA w H ι Im m vm) (hkv:RA w H ι Im k vk) {ws:List (Nat×qJ)} (hr:cl tk m k H=some ws):
  ∃w',(Builtin.delete_ cu tt #[vm,vk]).run P w= .ok undef w' /\tA X w H ι Im nx (.xW [],ws,nx) undef w' :=by have XK: ∀w' H' ι',zf w' H' ι' Im->vj w H ι Im w' H' ι' Im->RA w' H' ι' Im (.xW []) undef:=fun _ _ _ _ _=> .xW [] [] rfl z?;obtain⟨d,hd⟩:=hk.undS;unfold Builtin.delete_;simp only[Hg,A?,a?,i?,kf,qy (ht.map jF),mb];unfold cl at hr;split at hr;rename_i k;split at hr<;>cases hr;rename_i rI;have h:=hm.gO;cases h;refine⟨w, ?_,a! hi jf (XK _ _ _ hi (G! _ _ _ _))⟩;simp only[kf,pr hk rI,mb,W?];rfl;{rename_i β k;split at hr;rotate_left;cases hr;rename_i rI;split at hr;rotate_left;cases hr;rename_i es zN hb;have ON:=hkv.gO;cases hm;obtain⟨xo,g1,g2⟩:=hi.map hb;simp only[kf,oB g1,mb,pr hk rI];split at hr;rename_i j y born hf;cases hr;rcases sH hk rI hd ON es xo 0 g2 hf with ⟨h,_⟩|⟨j',x',aG,e,h,q1,q2,q3,q4,q5⟩;cases h;(rw[O?]at h q1;cases h;refine⟨_, ?_,Km hi jf hb (g2.erase j) XK⟩;simp only[kf,mU hk hd vk xo q1,mb,ak g1,W?];have:(q1i xo).eraseIdxIfInBounds j=⟨xo.eraseIdx j⟩:=by obtain⟨xS,_⟩:=qL q2;simp[Array.eraseIdxIfInBounds,xS]);simp only[kf,this,ak g1,mb,W?];rfl;{rename_i hf;cases hr;rcases sH hk rI hd ON es xo 0 g2 hf with ⟨_,q1⟩|⟨j',x',aG,e,h,_⟩;rotate_left;cases h;refine⟨_, ?_,Km hi jf hb g2 XK⟩;simp only[kf,mU hk hd vk xo q1,mb,ak g1,W?];rfl};cases hr};cases hr
theorem Bl(t:TypeId)(hi:zf w H ι Im){nx:Nat}{X:Nat->Prop}(jf:Bd X H nx)(hX: ¬X nx):
  ∃u w',(Instr.makeMap t none).run P w= .ok u w' /\tA X w H ι Im nx (.map nx,[(nx,.map [] 0)],nx+1) u w' :=by
 refine⟨.map (some w.heap.size), { w with heap:=w.heap.push (.map #[] 0) },by simp[Instr.makeMap], ?_⟩;obtain⟨ι',h0,h1,h2⟩:=zf.new hi jf hX { w with heap:=w.heap.push (.map #[] 0) } (.map [] 0) (.map #[] 0) 0 rfl ⟨rfl,rfl⟩ (fun ι' hp he=>by
  exact⟨[],by simp[hp],rfl,z?⟩)
 refine⟨ι',h1,h2, ?_,z?,u7 jf z? (.inl z?)⟩;have hg:(za [(nx,qJ.map [] 0)] H).get nx=some (.map [] 0):=by simp[za,c!]
 have:=RA.map (w:={ w with heap:=w.heap.push (.map #[] 0) }) (ι:=ι') (Im:=Im) nx [] 0 hg;rw[h0]at this;exact this
end
section
variable [xn] {P:Program} {w:World} {H:qp} {ι:yv} {Im:Nat->Prop}
theorem Bk{t k0 e0:TypeId}{ti tk te:TI}(ht:zT P t ti)(jF:ti.td= .map k0 e0)(hk:zT P k0 tk)(he:zT P e0 te)(hi:zf w H ι Im){m k:AV}{vm vk:Value}
  (hm:RA w H ι Im m vm) (hkv:RA w H ι Im k vk) {ok:Bool} {r:AV} (hr:lj tk te m k ok H=some r):
  ∃u,(Instr.lookup t vm vk ok).run P w= .ok u w/\RA w H ι Im r u:=by unfold lj at hr;cases hr
theorem Bo{t k0 e0:TypeId}{ti tk:TI}(ht:zT P t ti)(jF:ti.td= .map k0 e0)(hk:zT P k0 tk)(hi:zf w H ι Im)
  {nx:Nat} {X:Nat->Prop} (jf:Bd X H nx) {m k x:AV} {vm vk vx:Value}
  (hm:RA w H ι Im m vm) (hkv:RA w H ι Im k vk) (hx:RA w H ι Im x vx) {ws:List (Nat×qJ)} (hr:dV tk m k x H=some ws):
  ∃w',(Instr.mapUpdate t vm vk vx).run P w= .ok () w' /\tA X w H ι Im nx (.xW [],ws,nx) undef w' :=by unfold dV at hr;cases hr
end
section
variable [xn] {P:Program} {w:World} {H:qp} {ι:yv} {Im:Nat->Prop}
def yE(P:Program)(G:GP):Prop:= ∀t ti,G.ti t=some ti->zT P t ti
def uh(X:Nat->Prop)(r:Result Next)(w:World)(H:qp)(ι:yv)(Im:Nat->Prop)(nx:Nat)(e:my):Prop:=
 ∃u w',(r= .ok (.value u) w' \/(r= .ok .skip w' /\u=undef))/\tA X w H ι Im nx e u w'
theorem uh.val{X:Nat->Prop}{s:Sem Value}{u:Value}{w' :World}{nx:Nat}{e:my}(h:s.run P w= .ok u w')(hd:tA X w H ι Im nx e u w'):
  uh X ((do pure (.value (<- s)):Sem Next).run P w) w H ι Im nx e:=
 ⟨u,w',.inl (by simp[h]),hd⟩
theorem uh.skip{X:Nat->Prop}{s:Sem Unit}{w' :World}{nx:Nat}{e:my}(h:s.run P w= .ok () w')(hd:tA X w H ι Im nx e undef w'):
  uh X ((do s;pure .skip:Sem Next).run P w) w H ι Im nx e:=
 ⟨undef,w',.inr ⟨by simp[h],rfl⟩,hd⟩
theorem uh.now{X:Nat->Prop}{u:Value}{nx:Nat}{e:my}(hd:tA X w H ι Im nx e u w):uh X ((pure (.value u):Sem Next).run P w) w H ι Im nx e:=
 ⟨u,w,.inl rfl,hd⟩
def Wt:Op->Bool
 | .call { callee:= .value _,.. }=>true
 | .box _ _=>true
 |_=>false
theorem tA.puts{β:Nat}{b b' :qJ}{nx:Nat}{X:Nat->Prop}(jf:Bd X H nx)(hb:H.get β=some b){w' :World}{ι' :yv}(h1:zf w' (za [(β,b')] H) ι' Im)
  (h2:vj w H ι Im w' (za [(β,b')] H) ι' Im):tA X w H ι Im nx (.xW [],[(β,b')],nx) undef w' :=
 ⟨ι',h1,h2,.xW [] [] rfl z?,ju _,u7 jf (ju _) (jf β _ hb)⟩
theorem cI{G:GP}{t:TypeId}{tk te:TI}(h:cH G t=some (tk,te)): ∃ti k e,G.ti t=some ti/\ti.td= .map k e/\G.ti k=some tk/\G.ti e=some te:=by unfold cH at h;split at h;rotate_left;cases h;rename_i ti l5;split at h;rotate_left;cases h;rename_i k e jF;split at h<;>cases h;rename_i hk he;exact⟨ti,k,e,l5,jF,hk,he⟩
theorem SK{a:Act}{E:yu}(hE: ∀t,RA w H ι Im (E.get t) (a.tmps.getD t undef)): ∀(l:List Operand)(i:Nat) z v,(l.map (ev E))[i]? =some z->(l.map a.eval)[i]? =some v->RA w H ι Im z v:=by intro l i z v h1 h2;simp only[K?,yZ]at h1 h2;obtain⟨o1,q1,rfl⟩:=h1;obtain⟨o2,q2,rfl⟩:=h2;rw[q1]at q2;cases q2;exact QH hE o1
theorem S5{isMax:Bool}{l:List AV}{vs:List Value}(hl:l.length=vs.length)(hR: ∀(i:Nat) x v,l[i]? =some x->vs[i]? =some v->RA w H ι Im x v)
  {p:PV} (h:IJ isMax l=some p) (cu:Array TypeId) (tt:TypeId):
  ∃u,(if isMax then Builtin.max_ cu tt ⟨vs⟩else Builtin.min_ cu tt ⟨vs⟩).run P w= .ok u w/\RP w Im p u:=by unfold IJ at h;split at h;rotate_left;(rename_i a b;split at h<;>cases h;rename_i hm;obtain⟨v,u,rfl⟩: ∃v u,vs=[v,u]:=by match vs,hl with|[v,u],_=>exact⟨v,u,rfl⟩);have hx:=(hR 0 (.pv (.str a)) v z? z?).gO;have hy:=(hR 1 (.pv (.str b)) u z? z?).gO;cases hx;cases hy;refine⟨.string ⟨⟨if kr a b=true then b else a⟩⟩, ?_,.str _⟩;rw[if_pos hm];cases hc:kr a b<;>simp[Builtin.max_,Builtin.max2,Op.stringOp,asBool,mY,hc];cases h;rename_i k a r;cases vs with|nil=>simp at hl|cons v vr=>have hx:=(hR 0 (.pv (.int k a)) v z? z?).gO;cases hx;obtain⟨u,g1,g2⟩:=Wz (P:=P) isMax k r a vr (by simpa using hl) (fun i x v h1 h2=>hR (i+1) x v (by simpa using h1) (by simpa using h2)) h;refine⟨u, ?_,g2⟩;cases isMax;exact g1;exact g1
theorem Ba{G:GP}(hG:yE P G)(hi:zf w H ι Im){nx:Nat}{X:Nat->Prop}(jf:Bd X H nx)(b:Builtin)(cu:Array TypeId)(tt:TypeId)(consts:Array Bool)
  {l:List AV} {vs:List Value} (hl:l.length=vs.length) (hR: ∀(i:Nat) x v,l[i]? =some x->vs[i]? =some v->RA w H ι Im x v) {e:my} (hr:rC G b cu.toList l H nx=some e) (hX: ∀γ,X γ->e.2.2<=γ):
  uh X ((builtin b cu tt consts ⟨vs⟩).run P w) w H ι Im nx e:=by
 unfold rC at hr;unfold builtin;split at hr;{rename_i t r x Hg;split at hr;rotate_left;cases hr;rename_i ti l5;split at hr;rotate_left;cases hr;rename_i jF;split at hr<;>cases hr;rename_i n hn;match vs,hl with|[v],_=>(have h1:=aLen_ok (hG _ _ l5) hi (hR 0 x v z? z?) tt jF hn;refine uh.val (s:=Builtin.len_ cu tt #[v]) (u:= .int .i64 n) (w' :=w) ?_ (a! hi jf (.pv _ _ (.int _ _)));have h0:cu[0]? =some t:=by rw[<- H?,Hg];rfl);unfold Builtin.len_ at h1 |-;simp only[A?,a?,h0]at h1 |-;exact h1};rename_i x;(match vs,hl with|[v],_=>obtain⟨u,w',h1,h2⟩:=VK (P:=P) (hR 0 x v z? z?) hi jf hr cu tt;exact uh.val (s:=Builtin.unsafeSliceData_ cu tt #[v]) h1 h2);{rename_i tp r p x Hg;split at hr;rotate_left;cases hr;rename_i ti l5;split at hr;rotate_left;cases hr;rename_i el MO;split at hr;rotate_left;cases hr;rename_i tel htel;split at hr;rotate_left;cases hr;rename_i h1z;match vs,hl with|[vp,vx],_=>(have h0:cu[0]? =some tp:=by rw[<- H?,Hg];rfl);obtain⟨u,w',h1,h2⟩:=Xt h0 (hG _ _ l5) MO ((hG _ _ htel).cellsOf.trans h1z) (hR 0 p vp z? z?) (hR 1 x vx z? z?) hi jf hr tt;exact uh.val (s:=Builtin.unsafeString_ cu tt #[vp,vx]) h1 h2};split at hr<;>cases hr;rename_i p hp;obtain⟨u,h1,h2⟩:=S5 (P:=P) hl hR hp cu tt;exact uh.val (s:=Builtin.max_ cu tt ⟨vs⟩) h1 (a! hi jf (.pv _ _ h2));split at hr<;>cases hr;rename_i p hp;obtain⟨u,h1,h2⟩:=S5 (P:=P) hl hR hp cu tt;exact uh.val (s:=Builtin.min_ cu tt ⟨vs⟩) h1 (a! hi jf (.pv _ _ h2))
 ·rename_i ts tx r s x Hg
  match vs,hl with
   |[vs,vx],_=>
    have key: ∀{e te oJ ti},G.ti ts=some ti->ti.td= .slice e->G.ti e=some te->G.ti tx=some oJ->((∃ e',oJ.td= .slice e')\/oJ.td= .string)-> ∀{ef},orT (hZ te s x H nx) (orT (bA e te s x H nx) (nP te s x H nx))=some ef->(∀ γ,X γ->ef.2.2<=γ)->
      uh X ((do pure (.value (<- Builtin.append_ cu tt #[vs,vx])):Sem Next).run P w) w H ι Im nx ef:=by
     intro e te oJ ti h1 h2 h3 h4 h5 ef h6 hX;obtain⟨u,w',g1,g2⟩: ∃u w',(Builtin.append_ #[ts,tx] tt #[vs,vx]).run P w= .ok u w' /\tA X w H ι Im nx ef u w' :=by
      cases ha:hZ te s x H nx with
      |some r=>
       rw[ha]at h6;cases h6;exact Pp (hG _ _ h1) h2 (hG _ _ h3) (hG _ _ h4) h5 tt hi jf (hR 0 s vs z? z?) (hR 1 x vx z? z?) ha hX
      |none=>
       rw[ha]at h6;cases hb:bA e te s x H nx with
       |some r=>
        rw[hb]at h6;cases h6;exact B6 (hG _ _ h1) h2 (hG _ _ h3) (hG _ _ h4) h5 tt hi jf (hR 0 s vs z? z?) (hR 1 x vx z? z?) hb
       |none=>
        rw[hb]at h6;exact B5 (hG _ _ h1) h2 (hG _ _ h3) (hG _ _ h4) h5 tt hi jf (hR 0 s vs z? z?) (hR 1 x vx z? z?) h6
     refine uh.val (u:=u) (w' :=w') ?_ g2;have q0:cu[0]? =some ts:=by rw[<- H?,Hg];rfl
     have q1:cu[1]? =some tx:=by rw[<- H?,Hg];rfl
     unfold Builtin.append_ at g1 |-;simp only[A?,a?,i?,q0,q1]at g1 |-;exact g1
    split at hr;rotate_left;cases hr;rename_i ti oJ h1 h2;split at hr;{rename_i e e' h3 h4;split at hr;rotate_left;cases hr;rename_i te h5;exact key h1 h3 h5 h2 (.inl ⟨_,h4⟩) hr hX};{rename_i e h3 h4;split at hr;rotate_left;cases hr;rename_i te h5;exact key h1 h3 h5 h2 (.inr h4) hr hX};cases hr
 {rename_i ts r s x Hg;match vs,hl with|[vs,vx],_=>split at hr;rotate_left;cases hr;rename_i ti h1;split at hr;rotate_left;cases hr;rename_i e0 h2;split at hr;rotate_left;cases hr;(rename_i te h3;have q0:cu[0]? =some ts:=by rw[<- H?,Hg];rfl);obtain⟨u,w',g1,g2⟩:=IG (hG _ _ h1) h2 (hG _ _ h3) q0 tt hi jf (hR 0 s vs z? z?) (hR 1 x vx z? z?) hr;exact uh.val (s:=Builtin.copy_ cu tt #[vs,vx]) g1 g2};{rename_i tm r m k Hg;match vs,hl with|[vm,vk],_=>split at hr;rotate_left;cases hr;rename_i ti h1;split at hr;rotate_left;cases hr;rename_i k0 e0 h2;split at hr;rotate_left;cases hr;(rename_i tk h3;split at hr<;>cases hr;rename_i ws Fl;have q0:cu[0]? =some tm:=by rw[<- H?,Hg];rfl);obtain⟨w',g1,g2⟩:=Pu (hG _ _ h1) h2 (hG _ _ h3) hi jf cu q0 tt (hR 0 m vm z? z?) (hR 1 k vk z? z?) Fl;exact uh.val (s:=Builtin.delete_ cu tt #[vm,vk]) g1 g2};cases hr
theorem aop_ok{G:GP}(hG:yE P G)(hi:zf w H ι Im){nx:Nat}{X:Nat->Prop}(jf:Bd X H nx)
  {a:Act} {E:yu} (hE: ∀t,RA w H ι Im (E.get t) (a.tmps.getD t undef)) (O:xt) (o:Oper) (dj:Wt o.op=false) {e:my} (hr:mz G O o.op E H nx=some e) (hX: ∀γ,X γ->e.2.2<=γ):
  uh X ((execOp a.eval o).run P w) w H ι Im nx e:=by
 have mE:=fun x=>QH hE x;unfold execOp;generalize o.type=SX;generalize o.op=op at hr dj;unfold mz at hr;split at hr;case h_1 x=>cases hr;exact uh.now (a! hi jf (mE x))
 case h_2 x=>cases hr;exact uh.now (a! hi jf (mE x))
 case h_3 c x y=>
  split at hr<;>cases hr;rename_i t hc;have h:=mE c;rw[hc]at h;have h:=h.gO;generalize hv:a.eval c=vc at h;cases h;refine⟨if t then a.eval x else a.eval y,w,.inl (by simp[hv,asBool]),a! hi jf ?_⟩;cases t
  ·exact mE y
  exact mE x
 case h_4 t=>
  split at hr;rotate_left
  ·cases hr
  rename_i ti l5;split at hr
  ·obtain⟨u,w',h1,h2⟩:=Po (hG _ _ l5) hi jf hr hX;exact uh.val h1 h2
  cases hr;obtain⟨u,w',h1,h2⟩:=Df (hG _ _ l5) hi jf (aQ hX);exact uh.val h1 h2
 case h_5 t x=>simp[Wt]at dj
 case h_6 t parts=>
  split at hr;rotate_left
  ·cases hr
  rename_i ti l5;unfold bM at hr;split at hr<;>cases hr;rename_i v hv;obtain⟨u,h1,h2⟩:=Dg hG (hG _ _ l5) hE parts hv;exact uh.val h1 (a! hi jf h2)
 case h_7 t len parts=>
  split at hr;rotate_left
  ·cases hr
  rename_i ti l5;split at hr;rotate_left
  ·cases hr
  rename_i el jF;split at hr;rotate_left
  ·cases hr
  rename_i te dy;split at hr;rotate_left
  ·cases hr
  rename_i hc;split at hr
  ·split at hr<;>cases hr;rename_i es df;obtain⟨u,w',h1,h2⟩:=JJ hG (hG _ _ l5) jF dy hi jf (aQ hX) hE len parts hc.1 hc.2 df;exact uh.val h1 h2
  split at hr<;>cases hr;rename_i es df;obtain⟨u,w',h1,h2⟩:=KD hG (hG _ _ l5) jF dy hi jf (aQ hX) hE len parts hc.1 hc.2 df;exact uh.val h1 h2
 case h_8 t x=>
  split at hr;rotate_left
  ·cases hr
  rename_i ti l5;unfold bM at hr;split at hr<;>cases hr;rename_i v hv;obtain⟨u,h1,h2⟩:=Bj (hG _ _ l5) hi (mE x) hv;exact uh.val h1 (a! hi jf h2)
 case h_9 t x y=>
  split at hr;rotate_left
  ·cases hr
  rename_i ti l5;unfold mo at hr;split at hr<;>cases hr;rename_i ws Fl;obtain⟨w',ι',h1,h2,h3,β,b,b',rfl,hb⟩:=Dm (hG _ _ l5) hi (mE x) (mE y) Fl;exact uh.skip h1 (tA.puts jf hb h2 h3)
 case h_10 x=>
  split at hr<;>cases hr;all_goals
   rename_i hx;have h:=mE x;rw[hx]at h;generalize hv:a.eval x=vx at h;refine⟨vx,w,.inl ?_,a! hi jf h⟩
  ·cases h;simp[hv]
  ·cases h;simp[hv]
  ·have h:=h.gO;cases h;simp[hv]
  ·cases h;simp[hv]
  ·have h:=h.gO;cases h;simp[hv]
  cases h;simp[hv]
 case h_11 op t x y yt=>
  split at hr;rotate_left
  ·cases hr
  rename_i ti l5;unfold Jz at hr;split at hr<;>cases hr;rename_i p hp;obtain⟨u,h1,h2,h3⟩:=aBin_ok hG (hG _ _ l5) hi (mE x) (mE y) op x y hp;exact uh.val (s:=do eqGuard op t x y (a.eval x) (a.eval y);binOp op t (a.eval x) (a.eval y)) (by simp[h1,h2]) (a! hi jf (.pv _ _ h3))
 case h_12 op t x=>
  unfold Jz at hr;split at hr<;>cases hr;rename_i p hp;obtain⟨u,h1,h2⟩:=aUn_ok (P:=P) (mE x) hp;exact uh.val h1 (a! hi jf (.pv _ _ h2))
 case h_13 s d x=>
  split at hr
  ·rename_i hsd;subst hsd;obtain⟨u,w',h1,h2⟩:=UJ hG hi jf (mE x) hr;exact uh.val h1 h2
  split at hr;rotate_left
  ·cases hr
  rename_i ts td Ki jF;obtain⟨u,w',h1,h2⟩:=Bb hG (hG _ _ Ki) (hG _ _ jF) hi jf (mE x) hr hX;exact uh.val h1 h2
 case h_14 f x y=>
  cases hr;refine uh.val (s:=Instr.makeFunc (.func f) (x.map a.eval) (y.map a.eval)) (w' :=w) rfl (a! hi jf ?_);have listR: ∀(l:List Operand)(i:Nat) z v,(l.map (ev E))[i]? =some z->(l.map a.eval)[i]? =some v->RA w H ι Im z v:=by
   intro l i z v h1 h2;simp only[K?,yZ]at h1 h2;obtain⟨o1,q1,rfl⟩:=h1;obtain⟨o2,q2,rfl⟩:=h2;rw[q1]at q2;cases q2;exact mE o1
  have hx:x.map a.eval=⟨x.toList.map a.eval⟩:=by apply I!; simp
  have hy:y.map a.eval=⟨y.toList.map a.eval⟩:=by apply I!; simp
  rw[hx,hy];split
  ·rename_i h1 h2;rw[h1,h2];exact .pv _ _ (.fn f)
  exact .Q3 f _ _ _ _ z? z? (listR _) (listR _)
 case h_15 t=>
  cases hr;obtain⟨u,w',h1,h2⟩:=Bl (P:=P) t hi jf (aQ hX);exact uh.val h1 h2
 case h_16 t x lo uj mx=>
  split at hr;rotate_left
  ·cases hr
  rename_i ti l5;unfold bM at hr;split at hr<;>cases hr;rename_i v hv;obtain⟨u,h1,h2⟩:=Dl hG (hG _ _ l5) hi hE (mE x) lo uj mx hv;exact uh.val h1 (a! hi jf h2)
 case h_17 t x f=>
  split at hr;rotate_left
  ·cases hr
  rename_i ti l5;unfold bM at hr;split at hr<;>cases hr;rename_i v hv;obtain⟨u,h1,h2⟩:=VG (hG _ _ l5) (mE x) hv;exact uh.val h1 (a! hi jf h2)
 case h_18 t x f=>
  split at hr;rotate_left
  ·cases hr
  rename_i ti l5;split at hr;rotate_left
  ·cases hr
  rename_i fs jF;split at hr;rotate_left
  ·cases hr
  rename_i off sz tf hf;split at hr;rotate_left
  ·cases hr
  rename_i tif htif;unfold bM at hr;split at hr<;>cases hr;rename_i v hv;obtain⟨fields,hu,rfl⟩:=(hG _ _ l5).struct jF;simp only[K?,yZ]at hf;obtain⟨fd,hf,hfe⟩:=hf;simp only[Prod.mk.injEq]at hfe;obtain⟨rfl,rfl,rfl⟩:=hfe;have hfa:fields[f]? =some fd:=by rw[<- hf];simp
  obtain⟨cs,u,h0,h1,h2⟩:=Bn (hG _ _ htif) (mE x) hv;refine uh.val (s:=Instr.field t (a.eval x) f) (u:=u) (w' :=w) ?_ (a! hi jf h2);unfold Instr.field;simp only[kf,qy hu,mb,hfa,h0,asAgg,W?,h1]
 case h_19 t x i=>
  split at hr;rotate_left
  ·cases hr
  rename_i ti l5;unfold bM at hr;split at hr<;>cases hr;rename_i v hv;obtain⟨u,h1,h2⟩:=VH hG (hG _ _ l5) hi (mE x) (mE i) hv;exact uh.val h1 (a! hi jf h2)
 case h_20 t x i=>
  split at hr;rotate_left
  ·cases hr
  rename_i ti l5;split at hr
  ·rename_i s k jF hx hk;split at hr<;>cases hr;rename_i b hb;obtain⟨kd,Zs⟩:=ZY (mE i) hk;have h:=mE x;rw[hx]at h;have h:=h.gO;generalize hv:a.eval x=vx at h;cases h;refine uh.val (s:=Instr.index t (a.eval x) (a.eval i)) (u:= .int .u8 b.toNat) (w' :=w) ?_ (a! hi jf (.pv _ _ (.int _ _)));have hbb:(ByteArray.mk ⟨s⟩)[k]? =some b:=by
    obtain⟨xS,he⟩:=qL hb;have:k<(ByteArray.mk ⟨s⟩).size:=xS;rw[getElem?_pos (ByteArray.mk ⟨s⟩) k this];exact congrArg some he
   unfold Instr.index;simp[hv,Zs,asIntOf,qy ((hG _ _ l5).string jF),hbb]
  ·rename_i len el k jF hk;split at hr;rotate_left
   ·cases hr
   rename_i pd;split at hr;rotate_left
   ·cases hr
   rename_i te dy;unfold bM at hr;split at hr<;>cases hr;rename_i r hrr;obtain⟨kd,Zs⟩:=ZY (mE i) hk;obtain⟨cs,u,h0,h1,h2⟩:=Bn (hG _ _ dy) (mE x) hrr;refine uh.val (s:=Instr.index t (a.eval x) (a.eval i)) (u:=u) (w' :=w) ?_ (a! hi jf h2);unfold Instr.index;simp[Zs,asIntOf,qy ((hG _ _ l5).array jF),pd,(hG _ _ dy).size,h0,h1]
  cases hr
 case h_21 t m k ok=>
  split at hr;rotate_left
  ·cases hr
  rename_i tk te hmt;unfold bM at hr;split at hr<;>cases hr;rename_i v hv;obtain⟨ti,k0,e0,q1,q2,q3,q4⟩:=cI hmt;split at hv
  ·obtain⟨u,h1,h2⟩:=Bk (hG _ _ q1) q2 (hG _ _ q3) (hG _ _ q4) hi (mE m) (mE k) hv;exact uh.val h1 (a! hi jf h2)
  obtain⟨u,h1,h2⟩:=Px (hG _ _ q1) q2 (hG _ _ q3) (hG _ _ q4) hi (mE m) (mE k) hv;exact uh.val h1 (a! hi jf h2)
 case h_22 t m k x=>
  split at hr
  ·unfold lk at hr;split at hr;rotate_left
   ·cases hr
   rename_i tk te hmt;split at hr;rotate_left
   ·cases hr
   unfold mo at hr;split at hr<;>cases hr;rename_i ws Fl;obtain⟨ti,k0,e0,q1,q2,q3,q4⟩:=cI hmt;obtain⟨w',h1,h2⟩:=Bo (hG _ _ q1) q2 (hG _ _ q3) hi jf (mE m) (mE k) (mE x) Fl;exact uh.skip h1 h2
  split at hr;rotate_left
  ·cases hr
  rename_i tk te p hmt hp;split at hr;rotate_left
  ·cases hr
  unfold mo at hr;split at hr<;>cases hr;rename_i ws Fl;obtain⟨ti,k0,e0,q1,q2,q3,q4⟩:=cI hmt;obtain⟨w',h1,h2⟩:=KM (hG _ _ q1) q2 (hG _ _ q3) hi jf (mE m) (mE k) (X4 (mE x) hp) Fl;exact uh.skip h1 h2
 case h_23 t m k x=>
  split at hr;rotate_left
  ·cases hr
  rename_i tk te p hmt hp;split at hr;rotate_left
  ·cases hr
  unfold mo at hr;split at hr<;>cases hr;rename_i ws Fl;obtain⟨ti,k0,e0,q1,q2,q3,q4⟩:=cI hmt;obtain⟨w',h1,h2⟩:=KM (hG _ _ q1) q2 (hG _ _ q3) hi jf (mE m) (mE k) (X4 (mE x) hp) Fl;exact uh.skip h1 h2
 case h_24 t m k=>
  split at hr;rotate_left
  ·cases hr
  rename_i tk te hmt;split at hr<;>cases hr;rename_i v ws Fl;obtain⟨ti,k0,e0,q1,q2,q3,q4⟩:=cI hmt;obtain⟨u,w',h1,h2⟩:=Di (hG _ _ q1) q2 (hG _ _ q3) (hG _ _ q4) hi jf (mE m) (mE k) Fl;exact uh.val h1 h2
 case h_25 t m st x=>
  split at hr;rotate_left
  ·cases hr
  rename_i p hp;unfold mo at hr;split at hr<;>cases hr;rename_i ws Fl;obtain⟨w',h1,h2⟩:=KH (P:=P) t hi jf (mE m) (mE st) (X4 (mE x) hp) Fl;exact uh.skip h1 h2
 case h_26 x i=>
  split at hr;rotate_left
  ·cases hr
  rename_i l hl;split at hr<;>cases hr;rename_i v hv;have h:=mE x;rw[hl]at h;generalize hvx:a.eval x=vx at h;cases h with
  |xW _ vs hlen hR=>
   obtain⟨u,hu⟩: ∃u,vs[i]? =some u:=⟨vs[i]'(by rw[<- hlen];exact(qL hv).1),z?⟩;refine⟨u,w,.inl ?_,a! hi jf (hR i v u hv hu)⟩;have:(⟨vs⟩:Array Value)[i]? =some u:=by simpa using hu
   simp[hvx,Instr.extract,this]
 case h_27 b args cu=>
  have T6:(do let d <-resolve a.eval { callee:= .builtin b,args:=args,argTypes:=cu } SX;invoke d.target d.args:Sem Next).run P w=
    (builtin b cu SX (args.map fun| .const _=>true|_=>false) ⟨args.toList.map a.eval⟩).run P w:=by
   have:args.map a.eval=⟨args.toList.map a.eval⟩:=by apply I!; simp
   simp only[resolve,kf,W?,mb,invoke,this];rfl
  show uh X ((do let d <-resolve a.eval { callee:= .builtin b,args:=args,argTypes:=cu } SX;invoke d.target d.args:Sem Next).run P w) w H ι Im nx e;rw[T6];exact Ba hG hi jf b cu SX _ z? (SK hE args.toList) hr hX
 case h_28=>simp[Wt]at dj
 case h_29 t x y=>
  split at hr;rotate_left
  ·cases hr
  rename_i ti l5;have hX' : ∀γ,X γ->nx+1<=γ:=by
   unfold sE at hr;split at hr;rotate_left
   ·cases hr
   split at hr;rotate_left
   ·cases hr
   split at hr<;>cases hr;exact hX
  obtain⟨u,w',h1,h2⟩:=VJ hG (hG _ _ l5) hi jf hX' (mE x) (mE y) hr;exact uh.val h1 h2
 case h_30=>cases hr
end
section
variable [xn] {P:Program} {w:World} {H:qp} {ι:yv} {Im:Nat->Prop}
theorem iR(β:Nat)(qw:Bool)(sz:Nat)(es:List (List PV)): ∀(l:List AV)(i:Nat),(AV.yz.rm β qw sz es l)[i]? =(l[i]?).map (AV.yz β qw sz es)
 |[],i=>by simp[AV.yz.rm]
 |x::r,i=>by cases i with|zero=>simp[AV.yz.rm]|succ i=>simp[AV.yz.rm,iR β qw sz es r i]
theorem Qj(β:Nat)(qw:Bool)(sz:Nat)(es:List (List PV)): ∀(l:List AV),(AV.yz.rm β qw sz es l).length=l.length
 |[]=>rfl
 |x::r=>by simp[AV.yz.rm,Qj β qw sz es r]
theorem AX(β:Nat)(qw:Bool)(sz:Nat)(es:List (List PV)){x:AV}(h:x.wc=true):(x.yz β qw sz es).wc=true:=by cases x<;>simp[AV.wc]at h<;>simp only[AV.yz];all_goals first|exact h|rfl|(split<;>rfl)
theorem Zj(β:Nat)(qw:Bool)(sz:Nat)(es:List (List PV)){l:List AV}(h: ∀x∈l,x.wc=true): ∀x∈AV.yz.rm β qw sz es l,x.wc=true:=by intro x hx;obtain⟨i,hi⟩:=jI hx;rw[iR]at hi;simp only[yZ]at hi;obtain⟨y,hy,rfl⟩:=hi;exact AX β qw sz es (h y (zc hy))
theorem Jk(β:Nat)(qw:Bool)(sz:Nat)(es:List (List PV)): ∀(H:qp)(γ:Nat),
  L! (H.map fun(i,b)=>(i,b.yz β qw sz es)) γ=(H.get γ).map (q19 β qw sz es)
 |[],γ=>rfl
 |(i,b)::r,γ=>by simp only[d?,L!];split;rfl;exact Jk β qw sz es r γ
theorem qJ.AZ(β:Nat)(qw:Bool)(sz:Nat)(es:List (List PV))(b:qJ):(b.yz β qw sz es).used=b.used:=by cases b<;>rfl
def ui(β:Nat)(qw:Bool)(sz:Nat)(es:List (List PV))(H:qp):qp:=k_ (H.map fun(i,b)=>(i,b.yz β qw sz es)) β .xH
theorem ko(β:Nat)(qw:Bool)(sz:Nat)(es:List (List PV))(H:qp)(γ:Nat):
  (ui β qw sz es H).get γ=if γ=β then some .xH else(H.get γ).map (q19 β qw sz es):=by unfold ui;rw[c!,Jk]
def nQ(ι:yv)(β:Nat)(qw:Bool)(Im:Nat->Prop):Nat->Prop:=fun b=>Im b\/(qw=false/\b=(ι β).b)
theorem row_pure(hi:zf w H ι Im){β:Nat}{qw:Bool}{sz:Nat}{es:List (List PV)}(hb:H.get β=some (.row qw sz es)){off n:Nat}{v:Value}
  (h1:off+n<=es.length) (h2:if qw=true then v= .slice none 0 0 else ∃a,v= .slice (some a) n ((ι β).cap-off)/\a.spot=none/\a.block=(ι β).b/\(off<(ι β).cap->a.off=off*sz)):
  RP w (nQ ι β qw Im) (FD qw sz ((es.drop off).take n)) v:=by
 refine RP.mk ?_;cases qw
 ·simp only[wH,if_false]at h2;obtain⟨a,rfl,oL,ay,Qa⟩:=h2;obtain⟨ab,ao,Dq⟩:=a;simp only at oL ay Qa;subst oL ay;obtain⟨vs,elem,fz,g1,g2,g3,g4,g5,g6,g7,g8⟩:=hi.row hb;have hlen:((es.drop off).take n).length=n:=v?;have pW: ∀(i:Nat) e,((es.drop off).take n)[i]? =some e->i<n/\es[off+i]? =some e:=by intro i e VW;have:=(qL VW).1;have dm:i<n:=o?;rw[V? dm,h!]at VW;exact⟨dm,VW⟩
  have hm: ∀b,Im b->nQ ι β false Im b:=fun b h=> .inl h;have key:=RP.sl (w:=w) (Im:=nQ ι β false Im) sz ((es.drop off).take n) (ι β).b ao ((ι β).cap-off) (fun i=>(vs[off*sz+i]?).getD undef)
   (fun _=> .inr ⟨rfl,rfl⟩) o? (fun e he=>g6 e (q! (Y? he))) (fun i xS=>by
    rw[hlen]at xS
    have hn:0<n:=by
     rcases q0g n with h|h
     ·subst h;simp at xS
     exact h
    have:=Qa o?
    subst this
    rw[gJ g1]
    have e1:(off+n)*sz<=(ι β).cap*sz:=mulR _ o?
    rw[N?]at e1
    have:off*sz+i<vs.size:=o?
    simp[this])
   (fun i e j p q1 q2=>g7 _ e j p (pW i e q1).2 q2) (fun i e j p q1 q2=>by
    obtain⟨_,VW⟩:=pW i e q1
    obtain⟨v,k1,k2⟩:=g8 _ e j p VW q2
    have e1:off*sz+(i*sz+j)=(off+i)*sz+j:=by rw[N?];omega
    simp only[e1,k1,Option.getD_some]
    exact k2.mono hm fun _ _=>rfl) none (fun _=>rfl)
  rw[hlen]at key;exact key
 simp only[if_true]at h2;subst h2;have df:es=[]:=hi.ru β _ hb;subst df;have:(([]:List (List PV)).drop off).take n=[]:=z?;rw[this];exact .aP sz
theorem ed(β:Nat)(qw:Bool)(sz:Nat)(es:List (List PV))(b:qJ):(b.yz β qw sz es).sh=b.sh:=by cases b<;>simp[q19,q0c]
theorem AY{β:Nat}{qw:Bool}{sz:Nat}{es:List (List PV)}(hb:H.get β=some (.row qw sz es)){β' xm off n:Nat}{v:Value}(hx:RA w H ι Im (.row β' xm off n) v):
  RA w (ui β qw sz es H) ι (nQ ι β qw Im) (.row β' xm off n) v:=by cases hx with|row _ _ _ _ _ b ho jD hk hv h=>by_cases he:β' =β;subst he;exact .row β' xm off n v .xH ho (by simp[ko]) (fun h=>absurd rfl h) (fun _ _ _ e=>by cases e) (fun _ _ _ e=>by cases e);refine .row β' xm off n v (b.yz β qw sz es) ho (by simp[ko,he,jD]) (fun h=>?_) (fun rK RH og e=>?_) (fun rK RH og e=>?_);rw[ed];exact hk (fun e=>h (by rw[e];rfl));rw[ed]at e;exact hv _ _ _ e;rw[ed]at e;exact h _ _ _ e
theorem Ku(hi:zf w H ι Im){β:Nat}{qw:Bool}{sz:Nat}{es:List (List PV)}(hb:H.get β=some (.row qw sz es)){x:AV}{v:Value}(hx:RA w H ι Im x v):
  RA w (ui β qw sz es H) ι (nQ ι β qw Im) (x.yz β qw sz es) v:=by
 have hm: ∀b,Im b->nQ ι β qw Im b:=fun b h=> .inl h;have hw: ∀b,Im b->w.heap[b]? =w.heap[b]? :=fun _ _=>rfl;have rowStay: ∀(β' xm off n:Nat)(v:Value)(b:qJ),dz v=true->H.get β' =some b->(b≠ .xH-> ∃qw sz l,b.sh=some (qw,sz,l))->(∀ qw sz l,b.sh=some (qw,sz,l)->xm<=l)->
   (∀ qw sz l,b.sh=some (qw,sz,l)->xm=l->off+n<=l/\
    if qw=true then v= .slice none 0 0
    else ∃a,v= .slice (some a) n ((ι β').cap-off)/\a.spot=none/\a.block=(ι β').b/\(off<(ι β').cap->a.off=off*sz))->
   RA w (ui β qw sz es H) ι (nQ ι β qw Im) (.row β' xm off n) v:=by
  intro β' xm off n v b ho jD hk hv h;by_cases he:β' =β
  ·subst he;exact .row β' xm off n v .xH ho (by simp[ko]) (fun h=>absurd rfl h) (fun _ _ _ e=>by cases e) (fun _ _ _ e=>by cases e)
  refine .row β' xm off n v (b.yz β qw sz es) ho (by simp[ko,he,jD]) (fun h=>?_) (fun rK RH og e=>?_) (fun rK RH og e=>?_)
  ·rw[ed];exact hk (fun e=>h (by rw[e];rfl))
  ·rw[ed]at e;exact hv _ _ _ e
  rw[ed]at e;exact h _ _ _ e
 have tL: ∀(c:List AV)(vs:List Value),c.length=vs.length->(∀(i:Nat) x v,c[i]? =some x->vs[i]? =some v->RA w (ui β qw sz es H) ι (nQ ι β qw Im) (x.yz β qw sz es) v)->
   (AV.yz.rm β qw sz es c).length=vs.length/\ ∀(i:Nat) x v,(AV.yz.rm β qw sz es c)[i]? =some x->vs[i]? =some v->RA w (ui β qw sz es H) ι (nQ ι β qw Im) x v:=by
  intro c vs hl h;refine⟨by rw[Qj,hl],fun i x v h1 h2=>?_⟩;rw[iR]at h1;simp only[yZ]at h1;obtain⟨y,hy,rfl⟩:=h1;exact h i y v hy h2
 induction hx with|undef v=>exact .undef v|pv p v h=>exact .pv p v (h.mono hm hw)|ptr β' o b' jD hk=>((have jZ:β' ≠β:=by intro e;subst e;rw[hb]at jD;cases jD;cases hk);exact .ptr β' o (b'.yz β qw sz es) (by simp[ko,jZ,jD]) (by cases b' <;>first|rfl|cases hk))|uS β' xm i o b1 o1 b jD jJ h=>by_cases he:β' =β;subst he;exact .uS β' xm i o b1 o1 .xH (by simp[ko]) (fun _ _ _ e=>by cases e) (fun _ _ _ e=>by cases e);refine .uS β' xm i o b1 o1 (b.yz β qw sz es) (by simp[ko,he,jD]) (fun rK RH og e=>?_) (fun rK RH og e=>?_);rw[ed]at e;exact jJ _ _ _ e;rw[ed]at e;exact h _ _ _ e|row β' xm off n v b ho jD hk jJ h=>simp only[AV.yz];split;rename_i hc;obtain⟨rfl,hv⟩:=hc;rw[hb]at jD;cases jD;obtain⟨h1,h2⟩:=h _ _ _ rfl hv;exact .pv _ _ (row_pure hi hb h1 h2);exact rowStay β' xm off n v b ho jD hk jJ h|tQ c o b off vs Qt hc hf h=>exact .tQ c o b off vs (hm b Qt) hc hf fun i p hp=>(h i p hp).mono hm hw|iW a=>exact .iW a|map β' og zN jD=>(have jZ:β' ≠β:=by intro e;subst e;rw[hb]at jD;cases jD);exact .map β' og zN (by simp[ko,jZ,jD,q19])|Q3 f a b va vb VX Su _ _ iha ihb=>obtain⟨q1,q2⟩:=tL a va VX iha;obtain⟨q3,q4⟩:=tL b vb Su ihb;exact .Q3 f _ _ va vb q1 q3 q2 q4|agg c vs hl hf _ ih=>obtain⟨q1,q2⟩:=tL c vs hl ih;exact lJ q1 (Zj β qw sz es hf) q2|xW c vs hl _ ih=>obtain⟨q1,q2⟩:=tL c vs hl ih;exact .xW _ vs q1 q2
theorem qJ.thaw_isO(β:Nat)(qw:Bool)(sz:Nat)(es:List (List PV))(b:qJ):(b.yz β qw sz es).SE=b.SE:=by cases b<;>rfl
theorem qJ.Qk{β:Nat}{qw:Bool}{sz:Nat}{es:List (List PV)}{b:qJ}{q:Pl}{x:Nat}(h:(b.yz β qw sz es).yi q x):b.yi q x:=by unfold qJ.yi at*;rw[qJ.AZ,qJ.thaw_isO]at h;exact h
theorem YA(hi:zf w H ι Im){β:Nat}{qw:Bool}{sz:Nat}{es:List (List PV)}(hb:H.get β=some (.row qw sz es)):
  zf w (ui β qw sz es H) ι (nQ ι β qw Im)/\vj w H ι Im w (ui β qw sz es H) ι (nQ ι β qw Im):=by
 have hm: ∀b,Im b->nQ ι β qw Im b:=fun b h=> .inl h;have hw: ∀b,Im b->w.heap[b]? =w.heap[b]? :=fun _ _=>rfl;have SA:qw=false->(qJ.row qw sz es).used=true:=fun h=>by simp[y_,h]
 refine⟨⟨fun γ b hγ=>?_,fun γ γ' b b' z h1 h2 u1 u2=>?_,fun b h=>?_,fun γ b z hγ hu h=>?_,hi.N0,fun b hb=> .inl (hi.VS b hb)⟩,⟨fun γ b hγ=>?_,hm,fun b h=>?_,fun γ x z hγ hu=>?_,fun _ _ _=>rfl,ju _,rfl,rfl⟩⟩;rw[ko]at hγ;split at hγ;cases hγ;trivial;(simp only[yZ]at hγ;obtain⟨b0,Jm,rfl⟩:=hγ;have h0:=hi.ru γ b0 Jm;cases b0 with|box c=>obtain⟨vs,elem,fz,q1,q2,q3,q4,q5⟩:=h0;refine⟨vs,elem,fz,q1,q2,by rw[Qj,q3],Zj β qw sz es q4,fun i x v a b=>?_⟩;rw[iR]at a;simp only[yZ]at a;obtain⟨y,hy,rfl⟩:=a;exact Ku hi hb (q5 i y v hy b)|row rK RH og=>(cases rK with|true=>exact h0|false=>obtain⟨vs,elem,fz,q1,q2,q3,q4,q5,q6,q7,q8⟩:=h0;refine⟨vs,elem,fz,q1,q2,q3,q4,q5,q6,q7,fun i e j p a b=>?_⟩;obtain⟨v,k1,k2⟩:=q8 i e j p a b;exact⟨v,k1,k2.mono hm hw⟩)|map og zN=>obtain⟨xo,q1,q2,q3⟩:=h0;refine⟨xo,q1,q2,fun i k x born e a b=>?_⟩;obtain⟨k1,k2,k3⟩:=q3 i k x born e a b;exact⟨k1.mono hm hw,k2.mono hm hw,k3⟩|mr RH og=>(obtain⟨vs,elem,fz,q1,q2,q3,q4,q5,q6,q7,q8⟩:=h0;have get: ∀(i:Nat) e(j:Nat) x,(og.map (AV.yz.rm β qw sz es))[i]? =some e->e[j]? =some x-> ∃e0 y,og[i]? =some e0/\e0[j]? =some y/\x=y.yz β qw sz es/\e=AV.yz.rm β qw sz es e0:=by intro i e j x h1 h2;rw[K?,yZ]at h1;obtain⟨e0,h1,rfl⟩:=h1;rw[iR,yZ]at h2;obtain⟨y,h2,rfl⟩:=h2;exact⟨e0,y,h1,h2,rfl,rfl⟩);refine⟨vs,elem,fz,q1,q2,q3,q4,by simpa using q5,fun e he=>?_,fun i e j x a b=>?_,fun i e j x a b=>?_⟩;obtain⟨e0,h0,rfl⟩:=G?.1 he;rw[Qj];exact q6 e0 h0;(obtain⟨e0,y,h1,h2,rfl,rfl⟩:=get i e j x a b;have hf: ∀x∈e0,x.wc=true:=fun x hx=>by obtain⟨j',Sq⟩:=jI hx;exact q7 i e0 j' x h1 Sq);exact Zj β qw sz es hf _ (zc b);obtain⟨e0,y,h1,h2,rfl,rfl⟩:=get i e j x a b;obtain⟨v,k1,k2⟩:=q8 i e0 j y h1 h2;exact⟨v,k1,Ku hi hb k2⟩|kj rK Sa og l4=>(cases rK with|true=>exact h0|false=>obtain⟨vs,elem,fz,q1,q2,q3,q4,q5,q6,q7,q8,q9⟩:=h0;refine⟨vs,elem,fz,q1,q2,q3,q4,q5,q6,q7,q8,fun i p k a b=>?_⟩;obtain⟨v,k1,k2,k3⟩:=q9 i p k a b;exact⟨v,k1,fun hj=>(k2 hj).mono hm hw fun _ _=>rfl,fun γ xm hf=>⟨(k3 γ xm hf).1,AY hb (k3 γ xm hf).2⟩⟩)|xH=>trivial);rw[ko]at h1 h2;split at h1;cases h1;cases u1.1;split at h2;cases h2;cases u2.1;simp only[yZ]at h1 h2;obtain⟨b0,Jm,rfl⟩:=h1;obtain⟨b1,Hd,rfl⟩:=h2;exact hi.inj γ γ' b0 b1 z Jm Hd (qJ.Qk u1) (qJ.Qk u2);rcases h with h|⟨hn,rfl⟩;exact hi.im b h;exact(hi.ru β _ hb).lt (SA hn);rw[ko]at hγ;split at hγ;cases hγ;cases hu.1;rename_i jZ;simp only[yZ]at hγ;obtain⟨b0,Jm,rfl⟩:=hγ;have hu:=qJ.Qk hu;rcases h with h|⟨hn,h⟩;exact hi.Vt γ b0 z Jm hu h;exact jZ (hi.inj γ β b0 _ z Jm hb hu ⟨SA hn,.inl h⟩);by_cases he:γ=β;subst he;rw[hb]at hγ;cases hγ;exact⟨.xH,by simp[ko],rfl⟩;refine⟨b.yz β qw sz es,by simp[ko,he,hγ], ?_⟩;cases b<;>simp[q19,jc,q0c,Pl.kR];rcases h with h|⟨hn,rfl⟩;exact .inl h;exact .inr (.inr ⟨β,_,hb,SA hn,.inl rfl⟩);rw[ko]at hγ;split at hγ;cases hγ;cases hu.1;simp only[yZ]at hγ;obtain⟨b0,Jm,rfl⟩:=hγ;exact .inr ⟨γ,b0,Jm,qJ.Qk hu⟩
structure Inv (w:World) (a:Act) (s:St) (ι:yv) (Im:Nat->Prop) (nt:Nat):Prop where
 heap:zf w s.heap ι Im
 env: ∀t,RA w s.heap ι Im (s.env.get t) (a.tmps.getD t undef)
 nx: ∀β b,s.heap.get β=some b->β<s.nx
 size:nt<=a.tmps.size
 defers:a.defers=[]
theorem Z0(f:AV->AV)(hf:f .undef= .undef): ∀(E:yu)(t:Nat),B! (E.map fun(t,v)=>(t,f v)) t=f (E.get t)
 |[],t=>by simp[B!,hf]
 |(i,v)::r,t=>by simp only[d?,B!];split;rfl;exact Z0 f hf r t
theorem aJ{α:Type}{d:Nat}: ∀(es:List (List α))(i:Nat),(∀ e∈es,e.length=d)-> ∀e(j:Nat) p,es[i]? =some e->e[j]? =some p->es.flatten[i*d+j]? =some p
 |[],i,_,e,j,p,h,_=>by simp at h
 |x::r,0,hl,e,j,p,h,hj=>by simp at h;subst h;have:=(qL hj).1;rw[Nat.zero_mul,O?,U!,t? this];exact hj
 |x::r,i+1,hl,e,j,p,h,hj=>by have hx:=hl x z?;rw[U!,J? (by rw[hx,B?];omega),hx];have ih:=aJ r i (fun e he=>hl e (by simp[he])) e j p (by simpa using h) hj;rw[show (i+1)*d+j-d=i*d+j by rw[B?];omega];exact ih
theorem oV.wc{ds:List Nat}{p:PV}{v:Value}{k:Sk}(h:oV w Im ds p v k):p.wc=true:=by cases h with|V4 p v hs h=>(cases p<;>first|rfl|cases hs)|nil=>rfl|sl=>rfl
theorem oV.pure{kh:Nat->Prop}(hm: ∀b,Im b->kh b){ds:List Nat}{p:PV}{v:Value}{k:Sk}(h:oV w Im ds p v k):(∀ x∈k.blocks,kh x)->RP w kh p v:=by
 induction h with
  |V4 p v hs h=>exact fun _=>h.mono hm fun _ _=>rfl
  |nil d ds=>exact fun _=> .aP 0
  |sl d ds es b o cap ks vs elem fz hb hfz Ej hd hle ho df N6 val K1 hh ih=>
   (intro hk;have hszc:es≠[]->xd d es=d:=fun h=>by cases es with|nil=>exact absurd rfl h|cons _ _=>rfl);have ZN: ∀(i:Nat) e(j:Nat) p,es[i]? =some e->e[j]? =some p->es.flatten[i*d+j]? =some p:=fun i e j p h1 h2=>aJ es i df e j p h1 h2;have jZ: ∀{i:Nat}{e:List PV},es[i]? =some e->es≠[]:=fun h he=>by rw[he]at h;cases h
   have VT: ∀(i:Nat) e(j:Nat) p,es[i]? =some e->e[j]? =some p-> ∃k,ks[i*d+j]? =some k/\oV w Im ds p (val (i*d+j)) k/\RP w kh p (val (i*d+j)):=fun i e j p h1 h2=>by
    have h3:=ZN i e j p h1 h2;have h4:=(qL h3).1;obtain⟨k,Zs⟩: ∃k,ks[i*d+j]? =some k:=⟨ks[i*d+j]'(o?),z?⟩;exact⟨k,Zs,hh _ p k h3 Zs,ih _ p k h3 Zs fun x hx=>hk x (by
     simp only[k!,U?,l!]
     exact .inr ⟨k,zc Zs,hx⟩)⟩
   refine .sl (xd d es) es b o cap val (fun _=>hk b (by simp[k!])) hle (fun e he=>?_) (fun i xS=>?_) (fun i e j p h1 h2=>?_) (fun i e j p h1 h2=>?_) none (fun _=>rfl);rw[hszc (List.ne_nil_of_mem he)];exact df e he;(have hn:es≠[]:=fun he=>by subst he;simp at xS);(rw[hszc hn]at xS;have tJ:=List.length_pos_iff.2 hn;rw[ho o?,O?,gJ hb];have hfll:es.flatten.length=es.length*d:=by clear ZN VT jZ hszc hh ih hk K1 N6 hle hn tJ xS ho;induction es with|nil=>simp|cons x r ih=>rw[U!,s?,ih (fun e he=>df e (by simp[he])),df x z?,b?,B?];omega);exact K1 i o?;obtain⟨k,_,h3,_⟩:=VT i e j p h1 h2;exact h3.wc;rw[hszc (jZ h1)];obtain⟨k,_,_,h3⟩:=VT i e j p h1 h2;exact h3
theorem seal_ok(hi:zf w H ι Im){β:Nat}{qw:Bool}{ds:List Nat}{es:List PV}(hb:H.get β=some (.kj qw ds es none)):
  ∃kh,zf w (H.put β (.row qw 1 (es.map fun p=>[p]))) ι kh/\vj w H ι Im w (H.put β (.row qw 1 (es.map fun p=>[p]))) ι kh:=by
 let kh:Nat->Prop:=fun b=>Im b\/(qw=false/\b∈(ι β).ks.flatMap k!);have hm: ∀b,Im b->kh b:=fun b h=> .inl h;have YE: ∀{x:Nat},qw=false/\x∈(ι β).ks.flatMap k!->(qJ.kj qw ds es none).yi (ι β) x:=fun h=>⟨by simp[y_,h.1],.inr ⟨rfl,h.2⟩⟩;have ep: ∀{x:Nat},(qJ.row qw 1 (es.map fun p=>[p])).yi (ι β) x->qw=false/\x=(ι β).b:=fun h=>by refine⟨by simpa[y_]using h.1, ?_⟩;rcases h.2 with h|⟨h,_⟩;exact h;cases h
 have Sy: ∀{x:Nat},(qJ.row qw 1 (es.map fun p=>[p])).yi (ι β) x->(qJ.kj qw ds es none).yi (ι β) x:=fun h=>⟨by simp[y_,(ep h).1],.inl (ep h).2⟩;have he:vj w H ι Im w (H.put β (.row qw 1 (es.map fun p=>[p]))) ι kh:=by refine⟨fun γ b hγ=>?_,hm,fun b h=>?_,fun γ x z hγ hu=>?_,fun _ _ _=>rfl,ju _,rfl,rfl⟩;by_cases e:γ=β;subst e;rw[hb]at hγ;cases hγ;exact⟨.row qw 1 (es.map fun p=>[p]),by simp[c!],by simp[jc,q0c,Pl.kR]⟩;exact⟨b,by simp[c!,e,hγ],gb _ _⟩;rcases h with h|h;exact .inl h;exact .inr (.inr ⟨β,_,hb,YE h⟩);by_cases e:γ=β;subst e;simp only[c!,if_true,wd]at hγ;subst hγ;exact .inr ⟨γ,_,hb,Sy hu⟩;simp only[c!,e,if_false]at hγ;exact .inr ⟨γ,x,hγ,hu⟩
 have hold: ∀{γ:Nat}{b:qJ},(H.put β (.row qw 1 (es.map fun p=>[p]))).get γ=some b-> ∃b0,H.get γ=some b0/\ ∀{x:Nat},b.yi (ι γ) x->b0.yi (ι γ) x:=fun{γ b} h=>by by_cases e:γ=β;subst e;simp only[c!,if_true,wd]at h;subst h;exact⟨_,hb,Sy⟩;simp only[c!,e,if_false]at h;exact⟨b,h,id⟩
 refine⟨kh,⟨fun γ b hγ=>?_,fun γ γ' b b' z h1 h2 u1 u2=>?_,fun b h=>?_,fun γ b z hγ hu h=>?_,hi.N0,fun b hb=> .inl (hi.VS b hb)⟩,he⟩;by_cases e:γ=β;(subst e;simp only[c!,if_true,wd]at hγ;subst hγ;cases qw with|true=>have:es=[]:=(hi.ru γ _ hb).1;subst this;rfl|false=>(obtain⟨vs,elem,fz,h1,h2,h3,h4,h5,h6,h7,h8,h9⟩:=hi.kj hb;have hg: ∀(i:Nat) e(j:Nat) p,(es.map fun p=>[p])[i]? =some e->e[j]? =some p->j=0/\es[i]? =some p:=by intro i e j p a b;rw[K?,yZ]at a;obtain⟨q,a,rfl⟩:=a;cases j with|zero=>simp at b;subst b;exact⟨rfl,a⟩|succ j=>simp at b);(have hk: ∀{i:Nat}{p:PV},es[i]? =some p-> ∃k,(ι γ).ks[i]? =some k:=fun{i p} a=>by have:=(qL a).1;exact⟨(ι γ).ks[i]'(o?),z?⟩);refine⟨vs,elem,fz,h1,h2,by simpa using h3,o?,by simpa using h4,fun e he=>?_,fun i e j p a b=>?_,fun i e j p a b=>?_⟩;obtain⟨q,_,rfl⟩:=G?.1 he;rfl;obtain⟨rfl,a⟩:=hg i e j p a b;obtain⟨k,c⟩:=hk a;obtain⟨v,_,k2,_⟩:=h9 i p k a c;exact(k2 fun _ _ _ h=>by cases h).wc;obtain⟨rfl,a⟩:=hg i e j p a b;obtain⟨k,c⟩:=hk a;obtain⟨v,k1,k2,_⟩:=h9 i p k a c;refine⟨v,by simpa using k1,(k2 fun _ _ _ h=>by cases h).pure hm fun x hx=> .inr ⟨rfl,l!.2 ⟨k,zc c,hx⟩⟩⟩);simp only[c!,e,if_false]at hγ;exact(hi.ru γ b hγ).mono hi he fun _=>⟨rfl,fun _ _=>rfl⟩;obtain⟨b0,g1,g2⟩:=hold h1;obtain⟨b1,g3,g4⟩:=hold h2;exact hi.inj γ γ' b0 b1 z g1 g3 (g2 u1) (g4 u2);rcases h with h|h;exact hi.im b h;exact(hi.ru β _ hb).cn (YE h);obtain⟨b0,g1,g2⟩:=hold hγ;rcases h with h|h;exact hi.Vt γ b0 z g1 (g2 hu) h;have e:=hi.inj γ β b0 _ z g1 hb (g2 hu) (YE h);subst e;simp only[c!,if_true,wd]at hγ;subst hγ;obtain⟨e1,e2⟩:=ep hu;subst e1;obtain⟨vs,elem,fz,h1,h2,h3,h4,h5,h6,_⟩:=hi.kj hb;rw[e2]at h;exact(i!.1 h6).1 h.2
theorem Jy(f:qJ->qJ)(β:Nat)(y z:qJ): ∀H:qp,k_ ((k_ H β y).map fun(i,b)=>(i,f b)) β z=k_ (H.map fun(i,b)=>(i,f b)) β z
 |[]=>by simp[k_]
 |(i,b)::r=>by by_cases h:i=β;simp[k_,h];simp only[k_,h,if_false,d?];rw[Jy f β y z r]
theorem F1{a:Act}{s:St}{nt:Nat}(h:Inv w a s ι Im nt)(β:Nat):
  ∃kh,Inv w a (freeze β s) ι kh nt/\vj w s.heap ι Im w (freeze β s).heap ι kh:=by unfold freeze;split;rename_i qw sz es hb;obtain⟨h1,h2⟩:=YA h.heap hb;refine⟨_,⟨h1,fun t=>?_,fun γ b hγ=>?_,h.size,h.defers⟩,h2⟩;show RA w _ ι _ (B! (s.env.map fun(t,v)=>(t,v.yz β qw sz es)) t) _;rw[Z0 _ rfl];exact Ku h.heap hb (h.env t);have hγ' :(ui β qw sz es s.heap).get γ=some b:=hγ;rw[ko]at hγ';split at hγ';rename_i e;subst e;exact h.nx γ _ hb;simp only[yZ]at hγ';obtain⟨b0,Jm,_⟩:=hγ';exact h.nx γ b0 Jm;(rename_i qw ds es hb;obtain⟨iX,q1,q2⟩:=seal_ok h.heap hb;have Hd:(s.heap.put β (.row qw 1 (es.map fun p=>[p]))).get β=some (.row qw 1 (es.map fun p=>[p])):=by simp[c!]);obtain⟨h1,h2⟩:=YA q1 Hd;have hf:ui β qw 1 (es.map fun p=>[p]) (s.heap.put β (.row qw 1 (es.map fun p=>[p])))=k_ (s.heap.map fun(i,b)=>(i,b.yz β qw 1 (es.map fun p=>[p]))) β .xH:=Jy _ _ _ _ _;have JW:=fun t=>Ku q1 Hd ((h.env t).mono h.heap q2);rw[hf]at h1 h2;refine⟨_,⟨h1,fun t=>?_,fun γ b hγ=>?_,h.size,h.defers⟩,q2.trans h2⟩;show RA w _ ι _ (B! (s.env.map fun(t,v)=>(t,v.yz β qw 1 (es.map fun p=>[p]))) t) _;rw[Z0 _ rfl,<- hf];exact JW t;have hγ' :(k_ (s.heap.map fun(i,b)=>(i,b.yz β qw 1 (es.map fun p=>[p]))) β .xH).get γ=some b:=hγ;rw[<- hf,ko]at hγ';split at hγ';rename_i e;subst e;exact h.nx γ _ hb;rename_i e;simp only[yZ,c!,e,if_false]at hγ';obtain⟨b0,Jm,_⟩:=hγ';exact h.nx γ b0 Jm;exact⟨Im,h,G! _ _ _ _⟩
theorem tH{a:Act}{nt:Nat}: ∀(l:List Nat){s:St}{Im:Nat->Prop},Inv w a s ι Im nt->
  ∃kh,Inv w a (gf l s) ι kh nt/\vj w s.heap ι Im w (gf l s).heap ι kh
 |[],s,Im,h=>⟨Im,h,G! _ _ _ _⟩
 |β::r,s,Im,h=>by obtain⟨iX,h1,e1⟩:=F1 h β;obtain⟨Gs,h2,e2⟩:=tH r h1;exact⟨Gs,h2,e1.trans e2⟩
end
section
variable [xn] {P:Program} {w:World} {H:qp} {ι:yv} {Im:Nat->Prop}
theorem We(hi:zf w H ι Im){β γ:Nat}(jZ:β≠γ){x y z:qJ}{p q:Pl}(hx:H.get β=some x)
  (cb:jc x y (ι β) p) (cg: ∀c,H.get γ=some c->jc c z (ι γ) q)
  (fy: ∀t,y.yi p t->x.yi (ι β) t\/ ∃c,H.get γ=some c/\c.yi (ι γ) t)
  (fz: ∀t,z.yi q t->x.yi (ι β) t\/ ∃c,H.get γ=some c/\c.yi (ι γ) t)
  (dis: ∀t,y.yi p t->z.yi q t->False)
  (mw:vj w H ι Im w ((H.put β y).put γ z) (kl (kl ι β p) γ q) Im->rA w ((H.put β y).put γ z) (kl (kl ι β p) γ q) Im β y)
  (bz:vj w H ι Im w ((H.put β y).put γ z) (kl (kl ι β p) γ q) Im->rA w ((H.put β y).put γ z) (kl (kl ι β p) γ q) Im γ z):
  zf w ((H.put β y).put γ z) (kl (kl ι β p) γ q) Im/\vj w H ι Im w ((H.put β y).put γ z) (kl (kl ι β p) γ q) Im:=by
 have get: ∀δ,((H.put β y).put γ z).get δ=if δ=γ then some z else if δ=β then some y else H.get δ:=fun δ=>by rw[c!];split;rfl;rw[c!]
 have pg:kl (kl ι β p) γ q γ=q:=z?;have pb:kl (kl ι β p) γ q β=p:=by rw[pw _ _ jZ];simp
 have po: ∀{δ},δ≠β->δ≠γ->kl (kl ι β p) γ q δ=ι δ:=fun h1 h2=>by rw[pw _ _ h2,pw _ _ h1]
 have NJ: ∀{δ:Nat}{b:qJ}{t:Nat},((H.put β y).put γ z).get δ=some b->b.yi (kl (kl ι β p) γ q δ) t-> ∃δ0 b0,H.get δ0=some b0/\b0.yi (ι δ0) t/\((δ=δ0/\δ≠β/\δ≠γ)\/((δ=β\/δ=γ)/\(δ0=β\/δ0=γ))):=by intro δ b t h1 h2;rw[get]at h1;by_cases e1:δ=γ;subst e1;rw[if_pos rfl]at h1;cases h1;rw[pg]at h2;rcases fz t h2 with h|⟨c,g1,g2⟩;exact⟨β,x,hx,h,.inr ⟨.inr rfl,.inl rfl⟩⟩;exact⟨δ,c,g1,g2,.inr ⟨.inr rfl,.inr rfl⟩⟩;rw[if_neg e1]at h1;by_cases e2:δ=β;subst e2;rw[if_pos rfl]at h1;cases h1;rw[pb]at h2;rcases fy t h2 with h|⟨c,g1,g2⟩;exact⟨δ,x,hx,h,.inr ⟨.inl rfl,.inl rfl⟩⟩;exact⟨γ,c,g1,g2,.inr ⟨.inl rfl,.inr rfl⟩⟩;rw[if_neg e2]at h1;rw[po e2 e1]at h2;exact⟨δ,b,h1,h2,.inl ⟨rfl,e2,e1⟩⟩
 have he:vj w H ι Im w ((H.put β y).put γ z) (kl (kl ι β p) γ q) Im:=by refine⟨fun δ b hb=>?_,fun _ h=>h,fun _ h=> .inl h,fun δ b t h1 h2=>?_,fun _ _ _=>rfl,ju _,rfl,rfl⟩;by_cases e1:δ=γ;subst e1;exact⟨z,by rw[get,if_pos rfl],by rw[pg];exact cg b hb⟩;by_cases e2:δ=β;subst e2;rw[hx]at hb;cases hb;exact⟨y,by rw[get,if_neg e1,if_pos rfl],by rw[pb];exact cb⟩;exact⟨b,by rw[get,if_neg e1,if_neg e2];exact hb,by rw[po e2 e1];exact gb _ _⟩;obtain⟨δ0,b0,g1,g2,_⟩:=NJ h1 h2;exact .inr ⟨δ0,b0,g1,g2⟩
 refine⟨⟨fun δ b hb=>?_,fun δ δ' b b' t h1 h2 u1 u2=>?_,hi.im,fun δ b t h1 h2=>?_,hi.N0,hi.VS⟩,he⟩;have jD:=hb;rw[get]at hb;by_cases e1:δ=γ;subst e1;rw[if_pos rfl]at hb;cases hb;exact bz he;rw[if_neg e1]at hb;by_cases e2:δ=β;subst e2;rw[if_pos rfl]at hb;cases hb;exact mw he;rw[if_neg e2]at hb;exact(hi.ru δ b hb).mono hi he fun _=>⟨po e2 e1,fun _ _=>rfl⟩;obtain⟨δ0,b0,g1,g2,g3⟩:=NJ h1 u1;obtain⟨δ1,b1,k1,k2,k3⟩:=NJ h2 u2;have e:=hi.inj δ0 δ1 b0 b1 t g1 k1 g2 k2;subst e;rcases g3 with ⟨rfl,n1,n2⟩|⟨g3,g4⟩;rcases k3 with ⟨rfl,_,_⟩|⟨_,k4⟩;rfl;rcases k4 with h|h;exact absurd h n1;exact absurd h n2;rcases k3 with ⟨rfl,n1,n2⟩|⟨k3,k4⟩;rcases g4 with h|h;exact absurd h n1;exact absurd h n2;rw[get]at h1 h2;rcases g3 with rfl|rfl<;>rcases k3 with rfl|rfl;rfl;rw[if_neg jZ,if_pos rfl]at h1;rw[if_pos rfl]at h2;cases h1;cases h2;rw[pb]at u1;rw[pg]at u2;exact(dis t u1 u2).elim;rw[if_neg jZ,if_pos rfl]at h2;rw[if_pos rfl]at h1;cases h1;cases h2;rw[pb]at u2;rw[pg]at u1;exact(dis t u2 u1).elim;rfl;obtain⟨δ0,b0,g1,g2,_⟩:=NJ h1 h2;exact hi.Vt δ0 b0 t g1 g2
theorem eW: ∀{ks:List Sk}{i:Nat}{k:Sk},ks[i]? =some k->(ks.flatMap k!).Nodup->(∀ x∈k.blocks,x∈ks.flatMap k!/\x∉(ks.set i .leaf).flatMap k!)/\k.blocks.Nodup
 |[],i,k,h,_=>by simp at h
 |a::r,0,k,h,hn=>by simp at h;subst h;rw[T?,D?]at hn;refine⟨fun x hx=>⟨by simp[hx],fun L5=>?_⟩,hn.1⟩;simp only[q09,T?,k!,List.nil_append]at L5;exact hn.2.2 x hx x L5 rfl
 |a::r,i+1,k,h,hn=>by rw[T?,D?]at hn;obtain⟨ih1,ih2⟩:=eW (ks:=r) (i:=i) (by simpa using h) hn.2.1;refine⟨fun x hx=>?_,ih2⟩;obtain⟨j1,j2⟩:=ih1 x hx;refine⟨by rw[T?];exact f_ _ j1,fun L5=>?_⟩;rw[q0a,T?]at L5;rcases p?.1 L5 with h2|h2;exact hn.2.2 x h2 x j1 rfl;exact j2 h2
theorem Ji{α:Type}{d:Nat}(hd:0<d): ∀(es:List (List α)),(∀ e∈es,e.length=d)-> ∀(m:Nat) p,es.flatten[m]? =some p-> ∃e,es[m / d]? =some e/\e[m % d]? =some p
 |[],_,m,p,h=>by simp at h
 |x::r,hl,m,p,h=>by have hx:=hl x z?;by_cases hm:m<d;rw[U!,t? o?]at h;exact⟨x,by rw[Nat.div_eq_of_lt hm];rfl,by rw[Nat.mod_eq_of_lt hm];exact h⟩;(rw[U!,J? o?,hx]at h;obtain⟨e,h1,h2⟩:=Ji hd r (fun e he=>hl e (by simp[he])) (m-d) p h;have e1:m / d=(m-d) / d+1:=by rw[Nat.div_eq_sub_div hd o?]);(have e2:m % d=(m-d) % d:=by rw[Nat.mod_eq_sub_mod o?]);exact⟨e,by rw[e1];simpa using h1,by rw[e2];exact h2⟩
theorem lC{α:Type}{d:Nat}: ∀(es:List (List α)),(∀ e∈es,e.length=d)->es.flatten.length=es.length*d
 |[],_=>z?
 |x::r,hl=>by rw[U!,s?,lC r (fun e he=>hl e (by simp[he])),hl x z?,b?,B?];omega
theorem lD{α:Type}(es:List α):(es.map fun p=>[p]).flatten=es:=by induction es with|nil=>rfl|cons x r ih=>simp[ih]
def Sk.pl:Sk->Pl
 | .leaf=>⟨0,0,[]⟩
 | .node b cap ks=>⟨b,cap,ks⟩
theorem DW(hi:zf w H ι Im){nx:Nat}(jf: ∀β b,H.get β=some b->β<nx){β i γ fj:Nat}{H' :qp}(h:H7 H nx β i=some (H',fj,γ)):
  ∃ι',zf w H' ι' Im/\vj w H ι Im w H' ι' Im/\ ∀β b,H'.get β=some b->β<fj:=by
 unfold H7 at h;split at h
 ·rename_i ei es hb;split at h;rotate_left;cases h;rename_i d ds;split at h;rotate_left;cases h;rename_i qw sz og hp;split at h;rotate_left;cases h;(rename_i ru oW;cases h;obtain⟨vs,elem,fz,h1,h2,h3,h4,h5,h6,h7,h8,h9⟩:=hi.kj hb;obtain⟨Ee,Sw⟩:=i!.1 h6;have eo:=(qL hp).1;obtain⟨k,hk⟩: ∃k,(ι β).ks[i]? =some k:=⟨(ι β).ks[i]'(o?),z?⟩;obtain⟨v,k1,k2,_⟩:=h9 i _ k hp hk;have hO:=k2 fun _ _ _ h=>by cases h);(obtain⟨mF,Fj⟩:=eW hk Sw;have jZ:β≠nx:=fun e=>by have:=jf β _ hb;omega);(have om:H.get nx=none:=by cases hh:H.get nx with|none=>rfl|some b=>have:=jf nx b hh;omega);(have key: ∀(H' :qp)(ι' :yv),ι' nx=k.pl->H'.get nx=some ru->rA w H' ι' Im nx ru/\RA w H' ι' Im (.row nx og.length 0 og.length) v/\(∀ t,ru.yi k.pl t->t∈k.blocks):=by intro H' ι' dg pW;cases hO with|nil=>unfold H5 at oW;split at oW;cases oW;refine⟨rfl,.row _ _ _ _ _ _ rfl pW (fun _=>⟨_,_,_,rfl⟩) (fun _ _ _ e=>by cases e;exact ju _) (fun _ _ _ e _=>by cases e;exact⟨z?,rfl⟩),fun t ht=>?_⟩;exact absurd ht.1 (by simp[y_]);split at oW<;>cases oW;refine⟨⟨rfl,rfl⟩,.row _ _ _ _ _ _ rfl pW (fun _=>⟨_,_,_,rfl⟩) (fun _ _ _ e=>by cases e;exact ju _) (fun _ _ _ e _=>by cases e;exact⟨z?,rfl⟩),fun t ht=>?_⟩;exact absurd ht.1 (by simp[y_])|sl _ _ _ b o cap ks ee elem' fz' q1 q2 q3 q4 q5 q6 q7 q8 val q9 q10=>(have Wm:(ι' nx)=⟨b,cap,ks⟩:=dg;have hhead: ∀(bl:qJ)(sz:Nat),bl.sh=some (false,sz,og.length)->H'.get nx=some bl->RA w H' ι' Im (.row nx og.length 0 og.length) (.slice (some ⟨b,o,none⟩) og.length cap):=by intro bl sz hsh hg;refine .row _ _ _ _ _ _ rfl hg (fun _=>⟨_,_,_,hsh⟩) (fun _ _ _ e=>by rw[hsh]at e;cases e;exact ju _) (fun _ _ _ e _=>?_);rw[hsh]at e;cases e;refine⟨z?, ?_⟩;simp only[wH,if_false,Wm];exact⟨⟨b,o,none⟩,z?,rfl,rfl,fun hc=>by rw[q6 hc];simp⟩);(have N6:(Sk.node b cap ks).blocks=b::ks.flatMap k!:=by simp[k!]);have hbl: ∀x∈ks.flatMap k!,x<w.heap.size:=fun x hx=>h7 x (mF x (by rw[N6];simp[hx])).1;unfold H5 at oW;split at oW;cases oW;refine⟨⟨ee,elem',fz',by rw[Wm];exact q1,q2,by rw[Wm];exact q3,q4,by rw[Wm];exact q5,q7,fun i e j p a c=>?_,fun i e j p a c=>?_⟩,hhead _ _ rfl pW,fun t ht=>?_⟩;have hf:=aJ og i q7 e j p a c;have:=(qL hf).1;obtain⟨k',Zs⟩: ∃k',ks[i*d+j]? =some k' :=⟨ks[i*d+j]'(o?),z?⟩;exact(q10 _ p k' hf Zs).wc;(have hf:=aJ og i q7 e j p a c;have:=(qL hf).1;obtain⟨k',Zs⟩: ∃k',ks[i*d+j]? =some k' :=⟨ks[i*d+j]'(o?),z?⟩;refine⟨val (i*d+j),q9 _ this, ?_⟩;have h0:=q10 _ p k' hf Zs;generalize val (i*d+j)=u at h0;cases h0 with|V4 _ _ _ h=>exact h);rw[N6];rcases ht.2 with h|⟨h,_⟩;rw[h];simp[Sk.pl];cases h;(rename_i d1 ds1;split at oW<;>cases oW;rename_i hd1;subst hd1;have ZN:og.flatten.length=og.length:=by rw[lC og q7,Nat.mul_one]);refine⟨⟨ee,elem',fz',by rw[Wm];exact q1,q2,by rw[Wm];simpa using q3,by rw[Wm,ZN];exact q5,by rw[Wm];exact q8, ?_, ?_,fun _ _ _ h=>(by cases h),fun i p k' a c=>?_⟩, ?_,fun t ht=>?_⟩;rw[Wm];rw[N6]at Fj;exact Fj;rw[Wm];exact hbl;rw[Wm]at c;have:=(qL a).1;exact⟨val i,q9 _ this,fun _=>q10 i p k' a c,fun _ _ h=>by cases h⟩;exact hhead _ 1 (by simp only[q0c,ZN]) pW;rw[N6];rcases ht.2 with h|⟨_,h⟩;rw[h];simp[Sk.pl];exact List.mem_cons_of_mem _ h);(refine⟨kl (kl ι β ⟨(ι β).b,(ι β).cap,(ι β).ks.set i .leaf⟩) nx k.pl, ?_⟩;have hgn:((H.put β (.kj false (d::ds) es (some (i,nx,og.length)))).put nx ru).get nx=some ru:=by simp[c!]);obtain⟨m1,m2,m3⟩:=key _ (kl (kl ι β ⟨(ι β).b,(ι β).cap,(ι β).ks.set i .leaf⟩) nx k.pl) z? hgn;have pb:kl (kl ι β ⟨(ι β).b,(ι β).cap,(ι β).ks.set i .leaf⟩) nx k.pl β=⟨(ι β).b,(ι β).cap,(ι β).ks.set i .leaf⟩:=by rw[pw _ _ jZ];simp
  have gg:=We hi jZ (y:= .kj false (d::ds) es (some (i,nx,og.length))) (z:=ru) (p:=⟨(ι β).b,(ι β).cap,(ι β).ks.set i .leaf⟩) (q:=k.pl) hb (by simp[jc,q0c,Pl.kR]) (fun c hc=>by rw[om]at hc;cases hc)
   (fun t ht=> .inl ⟨rfl,ht.2.imp id fun h=>⟨rfl,tG h.2⟩⟩) (fun t ht=> .inl ⟨rfl,.inr ⟨rfl,(mF t (m3 t ht)).1⟩⟩)
   (fun t ht hz=>by
    have hz' :=m3 t hz
    rcases ht.2 with h|⟨_,h⟩
    ·exact Ee (h ▸ (mF t hz').1)
    exact(mF t hz').2 h)
   (fun mE=>by
    refine⟨vs,elem,fz,by rw[pb];exact h1,h2,by rw[pb];exact h3,by rw[pb];exact h4,by rw[pb];simpa using h5,by rw[pb];exact i!.2 ⟨fun h=>Ee (tG h),XU Sw⟩,fun x hx=>h7 x (by rw[pb]at hx;exact tG hx),fun j γ' xm hf=>(by cases hf;exact eo),fun i' p k' a c=>?_⟩
    rw[pb]at c
    by_cases e:i=i'
    ·subst e
     rw[d_ o?]at c
     cases c
     exact⟨v,k1,fun h=>absurd rfl (h _ _ _ rfl),fun γ' xm hf=>by cases hf;exact⟨rfl,m2⟩⟩
    rw[S' e]at c
    obtain⟨v',g1,g2,_⟩:=h9 i' p k' a c
    exact⟨v',g1,fun _=>g2 fun _ _ _ h=>(by cases h),fun γ' xm hf=>by cases hf;exact absurd rfl e⟩)
   (fun _=>m1)
  refine⟨gg.1,gg.2,fun δ b hδ=>?_⟩;rw[c!]at hδ;split at hδ;omega;rw[c!]at hδ;split at hδ;rename_i e;have:=jf β _ hb;omega;have:=jf δ b hδ;omega
 split at h<;>cases h;exact⟨ι,hi,G! _ _ _ _,jf⟩;cases h
theorem Wb: ∀(l:List Nat){H:qp}{ι:yv}{nx β:Nat},zf w H ι Im->(∀ β b,H.get β=some b->β<nx)->
  ∃ι',zf w (dw H nx β l).1 ι' Im/\vj w H ι Im w (dw H nx β l).1 ι' Im/\ ∀δ b,(dw H nx β l).1.get δ=some b->δ<(dw H nx β l).2
 |[],H,ι,nx,β,hi,jf=>⟨ι,hi,G! _ _ _ _,jf⟩
 |i::r,H,ι,nx,β,hi,jf=>by unfold dw;split;rename_i H' fj γ h;obtain⟨ι1,a1,a2,a3⟩:=DW hi jf h;obtain⟨ι2,b1,b2,b3⟩:=Wb r (β:=γ) a1 a3;exact⟨ι2,b1,a2.trans b2,b3⟩;exact⟨ι,hi,G! _ _ _ _,jf⟩
theorem o9{ks:List Sk}{i x:Nat}{k:Sk}(h:x∈(ks.set i k).flatMap k!):x∈ks.flatMap k!\/x∈k.blocks:=by rw[l!]at h;obtain⟨k',hk,hx⟩:=h;rcases n! hk with h|h;exact .inl (l!.2 ⟨k',h,hx⟩);subst h;exact .inr hx
theorem U1: ∀{ks:List Sk}{i:Nat}{k:Sk},(ks.flatMap k!).Nodup->k.blocks.Nodup->(∀ x∈k.blocks,x∉ks.flatMap k!)->((ks.set i k).flatMap k!).Nodup
 |[],i,k,h,_,_=>z?
 |a::r,0,k,h,hk,hd=>by rw[T?,D?]at h;rw[q09,T?,D?];exact⟨hk,h.2.1,fun x hx y hy e=>hd x hx (by rw[T?,e];exact f_ _ hy)⟩
 |a::r,i+1,k,h,hk,hd=>by rw[T?,D?]at h;rw[q0a,T?,D?];refine⟨h.1,U1 h.2.1 hk fun x hx hy=>hd x hx (by rw[T?];exact f_ _ hy),fun x hx y hy e=>?_⟩;subst e;rcases o9 hy with h2|h2;exact h.2.2 x hx x h2 rfl;exact hd x h2 (by rw[T?];exact List.mem_append_left _ hx)
theorem Mm{es:List (List PV)}(h:cr es=true){e:List PV}(he:e∈es){p:PV}(hp:p∈e):p.V4=true:=by unfold cr at h;rw[V!]at h;have:=h e he;rw[V!]at this;exact this p hp
theorem TE(hi:zf w H ι Im){γ:Nat}{b:qJ}(hg:H.get γ=some b){d:Nat}{ds:List Nat}{xm:Nat}{p:PV}(hp:X2 d ds xm b=some p){v:Value}(hv:RA w H ι Im (.row γ xm 0 xm) v):
  ∃k,oV w Im (d::ds) p v k/\k.blocks.Nodup/\(∀ x∈k.blocks,b.yi (ι γ) x)/\(∃ a,b.sh=some a):=by
 cases hv with
  |row _ _ _ _ _ b' ho jD hk jJ h=>
   rw[hg]at jD;cases jD;unfold X2 at hp;split at hp;{rename_i qw sz es;split at hp;rotate_left;cases hp;split at hp<;>cases hp;rename_i hc;obtain⟨rfl,ml,hsc⟩:=hc;obtain⟨_,h2⟩:=h _ _ _ rfl rfl;cases qw with|true=>simp only[if_true]at h2;subst h2;have df:es=[]:=hi.ru γ _ hg;subst df;exact⟨.leaf,.nil d [],by simp[Sk.blocks],by simp[Sk.blocks],_,rfl⟩|false=>(have ml:sz=d:=by simpa using ml);(subst ml;simp only[wH,if_false]at h2;obtain⟨⟨ab,ao,Dq⟩,rfl,oL,ay,Qa⟩:=h2;simp only at oL ay Qa;subst oL ay;obtain⟨vs,elem,fz,g1,g2,g3,g4,g5,g6,g7,g8⟩:=hi.row hg;have ZN:=lC es g6;have hle:es.length*sz<=vs.size:=by rw[g3];exact mulR _ g5);refine⟨.node (ι γ).b (ι γ).cap (List.replicate es.flatten.length .leaf), ?_, ?_, ?_,_,rfl⟩;refine .sl sz [] es (ι γ).b ao (ι γ).cap _ vs elem fz g1 g2 g3 g4 g5 (fun hc=>by rw[Qa hc];simp) g6 z? (fun i=>(vs[i]?).getD undef) (fun i xS=>?_) (fun i p k a c=>?_);have:i<vs.size:=o?;simp[this];(obtain⟨e,e1,e2⟩:=Ji g4 es g6 i p a;obtain⟨v0,k1,k2⟩:=g8 _ e _ p e1 e2;rw[show i / sz*sz+i % sz=i by rw[Nat.mul_comm];exact Nat.div_add_mod i sz]at k1;have hk:k= .leaf:=by have:=zc c;exact(List.mem_replicate.1 this).2);subst hk;simp only[k1,Option.getD_some];exact .V4 p v0 (Mm hsc (zc e1) (zc e2)) k2;(have:(List.replicate es.flatten.length Sk.leaf).flatMap Sk.blocks=[]:=by rw[List.flatMap_eq_nil_iff];intro x hx;rw[(List.mem_replicate.1 hx).2];simp[Sk.blocks]);simp only[Sk.blocks,this];simp;(intro x hx;have:(List.replicate es.flatten.length Sk.leaf).flatMap Sk.blocks=[]:=by rw[List.flatMap_eq_nil_iff];intro x hx;rw[(List.mem_replicate.1 hx).2];simp[Sk.blocks]);simp only[Sk.blocks,this,List.mem_singleton]at hx;exact⟨rfl,.inl hx⟩}
   ·rename_i qw Sa es;split at hp;cases hp
    rename_i d1 ds1;split at hp<;>cases hp;rename_i hc;obtain⟨rfl,rfl,rfl⟩:=hc;obtain⟨_,h2⟩:=h _ _ _ rfl rfl;cases qw with
     |true=>simp only[if_true]at h2;subst h2;have df:es=[]:=(hi.ru γ _ hg).1;subst df;exact⟨.leaf,.nil 1 _,by simp[Sk.blocks],by simp[Sk.blocks],_,rfl⟩
     |false=>
      simp only[wH,if_false]at h2;obtain⟨⟨ab,ao,Dq⟩,rfl,oL,ay,Qa⟩:=h2;simp only at oL ay Qa;subst oL ay;obtain⟨vs,elem,fz,g1,g2,g3,g4,g5,g6,g7,g8,g9⟩:=hi.kj hg;have hlen:(es.map fun p=>[p]).length=es.length:=z?;refine⟨.node (ι γ).b (ι γ).cap (ι γ).ks, ?_, ?_, ?_,_,rfl⟩
      ·have:=oV.sl (w:=w) (Im:=Im) 1 (d1::ds1) (es.map fun p=>[p]) (ι γ).b ao (ι γ).cap (ι γ).ks vs elem fz g1 g2 (by simpa using g3) o? (by simpa using g4) (fun hc=>by have:=Qa hc;omega) (fun e he=>by
        obtain⟨q,_,rfl⟩:=List.mem_map.1 he
        rfl) (by rw[lD];exact g5) (fun i=>(vs[i]?).getD undef) (fun i xS=>by
        rw[lD]at xS
        have:i<vs.size:=o?
        simp[this]) (fun i p k a c=>by
        rw[lD]at a
        obtain⟨v0,k1,k2,_⟩:=g9 i p k a c
        simp only[k1,Option.getD_some]
        exact k2 fun _ _ _ h=>by cases h)
       rw[hlen]at this;exact this
      simp only[Sk.blocks];exact g6;intro x hx;simp only[Sk.blocks,List.mem_cons]at hx;exact⟨rfl,hx.imp id fun h=>⟨rfl,h⟩⟩
   cases hp
theorem pack1_ok(hi:zf w H ι Im)(β:Nat): ∃ι',zf w (U6 H β) ι' Im/\vj w H ι Im w (U6 H β) ι' Im/\ ∀δ b,(U6 H β).get δ=some b-> ∃b0,H.get δ=some b0:=by
 have Vc: ∃ι',zf w H ι' Im/\vj w H ι Im w H ι' Im/\ ∀δ b,H.get δ=some b-> ∃b0,H.get δ=some b0:=⟨ι,hi,G! _ _ _ _,fun _ b h=>⟨b,h⟩⟩;unfold U6;split
 ·rename_i d ds es i γ xm hb;split
  ·rename_i b hg;split
   ·(rename_i p hp;obtain⟨vs,elem,fz,h1,h2,h3,h4,h5,h6,h7,h8,h9⟩:=hi.kj hb;obtain⟨Ee,Sw⟩:=i!.1 h6;have eo:=h8 _ _ _ rfl;obtain⟨v,k1,_,k3⟩:=h9 i es[i] (ι β).ks[i] (by simp[eo]) z?;obtain⟨k4,k5⟩:=k3 _ _ rfl;obtain⟨k,m1,m2,m3,⟨sh,m4⟩⟩:=TE hi hg hp k5;have jZ:β≠γ:=by intro e;subst e;rw[hb]at hg;cases hg;simp[X2]at hp);have hdisj: ∀x∈k.blocks,¬ (qJ.kj false (d::ds) es (some (i,γ,xm))).yi (ι β) x:=fun x hx hf=>jZ (hi.inj β γ _ _ x hb hg hf (m3 x hx));have pb:kl (kl ι β ⟨(ι β).b,(ι β).cap,(ι β).ks.set i k⟩) γ (ι γ) β=⟨(ι β).b,(ι β).cap,(ι β).ks.set i k⟩:=by rw[pw _ _ jZ];simp
    refine⟨kl (kl ι β ⟨(ι β).b,(ι β).cap,(ι β).ks.set i k⟩) γ (ι γ), ?_⟩;have gg:=We hi jZ (y:= .kj false (d::ds) (es.set i p) none) (z:= .xH) (p:=⟨(ι β).b,(ι β).cap,(ι β).ks.set i k⟩) (q:=ι γ) hb (by simp[jc,q0c,Pl.kR]) (fun c hc=>by
      rw[hg]at hc
      cases hc
      unfold jc
      rw[m4]
      rfl)
     (fun t ht=>by
      rcases ht.2 with h|⟨_,h⟩
      ·exact .inl ⟨rfl,.inl h⟩
      rcases o9 h with h|h
      ·exact .inl ⟨rfl,.inr ⟨rfl,h⟩⟩
      exact .inr ⟨b,hg,m3 t h⟩) (fun t ht=>absurd ht.1 (by simp[y_])) (fun t _ ht=>absurd ht.1 (by simp[y_]))
     (fun mE=>by
      refine⟨vs,elem,fz,by rw[pb];exact h1,h2,by rw[pb];exact h3,by rw[pb];simpa using h4,by rw[pb];simpa using h5, ?_,fun x hx=>?_,fun _ _ _ h=>(by cases h),fun i' p' k' a c=>?_⟩
      ·rw[pb]
       refine i!.2 ⟨fun h=>?_,U1 Sw m2 fun x hx h=>hdisj x hx ⟨rfl,.inr ⟨rfl,h⟩⟩⟩
       rcases o9 h with h|h
       ·exact Ee h
       exact hdisj _ h ⟨rfl,.inl rfl⟩
      ·rw[pb]at hx
       rcases o9 hx with h|h
       ·exact h7 x h
       exact(hi.ru γ b hg).cn (m3 x h)
      rw[pb]at c
      by_cases e:i=i'
      ·subst e
       rw[d_ o?]at a c
       cases a
       cases c
       exact⟨v,k1,fun _=>m1,fun _ _ h=>by cases h⟩
      rw[S' e]at a c
      obtain⟨v',g1,g2,_⟩:=h9 i' p' k' a c
      exact⟨v',g1,fun _=>g2 fun j γ' ver' hf=>by cases hf;exact fun e' =>e e'.symm,fun _ _ h=>by cases h⟩)
     (fun _=>trivial)
    refine⟨gg.1,gg.2,fun δ b' hδ=>?_⟩;rw[c!]at hδ;split at hδ;rename_i e;subst e;exact⟨_,hg⟩;rw[c!]at hδ;split at hδ;rename_i e;subst e;exact⟨_,hb⟩;exact⟨_,hδ⟩
   exact Vc
  exact Vc
 exact Vc
theorem NP: ∀(n:Nat){H:qp}{ι:yv},zf w H ι Im-> ∀β,∃ ι',zf w (WT n H β) ι' Im/\vj w H ι Im w (WT n H β) ι' Im/\ ∀δ b,(WT n H β).get δ=some b-> ∃b0,H.get δ=some b0
 |0,H,ι,hi,β=>⟨ι,hi,G! _ _ _ _,fun _ b h=>⟨b,h⟩⟩
 |n+1,H,ι,hi,β=>by
  unfold WT;split
  ·rename_i x hb;obtain⟨ι1,a1,a2,a3⟩:=NP n hi x.2.1;obtain⟨ι2,b1,b2,b3⟩:=pack1_ok a1 β;exact⟨ι2,b1,a2.trans b2,fun δ b h=>by
    obtain⟨b0,h0⟩:=b3 δ b h
    exact a3 δ b0 h0⟩
  exact⟨ι,hi,G! _ _ _ _,fun _ b h=>⟨b,h⟩⟩
theorem cut_ok(hi:zf w H ι Im){nx:Nat}(jf: ∀β b,H.get β=some b->β<nx){β n l:Nat}{b y:qJ}(hb:H.get β=some b)(hc:W0 n b=some (l,y)):
  ∃ι',zf w ((H.put β .xH).put nx y) ι' Im/\vj w H ι Im w ((H.put β .xH).put nx y) ι' Im/\(∀ v,RA w H ι Im (.row β l 0 n) v->RA w ((H.put β .xH).put nx y) ι' Im (.row nx n 0 n) v)/\
   ∀δ b,((H.put β .xH).put nx y).get δ=some b->δ<nx+1:=by
 have jZ:β≠nx:=fun e=>by have:=jf β _ hb;omega
 have om:H.get nx=none:=by cases hh:H.get nx with|none=>rfl|some b=>have:=jf nx b hh;omega
 have hgn:((H.put β .xH).put nx y).get nx=some y:=by simp[qp.zm]
 have xS: ∀δ b,((H.put β .xH).put nx y).get δ=some b->δ<nx+1:=fun δ b hδ=>by rw[qp.zm]at hδ;split at hδ;omega;rw[qp.zm]at hδ;split at hδ;rename_i e;have:=jf β _ hb;omega;have:=jf δ b hδ;omega
 have head: ∀(ι' :yv)(sz:Nat),(ι' nx).b=(ι β).b->(ι' nx).cap=(ι β).cap->y.sh=some (false,sz,n)->b.sh=some (false,sz,l)-> ∀v,RA w H ι Im (.row β l 0 n) v->RA w ((H.put β .xH).put nx y) ι' Im (.row nx n 0 n) v:=by intro ι' sz e1 e2 hy hbs v hv;cases hv with|row _ _ _ _ _ b' ho jD hk jJ h=>rw[hb]at jD;cases jD;obtain⟨_,h2⟩:=h _ _ _ hbs rfl;refine .row _ _ _ _ _ _ ho hgn (fun _=>⟨_,_,_,hy⟩) (fun _ _ _ e=>by rw[hy]at e;cases e;exact ju _) (fun _ _ _ e _=>?_);rw[hy]at e;cases e;refine⟨z?, ?_⟩;simp only[wH,if_false]at h2 |-;rw[e1,e2];exact h2
 unfold W0 at hc;split at hc
 ·rename_i sz es;split at hc<;>cases hc;rename_i hle;obtain⟨vs,elem,fz,g1,g2,g3,g4,g5,g6,g7,g8⟩:=hi.row hb;have pn:kl (kl ι β (ι β)) nx (ι β) nx=ι β:=z?;have gg:=We hi jZ (y:= .xH) (z:= .row false sz (es.take n)) (p:=ι β) (q:=ι β) hb (by simp[jc,qJ.sh]) (fun c hc=>by rw[om]at hc;cases hc)
   (fun t ht=>absurd ht.1 (by simp[qJ.used])) (fun t ht=> .inl ⟨rfl,ht.2.imp id fun h=>absurd h.1 (by simp[qJ.SE])⟩) (fun t ht _=>absurd ht.1 (by simp[qJ.used])) (fun _=>trivial)
   (fun mE=>⟨vs,elem,fz,by rw[pn];exact g1,g2,by rw[pn];exact g3,g4,by rw[pn,List.length_take];omega,fun e he=>g6 e (List.mem_of_mem_take he),fun i e j p a c=>by
     rw[List.getElem?_take]at a
     split at a
     ·exact g7 i e j p a c
     ·(cases a),fun i e j p a c=>by
     rw[List.getElem?_take]at a
     split at a
     ·exact g8 i e j p a c
     (cases a)⟩)
  exact⟨_,gg.1,gg.2,head _ sz (by rw[pn]) (by rw[pn]) (by simp[qJ.sh];omega) rfl,xS⟩
 ·rename_i qw ei es;split at hc<;>cases hc;rename_i hle;cases qw;rotate_left
  ·obtain⟨df,_⟩:es=[]/\(none:Option (Nat×Nat×Nat))=none:=hi.ru β _ hb;subst df;have Gw:n=0:=by simpa using hle
   subst Gw;have gg:=We hi jZ (y:= .xH) (z:= .kj true ei [] none) (p:=ι β) (q:=⟨0,0,[]⟩) hb (by simp[jc,qJ.sh]) (fun c hc=>by rw[om]at hc;cases hc)
    (fun t ht=>absurd ht.1 (by simp[qJ.used])) (fun t ht=>absurd ht.1 (by simp[qJ.used])) (fun t ht _=>absurd ht.1 (by simp[qJ.used])) (fun _=>trivial) (fun _=>⟨rfl,rfl⟩)
   refine⟨_,gg.1,gg.2,fun v hv=>?_,xS⟩;cases hv with|row _ _ _ _ _ b' ho jD hk jJ h=>rw[hb]at jD;cases jD;obtain⟨_,h2⟩:=h _ _ _ rfl rfl;simp only[if_true]at h2;subst h2;exact .row _ _ _ _ _ (.kj true ei [] none) rfl hgn (fun _=>⟨_,_,_,rfl⟩) (fun _ _ _ e=>by cases e;exact ju _) (fun _ _ _ e _=>by cases e;exact⟨z?,rfl⟩)
  (obtain⟨vs,elem,fz,h1,h2,h3,h4,h5,h6,h7,h8,h9⟩:=hi.kj hb;obtain⟨Ee,Sw⟩:=List.nodup_cons.1 h6;have pn:kl (kl ι β (ι β)) nx ⟨(ι β).b,(ι β).cap,(ι β).ks.take n⟩ nx=⟨(ι β).b,(ι β).cap,(ι β).ks.take n⟩:=z?;have Z1:((ι β).ks.take n).flatMap Sk.blocks ⊆ (ι β).ks.flatMap Sk.blocks:=fun x hx=>by obtain⟨k,hk,hx⟩:=List.mem_flatMap.1 hx;exact List.mem_flatMap.2 ⟨k,List.mem_of_mem_take hk,hx⟩);have Ef:(((ι β).ks.take n).flatMap Sk.blocks).Nodup:=by (have:(ι β).ks.flatMap Sk.blocks=((ι β).ks.take n).flatMap Sk.blocks++((ι β).ks.drop n).flatMap Sk.blocks:=by rw[<- List.flatMap_append,List.take_append_drop]);rw[this,List.nodup_append]at Sw;exact Sw.1
  have gg:=We hi jZ (y:= .xH) (z:= .kj false ei (es.take n) none) (p:=ι β) (q:=⟨(ι β).b,(ι β).cap,(ι β).ks.take n⟩) hb (by simp[jc,qJ.sh]) (fun c hc=>by rw[om]at hc;cases hc)
   (fun t ht=>absurd ht.1 (by simp[qJ.used])) (fun t ht=> .inl ⟨rfl,ht.2.imp id fun h=>⟨rfl,Z1 h.2⟩⟩) (fun t ht _=>absurd ht.1 (by simp[qJ.used])) (fun _=>trivial)
   (fun mE=>by
    refine⟨vs,elem,fz,by rw[pn];exact h1,h2,by rw[pn];exact h3,by rw[pn,List.length_take];simp only;omega,by rw[pn,List.length_take,List.length_take,h5],by rw[pn];exact List.nodup_cons.2 ⟨fun h=>Ee (Z1 h),Ef⟩,fun x hx=>h7 x (by rw[pn]at hx;exact Z1 hx),fun _ _ _ h=>(by cases h),fun i p k a c=>?_⟩
    rw[pn]at c
    simp only[List.getElem?_take]at a c
    split at a
    ·rename_i xS
     rw[if_pos xS]at c
     obtain⟨v,j1,j2,_⟩:=h9 i p k a c
     exact⟨v,j1,j2,fun _ _ h=>by cases h⟩
    cases a)
  exact⟨_,gg.1,gg.2,head _ 1 (by rw[pn]) (by rw[pn]) (by simp[qJ.sh];omega) rfl,xS⟩
 cases hc
theorem nilv{sz:Nat}{v:Value}(h:RA w H ι Im (.pv (.sl true sz [])) v):v= .slice none 0 0:=by cases h with|pv _ _ h=>cases h;rfl
theorem V8{a:Act}{s:St}{nt:Nat}(h:Inv w a s ι Im nt){H1:qp}{ι1:yv}{nx1:Nat}(hi1:zf w H1 ι1 Im)(e1:vj w s.heap ι Im w H1 ι1 Im)(jf: ∀β b,H1.get β=some b->β<nx1)
  (hbox: ∀β c,s.heap.get β=some (.box c)->H1.get β=some (.box c)) {t:Nat} {x:AV} (hx: ∀v,RA w s.heap ι Im (bK s t) v->RA w H1 ι1 Im x v) (ZN:x.wc=true):
  ∃ι',Inv w a (Qi { s with heap:=H1,nx:=nx1 } t x) ι' Im nt/\vj w s.heap ι Im w (Qi { s with heap:=H1,nx:=nx1 } t x).heap ι' Im:=by
 have h1:Inv w a { s with heap:=H1,nx:=nx1 } ι1 Im nt:=⟨hi1,fun t=>(h.env t).mono h.heap e1,jf,h.size,h.defers⟩;unfold Qi;split;rename_i ht;refine⟨ι1,⟨hi1,fun t' =>?_,jf,h.size,h.defers⟩,e1⟩;show RA w H1 ι1 Im (B! ((t,x)::s.env) t') _;simp only[B!];split;rename_i e;subst e;refine hx _ ?_;unfold bK;rw[if_pos ht];exact h.env t;exact(h.env t').mono h.heap e1;rename_i ht;split;rotate_left;exact⟨ι1,h1,e1⟩;rename_i β o hp;split;rotate_left;exact⟨ι1,h1,e1⟩;rename_i c hb;split;rotate_left;exact⟨ι1,h1,e1⟩;rename_i xS;have hp' :s.env.get (t % 1000)= .ptr β o:=hp;have jD:H1.get β=some (.box c):=hb;have Jm:s.heap.get β=some (.box c):=by have he:=h.env (t % 1000);rw[hp']at he;generalize a.tmps.getD (t % 1000) undef=u at he;cases he with|ptr _ _ b hbb hk=>cases b<;>simp only[qJ.Li,wH]at hk;rename_i c0;have:=hbox β c0 hbb;rw[this]at jD;cases jD;exact hbb
 have hsv: ∀v0,c[o+(t / 1000-1)]? =some v0->bK s t=v0:=fun v0 Hh=>by unfold bK;rw[if_neg ht,hp'];simp only;rw[Jm];simp only;rw[Hh]
 obtain⟨h2,e2⟩:=zf.put (JZ:=noO jD rfl) (w' :=w) hi1 β (.box (c.set (o+(t / 1000-1)) x)) (ι1 β) (fun y hy=>by rw[jD]at hy;cases hy;rfl) ⟨ju _,rfl,rfl⟩ (fun _ _ _=>rfl)
  (fun _=> .inr ⟨_,jD,rfl,rfl⟩) (fun he=>by
   obtain⟨vs,elem,fz,q1,q2,q3,q4,q5⟩:=hi1.box jD
   refine⟨vs,elem,fz,by simpa using q1,q2,by simpa using q3,fun y hy=>?_,fun i y v hy hv=>?_⟩
   ·rcases n! hy with hy|rfl
    ·exact q4 y hy
    exact ZN
   rw[T!]at hy
   split at hy
   ·rename_i e
    subst e
    cases hy
    obtain⟨vs0,elem0,fz0,p1,p2,p3,p4,p5⟩:=h.heap.box Jm
    have hcomp:=e1.comp β _ Jm
    obtain⟨b',g,hc⟩:=hcomp
    rw[jD]at g
    cases g
    have dg:ι β=ι1 β:=hc
    rw[<- dg,p1]at q1
    cases q1
    refine(hx v ?_).mono hi1 he
    rw[hsv c[o+(t / 1000-1)] (by simp[xS])]
    exact p5 _ _ v (by simp[xS]) hv
   exact(q5 i y v hy hv).mono hi1 he)
 refine⟨_,⟨h2,fun t' =>((h.env t').mono h.heap e1).mono hi1 e2,fun δ b hδ=>?_,h.size,h.defers⟩,e1.trans e2⟩;have hδ' :(k_ H1 β (.box (c.set (o+(t / 1000-1)) x))).get δ=some b:=hδ;rw[c!]at hδ';split at hδ';rename_i e;subst e;exact jf _ _ jD;exact jf δ b hδ'
theorem prom_ok(hi:zf w H ι Im){nx:Nat}(jf: ∀β b,H.get β=some b->β<nx)(ei:List Nat):
  zf w (H.put nx (Qe ei)) (kl ι nx ⟨0,0,[]⟩) Im/\vj w H ι Im w (H.put nx (Qe ei)) (kl ι nx ⟨0,0,[]⟩) Im:=by
 have om:H.get nx=none:=by cases hh:H.get nx with|none=>rfl|some b=>have:=jf nx b hh;omega
 cases ei with|nil=>exact zf.TQ hi nx (.row true 0 []) ⟨0,0,[]⟩ (fun x hx=>by rw[om]at hx;cases hx) ⟨ju _,rfl,rfl⟩ (fun _ _ _=>rfl) (fun z hz=>absurd hz.1 (by simp[y_])) (fun _=>rfl)|cons d ds=>exact zf.TQ hi nx (.kj true (d::ds) [] none) ⟨0,0,[]⟩ (fun x hx=>by rw[om]at hx;cases hx) ⟨ju _,rfl,rfl⟩ (fun _ _ _=>rfl) (fun z hz=>absurd hz.1 (by simp[y_])) (fun _=>⟨rfl,rfl⟩)
theorem cmd1_ok{a:Act}{s:St}{nt:Nat}(h:Inv w a s ι Im nt)(c:D7): ∃ι' kh,Inv w a (VO c s) ι' kh nt/\vj w s.heap ι Im w (VO c s).heap ι' kh:=by have Vc: ∃ι' kh,Inv w a s ι' kh nt/\vj w s.heap ι Im w s.heap ι' kh:=⟨ι,Im,h,G! _ _ _ _⟩;unfold VO;split;rename_i t is;split;rename_i β xm n l hs hl;obtain⟨ι1,a1,a2,a3⟩:=Wb l (β:=β) h.heap h.nx;exact⟨ι1,Im,⟨a1,fun t=>(h.env t).mono h.heap a2,a3,h.size,h.defers⟩,a2⟩;exact Vc;rename_i t;split;rename_i β xm off n hs;obtain⟨ι1,a1,a2,a3⟩:=NP 4 h.heap β;exact⟨ι1,Im,⟨a1,fun t=>(h.env t).mono h.heap a2,fun δ b hδ=>by obtain⟨b0,h0⟩:=a3 δ b hδ;exact h.nx δ b0 h0,h.size,h.defers⟩,a2⟩;exact Vc;{rename_i t;split;rotate_left;exact Vc;rename_i β xm n hs;split;rotate_left;exact Vc;rename_i b hb;split;rotate_left;exact Vc;rename_i l y hc;split;rotate_left;exact Vc;(rename_i jJ;subst jJ;obtain⟨ι1,a1,a2,a3,a4⟩:=cut_ok h.heap h.nx hb hc;refine q1a (fun ι2 hh=>⟨Im,hh⟩) ?_;refine V8 h a1 a2 a4 (fun γ c hγ=>?_) (fun v hv=>a3 v (by rw[hs]at hv;exact hv)) rfl;have e1:γ≠β:=by intro e;subst e;rw[hb]at hγ;cases hγ;simp[W0]at hc);(have e2:γ≠s.nx:=fun e=>by have:=h.nx γ _ hγ;omega);simp[c!,e1,e2,hγ]};{rename_i t ei;split;rotate_left;exact Vc;rename_i sz hs;obtain⟨a1,a2⟩:=prom_ok h.heap h.nx ei;refine q1a (fun ι2 hh=>⟨Im,hh⟩) ?_;refine V8 h a1 a2 (fun δ b hδ=>?_) (fun γ c hγ=>?_) (fun v hv=>?_) rfl;rw[c!]at hδ;split at hδ;omega;have:=h.nx δ b hδ;omega;(have e2:γ≠s.nx:=fun e=>by have:=h.nx γ _ hγ;omega);simp[c!,e2,hγ];rw[hs]at hv;rw[nilv hv];cases ei with|nil=>exact .row _ _ _ _ _ (.row true 0 []) rfl (by simp[c!,Qe]) (fun _=>⟨_,_,_,rfl⟩) (fun _ _ _ e=>by cases e;exact ju _) (fun _ _ _ e _=>by cases e;exact⟨z?,rfl⟩)|cons d ds=>exact .row _ _ _ _ _ (.kj true (d::ds) [] none) rfl (by simp[c!,Qe]) (fun _=>⟨_,_,_,rfl⟩) (fun _ _ _ e=>by cases e;exact ju _) (fun _ _ _ e _=>by cases e;exact⟨z?,rfl⟩)};rename_i t;obtain⟨iX,h1,e1⟩:=tH (Kh s (bK s t)) h;exact⟨ι,iX,h1,e1⟩
theorem Kd{a:Act}{nt:Nat}: ∀(l:List D7){s:St}{ι:yv}{Im:Nat->Prop},Inv w a s ι Im nt-> ∃ι' kh,Inv w a (pN l s) ι' kh nt/\vj w s.heap ι Im w (pN l s).heap ι' kh
 |[],s,ι,Im,h=>⟨ι,Im,h,G! _ _ _ _⟩
 |c::r,s,ι,Im,h=>by obtain⟨ι1,iX,a1,a2⟩:=cmd1_ok h c;obtain⟨ι2,Gs,b1,b2⟩:=Kd r a1;exact⟨ι2,Gs,b1,a2.trans b2⟩
end
theorem Ft{P:Program}{f:FuncId}{fn:Func}{s:ChangeSpec}{c:OpenClaim}(h1:(c.inPlace==P.inPlace f)=true)(h2:(c.unfollowed==P.unfollowed f)=true)(h3:(c.recurses==P.recurses f)=true)(h4:(c.named==P.varsNamed f)=true)
  (h:(c.wf (OpenSpec.ofChange s)&&laidOutB P&&mapsRowed P&&fn.params.all (P.readableRec ·)&&namedTie P c.named s.vars&&(c.stops==[])&&(P.stops==[])&&(c.knobs==[])&&(P.stopKnobs==[])&&(c.maps==(fn.params.toList++s.plain.varTypes P).any (P.mapsRec ·))&&(c.ifaces==(fn.params.toList++s.plain.varTypes P).any (P.ifacesRec ·))&&(c.mapsOut==P.mapsAmong fn.resultTypes.toList)&&(c.loops==(fn.params.toList++s.plain.varTypes P).any (P.loopsFrom ·))&&(c.wideKeys==(fn.params.toList++s.plain.varTypes P++fn.resultTypes.toList).any (P.wideKeysFrom ·))&&s.vars.all (P.varReadable ·)&&fn.resultTypes.all (fun t=>P.readableRec t&&decide (t<P.types.size))&&(c.ifacesOut==fn.resultTypes.toList.any (P.ifacesRec ·))&&(c.loopsOut==fn.resultTypes.toList.any (P.loopsFrom ·))&&(c.plainKeys==P.plainKeys)&&c.shortTexts.isNone&&P.stopsHeard&&P.mayEnter&&(c.lifted==P.liftsFinal)&&(P.make==some c.make)&&(c.kinds==(if c.domain.isEmpty then[]else fn.params.toList.map fun t=>match P.underlying t with|some (.int k)=>some k|_=>none))&&(c.pinned==c.pinnedBy)&&(c.veiled==(fn.params.toList++s.plain.varTypes P++fn.resultTypes.toList).any (P.veiledRec ·))&&c.veiledFits P fn.params.toList (fn.params.toList++s.plain.varTypes P++fn.resultTypes.toList))=true):joinedFacts P f fn s c=true:=by unfold joinedFacts;simp only[h1,h2,h3,h4,Bool.and_true];exact h
section
variable [xn] {P:Program} {w:World} {H:qp} {ι:yv} {Im:Nat->Prop}
theorem tq(g:Nat->Nat): ∀(l:List AV)(i:Nat),(AV.cq.lP g l)[i]? =(l[i]?).map (AV.cq g)
 |[],i=>by simp[AV.cq.lP]
 |x::r,i=>by cases i with|zero=>simp[AV.cq.lP]|succ i=>simp[AV.cq.lP,tq g r i]
theorem d5(g:Nat->Nat): ∀(l:List AV),(AV.cq.lP g l).length=l.length
 |[]=>rfl
 |x::r=>by simp[AV.cq.lP,d5 g r]
theorem WY(g:Nat->Nat){x:AV}(h:x.wc=true):(x.cq g).wc=true:=by cases x<;>simp[AV.wc]at h<;>first|rfl|exact h
theorem yf{β:Nat}: ∀{l:List AV}{i:Nat}{x:AV},l[i]? =some x->β∈x.refs->β∈AV.refs.pI l
 |[],i,x,h,_=>by simp at h
 |y::r,i,x,h,hβ=>by simp only[AV.refs.pI,p?];cases i with|zero=>simp at h;subst h;exact .inl hβ|succ i=>exact .inr (yf (by simpa using h) hβ)
theorem Za(g:Nat->Nat)(b:qJ):(b.cq g).sh=b.sh:=by cases b<;>simp[qJ.cq,q0c]
theorem Ja{x y:qJ}{p q:Pl}(g:Nat->Nat)(h:jc x y p q):jc x (y.cq g) p q:=by unfold jc at*;rw[Za];cases hx:x.sh with|some a=>(cases hy:y.sh with|some b=>rw[hx,hy]at h;exact h|none=>rw[hx,hy]at h;have h' :y= .xH:=h;subst h';rfl)|none=>cases hy:y.sh with|some b=>rw[hx,hy]at h;exact h|none=>rw[hx,hy]at h;cases x<;>cases y<;>first|exact h|exact(h:False).elim
theorem Z9{H' :qp}{ι' :yv}(g:Nat->Nat){x:AV}{v:Value}(hx:RA w H ι Im x v)
  (hg: ∀β∈x.refs,∀ b,H.get β=some b->H'.get (g β)=some (b.cq g)/\(ι' (g β))=ι β):RA w H' ι' Im (x.cq g) v:=by induction hx with|undef v=>exact .undef v|pv p v h=>exact .pv p v h|ptr β o c hb hk=>(obtain⟨h1,h2⟩:=hg β (by simp[E?]) _ hb;rw[<- h2];exact .ptr (g β) o _ h1 (by cases c<;>first|rfl|cases hk))|uS β xm i o b1 o1 b hb jJ h=>obtain⟨h1,h2⟩:=hg β (by simp[E?]) _ hb;refine .uS (g β) xm i o b1 o1 _ h1 (fun qw sz es e=>?_) (fun qw sz es e=>?_);rw[Za]at e;exact jJ _ _ _ e;rw[Za]at e;rw[h2];exact h _ _ _ e|row β xm off n v b ho hb hk jJ h=>obtain⟨h1,h2⟩:=hg β (by simp[E?]) _ hb;refine .row (g β) xm off n v _ ho h1 (fun h0=>?_) (fun qw sz es e=>?_) (fun qw sz es e=>?_);rw[Za];exact hk (fun e=>h0 (by rw[e];rfl));rw[Za]at e;exact jJ _ _ _ e;rw[Za]at e;rw[h2];exact h _ _ _ e|tQ c o b off vs Qt hc hf h=>exact .tQ c o b off vs Qt hc hf h|iW a=>exact .iW a|map β es zN hb=>obtain⟨h1,h2⟩:=hg β (by simp[E?]) _ hb;rw[<- h2];exact .map (g β) es zN h1|Q3 f a b va vb VX Su _ _ iha ihb=>refine .Q3 f _ _ va vb (by rw[d5,VX]) (by rw[d5,Su]) (fun i x v h1 h2=>?_) (fun i x v h1 h2=>?_);rw[tq]at h1;simp only[yZ]at h1;obtain⟨y,hy,rfl⟩:=h1;exact iha i y v hy h2 fun β hβ=>hg β (by simp only[E?,p?];exact .inl (yf hy hβ));rw[tq]at h1;simp only[yZ]at h1;obtain⟨y,hy,rfl⟩:=h1;exact ihb i y v hy h2 fun β hβ=>hg β (by simp only[E?,p?];exact .inr (yf hy hβ))|agg c vs hl hf _ ih=>refine .agg _ vs (by rw[d5,hl]) (fun x hx=>?_) (fun i x v h1 h2=>?_);obtain⟨i,hi⟩:=jI hx;rw[tq]at hi;simp only[yZ]at hi;obtain⟨y,hy,rfl⟩:=hi;exact WY g (hf y (zc hy));rw[tq]at h1;simp only[yZ]at h1;obtain⟨y,hy,rfl⟩:=h1;exact ih i y v hy h2 fun β hβ=>hg β (by simp only[E?];exact yf hy hβ)|xW c vs hl _ ih=>refine .xW _ vs (by rw[d5,hl]) (fun i x v h1 h2=>?_);rw[tq]at h1;simp only[yZ]at h1;obtain⟨y,hy,rfl⟩:=h1;exact ih i y v hy h2 fun β hβ=>hg β (by simp only[E?];exact yf hy hβ)
theorem qJ.ren_used(g:Nat->Nat)(b:qJ):(b.cq g).used=b.used:=by cases b<;>rfl
theorem qJ.ren_isO(g:Nat->Nat)(b:qJ):(b.cq g).SE=b.SE:=by cases b<;>rfl
theorem qJ.nY(g:Nat->Nat)(b:qJ)(q:Pl)(x:Nat):(b.cq g).yi q x=b.yi q x:=by unfold qJ.yi;rw[qJ.ren_used,qJ.ren_isO]
theorem rA.cq{H' :qp}{ι' :yv}(g:Nat->Nat){β β' :Nat}{b:qJ}(h:rA w H ι Im β b)(hp:ι' β' =ι β)
  (hg: ∀γ∈b.refs,∀ c,H.get γ=some c->H'.get (g γ)=some (c.cq g)/\(ι' (g γ))=ι γ):rA w H' ι' Im β' (b.cq g):=by
 cases b with
  |box c=>obtain⟨vs,elem,fz,q1,q2,q3,q4,q5⟩:=h;refine⟨vs,elem,fz,by rw[hp];exact q1,q2,by rw[d5,q3],fun x hx=>?_,fun i x v a b=>?_⟩;obtain⟨i,hi⟩:=jI hx;rw[tq]at hi;simp only[yZ]at hi;obtain⟨y,hy,rfl⟩:=hi;exact WY g (q4 y (zc hy));rw[tq]at a;simp only[yZ]at a;obtain⟨y,hy,rfl⟩:=a;exact Z9 g (q5 i y v hy b) fun γ hγ=>hg γ (by simp only[q0l];exact yf hy hγ)
  |row qw sz es=>cases qw with|true=>exact h|false=>obtain⟨vs,elem,fz,q1,q2,q3,q4,q5,q6,q7,q8⟩:=h;exact⟨vs,elem,fz,by rw[hp];exact q1,q2,by rw[hp];exact q3,q4,by rw[hp];exact q5,q6,q7,q8⟩
  |map es zN=>obtain⟨xo,q1,q2,q3⟩:=h;exact⟨xo,by rw[hp];exact q1,q2,q3⟩
  |mr sz es=>
   (obtain⟨vs,elem,fz,q1,q2,q3,q4,q5,q6,q7,q8⟩:=h;have get: ∀(i:Nat) e(j:Nat) x,(es.map (AV.cq.lP g))[i]? =some e->e[j]? =some x-> ∃e0 y,es[i]? =some e0/\e0[j]? =some y/\x=y.cq g:=by intro i e j x h1 h2;rw[K?,yZ]at h1;obtain⟨e0,h1,rfl⟩:=h1;rw[tq,yZ]at h2;obtain⟨y,h2,rfl⟩:=h2;exact⟨e0,y,h1,h2,rfl⟩);refine⟨vs,elem,fz,by rw[hp];exact q1,q2,by rw[hp];exact q3,q4,by rw[hp];simpa using q5,fun e he=>?_,fun i e j x a b=>?_,fun i e j x a b=>?_⟩;obtain⟨e0,h0,rfl⟩:=G?.1 he;rw[d5];exact q6 e0 h0;obtain⟨e0,y,h1,h2,rfl⟩:=get i e j x a b;exact WY g (q7 i e0 j y h1 h2)
   obtain⟨e0,y,h1,h2,rfl⟩:=get i e j x a b;obtain⟨v,k1,k2⟩:=q8 i e0 j y h1 h2;exact⟨v,k1,Z9 g k2 fun γ hγ=>hg γ (by
    simp only[q0l,l!]
    exact⟨e0,zc h1,yf h2 hγ⟩)⟩
  |kj qw ds es l4=>cases qw with|true=>obtain⟨q1,q2⟩:=h;exact⟨q1,by rw[q2];rfl⟩|false=>obtain⟨vs,elem,fz,q1,q2,q3,q4,q5,q6,q7,q8,q9⟩:=h;refine⟨vs,elem,fz,by rw[hp];exact q1,q2,by rw[hp];exact q3,by rw[hp];exact q4,by rw[hp];exact q5,by rw[hp];exact q6,by rw[hp];exact q7,fun j γ xm hf=>?_,fun i p k a b=>?_⟩;rw[yZ]at hf;obtain⟨⟨j0,γ0,ver0⟩,hf,e⟩:=hf;cases e;exact q8 _ _ _ hf;obtain⟨v,k1,k2,k3⟩:=q9 i p k a (by rw[<- hp];exact b);refine⟨v,k1,fun hj=>k2 fun j γ xm hf=>hj j (g γ) xm (by rw[hf];rfl),fun γ xm hf=>?_⟩;rw[yZ]at hf;obtain⟨⟨j0,γ0,ver0⟩,hf,e⟩:=hf;cases e;obtain⟨k4,k5⟩:=k3 _ _ hf;refine⟨k4,Z9 g k5 fun γ hγ=>hg γ ?_⟩;simp only[E?,c?]at hγ;subst hγ;simp only[q0l,hf,c?]
  |xH=>trivial
theorem lI: ∀(L:List Nat)(x:Nat),WC L x=true↔x∈L
 |[],x=>by simp[WC]
 |β::r,x=>by simp only[WC,U?];split;rename_i h;subst h;simp;rename_i h;rw[lI r x];constructor;exact .inr;rintro(h2|h2);exact absurd h2.symm h;exact h2
theorem Vh: ∀(l L:List Nat),Gf l L=true↔ ∀x∈l,x∈L
 |[],L=>by simp[Gf]
 |x::r,L=>by simp[Gf,lI,Vh r L]
theorem X3: ∀(L:List Nat)(x:Nat),x∈L->L[pos L x]? =some x
 |[],x,h=>by cases h
 |β::r,x,h=>by simp only[pos];split;rename_i e;simp[e];(rename_i e;have:x∈r:=by rcases U?.1 h with h|h;exact absurd h.symm e;exact h);simpa using X3 r x this
theorem pos_lt{L:List Nat}{x:Nat}(h:x∈L):pos L x<L.length:=(qL (X3 L x h)).1
theorem dH: ∀{L:List Nat},L.Nodup-> ∀{i:Nat}{x:Nat},L[i]? =some x->pos L x=i
 |[],_,i,x,h=>by simp at h
 |β::r,hn,i,x,h=>by obtain⟨h1,h2⟩:=i!.1 hn;cases i with|zero=>simp at h;simp[pos,h]|succ i=>simp at h;have hx:x∈r:=zc h;have jZ:β≠x:=fun e=>h1 (e ▸ hx);simp[pos,jZ,dH h2 h]
theorem Z8(H:qp): ∀(n:Nat)(todo d:List Nat),d.Nodup->(nT H n todo d).Nodup/\ ∃r,nT H n todo d=d++r
 |0,todo,d,h=>⟨h,[],by simp[nT]⟩
 |n+1,[],d,h=>⟨h,[],by simp[nT]⟩
 |n+1,β::r,d,h=>by
  simp only[nT];split;exact Z8 H n r d h
  rename_i hm;have hm' :β∉d:=fun h=>hm ((lI d β).2 h);obtain⟨h1,r',h2⟩:=Z8 H n (r++(so H β).refs) (d++[β]) (by
   rw[D?]
   exact⟨h,z?,by
    intro a ha b hb e
    simp at hb
    subst hb e
    exact hm' ha⟩)
  exact⟨h1,β::r',by rw[h2];simp⟩
theorem NU(H:qp)(g:Nat->Nat): ∀(i:Nat)(L:List Nat)(j:Nat),(pick H g i L).get j=if i<=j/\j<i+L.length then(L[j-i]?).map fun β=>(so H β).cq g else none
 |i,[],j=>by simp[pick,L!]
 |i,β::r,j=>by simp only[pick,L!,NU H g (i+1) r j,b?];by_cases h:i=j;subst h;simp;rw[if_neg h];by_cases h2:i+1<=j/\j<i+1+r.length;rw[if_pos h2,if_pos o?];obtain⟨m,rfl⟩: ∃m,j=i+1+m:=⟨j-(i+1),o?⟩;rw[show i+1+m-(i+1)=m from o?,show i+1+m-i=m+1 from o?];simp;rw[if_neg h2,if_neg o?]
theorem NV(H:qp)(g:Nat->Nat): ∀(i:Nat)(L:List Nat),(pick H g i L).length=L.length
 |_,[]=>rfl
 |i,β::r=>by simp[pick,NV H g (i+1) r]
theorem QF(H:qp)(L:List Nat): ∀(l:List Nat),pT H L l=true-> ∀β∈l,∃ b,H.get β=some b/\ ∀γ∈b.refs,γ∈L
 |[],_,β,h=>by cases h
 |x::r,h,β,hβ=>by simp only[pT,zU]at h;rcases U?.1 hβ with rfl|hβ;(cases hb:H.get β with|none=>rw[hb]at h;simp at h|some b=>rw[hb]at h;exact⟨b,rfl,(Vh _ _).1 h.1⟩);exact QF H L r h.2 β hβ
structure Zx (H:qp) (L:List Nat) (H0:qp):Prop where
 nodup:L.Nodup
 look: ∀j,H0.get j=(L[j]?).bind fun β=>(H.get β).map (qJ.cq (pos L))
 has: ∀β∈L,∃ b,H.get β=some b/\ ∀γ∈b.refs,γ∈L
 len:H0.length=L.length
theorem oI{d roots:List Nat}(hd:d.Nodup){L:List Nat}{H0:qp}(h:sg H d roots=some (L,H0)):
  Zx H L H0/\(∀ β∈roots,β∈L)/\ ∃r,L=d++r:=by unfold sg at h;split at h;cases h;exact⟨⟨q0y,fun j=>by simp[L!],z?,rfl⟩,z?,[],rfl⟩;simp only at h;split at h<;>cases h;rename_i hc;simp only[zU]at hc;obtain⟨h1,h2⟩:=Z8 H 400 (roots++d.flatMap fun β=>(so H β).refs) d hd;have hs:=QF H _ _ hc.2;refine⟨⟨h1,fun j=>?_,hs,NV _ _ _ _⟩,(Vh _ _).1 hc.1,h2⟩;rw[NU];simp only[E!,true_and,O?,q1e];generalize nT H 400 _ d=L at*;by_cases hj:j<L.length;(rw[if_pos hj];have:L[j]? =some L[j]:=by simp[hj]);rw[this];obtain⟨b,hb,_⟩:=hs L[j] z?;simp[so,hb];rw[if_neg hj,o_ o?];rfl
def Zi(ι:yv)(L:List Nat):yv:=fun i=>match L[i]? with|some β=>ι β|none=>⟨0,0,[]⟩
theorem Zx.BH{L:List Nat}{H0:qp}(h:Zx H L H0){β:Nat}(hβ:β∈L): ∀b,H.get β=some b->H0.get (pos L β)=some (b.cq (pos L))/\Zi ι L (pos L β)=ι β:=by intro b hb;have:=X3 L β hβ;rw[h.look,this];simp[hb,Zi,this]
theorem Zx.inv{L:List Nat}{H0:qp}(h:Zx H L H0){j:Nat}{b:qJ}(hj:H0.get j=some b): ∃β b0,L[j]? =some β/\H.get β=some b0/\b=b0.cq (pos L)/\Zi ι L j=ι β:=by rw[h.look]at hj;cases hL:L[j]? with|none=>rw[hL]at hj;cases hj|some β=>rw[hL]at hj;simp only[qV,yZ]at hj;obtain⟨b0,Jm,rfl⟩:=hj;exact⟨β,b0,rfl,Jm,rfl,by simp[Zi,hL]⟩
theorem Zx.hinv{L:List Nat}{H0:qp}(h:Zx H L H0)(hi:zf w H ι Im):zf w H0 (Zi ι L) Im where
 ru:=fun j b hj=>by obtain⟨β,b0,h1,h2,rfl,h4⟩:=h.inv (ι:=ι) hj;refine(hi.ru β b0 h2).cq (pos L) h4 fun γ hγ=>?_;obtain⟨b1,q1,q2⟩:=h.has β (zc h1);rw[h2]at q1;cases q1;exact h.BH (q2 γ hγ)
 inj:=fun i j b c z uj Sq ub uc=>by obtain⟨β,b0,h1,h2,rfl,h4⟩:=h.inv (ι:=ι) uj;obtain⟨γ,c0,k1,k2,rfl,k4⟩:=h.inv (ι:=ι) Sq;rw[qJ.nY,h4]at ub;rw[qJ.nY,k4]at uc;have:=hi.inj β γ b0 c0 z h2 k2 ub uc;subst this;rw[<- dH h.nodup h1,<- dH h.nodup k1]
 im:=hi.im
 Vt:=fun j b z hj hu=>by obtain⟨β,b0,h1,h2,rfl,h4⟩:=h.inv (ι:=ι) hj;rw[qJ.nY,h4]at hu;exact hi.Vt β b0 z h2 hu
 N0:=hi.N0
 VS:=hi.VS
end
section
variable [xn] {P:Program} {w w' :World} {H H0 H' :qp} {ι ι' :yv} {Im kh:Nat->Prop} {L:List Nat} {nx:Nat}
theorem k9: ∀(ws:List (Nat×qJ))(H:qp)(γ:Nat),(∀ x∈ws,x.1≠γ)->(za ws H).get γ=H.get γ
 |[],H,γ,_=>rfl
 |(i,b)::r,H,γ,h=>by simp only[za];rw[k9 r _ γ fun x hx=>h x (by simp[hx]),c!];rw[if_neg (fun e=>h (i,b) z? e.symm)]
theorem dC(g:Nat->Nat): ∀(H:qp)(i:Nat),uU i H=true-> ∀x∈yg g H,∃ j,i<=j/\j<i+H.length/\x.1=g j
 |[],i,_,x,h=>by simp[yg]at h
 |(k,b)::r,i,hk,x,h=>by simp only[uU,zU,decide_eq_true_eq]at hk;obtain⟨rfl,hk⟩:=hk;simp only[yg,U?]at h;rcases h with rfl|h;exact⟨k,ju _,z?,rfl⟩;obtain⟨j,h1,h2,h3⟩:=dC g r (k+1) hk x h;exact⟨j,o?,by simp only[b?];omega,h3⟩
theorem sL: ∀(H:qp)(i:Nat),uU i H=true-> ∀{j:Nat}{b:qJ},H.get j=some b->i<=j/\j<i+H.length
 |[],i,_,j,b,h=>by simp[L!]at h
 |(k,b0)::r,i,hk,j,b,h=>by simp only[uU,zU,decide_eq_true_eq]at hk;obtain⟨rfl,hk⟩:=hk;simp only[L!]at h;split at h;rename_i e;subst e;simp;have:=sL r (k+1) hk h;simp only[b?];omega
theorem JB(g:Nat->Nat): ∀(H' H:qp)(i:Nat),uU i H' =true->(∀ j k,i<=j->j<i+H'.length->i<=k->k<i+H'.length->g j=g k->j=k)->
  ∀{j:Nat}{b:qJ},H'.get j=some b->(za (yg g H') H).get (g j)=some (b.cq g)
 |[],H,i,_,_,j,b,h=>by simp[L!]at h
 |(k,b0)::r,H,i,hk,hg,j,b,h=>by simp only[uU,zU,decide_eq_true_eq]at hk;obtain⟨rfl,hk⟩:=hk;simp only[L!]at h;simp only[yg,za];split at h;rename_i e;subst e;cases h;rw[k9 _ _ _ fun x hx=>?_,c!,if_pos rfl];obtain⟨m,h1,h2,h3⟩:=dC g r (k+1) hk x hx;rw[h3];intro e;have:=hg m k o? (by simp only[b?];omega) (ju _) z? e;omega;exact JB g r _ (k+1) hk (fun j' k' a1 a2 a3 a4 e=>hg j' k' o? (by simp only[b?];omega) o? (by simp only[b?];omega) e) h
theorem PR{x y:qJ}{p q:Pl}{f g:Nat->Nat}(h:jc (x.cq f) y p q):jc x (y.cq g) p q:=by unfold jc at*;rw[Za]at h |-;cases hx:x.sh with|some a=>(cases hy:y.sh with|some b=>rw[hx,hy]at h;exact h|none=>rw[hx,hy]at h;have h' :y= .xH:=h;subst h';rfl)|none=>cases hy:y.sh with|some b=>rw[hx,hy]at h;exact h|none=>rw[hx,hy]at h;cases x<;>cases y<;>first|exact h|exact(h:False).elim
def ZB(ι ι' :yv)(L:List Nat)(nx n:Nat):yv:=fun γ=>if γ∈L then ι' (pos L γ)else if nx<=γ/\γ<nx+(n-L.length)then ι' (L.length+(γ-nx))else ι γ
theorem back_ok(hs:Zx H L H0)(hi:zf w H ι Im){X:Nat->Prop}(jf:Bd X H nx)
  (uj:zf w' H' ι' kh) (he:vj w H0 (Zi ι L) Im w' H' ι' kh) (hk:uU 0 H' =true) (hX: ∀γ,X γ->nx+(H'.length-L.length)<=γ):
  zf w' (za (yg (jm L nx) H') H) (ZB ι ι' L nx H'.length) kh/\vj w H ι Im w' (za (yg (jm L nx) H') H) (ZB ι ι' L nx H'.length) kh/\
   (∀{r:AV}{v:Value},RA w' H' ι' kh r v->RA w' (za (yg (jm L nx) H') H) (ZB ι ι' L nx H'.length) kh (r.cq (jm L nx)) v)/\
   Bd X (za (yg (jm L nx) H') H) (nx+(H'.length-L.length)):=by
 have hLlt: ∀β∈L,β<nx\/nx+(H'.length-L.length)<=β:=fun β hβ=>by obtain⟨b,hb,_⟩:=hs.has β hβ;exact(jf β b hb).imp id (hX β)
 have g1: ∀{j β:Nat},L[j]? =some β->jm L nx j=β:=fun h=>by simp[jm,h]
 have g2: ∀{j:Nat},L.length<=j->jm L nx j=nx+(j-L.length):=fun h=>by simp[jm,o_ h]
 have ginj: ∀j k,j<H'.length->k<H'.length->jm L nx j=jm L nx k->j=k:=by intro j k N5 pd e;by_cases hj:j<L.length<;>by_cases JX:k<L.length;(have a1:L[j]? =some L[j]:=by simp[hj]);(have a2:L[k]? =some L[k]:=by simp[JX]);rw[g1 a1,g1 a2]at e;rw[<- dH hs.nodup a1,<- dH hs.nodup a2,e];(have a1:L[j]? =some L[j]:=by simp[hj]);rw[g1 a1,g2 o?]at e;have:=hLlt _ (zc a1);omega;(have a2:L[k]? =some L[k]:=by simp[JX]);rw[g1 a2,g2 o?]at e;have:=hLlt _ (zc a2);omega;rw[g2 o?,g2 o?]at e;omega
 have pW: ∀{j:Nat}{b:qJ},H'.get j=some b->(za (yg (jm L nx) H') H).get (jm L nx j)=some (b.cq (jm L nx)):=
  fun h=>JB _ H' H 0 hk (fun j k _ N5 _ pd e=>ginj j k o? o? e) h
 have oo: ∀j,j<H'.length->ZB ι ι' L nx H'.length (jm L nx j)=ι' j:=by intro j N5;unfold ZB;by_cases hj:j<L.length;(have a1:L[j]? =some L[j]:=by simp[hj]);rw[g1 a1,if_pos (zc a1),dH hs.nodup a1];rw[g2 o?,if_neg (fun h=>by have:=hLlt _ h;omega),if_pos o?];congr 1;omega
 have hlen:L.length<=H'.length:=by rcases q0g L.length with h|h;omega;(have a1:L[L.length-1]? =some L[L.length-1]:=by simp[h]);(obtain⟨b,hb,_⟩:=hs.has _ (zc a1);have h0:H0.get (L.length-1)=some (b.cq (pos L)):=by rw[hs.look,a1];simp[hb]);obtain⟨b',jD,_⟩:=he.comp _ _ h0;have:=(sL H' 0 hk jD).2;omega
 have OC: ∀γ,(∃ j,γ=jm L nx j/\j<H'.length)\/((∀ j,j<H'.length->γ≠jm L nx j)/\(za (yg (jm L nx) H') H).get γ=H.get γ):=by intro γ;by_cases h: ∃j,j<H'.length/\γ=jm L nx j;obtain⟨j,h1,h2⟩:=h;exact .inl ⟨j,h2,h1⟩;refine .inr ⟨fun j hj e=>h ⟨j,hj,e⟩,k9 _ _ _ fun x hx e=>?_⟩;obtain⟨j,_,h2,h3⟩:=dC _ H' 0 hk x hx;exact h ⟨j,o?,by rw[<- e,h3]⟩
 have hnotL: ∀γ,(∀ j,j<H'.length->γ≠jm L nx j)->γ∉L:=by intro γ h hL;have:=X3 L γ hL;exact h (pos L γ) (N! (pos_lt hL) hlen) (g1 this).symm
 have N9: ∀γ b,γ∉L->H.get γ=some b->ZB ι ι' L nx H'.length γ=ι γ:=by intro γ b h hb;have:=(jf γ b hb).imp id (hX γ);unfold ZB;rw[if_neg h,if_neg o?]
 have YP: ∀{i:Nat}{x:qJ}{z:Nat},H0.get i=some x->x.yi (Zi ι L i) z-> ∃β b,β∈L/\H.get β=some b/\b.yi (ι β) z:=by intro i x z h hu;obtain⟨β,b0,h1,h2,rfl,h4⟩:=hs.inv (ι:=ι) h;rw[qJ.nY,h4]at hu;exact⟨β,b0,zc h1,h2,hu⟩
 have Jp: ∀γ b z,γ∉L->H.get γ=some b->b.yi (ι γ) z->w'.heap[z]? =w.heap[z]? :=by intro γ b z hL hb hu;refine he.kR _ ((hi.ru γ b hb).cn hu) fun i x hx Fk=>?_;obtain⟨β,b1,q1,q2,q3⟩:=YP hx Fk;exact hL (hi.inj β γ b1 b z q2 hb q3 hu ▸ q1)
 have mE:vj w H ι Im w' (za (yg (jm L nx) H') H) (ZB ι ι' L nx H'.length) kh:=by refine⟨fun β b hb=>?_,he.im,fun b h=>?_,fun γ x z hx hu=>?_,fun b hb hn=>?_,he.size,he.io⟩;by_cases hL:β∈L;obtain⟨q1,q2⟩:=hs.BH (ι:=ι) hL b hb;obtain⟨b',q3,q4⟩:=he.comp _ _ q1;have q5:=pW q3;have e:jm L nx (pos L β)=β:=g1 (X3 L β hL);rw[e]at q5;refine⟨_,q5, ?_⟩;have:=oo (pos L β) (N! (pos_lt hL) hlen);rw[e]at this;rw[this,<- q2];exact PR q4;rcases OC β with ⟨j,e,hj⟩|⟨h1,h2⟩;exfalso;by_cases N5:j<L.length;(have a1:L[j]? =some L[j]:=by simp[N5]);rw[g1 a1]at e;exact hL (e ▸ zc a1);rw[g2 o?]at e;have:=(jf β b hb).imp id (hX β);omega;exact⟨b,by rw[h2,hb],by rw[N9 β b hL hb];exact gb _ _⟩;rcases he.pX b h with h|h|⟨i,x,h1,h2⟩;exact .inl h;exact .inr (.inl h);obtain⟨β,b1,q1,q2,q3⟩:=YP h1 h2;exact .inr (.inr ⟨β,b1,q2,q3⟩);rcases OC γ with ⟨j,rfl,hj⟩|⟨h1,h2⟩;(rw[oo j hj]at hu;cases jD:H'.get j with|none=>(exfalso;have key: ∀(H:qp)(i:Nat),uU i H=true-> ∀j,i<=j->j<i+H.length->H.get j≠none:=by intro H;induction H with|nil=>intro i _ j h1 h2;simp at h2;omega|cons y r ih=>intro i hk j h1 h2;obtain⟨k,b⟩:=y;simp only[uU,zU,decide_eq_true_eq]at hk;obtain⟨rfl,hk⟩:=hk;simp only[L!];split;simp;exact ih (k+1) hk j o? (by simp only[b?]at h2;omega));exact key H' 0 hk j (E! _) o? jD|some b' =>rw[pW jD]at hx;cases hx;rw[qJ.nY]at hu;rcases he.nS j b' z jD hu with h|⟨i,x,q1,q2⟩;exact .inl h;obtain⟨β,b1,r1,r2,r3⟩:=YP q1 q2;exact .inr ⟨β,b1,r2,r3⟩);rw[h2]at hx;rw[N9 γ x (hnotL γ h1) hx]at hu;exact .inr ⟨γ,x,hx,hu⟩;refine he.kR b hb fun i x hx Fk=>?_;obtain⟨β,b1,q1,q2,q3⟩:=YP hx Fk;exact hn β b1 q2 q3
 have BH: ∀γ c,H'.get γ=some c->(za (yg (jm L nx) H') H).get (jm L nx γ)=some (c.cq (jm L nx))/\ZB ι ι' L nx H'.length (jm L nx γ)=ι' γ:=
  fun γ c h=>⟨pW h,oo γ (by have:=(sL H' 0 hk h).2;omega)⟩
 have lt' : ∀{j:Nat}{b:qJ},H'.get j=some b->j<H'.length:=fun h=>by have:=(sL H' 0 hk h).2;omega
 have split: ∀{γ b},(za (yg (jm L nx) H') H).get γ=some b->(∃ j b',γ=jm L nx j/\H'.get j=some b' /\b=b'.cq (jm L nx))\/(γ∉L/\H.get γ=some b):=by intro γ b h;rcases OC γ with ⟨j,rfl,hj⟩|⟨h1,h2⟩;(cases jD:H'.get j with|some b' =>rw[pW jD]at h;cases h;exact .inl ⟨j,b',rfl,jD,rfl⟩|none=>(exfalso;have key: ∀(H:qp)(i:Nat),uU i H=true-> ∀j,i<=j->j<i+H.length->H.get j≠none:=by intro H;induction H with|nil=>intro i _ j h1 h2;simp at h2;omega|cons y r ih=>intro i hk j h1 h2;obtain⟨k,b⟩:=y;simp only[uU,zU,decide_eq_true_eq]at hk;obtain⟨rfl,hk⟩:=hk;simp only[L!];split;simp;exact ih (k+1) hk j o? (by simp only[b?]at h2;omega));exact key H' 0 hk j (E! _) o? jD);rw[h2]at h;exact .inr ⟨hnotL γ h1,h⟩
 have cross: ∀{j b' γ b z},H'.get j=some b' ->b'.yi (ι' j) z->γ∉L->H.get γ=some b->b.yi (ι γ) z->False:=by intro j b' γ b z h1 u1 hL h2 u2;rcases he.nS j b' z h1 u1 with h|⟨i,x,q1,q2⟩;have:=(hi.ru γ b h2).cn u2;omega;obtain⟨β,b1,r1,r2,r3⟩:=YP q1 q2;exact hL (hi.inj β γ b1 b z r2 h2 r3 u2 ▸ r1)
 refine⟨⟨fun γ b h=>?_,fun γ γ' b b' z h h' u u' =>?_,uj.im,fun γ b z h hu=>?_,uj.N0,uj.VS⟩,mE,fun{r v} hr=>Z9 _ hr fun γ _ c hc=>BH γ c hc,fun γ b h=>?_⟩;rcases split h with ⟨j,b',rfl,jD,rfl⟩|⟨hL,hb⟩;exact(uj.ru j b' jD).cq _ (oo j (lt' jD)) fun γ _ c hc=>BH γ c hc;exact(hi.ru γ b hb).mono hi mE (fun hu=>⟨N9 γ b hL hb,fun x hx=>Jp γ b x hL hb hx⟩);rcases split h with ⟨j,c,rfl,hc,rfl⟩|⟨hL,hb⟩;rcases split h' with ⟨j',c',rfl,Gt,rfl⟩|⟨hL',jD⟩;rw[oo _ (lt' hc),qJ.nY]at u;rw[oo _ (lt' Gt),qJ.nY]at u';rw[uj.inj j j' c c' z hc Gt u u'];rw[oo _ (lt' hc),qJ.nY]at u;rw[N9 γ' b' hL' jD]at u';exact(cross hc u hL' jD u').elim;rcases split h' with ⟨j',c',rfl,Gt,rfl⟩|⟨hL',jD⟩;rw[oo _ (lt' Gt),qJ.nY]at u';rw[N9 γ b hL hb]at u;exact(cross Gt u' hL hb u).elim;rw[N9 γ b hL hb]at u;rw[N9 γ' b' hL' jD]at u';exact hi.inj γ γ' b b' z hb jD u u';rcases split h with ⟨j,c,rfl,hc,rfl⟩|⟨hL,hb⟩;rw[oo _ (lt' hc),qJ.nY]at hu;exact uj.Vt j c z hc hu;rw[N9 γ b hL hb]at hu;intro hIm;rcases he.pX _ hIm with h|h|⟨i,x,q1,q2⟩;exact hi.Vt γ b z hb hu h;have:=(hi.ru γ b hb).cn hu;omega;obtain⟨β,b1,r1,r2,r3⟩:=YP q1 q2;exact hL (hi.inj β γ b1 b z r2 hb r3 hu ▸ r1);rcases split h with ⟨j,c,rfl,hc,rfl⟩|⟨hL,hb⟩;have h2:=(sL H' 0 hk hc).2;by_cases hj:j<L.length;(have a1:L[j]? =some L[j]:=by simp[hj]);rw[g1 a1];obtain⟨b1,Hd,_⟩:=hs.has _ (zc a1);exact(jf _ b1 Hd).imp (fun h=>o?) id;rw[g2 o?];exact .inl o?;exact(jf γ b hb).imp (fun h=>o?) id
end
def lf[xn](P:Program)(f:FuncId)(args:List AV)(H:qp)(r:AV)(H' :qp):Prop:=
 ∀(w:World)(ι:yv)(Im:Nat->Prop)(vs:List Value),zf w H ι Im->args.length=vs.length->(∀(i:Nat) x v,args[i]? =some x->vs[i]? =some v->RA w H ι Im x v)->
  Calls P f ⟨vs⟩ w fun e w' => ∃v ι' kh,e= .returned v/\zf w' H' ι' kh/\vj w H ι Im w' H' ι' kh/\RA w' H' ι' kh r v
def enters(P:Program)(f:FuncId):Prop:= ∃fn,P.funcs[f]? =some fn/\(fn.name== "runtime.NumGoroutine")=false/\fn.body.isSome=true
structure SoundCall [xn] (P:Program) (O:xt):Prop where
 call: ∀f args H r H',O.call f args H=some (r,H')->enters P f/\lf P f args H r H'
section
variable [xn] {P:Program} {w:World} {H:qp} {ι:yv} {Im:Nat->Prop}
theorem G4{f:FuncId}(h:enters P f)(args:Array Value):(callFunc f args).run P w= .ok (.enter f args) w:=by
 obtain⟨fn,h1,h2,h3⟩:=h;unfold callFunc;have h3' :fn.body.isNone=false:=by cases hb:fn.body<;>simp[hb]at h3 |-
 simp only[kf,run_program,mb,h1,h2,wH,if_false,h3',W?]
theorem Bw{O:xt}(hO:SoundCall P O)(hi:zf w H ι Im){nx:Nat}{X:Nat->Prop}(jf:Bd X H nx){f:FuncId}{args:List AV}{vs:List Value}
  (hl:args.length=vs.length) (hR: ∀(i:Nat) x v,args[i]? =some x->vs[i]? =some v->RA w H ι Im x v) {e:my} (hr:eM O f args H nx=some e) (hX: ∀γ,X γ->e.2.2<=γ):
  enters P f/\Calls P f ⟨vs⟩ w fun en w' => ∃v ι' kh,en= .returned v/\zf w' (za e.2.1 H) ι' kh/\vj w H ι Im w' (za e.2.1 H) ι' kh/\RA w' (za e.2.1 H) ι' kh e.1 v/\
   nx<=e.2.2/\Bd X (za e.2.1 H) e.2.2:=by
 unfold eM at hr;split at hr;cases hr;rename_i L H0 Z1;split at hr;cases hr
 rename_i v H' dj;split at hr<;>cases hr;rename_i hk;obtain⟨hs,Wn,_⟩:=oI q0y Z1;obtain⟨Wh,dx⟩:=hO.call f _ H0 v H' dj;refine⟨Wh, ?_⟩;have:=dx w (Zi ι L) Im vs (hs.hinv hi) (by rw[d5,hl]) (fun i x v h1 h2=>by
  rw[tq]at h1
  simp only[yZ]at h1
  obtain⟨y,hy,rfl⟩:=h1
  exact Z9 _ (hR i y v hy h2) fun β hβ b hb=>hs.BH (Wn β (yf hy hβ)) b hb)
 refine this.mono fun en w'⟨u,ι',kh,h1,h2,h3,h4⟩=>?_;obtain⟨b1,b2,b3,b4⟩:=back_ok hs hi jf h2 h3 hk hX;exact⟨u,_,kh,h1,b1,b2,b3 h4,Nat.le_add_right _ _,b4⟩
theorem Act.HO(a:Act)(d:Option Tmp)(v:Value)(t:Nat):(a.put d v).tmps.getD t undef=if d=some t/\t<a.tmps.size then v else a.tmps.getD t undef:=by cases d with|none=>simp[Act.put]|some d=>simp only[Act.put,wd];by_cases h:d=t;subst h;by_cases h2:d<a.tmps.size;simp[h2,I_];simp[h2,I_];rw[if_neg (fun h' =>h h'.1)];simp only[I_,Array.size_setIfInBounds];split;rw[R_,R_,Array.getElem_setIfInBounds_ne];exact h;rfl
theorem Act.X5(a:Act)(d:Option Tmp)(v:Value):(a.put d v).tmps.size=a.tmps.size:=by cases d<;>simp[Act.put]
theorem Act.put_defers(a:Act)(d:Option Tmp)(v:Value):(a.put d v).defers=a.defers:=by cases d<;>rfl
theorem fq(d:Option Tmp)(v:AV)(E:yu)(t:Nat):(fp d v E).get t=if d=some t then v else E.get t:=by cases d with|none=>simp[fp]|some d=>simp[fp,B!]
theorem Kf{a:Act}{E:yu}{nt:Nat}(hE: ∀t,RA w H ι Im (E.get t) (a.tmps.getD t undef))(ml:nt<=a.tmps.size){d:Option Tmp}(hd: ∀t,d=some t->t<nt)
  {x:AV} {v:Value} (hx:RA w H ι Im x v): ∀t,RA w H ι Im ((fp d x E).get t) ((a.put d v).tmps.getD t undef):=by intro t;rw[fq,Act.HO];by_cases h:d=some t;rw[if_pos h,if_pos ⟨h,N! (hd t h) ml⟩];exact hx;rw[if_neg h,if_neg (fun h' =>h h'.1)];exact hE t
theorem NY:RA w H ι Im (.xW []) Go.undef:= .xW [] [] rfl z?
def Ys(nt:Nat)(ops:List Oper):Prop:= ∀o∈ops,∀ t,o.dst=some t->t<nt
def aD(w:World)(H:qp)(ι:yv)(Im:Nat->Prop)(nt:Nat)(s:St)(a:Act)(w' :World):Prop:=
 ∃ι' kh,Inv w' a s ι' kh nt/\vj w H ι Im w' s.heap ι' kh
theorem aD.from{w1:World}{H1:qp}{ι1:yv}{iX:Nat->Prop}{nt:Nat}{s:St}{a:Act}{w' :World}(h:aD w1 H1 ι1 iX nt s a w')(he:vj w H ι Im w1 H1 ι1 iX):
  aD w H ι Im nt s a w' :=
 let⟨ι',kh,h1,h2⟩:=h
 ⟨ι',kh,h1,he.trans h2⟩
theorem Us{a:Act}{o:Oper}{t:TypeId}{z:Operand}(Eh:o.op= .box t z){u:Value}{w' :World}(h:(Instr.box t (a.eval z)).run P w= .ok u w'):
  (execOp a.eval o).run P w= .ok (.value u) w' :=by unfold execOp;simp only[Eh];simp[h]
theorem opX_ok{G:GP}{O:xt}(hG:yE P G)(hO:SoundCall P O){a:Act}{E:yu}{nx:Nat}(hi:zf w H ι Im)(JW: ∀t,RA w H ι Im (E.get t) (a.tmps.getD t undef))
  {X:Nat->Prop} (jf:Bd X H nx) (o:Oper) {x:AV} {ws:List (Nat×qJ)} {fj:Nat} (ZP:mz G O o.op E H nx=some (x,ws,fj)) (hX: ∀γ,X γ->fj<=γ)
  (next:Act->World->Prop) (Q:Exit->Act->World->Prop)
  (ZI: ∀(u:Value)(w' :World)(ι' :yv)(kh:Nat->Prop),zf w' (za ws H) ι' kh->vj w H ι Im w' (za ws H) ι' kh->RA w' (za ws H) ι' kh x u->
   Bd X (za ws H) fj->next (a.put o.dst u) w'):
  o.wp P a w next Q:=by
 unfold Oper.wp;cases hc:Wt o.op with
 |false=>
  obtain⟨u,w',h1,ι',h2,h3,h4,h5,h6⟩:=aop_ok hG hi jf JW O o hc ZP hX;rcases h1 with h1|⟨h1,rfl⟩
  ·rw[h1];exact ZI _ _ _ _ h2 h3 h4 h6
  rw[h1];exact ZI _ _ _ _ h2 h3 h4 h6
 |true=>
  by_cases hbx: ∃t z,o.op= .box t z
  ·obtain⟨t,z,Eh⟩:=hbx;rw[Eh]at ZP;unfold mz at ZP;simp only at ZP;split at ZP;rotate_left
   ·cases ZP
   rename_i hs;unfold aBox at ZP;split at ZP
   ·split at ZP<;>cases ZP;rename_i l hl;obtain⟨u,w',kh,h1,h2,h3,h4⟩:=IF (P:=P) (t:=t) hi (QH JW z) hs hl;rw[Us Eh h1];exact ZI _ _ _ _ h2 h3 h4 jf
   cases ZP;obtain⟨u,w',h1,ι',h2,h3,h4,h5,h6⟩:=aBox_ok (P:=P) (t:=t) hi jf (aQ hX) (QH JW z) hs;rw[Us Eh h1];exact ZI _ _ _ _ h2 h3 h4 h6
  obtain⟨fo,args,cu,Eh⟩: ∃fo args cu,o.op= .call { callee:= .value fo,args:=args,argTypes:=cu }:=by
   cases ho:o.op<;>simp[Wt,ho]at hc
   ·exact absurd ⟨_,_,ho⟩ hbx
   rename_i c;obtain⟨callee,args,cu⟩:=c;cases callee<;>simp at hc;exact⟨_,_,_,rfl⟩
  rw[Eh]at ZP;have Sn:args.map a.eval=⟨args.toList.map a.eval⟩:=by apply I!; simp
  have K1: ∀(f:FuncId)(first cap:Array Value),a.eval fo= .func (.func f) first cap->enters P f->
    (execOp a.eval o).run P w= .ok (.enter f (first++args.map a.eval++cap)) w:=by
   intro f first cap hf Wh
   unfold execOp;simp only[Eh,resolve,hf,Deferred.ofValue,kf,W?,mb,invoke,G4 Wh]
  have hfo:=QH JW fo;have hlist:=SK JW args.toList;unfold mz at ZP;simp only at ZP;have finish: ∀(f:FuncId)(vs:List Value)(e:my),(x,ws,fj)=e->(Calls P f ⟨vs⟩ w fun en w' => ∃v ι' kh,en= .returned v/\zf w' (za e.2.1 H) ι' kh/\vj w H ι Im w' (za e.2.1 H) ι' kh/\RA w' (za e.2.1 H) ι' kh e.1 v/\
    nx<=e.2.2/\Bd X (za e.2.1 H) e.2.2)->o.upon P a next Q (.ok (.enter f ⟨vs⟩) w):=by
   intro f vs e he dj;subst he;show Calls P f ⟨vs⟩ w _;refine dj.mono fun en w'⟨v,ι',kh,q1,q2,q3,q4,q5,q6⟩=>?_;subst q1;exact ZI _ _ _ _ q2 q3 q4 q6
  split at ZP
  ·rename_i f hf;rw[hf]at hfo;have hp:=hfo.gO;generalize hv:a.eval fo=vf at hp;cases hp;obtain⟨Wh,dj⟩:=Bw hO hi jf (vs:=args.toList.map a.eval) z? hlist ZP hX;rw[K1 f #[] #[] hv Wh,Sn];have:(#[]++(⟨args.toList.map a.eval⟩:Array Value)++ #[])=⟨args.toList.map a.eval⟩:=z?;rw[this];exact finish f _ _ rfl dj
  ·rename_i f fa fb hf;rw[hf]at hfo;generalize hv:a.eval fo=vf at hfo;cases hfo with
   |Q3 _ _ _ va vb VX Su ha hb=>
    obtain⟨Wh,dj⟩:=Bw hO hi jf (vs:=va++args.toList.map a.eval++vb) (by simp[VX,Su]) (fun i z v h1 h2=>by
     rw[R!]at h1 h2
     have hlen:(fa++args.toList.map (ev E)).length=(va++args.toList.map a.eval).length:=by simp[VX]
     rw[<- hlen]at h2
     split at h1
     ·rename_i Jn
      rw[if_pos Jn]at h2
      rw[R!]at h1 h2
      rw[<- VX]at h2
      split at h1
      ·rename_i Vq
       rw[if_pos Vq]at h2
       exact ha i z v h1 h2
      rename_i Vq
      rw[if_neg Vq]at h2
      exact hlist _ z v h1 h2
     rename_i Jn
     rw[if_neg Jn]at h2
     exact hb _ z v h1 h2) ZP hX
    rw[K1 f _ _ hv Wh,Sn];have:((⟨va⟩:Array Value)++(⟨args.toList.map a.eval⟩:Array Value)++(⟨vb⟩:Array Value))=⟨va++args.toList.map a.eval++vb⟩:=z?;rw[this];exact finish f _ _ rfl dj
  cases ZP
theorem stepO_ok{G:GP}{O:xt}(hG:yE P G)(hO:SoundCall P O){nt:Nat}{a:Act}{s s' :St}(h:Inv w a s ι Im nt)(o:Oper)(hd: ∀t,o.dst=some t->t<nt)
  (hr:Xe G O o s=some s') (next:Act->World->Prop) (Q:Exit->Act->World->Prop) (hn: ∀a' w',aD w s.heap ι Im nt s' a' w' ->next a' w'):
  o.wp P a w next Q:=by
 unfold Xe at hr;split at hr<;>cases hr;rename_i x ws fj ZP;refine opX_ok hG hO h.heap h.env (X:=fun _=>False) (fun β b hb=> .inl (h.nx β b hb)) o ZP (fun _ h=>h.elim) next Q fun u w' ι' kh h1 h2 h3 h4=>?_
 refine hn _ _ ⟨ι',kh,⟨h1, ?_,fun β b hb=>(h4 β b hb).resolve_right id,by rw[Act.X5];exact h.size,by rw[Act.put_defers];exact h.defers⟩,h2⟩;exact Kf (fun t=>(h.env t).mono h.heap h2) h.size hd h3
theorem aD.post{nt:Nat}{s:St}{a:Act}{w' :World}(h:aD w H ι Im nt s a w')(l:List D7):aD w H ι Im nt (pN l s) a w' :=by obtain⟨ι1,iX,h1,e1⟩:=h;obtain⟨ι2,Gs,h2,e2⟩:=Kd l h1;exact⟨ι2,Gs,h2,e1.trans e2⟩
end
end Go.Gm
