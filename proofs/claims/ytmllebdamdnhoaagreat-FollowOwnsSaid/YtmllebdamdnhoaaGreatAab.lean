/-
  The machine, part b.
-/
import Derived.Test.YtmllebdamdnhoaaGreatAaa
import Derived.JoinedOf
import Derived.Lib.UnsafeStr
import GoSem.ClaimGoes
set_option linter.unusedSimpArgs false
set_option linter.unusedVariables false
set_option linter.unusedSectionVars false
namespace Go.Gm
open Go
section
variable [zN] {P:Program} {w:World} {H:qn} {ι:vG} {Im:Nat->Prop}
theorem Qo(a:Addr): ∀(n i:Nat)(acc cs:Array Value),(loadCellsFrom a i n acc).run P w= .ok cs w->
  ∃l:List Value,l.length=n/\cs.toList=acc.toList++l/\ ∀m,m<=n->(loadCellsFrom a i m acc).run P w= .ok ⟨acc.toList++l.take m⟩ w
 |0,i,acc,cs,h=>by
  simp only[loadCellsFrom,Sem.run_pure,Result.ok.injEq,and_true]at h;subst h;refine⟨[],rfl,by simp,fun m hm=>?_⟩;have:m=0:=by omega
  subst this;simp[loadCellsFrom]
 |n+1,i,acc,cs,h=>by
  obtain⟨v,hv⟩: ∃v,(load (a.add i)).run P w= .ok v w:=by
   simp only[loadCellsFrom,ji]at h;rw[run_load]at h |-;split at h
   ·exact⟨_,rfl⟩
   split at h
   ·exact⟨_,rfl⟩
   cases h
  simp only[loadCellsFrom,ji,hv,gm]at h;obtain⟨l,h1,h2,h3⟩:=Qo a n (i+1) (acc.push v) cs h;refine⟨v::l,by simp[h1],by simp[h2],fun m hm=>?_⟩;cases m with
  |zero=>simp[loadCellsFrom]
  |succ m=>
   have:=h3 m (by omega);simp only[loadCellsFrom,ji,hv,gm,this];simp
theorem Xh{size n k:Nat}{v:Value}{cs:Array Value}(h:(Builtin.firstCells size n v).run P w= .ok cs w)(hk:k<=n)(hl:cs.size=n*size):
  (Builtin.firstCells size k v).run P w= .ok ⟨cs.toList.take (k*size)⟩ w:=by
 have G3:k*size<=n*size:=mulR _ hk;cases v with
 |slice base a c=>
  cases base with
  |none=>
   simp only[Builtin.firstCells,Sem.run_pure,Result.ok.injEq,and_true]at h |-;subst h;simp
  |some ad=>
   simp only[Builtin.firstCells,loadCells]at h |-;obtain⟨l,h1,h2,h3⟩:=Qo ad (n*size) 0 #[] cs h;rw[h3 _ G3];simp[h2]
 |string s=>
  simp only[Builtin.firstCells,Sem.run_pure,Result.ok.injEq,and_true]at h |-;subst h;simp at hl;by_cases hk0:k=0
  ·subst hk0;simp
  have bO:size=1\/min n s.size=0:=by
   rcases Nat.lt_or_ge size 2 with h|h
   ·rcases Nat.lt_or_ge size 1 with h' |h'
    ·right;have:size=0:=by omega
     subst this;omega
    left;omega
   have:=Nat.mul_le_mul_left n h;right;omega
  rcases bO with rfl|h0
  ·apply Array.ext';simp[List.take_take,Nat.min_eq_left hk]
  have:s.size=0:=by omega
  apply Array.ext';have hs:s.data.toList=[]:=by
   cases s with|mk d=>simpa[ByteArray.size]using this
  simp[hs]
 |_=>simp[Builtin.firstCells]at h
theorem xD.take{sz k:Nat}{es:List (List PV)}{cs:Array Value}(h:xD w Im sz es (cs[·]?)):xD w Im sz (es.take k) ((⟨cs.toList.take (k*sz)⟩:Array Value)[·]?):=by
 refine⟨fun e he=>h.1 e (List.mem_of_mem_take he),fun i e j p hi hj=>?_,fun i e j p hi hj=>?_⟩
 ·have xB:=(qF hi).1;simp at xB;rw[List.getElem?_take_of_lt (by omega)]at hi;exact h.2.1 i e j p hi hj
 have xB:=(qF hi).1;simp at xB;rw[List.getElem?_take_of_lt (by omega)]at hi;obtain⟨v,h1,h2⟩:=h.2.2 i e j p hi hj;refine⟨v, ?_,h2⟩;have NX:=(qF hj).1;have he:=h.1 e (qX hi);have:(i+1)*sz<=k*sz:=mulR _ (by omega);rw[Nat.succ_mul]at this;simp only[List.getElem?_toArray];rw[List.getElem?_take_of_lt (by omega)];simpa using h1
theorem A5{ts e:TypeId}{ti te:TI}(Qj:zx P ts ti)(xr:ti.td= .slice e)(rD:zx P e te){rI:Array TypeId}(h0:rI[0]? =some ts)(tt:TypeId)
  (hi:qW w H ι Im) {nx:Nat} {X:Nat->Prop} (xt:Bd X H nx) {x y:AV} {vx vy:Value} (hx:RA w H ι Im x vx) (hy:RA w H ι Im y vy) {r:bY} (hr:Q2 te x y H nx=some r):
  ∃u w',(Builtin.copy_ rI tt #[vx,vy]).run P w= .ok u w' /\mG X w H ι Im nx r u w' :=by
 unfold Q2 at hr;split at hr
 ·cases hr
 rename_i mT Kr nO;split at hr;rotate_left
 ·cases hr
 rename_i β zF off n;split at hr;rotate_left
 ·cases hr
 rename_i sz es hb;split at hr<;>cases hr;rename_i hc;obtain⟨xU,hszz,bO⟩:=hc;subst hszz;obtain⟨l1,cs0,f1',f2',f3'⟩:(Builtin.lenOf vy).run P w= .ok Kr.length w/\ ∃cs,(Builtin.firstCells te.size Kr.length vy).run P w= .ok cs w/\cs.size=Kr.length*te.size/\xD w Im te.size Kr (cs[·]?):=by
  obtain⟨a,b⟩:=mS (P:=P) hi hy nO;exact⟨a,b te.size bO⟩
 generalize hsrc' :Kr.take n=src;have hk:src.length=min Kr.length n:=by rw[<- hsrc'];simp[Nat.min_comm]
 have f1:=Xh f1' (show src.length<=Kr.length by omega) f2';have f3:xD w Im te.size src ((⟨cs0.toList.take (src.length*te.size)⟩:Array Value)[·]?):=by
  have:=f3'.take (k:=src.length);have e:Kr.take src.length=src:=by
   rw[<- hsrc',List.take_eq_take_iff];simp
  rwa[e]at this
 have f2:(⟨cs0.toList.take (src.length*te.size)⟩:Array Value).size=src.length*te.size:=by
  have:src.length*te.size<=Kr.length*te.size:=mulR _ (by omega);show(cs0.toList.take _).length=_;rw[List.length_take];have h2:cs0.toList.length=Kr.length*te.size:=f2';rw[h2];exact Nat.min_eq_left this
 generalize (⟨cs0.toList.take (src.length*te.size)⟩:Array Value)=cs at f1 f2 f3;have C3:=hx;cases hx with
 |row _ _ _ _ _ b ho xQ QM hv hh=>
 rw[hb]at xQ;cases xQ;obtain⟨h1,h2⟩:=hh _ _ _ rfl xU;simp only[w9,if_false]at h2;obtain⟨a,rfl,fR,dR,eX⟩:=h2;obtain⟨ab,ao,T5⟩:=a;simp only at fR dR eX;subst fR dR;obtain⟨vs,elem,fz,g1,g2,g3,bU,g5,g6,g7,g8⟩:=hi.row hb;have hsn:src.length<=n:=by omega
 have SK:src≠[]->ao=off*te.size:=fun jv=>by
  have:=List.length_pos_iff.2 jv;exact eX (by omega)
 have Z7: ∀x∈cs.toList,rY x=true:=by
  intro x hx;obtain⟨m,hm⟩:=jz hx;have JH:m<src.length*te.size:=by
   have:=(qF hm).1;simp at this;omega
  have hdiv:m / te.size<src.length:=Nat.div_lt_of_lt_mul (by rwa[Nat.mul_comm]);have hmod:m % te.size<te.size:=Nat.mod_lt _ bU;obtain⟨e0,KG⟩: ∃e0,src[m / te.size]? =some e0:=⟨src[m / te.size],by simp⟩;have Yr:=f3.1 e0 (qX KG);obtain⟨p0,Lt⟩: ∃p0,e0[m % te.size]? =some p0:=⟨e0[m % te.size]'(by omega),by simp⟩;obtain⟨v0,q1,q2⟩:=f3.2.2 _ e0 _ p0 KG Lt;have:m / te.size*te.size+m % te.size=m:=by rw[Nat.mul_comm];exact Nat.div_add_mod m te.size
  simp only[this]at q1;have:x=v0:=by
   have h0:cs[m]? =some x:=by simpa using hm
   rw[h0]at q1;exact Option.some.inj q1
  subst this;exact q2.rY (f3.2.1 _ e0 _ p0 KG Lt)
 have hmul:off*te.size+src.length*te.size<=vs.size:=by
  rw[g3,<- Nat.add_mul];exact mulR _ (by omega)
 have XF: ∃w',(storeCells ⟨(ι β).b,ao,none⟩ cs.toList).run P w=Result.ok () w' /\(w'.heap.size=w.heap.size/\w'.os=w.os/\w'.output=w.output)/\(∀ b',b' ≠(ι β).b->w'.heap[b']? =w.heap[b']?)/\
   ∃dG:Array Value,w'.heap[(ι β).b]? =some (.cells dG elem fz)/\dG.size=vs.size/\ ∀k,dG[k]? =if off*te.size<=k/\k<off*te.size+cs.size then cs[k-off*te.size]? else vs[k]? :=by
  by_cases hs:src=[]
  ·have AU:cs.size=0:=by rw[f2,hs];simp
   have lW:cs.toList=[]:=by simpa using AU
   refine⟨w,by rw[lW];rfl,⟨rfl,rfl,rfl⟩,fun _ _=>rfl,vs,g1,rfl,fun k=>?_⟩;rw[if_neg (by omega)]
  have:=SK hs;subst this;obtain⟨w',q1,q2,q3,dG,q4,q5,q6⟩:=wQ (P:=P) (ι β).b (off*te.size) elem fz cs.toList 0 w vs g1 g2 (by simp[f2];omega) Z7;refine⟨w',by simpa using q1,q2,q3,dG,q4,q5,fun k=>?_⟩;rw[q6 k];simp
 obtain⟨w',q1,q2,q3,dG,q4,q5,q6⟩:=XF;have JL:(Builtin.copy_ rI tt #[.slice (some ⟨(ι β).b,ao,none⟩) n ((ι β).cap-off),vy]).run P w= .ok (.int .i64 (src.length:Nat)) w' :=by
  have hmin:Nat.min Kr.length n=src.length:=hk.symm;unfold Builtin.copy_;simp only[List.getElem?_toArray,List.getElem?_cons_zero,List.getElem?_cons_succ,h0,ji,qv (Qj.slice xr),gm,l1,rD.size,hmin,f1,q1,Sem.run_pure,goInt]
 have hes' :(es.take off++src++es.drop (off+src.length)).length=es.length:=by
  simp;omega
 refine⟨_,w',JL,jj ι β (ι β), ?_⟩;have key:=qW.put (Qf:=TG hb rfl) hi (w' :=w') β (.row false te.size (es.take off++src++es.drop (off+src.length))) (ι β)
  (fun x hx=>by
   rw[hb]at hx
   cases hx
   simp only[xi,qC.sh]
   exact⟨by omega,fun _=>⟨by simp,fun _=>⟨by simp,Pl.ot _⟩⟩⟩)
  ⟨by omega,q2.2⟩ (fun b' _ jv=>q3 b' (fun e=>jv _ hb rfl e.symm)) (fun _=> .inr ⟨_,hb,rfl,rfl⟩) (fun bM=>by
   have hw: ∀b,Im b->w'.heap[b]? =w.heap[b]? :=fun b hb=>bM.Qm hi b hb
   have mq: ∀(i:Nat) e0,(es.take off++src++es.drop (off+src.length))[i]? =some e0->
     (off<=i/\i<off+src.length/\src[i-off]? =some e0)\/(¬ (off<=i/\i<off+src.length)/\es[i]? =some e0):=by
    intro i e0 h
    rw[kp es src off i (by omega)]at h
    split at h
    ·rename_i hc
     exact .inl ⟨hc.1,hc.2,h⟩
    rename_i hc
    exact .inr ⟨hc,h⟩
   refine⟨dG,elem,fz,by simpa using q4,by rw[q5];exact g2,by simp[q5,g3],bU,by simp only[jT];omega, ?_, ?_, ?_⟩
   ·intro e0 KG
    obtain⟨i,vq⟩:=jz KG
    rcases mq i e0 vq with ⟨_,_,h⟩|⟨_,h⟩
    ·exact f3.1 e0 (qX h)
    exact g6 e0 (qX h)
   ·intro i e0 j p vq hj
    rcases mq i e0 vq with ⟨_,_,h⟩|⟨_,h⟩
    ·exact f3.2.1 _ e0 j p h hj
    exact g7 _ e0 j p h hj
   intro i e0 j p vq hj
   have NX:=(qF hj).1
   rw[q6]
   rcases mq i e0 vq with ⟨k1,k2,h⟩|⟨k1,h⟩
   ·obtain⟨v0,w1,w2⟩:=f3.2.2 _ e0 j p h hj
    have Yr:=f3.1 e0 (qX h)
    have e1:i*te.size+j-off*te.size=(i-off)*te.size+j:=by
     have:i=off+(i-off):=by omega
     conv=>lhs;rw[this,Nat.add_mul]
     omega
    have e2:off*te.size<=i*te.size:=mulR _ k1
    have e3:(i+1)*te.size<=(off+src.length)*te.size:=mulR _ k2
    rw[Nat.succ_mul,Nat.add_mul]at e3
    rw[if_pos ⟨by omega,by rw[f2];omega⟩,e1]
    exact⟨v0,w1,w2.mono bM.im hw⟩
   obtain⟨v0,w1,w2⟩:=g8 _ e0 j p h hj
   have Yr:=g6 e0 (qX h)
   have Z8: ¬(off*te.size<=i*te.size+j/\i*te.size+j<off*te.size+cs.size):=by
    rw[f2]
    by_cases xB:i<off
    ·have:(i+1)*te.size<=off*te.size:=mulR _ xB
     rw[Nat.succ_mul]at this
     omega
    have:(off+src.length)*te.size<=i*te.size:=mulR _ (by omega)
    rw[Nat.add_mul]at this
    omega
   rw[if_neg Z8]
   exact⟨v0,w1,w2.mono bM.im hw⟩)
 exact⟨key.1,key.2,.pv _ _ (.int _ _),xJ _,ki xt (xJ _) (xt β _ hb)⟩
end
section
variable [zN] {P:Program} {w:World} {H:qn} {ι:vG} {Im:Nat->Prop}
theorem Zm{a:Act}{E:vF}(hE: ∀t,RA w H ι Im (E.get t) (a.tmps.getD t undef))(d:Nat)(x:Option Operand){n:Nat}(h:jU (ev E) d x=some n):
  (x=none/\n=d)\/ ∃kd,(x.map a.eval)=some (.int kd (n:Int)):=by
 cases x with
 |none=>
  simp only[jU,kX]at h;exact .inl ⟨rfl,h.symm⟩
 |some x=>
  simp only[jU]at h;obtain⟨kd,hk⟩:=Qt (oX hE x) h;exact .inr ⟨kd,by simp[hk]⟩
theorem run_sliceBound{kd:IntKind}{n y:Nat}(h:n<=y)(code:BoundsCode):(Instr.sliceBound (.int kd (n:Int)) y code).run P w= .ok n w:=by
 unfold Instr.sliceBound asIntOf;have:(n:Int)<=(y:Int):=by omega
 simp[this]
theorem u9(isSlice:Bool){a:Act}{E:vF}(hE: ∀t,RA w H ι Im (E.get t) (a.tmps.getD t undef))(lo hi mx:Option Operand)(len cap:Nat){l h m:Nat}
  (hl:jU (ev E) 0 lo=some l) (hh:jU (ev E) len hi=some h) (hm:jU (ev E) cap mx=some m) (h1:l<=h) (h2:h<=m) (h3:m<=cap)
  (hmx:mx≠none->hi≠none):
  (Instr.sliceBounds isSlice len cap (lo.map a.eval) (hi.map a.eval) (mx.map a.eval)).run P w= .ok (l,h,m) w:=by
 have e1:=Zm hE 0 lo hl;have e2:=Zm hE len hi hh;have e3:=Zm hE cap mx hm;unfold Instr.sliceBounds;rcases e3 with ⟨rfl,rfl⟩|⟨k3,e3⟩
 ·rcases e2 with ⟨rfl,rfl⟩|⟨k2,e2⟩
  ·rcases e1 with ⟨rfl,rfl⟩|⟨k1,e1⟩
   ·simp
   simp only[e1,Option.map_none,ji,Sem.run_pure,gm,run_sliceBound h1]
  rcases e1 with ⟨rfl,rfl⟩|⟨k1,e1⟩
  ·simp only[e2,Option.map_none,ji,Sem.run_pure,gm,run_sliceBound h2]
  simp only[e1,e2,Option.map_none,ji,Sem.run_pure,gm,run_sliceBound h1,run_sliceBound h2]
 rcases e2 with ⟨rfl,rfl⟩|⟨k2,e2⟩
 ·have:mx≠none:=by
   intro e;subst e;cases e3
  exact absurd rfl (hmx this)
 rcases e1 with ⟨rfl,rfl⟩|⟨k1,e1⟩
 ·simp only[e2,e3,Option.map_none,ji,Sem.run_pure,gm,run_sliceBound h2,run_sliceBound h3]
 simp only[e1,e2,e3,ji,Sem.run_pure,gm,run_sliceBound h1,run_sliceBound h2,run_sliceBound h3]
theorem W1(s:List UInt8)(l h:Nat):(ByteArray.mk ⟨s⟩).extract l h=⟨⟨(s.take h).drop l⟩⟩:=by
 apply ByteArray.ext;apply Array.ext';simp[List.extract_eq_take_drop,List.drop_take]
theorem slv_sh{b:qC}{x:Bool×Nat×Nat}(h:b.slv=some x):b.sh=some x:=by
 unfold qC.slv at h;split at h
 ·exact h
 ·exact h
 cases h
theorem slv_cap(hi:qW w H ι Im){β:Nat}{b:qC}{sz k:Nat}(hb:H.get β=some b)(hs:b.slv=some (false,sz,k)):k<=(ι β).cap:=by
 unfold qC.slv at hs;split at hs
 ·cases hs;obtain⟨vs,elem,fz,g1,g2,g3,g4,g5,_⟩:=hi.row hb;exact g5
 ·cases hs;obtain⟨vs,elem,fz,h1,h2,h3,h4,_⟩:=hi.jI hb;exact h4
 cases hs
theorem slv_nil{β:Nat}{b:qC}{sz k:Nat}(h:pE w H ι Im β b)(hs:b.slv=some (true,sz,k)):k=0:=by
 unfold qC.slv at hs;split at hs
 ·cases hs;have:_=[]:=h;rw[this];rfl
 ·cases hs;obtain⟨h1,_⟩:=h;rw[h1];rfl
 cases hs
theorem S8{G:TypeId->Option TI}(hG: ∀t ti,G t=some ti->zx P t ti){t:TypeId}{ti:TI}(ht:zx P t ti)(vq:qW w H ι Im)
  {a:Act} {E:vF} (hE: ∀t,RA w H ι Im (E.get t) (a.tmps.getD t undef)) {x:AV} {v:Value} (hx:RA w H ι Im x v) (lo hi mx:Option Operand)
  {r:AV} (hr:ft ti.td G (ev E) x lo hi mx H=some r):
  ∃u,(Instr.sliceAt t v (lo.map a.eval) (hi.map a.eval) (mx.map a.eval)).run P w= .ok u w/\RA w H ι Im r u:=by
 unfold ft at hr;split at hr
 ·cases hr
 rename_i hmx0;have hmx:mx≠none->hi≠none:=by
  intro h1 h2;subst h2;cases mx with
  |none=>exact h1 rfl
  |some _=>exact hmx0 ⟨rfl,rfl⟩
 split at hr
 ·rename_i xr;have hu:=ht.string xr;split at hr;rotate_left
  ·cases hr
  rename_i s;split at hr
  ·cases hr
  rename_i hmn;have hmn' :mx=none:=by cases mx<;>simp_all
  subst hmn';split at hr;rotate_left
  ·cases hr
  rename_i l h hl hh;split at hr<;>cases hr;rename_i hc;cases hx with
  |pv _ _ hp=>cases hp with
   |str=>
    have hb:=u9 (P:=P) false hE lo hi none s.length s.length hl hh rfl hc.1 hc.2 (xJ _) (fun h=>absurd rfl h);refine⟨.string ((ByteArray.mk ⟨s⟩).extract l h), ?_,.pv _ _ (by rw[W1];exact .str _)⟩;unfold Instr.sliceAt Instr.slice;simp only[ji,qv hu,gm];have bO:(ByteArray.mk ⟨s⟩).size=s.length:=rfl;simp only[Option.map_none]at hb |-;simp[bO,hb]
 ·rename_i e xr;have hu:=ht.slice xr;split at hr
  ·cases hr
  rename_i te rD;have tR:=hG _ _ rD;have run: ∀(base:Option Addr)(len cap l h m:Nat),(Instr.sliceBounds true len cap (lo.map a.eval) (hi.map a.eval) (mx.map a.eval)).run P w= .ok (l,h,m) w->
    (Instr.sliceAt t (.slice base len cap) (lo.map a.eval) (hi.map a.eval) (mx.map a.eval)).run P w= .ok (.slice (if m=l then base else base.map (·.add (l*te.size))) (h-l) (m-l)) w:=by
   intro base len cap l h m hb;unfold Instr.sliceAt Instr.slice;simp only[ji,qv hu,gm,hb,tR.size,Sem.run_pure]
  split at hr
  ·rename_i qq sz es;split at hr;rotate_left
   ·cases hr
   rename_i l h m hl hh hm;split at hr;rotate_left
   ·cases hr
   rename_i hc;obtain⟨c1,c2,c3,c4⟩:=hc;cases hx with
   |pv _ _ hp=>cases hp with
    |cJ=>
     have hm0:m=0:=by simpa using c3
     subst hm0;have hh0:h=0:=by omega
     subst hh0;have hl0:l=0:=by omega
     subst hl0;have hb:=u9 (P:=P) true hE lo hi mx 0 0 hl (by simpa using hh) (by simpa using hm) (xJ _) (xJ _) (xJ _) hmx;simp at hr;subst hr;refine⟨_,run none 0 0 0 0 0 hb, ?_⟩;simp;exact .pv _ _ (.cJ 0)
    |sl _ _ b off cap vs oI Xi bO JF hf hrp sp Tn=>
     have hm' : ∃m',jU (ev E) cap mx=some m' /\((mx=none/\m' =cap)\/(mx≠none/\m' =m)):=by
      cases mx with
      |none=>exact⟨cap,rfl,.inl ⟨rfl,rfl⟩⟩
      |some y=>exact⟨m,hm,.inr ⟨by simp,rfl⟩⟩
     obtain⟨m',hm',E9⟩:=hm';have hhm:h<=m' /\m' <=cap:=by
      rcases E9 with ⟨rfl,rfl⟩|⟨_,rfl⟩
      ·simp only[jU,kX]at hm;omega
      omega
     have hb:=u9 (P:=P) true hE lo hi mx es.length cap hl hh hm' c1 hhm.1 hhm.2 hmx;refine⟨_,run (some ⟨b,off,sp⟩) es.length cap l h m' hb, ?_⟩;split at hr
     ·rename_i hz;cases hr;obtain⟨z1,z2,_⟩:=hz;rcases E9 with ⟨rfl,_⟩|⟨_,rfl⟩
      ·cases z1
      have e1:h-l=0:=by omega
      have e2:m' -l=0:=by omega
      rw[if_pos z2.symm,e1,e2];exact .aT _
     cases hr;by_cases rR:es=[]
     ·subst rR;simp only[List.length_nil,Nat.le_zero_eq]at c3;have hh0:h=0:=by omega
      have hl0:l=0:=by omega
      subst hh0;subst hl0;have hz:RP w Im (.sl false sz (([]:List (List PV)).take 0 |>.drop 0)) (.slice (some ⟨b,off,sp⟩) (0-0) (m' -0)):=
       .sl sz [] b off (m' -0) (fun _=>undef) (fun h=>absurd rfl h) (Nat.zero_le _) (by simp) (fun i xB=>by simp at xB) (by simp) (by simp) sp (fun h=>absurd rfl h)
      have ha:(⟨b,off,sp⟩:Addr).add (0*te.size)=⟨b,off,sp⟩:=by simp[Addr.add]
      split
      ·exact .pv _ _ hz.mk
      simp only[Option.map_some,ha];exact .pv _ _ hz.mk
     obtain rfl:=Tn rR;have hlen:((es.take h).drop l).length=h-l:=by simp;omega
     have key: ∀(a0:Nat),(l<h->a0=off+l*sz)->RP w Im (.sl false sz ((es.take h).drop l)) (.slice (some ⟨b,a0,none⟩) (h-l) (m' -l)):=by
      intro a0 DG;rw[<- hlen];have mq: ∀(i:Nat) e0,((es.take h).drop l)[i]? =some e0->l+i<h/\es[l+i]? =some e0:=by
       intro i e0 hi0;have h1:=(qF hi0).1;rw[List.getElem?_drop,List.getElem?_take_of_lt (by omega)]at hi0;exact⟨by omega,hi0⟩
      refine .sl sz _ b a0 (m' -l) (fun i=>vs (l*sz+i)) (fun jv=>oI (fun h0=>jv (by rw[h0];simp))) (by omega) (fun e0 KG=>bO e0 (List.mem_of_mem_take (List.mem_of_mem_drop KG))) (fun i xB=>?_) (fun i e0 j p q1 q2=>hf _ e0 j p (mq i e0 q1).2 q2) (fun i e0 j p q1 q2=>?_) none (fun _=>rfl)
      ·rw[hlen]at xB;have jv:l<h:=by
        rcases Nat.lt_or_ge l h with h0|h0
        ·exact h0
        have:h-l=0:=by omega
        rw[this]at xB;simp at xB
       rw[DG jv,Nat.add_assoc];refine JF _ ?_;have e1:(l+(h-l))*sz<=es.length*sz:=mulR _ (by omega);rw[Nat.add_mul]at e1;omega
      obtain⟨_,g⟩:=mq i e0 q1;have:=hrp (l+i) e0 j p g q2;rw[Nat.add_mul]at this;rwa[<- Nat.add_assoc]
     by_cases JH:m' =l
     ·rw[if_pos JH];exact .pv _ _ (key off (fun h0=>by omega)).mk
     rw[if_neg JH];simp only[Option.map_some,add_plain];refine .pv _ _ (RP.mk (key _ (fun h0=>?_)));rcases c4 with rfl|c4
     ·rfl
     subst c4;simp at c3;omega
  ·rename_i β zF off n;split at hr;rotate_left
   ·cases hr
   rename_i mW hb;split at hr;rotate_left
   ·cases hr
   rename_i qq sz k0 hsl;split at hr;rotate_left
   ·cases hr
   rename_i l h m hl hh hm;split at hr;rotate_left
   ·cases hr
   rename_i hc;obtain⟨xU,c1,c2,c3,c4⟩:=hc;have C3:=hx;cases hx with
   |row _ _ _ _ _ b ho xQ hk hv hh' =>
   rw[hb]at xQ;cases xQ;have hsh:=slv_sh hsl;obtain⟨h1,h2⟩:=hh' _ _ _ hsh xU;cases hn:qq
   ·subst hn;simp only[w9,if_false]at h2 hr;obtain⟨a0,rfl,fR,dR,eX⟩:=h2;obtain⟨ab,ao,T5⟩:=a0;simp only at fR dR eX;subst fR dR;have hte0:sz=te.size:=by
     rcases c4 with h|h
     ·exact h
     cases h
    have g5:=slv_cap vq hb hsl;have hm' : ∃m',jU (ev E) ((ι β).cap-off) mx=some m' /\((mx=none/\m' =(ι β).cap-off)\/(mx≠none/\m' =m)):=by
     cases mx with
     |none=>exact⟨_,rfl,.inl ⟨rfl,rfl⟩⟩
     |some y=>exact⟨m,hm,.inr ⟨by simp,rfl⟩⟩
    obtain⟨m',hm',E9⟩:=hm';have hhm:h<=m' /\m' <=(ι β).cap-off:=by
     rcases E9 with ⟨rfl,rfl⟩|⟨_,rfl⟩
     ·simp only[jU,kX]at hm;omega
     omega
    have SM:=u9 (P:=P) true hE lo hi mx n ((ι β).cap-off) hl hh hm' c1 hhm.1 hhm.2 hmx;refine⟨_,run _ n _ l h m' SM, ?_⟩;split at hr
    ·split at hr<;>cases hr;rename_i hz hlm;rcases E9 with ⟨rfl,_⟩|⟨_,rfl⟩
     ·cases hz
     have e1:h-l=0:=by omega
     have e2:m' -l=0:=by omega
     rw[if_pos hlm.symm,e1,e2];exact .aT _
    rename_i hz;cases hr;rcases E9 with ⟨rfl,rfl⟩|⟨jv,_⟩;rotate_left
    ·cases mx with
     |none=>exact absurd rfl jv
     |some _=>exact absurd rfl hz
    refine .row β zF (off+l) (h-l) _ _ (by split<;>rfl) hb hk hv fun qq PA eg e hv' =>?_;rw[hsh]at e;cases e;refine⟨by omega, ?_⟩;simp only[w9,if_false];by_cases JH:(ι β).cap-off=l
    ·rw[if_pos JH];exact⟨⟨(ι β).b,ao,none⟩,by rw[Nat.sub_sub],rfl,rfl,fun h0=>by omega⟩
    rw[if_neg JH];refine⟨⟨(ι β).b,ao+l*te.size,none⟩,by simp only[Option.map_some,add_plain];rw[Nat.sub_sub],rfl,rfl,fun h0=>?_⟩;have:=eX (by omega);subst this;rw[hte0,Nat.add_mul]
   subst hn;simp only[if_true]at h2 hr;subst h2;have rR:k0=0:=slv_nil (vq.mW β _ hb) hsl;subst rR;have UC:n=0:=by omega
   subst UC;have hm0:m=0:=by omega
   subst hm0;have hh0:h=0:=by omega
   subst hh0;have hl0:l=0:=by omega
   subst hl0;simp only[Nat.add_zero,Nat.sub_zero,ite_self,kX]at hr;subst hr;have SM:=u9 (P:=P) true hE lo hi mx 0 0 hl hh hm (xJ _) (xJ _) (xJ _) hmx;refine⟨_,run none 0 0 0 0 0 SM, ?_⟩;simpa using C3
  ·split at hr<;>cases hr;rename_i hl hh hm;cases hx with
   |aT a=>
    have SM:=u9 (P:=P) true hE lo hi mx 0 0 hl hh hm (xJ _) (xJ _) (xJ _) hmx;refine⟨_,run (some a) 0 0 0 0 0 SM, ?_⟩;simp;exact .aT _
  cases hr
 cases hr
end
section
variable [zN] {P:Program} {w:World} {H:qn} {ι:vG} {Im:Nat->Prop}
theorem RA.row_inv{β zF off n:Nat}{v:Value}(hx:RA w H ι Im (.row β zF off n) v){qq:Bool}{sz:Nat}{es:List (List PV)}
  (hb:H.get β=some (.row qq sz es)) (hv:zF=es.length):off+n<=es.length/\
    if qq=true then v= .slice none 0 0
    else ∃a,v= .slice (some a) n ((ι β).cap-off)/\a.spot=none/\a.block=(ι β).b/\(off<(ι β).cap->a.off=off*sz):=by
 cases hx with
 |row _ _ _ _ _ b ho xQ hk hv' hh' =>
  rw[hb]at xQ;cases xQ;exact hh' _ _ _ rfl hv
theorem RA.Ud(hi:qW w H ι Im){β zF off n:Nat}{v:Value}(hx:RA w H ι Im (.row β zF off n) v){qq:Bool}{sz:Nat}{es:List (List PV)}
  (hb:H.get β=some (.row qq sz es)) (hv:zF=es.length): ∃a c,v= .slice a n c/\a.isNone=qq:=by
 obtain⟨h1,h2⟩:=hx.row_inv hb hv;cases qq
 ·simp only[w9,if_false]at h2;obtain⟨a,rfl,_⟩:=h2;exact⟨_,_,rfl,rfl⟩
 simp only[if_true]at h2;subst h2;have rR:es=[]:=hi.mW β _ hb;subst rR;have:n=0:=by simp at h1;omega
 subst this;exact⟨_,_,rfl,rfl⟩
theorem RA.Ad{β zF off n:Nat}{v:Value}(hx:RA w H ι Im (.row β zF off n) v){sz:Nat}{es:List (List AV)}
  (hb:H.get β=some (.yq sz es)) (hv:zF=es.length): ∃a c,v= .slice a n c:=by
 cases hx with
 |row _ _ _ _ _ b ho xQ hk xU h=>
  rw[hb]at xQ;cases xQ;obtain⟨h1,h2⟩:=h _ _ _ rfl hv;simp only[w9,if_false]at h2;obtain⟨a,rfl,_⟩:=h2;exact⟨_,_,rfl⟩
theorem RA.Ip(hi:qW w H ι Im){β zF off n:Nat}{v:Value}(hx:RA w H ι Im (.row β zF off n) v){qq:Bool}{ds:List Nat}{es:List PV}{i5:Option (Nat×Nat×Nat)}
  (hb:H.get β=some (.jI qq ds es i5)) (hv:zF=es.length): ∃a c,v= .slice a n c:=by
 cases hx with
 |row _ _ _ _ _ b ho xQ hk xU h=>
  rw[hb]at xQ;cases xQ;obtain⟨h1,h2⟩:=h _ _ _ rfl hv;cases qq with
  |false=>
   simp only[w9,if_false]at h2;obtain⟨a,rfl,_⟩:=h2;exact⟨_,_,rfl⟩
  |true=>
   simp only[if_true]at h2;subst h2;have rR:es=[]:=(hi.mW β _ hb).1;subst rR;have:n=0:=by simp at h1;omega
   subst this;exact⟨_,_,rfl⟩
theorem aLen_ok{t:TypeId}{ti:TI}(ht:zx P t ti)(hi:qW w H ι Im){x:AV}{v:Value}(hx:RA w H ι Im x v)(tt:TypeId){n:Nat}(xr:Qn ti.td x=true)(hr:Hk x H=some n):
  (Builtin.len_ #[t] tt #[v]).run P w= .ok (.int .i64 n) w:=by
 unfold Hk at hr;unfold Builtin.len_;simp only[List.getElem?_toArray,List.getElem?_cons_zero,ji];split at hr
 ·rename_i s;cases hr;cases hx with
  |pv _ _ h=>cases h with
   |str=>
    have kr:ti.td= .string:=by
     cases h:ti.td<;>simp[Qn,h]at xr |-
    simp only[qv (ht.string kr),gm,goInt];rfl
 ·rename_i qq sz es;cases hr;have kr: ∃e,ti.td= .slice e:=by
   cases h:ti.td<;>simp[Qn,h]at xr |-
  obtain⟨e,kr⟩:=kr;simp only[qv (ht.slice kr),gm];cases hx with
  |pv _ _ h=>cases h<;>rfl
 ·cases hr;have kr: ∃k e,ti.td= .map k e:=by
   cases h:ti.td<;>simp[Qn,h]at xr |-
  obtain⟨k,e,kr⟩:=kr;simp only[qv (ht.map kr),gm];cases hx with
  |pv _ _ h=>cases h;rfl
 ·cases hr;have kr: ∃e,ti.td= .slice e:=by
   cases h:ti.td<;>simp[Qn,h]at xr |-
  obtain⟨e,kr⟩:=kr;simp only[qv (ht.slice kr),gm];cases hx with
  |aT a=>rfl
 ·rename_i β zF off m;have kr: ∃e,ti.td= .slice e:=by
   cases h:ti.td<;>simp[Qn,h]at xr |-
  obtain⟨e,kr⟩:=kr;simp only[qv (ht.slice kr),gm];split at hr
  ·rename_i qq sz es hb;split at hr<;>cases hr;rename_i xU;obtain⟨a,c,rfl,_⟩:=hx.Ud hi hb xU;rfl
  ·rename_i sz es hb;split at hr<;>cases hr;rename_i xU;obtain⟨a,c,rfl⟩:=hx.Ad hb xU;rfl
  ·rename_i qq ds es i5 hb;split at hr<;>cases hr;rename_i xU;obtain⟨a,c,rfl⟩:=hx.Ip hi hb xU;rfl
  cases hr
 ·rename_i β;split at hr<;>cases hr;rename_i es zI hb;have kr: ∃k e,ti.td= .map k e:=by
   cases h:ti.td<;>simp[Qn,h]at xr |-
  obtain⟨k,e,kr⟩:=kr;simp only[qv (ht.map kr),gm];cases hx with
  |map _ eg Jl xQ=>
   obtain⟨zO,h1,h2,h3⟩:=hi.mW β _ hb;have:(getObj (ι β).b).run P w= .ok (.map ⟨zO⟩ zI) w:=by
    simp[getObj,Sem.run,h1]
   simp only[ji,this,gm];simp[goInt,h2]
 cases hr
theorem C7{op:BinOp}{k:IntKind}{x y:Int}{p:PV}(Qh:op≠ .shl/\op≠ .shr)(t:TypeId)(hr:Yv op k x y=some p):
  ∃u,(binOp op t (.int k x) (.int k y)).run P w= .ok u w/\RP w Im p u:=by
 unfold Yv at hr;cases op<;>simp only[reduceCtorEq]at hr
 case add=>cases hr;exact⟨.int k (k.wrap (x+y)),by simp[binOp,Op.intArith],.int _ _⟩
 case sub=>cases hr;exact⟨.int k (k.wrap (x-y)),by simp[binOp,Op.intArith],.int _ _⟩
 case mul=>cases hr;exact⟨.int k (k.wrap (x*y)),by simp[binOp,Op.intArith],.int _ _⟩
 case quo=>split at hr<;>cases hr;rename_i h0;exact⟨.int k (k.wrap (x.tdiv y)),by simp[binOp,Op.intDiv,h0],.int _ _⟩
 case rem=>split at hr<;>cases hr;rename_i h0;exact⟨.int k (x.tmod y),by simp[binOp,Op.intDiv,h0],.int _ _⟩
 case eql=>cases hr;exact⟨.bool (x==y),by simp[binOp,Op.intCmp],.bool _⟩
 case neq=>cases hr;exact⟨.bool (x != y),by simp[binOp,Op.intCmp],.bool _⟩
 case lss=>cases hr;exact⟨.bool (decide (x<y)),by simp[binOp,Op.intCmp],.bool _⟩
 case leq=>cases hr;exact⟨.bool (decide (x<=y)),by simp[binOp,Op.intCmp],.bool _⟩
 case gtr=>cases hr;exact⟨.bool (decide (x>y)),by simp[binOp,Op.intCmp],.bool _⟩
 case geq=>cases hr;exact⟨.bool (decide (x>=y)),by simp[binOp,Op.intCmp],.bool _⟩
 case and=>cases hr;exact⟨_,by simp[binOp,Op.intBits],.int _ _⟩
 case or=>cases hr;exact⟨_,by simp[binOp,Op.intBits],.int _ _⟩
 case xor=>cases hr;exact⟨_,by simp[binOp,Op.intBits],.int _ _⟩
 case andNot=>cases hr;exact⟨_,by simp[binOp,Op.intBits],.int _ _⟩
theorem nJ: ∀a b:List UInt8,Op.bytesLess a b=jP a b
 |[],[]=>rfl
 |_::_,[]=>rfl
 |[],_::_=>rfl
 |a::x,b::y=>by simp[Op.bytesLess,jP,nJ x y]
theorem Dj{op:BinOp}{x y:List UInt8}{p:PV}(t:TypeId)(hr:Ul op x y=some p):
  ∃u,(binOp op t (.string ⟨⟨x⟩⟩) (.string ⟨⟨y⟩⟩)).run P w= .ok u w/\RP w Im p u:=by
 unfold Ul at hr;cases op<;>simp only[reduceCtorEq]at hr
 case add=>
  split at hr<;>cases hr;rename_i hl;refine⟨.string ⟨⟨x++y⟩⟩, ?_,.str _⟩;have h2:(ByteArray.mk ⟨x⟩++ByteArray.mk ⟨y⟩:ByteArray)=⟨⟨x++y⟩⟩:=by
   apply ByteArray.ext;apply Array.ext';simp
  simp[binOp,Op.stringOp,h2];show(x.length:Int)+(y.length:Int)<=_;omega
 case eql=>cases hr;exact⟨.bool (x==y),by simp[binOp,Op.stringOp],.bool _⟩
 case neq=>cases hr;exact⟨.bool (!(x==y)),by simp[binOp,Op.stringOp],.bool _⟩
 case lss=>cases hr;exact⟨.bool (jP x y),by simp[binOp,Op.stringOp,nJ],.bool _⟩
 case leq=>cases hr;exact⟨.bool (jP x y || x==y),by simp[binOp,Op.stringOp,nJ],.bool _⟩
 case gtr=>cases hr;exact⟨.bool (!(jP x y || x==y)),by simp[binOp,Op.stringOp,nJ],.bool _⟩
 case geq=>cases hr;exact⟨.bool (!jP x y),by simp[binOp,Op.stringOp,nJ],.bool _⟩
theorem aUn_ok{op:UnOp}{x:AV}{v:Value}(hx:RA w H ι Im x v){p:PV}(hr:aUn op x=some p): ∃u,(Op.unary op v).run P w= .ok u w/\RP w Im p u:=by
 unfold aUn at hr;split at hr<;>cases hr
 ·cases hx with
  |pv _ _ h=>cases h;exact⟨_,by simp[Op.unary],.bool _⟩
 cases hx with
 |pv _ _ h=>cases h;exact⟨_,by simp[Op.unary,Op.intArith],.int _ _⟩
theorem JW(isMax:Bool)(k:IntKind): ∀(l:List AV)(a:Int)(vs:List Value),l.length=vs.length->(∀(i:Nat) x v,l[i]? =some x->vs[i]? =some v->RA w H ι Im x v)->
  ∀{p:PV},ez isMax k a l=some p-> ∃u,(vs.foldlM (if isMax then Builtin.max2 else Builtin.min2) (.int k a)).run P w= .ok u w/\RP w Im p u
 |[],a,vs,hl,_,p,h=>by
  have:vs=[]:=by simpa using hl.symm
  subst this;cases h;exact⟨.int k a,by simp,.int _ _⟩
 |x::r,a,vs,hl,hR,p,h=>by
  cases vs with
  |nil=>simp at hl
  |cons v vr=>
   have hx:=hR 0 x v (by simp) (by simp);cases x with
   |pv p0=>cases p0 with
    |int k' b=>
     simp only[ez]at h;cases hx with
     |pv _ _ hp=>cases hp with
      |int=>
       obtain⟨u,g1,g2⟩:=JW isMax k r _ vr (by simpa using hl) (fun i x v h1 h2=>hR (i+1) x v (by simpa using h1) (by simpa using h2)) h;refine⟨u, ?_,g2⟩;cases isMax
       ·simp only[w9,if_false,List.foldlM_cons,ji,Builtin.min2,Sem.run_pure,gm]at g1 |-;exact g1
       simp only[if_true,List.foldlM_cons,ji,Builtin.max2,Sem.run_pure,gm]at g1 |-;exact g1
    |_=>simp[ez]at h
   |_=>simp[ez]at h
theorem zx.ptr{t:TypeId}{ti:TI}(ht:zx P t ti)(h:ti.td= .ptr): ∃e,P.underlying t=some (.pointer e):=by
 obtain⟨d,h1,h2⟩:=ht.L7;rw[h]at h2;cases d<;>simp[Xv]at h2;exact⟨_,h1⟩
theorem zx.func{t:TypeId}{ti:TI}(ht:zx P t ti)(h:ti.td= .func): ∃a b c,P.underlying t=some (.func a b c):=by
 obtain⟨d,h1,h2⟩:=ht.L7;rw[h]at h2;cases d<;>simp[Xv]at h2;exact⟨_,_,_,h1⟩
theorem eG{t:TypeId}{ti:TI}(ht:zx P t ti)(h:ti.isAgg=false):P.cellsOf t=1:=by
 rw[ht.cellsOf];obtain⟨i,z,h1,h2,h3,h4,h5,h6⟩:=ht.info;have hl:=ht.len;have hz:lA z=false:=by
  rw[h6];unfold TI.isAgg at h;unfold TD.isAgg;exact h
 have hc:z.cells= #[z]:=by
  cases z<;>simp[lA]at hz<;>rfl
 rw[hc]at h5;have h5' :aa [z]=some ti.zero:=h5;have one: ∀l,aa [z]=some l->l.length=1:=by
  intro l h;unfold aa at h;split at h<;>cases h;rename_i p l e1 e2;unfold aa at e2;cases e2;rfl
 rw[<- hl];exact one _ h5'
theorem WL{G:TypeId->Option TI}(hG: ∀t ti,G t=some ti->zx P t ti)(d:Nat)(xs ys:Array Value): ∀(fs:List Field)(i:Nat)(a b:List PV),
  pd P i fs=true->eh G (fs.map fun f=>(f.offset,P.cellsOf f.type,f.type)) a=true->
  (∀(j:Nat) p v,a[j]? =some p->xs[i+j]? =some v->RP w Im p v)->(∀(j:Nat) p v,b[j]? =some p->ys[i+j]? =some v->RP w Im p v)->
  i+a.length<=xs.size->i+b.length<=ys.size-> ∀{r:Bool},zj a b=some r->(Op.eqFields (d+1) xs ys fs).run P w= .ok r w
 |[],i,a,b,_,hl,_,_,_,_,r,h=>by
  cases a with
  |cons p a=>simp[eh]at hl
  |nil=>
  cases b<;>simp[zj]at h;subst h;simp[Op.eqFields]
 |f::fs,i,a,b,hp,hl,ha,hb,hxs,hys,r,h=>by
  simp only[pd,zB,bne_iff_ne,ne_eq,beq_iff_eq]at hp;obtain⟨⟨hn,cC⟩,hp⟩:=hp;cases a with
  |nil=>simp[eh]at hl
  |cons p a=>
  simp only[List.map_cons,eh,zB]at hl;obtain⟨XG,hl⟩:=hl;split at XG;rotate_left
  ·cases XG
  rename_i fM Em;have UD:=hG _ _ Em;cases b with
  |nil=>cases p<;>simp[zj]at h
  |cons q b=>
  simp only[List.length_cons]at hxs hys;obtain⟨x,hx⟩: ∃x,xs[i]? =some x:=⟨xs[i]'(by omega),by simp⟩;obtain⟨y,hy⟩: ∃y,ys[i]? =some y:=⟨ys[i]'(by omega),by simp⟩;have Ed:=ha 0 p x (by simp) (by simpa using hx);have Lu:=hb 0 q y (by simp) (by simpa using hy);have Yn:fM.isAgg=false:=by
   unfold TI.isAgg;cases xr:fM.td<;>simp[xv,xr]at XG |-
  rw[eG UD Yn]at hp;have rest: ∀{t:Bool},zj a b=some t->(Op.eqFields (d+1) xs ys fs).run P w= .ok t w:=fun ht=>
   WL hG d xs ys fs (i+1) a b hp hl (fun j p v h1 h2=>ha (j+1) p v (by simpa using h1) (by rwa[show i+(j+1)=i+1+j from by omega]))
    (fun j p v h1 h2=>hb (j+1) p v (by simpa using h1) (by rwa[show i+(j+1)=i+1+j from by omega])) (by omega) (by omega) ht
  have ZT: ∀(cs:Array Value)(v:Value),cs[i]? =some v->(part f.type cs f.offset).run P w= .ok v w:=by
   intro cs v hv;unfold part;simp only[cC,ji,UD.isAgg,Yn,gm,w9,if_false,hv,Sem.run_pure]
  have step: ∀(t u:Bool),(Op.equalIn (d+1) f.type x y).run P w= .ok t w->zj a b=some u->(Op.eqFields (d+1) xs ys (f::fs)).run P w= .ok (t&&u) w:=by
   intro t u h1 h2;simp only[Op.eqFields,hn,not_false_eq_true,ne_eq,if_true,ji,ZT xs x hx,ZT ys y hy,gm,h1];cases t
   ·simp
   simp[rest h2]
  cases p with
  |int k n=>cases q with
   |int k' n' =>
    simp only[zj]at h;split at h;rotate_left
    ·cases h
    rename_i hk;subst hk;split at h<;>cases h;rename_i t ht;refine step _ _ ?_ ht;cases Ed;cases Lu;obtain⟨k0,xr⟩: ∃k0,fM.td= .int k0:=by cases xr:fM.td<;>simp[xv,xr]at XG |-
    exact run_equalIn_int w d f.type k k0 n n' (UD.int xr)
   |_=>simp[zj]at h
  |str s=>cases q with
   |str s' =>
    simp only[zj]at h;split at h<;>cases h;rename_i t ht;refine step _ _ ?_ ht;cases Ed;cases Lu;have xr:fM.td= .string:=by cases xr:fM.td<;>simp[xv,xr]at XG |-
    have:=run_equalIn_string w d f.type ⟨⟨s⟩⟩ ⟨⟨s'⟩⟩ (UD.string xr);simpa using this
   |_=>simp[zj]at h
  |bool x1=>cases q with
   |bool x2=>
    simp only[zj]at h;split at h<;>cases h;rename_i t ht;refine step _ _ ?_ ht;cases Ed;cases Lu;have xr:fM.td= .bool:=by cases xr:fM.td<;>simp[xv,xr]at XG |-
    exact run_equalIn_bool' w d f.type x1 x2 (UD.bool xr)
   |_=>simp[zj]at h
  |_=>simp[zj]at h
theorem ZW: ∀{a b:List PV}{r:Bool},zj a b=some r->a.length=b.length
 |[],[],_,_=>rfl
 |[],_::_,_,h=>by simp[zj]at h
 |p::a,[],_,h=>by cases p<;>simp[zj]at h
 |p::a,q::b,r,h=>by
  have: ∃t,zj a b=some t:=by
   cases p<;>cases q<;>simp only[zj,reduceCtorEq]at h
   ·split at h<;>cases h;rename_i t ht;exact⟨t,ht⟩
   ·split at h
    ·split at h<;>cases h;rename_i t ht;exact⟨t,ht⟩
    cases h
   split at h<;>cases h;rename_i t ht;exact⟨t,ht⟩
  obtain⟨t,ht⟩:=this;simp[ZW ht]
theorem ZV: ∀(n:Nat)(a b:List PV)(r:Bool),zj a b=some r-> ∃t u,zj (a.take n) (b.take n)=some t/\zj (a.drop n) (b.drop n)=some u/\r=(t&&u)
 |0,a,b,r,h=>⟨true,r,rfl,h,by simp⟩
 |n+1,[],[],r,h=>⟨true,true,rfl,rfl,by simp[zj]at h;rw[h];rfl⟩
 |n+1,[],_::_,r,h=>by simp[zj]at h
 |n+1,p::a,[],r,h=>by cases p<;>simp[zj]at h
 |n+1,p::a,q::b,r,h=>by
  have key: ∀(x:Bool)(s:Option Bool),(match zj a b with|some t=>some (x&&t)|none=>none)=s->s=some r-> ∃t u,(match zj (a.take n) (b.take n)with|some t=>some (x&&t)|none=>none)=some t/\zj (a.drop n) (b.drop n)=some u/\r=(t&&u):=by
   intro x s h1 h2;subst h1;split at h2<;>cases h2;rename_i t ht;obtain⟨t1,u1,g1,g2,g3⟩:=ZV n a b t ht;refine⟨x&&t1,u1,by rw[g1],g2, ?_⟩;rw[g3,Bool.and_assoc]
  cases p with
  |int k i=>cases q with
   |int k' i' =>
    simp only[zj,List.take_succ_cons,List.drop_succ_cons]at h |-;split at h
    ·rename_i hk;rw[if_pos hk];exact key _ _ rfl h
    cases h
   |_=>simp[zj]at h
  |str x=>cases q with
   |str y=>
    simp only[zj,List.take_succ_cons,List.drop_succ_cons]at h |-;exact key _ _ rfl h
   |_=>simp[zj]at h
  |bool x=>cases q with
   |bool y=>
    simp only[zj,List.take_succ_cons,List.drop_succ_cons]at h |-;exact key _ _ rfl h
   |_=>simp[zj]at h
  |_=>simp[zj]at h
theorem iz{G:TypeId->Option TI}(hG: ∀t ti,G t=some ti->zx P t ti)(d:Nat)(xs ys:Array Value): ∀(fs:List Field)(i:Nat)(a b:List PV),
  pd P i fs=true->iF G (fs.map fun f=>(f.offset,P.cellsOf f.type,f.type)) a=true->
  (∀(j:Nat) p v,a[j]? =some p->xs[i+j]? =some v->RP w Im p v)->(∀(j:Nat) p v,b[j]? =some p->ys[i+j]? =some v->RP w Im p v)->
  i+a.length<=xs.size->i+b.length<=ys.size-> ∀{r:Bool},zj a b=some r->(Op.eqFields (d+2) xs ys fs).run P w= .ok r w
 |[],i,a,b,_,hl,_,_,_,_,r,h=>by
  cases a with
  |cons p a=>simp[iF]at hl
  |nil=>
  cases b<;>simp[zj]at h;subst h;simp[Op.eqFields]
 |f::fs,i,a,b,hp,hl,ha,hb,hxs,hys,r,h=>by
  simp only[pd,zB,bne_iff_ne,ne_eq,beq_iff_eq]at hp;obtain⟨⟨hn,cC⟩,hp⟩:=hp;simp only[List.map_cons,iF]at hl;split at hl;rotate_left
  ·cases hl
  rename_i fM Em;have UD:=hG _ _ Em;have hablen:=ZW h;simp only[zB]at hl;obtain⟨fB,hl⟩:=hl;unfold Jw at fB;split at fB
  ·rename_i fs' xr;split at fB;rotate_left
   ·cases fB
   rename_i bO;simp only[zB]at fB;obtain⟨hteq,sE⟩:=fB;obtain⟨fields,hu,hfs⟩:=UD.struct xr;have NU:=UD.eqk;rw[hteq]at NU;have NU:=NU.symm;unfold eqok at NU;rw[hu]at NU;simp only[zB,Bool.not_eq_true']at NU;obtain⟨⟨e1,e2⟩,e3⟩:=NU;have BD:=UD.cellsOf;rw[BD]at hp;obtain⟨t,u,q1,q2,q3⟩:=ZV fM.size a b r h;have Yn:fM.isAgg=true:=by unfold TI.isAgg;rw[xr]
   have DI:P.underlying f.type=some (.struct (P.fieldsOf f.type)):=by simp[Program.fieldsOf,hu]
   have hfe:P.fieldsOf f.type=fields:=by simp[Program.fieldsOf,hu]
   have ZT: ∀(cs:Array Value),(part f.type cs f.offset).run P w= .ok (.agg (cs.extract i (i+fM.size))) w:=by
    intro cs;unfold part;simp only[cC,ji,UD.isAgg,Yn,gm,if_true,UD.size,Sem.run_pure]
   have hex: ∀(cs:Array Value)(c:List PV),(∀(j:Nat) p v,c[j]? =some p->cs[i+j]? =some v->RP w Im p v)->i+c.length<=cs.size->
     (∀(j:Nat) p v,(c.take fM.size)[j]? =some p->(cs.extract i (i+fM.size))[0+j]? =some v->RP w Im p v)/\0+(c.take fM.size).length<=(cs.extract i (i+fM.size)).size:=by
    intro cs c hc bO;refine⟨fun j p v h1 h2=>?_,by simp;omega⟩;by_cases hj:j<fM.size
    ·rw[List.getElem?_take_of_lt hj]at h1;have hjc:=(qF h1).1;refine hc j p v h1 ?_;rw[Nat.zero_add,Array.getElem?_extract]at h2;split at h2
     ·exact h2
     cases h2
    have:=(qF h1).1;simp at this;omega
   have hx:=hex xs a ha hxs;have hy:=hex ys b hb hys;have iK:(Op.equalIn (d+2) f.type (.agg (xs.extract i (i+fM.size))) (.agg (ys.extract i (i+fM.size)))).run P w= .ok t w:=by
    show(Op.equalIn ((d+1)+1) f.type _ _).run P w=_;rw[run_equalIn_struct w (d+1) f.type _ _ DI e1,hfe];exact WL hG d _ _ fields.toList 0 _ _ e3 (by rw[hfs]at sE;exact sE) hx.1 hy.1 hx.2 hy.2 q1
   have rest:(Op.eqFields (d+2) xs ys fs).run P w= .ok u w:=
    iz hG d xs ys fs (i+fM.size) (a.drop fM.size) (b.drop fM.size) hp hl
     (fun j p v h1 h2=>ha (fM.size+j) p v (by simpa using h1) (by rwa[show i+(fM.size+j)=i+fM.size+j from by omega]))
     (fun j p v h1 h2=>hb (fM.size+j) p v (by simpa using h1) (by rwa[show i+(fM.size+j)=i+fM.size+j from by omega]))
     (by simp;omega) (by simp;omega) q2
   subst q3;simp only[Op.eqFields,hn,not_false_eq_true,ne_eq,if_true,ji,ZT xs,ZT ys,gm,iK];cases t
   ·simp
   simp[rest]
  have hagg0:fM.isAgg=false:=by
   unfold TI.isAgg;cases xr:fM.td<;>simp[xv,xr]at fB |-
  have nh:fM.size=1:=by rw[<- UD.cellsOf];exact eG UD hagg0
  rw[nh]at hl;cases a with
  |nil=>simp[xv]at fB
  |cons p a=>
  simp only[List.headD_cons,List.drop_succ_cons,List.drop_zero]at fB hl;have XG:=fB;cases b with
  |nil=>cases p<;>simp[zj]at h
  |cons q b=>
  simp only[List.length_cons]at hxs hys;obtain⟨x,hx⟩: ∃x,xs[i]? =some x:=⟨xs[i]'(by omega),by simp⟩;obtain⟨y,hy⟩: ∃y,ys[i]? =some y:=⟨ys[i]'(by omega),by simp⟩;have Ed:=ha 0 p x (by simp) (by simpa using hx);have Lu:=hb 0 q y (by simp) (by simpa using hy);have Yn:fM.isAgg=false:=by
   unfold TI.isAgg;cases xr:fM.td<;>simp[xv,xr]at XG |-
  rw[eG UD Yn]at hp;have rest: ∀{t:Bool},zj a b=some t->(Op.eqFields (d+2) xs ys fs).run P w= .ok t w:=fun ht=>
   iz hG d xs ys fs (i+1) a b hp hl (fun j p v h1 h2=>ha (j+1) p v (by simpa using h1) (by rwa[show i+(j+1)=i+1+j from by omega]))
    (fun j p v h1 h2=>hb (j+1) p v (by simpa using h1) (by rwa[show i+(j+1)=i+1+j from by omega])) (by omega) (by omega) ht
  have ZT: ∀(cs:Array Value)(v:Value),cs[i]? =some v->(part f.type cs f.offset).run P w= .ok v w:=by
   intro cs v hv;unfold part;simp only[cC,ji,UD.isAgg,Yn,gm,w9,if_false,hv,Sem.run_pure]
  have step: ∀(t u:Bool),(Op.equalIn (d+2) f.type x y).run P w= .ok t w->zj a b=some u->(Op.eqFields (d+2) xs ys (f::fs)).run P w= .ok (t&&u) w:=by
   intro t u h1 h2;simp only[Op.eqFields,hn,not_false_eq_true,ne_eq,if_true,ji,ZT xs x hx,ZT ys y hy,gm,h1];cases t
   ·simp
   simp[rest h2]
  cases p with
  |int k n=>cases q with
   |int k' n' =>
    simp only[zj]at h;split at h;rotate_left
    ·cases h
    rename_i hk;subst hk;split at h<;>cases h;rename_i t ht;refine step _ _ ?_ ht;cases Ed;cases Lu;obtain⟨k0,xr⟩: ∃k0,fM.td= .int k0:=by cases xr:fM.td<;>simp[xv,xr]at XG |-
    exact run_equalIn_int w (d+1) f.type k k0 n n' (UD.int xr)
   |_=>simp[zj]at h
  |str s=>cases q with
   |str s' =>
    simp only[zj]at h;split at h<;>cases h;rename_i t ht;refine step _ _ ?_ ht;cases Ed;cases Lu;have xr:fM.td= .string:=by cases xr:fM.td<;>simp[xv,xr]at XG |-
    have:=run_equalIn_string w (d+1) f.type ⟨⟨s⟩⟩ ⟨⟨s'⟩⟩ (UD.string xr);simpa using this
   |_=>simp[zj]at h
  |bool x1=>cases q with
   |bool x2=>
    simp only[zj]at h;split at h<;>cases h;rename_i t ht;refine step _ _ ?_ ht;cases Ed;cases Lu;have xr:fM.td= .bool:=by cases xr:fM.td<;>simp[xv,xr]at XG |-
    exact run_equalIn_bool' w (d+1) f.type x1 x2 (UD.bool xr)
   |_=>simp[zj]at h
  |_=>simp[zj]at h
def lu:Value->Bool
 | .bool _| .agg _| .slice _ _ _| .pointer _| .map _| .func _ _ _| .nilFunc=>true
 |_=>false
theorem binOp_eql{t:TypeId}{x y:Value}(h:lu x=true):(binOp .eql t x y).run P w=((Op.equal t x y).run P w).andThen fun b w' => .ok (.bool b) w' :=by
 cases x<;>simp[lu]at h<;>simp[binOp]
theorem binOp_neq{t:TypeId}{x y:Value}(h:lu x=true):(binOp .neq t x y).run P w=((Op.equal t x y).run P w).andThen fun b w' => .ok (.bool (!b)) w' :=by
 cases x<;>simp[lu]at h<;>simp[binOp]
theorem oW(d:Nat){t e:TypeId}(hu:P.underlying t=some (.slice e))(a:Option Addr)(n c n' c' :Nat):
  (Op.equalIn (d+1) t (.slice a n c) (.slice none n' c')).run P w= .ok a.isNone w/\(Op.equalIn (d+1) t (.slice none n' c') (.slice a n c)).run P w= .ok a.isNone w:=by
 cases a<;>simp[Op.equalIn,qv hu]
theorem ZB(d:Nat){t e:TypeId}(hu:P.underlying t=some (.pointer e))(a:Option Addr):
  (Op.equalIn (d+1) t (.pointer a) (.pointer none)).run P w= .ok a.isNone w/\(Op.equalIn (d+1) t (.pointer none) (.pointer a)).run P w= .ok a.isNone w:=by
 cases a<;>simp[Op.equalIn,qv hu]
theorem ZA(d:Nat){t k e:TypeId}(hu:P.underlying t=some (.map k e))(a:Option Nat):
  (Op.equalIn (d+1) t (.map a) (.map none)).run P w= .ok a.isNone w/\(Op.equalIn (d+1) t (.map none) (.map a)).run P w= .ok a.isNone w:=by
 cases a<;>simp[Op.equalIn,qv hu]
theorem ee(d:Nat){t:TypeId}{p1 p2 p3}(hu:P.underlying t=some (.func p1 p2 p3))(f:Fn)(a b:Array Value):
  (Op.equalIn (d+1) t (.func f a b) .nilFunc).run P w= .ok false w/\(Op.equalIn (d+1) t .nilFunc (.func f a b)).run P w= .ok false w/\
  (Op.equalIn (d+1) t .nilFunc .nilFunc).run P w= .ok true w:=by
 simp[Op.equalIn,qv hu]
theorem A7{G:TypeId->Option TI}(hG: ∀t ti,G t=some ti->zx P t ti){t:TypeId}{ti:TI}(ht:zx P t ti)(hi:qW w H ι Im){x y:AV}{vx vy:Value}
  (hx:RA w H ι Im x vx) (hy:RA w H ι Im y vy) (ox oy:Operand) {r:Bool} (hr:Ln G ti x y H=some r):
  (eqGuard .eql t ox oy vx vy).run P w= .ok () w/\(eqGuard .neq t ox oy vx vy).run P w= .ok () w/\(Op.equal t vx vy).run P w= .ok r w/\lu vx=true:=by
 have tY: ∀(vx vy:Value),(∀ c d,¬ (vx= .agg c/\vy= .agg d))-> ¬(vx= .nilIface/\vy= .nilIface)-> ∀op,(eqGuard op t ox oy vx vy).run P w= .ok () w:=by
  intro vx vy h1 h2 op;unfold eqGuard;cases vx<;>cases vy<;>simp_all
 unfold Ln at hr;split at hr
 ·rename_i xr;split at hr<;>cases hr;rename_i b1 b2;cases hx with|pv _ _ hx=>cases hy with|pv _ _ hy=>
  cases hx;cases hy;refine⟨tY _ _ (by simp) (by simp) _,tY _ _ (by simp) (by simp) _, ?_⟩;exact⟨run_equalIn_bool' w 9999 t b1 b2 (ht.bool xr),rfl⟩
 ·rename_i fs xr;obtain⟨fields,hu,rfl⟩:=ht.struct xr;split at hr;rotate_left
  ·cases hr
  rename_i a b;split at hr;rotate_left
  ·cases hr
  rename_i hc;obtain⟨heq,pB⟩:=hc;have NU:=ht.eqk;rw[heq]at NU;have NU:=NU.symm;unfold eqok at NU;rw[hu]at NU;simp only[zB,Bool.not_eq_true']at NU;obtain⟨⟨e1,e2⟩,e3⟩:=NU;cases hx with|pv _ _ hx=>cases hy with|pv _ _ hy=>
  cases hx with|agg _ xs hlx _ C3=>cases hy with|agg _ ys hly _ hyy=>
  refine⟨run_eqGuard_agg w .eql t ox oy _ _ e2,run_eqGuard_agg w .neq t ox oy _ _ e2, ?_,rfl⟩;have DI:P.underlying t=some (.struct (P.fieldsOf t)):=by simp[Program.fieldsOf,hu]
  have hfe:P.fieldsOf t=fields:=by simp[Program.fieldsOf,hu]
  have:=run_equalIn_struct w 9999 t ⟨xs⟩ ⟨ys⟩ DI e1;unfold Op.equal;show(Op.equalIn (9999+1) t _ _).run P w=_;rw[this,hfe];exact iz hG 9997 ⟨xs⟩ ⟨ys⟩ fields.toList 0 a b e3 pB (fun j p v h1 h2=>C3 j p v h1 (by simpa using h2)) (fun j p v h1 h2=>hyy j p v h1 (by simpa using h2))
   (by simp[hlx]) (by simp[hly]) hr
 rename_i td hnb SU;have nilOf: ∀{z:AV}{vz:Value},RA w H ι Im z vz-> ∀{q:Bool},sD ti.td z H=some q->
   (∃ e,ti.td= .slice e/\ ∃a n c,vz= .slice a n c/\a.isNone=q)\/(ti.td= .ptr/\ ∃a,vz= .pointer a/\a.isNone=q)\/
   ((∃ k e,ti.td= .map k e)/\ ∃a,vz= .map a/\a.isNone=q)\/(ti.td= .func/\((vz= .nilFunc/\q=true)\/ ∃f a b,vz= .func f a b/\q=false)):=by
  intro z vz hz q hq;unfold sD at hq;split at hq
  ·rename_i xr;refine .inr (.inl ⟨xr, ?_⟩);split at hq<;>cases hq
   ·cases hz with|pv _ _ h=>cases h;exact⟨_,rfl,rfl⟩
   ·cases hz;exact⟨_,rfl,rfl⟩
   ·cases hz;exact⟨_,rfl,rfl⟩
   ·cases hz;exact⟨_,rfl,rfl⟩
   cases hz with|pv _ _ h=>cases h;exact⟨_,rfl,rfl⟩
  ·rename_i e xr;refine .inl ⟨e,xr, ?_⟩;split at hq
   ·cases hq;cases hz with|pv _ _ h=>
    cases h
    ·exact⟨_,_,_,rfl,rfl⟩
    exact⟨_,_,_,rfl,rfl⟩
   ·cases hq;cases hz;exact⟨_,_,_,rfl,rfl⟩
   ·rename_i β zF off n;split at hq;rotate_left
    ·cases hq
    rename_i qq sz es hb;split at hq<;>cases hq;rename_i hv;obtain⟨a,c,rfl,hn⟩:=hz.Ud hi hb hv;exact⟨_,_,_,rfl,hn⟩
   cases hq
  ·rename_i k e xr;refine .inr (.inr (.inl ⟨⟨k,e,xr⟩, ?_⟩));split at hq<;>cases hq
   ·cases hz with|pv _ _ h=>cases h;exact⟨_,rfl,rfl⟩
   cases hz;exact⟨_,rfl,rfl⟩
  ·rename_i xr;refine .inr (.inr (.inr ⟨xr, ?_⟩));split at hq<;>cases hq
   ·cases hz with|pv _ _ h=>cases h;exact .inl ⟨rfl,rfl⟩
   ·cases hz with|pv _ _ h=>cases h;exact .inr ⟨_,_,_,rfl,rfl⟩
   cases hz;exact .inr ⟨_,_,_,rfl,rfl⟩
  cases hq
 have isNil: ∀{z:AV}{vz:Value},RA w H ι Im z vz->JS ti.td z=true->sD ti.td z H=some true:=by
  intro z vz hz h;unfold JS at h;split at h<;>rename_i h1<;>first|(rw [h1];rfl)|cases h
 have main: ∀{z z' :AV}{vz vz' :Value},RA w H ι Im z vz->RA w H ι Im z' vz' ->sD ti.td z H=some r->sD ti.td z' H=some true->
   (∀ c d,¬ (vz= .agg c/\vz' = .agg d))/\(∀ c d,¬ (vz' = .agg c/\vz= .agg d))/\ ¬(vz= .nilIface/\vz' = .nilIface)/\ ¬(vz' = .nilIface/\vz= .nilIface)/\
   (Op.equal t vz vz').run P w= .ok r w/\(Op.equal t vz' vz).run P w= .ok r w/\lu vz=true/\lu vz' =true:=by
  intro z z' vz vz' hz hz' h1 h2;have g1:=nilOf hz h1;have g2:=nilOf hz' h2;unfold Op.equal;rcases g1 with ⟨e,xr,a,n,c,rfl,hn⟩|⟨xr,a,rfl,hn⟩|⟨⟨k,e,xr⟩,a,rfl,hn⟩|⟨xr,g1⟩
  ·rcases g2 with ⟨e',kr,a',n',c',rfl,SR⟩|⟨kr,_⟩|⟨⟨k',e',kr⟩,_⟩|⟨kr,_⟩;rotate_left
   ·rw[xr]at kr;cases kr
   ·rw[xr]at kr;cases kr
   ·rw[xr]at kr;cases kr
   have:a' =none:=by simpa using SR
   subst this hn;exact⟨by simp,by simp,by simp,by simp,(oW 9999 (ht.slice xr) a n c n' c').1,(oW 9999 (ht.slice xr) a n c n' c').2,rfl,rfl⟩
  ·obtain⟨e,hu⟩:=ht.ptr xr;rcases g2 with ⟨e',kr,_⟩|⟨kr,a',rfl,SR⟩|⟨⟨k',e',kr⟩,_⟩|⟨kr,_⟩
   ·rw[xr]at kr;cases kr
   rotate_left
   ·rw[xr]at kr;cases kr
   ·rw[xr]at kr;cases kr
   have:a' =none:=by simpa using SR
   subst this hn;exact⟨by simp,by simp,by simp,by simp,(ZB 9999 hu a).1,(ZB 9999 hu a).2,rfl,rfl⟩
  ·rcases g2 with ⟨e',kr,_⟩|⟨kr,_⟩|⟨⟨k',e',kr⟩,a',rfl,SR⟩|⟨kr,_⟩
   ·rw[xr]at kr;cases kr
   ·rw[xr]at kr;cases kr
   rotate_left
   ·rw[xr]at kr;cases kr
   have:a' =none:=by simpa using SR
   subst this hn;exact⟨by simp,by simp,by simp,by simp,(ZA 9999 (ht.map xr) a).1,(ZA 9999 (ht.map xr) a).2,rfl,rfl⟩
  obtain⟨p1,p2,p3,hu⟩:=ht.func xr;rcases g2 with ⟨e',kr,_⟩|⟨kr,_⟩|⟨⟨k',e',kr⟩,_⟩|⟨kr,g2⟩
  ·rw[xr]at kr;cases kr
  ·rw[xr]at kr;cases kr
  ·rw[xr]at kr;cases kr
  rcases g2 with ⟨rfl,_⟩|⟨_,_,_,_,h⟩;rotate_left
  ·cases h
  rcases g1 with ⟨rfl,rfl⟩|⟨f,a,b,rfl,rfl⟩
  ·have:=(ee (P:=P) (w:=w) 9999 hu (.func 0) #[] #[]).2.2;exact⟨by simp,by simp,by simp,by simp,this,this,rfl,rfl⟩
  exact⟨by simp,by simp,by simp,by simp,(ee 9999 hu f a b).1,(ee 9999 hu f a b).2.1,rfl,rfl⟩
 split at hr
 ·rename_i hn;obtain⟨m1,m2,m3,m4,m5,m6,m7,m8⟩:=main hx hy hr (isNil hy hn);exact⟨tY _ _ m1 m3 _,tY _ _ m1 m3 _,m5,m7⟩
 split at hr
 ·rename_i hn;obtain⟨m1,m2,m3,m4,m5,m6,m7,m8⟩:=main hy hx hr (isNil hx hn);exact⟨tY _ _ m2 m4 _,tY _ _ m2 m4 _,m6,m8⟩
 cases hr
theorem aBin_ok{G:TypeId->Option TI}(hG: ∀t ti,G t=some ti->zx P t ti){t:TypeId}{ti:TI}(ht:zx P t ti)(hi:qW w H ι Im){x y:AV}{vx vy:Value}
  (hx:RA w H ι Im x vx) (hy:RA w H ι Im y vy) (op:BinOp) (ox oy:Operand) {p:PV} (hr:Nf G op ti x y H=some p):
  ∃u,(eqGuard op t ox oy vx vy).run P w= .ok () w/\(binOp op t vx vy).run P w= .ok u w/\RP w Im p u:=by
 have JQ: ∀(k k' :IntKind)(a b:Int)(op:BinOp),(eqGuard op t ox oy (.int k a) (.int k' b)).run P w= .ok () w:=by
  intro k k' a b op;unfold eqGuard;cases op<;>simp
 have OU: ∀(a b:ByteArray)(op:BinOp),(eqGuard op t ox oy (.string a) (.string b)).run P w= .ok () w:=by
  intro a b op;unfold eqGuard;cases op<;>simp
 unfold Nf at hr;split at hr
 ·split at hr;rotate_left
  ·cases hr
  rename_i k a k' b;split at hr<;>cases hr;rename_i h0;cases hx with|pv _ _ hx=>cases hy with|pv _ _ hy=>
  cases hx;cases hy;have: ¬b<0:=by omega
  exact⟨_,JQ _ _ _ _ _,by simp[binOp,Op.shift,this],.int _ _⟩
 ·split at hr;rotate_left
  ·cases hr
  rename_i k a k' b;split at hr<;>cases hr;rename_i h0;cases hx with|pv _ _ hx=>cases hy with|pv _ _ hy=>
  cases hx;cases hy;have: ¬b<0:=by omega
  exact⟨_,JQ _ _ _ _ _,by simp[binOp,Op.shift,this],.int _ _⟩
 rename_i h1 h2;split at hr
 ·rename_i k a k' b;split at hr;rotate_left
  ·cases hr
  rename_i hk;subst hk;cases hx with|pv _ _ hx=>cases hy with|pv _ _ hy=>
  cases hx;cases hy;obtain⟨u,g1,g2⟩:=C7 (P:=P) (w:=w) (Im:=Im) ⟨h1,h2⟩ t hr;exact⟨u,JQ _ _ _ _ _,g1,g2⟩
 ·cases hx with|pv _ _ hx=>cases hy with|pv _ _ hy=>
  cases hx;cases hy;obtain⟨u,g1,g2⟩:=Dj (P:=P) (w:=w) (Im:=Im) t hr;exact⟨u,OU _ _ _,g1,g2⟩
 rename_i x y hni SU;split at hr
 ·split at hr<;>cases hr;rename_i b hb;obtain⟨g1,g2,g3,g4⟩:=A7 hG ht hi hx hy ox oy hb;exact⟨.bool b,g1,by rw[binOp_eql g4,g3];rfl,.bool _⟩
 ·split at hr<;>cases hr;rename_i b hb;obtain⟨g1,g2,g3,g4⟩:=A7 hG ht hi hx hy ox oy hb;exact⟨.bool (!b),g2,by rw[binOp_neq g4,g3];rfl,.bool _⟩
 cases hr
end
section
variable [zN] {P:Program} {w:World} {H:qn} {ι:vG} {Im:Nat->Prop}
theorem RA.uB{p:PV}{v:Value}(h:RA w H ι Im (.pv p) v):RP w Im p v:=by
 cases h;assumption
theorem Je: ∀(es:List (List PV))(l:List UInt8),nK es=some l-> ∀(cs:Nat->Option Value)(k:Nat),(∀(i:Nat) e(j:Nat) p,es[i]? =some e->e[j]? =some p-> ∃v,cs (k+i)=some v/\RP w Im p v/\j=0)->
  es.length=l.length/\ ∀i,i<es.length-> ∃n:Int,cs (k+i)=some (.int .u8 n)/\l[i]? =some (UInt8.ofNat n.toNat)
 |[],l,h,cs,k,_=>by
  simp only[nK,kX]at h;subst h;simp
 |e::r,l,h,cs,k,hc=>by
  unfold nK at h;split at h
  ·cases ‹_::_=[]›
  ·rename_i n r' heq;obtain⟨rfl,rfl⟩:e=[.int .u8 n]/\r=r' :=by simpa using heq
   split at h<;>cases h;rename_i l' hl;obtain⟨h1,h2⟩:=Je r l' hl cs (k+1) (fun i e j p a b=>by
    have:=hc (i+1) e j p (by simpa using a) b
    rwa[show k+(i+1)=k+1+i from by omega]at this)
   refine⟨by simp[h1],fun i hi=>?_⟩;cases i with
   |zero=>
    obtain⟨v,g1,g2,_⟩:=hc 0 [.int .u8 n] 0 (.int .u8 n) (by simp) (by simp);cases g2;exact⟨n,g1,by simp⟩
   |succ i=>
    simp only[List.length_cons]at hi;obtain⟨n',g1,g2⟩:=h2 i (by omega);exact⟨n',by rwa[show k+(i+1)=k+1+i from by omega],by simpa using g2⟩
  cases h
theorem l8(g:Value->ByteArray->Sem (ForInStep ByteArray))(hg: ∀n s,g (.int .u8 n) s=pure (.yield (s.push (UInt8.ofNat n.toNat)))):
  ∀(l:List Value)(acc:ByteArray)(out:List UInt8),l.length=out.length->
  (∀(i:Nat) v b,l[i]? =some v->out[i]? =some b-> ∃n:Int,v= .int .u8 n/\b=UInt8.ofNat n.toNat)->
  (forIn l acc g).run P w= .ok ⟨⟨acc.data.toList++out⟩⟩ w
 |[],acc,out,hl,_=>by
  have:out=[]:=by simpa using hl.symm
  subst this;simp
 |v::r,acc,out,hl,h=>by
  cases out with
  |nil=>simp at hl
  |cons b out=>
   obtain⟨n,rfl,rfl⟩:=h 0 v b (by simp) (by simp);have ih:=l8 g hg r (acc.push (UInt8.ofNat n.toNat)) out (by simpa using hl) (fun i v b h1 h2=>h (i+1) v b (by simpa using h1) (by simpa using h2));simp only[List.forIn_cons,hg,ji,Sem.run_pure,gm,ih];simp
theorem HL{src dst:TypeId}{d1:TypeDesc}{k:IntKind}(h1:P.underlying src=some d1)(h2:P.underlying dst=some (.int k))(kd:IntKind)(n:Int):
  (convert src dst (.int kd n)).run P w= .ok (.int k (k.wrap n)) w:=by
 unfold convert;simp only[ji,qv h1,qv h2,gm];rfl
theorem HM{src dst:TypeId}{d1:TypeDesc}(h1:P.underlying src=some d1)(h2:P.underlying dst=some .string)(s:ByteArray):
  (convert src dst (.string s)).run P w= .ok (.string s) w:=by
 unfold convert;simp only[ji,qv h1,qv h2,gm];rfl
theorem W3{src dst e:TypeId}(h1:P.underlying src=some (.slice e))(h2:P.underlying dst=some .string)(h3:P.underlying e=some (.int .u8))(a:Option Addr)(n c:Nat):
  (convert src dst (.slice a n c)).run P w=(Conv.bytesToString (.slice a n c)).run P w:=by
 unfold convert;simp only[ji,qv h1,qv h2,gm,qv h3]
theorem Xd{src dst e:TypeId}{d1:TypeDesc}(h1:P.underlying src=some d1)(h2:P.underlying dst=some (.slice e))(h3:P.underlying e=some (.int .u8))(s:ByteArray):
  (convert src dst (.string s)).run P w=(Conv.stringToBytes e s).run P w:=by
 unfold convert;simp only[ji,qv h1,qv h2,gm,qv h3]
theorem zx.L8{t:TypeId}{ti:TI}(ht:zx P t ti): ∃d,P.underlying t=some d:=by
 obtain⟨d,h,_⟩:=ht.L7;exact⟨d,h⟩
theorem Hf{G:TypeId->Option TI}(hG: ∀t ti,G t=some ti->zx P t ti){src dst:TypeId}{ts td:TI}(hs:zx P src ts)(hd:zx P dst td)
  (hi:qW w H ι Im) {nx:Nat} {X:Nat->Prop} (xt:Bd X H nx) {x:AV} {v:Value} (hx:RA w H ι Im x v) {r:bY} (hr:pH ts.td td.td G x H nx=some r) (hX: ∀γ,X γ->r.2.2<=γ):
  ∃u w',(convert src dst v).run P w= .ok u w' /\mG X w H ι Im nx r u w' :=by
 obtain⟨d1,hu1⟩:=hs.L8;unfold pH at hr;split at hr
 ·rename_i k kd n xr;cases hr;have h:=hx.uB;cases h;exact⟨.int k (k.wrap n),w,HL hu1 (hd.int xr) _ _,mG.pure hi xt (.pv _ _ (.int _ _))⟩
 ·rename_i s xr;cases hr;have h:=hx.uB;cases h;exact⟨_,w,HM hu1 (hd.string xr) _,mG.pure hi xt (.pv _ _ (.str _))⟩
 ·rename_i e SU htd1 htd2;split at hr;rotate_left
  ·cases hr
  rename_i te rD;have tR:=hG _ _ rD;split at hr;rotate_left
  ·cases hr
  rename_i htde;split at hr;rotate_left
  ·cases hr
  rename_i mT es nO;split at hr;rotate_left
  ·cases hr
  rename_i C2;split at hr<;>cases hr;rename_i l hl;have hsl: ∃a n c,v= .slice a n c:=by
   unfold vT at nO;split at nO
   ·have h:=hx.uB;cases h<;>exact⟨_,_,_,rfl⟩
   ·cases hx;exact⟨_,_,_,rfl⟩
   ·rename_i β zF off n;split at nO;rotate_left
    ·cases nO
    rename_i qq sz eg hb;split at nO;rotate_left
    ·cases nO
    rename_i hv;obtain⟨a,c,h,_⟩:=hx.Ud hi hb hv;exact⟨_,_,_,h⟩
   ·rename_i s;exact absurd rfl (by first|exact SU _|exact htd1 _|exact htd2 _|skip)
   cases nO
  obtain⟨a,n,c,rfl⟩:=hsl;obtain⟨l1,l2⟩:=mS (P:=P) hi hx nO;obtain⟨cs,f1,f2,f3⟩:=l2 1 C2;have hn:n=es.length:=by
   simp[Builtin.lenOf]at l1;exact l1
  subst hn;obtain⟨k1,k2⟩:=Je (w:=w) (Im:=Im) es l hl (fun i=>cs[i]?) 0 (fun i e j p q1 q2=>by
   obtain⟨v0,g1,g2⟩:=f3.2.2 i e j p q1 q2
   have h1:=f3.1 e (qX q1)
   have h2:=(qF q2).1
   have:j=0:=by omega
   subst this
   exact⟨v0,by simpa using g1,g2,rfl⟩)
  refine⟨.string ⟨⟨l⟩⟩,w, ?_,mG.pure hi xt (.pv _ _ (.str _))⟩;rw[W3 (hs.slice ‹_›) (hd.string ‹_›) (tR.int htde)];unfold Conv.bytesToString;cases a with
  |none=>
   have BD:cs= #[]:=by
    simp[Builtin.firstCells]at f1;first|exact f1.symm|exact f1
   subst BD;have:es=[]:=by
    have:es.length=0:=by simpa using f2.symm
    simpa using this
   subst this;have:l=[]:=by simpa using k1.symm
   subst this;rfl
  |some a=>
   have hld:(loadCells a es.length).run P w= .ok cs w:=by simpa[Builtin.firstCells]using f1
   have BD:cs.toList.length=l.length:=by simp;omega
   have:=fun g hg=>l8 (P:=P) (w:=w) g hg cs.toList ByteArray.empty l BD (fun i v b q1 q2=>by
    have fC:i<es.length:=by
     have:=(qF q1).1
     omega
    obtain⟨m,g1,g2⟩:=k2 i fC
    have q1' :cs[i]? =some v:=by simpa using q1
    simp only[Nat.zero_add,q1']at g1
    rw[q2]at g2
    exact⟨m,Option.some.inj g1,Option.some.inj g2⟩)
   simp only[ji,hld,gm];rw[<- Array.forIn_toList,this _ (fun n s=>rfl)];rfl
 ·rename_i e s xr;split at hr;rotate_left
  ·cases hr
  rename_i te rD;have tR:=hG _ _ rD;split at hr<;>cases hr;rename_i htde;have h:=hx.uB;cases h
  let cap:Nat:=Question.cut (.appendCap s.length 0 e) (w.tape w.drawn (.appendCap s.length 0 e))
  have Xi:s.length<=cap:=by simp[cap,Question.cut]
  let cs:Array Value:=(⟨s⟩:Array UInt8).map (fun b=>Value.int .u8 b.toNat)++Array.replicate (cap-s.length) (.int .u8 0)
  have bO:cs.size=cap:=by simp[cs];omega
  refine⟨.slice (some ⟨w.heap.size,0,none⟩) s.length cap, { kQ w with heap:=w.heap.push (.cells cs e (cs.size,cs.size+1)) }, ?_, ?_⟩
  ·rw[Xd hu1 (hd.slice xr) (tR.int htde)];unfold Conv.stringToBytes;have W5:(choose (Question.appendCap (ByteArray.mk ⟨s⟩).size 0 e)).run P w= .ok cap (kQ w):=by
    have:(ByteArray.mk ⟨s⟩).size=s.length:=rfl;rw[this];simp[choose,Sem.run,Question.forced,cap,kQ]
   have hmark:(markStringish ⟨w.heap.size,0,none⟩).run P { kQ w with heap:=w.heap.push (.cells cs e) }= .ok () { kQ w with heap:=w.heap.push (.cells cs e (cs.size,cs.size+1)) }:=by
    unfold markStringish;have h1:(World.shape? { kQ w with heap:=w.heap.push (.cells cs e) } w.heap.size)=some (e,cs.size):=by simp[World.shape?]
    simp only[ji,run_shape,gm,h1,run_freeze];simp[World.freeze,kQ];apply Array.ext
    ·simp
    intro i h1 h2;simp at h1;simp only[Array.getElem_modify,Array.getElem_push];split
    ·rename_i h;subst h;simp
    rename_i h;simp[show i<w.heap.size from by omega]
   have e1:(ByteArray.mk ⟨s⟩).size=s.length:=rfl;simp only[ji,W5,gm,newRow,run_newObj,Sem.run_pure];have e2:(kQ w).heap=w.heap:=rfl;simp only[e2,e1];have:=hmark;simp only[cs,e1]at this |-;rw[this];rfl
  have:=XM hi xt (sR hX) 1 (s.map fun b=>[PV.int .u8 b.toNat]) cs e (cs.size,cs.size+1) cap { kQ w with heap:=w.heap.push (.cells cs e (cs.size,cs.size+1)) } rfl ⟨rfl,rfl⟩
   ⟨by simp,fun i vq h=>by simp at h;omega⟩ (by omega) (by simp[bO]) (by simpa using Xi) (by
    refine⟨fun e0 KG=>?_,fun i e0 j p q1 q2=>?_,fun i e0 j p q1 q2=>?_⟩
    ·simp only[List.mem_map]at KG
     obtain⟨b,_,rfl⟩:=KG
     rfl
    ·simp only[List.getElem?_map,yi]at q1
     obtain⟨b,_,rfl⟩:=q1
     cases j with
     |zero=>simp at q2;subst q2;rfl
     |succ j=>simp at q2
    simp only[List.getElem?_map,yi]at q1
    obtain⟨b,hb,rfl⟩:=q1
    cases j with
    |zero=>
     simp at q2
     subst q2
     refine⟨.int .u8 b.toNat, ?_,.int _ _⟩
     have fC:=(qF hb).1
     simp only[cs]
     rw[Array.getElem?_append_left (by simp;omega)]
     simp[hb]
    |succ j=>simp at q2)
  simpa using this
 cases hr
theorem qn.YZ: ∀{H:qn}{β:Nat}{b:qC},H.get β=some b->H.put β b=H
 |[],_,_,h=>by cases h
 |(i,v)::r,β,b,h=>by
  simp only[qn.get]at h;simp only[qn.put];split
  ·rename_i hi;rw[if_pos hi]at h;cases h;rw[hi]
  rename_i hi;rw[if_neg hi]at h;rw[qn.YZ h]
theorem Y2{G:GP}(hG: ∀t ti,G.ti t=some ti->zx P t ti){t:TypeId}
  (hi:qW w H ι Im) {nx:Nat} {X:Nat->Prop} (xt:Bd X H nx) {x:AV} {v:Value} (hx:RA w H ι Im x v) {r:bY} (hr:mU G t x H nx=some r):
  ∃u w',(convert t t v).run P w= .ok u w' /\mG X w H ι Im nx r u w' :=by
 unfold mU at hr;cases hr
end
section
variable [zN] {P:Program} {w:World} {H:qn} {ι:vG} {Im:Nat->Prop}
theorem Ha{ts tx e:TypeId}{ti te eJ:TI}(Qj:zx P ts ti)(xr:ti.td= .slice e)(rD:zx P e te)(Qk:zx P tx eJ)
  (oh:(∃ e',eJ.td= .slice e')\/eJ.td= .string) (tt:TypeId) (hi:qW w H ι Im) {nx:Nat} {X:Nat->Prop} (xt:Bd X H nx)
  {x y:AV} {vx vy:Value} (hx:RA w H ι Im x vx) (hy:RA w H ι Im y vy) {r:bY} (hr:uU e te x y H nx=some r):
  ∃u w',(Builtin.append_ #[ts,tx] tt #[vx,vy]).run P w= .ok u w' /\mG X w H ι Im nx r u w' :=by
 unfold uU at hr;cases hr
theorem KY{x:AV}{v:Value}(hx:RA w H ι Im x v)(hi:qW w H ι Im){nx:Nat}{X:Nat->Prop}(xt:Bd X H nx){r:bY}(hr:mJ x H nx=some r)(rI:Array TypeId)(tt:TypeId):
  ∃u w',(Builtin.unsafeSliceData_ rI tt #[v]).run P w= .ok u w' /\mG X w H ι Im nx r u w' :=by
 unfold mJ at hr;cases hr
theorem QU{tp el:TypeId}{rI:Array TypeId}(h0:rI[0]? =some tp){ti:TI}(ht:zx P tp ti)(Yr:ti.pe=some el)(XE:P.cellsOf el=1){p x:AV}{vp vx:Value}(hp:RA w H ι Im p vp)(hx:RA w H ι Im x vx)(hi:qW w H ι Im)
  {nx:Nat} {X:Nat->Prop} (xt:Bd X H nx) {r:bY} (hr:uw el p x H nx=some r) (tt:TypeId):
  ∃u w',(Builtin.unsafeString_ rI tt #[vp,vx]).run P w= .ok u w' /\mG X w H ι Im nx r u w' :=by
 unfold uw at hr;cases hr
end
section
variable [zN] {P:Program} {w:World} {H:qn} {ι:vG} {Im:Nat->Prop}
theorem Zn{w' :World}{H' :qn}{ι' :vG}{β γ fv:Nat}{ds:List Nat}{es:List PV}{ks:List Sk}(sH:(ι' β).ks=ks++[.leaf]){dG:Array Value}{elem:TypeId}{fz:Nat×Nat}
  (h1:w'.heap[(ι' β).b]? =some (.cells dG elem fz)) (h2:wa fz dG.size) (h3:dG.size=(ι' β).cap) (h4:es.length+1<=(ι' β).cap) (h5:ks.length=es.length)
  (h6:((ι' β).b::ks.flatMap Sk.blocks).Nodup) (h7: ∀x∈ks.flatMap Sk.blocks,x<w'.heap.size)
  (h8: ∀(i:Nat) p k,es[i]? =some p->ks[i]? =some k-> ∃v,dG[i]? =some v/\eW w' Im ds p v k) {v0:Value} (h9:dG[es.length]? =some v0) (h10:RA w' H' ι' Im (.row γ fv 0 fv) v0):
  pE w' H' ι' Im β (.jI false ds (es++[.sl true 0 []]) (some (es.length,γ,fv))):=by
 have Z5:(ks++[Sk.leaf]).flatMap Sk.blocks=ks.flatMap Sk.blocks:=by simp[Sk.blocks]
 refine⟨dG,elem,fz,h1,h2,h3,by simpa using h4,by rw[sH];simp[h5],by rw[sH,Z5];exact h6,by rw[sH,Z5];exact h7,fun j γ' zF hf=>by cases hf;simp,fun i p k hp hk=>?_⟩;rw[sH]at hk;by_cases hi:i<es.length
 ·rw[List.getElem?_append_left hi]at hp;rw[List.getElem?_append_left (by omega)]at hk;obtain⟨v,k1,k2⟩:=h8 i p k hp hk;exact⟨v,k1,fun _=>k2,fun γ' zF hf=>by cases hf;omega⟩
 have BF:i=es.length:=by
  have:=(qF hp).1;simp at this;omega
 subst BF;refine⟨v0,h9,fun h=>absurd rfl (h _ _ _ rfl),fun γ' zF hf=>?_⟩;cases hf;rw[List.getElem?_append_right (by omega),h5]at hk;simp at hk;exact⟨hk.symm,h10⟩
theorem H9{ts tx e:TypeId}{ti te eJ:TI}(Qj:zx P ts ti)(xr:ti.td= .slice e)(rD:zx P e te)(Qk:zx P tx eJ)
  (oh:(∃ e',eJ.td= .slice e')\/eJ.td= .string) (tt:TypeId) (hi:qW w H ι Im) {nx:Nat} {X:Nat->Prop} (xt:Bd X H nx)
  {x y:AV} {vx vy:Value} (hx:RA w H ι Im x vx) (hy:RA w H ι Im y vy) {r:bY} (hr:bA te x y H nx=some r):
  ∃u w',(Builtin.append_ #[ts,tx] tt #[vx,vy]).run P w= .ok u w' /\mG X w H ι Im nx r u w' :=by
 unfold bA at hr;split at hr;rotate_left
 ·cases hr
 rename_i mT γ fv fn nO;split at hr;rotate_left
 ·cases hr
 rename_i β zF off n;split at hr;rotate_left
 ·cases hr
 rename_i qq ds es hb;split at hr<;>cases hr;rename_i hc;obtain⟨xU,rfl,rfl,rfl,M5,rfl,wV⟩:=hc;obtain⟨l1,cs,f1,f2,f3⟩:=rz (P:=P) hi hy nO;have C3:=hx;cases hx with
 |row _ _ _ _ _ b ho xQ hk hv hh=>
 rw[hb]at xQ;cases xQ;obtain⟨h1,h2⟩:=hh _ _ _ rfl xU;have hg: ∀y,(qS [(β,y)] H).get β=some y:=fun y=>by simp[qS,qn.qZ]
 have An: ∀{w0:World}{H0:qn}{ι0:vG}{get:Nat->Option Value},gv w0 H0 ι0 Im te.size [[AV.row γ fn 0 fn]] get-> ∃v0,get 0=some v0/\RA w0 H0 ι0 Im (.row γ fn 0 fn) v0:=by
  intro w0 H0 ι0 get hA;have:=hA.2.2 0 _ 0 _ rfl rfl;rw[M5]at this;exact this
 cases qq with
 |true=>
  simp only[if_true]at h2;subst h2;have rR:es=[]:=(hi.mW β _ hb).1;subst rR;obtain⟨nc,w',DC,g1,g2,g3,g4,g5⟩:=ek Qj xr rD Qk oh tt hi hy nO (by simp) (by simpa using wV);refine⟨_,w',g5,jj ι β ⟨w.heap.size,nc,[.leaf]⟩, ?_⟩;have key:=qW.ML hi (w' :=w') β (.jI false ds ([]++[.sl true 0 []]) (some (0,γ,fn))) ⟨w.heap.size,nc,[.leaf]⟩ (fun x hx=>by rw[hb]at hx;cases hx;simp[xi,qC.sh])
   ⟨by rw[g2.1];simp,g2.2⟩ (fun b' xQ _=>by rw[g2.1];simp[Array.getElem?_push,Nat.ne_of_lt xQ]) (fun z hz=>by
    rcases hz.2 with h|⟨_,h⟩
    ·exact .inl (by rw[h];exact xJ _)
    ·simp[Sk.blocks]at h) (fun he=>by
    obtain⟨v0,k1,k2⟩:=An (g4.mono hi he)
    exact Zn (es:=[]) (ks:=[]) (dG:=DC) (elem:=e) (fz:=(0,0)) (by simp) (by simp[g2]) (xE _) (by simp[g3,M5]) (by simpa using g1) rfl (by simp) (by simp) (by simp) k1 k2)
  refine⟨key.1,key.2, ?_,xJ _,ki xt (xJ _) (xt β _ hb)⟩;refine .row β _ 0 _ _ _ rfl (hg _) (fun _=>⟨_,_,_,rfl⟩) (fun _ _ _ e=>by cases e;exact xJ _) fun _ _ _ e _=>?_;cases e;refine⟨by simp, ?_⟩;simp only[w9,if_false];exact⟨⟨w.heap.size,0,none⟩,by simp,rfl,by simp,fun _=>by simp⟩
 |false=>
  simp only[w9,if_false]at h2;obtain⟨a,rfl,fR,dR,eX⟩:=h2;obtain⟨ab,ao,T5⟩:=a;simp only at fR dR eX;subst fR dR;obtain⟨vs,elem,fz,g1,g2,g3,g4,g5,g6,g7,g8,g9⟩:=hi.jI hb;obtain⟨DK,Tk⟩:=List.nodup_cons.1 g6;have G6: ∀(i:Nat) p k,es[i]? =some p->(ι β).ks[i]? =some k-> ∃v,vs[i]? =some v/\eW w Im ds p v k:=fun i p k hp hk=>by
   obtain⟨v,k1,k2,_⟩:=g9 i p k hp hk;exact⟨v,k1,k2 fun _ _ _ h=>by cases h⟩
  have WW: ∀z,z∈((ι β).ks++[Sk.leaf]).flatMap Sk.blocks->(qC.jI false ds es none).vn (ι β) z:=fun z hz=>⟨rfl,.inr ⟨rfl,by simpa[Sk.blocks]using hz⟩⟩;by_cases pB:es.length+1<=(ι β).cap
  ·have SK:ao=0:=by
    have:=eX (by omega);omega
   subst SK;obtain⟨v0,c1,c2⟩:=An f3;have BD:cs.toList=[v0]:=by
    have nh:cs.size=1:=by rw[f2,M5];rfl
    have:cs= #[v0]:=by
     apply Array.ext
     ·simpa using nh
     intro i h1 h2;have:i=0:=by omega
     subst this;have:=(Array.getElem?_eq_some_iff.1 c1).2;simpa using this
    rw[this]
   have Z7: ∀x∈cs.toList,rY x=true:=by
    intro x hx;rw[BD]at hx;simp at hx;subst hx;exact c2.rY rfl
   obtain⟨w',q1,q2,q3,dG,q4,q5,q6⟩:=wQ (P:=P) (ι β).b es.length elem fz cs.toList 0 w vs g1 g2 (by simp[BD,g3];omega) Z7;have JL:=run_append_fits (w' :=w') Qj xr rD Qk oh tt (some ⟨(ι β).b,0,none⟩) es.length ((ι β).cap-0) 1 vy l1 (by omega) cs f1
    (fun a ha=>by cases ha;rw[add_plain,Nat.zero_add,M5,Nat.mul_one];exact q1) (fun h=>by cases h)
   have hw: ∀b,Im b->w'.heap[b]? =w.heap[b]? :=fun b xQ=>q3 b (fun e=>hi.KH β _ b hb ⟨rfl,.inl e⟩ xQ);refine⟨_,w',JL,jj ι β ⟨(ι β).b,(ι β).cap,(ι β).ks++[.leaf]⟩, ?_⟩;have key:=qW.ML hi (w' :=w') β (.jI false ds (es++[.sl true 0 []]) (some (es.length,γ,fn))) ⟨(ι β).b,(ι β).cap,(ι β).ks++[.leaf]⟩
    (fun x hx=>by
     rw[hb]at hx
     cases hx
     simp[xi,qC.sh])
    ⟨by omega,q2.2⟩ (fun b' _ jv=>q3 b' (fun e=>jv _ hb ⟨rfl,.inl e⟩)) (fun z hz=> .inr ⟨_,hb,(by
     rcases hz.2 with h|⟨_,h⟩
     ·exact⟨rfl,.inl h⟩
     ·exact WW z h)⟩) (fun bM=>by
     refine Zn (ks:=(ι β).ks) (by simp) (by simpa using q4) (by rw[q5];exact g2) (by simp[q5,g3]) (by simpa using pB) g5 (by simpa using g6) (fun x hx=>by rw[q2.1];exact g7 x hx) (fun i p k hp hk=>?_) (v0:=v0) ?_ (c2.mono hi bM)
     ·obtain⟨v,k1,k2⟩:=G6 i p k hp hk
      have fC:=(qF hp).1
      refine⟨v, ?_,k2.mono bM.im hw fun x hx=>q3 x fun e=>?_⟩
      ·rw[q6,if_neg (by omega)]
       exact k1
      subst e
      exact DK (List.mem_flatMap.2 ⟨k,qX hk,hx⟩)
     rw[q6,BD]
     simp)
   refine⟨key.1,key.2, ?_,xJ _,ki xt (xJ _) (xt β _ hb)⟩;refine .row β _ 0 _ _ _ rfl (hg _) (fun _=>⟨_,_,_,rfl⟩) (fun _ _ _ e=>by cases e;simp) fun _ _ _ e _=>?_;cases e;refine⟨by simp, ?_⟩;simp only[w9,if_false];exact⟨⟨(ι β).b,0,none⟩,by simp,rfl,by simp,fun _=>by simp⟩
  
  have hw:(kQ w).heap=w.heap:=rfl;have vq:=hi.yu hw ⟨rfl,rfl⟩;obtain⟨new,m1,m2,m3⟩:=(rz (P:=P) vq (hy.yu hw ⟨rfl,rfl⟩ hi) nO).2;have hold:(Builtin.firstCells te.size es.length (.slice (some ⟨(ι β).b,ao,none⟩) es.length ((ι β).cap-0))).run P (kQ w)= .ok ((List.range es.length).map fun j=>(vs[j]?).getD undef).toArray (kQ w):=by
   by_cases UC:es.length=0
   ·rw[UC];simp[Builtin.firstCells,loadCells,loadCellsFrom]
   have SK:ao=0:=by
    have:=eX (by omega);omega
   subst SK;simp only[Builtin.firstCells];rw[M5,Nat.mul_one];refine(run_loadCells (P:=P) (w:=kQ w) (ι β).b 0 es.length (fun j=>(vs[j]?).getD undef) fun j hj=>?_);have:(kQ w).cell? ⟨(ι β).b,0+j,none⟩=w.cell? ⟨(ι β).b,0+j,none⟩:=rfl;rw[this,ux g1];have:j<vs.size:=by omega
   simp[this]
  obtain⟨nc,rest,r1,r2,r3⟩:=hZ (w:=w) Qj xr rD Qk oh tt (some ⟨(ι β).b,ao,none⟩) es.length ((ι β).cap-0) 1 vy l1 (by omega) (by simpa using wV) _ new hold m1;generalize hO:((List.range es.length).map fun j=>(vs[j]?).getD undef).toArray=Wf at r3;have hos:Wf.size=es.length:=by rw[<- hO];simp
  have hog: ∀i,i<es.length->Wf[i]? =vs[i]? :=fun i xB=>by
   rw[<- hO];have:i<vs.size:=by omega
   simp[List.getElem?_range xB,this]
  obtain⟨v0,c1,c2⟩:=An (m3.mono (w' :=w) (H' :=H) (ι' :=ι) (jA:=Im) vq (w8.yu (w:=kQ w) (w' :=w) rfl ⟨rfl,rfl⟩));have SU:new.size=1:=by rw[m2,M5];rfl
  refine⟨_,_,r3,jj ι β ⟨w.heap.size,nc,(ι β).ks++[.leaf]⟩, ?_⟩;have E4: ∀b',b' <w.heap.size->({ kQ w with heap:=w.heap.push (.cells (Wf++new++rest) e) }:World).heap[b']? =w.heap[b']? :=fun b' xQ=>by simp[Array.getElem?_push,Nat.ne_of_lt xQ]
  have key:=qW.ML hi (w' :={ kQ w with heap:=w.heap.push (.cells (Wf++new++rest) e) }) β (.jI false ds (es++[.sl true 0 []]) (some (es.length,γ,fn))) ⟨w.heap.size,nc,(ι β).ks++[.leaf]⟩
   (fun x hx=>by
    rw[hb]at hx
    cases hx
    simp[xi,qC.sh])
   ⟨by simp,rfl,rfl⟩ (fun b' xQ _=>E4 b' xQ) (fun z hz=>by
    rcases hz.2 with h|⟨_,h⟩
    ·exact .inl (by rw[h];exact xJ _)
    ·exact .inr ⟨_,hb,WW z h⟩) (fun he=>by
    refine Zn (ks:=(ι β).ks) (by simp) (dG:=Wf++new++rest) (elem:=e) (fz:=(0,0)) (by simp) (xE _) ?_ (by simp only[jT];omega) g5 ?_ (fun x hx=>?_) (fun i p k hp hk=>?_) (v0:=v0) ?_ (c2.mono hi he)
    ·simp only[jT,Array.size_append,hos,SU,r2,M5,Nat.mul_one]
     omega
    ·simp only[jT]
     exact List.nodup_cons.2 ⟨fun h=>absurd (g7 _ h) (Nat.lt_irrefl _),Tk⟩
    ·have:=g7 x hx
     simp
     omega
    ·obtain⟨v,k1,k2⟩:=G6 i p k hp hk
     have fC:=(qF hp).1
     refine⟨v, ?_,k2.mono he.im (fun b xQ=>E4 b (hi.im b xQ)) fun x hx=>E4 x (g7 x (List.mem_flatMap.2 ⟨k,qX hk,hx⟩))⟩
     rw[Array.append_assoc,Array.getElem?_append_left (by omega),hog i fC]
     exact k1
    rw[Array.append_assoc,Array.getElem?_append_right (by omega),hos,Nat.sub_self,Array.getElem?_append_left (by omega)]
    exact c1)
  refine⟨key.1,key.2, ?_,xJ _,ki xt (xJ _) (xt β _ hb)⟩;refine .row β _ 0 _ _ _ rfl (hg _) (fun _=>⟨_,_,_,rfl⟩) (fun _ _ _ e=>by cases e;simp) fun _ _ _ e _=>?_;cases e;refine⟨by simp, ?_⟩;simp only[w9,if_false];exact⟨⟨w.heap.size,0,none⟩,by simp,rfl,by simp,fun _=>by simp⟩
end
section
variable [zN] {P:Program} {w:World} {H:qn} {ι:vG} {Im:Nat->Prop}
def eU(w:World)(Im:Nat->Prop)(es:List (PV×PV×Nat))(zO:List MapEntry):Prop:=
 es.length=zO.length/\ ∀(i:Nat)(k x:PV)(born:Nat) e,es[i]? =some (k,x,born)->zO[i]? =some e->RP w Im k e.key/\RP w Im x e.val/\e.born=born
theorem eU.mono{w' :World}{jA:Nat->Prop}(hi: ∀b,Im b->jA b)(hw: ∀b,Im b->w'.heap[b]? =w.heap[b]?){es:List (PV×PV×Nat)}{zO:List MapEntry}
  (h:eU w Im es zO):eU w' jA es zO:=
 ⟨h.1,fun i k x born e a b=>let⟨g1,g2,g3⟩:=h.2 i k x born e a b;⟨g1.mono hi hw,g2.mono hi hw,g3⟩⟩
theorem eU.tail{x:PV×PV×Nat}{es:List (PV×PV×Nat)}{e:MapEntry}{zO:List MapEntry}(h:eU w Im (x::es) (e::zO)):eU w Im es zO:=
 ⟨by simpa using h.1,fun i k y born e' a b=>h.2 (i+1) k y born e' (by simpa using a) (by simpa using b)⟩
theorem oT(a b:List UInt8):((⟨⟨a⟩⟩:ByteArray)==⟨⟨b⟩⟩)=(a==b):=by
 have:=beq_toListBytes ⟨⟨a⟩⟩ ⟨⟨b⟩⟩;simpa using this
theorem Pm{t:TypeId}{tk:TI}(ht:zx P t tk){k:PV}(hk:xv tk.td k=true){d:TypeDesc}(hd:P.underlying t=some d){k' :PV}{vk vk' :Value}
  (h1:RP w Im k vk) (h2:RP w Im k' vk') {b:Bool} (hb:Tu k k' =some b):Instr.sameNow d vk vk' =some b/\(b=true->vk=vk'):=by
 have key: ∀td,tk.td=td->xv td k=true->_:=fun td e h=>(⟨e,h⟩:tk.td=td/\xv td k=true);cases k<;>cases k' <;>simp only[Tu,reduceCtorEq]at hb
 ·rename_i a b';cases hb;cases h1;cases h2;have xr:tk.td= .bool:=by cases xr:tk.td<;>simp[xv,xr]at hk |-
  rw[ht.bool xr]at hd;cases hd;exact⟨rfl,fun h=>by simpa using h⟩
 ·rename_i kd a kd' b';split at hb<;>cases hb;rename_i Xk;subst Xk;cases h1;cases h2;obtain⟨k0,xr⟩: ∃k0,tk.td= .int k0:=by cases xr:tk.td<;>simp[xv,xr]at hk |-
  rw[ht.int xr]at hd;cases hd;exact⟨by simp[Instr.sameNow],fun h=>by simpa using h⟩
 rename_i a b';cases hb;cases h1;cases h2;have xr:tk.td= .string:=by cases xr:tk.td<;>simp[xv,xr]at hk |-
 rw[ht.string xr]at hd;cases hd;refine⟨?_,fun h=>?_⟩
 ·simp only[Instr.sameNow,oT]
 have:a=b' :=by simpa using h
 rw[this]
theorem tO{t:TypeId}{tk:TI}(ht:zx P t tk){k:PV}(hk:xv tk.td k=true){d:TypeDesc}(hd:P.underlying t=some d){vk:Value}(h1:RP w Im k vk):
  ∀(es:List (PV×PV×Nat))(zO:List MapEntry)(i:Nat),eU w Im es zO-> ∀{r:Option (Nat×PV×Nat)},findKey k es i=some r->
   (r=none/\Instr.findNow d vk zO i=some none)\/
   ∃j x born e,r=some (i+j,x,born)/\Instr.findNow d vk zO i=some (some (i+j,e.val))/\zO[j]? =some e/\RP w Im x e.val/\e.born=born/\e.key=vk
 |[],zO,i,hE,r,h=>by
  have:zO=[]:=by simpa using hE.1.symm
  subst this;cases h;exact .inl ⟨rfl,rfl⟩
 |(k',x,born)::es,[],i,hE,r,h=>by
  have:=hE.1;simp at this
 |(k',x,born)::es,e::zO,i,hE,r,h=>by
  obtain⟨g1,g2,g3⟩:=hE.2 0 k' x born e (by simp) (by simp);unfold findKey at h;cases hq:Tu k k' with
  |none=>simp[hq]at h
  |some b=>
   obtain⟨s1,s2⟩:=Pm ht hk hd h1 g1 hq;cases b with
   |true=>
    simp only[hq,kX]at h;subst h;refine .inr ⟨0,x,born,e,rfl, ?_,rfl,g2,g3,(s2 rfl).symm⟩;simp[Instr.findNow,s1]
   |false=>
    simp only[hq]at h;rcases tO ht hk hd h1 es zO (i+1) hE.tail h with ⟨rfl,q⟩|⟨j,x',dO,e',rfl,q1,q2,q3,q4,q5⟩
    ·exact .inl ⟨rfl,by simp[Instr.findNow,s1,q]⟩
    refine .inr ⟨j+1,x',dO,e',by rw[Nat.add_assoc,Nat.add_comm 1 j], ?_,by simpa using q2,q3,q4,q5⟩;simp only[Instr.findNow,s1,q1];rw[Nat.add_assoc,Nat.add_comm 1 j]
theorem nR{t:TypeId}{tk:TI}(ht:zx P t tk){k:PV}(hk:xv tk.td k=true)(empty:Bool)(vk:Value):(Instr.checkKey empty 10000 t vk).run P w= .ok () w:=by
 have gen: ∀n,(Instr.checkKey empty (n+1) t vk).run P w= .ok () w:=by
  intro n;unfold Instr.checkKey;have:P.underlying t=some .bool\/P.underlying t=some .string\/ ∃k0,P.underlying t=some (.int k0):=by
   cases xr:tk.td<;>simp[xv,xr]at hk
   ·exact .inl (ht.bool xr)
   ·exact .inr (.inr ⟨_,ht.int xr⟩)
   exact .inr (.inl (ht.string xr))
  rcases this with h|h|⟨k0,h⟩<;>simp[qv h]
 exact gen 9999
theorem nF{t:TypeId}{tk:TI}(ht:zx P t tk){d:TypeDesc}(hd:P.underlying t=some d)(vk:Value)(zO:List MapEntry){r:Option (Nat×Value)}
  (h:Instr.findNow d vk zO 0=some r):(Instr.findKey t vk zO).run P w= .ok r w:=by
 unfold Instr.findKey;simp[qv hd,h]
theorem qW.map{β:Nat}{es:List (PV×PV×Nat)}{zI:Nat}(hi:qW w H ι Im)(hb:H.get β=some (.map es zI)):
  ∃zO:List MapEntry,w.heap[(ι β).b]? =some (.map ⟨zO⟩ zI)/\eU w Im es zO:=hi.mW β _ hb
theorem eE{b:Nat}{zO:List MapEntry}{zI:Nat}(h:w.heap[b]? =some (.map ⟨zO⟩ zI)):(getObj b).run P w= .ok (.map ⟨zO⟩ zI) w:=by
 simp[getObj,Sem.run,h]
theorem dz{b:Nat}{zO:List MapEntry}{zI:Nat}(h:w.heap[b]? =some (.map ⟨zO⟩ zI))(o:Obj):
  (setObj b o).run P w= .ok () { w with heap:=w.heap.setIfInBounds b o }:=by
 simp[setObj,Sem.run,h]
theorem XL(hi:qW w H ι Im){nx:Nat}{X:Nat->Prop}(xt:Bd X H nx){β:Nat}{es eg:List (PV×PV×Nat)}{zI Jl:Nat}{Ta:List MapEntry}
  (hb:H.get β=some (.map es zI)) (h:eU w Im eg Ta) {r:AV} {u:Value} (hru: ∀w' H' ι',qW w' H' ι' Im->w8 w H ι Im w' H' ι' Im->RA w' H' ι' Im r u):
  mG X w H ι Im nx (r,[(β,.map eg Jl)],nx) u { w with heap:=w.heap.setIfInBounds (ι β).b (.map ⟨Ta⟩ Jl) }:=by
 obtain⟨zO,h1,h2⟩:=hi.map hb;have xB:=(hi.mW β _ hb).lt rfl;have key:=qW.put (Qf:=TG hb rfl) hi (w' :={ w with heap:=w.heap.setIfInBounds (ι β).b (.map ⟨Ta⟩ Jl) }) β (.map eg Jl) (ι β)
  (fun x hx=>by rw[hb]at hx;cases hx;rfl) ⟨by simp,rfl,rfl⟩
  (fun b' _ jv=>by
   have:(ι β).b≠b' :=jv _ hb rfl
   simp[Array.getElem?_setIfInBounds,this])
  (fun _=> .inr ⟨_,hb,rfl,rfl⟩) (fun he=>by
   have hw: ∀b,Im b->_:=fun b hb=>he.Qm hi b hb
   exact⟨Ta,by simp[xB],h.mono he.im hw⟩)
 exact⟨_,key.1,key.2,hru _ _ _ key.1 key.2,xJ _,ki xt (xJ _) (xt β _ hb)⟩
theorem Ll{t:TypeId}{ti:TI}(ht:zx P t ti): ∃z,(zeroValue t).run P w= .ok z w/\RP w Im (Ke ti) z:=by
 obtain⟨z,h1,h2,h3,h4⟩:=oA (w:=w) (Im:=Im) ht;refine⟨z,h1, ?_⟩;unfold Ke;have Yn:ti.isAgg=ti.td.isAgg:=by
  unfold TI.isAgg TD.isAgg;cases ti.td<;>rfl
 rw[Yn,<- h4];cases z with
 |agg cs=>
  simp only[lA,if_true];exact .agg ti.zero cs.toList (by simpa[Value.cells]using h2) ht.kv (fun i p v a b=>h3 i p v a (by simpa[Value.cells]using b))
 |_=>
  simp only[lA,w9,if_false,Value.cells]at h2 h3 |-;cases hz:ti.zero with
  |nil=>rw[hz]at h2;simp at h2
  |cons p r=>
   rw[hz]at h3;exact h3 0 p _ (by simp) (by simp)
theorem Hj{t:TypeId}{tk:TI}(ht:zx P t tk)(hi:qW w H ι Im){m:AV}{vm vk:Value}(hm:RA w H ι Im m vm){k:PV}(hk:xv tk.td k=true)(h1:RP w Im k vk)
  {r:Option (Nat×PV×Nat)} (hr:J5 m k H=some r):
  (vm= .map none/\r=none)\/ ∃b zO zI,vm= .map (some b)/\w.heap[b]? =some (.map ⟨zO⟩ zI)/\
   ((r=none/\(Instr.findKey t vk zO).run P w= .ok none w)\/ ∃j x born u,r=some (j,x,born)/\(Instr.findKey t vk zO).run P w= .ok (some (j,u)) w/\RP w Im x u):=by
 obtain⟨d,hd⟩:=ht.L8;unfold J5 at hr;split at hr
 ·cases hr;have h:=hm.uB;cases h;exact .inl ⟨rfl,rfl⟩
 ·rename_i β;split at hr;rotate_left
  ·cases hr
  rename_i es zI hb;cases hm;obtain⟨zO,g1,g2⟩:=hi.map hb;refine .inr ⟨_,zO,zI,rfl,g1, ?_⟩;rcases tO ht hk hd h1 es zO 0 g2 hr with ⟨rfl,q⟩|⟨j,x,born,e,rfl,q1,q2,q3,q4,q5⟩
  ·exact .inl ⟨rfl,nF ht hd vk zO q⟩
  exact .inr ⟨_,x,born,e.val,rfl,nF ht hd vk zO q1,q3⟩
 cases hr
theorem Nl{t k0 e0:TypeId}{ti tk te:TI}(ht:zx P t ti)(xr:ti.td= .map k0 e0)(hk:zx P k0 tk)(he:zx P e0 te)(hi:qW w H ι Im){m k:AV}{vm vk:Value}
  (hm:RA w H ι Im m vm) (hkv:RA w H ι Im k vk) {ok:Bool} {r:AV} (hr:dM tk te m k ok H=some r):
  ∃u,(Instr.lookup t vm vk ok).run P w= .ok u w/\RA w H ι Im r u:=by
 unfold dM at hr;split at hr;rotate_left
 ·cases hr
 rename_i k;split at hr;rotate_left
 ·cases hr
 rename_i pB;have E5:=hkv.uB;obtain⟨z,hz1,hz2⟩:=Ll (w:=w) (Im:=Im) he;have pair: ∀(p:PV)(v:Value)(b:Bool),RP w Im p v->RA w H ι Im (if ok=true then .xS [.pv p,.pv (.bool b)]else .pv p) (if ok=true then .tuple #[v,.bool b]else v):=by
  intro p v b h;cases ok
  ·exact .pv _ _ h
  refine .xS _ [v,.bool b] rfl fun i x u h1 h2=>?_
  match i with
  |0=>simp at h1 h2;subst h1 h2;exact .pv _ _ h
  |1=>simp at h1 h2;subst h1 h2;exact .pv _ _ (.bool _)
  |i+2=>simp at h1
 unfold Instr.lookup;simp only[ji,qv (ht.map xr),gm];split at hr
 ·rename_i j v born hf;cases hr;rcases Hj hk hi hm pB E5 hf with ⟨_,h⟩|⟨b,zO,zI,rfl,g1,g2⟩
  ·cases h
  rcases g2 with ⟨h,_⟩|⟨j',x,dO,u,h,g3,g4⟩
  ·cases h
  cases h;refine⟨_, ?_,pair v u true g4⟩;simp only[eE g1,ji,gm,Sem.run_pure,nR hk pB,g3]
 ·rename_i hf;cases hr;rcases Hj hk hi hm pB E5 hf with ⟨rfl,_⟩|⟨b,zO,zI,rfl,g1,g2⟩
  ·refine⟨_, ?_,pair _ z false hz2⟩;have:(Instr.findKey k0 vk ([]:List MapEntry)).run P w= .ok none w:=by
    obtain⟨d,hd⟩:=hk.L8;exact nF hk hd vk [] rfl
   simp only[ji,gm,Sem.run_pure,nR hk pB,this,hz1]
  rcases g2 with ⟨_,g3⟩|⟨j',x,dO,u,h,_⟩;rotate_left
  ·cases h
  refine⟨_, ?_,pair _ z false hz2⟩;simp only[eE g1,ji,gm,Sem.run_pure,nR hk pB,g3,hz1]
 cases hr
end
section
variable [zN] {P:Program} {w:World} {H:qn} {ι:vG} {Im:Nat->Prop}
theorem eU.set{es:List (PV×PV×Nat)}{zO:List MapEntry}(h:eU w Im es zO)(i:Nat){k x:PV}{born:Nat}{e:MapEntry}
  (hk:RP w Im k e.key) (hx:RP w Im x e.val) (hb:e.born=born):eU w Im (es.set i (k,x,born)) (zO.set i e):=by
 refine⟨by simp[h.1],fun j k' x' dO e' h1 h2=>?_⟩;rw[List.getElem?_set]at h1 h2;by_cases DJ:i=j
 ·subst DJ;rw[if_pos rfl]at h1 h2;split at h1<;>cases h1;split at h2<;>cases h2;exact⟨hk,hx,hb⟩
 rw[if_neg DJ]at h1 h2;exact h.2 j k' x' dO e' h1 h2
theorem eU.push{es:List (PV×PV×Nat)}{zO:List MapEntry}(h:eU w Im es zO){k x:PV}{born:Nat}{e:MapEntry}
  (hk:RP w Im k e.key) (hx:RP w Im x e.val) (hb:e.born=born):eU w Im (es++[(k,x,born)]) (zO++[e]):=by
 refine⟨by simp[h.1],fun j k' x' dO e' h1 h2=>?_⟩;rw[List.getElem?_append]at h1 h2;rw[<- h.1]at h2;by_cases hj:j<es.length
 ·rw[if_pos hj]at h1 h2;exact h.2 j k' x' dO e' h1 h2
 rw[if_neg hj]at h1 h2;cases hd:j-es.length with
 |zero=>
  rw[hd]at h1 h2;simp at h1 h2;obtain⟨rfl,rfl,rfl⟩:=h1;subst h2;exact⟨hk,hx,hb⟩
 |succ n=>rw[hd]at h1;simp at h1
theorem eU.erase{es:List (PV×PV×Nat)}{zO:List MapEntry}(h:eU w Im es zO)(i:Nat):eU w Im (es.eraseIdx i) (zO.eraseIdx i):=by
 refine⟨by simp[List.length_eraseIdx,h.1],fun j k' x' dO e' h1 h2=>?_⟩;rw[List.getElem?_eraseIdx]at h1 h2;split at h1
 ·rename_i hc;rw[if_pos hc]at h2;exact h.2 _ k' x' dO e' h1 h2
 rename_i hc;rw[if_neg hc]at h2;exact h.2 _ k' x' dO e' h1 h2
theorem modify_eq_set{l:List MapEntry}{i:Nat}{e:MapEntry}(h:l[i]? =some e)(f:MapEntry->MapEntry):(⟨l⟩:Array MapEntry).modify i f=⟨l.set i (f e)⟩:=by
 obtain⟨xB,he⟩:=qF h;apply Array.ext';simp only[Array.toList_modify];apply List.ext_getElem?;intro j;rw[List.getElem?_modify,List.getElem?_set];by_cases DJ:i=j
 ·subst DJ;simp[xB,he]
 simp[DJ]
theorem Wr{k:PV}{tk:TI}(hk:xv tk.td k=true){v:Value}(h:RP w Im k v):Instr.sameBits 10000 v v=true:=by
 cases h<;>simp[xv]at hk
 ·simp[Instr.sameBits]
 ·simp[Instr.sameBits]
 ·simp[Instr.sameBits,oT]
 all_goals (cases xr:tk.td<;>simp[xr]at hk)
theorem Uf{k:PV}{tk:TI}(hk:xv tk.td k=true){v:Value}(h:RP w Im k v):(Instr.keyThatStays v v).run P w= .ok v w:=by
 unfold Instr.keyThatStays;simp[Wr hk h]
theorem J9{t k0 e0:TypeId}{ti tk:TI}(ht:zx P t ti)(xr:ti.td= .map k0 e0)(hk:zx P k0 tk)(hi:qW w H ι Im)
  {nx:Nat} {X:Nat->Prop} (xt:Bd X H nx) {m k:AV} {x:PV} {vm vk vx:Value}
  (hm:RA w H ι Im m vm) (hkv:RA w H ι Im k vk) (hx:RP w Im x vx) {ws:List (Nat×qC)} (hr:pI tk m k x H=some ws):
  ∃w',(Instr.mapUpdate t vm vk vx).run P w= .ok () w' /\mG X w H ι Im nx (.xS [],ws,nx) undef w' :=by
 have Za: ∀w' H' ι',qW w' H' ι' Im->w8 w H ι Im w' H' ι' Im->RA w' H' ι' Im (.xS []) undef:=fun _ _ _ _ _=> .xS [] [] rfl (by simp);obtain⟨d,hd⟩:=hk.L8;unfold pI at hr;split at hr;rotate_left
 ·cases hr
 rename_i β k;split at hr;rotate_left
 ·cases hr
 rename_i pB;split at hr;rotate_left
 ·cases hr
 rename_i es zI hb;have E5:=hkv.uB;cases hm;obtain⟨zO,g1,g2⟩:=hi.map hb;unfold Instr.mapUpdate;simp only[ji,qv (ht.map xr),gm,eE g1,nR hk pB];split at hr
 ·rename_i j y born hf;cases hr;rcases tO hk pB hd E5 es zO 0 g2 hf with ⟨h,_⟩|⟨j',x',dO,e,h,q1,q2,q3,q4,q5⟩
  ·cases h
  rw[Nat.zero_add]at h q1;cases h;have hkey:((zO[j]?.map (·.key)).getD vk)=vk:=by rw[q2];simp[q5]
  refine⟨_, ?_,XL hi xt hb (g2.set j (k:=k) (x:=x) (born:=born) (e:={ e with key:=vk,val:=vx }) E5 hx q4) Za⟩;simp only[nF hk hd vk zO q1,gm,ji];have Tg:((Array.mk zO)[j]?.map (·.key)).getD vk=vk:=by simpa using hkey
  rw[Tg,Uf pB E5];simp only[gm,modify_eq_set q2,dz g1]
 ·rename_i hf;cases hr;rcases tO hk pB hd E5 es zO 0 g2 hf with ⟨_,q1⟩|⟨j',x',dO,e,h,_⟩;rotate_left
  ·cases h
  refine⟨_, ?_,XL hi xt hb (g2.push (k:=k) (x:=x) (born:=zI) (e:={ key:=vk,val:=vx,born:=zI }) E5 hx rfl) Za⟩;simp only[nF hk hd vk zO q1,gm,dz g1];simp
 cases hr
theorem S5{t k0 e0:TypeId}{ti tk te:TI}(ht:zx P t ti)(xr:ti.td= .map k0 e0)(hk:zx P k0 tk)(he:zx P e0 te)(hi:qW w H ι Im)
  {nx:Nat} {X:Nat->Prop} (xt:Bd X H nx) {m k:AV} {vm vk:Value}
  (hm:RA w H ι Im m vm) (hkv:RA w H ι Im k vk) {r:AV} {ws:List (Nat×qC)} (hr:ig tk te m k H=some (r,ws)):
  ∃u w',(Instr.mapEntry t vm vk).run P w= .ok u w' /\mG X w H ι Im nx (r,ws,nx) u w' :=by
 unfold ig at hr;cases hr
theorem J4(t:TypeId)(hi:qW w H ι Im){nx:Nat}{X:Nat->Prop}(xt:Bd X H nx){m st:AV}{x:PV}{vm vs vx:Value}
  (hm:RA w H ι Im m vm) (hsv:RA w H ι Im st vs) (hx:RP w Im x vx) {ws:List (Nat×qC)} (hr:gj m st x H=some ws):
  ∃w',(Instr.entryStore t vm vs vx).run P w= .ok () w' /\mG X w H ι Im nx (.xS [],ws,nx) undef w' :=by
 unfold gj at hr;cases hr
theorem Ni{t k0 e0:TypeId}{ti tk:TI}(ht:zx P t ti)(xr:ti.td= .map k0 e0)(hk:zx P k0 tk)(hi:qW w H ι Im)
  {nx:Nat} {X:Nat->Prop} (xt:Bd X H nx) (rI:Array TypeId) (XG:rI[0]? =some t) (tt:TypeId) {m k:AV} {vm vk:Value}
  (hm:RA w H ι Im m vm) (hkv:RA w H ι Im k vk) {ws:List (Nat×qC)} (hr:rB tk m k H=some ws):
  ∃w',(Builtin.delete_ rI tt #[vm,vk]).run P w= .ok undef w' /\mG X w H ι Im nx (.xS [],ws,nx) undef w' :=by
 have Za: ∀w' H' ι',qW w' H' ι' Im->w8 w H ι Im w' H' ι' Im->RA w' H' ι' Im (.xS []) undef:=fun _ _ _ _ _=> .xS [] [] rfl (by simp);obtain⟨d,hd⟩:=hk.L8;unfold Builtin.delete_;simp only[XG,List.getElem?_toArray,List.getElem?_cons_zero,List.getElem?_cons_succ,ji,qv (ht.map xr),gm];unfold rB at hr;split at hr
 ·rename_i k;split at hr<;>cases hr;rename_i pB;have h:=hm.uB;cases h;refine⟨w, ?_,mG.pure hi xt (Za _ _ _ hi (w8.refl _ _ _ _))⟩;simp only[ji,nR hk pB,gm,Sem.run_pure];rfl
 ·rename_i β k;split at hr;rotate_left
  ·cases hr
  rename_i pB;split at hr;rotate_left
  ·cases hr
  rename_i es zI hb;have E5:=hkv.uB;cases hm;obtain⟨zO,g1,g2⟩:=hi.map hb;simp only[ji,eE g1,gm,nR hk pB];split at hr
  ·rename_i j y born hf;cases hr;rcases tO hk pB hd E5 es zO 0 g2 hf with ⟨h,_⟩|⟨j',x',dO,e,h,q1,q2,q3,q4,q5⟩
   ·cases h
   rw[Nat.zero_add]at h q1;cases h;refine⟨_, ?_,XL hi xt hb (g2.erase j) Za⟩;simp only[ji,nF hk hd vk zO q1,gm,dz g1,Sem.run_pure];have:(Array.mk zO).eraseIdxIfInBounds j=⟨zO.eraseIdx j⟩:=by
    obtain⟨xB,_⟩:=qF q2;simp[Array.eraseIdxIfInBounds,xB]
   simp only[ji,this,dz g1,gm,Sem.run_pure];rfl
  ·rename_i hf;cases hr;rcases tO hk pB hd E5 es zO 0 g2 hf with ⟨_,q1⟩|⟨j',x',dO,e,h,_⟩;rotate_left
   ·cases h
   refine⟨_, ?_,XL hi xt hb g2 Za⟩;simp only[ji,nF hk hd vk zO q1,gm,dz g1,Sem.run_pure];rfl
  cases hr
 cases hr
theorem Ho(t:TypeId)(hi:qW w H ι Im){nx:Nat}{X:Nat->Prop}(xt:Bd X H nx)(hX: ¬X nx):
  ∃u w',(Instr.makeMap t none).run P w= .ok u w' /\mG X w H ι Im nx (.map nx,[(nx,.map [] 0)],nx+1) u w' :=by
 refine⟨.map (some w.heap.size), { w with heap:=w.heap.push (.map #[] 0) },by simp[Instr.makeMap], ?_⟩;obtain⟨ι',h0,h1,h2⟩:=qW.new hi xt hX { w with heap:=w.heap.push (.map #[] 0) } (.map [] 0) (.map #[] 0) 0 rfl ⟨rfl,rfl⟩ (fun ι' hp he=>by
  exact⟨[],by simp[hp],rfl,by simp⟩)
 refine⟨ι',h1,h2, ?_,by simp,ki xt (by simp) (.inl (by simp))⟩;have hg:(qS [(nx,qC.map [] 0)] H).get nx=some (.map [] 0):=by simp[qS,qn.qZ]
 have:=RA.map (w:={ w with heap:=w.heap.push (.map #[] 0) }) (ι:=ι') (Im:=Im) nx [] 0 hg;rw[h0]at this;exact this
end
section
variable [zN] {P:Program} {w:World} {H:qn} {ι:vG} {Im:Nat->Prop}
theorem Hn{t k0 e0:TypeId}{ti tk te:TI}(ht:zx P t ti)(xr:ti.td= .map k0 e0)(hk:zx P k0 tk)(he:zx P e0 te)(hi:qW w H ι Im){m k:AV}{vm vk:Value}
  (hm:RA w H ι Im m vm) (hkv:RA w H ι Im k vk) {ok:Bool} {r:AV} (hr:ij tk te m k ok H=some r):
  ∃u,(Instr.lookup t vm vk ok).run P w= .ok u w/\RA w H ι Im r u:=by
 unfold ij at hr;cases hr
theorem Hr{t k0 e0:TypeId}{ti tk:TI}(ht:zx P t ti)(xr:ti.td= .map k0 e0)(hk:zx P k0 tk)(hi:qW w H ι Im)
  {nx:Nat} {X:Nat->Prop} (xt:Bd X H nx) {m k x:AV} {vm vk vx:Value}
  (hm:RA w H ι Im m vm) (hkv:RA w H ι Im k vk) (hx:RA w H ι Im x vx) {ws:List (Nat×qC)} (hr:cy tk m k x H=some ws):
  ∃w',(Instr.mapUpdate t vm vk vx).run P w= .ok () w' /\mG X w H ι Im nx (.xS [],ws,nx) undef w' :=by
 unfold cy at hr;cases hr
end
section
variable [zN] {P:Program} {w:World} {H:qn} {ι:vG} {Im:Nat->Prop}
def vL(P:Program)(G:GP):Prop:= ∀t ti,G.ti t=some ti->zx P t ti
def yp(X:Nat->Prop)(r:Result Next)(w:World)(H:qn)(ι:vG)(Im:Nat->Prop)(nx:Nat)(e:bY):Prop:=
 ∃u w',(r= .ok (.value u) w' \/(r= .ok .skip w' /\u=undef))/\mG X w H ι Im nx e u w'
theorem yp.val{X:Nat->Prop}{s:Sem Value}{u:Value}{w' :World}{nx:Nat}{e:bY}(h:s.run P w= .ok u w')(hd:mG X w H ι Im nx e u w'):
  yp X ((do pure (.value (<- s)):Sem Next).run P w) w H ι Im nx e:=
 ⟨u,w',.inl (by simp[h]),hd⟩
theorem yp.skip{X:Nat->Prop}{s:Sem Unit}{w' :World}{nx:Nat}{e:bY}(h:s.run P w= .ok () w')(hd:mG X w H ι Im nx e undef w'):
  yp X ((do s;pure .skip:Sem Next).run P w) w H ι Im nx e:=
 ⟨undef,w',.inr ⟨by simp[h],rfl⟩,hd⟩
theorem yp.now{X:Nat->Prop}{u:Value}{nx:Nat}{e:bY}(hd:mG X w H ι Im nx e u w):yp X ((pure (.value u):Sem Next).run P w) w H ι Im nx e:=
 ⟨u,w,.inl rfl,hd⟩
def JR:Op->Bool
 | .call { callee:= .value _,.. }=>true
 | .box _ _=>true
 |_=>false
theorem mG.puts{β:Nat}{b b' :qC}{nx:Nat}{X:Nat->Prop}(xt:Bd X H nx)(hb:H.get β=some b){w' :World}{ι' :vG}(h1:qW w' (qS [(β,b')] H) ι' Im)
  (h2:w8 w H ι Im w' (qS [(β,b')] H) ι' Im):mG X w H ι Im nx (.xS [],[(β,b')],nx) undef w' :=
 ⟨ι',h1,h2,.xS [] [] rfl (by simp),xJ _,ki xt (xJ _) (xt β _ hb)⟩
theorem rW{G:GP}{t:TypeId}{tk te:TI}(h:rV G t=some (tk,te)): ∃ti k e,G.ti t=some ti/\ti.td= .map k e/\G.ti k=some tk/\G.ti e=some te:=by
 unfold rV at h;split at h;rotate_left
 ·cases h
 rename_i ti i6;split at h;rotate_left
 ·cases h
 rename_i k e xr;split at h<;>cases h;rename_i hk he;exact⟨ti,k,e,i6,xr,hk,he⟩
theorem TA{a:Act}{E:vF}(hE: ∀t,RA w H ι Im (E.get t) (a.tmps.getD t undef)): ∀(l:List Operand)(i:Nat) z v,(l.map (ev E))[i]? =some z->(l.map a.eval)[i]? =some v->RA w H ι Im z v:=by
 intro l i z v h1 h2;simp only[List.getElem?_map,yi]at h1 h2;obtain⟨o1,q1,rfl⟩:=h1;obtain⟨o2,q2,rfl⟩:=h2;rw[q1]at q2;cases q2;exact oX hE o1
theorem T1{isMax:Bool}{l:List AV}{vs:List Value}(hl:l.length=vs.length)(hR: ∀(i:Nat) x v,l[i]? =some x->vs[i]? =some v->RA w H ι Im x v)
  {p:PV} (h:A8 isMax l=some p) (rI:Array TypeId) (tt:TypeId):
  ∃u,(if isMax then Builtin.max_ rI tt ⟨vs⟩else Builtin.min_ rI tt ⟨vs⟩).run P w= .ok u w/\RP w Im p u:=by
 unfold A8 at h;split at h;rotate_left
 ·rename_i a b;split at h<;>cases h;rename_i hm;obtain⟨v,u,rfl⟩: ∃v u,vs=[v,u]:=by
   match vs,hl with
   |[v,u],_=>exact⟨v,u,rfl⟩
  have hx:=(hR 0 (.pv (.str a)) v (by simp) (by simp)).uB;have hy:=(hR 1 (.pv (.str b)) u (by simp) (by simp)).uB;cases hx;cases hy;refine⟨.string ⟨⟨if jP a b=true then b else a⟩⟩, ?_,.str _⟩;rw[if_pos hm];cases hc:jP a b<;>simp[Builtin.max_,Builtin.max2,Op.stringOp,asBool,nJ,hc]
 ·cases h
 rename_i k a r;cases vs with
 |nil=>simp at hl
 |cons v vr=>
  have hx:=(hR 0 (.pv (.int k a)) v (by simp) (by simp)).uB;cases hx;obtain⟨u,g1,g2⟩:=JW (P:=P) isMax k r a vr (by simpa using hl) (fun i x v h1 h2=>hR (i+1) x v (by simpa using h1) (by simpa using h2)) h;refine⟨u, ?_,g2⟩;cases isMax
  ·exact g1
  exact g1
theorem He{G:GP}(hG:vL P G)(hi:qW w H ι Im){nx:Nat}{X:Nat->Prop}(xt:Bd X H nx)(b:Builtin)(rI:Array TypeId)(tt:TypeId)(consts:Array Bool)
  {l:List AV} {vs:List Value} (hl:l.length=vs.length) (hR: ∀(i:Nat) x v,l[i]? =some x->vs[i]? =some v->RA w H ι Im x v) {e:bY} (hr:pG G b rI.toList l H nx=some e) (hX: ∀γ,X γ->e.2.2<=γ):
  yp X ((builtin b rI tt consts ⟨vs⟩).run P w) w H ι Im nx e:=by
 unfold pG at hr;unfold builtin;split at hr
 ·rename_i t r x XG;split at hr;rotate_left
  ·cases hr
  rename_i ti i6;split at hr;rotate_left
  ·cases hr
  rename_i xr;split at hr<;>cases hr;rename_i n hn
  match vs,hl with
  |[v],_=>
   have h1:=aLen_ok (hG _ _ i6) hi (hR 0 x v (by simp) (by simp)) tt xr hn;refine yp.val (s:=Builtin.len_ rI tt #[v]) (u:= .int .i64 n) (w' :=w) ?_ (mG.pure hi xt (.pv _ _ (.int _ _)));have h0:rI[0]? =some t:=by rw[<- Array.getElem?_toList,XG];rfl
   unfold Builtin.len_ at h1 |-;simp only[List.getElem?_toArray,List.getElem?_cons_zero,h0]at h1 |-;exact h1
 ·rename_i x
  match vs,hl with
  |[v],_=>
   obtain⟨u,w',h1,h2⟩:=KY (P:=P) (hR 0 x v (by simp) (by simp)) hi xt hr rI tt;exact yp.val (s:=Builtin.unsafeSliceData_ rI tt #[v]) h1 h2
 ·rename_i tp r p x XG;split at hr;rotate_left
  ·cases hr
  rename_i ti i6;split at hr;rotate_left
  ·cases hr
  rename_i el Yr;split at hr;rotate_left
  ·cases hr
  rename_i tel htel;split at hr;rotate_left
  ·cases hr
  rename_i h1z
  match vs,hl with
  |[vp,vx],_=>
   have h0:rI[0]? =some tp:=by rw[<- Array.getElem?_toList,XG];rfl
   obtain⟨u,w',h1,h2⟩:=QU h0 (hG _ _ i6) Yr ((hG _ _ htel).cellsOf.trans h1z) (hR 0 p vp (by simp) (by simp)) (hR 1 x vx (by simp) (by simp)) hi xt hr tt;exact yp.val (s:=Builtin.unsafeString_ rI tt #[vp,vx]) h1 h2
 ·split at hr<;>cases hr;rename_i p hp;obtain⟨u,h1,h2⟩:=T1 (P:=P) hl hR hp rI tt;exact yp.val (s:=Builtin.max_ rI tt ⟨vs⟩) h1 (mG.pure hi xt (.pv _ _ h2))
 ·split at hr<;>cases hr;rename_i p hp;obtain⟨u,h1,h2⟩:=T1 (P:=P) hl hR hp rI tt;exact yp.val (s:=Builtin.min_ rI tt ⟨vs⟩) h1 (mG.pure hi xt (.pv _ _ h2))
 ·rename_i ts tx r s x XG
  match vs,hl with
  |[vs,vx],_=>
   have key: ∀{e te eJ ti},G.ti ts=some ti->ti.td= .slice e->G.ti e=some te->G.ti tx=some eJ->((∃ e',eJ.td= .slice e')\/eJ.td= .string)-> ∀{ef},Ly (ua te s x H nx) (Ly (uU e te s x H nx) (bA te s x H nx))=some ef->(∀ γ,X γ->ef.2.2<=γ)->
     yp X ((do pure (.value (<- Builtin.append_ rI tt #[vs,vx])):Sem Next).run P w) w H ι Im nx ef:=by
    intro e te eJ ti h1 h2 h3 h4 h5 ef h6 hX;obtain⟨u,w',g1,g2⟩: ∃u w',(Builtin.append_ #[ts,tx] tt #[vs,vx]).run P w= .ok u w' /\mG X w H ι Im nx ef u w' :=by
     cases ha:ua te s x H nx with
     |some r=>
      rw[ha]at h6;cases h6;exact Nd (hG _ _ h1) h2 (hG _ _ h3) (hG _ _ h4) h5 tt hi xt (hR 0 s vs (by simp) (by simp)) (hR 1 x vx (by simp) (by simp)) ha hX
     |none=>
      rw[ha]at h6;cases hb:uU e te s x H nx with
      |some r=>
       rw[hb]at h6;cases h6;exact Ha (hG _ _ h1) h2 (hG _ _ h3) (hG _ _ h4) h5 tt hi xt (hR 0 s vs (by simp) (by simp)) (hR 1 x vx (by simp) (by simp)) hb
      |none=>
       rw[hb]at h6;exact H9 (hG _ _ h1) h2 (hG _ _ h3) (hG _ _ h4) h5 tt hi xt (hR 0 s vs (by simp) (by simp)) (hR 1 x vx (by simp) (by simp)) h6
    refine yp.val (u:=u) (w' :=w') ?_ g2;have q0:rI[0]? =some ts:=by rw[<- Array.getElem?_toList,XG];rfl
    have q1:rI[1]? =some tx:=by rw[<- Array.getElem?_toList,XG];rfl
    unfold Builtin.append_ at g1 |-;simp only[List.getElem?_toArray,List.getElem?_cons_zero,List.getElem?_cons_succ,q0,q1]at g1 |-;exact g1
   split at hr;rotate_left
   ·cases hr
   rename_i ti eJ h1 h2;split at hr
   ·rename_i e e' h3 h4;split at hr;rotate_left
    ·cases hr
    rename_i te h5;exact key h1 h3 h5 h2 (.inl ⟨_,h4⟩) hr hX
   ·rename_i e h3 h4;split at hr;rotate_left
    ·cases hr
    rename_i te h5;exact key h1 h3 h5 h2 (.inr h4) hr hX
   cases hr
 ·rename_i ts r s x XG
  match vs,hl with
  |[vs,vx],_=>
   split at hr;rotate_left
   ·cases hr
   rename_i ti h1;split at hr;rotate_left
   ·cases hr
   rename_i e0 h2;split at hr;rotate_left
   ·cases hr
   rename_i te h3;have q0:rI[0]? =some ts:=by rw[<- Array.getElem?_toList,XG];rfl
   obtain⟨u,w',g1,g2⟩:=A5 (hG _ _ h1) h2 (hG _ _ h3) q0 tt hi xt (hR 0 s vs (by simp) (by simp)) (hR 1 x vx (by simp) (by simp)) hr;exact yp.val (s:=Builtin.copy_ rI tt #[vs,vx]) g1 g2
 ·rename_i tm r m k XG
  match vs,hl with
  |[vm,vk],_=>
   split at hr;rotate_left
   ·cases hr
   rename_i ti h1;split at hr;rotate_left
   ·cases hr
   rename_i k0 e0 h2;split at hr;rotate_left
   ·cases hr
   rename_i tk h3;split at hr<;>cases hr;rename_i ws C1;have q0:rI[0]? =some tm:=by rw[<- Array.getElem?_toList,XG];rfl
   obtain⟨w',g1,g2⟩:=Ni (hG _ _ h1) h2 (hG _ _ h3) hi xt rI q0 tt (hR 0 m vm (by simp) (by simp)) (hR 1 k vk (by simp) (by simp)) C1;exact yp.val (s:=Builtin.delete_ rI tt #[vm,vk]) g1 g2
 cases hr
theorem aop_ok{G:GP}(hG:vL P G)(hi:qW w H ι Im){nx:Nat}{X:Nat->Prop}(xt:Bd X H nx)
  {a:Act} {E:vF} (hE: ∀t,RA w H ι Im (E.get t) (a.tmps.getD t undef)) (O:zS) (o:Oper) (sM:JR o.op=false) {e:bY} (hr:ni G O o.op E H nx=some e) (hX: ∀γ,X γ->e.2.2<=γ):
  yp X ((execOp a.eval o).run P w) w H ι Im nx e:=by
 have bM:=fun x=>oX hE x;unfold execOp;generalize o.type=TN;generalize o.op=op at hr sM;unfold ni at hr;split at hr
 case h_1 x=>cases hr;exact yp.now (mG.pure hi xt (bM x))
 case h_2 x=>cases hr;exact yp.now (mG.pure hi xt (bM x))
 case h_3 c x y=>
  split at hr<;>cases hr;rename_i t hc;have h:=bM c;rw[hc]at h;have h:=h.uB;generalize hv:a.eval c=vc at h;cases h;refine⟨if t then a.eval x else a.eval y,w,.inl (by simp[hv,asBool]),mG.pure hi xt ?_⟩;cases t
  ·exact bM y
  exact bM x
 case h_4 t=>
  split at hr;rotate_left
  ·cases hr
  rename_i ti i6;split at hr
  ·obtain⟨u,w',h1,h2⟩:=Nc (hG _ _ i6) hi xt hr hX;exact yp.val h1 h2
  cases hr;obtain⟨u,w',h1,h2⟩:=S2 (hG _ _ i6) hi xt (sR hX);exact yp.val h1 h2
 case h_5 t x=>simp[JR]at sM
 case h_6 t parts=>
  split at hr;rotate_left
  ·cases hr
  rename_i ti i6;unfold gf at hr;split at hr<;>cases hr;rename_i v hv;obtain⟨u,h1,h2⟩:=S3 hG (hG _ _ i6) hE parts hv;exact yp.val h1 (mG.pure hi xt h2)
 case h_7 t len parts=>
  split at hr;rotate_left
  ·cases hr
  rename_i ti i6;split at hr;rotate_left
  ·cases hr
  rename_i el xr;split at hr;rotate_left
  ·cases hr
  rename_i te rD;split at hr;rotate_left
  ·cases hr
  rename_i hc;split at hr
  ·split at hr<;>cases hr;rename_i es rR;obtain⟨u,w',h1,h2⟩:=X9 hG (hG _ _ i6) xr rD hi xt (sR hX) hE len parts hc.1 hc.2 rR;exact yp.val h1 h2
  split at hr<;>cases hr;rename_i es rR;obtain⟨u,w',h1,h2⟩:=J0 hG (hG _ _ i6) xr rD hi xt (sR hX) hE len parts hc.1 hc.2 rR;exact yp.val h1 h2
 case h_8 t x=>
  split at hr;rotate_left
  ·cases hr
  rename_i ti i6;unfold gf at hr;split at hr<;>cases hr;rename_i v hv;obtain⟨u,h1,h2⟩:=Hm (hG _ _ i6) hi (bM x) hv;exact yp.val h1 (mG.pure hi xt h2)
 case h_9 t x y=>
  split at hr;rotate_left
  ·cases hr
  rename_i ti i6;unfold nf at hr;split at hr<;>cases hr;rename_i ws C1;obtain⟨w',ι',h1,h2,h3,β,b,b',rfl,hb⟩:=S9 (hG _ _ i6) hi (bM x) (bM y) C1;exact yp.skip h1 (mG.puts xt hb h2 h3)
 case h_10 x=>
  split at hr<;>cases hr;all_goals
   rename_i hx;have h:=bM x;rw[hx]at h;generalize hv:a.eval x=vx at h;refine⟨vx,w,.inl ?_,mG.pure hi xt h⟩
  ·cases h;simp[hv]
  ·cases h;simp[hv]
  ·have h:=h.uB;cases h;simp[hv]
  ·cases h;simp[hv]
  ·have h:=h.uB;cases h;simp[hv]
  cases h;simp[hv]
 case h_11 op t x y yt=>
  split at hr;rotate_left
  ·cases hr
  rename_i ti i6;unfold ZY at hr;split at hr<;>cases hr;rename_i p hp;obtain⟨u,h1,h2,h3⟩:=aBin_ok hG (hG _ _ i6) hi (bM x) (bM y) op x y hp;exact yp.val (s:=do eqGuard op t x y (a.eval x) (a.eval y);binOp op t (a.eval x) (a.eval y)) (by simp[h1,h2]) (mG.pure hi xt (.pv _ _ h3))
 case h_12 op t x=>
  unfold ZY at hr;split at hr<;>cases hr;rename_i p hp;obtain⟨u,h1,h2⟩:=aUn_ok (P:=P) (bM x) hp;exact yp.val h1 (mG.pure hi xt (.pv _ _ h2))
 case h_13 s d x=>
  split at hr
  ·rename_i hsd;subst hsd;obtain⟨u,w',h1,h2⟩:=Y2 hG hi xt (bM x) hr;exact yp.val h1 h2
  split at hr;rotate_left
  ·cases hr
  rename_i ts td Qj xr;obtain⟨u,w',h1,h2⟩:=Hf hG (hG _ _ Qj) (hG _ _ xr) hi xt (bM x) hr hX;exact yp.val h1 h2
 case h_14 f x y=>
  cases hr;refine yp.val (s:=Instr.makeFunc (.func f) (x.map a.eval) (y.map a.eval)) (w' :=w) rfl (mG.pure hi xt ?_);have listR: ∀(l:List Operand)(i:Nat) z v,(l.map (ev E))[i]? =some z->(l.map a.eval)[i]? =some v->RA w H ι Im z v:=by
   intro l i z v h1 h2;simp only[List.getElem?_map,yi]at h1 h2;obtain⟨o1,q1,rfl⟩:=h1;obtain⟨o2,q2,rfl⟩:=h2;rw[q1]at q2;cases q2;exact bM o1
  have hx:x.map a.eval=⟨x.toList.map a.eval⟩:=by apply Array.ext'; simp
  have hy:y.map a.eval=⟨y.toList.map a.eval⟩:=by apply Array.ext'; simp
  rw[hx,hy];split
  ·rename_i h1 h2;rw[h1,h2];exact .pv _ _ (.fn f)
  exact .lp f _ _ _ _ (by simp) (by simp) (listR _) (listR _)
 case h_15 t=>
  cases hr;obtain⟨u,w',h1,h2⟩:=Ho (P:=P) t hi xt (sR hX);exact yp.val h1 h2
 case h_16 t x lo vq mx=>
  split at hr;rotate_left
  ·cases hr
  rename_i ti i6;unfold gf at hr;split at hr<;>cases hr;rename_i v hv;obtain⟨u,h1,h2⟩:=S8 hG (hG _ _ i6) hi hE (bM x) lo vq mx hv;exact yp.val h1 (mG.pure hi xt h2)
 case h_17 t x f=>
  split at hr;rotate_left
  ·cases hr
  rename_i ti i6;unfold gf at hr;split at hr<;>cases hr;rename_i v hv;obtain⟨u,h1,h2⟩:=KU (hG _ _ i6) (bM x) hv;exact yp.val h1 (mG.pure hi xt h2)
 case h_18 t x f=>
  split at hr;rotate_left
  ·cases hr
  rename_i ti i6;split at hr;rotate_left
  ·cases hr
  rename_i fs xr;split at hr;rotate_left
  ·cases hr
  rename_i off sz tf hf;split at hr;rotate_left
  ·cases hr
  rename_i fM Em;unfold gf at hr;split at hr<;>cases hr;rename_i v hv;obtain⟨fields,hu,rfl⟩:=(hG _ _ i6).struct xr;simp only[List.getElem?_map,yi]at hf;obtain⟨fd,hf,hfe⟩:=hf;simp only[Prod.mk.injEq]at hfe;obtain⟨rfl,rfl,rfl⟩:=hfe;have hfa:fields[f]? =some fd:=by rw[<- hf];simp
  obtain⟨cs,u,h0,h1,h2⟩:=Hq (hG _ _ Em) (bM x) hv;refine yp.val (s:=Instr.field t (a.eval x) f) (u:=u) (w' :=w) ?_ (mG.pure hi xt h2);unfold Instr.field;simp only[ji,qv hu,gm,hfa,h0,asAgg,Sem.run_pure,h1]
 case h_19 t x i=>
  split at hr;rotate_left
  ·cases hr
  rename_i ti i6;unfold gf at hr;split at hr<;>cases hr;rename_i v hv;obtain⟨u,h1,h2⟩:=KV hG (hG _ _ i6) hi (bM x) (bM i) hv;exact yp.val h1 (mG.pure hi xt h2)
 case h_20 t x i=>
  split at hr;rotate_left
  ·cases hr
  rename_i ti i6;split at hr
  ·rename_i s k xr hx hk;split at hr<;>cases hr;rename_i b hb;obtain⟨kd,QM⟩:=Qt (bM i) hk;have h:=bM x;rw[hx]at h;have h:=h.uB;generalize hv:a.eval x=vx at h;cases h;refine yp.val (s:=Instr.index t (a.eval x) (a.eval i)) (u:= .int .u8 b.toNat) (w' :=w) ?_ (mG.pure hi xt (.pv _ _ (.int _ _)));have hbb:(ByteArray.mk ⟨s⟩)[k]? =some b:=by
    obtain⟨xB,he⟩:=qF hb;have:k<(ByteArray.mk ⟨s⟩).size:=xB;rw[getElem?_pos (ByteArray.mk ⟨s⟩) k this];exact congrArg some he
   unfold Instr.index;simp[hv,QM,asIntOf,qv ((hG _ _ i6).string xr),hbb]
  ·rename_i len el k xr hk;split at hr;rotate_left
   ·cases hr
   rename_i mE;split at hr;rotate_left
   ·cases hr
   rename_i te rD;unfold gf at hr;split at hr<;>cases hr;rename_i r hrr;obtain⟨kd,QM⟩:=Qt (bM i) hk;obtain⟨cs,u,h0,h1,h2⟩:=Hq (hG _ _ rD) (bM x) hrr;refine yp.val (s:=Instr.index t (a.eval x) (a.eval i)) (u:=u) (w' :=w) ?_ (mG.pure hi xt h2);unfold Instr.index;simp[QM,asIntOf,qv ((hG _ _ i6).array xr),mE,(hG _ _ rD).size,h0,h1]
  cases hr
 case h_21 t m k ok=>
  split at hr;rotate_left
  ·cases hr
  rename_i tk te hmt;unfold gf at hr;split at hr<;>cases hr;rename_i v hv;obtain⟨ti,k0,e0,q1,q2,q3,q4⟩:=rW hmt;split at hv
  ·obtain⟨u,h1,h2⟩:=Hn (hG _ _ q1) q2 (hG _ _ q3) (hG _ _ q4) hi (bM m) (bM k) hv;exact yp.val h1 (mG.pure hi xt h2)
  obtain⟨u,h1,h2⟩:=Nl (hG _ _ q1) q2 (hG _ _ q3) (hG _ _ q4) hi (bM m) (bM k) hv;exact yp.val h1 (mG.pure hi xt h2)
 case h_22 t m k x=>
  split at hr
  ·unfold ik at hr;split at hr;rotate_left
   ·cases hr
   rename_i tk te hmt;split at hr;rotate_left
   ·cases hr
   unfold nf at hr;split at hr<;>cases hr;rename_i ws C1;obtain⟨ti,k0,e0,q1,q2,q3,q4⟩:=rW hmt;obtain⟨w',h1,h2⟩:=Hr (hG _ _ q1) q2 (hG _ _ q3) hi xt (bM m) (bM k) (bM x) C1;exact yp.skip h1 h2
  split at hr;rotate_left
  ·cases hr
  rename_i tk te p hmt hp;split at hr;rotate_left
  ·cases hr
  unfold nf at hr;split at hr<;>cases hr;rename_i ws C1;obtain⟨ti,k0,e0,q1,q2,q3,q4⟩:=rW hmt;obtain⟨w',h1,h2⟩:=J9 (hG _ _ q1) q2 (hG _ _ q3) hi xt (bM m) (bM k) (Qz (bM x) hp) C1;exact yp.skip h1 h2
 case h_23 t m k x=>
  split at hr;rotate_left
  ·cases hr
  rename_i tk te p hmt hp;split at hr;rotate_left
  ·cases hr
  unfold nf at hr;split at hr<;>cases hr;rename_i ws C1;obtain⟨ti,k0,e0,q1,q2,q3,q4⟩:=rW hmt;obtain⟨w',h1,h2⟩:=J9 (hG _ _ q1) q2 (hG _ _ q3) hi xt (bM m) (bM k) (Qz (bM x) hp) C1;exact yp.skip h1 h2
 case h_24 t m k=>
  split at hr;rotate_left
  ·cases hr
  rename_i tk te hmt;split at hr<;>cases hr;rename_i v ws C1;obtain⟨ti,k0,e0,q1,q2,q3,q4⟩:=rW hmt;obtain⟨u,w',h1,h2⟩:=S5 (hG _ _ q1) q2 (hG _ _ q3) (hG _ _ q4) hi xt (bM m) (bM k) C1;exact yp.val h1 h2
 case h_25 t m st x=>
  split at hr;rotate_left
  ·cases hr
  rename_i p hp;unfold nf at hr;split at hr<;>cases hr;rename_i ws C1;obtain⟨w',h1,h2⟩:=J4 (P:=P) t hi xt (bM m) (bM st) (Qz (bM x) hp) C1;exact yp.skip h1 h2
 case h_26 x i=>
  split at hr;rotate_left
  ·cases hr
  rename_i l hl;split at hr<;>cases hr;rename_i v hv;have h:=bM x;rw[hl]at h;generalize hvx:a.eval x=vx at h;cases h with
  |xS _ vs hlen hR=>
   obtain⟨u,hu⟩: ∃u,vs[i]? =some u:=⟨vs[i]'(by rw[<- hlen];exact(qF hv).1),by simp⟩;refine⟨u,w,.inl ?_,mG.pure hi xt (hR i v u hv hu)⟩;have:(⟨vs⟩:Array Value)[i]? =some u:=by simpa using hu
   simp[hvx,Instr.extract,this]
 case h_27 b args rI=>
  have JL:(do let d <-resolve a.eval { callee:= .builtin b,args:=args,argTypes:=rI } TN;invoke d.target d.args:Sem Next).run P w=
    (builtin b rI TN (args.map fun| .const _=>true|_=>false) ⟨args.toList.map a.eval⟩).run P w:=by
   have:args.map a.eval=⟨args.toList.map a.eval⟩:=by apply Array.ext'; simp
   simp only[resolve,ji,Sem.run_pure,gm,invoke,this];rfl
  show yp X ((do let d <-resolve a.eval { callee:= .builtin b,args:=args,argTypes:=rI } TN;invoke d.target d.args:Sem Next).run P w) w H ι Im nx e;rw[JL];exact He hG hi xt b rI TN _ (by simp) (TA hE args.toList) hr hX
 case h_28=>simp[JR]at sM
 case h_29 t x y=>
  split at hr;rotate_left
  ·cases hr
  rename_i ti i6;have hX' : ∀γ,X γ->nx+1<=γ:=by
   unfold tN at hr;split at hr;rotate_left
   ·cases hr
   split at hr;rotate_left
   ·cases hr
   split at hr<;>cases hr;exact hX
  obtain⟨u,w',h1,h2⟩:=KX hG (hG _ _ i6) hi xt hX' (bM x) (bM y) hr;exact yp.val h1 h2
 case h_30=>cases hr
end
section
variable [zN] {P:Program} {w:World} {H:qn} {ι:vG} {Im:Nat->Prop}
theorem aQ(β:Nat)(qq:Bool)(sz:Nat)(es:List (List PV)): ∀(l:List AV)(i:Nat),(AV.vJ.pz β qq sz es l)[i]? =(l[i]?).map (AV.vJ β qq sz es)
 |[],i=>by simp[AV.vJ.pz]
 |x::r,i=>by
  cases i with
  |zero=>simp[AV.vJ.pz]
  |succ i=>simp[AV.vJ.pz,aQ β qq sz es r i]
theorem ov(β:Nat)(qq:Bool)(sz:Nat)(es:List (List PV)): ∀(l:List AV),(AV.vJ.pz β qq sz es l).length=l.length
 |[]=>rfl
 |x::r=>by simp[AV.vJ.pz,ov β qq sz es r]
theorem Dp(β:Nat)(qq:Bool)(sz:Nat)(es:List (List PV)){x:AV}(h:x.kv=true):(x.vJ β qq sz es).kv=true:=by
 cases x<;>simp[AV.kv]at h<;>simp only[AV.vJ];all_goals first|exact h|rfl|(split<;>rfl)
theorem lN(β:Nat)(qq:Bool)(sz:Nat)(es:List (List PV)){l:List AV}(h: ∀x∈l,x.kv=true): ∀x∈AV.vJ.pz β qq sz es l,x.kv=true:=by
 intro x hx;obtain⟨i,hi⟩:=jz hx;rw[aQ]at hi;simp only[yi]at hi;obtain⟨y,hy,rfl⟩:=hi;exact Dp β qq sz es (h y (qX hy))
theorem ZJ(β:Nat)(qq:Bool)(sz:Nat)(es:List (List PV)): ∀(H:qn)(γ:Nat),
  qn.get (H.map fun(i,b)=>(i,b.vJ β qq sz es)) γ=(H.get γ).map (qC.vJ β qq sz es)
 |[],γ=>rfl
 |(i,b)::r,γ=>by
  simp only[List.map_cons,qn.get];split
  ·rfl
  exact ZJ β qq sz es r γ
theorem qC.Dr(β:Nat)(qq:Bool)(sz:Nat)(es:List (List PV))(b:qC):(b.vJ β qq sz es).used=b.used:=by
 cases b<;>rfl
def yr(β:Nat)(qq:Bool)(sz:Nat)(es:List (List PV))(H:qn):qn:=qn.put (H.map fun(i,b)=>(i,b.vJ β qq sz es)) β .xf
theorem jJ(β:Nat)(qq:Bool)(sz:Nat)(es:List (List PV))(H:qn)(γ:Nat):
  (yr β qq sz es H).get γ=if γ=β then some .xf else(H.get γ).map (qC.vJ β qq sz es):=by
 unfold yr;rw[qn.qZ,ZJ]
def bB(ι:vG)(β:Nat)(qq:Bool)(Im:Nat->Prop):Nat->Prop:=fun b=>Im b\/(qq=false/\b=(ι β).b)
theorem Oo(hi:qW w H ι Im){β:Nat}{qq:Bool}{sz:Nat}{es:List (List PV)}(hb:H.get β=some (.row qq sz es)){off n:Nat}{v:Value}
  (h1:off+n<=es.length) (h2:if qq=true then v= .slice none 0 0 else ∃a,v= .slice (some a) n ((ι β).cap-off)/\a.spot=none/\a.block=(ι β).b/\(off<(ι β).cap->a.off=off*sz)):
  RP w (bB ι β qq Im) (Cf qq sz ((es.drop off).take n)) v:=by
 refine RP.mk ?_;cases qq
 ·simp only[w9,if_false]at h2;obtain⟨a,rfl,fR,dR,eX⟩:=h2;obtain⟨ab,ao,T5⟩:=a;simp only at fR dR eX;subst fR dR;obtain⟨vs,elem,fz,g1,g2,g3,g4,g5,g6,g7,g8⟩:=hi.row hb;have hlen:((es.drop off).take n).length=n:=by simp;omega
  have mq: ∀(i:Nat) e,((es.drop off).take n)[i]? =some e->i<n/\es[off+i]? =some e:=by
   intro i e W7;have:=(qF W7).1;have sE:i<n:=by omega
   rw[List.getElem?_take_of_lt sE,List.getElem?_drop]at W7;exact⟨sE,W7⟩
  have hm: ∀b,Im b->bB ι β false Im b:=fun b h=> .inl h;have key:=RP.sl (w:=w) (Im:=bB ι β false Im) sz ((es.drop off).take n) (ι β).b ao ((ι β).cap-off) (fun i=>(vs[off*sz+i]?).getD undef)
   (fun _=> .inr ⟨rfl,rfl⟩) (by omega) (fun e he=>g6 e (List.mem_of_mem_drop (List.mem_of_mem_take he))) (fun i xB=>by
    rw[hlen]at xB
    have hn:0<n:=by
     rcases Nat.eq_zero_or_pos n with h|h
     ·subst h;simp at xB
     exact h
    have:=eX (by omega)
    subst this
    rw[ux g1]
    have e1:(off+n)*sz<=(ι β).cap*sz:=mulR _ (by omega)
    rw[Nat.add_mul]at e1
    have:off*sz+i<vs.size:=by omega
    simp[this])
   (fun i e j p q1 q2=>g7 _ e j p (mq i e q1).2 q2) (fun i e j p q1 q2=>by
    obtain⟨_,W7⟩:=mq i e q1
    obtain⟨v,k1,k2⟩:=g8 _ e j p W7 q2
    have e1:off*sz+(i*sz+j)=(off+i)*sz+j:=by rw[Nat.add_mul];omega
    simp only[e1,k1,Option.getD_some]
    exact k2.mono hm fun _ _=>rfl) none (fun _=>rfl)
  rw[hlen]at key;exact key
 simp only[if_true]at h2;subst h2;have rR:es=[]:=hi.mW β _ hb;subst rR;have:(([]:List (List PV)).drop off).take n=[]:=by simp
 rw[this];exact .cJ sz
theorem fm(β:Nat)(qq:Bool)(sz:Nat)(es:List (List PV))(b:qC):(b.vJ β qq sz es).sh=b.sh:=by
 cases b<;>simp[qC.vJ,qC.sh]
theorem Dq{β:Nat}{qq:Bool}{sz:Nat}{es:List (List PV)}(hb:H.get β=some (.row qq sz es)){β' zF off n:Nat}{v:Value}(hx:RA w H ι Im (.row β' zF off n) v):
  RA w (yr β qq sz es H) ι (bB ι β qq Im) (.row β' zF off n) v:=by
 cases hx with
 |row _ _ _ _ _ b ho xQ hk hv h=>
 by_cases he:β' =β
 ·subst he;exact .row β' zF off n v .xf ho (by simp[jJ]) (fun h=>absurd rfl h) (fun _ _ _ e=>by cases e) (fun _ _ _ e=>by cases e)
 refine .row β' zF off n v (b.vJ β qq sz es) ho (by simp[jJ,he,xQ]) (fun h=>?_) (fun pL PA eg e=>?_) (fun pL PA eg e=>?_)
 ·rw[fm];exact hk (fun e=>h (by rw[e];rfl))
 ·rw[fm]at e;exact hv _ _ _ e
 rw[fm]at e;exact h _ _ _ e
theorem XS(hi:qW w H ι Im){β:Nat}{qq:Bool}{sz:Nat}{es:List (List PV)}(hb:H.get β=some (.row qq sz es)){x:AV}{v:Value}(hx:RA w H ι Im x v):
  RA w (yr β qq sz es H) ι (bB ι β qq Im) (x.vJ β qq sz es) v:=by
 have hm: ∀b,Im b->bB ι β qq Im b:=fun b h=> .inl h;have hw: ∀b,Im b->w.heap[b]? =w.heap[b]? :=fun _ _=>rfl;have rowStay: ∀(β' zF off n:Nat)(v:Value)(b:qC),rY v=true->H.get β' =some b->(b≠ .xf-> ∃qq sz l,b.sh=some (qq,sz,l))->(∀ qq sz l,b.sh=some (qq,sz,l)->zF<=l)->
   (∀ qq sz l,b.sh=some (qq,sz,l)->zF=l->off+n<=l/\
    if qq=true then v= .slice none 0 0
    else ∃a,v= .slice (some a) n ((ι β').cap-off)/\a.spot=none/\a.block=(ι β').b/\(off<(ι β').cap->a.off=off*sz))->
   RA w (yr β qq sz es H) ι (bB ι β qq Im) (.row β' zF off n) v:=by
  intro β' zF off n v b ho xQ hk hv h;by_cases he:β' =β
  ·subst he;exact .row β' zF off n v .xf ho (by simp[jJ]) (fun h=>absurd rfl h) (fun _ _ _ e=>by cases e) (fun _ _ _ e=>by cases e)
  refine .row β' zF off n v (b.vJ β qq sz es) ho (by simp[jJ,he,xQ]) (fun h=>?_) (fun pL PA eg e=>?_) (fun pL PA eg e=>?_)
  ·rw[fm];exact hk (fun e=>h (by rw[e];rfl))
  ·rw[fm]at e;exact hv _ _ _ e
  rw[fm]at e;exact h _ _ _ e
 have tL: ∀(c:List AV)(vs:List Value),c.length=vs.length->(∀(i:Nat) x v,c[i]? =some x->vs[i]? =some v->RA w (yr β qq sz es H) ι (bB ι β qq Im) (x.vJ β qq sz es) v)->
   (AV.vJ.pz β qq sz es c).length=vs.length/\ ∀(i:Nat) x v,(AV.vJ.pz β qq sz es c)[i]? =some x->vs[i]? =some v->RA w (yr β qq sz es H) ι (bB ι β qq Im) x v:=by
  intro c vs hl h;refine⟨by rw[ov,hl],fun i x v h1 h2=>?_⟩;rw[aQ]at h1;simp only[yi]at h1;obtain⟨y,hy,rfl⟩:=h1;exact h i y v hy h2
 induction hx with
 |undef v=>exact .undef v
 |pv p v h=>exact .pv p v (h.mono hm hw)
 |ptr β' o b' xQ hk=>
  have jv:β' ≠β:=by intro e;subst e;rw[hb]at xQ;cases xQ;cases hk
  exact .ptr β' o (b'.vJ β qq sz es) (by simp[jJ,jv,xQ]) (by cases b' <;>first|rfl|cases hk)
 |yT β' zF i o b1 o1 b xQ xU h=>
  by_cases he:β' =β
  ·subst he;exact .yT β' zF i o b1 o1 .xf (by simp[jJ]) (fun _ _ _ e=>by cases e) (fun _ _ _ e=>by cases e)
  refine .yT β' zF i o b1 o1 (b.vJ β qq sz es) (by simp[jJ,he,xQ]) (fun pL PA eg e=>?_) (fun pL PA eg e=>?_)
  ·rw[fm]at e;exact xU _ _ _ e
  rw[fm]at e;exact h _ _ _ e
 |row β' zF off n v b ho xQ hk xU h=>
  simp only[AV.vJ];split
  ·rename_i hc;obtain⟨rfl,hv⟩:=hc;rw[hb]at xQ;cases xQ;obtain⟨h1,h2⟩:=h _ _ _ rfl hv;exact .pv _ _ (Oo hi hb h1 h2)
  exact rowStay β' zF off n v b ho xQ hk xU h
 |mR c o b off vs oI hc hf h=>exact .mR c o b off vs (hm b oI) hc hf fun i p hp=>(h i p hp).mono hm hw
 |aT a=>exact .aT a
 |map β' eg zI xQ=>
  have jv:β' ≠β:=by intro e;subst e;rw[hb]at xQ;cases xQ
  exact .map β' eg zI (by simp[jJ,jv,xQ,qC.vJ])
 |lp f a b va vb W8 Ti _ _ iha ihb=>
  obtain⟨q1,q2⟩:=tL a va W8 iha;obtain⟨q3,q4⟩:=tL b vb Ti ihb;exact .lp f _ _ va vb q1 q3 q2 q4
 |agg c vs hl hf _ ih=>
  obtain⟨q1,q2⟩:=tL c vs hl ih;exact iN q1 (lN β qq sz es hf) q2
 |xS c vs hl _ ih=>
  obtain⟨q1,q2⟩:=tL c vs hl ih;exact .xS _ vs q1 q2
theorem qC.L3(β:Nat)(qq:Bool)(sz:Nat)(es:List (List PV))(b:qC):(b.vJ β qq sz es).Tt=b.Tt:=by
 cases b<;>rfl
theorem qC.oz{β:Nat}{qq:Bool}{sz:Nat}{es:List (List PV)}{b:qC}{q:Pl}{x:Nat}(h:(b.vJ β qq sz es).vn q x):b.vn q x:=by
 unfold qC.vn at*
 rw[qC.Dr,qC.L3]at h;exact h
theorem WR(hi:qW w H ι Im){β:Nat}{qq:Bool}{sz:Nat}{es:List (List PV)}(hb:H.get β=some (.row qq sz es)):
  qW w (yr β qq sz es H) ι (bB ι β qq Im)/\w8 w H ι Im w (yr β qq sz es H) ι (bB ι β qq Im):=by
 have hm: ∀b,Im b->bB ι β qq Im b:=fun b h=> .inl h;have hw: ∀b,Im b->w.heap[b]? =w.heap[b]? :=fun _ _=>rfl;have To:qq=false->(qC.row qq sz es).used=true:=fun h=>by simp[qC.used,h]
 refine⟨⟨fun γ b hγ=>?_,fun γ γ' b b' z h1 h2 u1 u2=>?_,fun b h=>?_,fun γ b z hγ hu h=>?_,hi.HY,fun b hb=> .inl (hi.W4 b hb)⟩,⟨fun γ b hγ=>?_,hm,fun b h=>?_,fun γ x z hγ hu=>?_,fun _ _ _=>rfl,xJ _,rfl,rfl⟩⟩
 ·rw[jJ]at hγ;split at hγ
  ·cases hγ;trivial
  simp only[yi]at hγ;obtain⟨b0,ZK,rfl⟩:=hγ;have h0:=hi.mW γ b0 ZK;cases b0 with
  |box c=>
   obtain⟨vs,elem,fz,q1,q2,q3,q4,q5⟩:=h0;refine⟨vs,elem,fz,q1,q2,by rw[ov,q3],lN β qq sz es q4,fun i x v a b=>?_⟩;rw[aQ]at a;simp only[yi]at a;obtain⟨y,hy,rfl⟩:=a;exact XS hi hb (q5 i y v hy b)
  |row pL PA eg=>
   cases pL with
   |true=>exact h0
   |false=>
    obtain⟨vs,elem,fz,q1,q2,q3,q4,q5,q6,q7,q8⟩:=h0;refine⟨vs,elem,fz,q1,q2,q3,q4,q5,q6,q7,fun i e j p a b=>?_⟩;obtain⟨v,k1,k2⟩:=q8 i e j p a b;exact⟨v,k1,k2.mono hm hw⟩
  |map eg zI=>
   obtain⟨zO,q1,q2,q3⟩:=h0;refine⟨zO,q1,q2,fun i k x born e a b=>?_⟩;obtain⟨k1,k2,k3⟩:=q3 i k x born e a b;exact⟨k1.mono hm hw,k2.mono hm hw,k3⟩
  |yq PA eg=>
   obtain⟨vs,elem,fz,q1,q2,q3,q4,q5,q6,q7,q8⟩:=h0;have get: ∀(i:Nat) e(j:Nat) x,(eg.map (AV.vJ.pz β qq sz es))[i]? =some e->e[j]? =some x-> ∃e0 y,eg[i]? =some e0/\e0[j]? =some y/\x=y.vJ β qq sz es/\e=AV.vJ.pz β qq sz es e0:=by
    intro i e j x h1 h2;rw[List.getElem?_map,yi]at h1;obtain⟨e0,h1,rfl⟩:=h1;rw[aQ,yi]at h2;obtain⟨y,h2,rfl⟩:=h2;exact⟨e0,y,h1,h2,rfl,rfl⟩
   refine⟨vs,elem,fz,q1,q2,q3,q4,by simpa using q5,fun e he=>?_,fun i e j x a b=>?_,fun i e j x a b=>?_⟩
   ·obtain⟨e0,h0,rfl⟩:=List.mem_map.1 he;rw[ov];exact q6 e0 h0
   ·obtain⟨e0,y,h1,h2,rfl,rfl⟩:=get i e j x a b;have hf: ∀x∈e0,x.kv=true:=fun x hx=>by
     obtain⟨j',NX⟩:=jz hx;exact q7 i e0 j' x h1 NX
    exact lN β qq sz es hf _ (qX b)
   obtain⟨e0,y,h1,h2,rfl,rfl⟩:=get i e j x a b;obtain⟨v,k1,k2⟩:=q8 i e0 j y h1 h2;exact⟨v,k1,XS hi hb k2⟩
  |jI pL T6 eg i5=>
   cases pL with
   |true=>exact h0
   |false=>
    obtain⟨vs,elem,fz,q1,q2,q3,q4,q5,q6,q7,q8,q9⟩:=h0;refine⟨vs,elem,fz,q1,q2,q3,q4,q5,q6,q7,q8,fun i p k a b=>?_⟩;obtain⟨v,k1,k2,k3⟩:=q9 i p k a b;exact⟨v,k1,fun hj=>(k2 hj).mono hm hw fun _ _=>rfl,fun γ zF hf=>⟨(k3 γ zF hf).1,Dq hb (k3 γ zF hf).2⟩⟩
  |xf=>trivial
 ·rw[jJ]at h1 h2;split at h1
  ·cases h1;cases u1.1
  split at h2
  ·cases h2;cases u2.1
  simp only[yi]at h1 h2;obtain⟨b0,ZK,rfl⟩:=h1;obtain⟨b1,Yo,rfl⟩:=h2;exact hi.inj γ γ' b0 b1 z ZK Yo (qC.oz u1) (qC.oz u2)
 ·rcases h with h|⟨hn,rfl⟩
  ·exact hi.im b h
  exact(hi.mW β _ hb).lt (To hn)
 ·rw[jJ]at hγ;split at hγ
  ·cases hγ;cases hu.1
  rename_i jv;simp only[yi]at hγ;obtain⟨b0,ZK,rfl⟩:=hγ;have hu:=qC.oz hu;rcases h with h|⟨hn,h⟩
  ·exact hi.KH γ b0 z ZK hu h
  exact jv (hi.inj γ β b0 _ z ZK hb hu ⟨To hn,.inl h⟩)
 ·by_cases he:γ=β
  ·subst he;rw[hb]at hγ;cases hγ;exact⟨.xf,by simp[jJ],rfl⟩
  refine⟨b.vJ β qq sz es,by simp[jJ,he,hγ], ?_⟩;cases b<;>simp[qC.vJ,xi,qC.sh,Pl.ka]
 ·rcases h with h|⟨hn,rfl⟩
  ·exact .inl h
  exact .inr (.inr ⟨β,_,hb,To hn,.inl rfl⟩)
 rw[jJ]at hγ;split at hγ
 ·cases hγ;cases hu.1
 simp only[yi]at hγ;obtain⟨b0,ZK,rfl⟩:=hγ;exact .inr ⟨γ,b0,ZK,qC.oz hu⟩
structure Inv (w:World) (a:Act) (s:St) (ι:vG) (Im:Nat->Prop) (nt:Nat):Prop where
 heap:qW w s.heap ι Im
 env: ∀t,RA w s.heap ι Im (s.env.get t) (a.tmps.getD t undef)
 nx: ∀β b,s.heap.get β=some b->β<s.nx
 size:nt<=a.tmps.size
 defers:a.defers=[]
theorem ly(f:AV->AV)(hf:f .undef= .undef): ∀(E:vF)(t:Nat),vF.get (E.map fun(t,v)=>(t,f v)) t=f (E.get t)
 |[],t=>by simp[vF.get,hf]
 |(i,v)::r,t=>by
  simp only[List.map_cons,vF.get];split
  ·rfl
  exact ly f hf r t
theorem dP{α:Type}{d:Nat}: ∀(es:List (List α))(i:Nat),(∀ e∈es,e.length=d)-> ∀e(j:Nat) p,es[i]? =some e->e[j]? =some p->es.flatten[i*d+j]? =some p
 |[],i,_,e,j,p,h,_=>by simp at h
 |x::r,0,hl,e,j,p,h,hj=>by
  simp at h;subst h;have:=(qF hj).1;rw[Nat.zero_mul,Nat.zero_add,List.flatten_cons,List.getElem?_append_left this];exact hj
 |x::r,i+1,hl,e,j,p,h,hj=>by
  have hx:=hl x (by simp);rw[List.flatten_cons,List.getElem?_append_right (by rw[hx,Nat.succ_mul];omega),hx];have ih:=dP r i (fun e he=>hl e (by simp[he])) e j p (by simpa using h) hj;rw[show (i+1)*d+j-d=i*d+j by rw[Nat.succ_mul];omega];exact ih
theorem eW.kv{ds:List Nat}{p:PV}{v:Value}{k:Sk}(h:eW w Im ds p v k):p.kv=true:=by
 cases h with
 |Kk p v hs h=>cases p<;>first|rfl|cases hs
 |nil=>rfl
 |sl=>rfl
theorem eW.pure{jA:Nat->Prop}(hm: ∀b,Im b->jA b){ds:List Nat}{p:PV}{v:Value}{k:Sk}(h:eW w Im ds p v k):(∀ x∈k.blocks,jA x)->RP w jA p v:=by
 induction h with
 |Kk p v hs h=>exact fun _=>h.mono hm fun _ _=>rfl
 |nil d ds=>exact fun _=> .cJ 0
 |sl d ds es b o cap ks vs elem fz hb hfz DP hd hle ho rR G3 val Xn hh ih=>
  intro hk;have hszc:es≠[]->zC d es=d:=fun h=>by cases es with|nil=>exact absurd rfl h|cons _ _=>rfl
  have Z5: ∀(i:Nat) e(j:Nat) p,es[i]? =some e->e[j]? =some p->es.flatten[i*d+j]? =some p:=fun i e j p h1 h2=>dP es i rR e j p h1 h2;have jv: ∀{i:Nat}{e:List PV},es[i]? =some e->es≠[]:=fun h he=>by rw[he]at h;cases h
  have W5: ∀(i:Nat) e(j:Nat) p,es[i]? =some e->e[j]? =some p-> ∃k,ks[i*d+j]? =some k/\eW w Im ds p (val (i*d+j)) k/\RP w jA p (val (i*d+j)):=fun i e j p h1 h2=>by
   have h3:=Z5 i e j p h1 h2;have h4:=(qF h3).1;obtain⟨k,QM⟩: ∃k,ks[i*d+j]? =some k:=⟨ks[i*d+j]'(by omega),by simp⟩;exact⟨k,QM,hh _ p k h3 QM,ih _ p k h3 QM fun x hx=>hk x (by
    simp only[Sk.blocks,List.mem_cons,List.mem_flatMap]
    exact .inr ⟨k,qX QM,hx⟩)⟩
  refine .sl (zC d es) es b o cap val (fun _=>hk b (by simp[Sk.blocks])) hle (fun e he=>?_) (fun i xB=>?_) (fun i e j p h1 h2=>?_) (fun i e j p h1 h2=>?_) none (fun _=>rfl)
  ·rw[hszc (List.ne_nil_of_mem he)];exact rR e he
  ·have hn:es≠[]:=fun he=>by subst he;simp at xB
   rw[hszc hn]at xB;have bU:=List.length_pos_iff.2 hn;rw[ho (by omega),Nat.zero_add,ux hb];have hfll:es.flatten.length=es.length*d:=by
    clear Z5 W5 jv hszc hh ih hk Xn G3 hle hn bU xB ho;induction es with
    |nil=>simp
    |cons x r ih=>
     rw[List.flatten_cons,List.length_append,ih (fun e he=>rR e (by simp[he])),rR x (by simp),List.length_cons,Nat.succ_mul];omega
   exact Xn i (by omega)
  ·obtain⟨k,_,h3,_⟩:=W5 i e j p h1 h2;exact h3.kv
  rw[hszc (jv h1)];obtain⟨k,_,_,h3⟩:=W5 i e j p h1 h2;exact h3
theorem seal_ok(hi:qW w H ι Im){β:Nat}{qq:Bool}{ds:List Nat}{es:List PV}(hb:H.get β=some (.jI qq ds es none)):
  ∃jA,qW w (H.put β (.row qq 1 (es.map fun p=>[p]))) ι jA/\w8 w H ι Im w (H.put β (.row qq 1 (es.map fun p=>[p]))) ι jA:=by
 let jA:Nat->Prop:=fun b=>Im b\/(qq=false/\b∈(ι β).ks.flatMap Sk.blocks)
 have hm: ∀b,Im b->jA b:=fun b h=> .inl h;have WW: ∀{x:Nat},qq=false/\x∈(ι β).ks.flatMap Sk.blocks->(qC.jI qq ds es none).vn (ι β) x:=fun h=>⟨by simp[qC.used,h.1],.inr ⟨rfl,h.2⟩⟩;have cD: ∀{x:Nat},(qC.row qq 1 (es.map fun p=>[p])).vn (ι β) x->qq=false/\x=(ι β).b:=fun h=>by
  refine⟨by simpa[qC.used]using h.1, ?_⟩;rcases h.2 with h|⟨h,_⟩
  ·exact h
  cases h
 have Tm: ∀{x:Nat},(qC.row qq 1 (es.map fun p=>[p])).vn (ι β) x->(qC.jI qq ds es none).vn (ι β) x:=fun h=>⟨by simp[qC.used,(cD h).1],.inl (cD h).2⟩;have he:w8 w H ι Im w (H.put β (.row qq 1 (es.map fun p=>[p]))) ι jA:=by
  refine⟨fun γ b hγ=>?_,hm,fun b h=>?_,fun γ x z hγ hu=>?_,fun _ _ _=>rfl,xJ _,rfl,rfl⟩
  ·by_cases e:γ=β
   ·subst e;rw[hb]at hγ;cases hγ;exact⟨.row qq 1 (es.map fun p=>[p]),by simp[qn.qZ],by simp[xi,qC.sh,Pl.ka]⟩
   exact⟨b,by simp[qn.qZ,e,hγ],vV _ _⟩
  ·rcases h with h|h
   ·exact .inl h
   exact .inr (.inr ⟨β,_,hb,WW h⟩)
  by_cases e:γ=β
  ·subst e;simp only[qn.qZ,if_true,kX]at hγ;subst hγ;exact .inr ⟨γ,_,hb,Tm hu⟩
  simp only[qn.qZ,e,if_false]at hγ;exact .inr ⟨γ,x,hγ,hu⟩
 have hold: ∀{γ:Nat}{b:qC},(H.put β (.row qq 1 (es.map fun p=>[p]))).get γ=some b-> ∃b0,H.get γ=some b0/\ ∀{x:Nat},b.vn (ι γ) x->b0.vn (ι γ) x:=fun{γ b} h=>by
  by_cases e:γ=β
  ·subst e;simp only[qn.qZ,if_true,kX]at h;subst h;exact⟨_,hb,Tm⟩
  simp only[qn.qZ,e,if_false]at h;exact⟨b,h,id⟩
 refine⟨jA,⟨fun γ b hγ=>?_,fun γ γ' b b' z h1 h2 u1 u2=>?_,fun b h=>?_,fun γ b z hγ hu h=>?_,hi.HY,fun b hb=> .inl (hi.W4 b hb)⟩,he⟩
 ·by_cases e:γ=β
  ·subst e;simp only[qn.qZ,if_true,kX]at hγ;subst hγ;cases qq with
   |true=>
    have:es=[]:=(hi.mW γ _ hb).1;subst this;rfl
   |false=>
    obtain⟨vs,elem,fz,h1,h2,h3,h4,h5,h6,h7,h8,h9⟩:=hi.jI hb;have hg: ∀(i:Nat) e(j:Nat) p,(es.map fun p=>[p])[i]? =some e->e[j]? =some p->j=0/\es[i]? =some p:=by
     intro i e j p a b;rw[List.getElem?_map,yi]at a;obtain⟨q,a,rfl⟩:=a;cases j with
     |zero=>simp at b;subst b;exact⟨rfl,a⟩
     |succ j=>simp at b
    have hk: ∀{i:Nat}{p:PV},es[i]? =some p-> ∃k,(ι γ).ks[i]? =some k:=fun{i p} a=>by
     have:=(qF a).1;exact⟨(ι γ).ks[i]'(by omega),by simp⟩
    refine⟨vs,elem,fz,h1,h2,by simpa using h3,by omega,by simpa using h4,fun e he=>?_,fun i e j p a b=>?_,fun i e j p a b=>?_⟩
    ·obtain⟨q,_,rfl⟩:=List.mem_map.1 he;rfl
    ·obtain⟨rfl,a⟩:=hg i e j p a b;obtain⟨k,c⟩:=hk a;obtain⟨v,_,k2,_⟩:=h9 i p k a c;exact(k2 fun _ _ _ h=>by cases h).kv
    obtain⟨rfl,a⟩:=hg i e j p a b;obtain⟨k,c⟩:=hk a;obtain⟨v,k1,k2,_⟩:=h9 i p k a c;refine⟨v,by simpa using k1,(k2 fun _ _ _ h=>by cases h).pure hm fun x hx=> .inr ⟨rfl,List.mem_flatMap.2 ⟨k,qX c,hx⟩⟩⟩
  simp only[qn.qZ,e,if_false]at hγ;exact(hi.mW γ b hγ).mono hi he fun _=>⟨rfl,fun _ _=>rfl⟩
 ·obtain⟨b0,g1,g2⟩:=hold h1;obtain⟨b1,g3,g4⟩:=hold h2;exact hi.inj γ γ' b0 b1 z g1 g3 (g2 u1) (g4 u2)
 ·rcases h with h|h
  ·exact hi.im b h
  exact(hi.mW β _ hb).rC (WW h)
 obtain⟨b0,g1,g2⟩:=hold hγ;rcases h with h|h
 ·exact hi.KH γ b0 z g1 (g2 hu) h
 have e:=hi.inj γ β b0 _ z g1 hb (g2 hu) (WW h);subst e;simp only[qn.qZ,if_true,kX]at hγ;subst hγ;obtain⟨e1,e2⟩:=cD hu;subst e1;obtain⟨vs,elem,fz,h1,h2,h3,h4,h5,h6,_⟩:=hi.jI hb;rw[e2]at h;exact(List.nodup_cons.1 h6).1 h.2
theorem ZX(f:qC->qC)(β:Nat)(y z:qC): ∀H:qn,qn.put ((qn.put H β y).map fun(i,b)=>(i,f b)) β z=qn.put (H.map fun(i,b)=>(i,f b)) β z
 |[]=>by simp[qn.put]
 |(i,b)::r=>by
  by_cases h:i=β
  ·simp[qn.put,h]
  simp only[qn.put,h,if_false,List.map_cons];rw[ZX f β y z r]
theorem SI{a:Act}{s:St}{nt:Nat}(h:Inv w a s ι Im nt)(β:Nat):
  ∃jA,Inv w a (freeze β s) ι jA nt/\w8 w s.heap ι Im w (freeze β s).heap ι jA:=by
 unfold freeze;split
 ·rename_i qq sz es hb;obtain⟨h1,h2⟩:=WR h.heap hb;refine⟨_,⟨h1,fun t=>?_,fun γ b hγ=>?_,h.size,h.defers⟩,h2⟩
  ·show RA w _ ι _ (vF.get (s.env.map fun(t,v)=>(t,v.vJ β qq sz es)) t) _;rw[ly _ rfl];exact XS h.heap hb (h.env t)
  have hγ' :(yr β qq sz es s.heap).get γ=some b:=hγ;rw[jJ]at hγ';split at hγ'
  ·rename_i e;subst e;exact h.nx γ _ hb
  simp only[yi]at hγ';obtain⟨b0,ZK,_⟩:=hγ';exact h.nx γ b0 ZK
 ·rename_i qq ds es hb;obtain⟨aU,q1,q2⟩:=seal_ok h.heap hb;have Yo:(s.heap.put β (.row qq 1 (es.map fun p=>[p]))).get β=some (.row qq 1 (es.map fun p=>[p])):=by simp[qn.qZ]
  obtain⟨h1,h2⟩:=WR q1 Yo;have hf:yr β qq 1 (es.map fun p=>[p]) (s.heap.put β (.row qq 1 (es.map fun p=>[p])))=qn.put (s.heap.map fun(i,b)=>(i,b.vJ β qq 1 (es.map fun p=>[p]))) β .xf:=ZX _ _ _ _ _;have Xj:=fun t=>XS q1 Yo ((h.env t).mono h.heap q2);rw[hf]at h1 h2;refine⟨_,⟨h1,fun t=>?_,fun γ b hγ=>?_,h.size,h.defers⟩,q2.trans h2⟩
  ·show RA w _ ι _ (vF.get (s.env.map fun(t,v)=>(t,v.vJ β qq 1 (es.map fun p=>[p]))) t) _;rw[ly _ rfl,<- hf];exact Xj t
  have hγ' :(qn.put (s.heap.map fun(i,b)=>(i,b.vJ β qq 1 (es.map fun p=>[p]))) β .xf).get γ=some b:=hγ;rw[<- hf,jJ]at hγ';split at hγ'
  ·rename_i e;subst e;exact h.nx γ _ hb
  rename_i e;simp only[yi,qn.qZ,e,if_false]at hγ';obtain⟨b0,ZK,_⟩:=hγ';exact h.nx γ b0 ZK
 exact⟨Im,h,w8.refl _ _ _ _⟩
theorem mM{a:Act}{nt:Nat}: ∀(l:List Nat){s:St}{Im:Nat->Prop},Inv w a s ι Im nt->
  ∃jA,Inv w a (ud l s) ι jA nt/\w8 w s.heap ι Im w (ud l s).heap ι jA
 |[],s,Im,h=>⟨Im,h,w8.refl _ _ _ _⟩
 |β::r,s,Im,h=>by
  obtain⟨aU,h1,e1⟩:=SI h β;obtain⟨Uz,h2,e2⟩:=mM r h1;exact⟨Uz,h2,e1.trans e2⟩
end
section
variable [zN] {P:Program} {w:World} {H:qn} {ι:vG} {Im:Nat->Prop}
theorem JB(hi:qW w H ι Im){β γ:Nat}(jv:β≠γ){x y z:qC}{p q:Pl}(hx:H.get β=some x)
  (cb:xi x y (ι β) p) (cg: ∀c,H.get γ=some c->xi c z (ι γ) q)
  (fy: ∀t,y.vn p t->x.vn (ι β) t\/ ∃c,H.get γ=some c/\c.vn (ι γ) t)
  (fz: ∀t,z.vn q t->x.vn (ι β) t\/ ∃c,H.get γ=some c/\c.vn (ι γ) t)
  (dis: ∀t,y.vn p t->z.vn q t->False)
  (fN:w8 w H ι Im w ((H.put β y).put γ z) (jj (jj ι β p) γ q) Im->pE w ((H.put β y).put γ z) (jj (jj ι β p) γ q) Im β y)
  (bz:w8 w H ι Im w ((H.put β y).put γ z) (jj (jj ι β p) γ q) Im->pE w ((H.put β y).put γ z) (jj (jj ι β p) γ q) Im γ z):
  qW w ((H.put β y).put γ z) (jj (jj ι β p) γ q) Im/\w8 w H ι Im w ((H.put β y).put γ z) (jj (jj ι β p) γ q) Im:=by
 have get: ∀δ,((H.put β y).put γ z).get δ=if δ=γ then some z else if δ=β then some y else H.get δ:=fun δ=>by
  rw[qn.qZ];split
  ·rfl
  rw[qn.qZ]
 have pg:jj (jj ι β p) γ q γ=q:=by simp
 have pb:jj (jj ι β p) γ q β=p:=by rw[nS _ _ jv];simp
 have po: ∀{δ},δ≠β->δ≠γ->jj (jj ι β p) γ q δ=ι δ:=fun h1 h2=>by rw[nS _ _ h2,nS _ _ h1]
 have Wf: ∀{δ:Nat}{b:qC}{t:Nat},((H.put β y).put γ z).get δ=some b->b.vn (jj (jj ι β p) γ q δ) t-> ∃δ0 b0,H.get δ0=some b0/\b0.vn (ι δ0) t/\((δ=δ0/\δ≠β/\δ≠γ)\/((δ=β\/δ=γ)/\(δ0=β\/δ0=γ))):=by
  intro δ b t h1 h2;rw[get]at h1;by_cases e1:δ=γ
  ·subst e1;rw[if_pos rfl]at h1;cases h1;rw[pg]at h2;rcases fz t h2 with h|⟨c,g1,g2⟩
   ·exact⟨β,x,hx,h,.inr ⟨.inr rfl,.inl rfl⟩⟩
   exact⟨δ,c,g1,g2,.inr ⟨.inr rfl,.inr rfl⟩⟩
  rw[if_neg e1]at h1;by_cases e2:δ=β
  ·subst e2;rw[if_pos rfl]at h1;cases h1;rw[pb]at h2;rcases fy t h2 with h|⟨c,g1,g2⟩
   ·exact⟨δ,x,hx,h,.inr ⟨.inl rfl,.inl rfl⟩⟩
   exact⟨γ,c,g1,g2,.inr ⟨.inl rfl,.inr rfl⟩⟩
  rw[if_neg e2]at h1;rw[po e2 e1]at h2;exact⟨δ,b,h1,h2,.inl ⟨rfl,e2,e1⟩⟩
 have he:w8 w H ι Im w ((H.put β y).put γ z) (jj (jj ι β p) γ q) Im:=by
  refine⟨fun δ b hb=>?_,fun _ h=>h,fun _ h=> .inl h,fun δ b t h1 h2=>?_,fun _ _ _=>rfl,xJ _,rfl,rfl⟩
  ·by_cases e1:δ=γ
   ·subst e1;exact⟨z,by rw[get,if_pos rfl],by rw[pg];exact cg b hb⟩
   by_cases e2:δ=β
   ·subst e2;rw[hx]at hb;cases hb;exact⟨y,by rw[get,if_neg e1,if_pos rfl],by rw[pb];exact cb⟩
   exact⟨b,by rw[get,if_neg e1,if_neg e2];exact hb,by rw[po e2 e1];exact vV _ _⟩
  obtain⟨δ0,b0,g1,g2,_⟩:=Wf h1 h2;exact .inr ⟨δ0,b0,g1,g2⟩
 refine⟨⟨fun δ b hb=>?_,fun δ δ' b b' t h1 h2 u1 u2=>?_,hi.im,fun δ b t h1 h2=>?_,hi.HY,hi.W4⟩,he⟩
 ·have xQ:=hb;rw[get]at hb;by_cases e1:δ=γ
  ·subst e1;rw[if_pos rfl]at hb;cases hb;exact bz he
  rw[if_neg e1]at hb;by_cases e2:δ=β
  ·subst e2;rw[if_pos rfl]at hb;cases hb;exact fN he
  rw[if_neg e2]at hb;exact(hi.mW δ b hb).mono hi he fun _=>⟨po e2 e1,fun _ _=>rfl⟩
 ·obtain⟨δ0,b0,g1,g2,g3⟩:=Wf h1 u1;obtain⟨δ1,b1,k1,k2,k3⟩:=Wf h2 u2;have e:=hi.inj δ0 δ1 b0 b1 t g1 k1 g2 k2;subst e;rcases g3 with ⟨rfl,n1,n2⟩|⟨g3,g4⟩
  ·rcases k3 with ⟨rfl,_,_⟩|⟨_,k4⟩
   ·rfl
   rcases k4 with h|h
   ·exact absurd h n1
   exact absurd h n2
  rcases k3 with ⟨rfl,n1,n2⟩|⟨k3,k4⟩
  ·rcases g4 with h|h
   ·exact absurd h n1
   exact absurd h n2
  rw[get]at h1 h2;rcases g3 with rfl|rfl<;>rcases k3 with rfl|rfl
  ·rfl
  ·rw[if_neg jv,if_pos rfl]at h1;rw[if_pos rfl]at h2;cases h1;cases h2;rw[pb]at u1;rw[pg]at u2;exact(dis t u1 u2).elim
  ·rw[if_neg jv,if_pos rfl]at h2;rw[if_pos rfl]at h1;cases h1;cases h2;rw[pb]at u2;rw[pg]at u1;exact(dis t u2 u1).elim
  rfl
 obtain⟨δ0,b0,g1,g2,_⟩:=Wf h1 h2;exact hi.KH δ0 b0 t g1 g2
theorem fZ: ∀{ks:List Sk}{i:Nat}{k:Sk},ks[i]? =some k->(ks.flatMap Sk.blocks).Nodup->(∀ x∈k.blocks,x∈ks.flatMap Sk.blocks/\x∉(ks.set i .leaf).flatMap Sk.blocks)/\k.blocks.Nodup
 |[],i,k,h,_=>by simp at h
 |a::r,0,k,h,hn=>by
  simp at h;subst h;rw[List.flatMap_cons,List.nodup_append]at hn;refine⟨fun x hx=>⟨by simp[hx],fun Er=>?_⟩,hn.1⟩;simp only[List.set_cons_zero,List.flatMap_cons,Sk.blocks,List.nil_append]at Er;exact hn.2.2 x hx x Er rfl
 |a::r,i+1,k,h,hn=>by
  rw[List.flatMap_cons,List.nodup_append]at hn;obtain⟨ih1,ih2⟩:=fZ (ks:=r) (i:=i) (by simpa using h) hn.2.1;refine⟨fun x hx=>?_,ih2⟩;obtain⟨j1,j2⟩:=ih1 x hx;refine⟨by rw[List.flatMap_cons];exact List.mem_append_right _ j1,fun Er=>?_⟩;rw[List.set_cons_succ,List.flatMap_cons]at Er;rcases List.mem_append.1 Er with h2|h2
  ·exact hn.2.2 x h2 x j1 rfl
  exact j2 h2
theorem ZH{α:Type}{d:Nat}(hd:0<d): ∀(es:List (List α)),(∀ e∈es,e.length=d)-> ∀(m:Nat) p,es.flatten[m]? =some p-> ∃e,es[m / d]? =some e/\e[m % d]? =some p
 |[],_,m,p,h=>by simp at h
 |x::r,hl,m,p,h=>by
  have hx:=hl x (by simp);by_cases hm:m<d
  ·rw[List.flatten_cons,List.getElem?_append_left (by omega)]at h;exact⟨x,by rw[Nat.div_eq_of_lt hm];rfl,by rw[Nat.mod_eq_of_lt hm];exact h⟩
  rw[List.flatten_cons,List.getElem?_append_right (by omega),hx]at h;obtain⟨e,h1,h2⟩:=ZH hd r (fun e he=>hl e (by simp[he])) (m-d) p h;have e1:m / d=(m-d) / d+1:=by rw[Nat.div_eq_sub_div hd (by omega)]
  have e2:m % d=(m-d) % d:=by rw[Nat.mod_eq_sub_mod (by omega)]
  exact⟨e,by rw[e1];simpa using h1,by rw[e2];exact h2⟩
theorem iG{α:Type}{d:Nat}: ∀(es:List (List α)),(∀ e∈es,e.length=d)->es.flatten.length=es.length*d
 |[],_=>by simp
 |x::r,hl=>by
  rw[List.flatten_cons,List.length_append,iG r (fun e he=>hl e (by simp[he])),hl x (by simp),List.length_cons,Nat.succ_mul];omega
theorem iH{α:Type}(es:List α):(es.map fun p=>[p]).flatten=es:=by
 induction es with
 |nil=>rfl
 |cons x r ih=>simp[ih]
def Sk.pl:Sk->Pl
 | .leaf=>⟨0,0,[]⟩
 | .node b cap ks=>⟨b,cap,ks⟩
theorem SG(hi:qW w H ι Im){nx:Nat}(xt: ∀β b,H.get β=some b->β<nx){β i γ cL:Nat}{H' :qn}(h:Yj H nx β i=some (H',cL,γ)):
  ∃ι',qW w H' ι' Im/\w8 w H ι Im w H' ι' Im/\ ∀β b,H'.get β=some b->β<cL:=by
 unfold Yj at h;split at h
 ·rename_i fw es hb;split at h;rotate_left
  ·cases h
  rename_i d ds;split at h;rotate_left
  ·cases h
  rename_i qq sz eg hp;split at h;rotate_left
  ·cases h
  rename_i mW eY;cases h;obtain⟨vs,elem,fz,h1,h2,h3,h4,h5,h6,h7,h8,h9⟩:=hi.jI hb;obtain⟨DK,Tk⟩:=List.nodup_cons.1 h6;have fC:=(qF hp).1;obtain⟨k,hk⟩: ∃k,(ι β).ks[i]? =some k:=⟨(ι β).ks[i]'(by omega),by simp⟩;obtain⟨v,k1,k2,_⟩:=h9 i _ k hp hk;have hO:=k2 fun _ _ _ h=>by cases h
  obtain⟨nh,DN⟩:=fZ hk Tk;have jv:β≠nx:=fun e=>by have:=xt β _ hb;omega
  have ep:H.get nx=none:=by
   cases hh:H.get nx with
   |none=>rfl
   |some b=>have:=xt nx b hh;omega
  have key: ∀(H' :qn)(ι' :vG),ι' nx=k.pl->H'.get nx=some mW->pE w H' ι' Im nx mW/\RA w H' ι' Im (.row nx eg.length 0 eg.length) v/\(∀ t,mW.vn k.pl t->t∈k.blocks):=by
   intro H' ι' sH mq;cases hO with
   |nil=>
    unfold Yh at eY;split at eY
    ·cases eY;refine⟨rfl,.row _ _ _ _ _ _ rfl mq (fun _=>⟨_,_,_,rfl⟩) (fun _ _ _ e=>by cases e;exact xJ _) (fun _ _ _ e _=>by cases e;exact⟨by simp,rfl⟩),fun t ht=>?_⟩;exact absurd ht.1 (by simp[qC.used])
    split at eY<;>cases eY;refine⟨⟨rfl,rfl⟩,.row _ _ _ _ _ _ rfl mq (fun _=>⟨_,_,_,rfl⟩) (fun _ _ _ e=>by cases e;exact xJ _) (fun _ _ _ e _=>by cases e;exact⟨by simp,rfl⟩),fun t ht=>?_⟩;exact absurd ht.1 (by simp[qC.used])
   |sl _ _ _ b o cap ks dG elem' fz' q1 q2 q3 q4 q5 q6 q7 q8 val q9 q10=>
    have JJ:(ι' nx)=⟨b,cap,ks⟩:=sH;have hhead: ∀(bl:qC)(sz:Nat),bl.sh=some (false,sz,eg.length)->H'.get nx=some bl->RA w H' ι' Im (.row nx eg.length 0 eg.length) (.slice (some ⟨b,o,none⟩) eg.length cap):=by
     intro bl sz hsh hg;refine .row _ _ _ _ _ _ rfl hg (fun _=>⟨_,_,_,hsh⟩) (fun _ _ _ e=>by rw[hsh]at e;cases e;exact xJ _) (fun _ _ _ e _=>?_);rw[hsh]at e;cases e;refine⟨by simp, ?_⟩;simp only[w9,if_false,JJ];exact⟨⟨b,o,none⟩,by simp,rfl,rfl,fun hc=>by rw[q6 hc];simp⟩
    have G3:(Sk.node b cap ks).blocks=b::ks.flatMap Sk.blocks:=by simp[Sk.blocks]
    have hbl: ∀x∈ks.flatMap Sk.blocks,x<w.heap.size:=fun x hx=>h7 x (nh x (by rw[G3];simp[hx])).1;unfold Yh at eY;split at eY
    ·cases eY;refine⟨⟨dG,elem',fz',by rw[JJ];exact q1,q2,by rw[JJ];exact q3,q4,by rw[JJ];exact q5,q7,fun i e j p a c=>?_,fun i e j p a c=>?_⟩,hhead _ _ rfl mq,fun t ht=>?_⟩
     ·have hf:=dP eg i q7 e j p a c;have:=(qF hf).1;obtain⟨k',QM⟩: ∃k',ks[i*d+j]? =some k' :=⟨ks[i*d+j]'(by omega),by simp⟩;exact(q10 _ p k' hf QM).kv
     ·have hf:=dP eg i q7 e j p a c;have:=(qF hf).1;obtain⟨k',QM⟩: ∃k',ks[i*d+j]? =some k' :=⟨ks[i*d+j]'(by omega),by simp⟩;refine⟨val (i*d+j),q9 _ this, ?_⟩;have h0:=q10 _ p k' hf QM;generalize val (i*d+j)=u at h0;cases h0 with
      |Kk _ _ _ h=>exact h
     rw[G3];rcases ht.2 with h|⟨h,_⟩
     ·rw[h];simp[Sk.pl]
     cases h
    rename_i d1 ds1;split at eY<;>cases eY;rename_i hd1;subst hd1;have Z5:eg.flatten.length=eg.length:=by rw[iG eg q7,Nat.mul_one]
    refine⟨⟨dG,elem',fz',by rw[JJ];exact q1,q2,by rw[JJ];simpa using q3,by rw[JJ,Z5];exact q5,by rw[JJ];exact q8, ?_, ?_,fun _ _ _ h=>(by cases h),fun i p k' a c=>?_⟩, ?_,fun t ht=>?_⟩
    ·rw[JJ];rw[G3]at DN;exact DN
    ·rw[JJ];exact hbl
    ·rw[JJ]at c;have:=(qF a).1;exact⟨val i,q9 _ this,fun _=>q10 i p k' a c,fun _ _ h=>by cases h⟩
    ·exact hhead _ 1 (by simp only[qC.sh,Z5]) mq
    rw[G3];rcases ht.2 with h|⟨_,h⟩
    ·rw[h];simp[Sk.pl]
    exact List.mem_cons_of_mem _ h
  refine⟨jj (jj ι β ⟨(ι β).b,(ι β).cap,(ι β).ks.set i .leaf⟩) nx k.pl, ?_⟩;have hgn:((H.put β (.jI false (d::ds) es (some (i,nx,eg.length)))).put nx mW).get nx=some mW:=by simp[qn.qZ]
  obtain⟨m1,m2,m3⟩:=key _ (jj (jj ι β ⟨(ι β).b,(ι β).cap,(ι β).ks.set i .leaf⟩) nx k.pl) (by simp) hgn;have pb:jj (jj ι β ⟨(ι β).b,(ι β).cap,(ι β).ks.set i .leaf⟩) nx k.pl β=⟨(ι β).b,(ι β).cap,(ι β).ks.set i .leaf⟩:=by rw[nS _ _ jv];simp
  have gg:=JB hi jv (y:= .jI false (d::ds) es (some (i,nx,eg.length))) (z:=mW) (p:=⟨(ι β).b,(ι β).cap,(ι β).ks.set i .leaf⟩) (q:=k.pl) hb (by simp[xi,qC.sh,Pl.ka]) (fun c hc=>by rw[ep]at hc;cases hc)
   (fun t ht=> .inl ⟨rfl,ht.2.imp id fun h=>⟨rfl,mL h.2⟩⟩) (fun t ht=> .inl ⟨rfl,.inr ⟨rfl,(nh t (m3 t ht)).1⟩⟩)
   (fun t ht hz=>by
    have hz' :=m3 t hz
    rcases ht.2 with h|⟨_,h⟩
    ·exact DK (h ▸ (nh t hz').1)
    exact(nh t hz').2 h)
   (fun bM=>by
    refine⟨vs,elem,fz,by rw[pb];exact h1,h2,by rw[pb];exact h3,by rw[pb];exact h4,by rw[pb];simpa using h5,by rw[pb];exact List.nodup_cons.2 ⟨fun h=>DK (mL h),Zj Tk⟩,fun x hx=>h7 x (by rw[pb]at hx;exact mL hx),fun j γ' zF hf=>(by cases hf;exact fC),fun i' p k' a c=>?_⟩
    rw[pb]at c
    by_cases e:i=i'
    ·subst e
     rw[List.getElem?_set_self (by omega)]at c
     cases c
     exact⟨v,k1,fun h=>absurd rfl (h _ _ _ rfl),fun γ' zF hf=>by cases hf;exact⟨rfl,m2⟩⟩
    rw[List.getElem?_set_ne e]at c
    obtain⟨v',g1,g2,_⟩:=h9 i' p k' a c
    exact⟨v',g1,fun _=>g2 fun _ _ _ h=>(by cases h),fun γ' zF hf=>by cases hf;exact absurd rfl e⟩)
   (fun _=>m1)
  refine⟨gg.1,gg.2,fun δ b hδ=>?_⟩;rw[qn.qZ]at hδ;split at hδ
  ·omega
  rw[qn.qZ]at hδ;split at hδ
  ·rename_i e;have:=xt β _ hb;omega
  have:=xt δ b hδ;omega
 ·split at h<;>cases h;exact⟨ι,hi,w8.refl _ _ _ _,xt⟩
 cases h
theorem Jz: ∀(l:List Nat){H:qn}{ι:vG}{nx β:Nat},qW w H ι Im->(∀ β b,H.get β=some b->β<nx)->
  ∃ι',qW w (sQ H nx β l).1 ι' Im/\w8 w H ι Im w (sQ H nx β l).1 ι' Im/\ ∀δ b,(sQ H nx β l).1.get δ=some b->δ<(sQ H nx β l).2
 |[],H,ι,nx,β,hi,xt=>⟨ι,hi,w8.refl _ _ _ _,xt⟩
 |i::r,H,ι,nx,β,hi,xt=>by
  unfold sQ;split
  ·rename_i H' cL γ h;obtain⟨ι1,a1,a2,a3⟩:=SG hi xt h;obtain⟨ι2,b1,b2,b3⟩:=Jz r (β:=γ) a1 a3;exact⟨ι2,b1,a2.trans b2,b3⟩
  exact⟨ι,hi,w8.refl _ _ _ _,xt⟩
theorem eb{ks:List Sk}{i x:Nat}{k:Sk}(h:x∈(ks.set i k).flatMap Sk.blocks):x∈ks.flatMap Sk.blocks\/x∈k.blocks:=by
 rw[List.mem_flatMap]at h;obtain⟨k',hk,hx⟩:=h;rcases List.mem_or_eq_of_mem_set hk with h|h
 ·exact .inl (List.mem_flatMap.2 ⟨k',h,hx⟩)
 subst h;exact .inr hx
theorem Vi: ∀{ks:List Sk}{i:Nat}{k:Sk},(ks.flatMap Sk.blocks).Nodup->k.blocks.Nodup->(∀ x∈k.blocks,x∉ks.flatMap Sk.blocks)->((ks.set i k).flatMap Sk.blocks).Nodup
 |[],i,k,h,_,_=>by simp
 |a::r,0,k,h,hk,hd=>by
  rw[List.flatMap_cons,List.nodup_append]at h;rw[List.set_cons_zero,List.flatMap_cons,List.nodup_append];exact⟨hk,h.2.1,fun x hx y hy e=>hd x hx (by rw[List.flatMap_cons,e];exact List.mem_append_right _ hy)⟩
 |a::r,i+1,k,h,hk,hd=>by
  rw[List.flatMap_cons,List.nodup_append]at h;rw[List.set_cons_succ,List.flatMap_cons,List.nodup_append];refine⟨h.1,Vi h.2.1 hk fun x hx hy=>hd x hx (by rw[List.flatMap_cons];exact List.mem_append_right _ hy),fun x hx y hy e=>?_⟩;subst e;rcases eb hy with h2|h2
  ·exact h.2.2 x hx x h2 rfl
  exact hd x h2 (by rw[List.flatMap_cons];exact List.mem_append_left _ hx)
theorem Bh{es:List (List PV)}(h:rF es=true){e:List PV}(he:e∈es){p:PV}(hp:p∈e):p.Kk=true:=by
 unfold rF at h;rw[List.all_eq_true]at h;have:=h e he;rw[List.all_eq_true]at this;exact this p hp
theorem MD(hi:qW w H ι Im){γ:Nat}{b:qC}(hg:H.get γ=some b){d:Nat}{ds:List Nat}{zF:Nat}{p:PV}(hp:Qw d ds zF b=some p){v:Value}(hv:RA w H ι Im (.row γ zF 0 zF) v):
  ∃k,eW w Im (d::ds) p v k/\k.blocks.Nodup/\(∀ x∈k.blocks,b.vn (ι γ) x)/\(∃ a,b.sh=some a):=by
 cases hv with
 |row _ _ _ _ _ b' ho xQ hk xU h=>
 rw[hg]at xQ;cases xQ;unfold Qw at hp;split at hp
 ·rename_i qq sz es;split at hp;rotate_left
  ·cases hp
  split at hp<;>cases hp;rename_i hc;obtain⟨rfl,bO,hsc⟩:=hc;obtain⟨_,h2⟩:=h _ _ _ rfl rfl;cases qq with
  |true=>
   simp only[if_true]at h2;subst h2;have rR:es=[]:=hi.mW γ _ hg;subst rR;exact⟨.leaf,.nil d [],by simp[Sk.blocks],by simp[Sk.blocks],_,rfl⟩
  |false=>
   have bO:sz=d:=by simpa using bO
   subst bO;simp only[w9,if_false]at h2;obtain⟨⟨ab,ao,T5⟩,rfl,fR,dR,eX⟩:=h2;simp only at fR dR eX;subst fR dR;obtain⟨vs,elem,fz,g1,g2,g3,g4,g5,g6,g7,g8⟩:=hi.row hg;have Z5:=iG es g6;have hle:es.length*sz<=vs.size:=by rw[g3];exact mulR _ g5
   refine⟨.node (ι γ).b (ι γ).cap (List.replicate es.flatten.length .leaf), ?_, ?_, ?_,_,rfl⟩
   ·refine .sl sz [] es (ι γ).b ao (ι γ).cap _ vs elem fz g1 g2 g3 g4 g5 (fun hc=>by rw[eX hc];simp) g6 (by simp) (fun i=>(vs[i]?).getD undef) (fun i xB=>?_) (fun i p k a c=>?_)
    ·have:i<vs.size:=by omega
     simp[this]
    obtain⟨e,e1,e2⟩:=ZH g4 es g6 i p a;obtain⟨v0,k1,k2⟩:=g8 _ e _ p e1 e2;rw[show i / sz*sz+i % sz=i by rw[Nat.mul_comm];exact Nat.div_add_mod i sz]at k1;have hk:k= .leaf:=by
     have:=qX c;exact(List.mem_replicate.1 this).2
    subst hk;simp only[k1,Option.getD_some];exact .Kk p v0 (Bh hsc (qX e1) (qX e2)) k2
   ·have:(List.replicate es.flatten.length Sk.leaf).flatMap Sk.blocks=[]:=by
     rw[List.flatMap_eq_nil_iff];intro x hx;rw[(List.mem_replicate.1 hx).2];simp[Sk.blocks]
    simp only[Sk.blocks,this];simp
   intro x hx;have:(List.replicate es.flatten.length Sk.leaf).flatMap Sk.blocks=[]:=by
    rw[List.flatMap_eq_nil_iff];intro x hx;rw[(List.mem_replicate.1 hx).2];simp[Sk.blocks]
   simp only[Sk.blocks,this,List.mem_singleton]at hx;exact⟨rfl,.inl hx⟩
 ·rename_i qq T6 es;split at hp
  ·cases hp
  rename_i d1 ds1;split at hp<;>cases hp;rename_i hc;obtain⟨rfl,rfl,rfl⟩:=hc;obtain⟨_,h2⟩:=h _ _ _ rfl rfl;cases qq with
  |true=>
   simp only[if_true]at h2;subst h2;have rR:es=[]:=(hi.mW γ _ hg).1;subst rR;exact⟨.leaf,.nil 1 _,by simp[Sk.blocks],by simp[Sk.blocks],_,rfl⟩
  |false=>
   simp only[w9,if_false]at h2;obtain⟨⟨ab,ao,T5⟩,rfl,fR,dR,eX⟩:=h2;simp only at fR dR eX;subst fR dR;obtain⟨vs,elem,fz,g1,g2,g3,g4,g5,g6,g7,g8,g9⟩:=hi.jI hg;have hlen:(es.map fun p=>[p]).length=es.length:=by simp
   refine⟨.node (ι γ).b (ι γ).cap (ι γ).ks, ?_, ?_, ?_,_,rfl⟩
   ·have:=eW.sl (w:=w) (Im:=Im) 1 (d1::ds1) (es.map fun p=>[p]) (ι γ).b ao (ι γ).cap (ι γ).ks vs elem fz g1 g2 (by simpa using g3) (by omega) (by simpa using g4) (fun hc=>by have:=eX hc;omega) (fun e he=>by
     obtain⟨q,_,rfl⟩:=List.mem_map.1 he
     rfl) (by rw[iH];exact g5) (fun i=>(vs[i]?).getD undef) (fun i xB=>by
     rw[iH]at xB
     have:i<vs.size:=by omega
     simp[this]) (fun i p k a c=>by
     rw[iH]at a
     obtain⟨v0,k1,k2,_⟩:=g9 i p k a c
     simp only[k1,Option.getD_some]
     exact k2 fun _ _ _ h=>by cases h)
    rw[hlen]at this;exact this
   ·simp only[Sk.blocks];exact g6
   intro x hx;simp only[Sk.blocks,List.mem_cons]at hx;exact⟨rfl,hx.imp id fun h=>⟨rfl,h⟩⟩
 cases hp
theorem It(hi:qW w H ι Im)(β:Nat): ∃ι',qW w (Vn H β) ι' Im/\w8 w H ι Im w (Vn H β) ι' Im/\ ∀δ b,(Vn H β).get δ=some b-> ∃b0,H.get δ=some b0:=by
 have Ks: ∃ι',qW w H ι' Im/\w8 w H ι Im w H ι' Im/\ ∀δ b,H.get δ=some b-> ∃b0,H.get δ=some b0:=⟨ι,hi,w8.refl _ _ _ _,fun _ b h=>⟨b,h⟩⟩;unfold Vn;split
 ·rename_i d ds es i γ zF hb;split
  ·rename_i b hg;split
   ·rename_i p hp;obtain⟨vs,elem,fz,h1,h2,h3,h4,h5,h6,h7,h8,h9⟩:=hi.jI hb;obtain⟨DK,Tk⟩:=List.nodup_cons.1 h6;have fC:=h8 _ _ _ rfl;obtain⟨v,k1,_,k3⟩:=h9 i es[i] (ι β).ks[i] (by simp[fC]) (by simp);obtain⟨k4,k5⟩:=k3 _ _ rfl;obtain⟨k,m1,m2,m3,⟨sh,m4⟩⟩:=MD hi hg hp k5;have jv:β≠γ:=by
     intro e;subst e;rw[hb]at hg;cases hg;simp[Qw]at hp
    have hdisj: ∀x∈k.blocks,¬ (qC.jI false (d::ds) es (some (i,γ,zF))).vn (ι β) x:=fun x hx hf=>jv (hi.inj β γ _ _ x hb hg hf (m3 x hx));have pb:jj (jj ι β ⟨(ι β).b,(ι β).cap,(ι β).ks.set i k⟩) γ (ι γ) β=⟨(ι β).b,(ι β).cap,(ι β).ks.set i k⟩:=by rw[nS _ _ jv];simp
    refine⟨jj (jj ι β ⟨(ι β).b,(ι β).cap,(ι β).ks.set i k⟩) γ (ι γ), ?_⟩;have gg:=JB hi jv (y:= .jI false (d::ds) (es.set i p) none) (z:= .xf) (p:=⟨(ι β).b,(ι β).cap,(ι β).ks.set i k⟩) (q:=ι γ) hb (by simp[xi,qC.sh,Pl.ka]) (fun c hc=>by
      rw[hg]at hc
      cases hc
      unfold xi
      rw[m4]
      rfl)
     (fun t ht=>by
      rcases ht.2 with h|⟨_,h⟩
      ·exact .inl ⟨rfl,.inl h⟩
      rcases eb h with h|h
      ·exact .inl ⟨rfl,.inr ⟨rfl,h⟩⟩
      exact .inr ⟨b,hg,m3 t h⟩) (fun t ht=>absurd ht.1 (by simp[qC.used])) (fun t _ ht=>absurd ht.1 (by simp[qC.used]))
     (fun bM=>by
      refine⟨vs,elem,fz,by rw[pb];exact h1,h2,by rw[pb];exact h3,by rw[pb];simpa using h4,by rw[pb];simpa using h5, ?_,fun x hx=>?_,fun _ _ _ h=>(by cases h),fun i' p' k' a c=>?_⟩
      ·rw[pb]
       refine List.nodup_cons.2 ⟨fun h=>?_,Vi Tk m2 fun x hx h=>hdisj x hx ⟨rfl,.inr ⟨rfl,h⟩⟩⟩
       rcases eb h with h|h
       ·exact DK h
       exact hdisj _ h ⟨rfl,.inl rfl⟩
      ·rw[pb]at hx
       rcases eb hx with h|h
       ·exact h7 x h
       exact(hi.mW γ b hg).rC (m3 x h)
      rw[pb]at c
      by_cases e:i=i'
      ·subst e
       rw[List.getElem?_set_self (by omega)]at a c
       cases a
       cases c
       exact⟨v,k1,fun _=>m1,fun _ _ h=>by cases h⟩
      rw[List.getElem?_set_ne e]at a c
      obtain⟨v',g1,g2,_⟩:=h9 i' p' k' a c
      exact⟨v',g1,fun _=>g2 fun j γ' ver' hf=>by cases hf;exact fun e' =>e e'.symm,fun _ _ h=>by cases h⟩)
     (fun _=>trivial)
    refine⟨gg.1,gg.2,fun δ b' hδ=>?_⟩;rw[qn.qZ]at hδ;split at hδ
    ·rename_i e;subst e;exact⟨_,hg⟩
    rw[qn.qZ]at hδ;split at hδ
    ·rename_i e;subst e;exact⟨_,hb⟩
    exact⟨_,hδ⟩
   exact Ks
  exact Ks
 exact Ks
theorem GJ: ∀(n:Nat){H:qn}{ι:vG},qW w H ι Im-> ∀β,∃ ι',qW w (Ka n H β) ι' Im/\w8 w H ι Im w (Ka n H β) ι' Im/\ ∀δ b,(Ka n H β).get δ=some b-> ∃b0,H.get δ=some b0
 |0,H,ι,hi,β=>⟨ι,hi,w8.refl _ _ _ _,fun _ b h=>⟨b,h⟩⟩
 |n+1,H,ι,hi,β=>by
  unfold Ka;split
  ·rename_i x hb;obtain⟨ι1,a1,a2,a3⟩:=GJ n hi x.2.1;obtain⟨ι2,b1,b2,b3⟩:=It a1 β;exact⟨ι2,b1,a2.trans b2,fun δ b h=>by
    obtain⟨b0,h0⟩:=b3 δ b h
    exact a3 δ b0 h0⟩
  exact⟨ι,hi,w8.refl _ _ _ _,fun _ b h=>⟨b,h⟩⟩
theorem cut_ok(hi:qW w H ι Im){nx:Nat}(xt: ∀β b,H.get β=some b->β<nx){β n l:Nat}{b y:qC}(hb:H.get β=some b)(hc:Jn n b=some (l,y)):
  ∃ι',qW w ((H.put β .xf).put nx y) ι' Im/\w8 w H ι Im w ((H.put β .xf).put nx y) ι' Im/\(∀ v,RA w H ι Im (.row β l 0 n) v->RA w ((H.put β .xf).put nx y) ι' Im (.row nx n 0 n) v)/\
   ∀δ b,((H.put β .xf).put nx y).get δ=some b->δ<nx+1:=by
 have jv:β≠nx:=fun e=>by have:=xt β _ hb;omega
 have ep:H.get nx=none:=by
  cases hh:H.get nx with
  |none=>rfl
  |some b=>have:=xt nx b hh;omega
 have hgn:((H.put β .xf).put nx y).get nx=some y:=by simp[qn.qZ]
 have xB: ∀δ b,((H.put β .xf).put nx y).get δ=some b->δ<nx+1:=fun δ b hδ=>by
  rw[qn.qZ]at hδ;split at hδ
  ·omega
  rw[qn.qZ]at hδ;split at hδ
  ·rename_i e;have:=xt β _ hb;omega
  have:=xt δ b hδ;omega
 have head: ∀(ι' :vG)(sz:Nat),(ι' nx).b=(ι β).b->(ι' nx).cap=(ι β).cap->y.sh=some (false,sz,n)->b.sh=some (false,sz,l)-> ∀v,RA w H ι Im (.row β l 0 n) v->RA w ((H.put β .xf).put nx y) ι' Im (.row nx n 0 n) v:=by
  intro ι' sz e1 e2 hy hbs v hv;cases hv with
  |row _ _ _ _ _ b' ho xQ hk xU h=>
  rw[hb]at xQ;cases xQ;obtain⟨_,h2⟩:=h _ _ _ hbs rfl;refine .row _ _ _ _ _ _ ho hgn (fun _=>⟨_,_,_,hy⟩) (fun _ _ _ e=>by rw[hy]at e;cases e;exact xJ _) (fun _ _ _ e _=>?_);rw[hy]at e;cases e;refine⟨by simp, ?_⟩;simp only[w9,if_false]at h2 |-;rw[e1,e2];exact h2
 unfold Jn at hc;split at hc
 ·rename_i sz es;split at hc<;>cases hc;rename_i hle;obtain⟨vs,elem,fz,g1,g2,g3,g4,g5,g6,g7,g8⟩:=hi.row hb;have pn:jj (jj ι β (ι β)) nx (ι β) nx=ι β:=by simp
  have gg:=JB hi jv (y:= .xf) (z:= .row false sz (es.take n)) (p:=ι β) (q:=ι β) hb (by simp[xi,qC.sh]) (fun c hc=>by rw[ep]at hc;cases hc)
   (fun t ht=>absurd ht.1 (by simp[qC.used])) (fun t ht=> .inl ⟨rfl,ht.2.imp id fun h=>absurd h.1 (by simp[qC.Tt])⟩) (fun t ht _=>absurd ht.1 (by simp[qC.used])) (fun _=>trivial)
   (fun bM=>⟨vs,elem,fz,by rw[pn];exact g1,g2,by rw[pn];exact g3,g4,by rw[pn,List.length_take];omega,fun e he=>g6 e (List.mem_of_mem_take he),fun i e j p a c=>by
     rw[List.getElem?_take]at a
     split at a
     ·exact g7 i e j p a c
     ·(cases a),fun i e j p a c=>by
     rw[List.getElem?_take]at a
     split at a
     ·exact g8 i e j p a c
     (cases a)⟩)
  exact⟨_,gg.1,gg.2,head _ sz (by rw[pn]) (by rw[pn]) (by simp[qC.sh];omega) rfl,xB⟩
 ·rename_i qq fw es;split at hc<;>cases hc;rename_i hle;cases qq;rotate_left
  ·obtain⟨rR,_⟩:es=[]/\(none:Option (Nat×Nat×Nat))=none:=hi.mW β _ hb;subst rR;have UC:n=0:=by simpa using hle
   subst UC;have gg:=JB hi jv (y:= .xf) (z:= .jI true fw [] none) (p:=ι β) (q:=⟨0,0,[]⟩) hb (by simp[xi,qC.sh]) (fun c hc=>by rw[ep]at hc;cases hc)
    (fun t ht=>absurd ht.1 (by simp[qC.used])) (fun t ht=>absurd ht.1 (by simp[qC.used])) (fun t ht _=>absurd ht.1 (by simp[qC.used])) (fun _=>trivial) (fun _=>⟨rfl,rfl⟩)
   refine⟨_,gg.1,gg.2,fun v hv=>?_,xB⟩;cases hv with
   |row _ _ _ _ _ b' ho xQ hk xU h=>
   rw[hb]at xQ;cases xQ;obtain⟨_,h2⟩:=h _ _ _ rfl rfl;simp only[if_true]at h2;subst h2;exact .row _ _ _ _ _ (.jI true fw [] none) rfl hgn (fun _=>⟨_,_,_,rfl⟩) (fun _ _ _ e=>by cases e;exact xJ _) (fun _ _ _ e _=>by cases e;exact⟨by simp,rfl⟩)
  obtain⟨vs,elem,fz,h1,h2,h3,h4,h5,h6,h7,h8,h9⟩:=hi.jI hb;obtain⟨DK,Tk⟩:=List.nodup_cons.1 h6;have pn:jj (jj ι β (ι β)) nx ⟨(ι β).b,(ι β).cap,(ι β).ks.take n⟩ nx=⟨(ι β).b,(ι β).cap,(ι β).ks.take n⟩:=by simp
  have iK:((ι β).ks.take n).flatMap Sk.blocks ⊆ (ι β).ks.flatMap Sk.blocks:=fun x hx=>by
   obtain⟨k,hk,hx⟩:=List.mem_flatMap.1 hx;exact List.mem_flatMap.2 ⟨k,List.mem_of_mem_take hk,hx⟩
  have DL:(((ι β).ks.take n).flatMap Sk.blocks).Nodup:=by
   have:(ι β).ks.flatMap Sk.blocks=((ι β).ks.take n).flatMap Sk.blocks++((ι β).ks.drop n).flatMap Sk.blocks:=by rw[<- List.flatMap_append,List.take_append_drop]
   rw[this,List.nodup_append]at Tk;exact Tk.1
  have gg:=JB hi jv (y:= .xf) (z:= .jI false fw (es.take n) none) (p:=ι β) (q:=⟨(ι β).b,(ι β).cap,(ι β).ks.take n⟩) hb (by simp[xi,qC.sh]) (fun c hc=>by rw[ep]at hc;cases hc)
   (fun t ht=>absurd ht.1 (by simp[qC.used])) (fun t ht=> .inl ⟨rfl,ht.2.imp id fun h=>⟨rfl,iK h.2⟩⟩) (fun t ht _=>absurd ht.1 (by simp[qC.used])) (fun _=>trivial)
   (fun bM=>by
    refine⟨vs,elem,fz,by rw[pn];exact h1,h2,by rw[pn];exact h3,by rw[pn,List.length_take];simp only;omega,by rw[pn,List.length_take,List.length_take,h5],by rw[pn];exact List.nodup_cons.2 ⟨fun h=>DK (iK h),DL⟩,fun x hx=>h7 x (by rw[pn]at hx;exact iK hx),fun _ _ _ h=>(by cases h),fun i p k a c=>?_⟩
    rw[pn]at c
    simp only[List.getElem?_take]at a c
    split at a
    ·rename_i xB
     rw[if_pos xB]at c
     obtain⟨v,j1,j2,_⟩:=h9 i p k a c
     exact⟨v,j1,j2,fun _ _ h=>by cases h⟩
    cases a)
  exact⟨_,gg.1,gg.2,head _ 1 (by rw[pn]) (by rw[pn]) (by simp[qC.sh];omega) rfl,xB⟩
 cases hc
theorem nilv{sz:Nat}{v:Value}(h:RA w H ι Im (.pv (.sl true sz [])) v):v= .slice none 0 0:=by
 cases h with
 |pv _ _ h=>cases h;rfl
theorem Kn{a:Act}{s:St}{nt:Nat}(h:Inv w a s ι Im nt){H1:qn}{ι1:vG}{nx1:Nat}(hi1:qW w H1 ι1 Im)(e1:w8 w s.heap ι Im w H1 ι1 Im)(xt: ∀β b,H1.get β=some b->β<nx1)
  (hbox: ∀β c,s.heap.get β=some (.box c)->H1.get β=some (.box c)) {t:Nat} {x:AV} (hx: ∀v,RA w s.heap ι Im (gr s t) v->RA w H1 ι1 Im x v) (Z5:x.kv=true):
  ∃ι',Inv w a (ou { s with heap:=H1,nx:=nx1 } t x) ι' Im nt/\w8 w s.heap ι Im w (ou { s with heap:=H1,nx:=nx1 } t x).heap ι' Im:=by
 have h1:Inv w a { s with heap:=H1,nx:=nx1 } ι1 Im nt:=⟨hi1,fun t=>(h.env t).mono h.heap e1,xt,h.size,h.defers⟩;unfold ou;split
 ·rename_i ht;refine⟨ι1,⟨hi1,fun t' =>?_,xt,h.size,h.defers⟩,e1⟩;show RA w H1 ι1 Im (vF.get ((t,x)::s.env) t') _;simp only[vF.get];split
  ·rename_i e;subst e;refine hx _ ?_;unfold gr;rw[if_pos ht];exact h.env t
  exact(h.env t').mono h.heap e1
 rename_i ht;split;rotate_left
 ·exact⟨ι1,h1,e1⟩
 rename_i β o hp;split;rotate_left
 ·exact⟨ι1,h1,e1⟩
 rename_i c hb;split;rotate_left
 ·exact⟨ι1,h1,e1⟩
 rename_i xB;have hp' :s.env.get (t % 1000)= .ptr β o:=hp;have xQ:H1.get β=some (.box c):=hb;have ZK:s.heap.get β=some (.box c):=by
  have he:=h.env (t % 1000);rw[hp']at he;generalize a.tmps.getD (t % 1000) undef=u at he;cases he with
  |ptr _ _ b hbb hk=>
   cases b<;>simp only[qC.EB,w9]at hk;rename_i c0;have:=hbox β c0 hbb;rw[this]at xQ;cases xQ;exact hbb
 have hsv: ∀v0,c[o+(t / 1000-1)]? =some v0->gr s t=v0:=fun v0 Yt=>by
  unfold gr;rw[if_neg ht,hp'];simp only;rw[ZK];simp only;rw[Yt]
 obtain⟨h2,e2⟩:=qW.put (Qf:=TG xQ rfl) (w' :=w) hi1 β (.box (c.set (o+(t / 1000-1)) x)) (ι1 β) (fun y hy=>by rw[xQ]at hy;cases hy;rfl) ⟨xJ _,rfl,rfl⟩ (fun _ _ _=>rfl)
  (fun _=> .inr ⟨_,xQ,rfl,rfl⟩) (fun he=>by
   obtain⟨vs,elem,fz,q1,q2,q3,q4,q5⟩:=hi1.box xQ
   refine⟨vs,elem,fz,by simpa using q1,q2,by simpa using q3,fun y hy=>?_,fun i y v hy hv=>?_⟩
   ·rcases List.mem_or_eq_of_mem_set hy with hy|rfl
    ·exact q4 y hy
    exact Z5
   rw[List.getElem?_set]at hy
   split at hy
   ·rename_i e
    subst e
    cases hy
    obtain⟨vs0,elem0,fz0,p1,p2,p3,p4,p5⟩:=h.heap.box ZK
    have hcomp:=e1.comp β _ ZK
    obtain⟨b',g,hc⟩:=hcomp
    rw[xQ]at g
    cases g
    have sH:ι β=ι1 β:=hc
    rw[<- sH,p1]at q1
    cases q1
    refine(hx v ?_).mono hi1 he
    rw[hsv c[o+(t / 1000-1)] (by simp[xB])]
    exact p5 _ _ v (by simp[xB]) hv
   exact(q5 i y v hy hv).mono hi1 he)
 refine⟨_,⟨h2,fun t' =>((h.env t').mono h.heap e1).mono hi1 e2,fun δ b hδ=>?_,h.size,h.defers⟩,e1.trans e2⟩;have hδ' :(qn.put H1 β (.box (c.set (o+(t / 1000-1)) x))).get δ=some b:=hδ;rw[qn.qZ]at hδ';split at hδ'
 ·rename_i e;subst e;exact xt _ _ xQ
 exact xt δ b hδ'
theorem prom_ok(hi:qW w H ι Im){nx:Nat}(xt: ∀β b,H.get β=some b->β<nx)(fw:List Nat):
  qW w (H.put nx (om fw)) (jj ι nx ⟨0,0,[]⟩) Im/\w8 w H ι Im w (H.put nx (om fw)) (jj ι nx ⟨0,0,[]⟩) Im:=by
 have ep:H.get nx=none:=by
  cases hh:H.get nx with
  |none=>rfl
  |some b=>have:=xt nx b hh;omega
 cases fw with
 |nil=>exact qW.ML hi nx (.row true 0 []) ⟨0,0,[]⟩ (fun x hx=>by rw[ep]at hx;cases hx) ⟨xJ _,rfl,rfl⟩ (fun _ _ _=>rfl) (fun z hz=>absurd hz.1 (by simp[qC.used])) (fun _=>rfl)
 |cons d ds=>exact qW.ML hi nx (.jI true (d::ds) [] none) ⟨0,0,[]⟩ (fun x hx=>by rw[ep]at hx;cases hx) ⟨xJ _,rfl,rfl⟩ (fun _ _ _=>rfl) (fun z hz=>absurd hz.1 (by simp[qC.used])) (fun _=>⟨rfl,rfl⟩)
theorem cmd1_ok{a:Act}{s:St}{nt:Nat}(h:Inv w a s ι Im nt)(c:RW): ∃ι' jA,Inv w a (W2 c s) ι' jA nt/\w8 w s.heap ι Im w (W2 c s).heap ι' jA:=by
 have Ks: ∃ι' jA,Inv w a s ι' jA nt/\w8 w s.heap ι Im w s.heap ι' jA:=⟨ι,Im,h,w8.refl _ _ _ _⟩;unfold W2;split
 ·rename_i t is;split
  ·rename_i β zF n l hs hl;obtain⟨ι1,a1,a2,a3⟩:=Jz l (β:=β) h.heap h.nx;exact⟨ι1,Im,⟨a1,fun t=>(h.env t).mono h.heap a2,a3,h.size,h.defers⟩,a2⟩
  exact Ks
 ·rename_i t;split
  ·rename_i β zF off n hs;obtain⟨ι1,a1,a2,a3⟩:=GJ 4 h.heap β;exact⟨ι1,Im,⟨a1,fun t=>(h.env t).mono h.heap a2,fun δ b hδ=>by obtain⟨b0,h0⟩:=a3 δ b hδ;exact h.nx δ b0 h0,h.size,h.defers⟩,a2⟩
  exact Ks
 ·rename_i t;split;rotate_left
  ·exact Ks
  rename_i β zF n hs;split;rotate_left
  ·exact Ks
  rename_i b hb;split;rotate_left
  ·exact Ks
  rename_i l y hc;split;rotate_left
  ·exact Ks
  rename_i xU;subst xU;obtain⟨ι1,a1,a2,a3,a4⟩:=cut_ok h.heap h.nx hb hc;refine Exists.imp (fun ι2 hh=>⟨Im,hh⟩) ?_;refine Kn h a1 a2 a4 (fun γ c hγ=>?_) (fun v hv=>a3 v (by rw[hs]at hv;exact hv)) rfl;have e1:γ≠β:=by
   intro e;subst e;rw[hb]at hγ;cases hγ;simp[Jn]at hc
  have e2:γ≠s.nx:=fun e=>by have:=h.nx γ _ hγ;omega
  simp[qn.qZ,e1,e2,hγ]
 ·rename_i t fw;split;rotate_left
  ·exact Ks
  rename_i sz hs;obtain⟨a1,a2⟩:=prom_ok h.heap h.nx fw;refine Exists.imp (fun ι2 hh=>⟨Im,hh⟩) ?_;refine Kn h a1 a2 (fun δ b hδ=>?_) (fun γ c hγ=>?_) (fun v hv=>?_) rfl
  ·rw[qn.qZ]at hδ;split at hδ
   ·omega
   have:=h.nx δ b hδ;omega
  ·have e2:γ≠s.nx:=fun e=>by have:=h.nx γ _ hγ;omega
   simp[qn.qZ,e2,hγ]
  rw[hs]at hv;rw[nilv hv];cases fw with
  |nil=>exact .row _ _ _ _ _ (.row true 0 []) rfl (by simp[qn.qZ,om]) (fun _=>⟨_,_,_,rfl⟩) (fun _ _ _ e=>by cases e;exact xJ _) (fun _ _ _ e _=>by cases e;exact⟨by simp,rfl⟩)
  |cons d ds=>exact .row _ _ _ _ _ (.jI true (d::ds) [] none) rfl (by simp[qn.qZ,om]) (fun _=>⟨_,_,_,rfl⟩) (fun _ _ _ e=>by cases e;exact xJ _) (fun _ _ _ e _=>by cases e;exact⟨by simp,rfl⟩)
 rename_i t;obtain⟨aU,h1,e1⟩:=mM (XC s (gr s t)) h;exact⟨ι,aU,h1,e1⟩
theorem Xy{a:Act}{nt:Nat}: ∀(l:List RW){s:St}{ι:vG}{Im:Nat->Prop},Inv w a s ι Im nt-> ∃ι' jA,Inv w a (mg l s) ι' jA nt/\w8 w s.heap ι Im w (mg l s).heap ι' jA
 |[],s,ι,Im,h=>⟨ι,Im,h,w8.refl _ _ _ _⟩
 |c::r,s,ι,Im,h=>by
  obtain⟨ι1,aU,a1,a2⟩:=cmd1_ok h c;obtain⟨ι2,Uz,b1,b2⟩:=Xy r a1;exact⟨ι2,Uz,b1,a2.trans b2⟩
end
theorem C8{P:Program}{f:FuncId}{fn:Func}{s:ChangeSpec}{c:OpenClaim}(h1:(c.inPlace==P.inPlace f)=true)(h2:(c.unfollowed==P.unfollowed f)=true)(h3:(c.recurses==P.recurses f)=true)(h4:(c.named==P.varsNamed f)=true)
  (h:(c.wf (OpenSpec.ofChange s)&&laidOutB P&&mapsRowed P&&fn.params.all (P.readableRec ·)&&namedTie P c.named s.vars&&(c.stops==[])&&(P.stops==[])&&(c.knobs==[])&&(P.stopKnobs==[])&&(c.maps==(fn.params.toList++s.plain.varTypes P).any (P.mapsRec ·))&&(c.ifaces==(fn.params.toList++s.plain.varTypes P).any (P.ifacesRec ·))&&(c.mapsOut==P.mapsAmong fn.resultTypes.toList)&&(c.loops==(fn.params.toList++s.plain.varTypes P).any (P.loopsFrom ·))&&(c.wideKeys==(fn.params.toList++s.plain.varTypes P++fn.resultTypes.toList).any (P.wideKeysFrom ·))&&s.vars.all (P.varReadable ·)&&fn.resultTypes.all (fun t=>P.readableRec t&&decide (t<P.types.size))&&(c.ifacesOut==fn.resultTypes.toList.any (P.ifacesRec ·))&&(c.loopsOut==fn.resultTypes.toList.any (P.loopsFrom ·))&&(c.plainKeys==P.plainKeys)&&c.shortTexts.isNone&&P.stopsHeard&&P.mayEnter&&(c.lifted==P.liftsFinal)&&(P.make==some c.make)&&(c.kinds==(if c.domain.isEmpty then[]else fn.params.toList.map fun t=>match P.underlying t with|some (.int k)=>some k|_=>none))&&(c.pinned==c.pinnedBy)&&(c.veiled==(fn.params.toList++s.plain.varTypes P++fn.resultTypes.toList).any (P.veiledRec ·))&&c.veiledFits P fn.params.toList (fn.params.toList++s.plain.varTypes P++fn.resultTypes.toList))=true):joinedFacts P f fn s c=true:=by
 unfold joinedFacts;simp only[h1,h2,h3,h4,Bool.and_true];exact h
section
variable [zN] {P:Program} {w:World} {H:qn} {ι:vG} {Im:Nat->Prop}
theorem mD(g:Nat->Nat): ∀(l:List AV)(i:Nat),(AV.rE.iU g l)[i]? =(l[i]?).map (AV.rE g)
 |[],i=>by simp[AV.rE.iU]
 |x::r,i=>by
  cases i with
  |zero=>simp[AV.rE.iU]
  |succ i=>simp[AV.rE.iU,mD g r i]
theorem su(g:Nat->Nat): ∀(l:List AV),(AV.rE.iU g l).length=l.length
 |[]=>rfl
 |x::r=>by simp[AV.rE.iU,su g r]
theorem Kf(g:Nat->Nat){x:AV}(h:x.kv=true):(x.rE g).kv=true:=by
 cases x<;>simp[AV.kv]at h<;>first|rfl|exact h
theorem vi{β:Nat}: ∀{l:List AV}{i:Nat}{x:AV},l[i]? =some x->β∈x.refs->β∈AV.refs.mb l
 |[],i,x,h,_=>by simp at h
 |y::r,i,x,h,hβ=>by
  simp only[AV.refs.mb,List.mem_append];cases i with
  |zero=>simp at h;subst h;exact .inl hβ
  |succ i=>exact .inr (vi (by simpa using h) hβ)
theorem lG(g:Nat->Nat)(b:qC):(b.rE g).sh=b.sh:=by
 cases b<;>simp[qC.rE,qC.sh]
theorem Zy{x y:qC}{p q:Pl}(g:Nat->Nat)(h:xi x y p q):xi x (y.rE g) p q:=by
 unfold xi at*
 rw[lG];cases hx:x.sh with
 |some a=>
  cases hy:y.sh with
  |some b=>rw[hx,hy]at h;exact h
  |none=>
   rw[hx,hy]at h;have h' :y= .xf:=h;subst h';rfl
 |none=>
  cases hy:y.sh with
  |some b=>rw[hx,hy]at h;exact h
  |none=>
   rw[hx,hy]at h;cases x<;>cases y<;>first|exact h|exact(h:False).elim
theorem lF{H' :qn}{ι' :vG}(g:Nat->Nat){x:AV}{v:Value}(hx:RA w H ι Im x v)
  (hg: ∀β∈x.refs,∀ b,H.get β=some b->H'.get (g β)=some (b.rE g)/\(ι' (g β))=ι β):RA w H' ι' Im (x.rE g) v:=by
 induction hx with
 |undef v=>exact .undef v
 |pv p v h=>exact .pv p v h
 |ptr β o c hb hk=>
  obtain⟨h1,h2⟩:=hg β (by simp[AV.refs]) _ hb;rw[<- h2];exact .ptr (g β) o _ h1 (by cases c<;>first|rfl|cases hk)
 |yT β zF i o b1 o1 b hb xU h=>
  obtain⟨h1,h2⟩:=hg β (by simp[AV.refs]) _ hb;refine .yT (g β) zF i o b1 o1 _ h1 (fun qq sz es e=>?_) (fun qq sz es e=>?_)
  ·rw[lG]at e;exact xU _ _ _ e
  rw[lG]at e;rw[h2];exact h _ _ _ e
 |row β zF off n v b ho hb hk xU h=>
  obtain⟨h1,h2⟩:=hg β (by simp[AV.refs]) _ hb;refine .row (g β) zF off n v _ ho h1 (fun h0=>?_) (fun qq sz es e=>?_) (fun qq sz es e=>?_)
  ·rw[lG];exact hk (fun e=>h0 (by rw[e];rfl))
  ·rw[lG]at e;exact xU _ _ _ e
  rw[lG]at e;rw[h2];exact h _ _ _ e
 |mR c o b off vs oI hc hf h=>exact .mR c o b off vs oI hc hf h
 |aT a=>exact .aT a
 |map β es zI hb=>
  obtain⟨h1,h2⟩:=hg β (by simp[AV.refs]) _ hb;rw[<- h2];exact .map (g β) es zI h1
 |lp f a b va vb W8 Ti _ _ iha ihb=>
  refine .lp f _ _ va vb (by rw[su,W8]) (by rw[su,Ti]) (fun i x v h1 h2=>?_) (fun i x v h1 h2=>?_)
  ·rw[mD]at h1;simp only[yi]at h1;obtain⟨y,hy,rfl⟩:=h1;exact iha i y v hy h2 fun β hβ=>hg β (by simp only[AV.refs,List.mem_append];exact .inl (vi hy hβ))
  rw[mD]at h1;simp only[yi]at h1;obtain⟨y,hy,rfl⟩:=h1;exact ihb i y v hy h2 fun β hβ=>hg β (by simp only[AV.refs,List.mem_append];exact .inr (vi hy hβ))
 |agg c vs hl hf _ ih=>
  refine .agg _ vs (by rw[su,hl]) (fun x hx=>?_) (fun i x v h1 h2=>?_)
  ·obtain⟨i,hi⟩:=jz hx;rw[mD]at hi;simp only[yi]at hi;obtain⟨y,hy,rfl⟩:=hi;exact Kf g (hf y (qX hy))
  rw[mD]at h1;simp only[yi]at h1;obtain⟨y,hy,rfl⟩:=h1;exact ih i y v hy h2 fun β hβ=>hg β (by simp only[AV.refs];exact vi hy hβ)
 |xS c vs hl _ ih=>
  refine .xS _ vs (by rw[su,hl]) (fun i x v h1 h2=>?_);rw[mD]at h1;simp only[yi]at h1;obtain⟨y,hy,rfl⟩:=h1;exact ih i y v hy h2 fun β hβ=>hg β (by simp only[AV.refs];exact vi hy hβ)
theorem qC.Oh(g:Nat->Nat)(b:qC):(b.rE g).used=b.used:=by
 cases b<;>rfl
theorem qC.ren_isO(g:Nat->Nat)(b:qC):(b.rE g).Tt=b.Tt:=by
 cases b<;>rfl
theorem qC.bJ(g:Nat->Nat)(b:qC)(q:Pl)(x:Nat):(b.rE g).vn q x=b.vn q x:=by
 unfold qC.vn;rw[qC.Oh,qC.ren_isO]
theorem pE.rE{H' :qn}{ι' :vG}(g:Nat->Nat){β β' :Nat}{b:qC}(h:pE w H ι Im β b)(hp:ι' β' =ι β)
  (hg: ∀γ∈b.refs,∀ c,H.get γ=some c->H'.get (g γ)=some (c.rE g)/\(ι' (g γ))=ι γ):pE w H' ι' Im β' (b.rE g):=by
 cases b with
 |box c=>
  obtain⟨vs,elem,fz,q1,q2,q3,q4,q5⟩:=h;refine⟨vs,elem,fz,by rw[hp];exact q1,q2,by rw[su,q3],fun x hx=>?_,fun i x v a b=>?_⟩
  ·obtain⟨i,hi⟩:=jz hx;rw[mD]at hi;simp only[yi]at hi;obtain⟨y,hy,rfl⟩:=hi;exact Kf g (q4 y (qX hy))
  rw[mD]at a;simp only[yi]at a;obtain⟨y,hy,rfl⟩:=a;exact lF g (q5 i y v hy b) fun γ hγ=>hg γ (by simp only[qC.refs];exact vi hy hγ)
 |row qq sz es=>
  cases qq with
  |true=>exact h
  |false=>
   obtain⟨vs,elem,fz,q1,q2,q3,q4,q5,q6,q7,q8⟩:=h;exact⟨vs,elem,fz,by rw[hp];exact q1,q2,by rw[hp];exact q3,q4,by rw[hp];exact q5,q6,q7,q8⟩
 |map es zI=>
  obtain⟨zO,q1,q2,q3⟩:=h;exact⟨zO,by rw[hp];exact q1,q2,q3⟩
 |yq sz es=>
  obtain⟨vs,elem,fz,q1,q2,q3,q4,q5,q6,q7,q8⟩:=h;have get: ∀(i:Nat) e(j:Nat) x,(es.map (AV.rE.iU g))[i]? =some e->e[j]? =some x-> ∃e0 y,es[i]? =some e0/\e0[j]? =some y/\x=y.rE g:=by
   intro i e j x h1 h2;rw[List.getElem?_map,yi]at h1;obtain⟨e0,h1,rfl⟩:=h1;rw[mD,yi]at h2;obtain⟨y,h2,rfl⟩:=h2;exact⟨e0,y,h1,h2,rfl⟩
  refine⟨vs,elem,fz,by rw[hp];exact q1,q2,by rw[hp];exact q3,q4,by rw[hp];simpa using q5,fun e he=>?_,fun i e j x a b=>?_,fun i e j x a b=>?_⟩
  ·obtain⟨e0,h0,rfl⟩:=List.mem_map.1 he;rw[su];exact q6 e0 h0
  ·obtain⟨e0,y,h1,h2,rfl⟩:=get i e j x a b;exact Kf g (q7 i e0 j y h1 h2)
  obtain⟨e0,y,h1,h2,rfl⟩:=get i e j x a b;obtain⟨v,k1,k2⟩:=q8 i e0 j y h1 h2;exact⟨v,k1,lF g k2 fun γ hγ=>hg γ (by
   simp only[qC.refs,List.mem_flatMap]
   exact⟨e0,qX h1,vi h2 hγ⟩)⟩
 |jI qq ds es i5=>
  cases qq with
  |true=>
   obtain⟨q1,q2⟩:=h;exact⟨q1,by rw[q2];rfl⟩
  |false=>
   obtain⟨vs,elem,fz,q1,q2,q3,q4,q5,q6,q7,q8,q9⟩:=h;refine⟨vs,elem,fz,by rw[hp];exact q1,q2,by rw[hp];exact q3,by rw[hp];exact q4,by rw[hp];exact q5,by rw[hp];exact q6,by rw[hp];exact q7,fun j γ zF hf=>?_,fun i p k a b=>?_⟩
   ·rw[yi]at hf;obtain⟨⟨j0,γ0,ver0⟩,hf,e⟩:=hf;cases e;exact q8 _ _ _ hf
   obtain⟨v,k1,k2,k3⟩:=q9 i p k a (by rw[<- hp];exact b);refine⟨v,k1,fun hj=>k2 fun j γ zF hf=>hj j (g γ) zF (by rw[hf];rfl),fun γ zF hf=>?_⟩;rw[yi]at hf;obtain⟨⟨j0,γ0,ver0⟩,hf,e⟩:=hf;cases e;obtain⟨k4,k5⟩:=k3 _ _ hf;refine⟨k4,lF g k5 fun γ hγ=>hg γ ?_⟩;simp only[AV.refs,List.mem_singleton]at hγ;subst hγ;simp only[qC.refs,hf,List.mem_singleton]
 |xf=>trivial
theorem iM: ∀(L:List Nat)(x:Nat),JY L x=true↔x∈L
 |[],x=>by simp[JY]
 |β::r,x=>by
  simp only[JY,List.mem_cons];split
  ·rename_i h;subst h;simp
  rename_i h;rw[iM r x];constructor
  ·exact .inr
  rintro(h2|h2)
  ·exact absurd h2.symm h
  exact h2
theorem Kx: ∀(l L:List Nat),Un l L=true↔ ∀x∈l,x∈L
 |[],L=>by simp[Un]
 |x::r,L=>by simp[Un,iM,Kx r L]
theorem Qy: ∀(L:List Nat)(x:Nat),x∈L->L[pos L x]? =some x
 |[],x,h=>by cases h
 |β::r,x,h=>by
  simp only[pos];split
  ·rename_i e;simp[e]
  rename_i e;have:x∈r:=by
   rcases List.mem_cons.1 h with h|h
   ·exact absurd h.symm e
   exact h
  simpa using Qy r x this
theorem Iu{L:List Nat}{x:Nat}(h:x∈L):pos L x<L.length:=(qF (Qy L x h)).1
theorem c9: ∀{L:List Nat},L.Nodup-> ∀{i:Nat}{x:Nat},L[i]? =some x->pos L x=i
 |[],_,i,x,h=>by simp at h
 |β::r,hn,i,x,h=>by
  obtain⟨h1,h2⟩:=List.nodup_cons.1 hn;cases i with
  |zero=>simp at h;simp[pos,h]
  |succ i=>
   simp at h;have hx:x∈r:=qX h;have jv:β≠x:=fun e=>h1 (e ▸ hx);simp[pos,jv,c9 h2 h]
theorem lE(H:qn): ∀(n:Nat)(todo d:List Nat),d.Nodup->(bE H n todo d).Nodup/\ ∃r,bE H n todo d=d++r
 |0,todo,d,h=>⟨h,[],by simp[bE]⟩
 |n+1,[],d,h=>⟨h,[],by simp[bE]⟩
 |n+1,β::r,d,h=>by
  simp only[bE];split
  ·exact lE H n r d h
  rename_i hm;have hm' :β∉d:=fun h=>hm ((iM d β).2 h);obtain⟨h1,r',h2⟩:=lE H n (r++(tB H β).refs) (d++[β]) (by
   rw[List.nodup_append]
   exact⟨h,by simp,by
    intro a ha b hb e
    simp at hb
    subst hb e
    exact hm' ha⟩)
  exact⟨h1,β::r',by rw[h2];simp⟩
theorem GN(H:qn)(g:Nat->Nat): ∀(i:Nat)(L:List Nat)(j:Nat),(pick H g i L).get j=if i<=j/\j<i+L.length then(L[j-i]?).map fun β=>(tB H β).rE g else none
 |i,[],j=>by
  simp[pick,qn.get]
 |i,β::r,j=>by
  simp only[pick,qn.get,GN H g (i+1) r j,List.length_cons];by_cases h:i=j
  ·subst h;simp
  rw[if_neg h];by_cases h2:i+1<=j/\j<i+1+r.length
  ·rw[if_pos h2,if_pos (by omega)];obtain⟨m,rfl⟩: ∃m,j=i+1+m:=⟨j-(i+1),by omega⟩;rw[show i+1+m-(i+1)=m from by omega,show i+1+m-i=m+1 from by omega];simp
  rw[if_neg h2,if_neg (by omega)]
theorem GO(H:qn)(g:Nat->Nat): ∀(i:Nat)(L:List Nat),(pick H g i L).length=L.length
 |_,[]=>rfl
 |i,β::r=>by simp[pick,GO H g (i+1) r]
theorem oV(H:qn)(L:List Nat): ∀(l:List Nat),mn H L l=true-> ∀β∈l,∃ b,H.get β=some b/\ ∀γ∈b.refs,γ∈L
 |[],_,β,h=>by cases h
 |x::r,h,β,hβ=>by
  simp only[mn,zB]at h;rcases List.mem_cons.1 hβ with rfl|hβ
  ·cases hb:H.get β with
   |none=>rw[hb]at h;simp at h
   |some b=>
    rw[hb]at h;exact⟨b,rfl,(Kx _ _).1 h.1⟩
  exact oV H L r h.2 β hβ
structure Q0 (H:qn) (L:List Nat) (H0:qn):Prop where
 nodup:L.Nodup
 look: ∀j,H0.get j=(L[j]?).bind fun β=>(H.get β).map (qC.rE (pos L))
 has: ∀β∈L,∃ b,H.get β=some b/\ ∀γ∈b.refs,γ∈L
 len:H0.length=L.length
theorem eI{d roots:List Nat}(hd:d.Nodup){L:List Nat}{H0:qn}(h:tu H d roots=some (L,H0)):
  Q0 H L H0/\(∀ β∈roots,β∈L)/\ ∃r,L=d++r:=by
 unfold tu at h;split at h
 ·cases h;exact⟨⟨List.nodup_nil,fun j=>by simp[qn.get],by simp,rfl⟩,by simp,[],rfl⟩
 simp only at h;split at h<;>cases h;rename_i hc;simp only[zB]at hc;obtain⟨h1,h2⟩:=lE H 400 (roots++d.flatMap fun β=>(tB H β).refs) d hd;have hs:=oV H _ _ hc.2;refine⟨⟨h1,fun j=>?_,hs,GO _ _ _ _⟩,(Kx _ _).1 hc.1,h2⟩;rw[GN];simp only[Nat.zero_le,true_and,Nat.zero_add,Nat.sub_zero];generalize bE H 400 _ d=L at*
 by_cases hj:j<L.length
 ·rw[if_pos hj];have:L[j]? =some L[j]:=by simp[hj]
  rw[this];obtain⟨b,hb,_⟩:=hs L[j] (by simp);simp[tB,hb]
 rw[if_neg hj,List.getElem?_eq_none (by omega)];rfl
def lM(ι:vG)(L:List Nat):vG:=fun i=>match L[i]? with|some β=>ι β|none=>⟨0,0,[]⟩
theorem Q0.HK{L:List Nat}{H0:qn}(h:Q0 H L H0){β:Nat}(hβ:β∈L): ∀b,H.get β=some b->H0.get (pos L β)=some (b.rE (pos L))/\lM ι L (pos L β)=ι β:=by
 intro b hb;have:=Qy L β hβ;rw[h.look,this];simp[hb,lM,this]
theorem Q0.inv{L:List Nat}{H0:qn}(h:Q0 H L H0){j:Nat}{b:qC}(hj:H0.get j=some b): ∃β b0,L[j]? =some β/\H.get β=some b0/\b=b0.rE (pos L)/\lM ι L j=ι β:=by
 rw[h.look]at hj;cases hL:L[j]? with
 |none=>rw[hL]at hj;cases hj
 |some β=>
  rw[hL]at hj;simp only[z7,yi]at hj;obtain⟨b0,ZK,rfl⟩:=hj;exact⟨β,b0,rfl,ZK,rfl,by simp[lM,hL]⟩
theorem Q0.hinv{L:List Nat}{H0:qn}(h:Q0 H L H0)(hi:qW w H ι Im):qW w H0 (lM ι L) Im where
 mW:=fun j b hj=>by
  obtain⟨β,b0,h1,h2,rfl,h4⟩:=h.inv (ι:=ι) hj;refine(hi.mW β b0 h2).rE (pos L) h4 fun γ hγ=>?_;obtain⟨b1,q1,q2⟩:=h.has β (qX h1);rw[h2]at q1;cases q1;exact h.HK (q2 γ hγ)
 inj:=fun i j b c z vq NX ub uc=>by
  obtain⟨β,b0,h1,h2,rfl,h4⟩:=h.inv (ι:=ι) vq;obtain⟨γ,c0,k1,k2,rfl,k4⟩:=h.inv (ι:=ι) NX;rw[qC.bJ,h4]at ub;rw[qC.bJ,k4]at uc;have:=hi.inj β γ b0 c0 z h2 k2 ub uc;subst this;rw[<- c9 h.nodup h1,<- c9 h.nodup k1]
 im:=hi.im
 KH:=fun j b z hj hu=>by
  obtain⟨β,b0,h1,h2,rfl,h4⟩:=h.inv (ι:=ι) hj;rw[qC.bJ,h4]at hu;exact hi.KH β b0 z h2 hu
 HY:=hi.HY
 W4:=hi.W4
end
section
variable [zN] {P:Program} {w w' :World} {H H0 H' :qn} {ι ι' :vG} {Im jA:Nat->Prop} {L:List Nat} {nx:Nat}
theorem jB: ∀(ws:List (Nat×qC))(H:qn)(γ:Nat),(∀ x∈ws,x.1≠γ)->(qS ws H).get γ=H.get γ
 |[],H,γ,_=>rfl
 |(i,b)::r,H,γ,h=>by
  simp only[qS];rw[jB r _ γ fun x hx=>h x (by simp[hx]),qn.qZ];rw[if_neg (fun e=>h (i,b) (by simp) e.symm)]
theorem sU(g:Nat->Nat): ∀(H:qn)(i:Nat),yV i H=true-> ∀x∈vj g H,∃ j,i<=j/\j<i+H.length/\x.1=g j
 |[],i,_,x,h=>by simp[vj]at h
 |(k,b)::r,i,hk,x,h=>by
  simp only[yV,zB,decide_eq_true_eq]at hk;obtain⟨rfl,hk⟩:=hk;simp only[vj,List.mem_cons]at h;rcases h with rfl|h
  ·exact⟨k,xJ _,by simp,rfl⟩
  obtain⟨j,h1,h2,h3⟩:=sU g r (k+1) hk x h;exact⟨j,by omega,by simp only[List.length_cons];omega,h3⟩
theorem tV: ∀(H:qn)(i:Nat),yV i H=true-> ∀{j:Nat}{b:qC},H.get j=some b->i<=j/\j<i+H.length
 |[],i,_,j,b,h=>by simp[qn.get]at h
 |(k,b0)::r,i,hk,j,b,h=>by
  simp only[yV,zB,decide_eq_true_eq]at hk;obtain⟨rfl,hk⟩:=hk;simp only[qn.get]at h;split at h
  ·rename_i e;subst e;simp
  have:=tV r (k+1) hk h;simp only[List.length_cons];omega
theorem X0(g:Nat->Nat): ∀(H' H:qn)(i:Nat),yV i H' =true->(∀ j k,i<=j->j<i+H'.length->i<=k->k<i+H'.length->g j=g k->j=k)->
  ∀{j:Nat}{b:qC},H'.get j=some b->(qS (vj g H') H).get (g j)=some (b.rE g)
 |[],H,i,_,_,j,b,h=>by simp[qn.get]at h
 |(k,b0)::r,H,i,hk,hg,j,b,h=>by
  simp only[yV,zB,decide_eq_true_eq]at hk;obtain⟨rfl,hk⟩:=hk;simp only[qn.get]at h;simp only[vj,qS];split at h
  ·rename_i e;subst e;cases h;rw[jB _ _ _ fun x hx=>?_,qn.qZ,if_pos rfl];obtain⟨m,h1,h2,h3⟩:=sU g r (k+1) hk x hx;rw[h3];intro e;have:=hg m k (by omega) (by simp only[List.length_cons];omega) (xJ _) (by simp) e;omega
  exact X0 g r _ (k+1) hk (fun j' k' a1 a2 a3 a4 e=>hg j' k' (by omega) (by simp only[List.length_cons];omega) (by omega) (by simp only[List.length_cons];omega) e) h
theorem NF{x y:qC}{p q:Pl}{f g:Nat->Nat}(h:xi (x.rE f) y p q):xi x (y.rE g) p q:=by
 unfold xi at*
 rw[lG]at h |-;cases hx:x.sh with
 |some a=>
  cases hy:y.sh with
  |some b=>rw[hx,hy]at h;exact h
  |none=>
   rw[hx,hy]at h;have h' :y= .xf:=h;subst h';rfl
 |none=>
  cases hy:y.sh with
  |some b=>rw[hx,hy]at h;exact h
  |none=>
   rw[hx,hy]at h;cases x<;>cases y<;>first|exact h|exact(h:False).elim
def Q4(ι ι' :vG)(L:List Nat)(nx n:Nat):vG:=fun γ=>if γ∈L then ι' (pos L γ)else if nx<=γ/\γ<nx+(n-L.length)then ι' (L.length+(γ-nx))else ι γ
theorem back_ok(hs:Q0 H L H0)(hi:qW w H ι Im){X:Nat->Prop}(xt:Bd X H nx)
  (vq:qW w' H' ι' jA) (he:w8 w H0 (lM ι L) Im w' H' ι' jA) (hk:yV 0 H' =true) (hX: ∀γ,X γ->nx+(H'.length-L.length)<=γ):
  qW w' (qS (vj (xO L nx) H') H) (Q4 ι ι' L nx H'.length) jA/\w8 w H ι Im w' (qS (vj (xO L nx) H') H) (Q4 ι ι' L nx H'.length) jA/\
   (∀{r:AV}{v:Value},RA w' H' ι' jA r v->RA w' (qS (vj (xO L nx) H') H) (Q4 ι ι' L nx H'.length) jA (r.rE (xO L nx)) v)/\
   Bd X (qS (vj (xO L nx) H') H) (nx+(H'.length-L.length)):=by
 have hLlt: ∀β∈L,β<nx\/nx+(H'.length-L.length)<=β:=fun β hβ=>by
  obtain⟨b,hb,_⟩:=hs.has β hβ;exact(xt β b hb).imp id (hX β)
 have g1: ∀{j β:Nat},L[j]? =some β->xO L nx j=β:=fun h=>by simp[xO,h]
 have g2: ∀{j:Nat},L.length<=j->xO L nx j=nx+(j-L.length):=fun h=>by simp[xO,List.getElem?_eq_none h]
 have ginj: ∀j k,j<H'.length->k<H'.length->xO L nx j=xO L nx k->j=k:=by
  intro j k NY mE e;by_cases hj:j<L.length<;>by_cases Xk:k<L.length
  ·have a1:L[j]? =some L[j]:=by simp[hj]
   have a2:L[k]? =some L[k]:=by simp[Xk]
   rw[g1 a1,g1 a2]at e;rw[<- c9 hs.nodup a1,<- c9 hs.nodup a2,e]
  ·have a1:L[j]? =some L[j]:=by simp[hj]
   rw[g1 a1,g2 (by omega)]at e;have:=hLlt _ (qX a1);omega
  ·have a2:L[k]? =some L[k]:=by simp[Xk]
   rw[g1 a2,g2 (by omega)]at e;have:=hLlt _ (qX a2);omega
  rw[g2 (by omega),g2 (by omega)]at e;omega
 have mq: ∀{j:Nat}{b:qC},H'.get j=some b->(qS (vj (xO L nx) H') H).get (xO L nx j)=some (b.rE (xO L nx)):=
  fun h=>X0 _ H' H 0 hk (fun j k _ NY _ mE e=>ginj j k (by omega) (by omega) e) h
 have er: ∀j,j<H'.length->Q4 ι ι' L nx H'.length (xO L nx j)=ι' j:=by
  intro j NY;unfold Q4;by_cases hj:j<L.length
  ·have a1:L[j]? =some L[j]:=by simp[hj]
   rw[g1 a1,if_pos (qX a1),c9 hs.nodup a1]
  rw[g2 (by omega),if_neg (fun h=>by have:=hLlt _ h;omega),if_pos (by omega)];congr 1;omega
 have hlen:L.length<=H'.length:=by
  rcases Nat.eq_zero_or_pos L.length with h|h
  ·omega
  have a1:L[L.length-1]? =some L[L.length-1]:=by simp[h]
  obtain⟨b,hb,_⟩:=hs.has _ (qX a1);have h0:H0.get (L.length-1)=some (b.rE (pos L)):=by rw[hs.look,a1];simp[hb]
  obtain⟨b',xQ,_⟩:=he.comp _ _ h0;have:=(tV H' 0 hk xQ).2;omega
 have AS: ∀γ,(∃ j,γ=xO L nx j/\j<H'.length)\/((∀ j,j<H'.length->γ≠xO L nx j)/\(qS (vj (xO L nx) H') H).get γ=H.get γ):=by
  intro γ;by_cases h: ∃j,j<H'.length/\γ=xO L nx j
  ·obtain⟨j,h1,h2⟩:=h;exact .inl ⟨j,h2,h1⟩
  refine .inr ⟨fun j hj e=>h ⟨j,hj,e⟩,jB _ _ _ fun x hx e=>?_⟩;obtain⟨j,_,h2,h3⟩:=sU _ H' 0 hk x hx;exact h ⟨j,by omega,by rw[<- e,h3]⟩
 have hnotL: ∀γ,(∀ j,j<H'.length->γ≠xO L nx j)->γ∉L:=by
  intro γ h hL;have:=Qy L γ hL;exact h (pos L γ) (Nat.lt_of_lt_of_le (Iu hL) hlen) (g1 this).symm
 have G7: ∀γ b,γ∉L->H.get γ=some b->Q4 ι ι' L nx H'.length γ=ι γ:=by
  intro γ b h hb;have:=(xt γ b hb).imp id (hX γ);unfold Q4;rw[if_neg h,if_neg (by omega)]
 have V6: ∀{i:Nat}{x:qC}{z:Nat},H0.get i=some x->x.vn (lM ι L i) z-> ∃β b,β∈L/\H.get β=some b/\b.vn (ι β) z:=by
  intro i x z h hu;obtain⟨β,b0,h1,h2,rfl,h4⟩:=hs.inv (ι:=ι) h;rw[qC.bJ,h4]at hu;exact⟨β,b0,qX h1,h2,hu⟩
 have ZM: ∀γ b z,γ∉L->H.get γ=some b->b.vn (ι γ) z->w'.heap[z]? =w.heap[z]? :=by
  intro γ b z hL hb hu;refine he.ka _ ((hi.mW γ b hb).rC hu) fun i x hx C0=>?_;obtain⟨β,b1,q1,q2,q3⟩:=V6 hx C0;exact hL (hi.inj β γ b1 b z q2 hb q3 hu ▸ q1)
 have bM:w8 w H ι Im w' (qS (vj (xO L nx) H') H) (Q4 ι ι' L nx H'.length) jA:=by
  refine⟨fun β b hb=>?_,he.im,fun b h=>?_,fun γ x z hx hu=>?_,fun b hb hn=>?_,he.size,he.io⟩
  ·by_cases hL:β∈L
   ·obtain⟨q1,q2⟩:=hs.HK (ι:=ι) hL b hb;obtain⟨b',q3,q4⟩:=he.comp _ _ q1;have q5:=mq q3;have e:xO L nx (pos L β)=β:=g1 (Qy L β hL);rw[e]at q5;refine⟨_,q5, ?_⟩;have:=er (pos L β) (Nat.lt_of_lt_of_le (Iu hL) hlen);rw[e]at this;rw[this,<- q2];exact NF q4
   rcases AS β with ⟨j,e,hj⟩|⟨h1,h2⟩
   ·exfalso;by_cases NY:j<L.length
    ·have a1:L[j]? =some L[j]:=by simp[NY]
     rw[g1 a1]at e;exact hL (e ▸ qX a1)
    rw[g2 (by omega)]at e;have:=(xt β b hb).imp id (hX β);omega
   exact⟨b,by rw[h2,hb],by rw[G7 β b hL hb];exact vV _ _⟩
  ·rcases he.mr b h with h|h|⟨i,x,h1,h2⟩
   ·exact .inl h
   ·exact .inr (.inl h)
   obtain⟨β,b1,q1,q2,q3⟩:=V6 h1 h2;exact .inr (.inr ⟨β,b1,q2,q3⟩)
  ·rcases AS γ with ⟨j,rfl,hj⟩|⟨h1,h2⟩
   ·rw[er j hj]at hu;cases xQ:H'.get j with
    |none=>
     exfalso;have key: ∀(H:qn)(i:Nat),yV i H=true-> ∀j,i<=j->j<i+H.length->H.get j≠none:=by
      intro H;induction H with
      |nil=>intro i _ j h1 h2;simp at h2;omega
      |cons y r ih=>
       intro i hk j h1 h2;obtain⟨k,b⟩:=y;simp only[yV,zB,decide_eq_true_eq]at hk;obtain⟨rfl,hk⟩:=hk;simp only[qn.get];split
       ·simp
       exact ih (k+1) hk j (by omega) (by simp only[List.length_cons]at h2;omega)
     exact key H' 0 hk j (Nat.zero_le _) (by omega) xQ
    |some b' =>
     rw[mq xQ]at hx;cases hx;rw[qC.bJ]at hu;rcases he.bC j b' z xQ hu with h|⟨i,x,q1,q2⟩
     ·exact .inl h
     obtain⟨β,b1,r1,r2,r3⟩:=V6 q1 q2;exact .inr ⟨β,b1,r2,r3⟩
   rw[h2]at hx;rw[G7 γ x (hnotL γ h1) hx]at hu;exact .inr ⟨γ,x,hx,hu⟩
  refine he.ka b hb fun i x hx C0=>?_;obtain⟨β,b1,q1,q2,q3⟩:=V6 hx C0;exact hn β b1 q2 q3
 have HK: ∀γ c,H'.get γ=some c->(qS (vj (xO L nx) H') H).get (xO L nx γ)=some (c.rE (xO L nx))/\Q4 ι ι' L nx H'.length (xO L nx γ)=ι' γ:=
  fun γ c h=>⟨mq h,er γ (by have:=(tV H' 0 hk h).2;omega)⟩
 have lt' : ∀{j:Nat}{b:qC},H'.get j=some b->j<H'.length:=fun h=>by have:=(tV H' 0 hk h).2;omega
 have split: ∀{γ b},(qS (vj (xO L nx) H') H).get γ=some b->(∃ j b',γ=xO L nx j/\H'.get j=some b' /\b=b'.rE (xO L nx))\/(γ∉L/\H.get γ=some b):=by
  intro γ b h;rcases AS γ with ⟨j,rfl,hj⟩|⟨h1,h2⟩
  ·cases xQ:H'.get j with
   |some b' =>
    rw[mq xQ]at h;cases h;exact .inl ⟨j,b',rfl,xQ,rfl⟩
   |none=>
    exfalso;have key: ∀(H:qn)(i:Nat),yV i H=true-> ∀j,i<=j->j<i+H.length->H.get j≠none:=by
     intro H;induction H with
     |nil=>intro i _ j h1 h2;simp at h2;omega
     |cons y r ih=>
      intro i hk j h1 h2;obtain⟨k,b⟩:=y;simp only[yV,zB,decide_eq_true_eq]at hk;obtain⟨rfl,hk⟩:=hk;simp only[qn.get];split
      ·simp
      exact ih (k+1) hk j (by omega) (by simp only[List.length_cons]at h2;omega)
    exact key H' 0 hk j (Nat.zero_le _) (by omega) xQ
  rw[h2]at h;exact .inr ⟨hnotL γ h1,h⟩
 have cross: ∀{j b' γ b z},H'.get j=some b' ->b'.vn (ι' j) z->γ∉L->H.get γ=some b->b.vn (ι γ) z->False:=by
  intro j b' γ b z h1 u1 hL h2 u2;rcases he.bC j b' z h1 u1 with h|⟨i,x,q1,q2⟩
  ·have:=(hi.mW γ b h2).rC u2;omega
  obtain⟨β,b1,r1,r2,r3⟩:=V6 q1 q2;exact hL (hi.inj β γ b1 b z r2 h2 r3 u2 ▸ r1)
 refine⟨⟨fun γ b h=>?_,fun γ γ' b b' z h h' u u' =>?_,vq.im,fun γ b z h hu=>?_,vq.HY,vq.W4⟩,bM,fun{r v} hr=>lF _ hr fun γ _ c hc=>HK γ c hc,fun γ b h=>?_⟩
 ·rcases split h with ⟨j,b',rfl,xQ,rfl⟩|⟨hL,hb⟩
  ·exact(vq.mW j b' xQ).rE _ (er j (lt' xQ)) fun γ _ c hc=>HK γ c hc
  exact(hi.mW γ b hb).mono hi bM (fun hu=>⟨G7 γ b hL hb,fun x hx=>ZM γ b x hL hb hx⟩)
 ·rcases split h with ⟨j,c,rfl,hc,rfl⟩|⟨hL,hb⟩
  ·rcases split h' with ⟨j',c',rfl,UA,rfl⟩|⟨hL',xQ⟩
   ·rw[er _ (lt' hc),qC.bJ]at u;rw[er _ (lt' UA),qC.bJ]at u';rw[vq.inj j j' c c' z hc UA u u']
   rw[er _ (lt' hc),qC.bJ]at u;rw[G7 γ' b' hL' xQ]at u';exact(cross hc u hL' xQ u').elim
  rcases split h' with ⟨j',c',rfl,UA,rfl⟩|⟨hL',xQ⟩
  ·rw[er _ (lt' UA),qC.bJ]at u';rw[G7 γ b hL hb]at u;exact(cross UA u' hL hb u).elim
  rw[G7 γ b hL hb]at u;rw[G7 γ' b' hL' xQ]at u';exact hi.inj γ γ' b b' z hb xQ u u'
 ·rcases split h with ⟨j,c,rfl,hc,rfl⟩|⟨hL,hb⟩
  ·rw[er _ (lt' hc),qC.bJ]at hu;exact vq.KH j c z hc hu
  rw[G7 γ b hL hb]at hu;intro hIm;rcases he.mr _ hIm with h|h|⟨i,x,q1,q2⟩
  ·exact hi.KH γ b z hb hu h
  ·have:=(hi.mW γ b hb).rC hu;omega
  obtain⟨β,b1,r1,r2,r3⟩:=V6 q1 q2;exact hL (hi.inj β γ b1 b z r2 hb r3 hu ▸ r1)
 rcases split h with ⟨j,c,rfl,hc,rfl⟩|⟨hL,hb⟩
 ·have h2:=(tV H' 0 hk hc).2;by_cases hj:j<L.length
  ·have a1:L[j]? =some L[j]:=by simp[hj]
   rw[g1 a1];obtain⟨b1,Yo,_⟩:=hs.has _ (qX a1);exact(xt _ b1 Yo).imp (fun h=>by omega) id
  rw[g2 (by omega)];exact .inl (by omega)
 exact(xt γ b hb).imp (fun h=>by omega) id
end
end Go.Gm
