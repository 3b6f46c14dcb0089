/- A symbolic walk over the model, and what it shows of functions of the program: parts of the proof that the text of the row joins. -/
import Derived.Test.YtijidjjfkahojaaGreatE2
import Derived.OrdersIn
open List renaming getD_eq_getElem?_getD->AS,getElem?_eq_getElem->AdH,mem_filter->AdK,mem_map->AdN,all_eq_true->AdO,range->AdP,mem_range->AdQ,mem_cons->AdR,mem_singleton->AdY,mem_append->Aef,getElem_mem->Aeg,length_append->Aei,getElem_of_mem->Aem,mem_append_right->Aez,eq_nil_of_length_eq_zero->Ae0,mem_of_getElem?->AeE,any_eq_true->AeY,map_map->Afj,length_take->Afx,map_congr_left->Af9
open Array renaming getD_eq_getD_getElem?->LS,getElem?_eq_getElem->AdI,getElem?_eq_some_iff->AdX,ext'->Aeq,replicate->Aey,all_eq_true_iff_forall_mem->AeO,getElem?_setIfInBounds->AeT,getElem?_eq_none->Afi
open Bool renaming and_eq_true->oE,or_eq_true->Aen,not_eq_true'->Aer,or_eq_false_iff->AeI
open Nat renaming le_refl->AdS,lt_of_lt_of_le->AdT,mul_le_mul_right->Aed,add_mul->Aet,lt_or_ge->Ae5,add_zero->Afs,eq_zero_or_pos->Afw,mod_eq_of_lt->AfA
open Prod.mk renaming injEq->Aeb
open Option renaming getD_some->Ae1
open Option.some renaming injEq->AeJ
namespace Go.SE
open Go.RowKit
section
variable {P:Program} {M:Nat->Prop} {w:World} {G:Bm} {st:St} {a:Act} {env:Aw} {X:Nat->Prop}
theorem R7 {o:Oper} {f:Operand} {args:Array Operand} {ts:Array TypeId} (ho:o.op=.call { callee:=.value f,args:=args,argTypes:=ts }) {g:Nat} {first caps:Array Value} (hf:a.eval f=.func (.func g) first caps) (hg:As P g) :
  (execOp a.eval o).run P w=.ok (.enter g (first++args.map a.eval++caps)) w:=by
 simp only[execOp,ho,resolve,hf,Deferred.ofValue,Sem.run_bind,Sem.run_pure,Result.andThen_ok,invoke];rw[hg]
theorem I5 {o:Oper} {f:Operand} {args:Array Operand} {ts:Array TypeId} (ho:o.op=.call { callee:=.value f,args:=args,argTypes:=ts }) {g:Nat} {caps:Array Value} (hf:a.eval f=.func (.func g) #[] caps) (hg:As P g) :
  (execOp a.eval o).run P w=.ok (.enter g (args.map a.eval++caps)) w:=by
 simp only[execOp,ho,resolve,hf,Deferred.ofValue,Sem.run_bind,Sem.run_pure,Result.andThen_ok,invoke];rw[hg];simp
theorem R8 {ρ:Operand->Option EV} (hρ:∀x e,ρ x=some e->Ap P M w env e (a.eval x)):∀{xs:List Operand} {ss:List SV},Kn ρ xs=some ss->Bk M w ss (xs.map a.eval)
 |[],ss,h=>by simp only[Kn]at h;cases h;exact⟨rfl,fun i hi=>by simp at hi⟩
 |x::xs,ss,h=>by
   simp only[Kn]at h;split at h
   ·rename_i s ss' hx hs;cases h;have ih:=R8 hρ hs;have h1:=hρ _ _ hx;rcases h1 with ⟨h1⟩;refine⟨by simpa using ih.1,fun i hi=>?_⟩;cases i with
    |zero=>simpa[SV.at]using h1
    |succ i=>simpa[SV.at]using ih.2 i (by simpa using hi)
   ·cases h
theorem jN (hG:Bn G) (S:An P G st a w env M X) {t e:TypeId} {y:Ty} (hu:P.underlying t=some (.slice e)) (hy:Bd P e=some y) {len:Nat} {parts:Array (Nat×Operand)} {l:List (Nat×SV)} {ρ:Operand->Option EV}
  (hρ:∀x e,ρ x=some e->Ap P M w env e (a.eval x)) (hl:HC ρ parts.toList=some l) {cs:List SV}
  (hcs:Fi (fun i=>some (i*y.size,y.size)) ((AdP (len*y.size)).map fun k=>BZ (y.zero.cells.getD (k % y.size) undef)) l=some cs)
  (hc:len*y.size<=16777216/\0<y.size/\y.zero.cells.size=y.size/\cs.all (fun s=>CK (.p s))) :
  ∃v w' M' X',(Instr.buildSlice t len (parts.map fun(i,x)=>(i,a.eval x))).run P w=.ok v w'/\An P G st a w' env M' X'/\Av M' w' (.sl y.size len (if len=1 then fun _=>cs else Ce cs y.size)) v:=by
 obtain⟨hle,hsz,hzs,hone⟩:=hc;obtain⟨q1,q2⟩:=L1 (P:=P) (env:=env) hρ _ _ hl;obtain⟨cells,r1,r2⟩:=L0 (M:=M) (w:=w) (fun i=>some (i*y.size,y.size)) l _ q1 q2 _ _ ((AdP (len*y.size)).map fun k=>y.zero.cells.getD (k % y.size) undef) (by
  have:=Gt (M:=M) (w:=w) ((AdP (len*y.size)).map fun k=>y.zero.cells.getD (k % y.size) undef);rw[Afj]at this;exact this) hcs
 have h1:∀v,v∈cells->v.oneCell'=true:=fun v hv=>by
  obtain⟨i,hi,rfl⟩:=Aem hv;have hi':i<cs.length:=by have:=r2.1;omega
  have a1:CK (.p cs[i])=true:=AdO.1 hone _ (Aeg hi');have a2:=r2.2 i hi';rw[show SV.at cs i=cs[i]by simp[SV.at,AS,hi']]at a2;rw[AS,AdH hi,Ae1]at a2;exact Kz a1 a2
 have hcl:cs.length=len*y.size:=by
  have:∀(pl:Nat->Option (Nat×Nat)) (ps:List (Nat×SV)) (c0 c1:List SV),Fi pl c0 ps=some c1->c1.length=c0.length:=by
   intro pl ps
   induction ps with
   |nil=>intro c0 c1 h;simp[Fi]at h;rw[h]
   |cons p ps ih =>
     intro c0 c1 h;obtain⟨i,s⟩:=p;simp only[Fi]at h;split at h
     ·cases h
     ·split at h
      ·rw[ih _ _ h,LG]
      ·cases h
  rw[this _ _ _ _ hcs];simp
 have hmax:len<=maxLen:=by
  have:len<=len*y.size:=Nat.le_mul_of_pos_right len hsz;unfold maxLen;omega
 have hrun:=QV (P:=P) (w:=w) hu hy hle hzs (parts:=parts.map fun(i,x)=>(i,a.eval x)) (cells:=cells) (by rw[<- r1];simp);obtain⟨M',X',S',hden⟩:=QY hG S (e:=e) r2 h1 hcl hmax;refine⟨_,_,M',X',hrun,S',?_⟩;split
 ·rename_i hl1;subst hl1;refine hden.congr_sl (fun i hi=>?_);have:i=0:=by omega
  subst this;simp only[Ce,Nat.zero_mul,List.drop_zero];rw[List.take_of_length_le (by omega)]
 ·exact hden
theorem Ma {gd:Option (Nat×Bool×Bool)} {dst:Option Nat} {p:Prop} {K:St->Prop} (h:Ko st gd dst p K) (hh:Cr gd):p:=by
 cases gd with
 |none=>exact h
 |some g=>obtain⟨q,c,b⟩:=g;exact h.1 hh
theorem R9 {k:IntKind}:∀{l:List Value},Kl k l=true->∀j,j<l.length->l.getD j undef=.int k 0
 |[],_,j,hj=>by simp at hj
 |v::l,h,j,hj=>by
   cases v with
   |int k' z =>
     simp only[Kl,oE,decide_eq_true_eq]at h;obtain⟨⟨rfl,rfl⟩,h⟩:=h;cases j with
     |zero=>rfl
     |succ j=>simpa using R9 h j (by simpa using hj)
   |_=>simp[Kl]at h
theorem jO (hG:Bn G) (S:An P G st a w env M X) {t:TypeId} {y:Ty} {d:Nat} {gd:Option (Nat×Bool×Bool)} (hdn:d<st.nt) {K:St->Prop} (h:L6 P t y st d gd K) :
  ∃st',K st'/\AL P G st' (a.put (some d) (.pointer (some ⟨w.heap.size,0,none⟩))) (w.alloc (.cells y.zero.cells t)):=by
 unfold L6 at h;split at h
 ·rename_i n e hu;split at h
  ·rename_i k hk;split at h
   ·rename_i hc;obtain⟨⟨hz,hn,hi⟩,hno⟩:=hc;have hat:∀j,j<n->y.zero.cells.getD j undef=.int k 0:=fun j hj=>by
     have:=R9 hi j (by simpa[hz]using hj);rwa[AS,Array.getElem?_toList,<- LS]at this
    obtain⟨env',X',h2,h3⟩:=LJ hG S hdn hno (e:=t) (cur:=y.zero.cells) (n:=n) (cap:=n) (sz:=1) (get:=fun _=>[.int k 0]) (by omega) (AdS _) (by unfold maxLen;omega) (fun i hi=>rfl) (fun i hi j hj=>by
     obtain rfl:j=0:=by omega
     rw[show i*1+0=i by omega,hat i hi];exact⟨rfl,.int k 0⟩)
    have h4:env'.at_ d=some w.heap.size:=by
     obtain⟨_,_,h5⟩:=h2.own d _ List.mem_cons_self;rcases h5 with ⟨_,h5,_⟩|⟨g,cap,cur,h6,h5,_⟩
     ·rw[h3]at h5;cases h5
     ·rw[h3]at h5;cases h5;exact h6
    exact⟨_,h,env',M,X',h2.put0 (by intro t' ht;cases ht;exact hdn) (.rptr (i:=0) (sz:=1) (off:=0) h4)⟩
   ·exact h.elim
  ·exact h.elim
 ·exact h.elim
theorem An.reown (S:An P G st a w env M X) {k:Nat} {o0 o:Aq} (hk:(k,o0)∈st.own) (ho:B7 P M w env k o):An P G { st with own:=upd st.own k o } a w env M X:=by
 refine⟨S.gam,S.mx,?_,?_,?_,by simp only[Je];exact S.nod,S.mlt,S.xlt,S.siz,S.tmp,S.grd,?_,S.dno⟩
 ·intro k' o' h;rcases D4 h with ⟨rfl,rfl,_⟩|⟨_,h⟩
  ·exact ho
  ·exact S.own _ _ h
 ·intro k' o' h g' hg';rcases D4 h with ⟨rfl,rfl,o'',h''⟩|⟨_,h⟩
  ·exact S.oat _ _ h'' g' hg'
  ·exact S.oat _ _ h g' hg'
 ·intro k1 o1 k2 o2 h1 h2 hne g' hg1;have e1:∃o,(k1,o)∈st.own:=by rcases D4 h1 with ⟨rfl,_,o'',h''⟩|⟨_,h⟩;exact⟨_,h''⟩;exact⟨_,h⟩
  have e2:∃o,(k2,o)∈st.own:=by rcases D4 h2 with ⟨rfl,_,o'',h''⟩|⟨_,h⟩;exact⟨_,h''⟩;exact⟨_,h⟩
  obtain⟨_,e1⟩:=e1;obtain⟨_,e2⟩:=e2;exact S.inj _ _ _ _ e1 e2 hne g' hg1
 ·intro d hd;obtain⟨D,e,h1,h2,h3,h4⟩:=S.dfr d hd;refine⟨D,e,h1,h2,h3,?_⟩;intro k' o' h;rcases D4 h with ⟨rfl,_,o'',h''⟩|⟨_,h⟩
  ·exact h4 _ _ h''
  ·exact h4 _ _ h
theorem jP (hG:Bn G) (S:An P G st a w env M X) {t:TypeId} {e:EV} {K:St->Prop} (h:NJ P st t e K) {v:Value} (hv:Ap P M w env e v) (ty:TypeId) :
  ∃w',(Builtin.clear_ #[t] ty #[v]).run P w=.ok (.tuple #[]) w'/\∃st',K st'/\AL P G st' (a.put none (.tuple #[])) w':=by
 unfold NJ at h;split at h
 ·rename_i el r sz lo n hu;split at h
  ·rename_i y e' sz' n' get hy hl;split at h
   ·rename_i hc;obtain⟨rfl,rfl,hsz,hzs,hone⟩:=hc;obtain⟨hp,hk⟩:=Bz h;have hle:=Az hp;obtain⟨i,hi,hz,hs,hby,_⟩:=C4 hy;have hmem:=Bp hl;obtain⟨hm,hgl,hO⟩:=S.own _ _ hmem;cases hv with
    |rsub A cap hcap hmx hA =>
    by_cases hn:n=0
    ·subst hn;refine⟨w,?_,_,hk,env,M,X,S.reown hmem ?_⟩
     ·cases A<;>simp[Builtin.clear_,run_underlying hu]
     ·have : Kq lo 0 (y.zero.cells.toList.map BZ) get = get :=by
       funext i;unfold Kq;rw[if_neg (by omega)]
      rw[this];exact⟨hm,hgl,hO⟩
    ·obtain⟨g,hg,rfl⟩:=hA (by omega);rcases hO with ⟨hno,_⟩|⟨g',cap',cur,hg',hrv,hh,hnc,hcm,hcs,hd⟩
     ·rw[hno]at hg;cases hg
     rw[hg]at hg';cases hg';have hzl:(Builtin.zeroCells y.zero.cells n).toList.length=n*y.size:=by simp[size_zeroCells,hzs]
     have hzc:∀k,k<n*y.size->(Builtin.zeroCells y.zero.cells n).toList.getD k undef=y.zero.cells.getD (k % y.size) undef:=fun k hk'=>by
      have hmod:k % y.size<y.zero.cells.size:=by rw[hzs];exact Nat.mod_lt _ hsz
      simp only[Builtin.zeroCells,AS,LS];simp[hk',hzs,getElem!_pos y.zero.cells (k % y.size) hmod];rw[AdI hmod];rfl
     have hz1:∀j,j<y.size->(y.zero.cells.getD j undef).oneCell'=true:=fun j hj=>by
      have hj':j<y.zero.cells.size:=by omega
      have:=Array.all_eq_true.1 hone j hj';simpa[LS,AdI hj']using this
     have h1:∀u,u∈(Builtin.zeroCells y.zero.cells n).toList->u.oneCell'=true:=fun u hu'=>by
      obtain⟨k,hk',rfl⟩:=Aem hu';have:=hzc k (by omega);rw[AS,AdH hk',Ae1]at this;rw[this];exact hz1 _ (Nat.mod_lt _ hsz)
     obtain⟨zs,ezs⟩:∃zs,(Builtin.zeroCells y.zero.cells n).toList=zs:=⟨_,rfl⟩;rw[ezs]at hzl hzc h1;have hfit:lo*y.size+n*y.size<=cur.size:=by
      rw[hcs,<- Aet];exact Aed _ (by omega)
     have hst:=run_storeCells_at P g (lo*y.size) e' zs 0 cur w hh (by omega) h1;simp only[Afs]at hst;obtain⟨hss,hsz'⟩:=Iz (w:=w) (g:=g) (cur.toList.take (lo*y.size)++zs++cur.toList.drop (lo*y.size+zs.length)).toArray;have hl':Bf M M w (w.setRow g (cur.toList.take (lo*y.size)++zs++cur.toList.drop (lo*y.size+zs.length)).toArray):=
      ⟨by omega,fun b hb=>hss.block b (S.mlt b hb) (fun e=>(S.oat _ _ hmem g hg).2.1 (e ▸ hb)),fun b hb=>hb⟩
     refine⟨_,?_,_,hk,env,M,X,S.write hG hmem hg hss hsz' ?_⟩
     ·obtain⟨n1,rfl⟩:∃n1,n=n1+1:=⟨n-1,by omega⟩;simp[Builtin.clear_,run_underlying hu,zeroValue,typeInfo,hi,hz,ezs,hst]
     ·refine⟨hm,fun j hj=>?_,.inr ⟨g,cap',_,hg,hrv,setRow_heap w g cur _ _ _ hh,hnc,hcm,by simp only[List.size_toArray,Aei,Afx,List.length_drop,Array.length_toList,hzl];omega,fun j hj k hk'=>?_⟩⟩
      ·unfold Kq;split
       ·simpa using hzs
       ·exact hgl j hj
      ·unfold Kq;have hjc:=Ck (sz:=y.size) (AdT hj hnc) hk';rw[Iy cur _ _ (by omega) _ (by omega),hzl]
       by_cases hr:lo<=j/\j<lo+n
       ·have q1:=Aed y.size hr.1;have q2:j*y.size+y.size<=(lo+n)*y.size:=by
         have:=Aed y.size (show j+1<=lo+n by omega);rwa[Aet,Nat.one_mul]at this
        rw[Aet]at q2;rw[if_pos hr,if_pos (by omega),show j*y.size+k-lo*y.size=(j-lo)*y.size+k by rw[Nat.sub_mul];omega];have q3:=Ck (sz:=y.size) (i:=j-lo) (len:=n) (by omega) hk';rw[hzc _ q3,show((j-lo)*y.size+k) % y.size=k by rw[Nat.mul_comm,Nat.mul_add_mod,AfA hk']];refine⟨hz1 k hk',?_⟩;have hd':=(Gt (M:=M) (w:=w.setRow g (cur.toList.take (lo*y.size)++zs++cur.toList.drop (lo*y.size+zs.length)).toArray) y.zero.cells.toList).2 k (by simp;omega);have e9:y.zero.cells.toList.getD k undef=y.zero.cells.getD k undef:=by simp[AS,LS]
        rw[e9]at hd';rw[hzl]at hd';exact hd'
       ·have hne : ¬ (lo*y.size<=j*y.size+k/\j*y.size+k<lo*y.size+n*y.size):=by
         intro hx;rcases Ae5 j lo with h5|h5
         ·have:=Aed y.size (show j+1<=lo by omega);rw[Aet]at this;omega
         ·have:=Aed y.size (show lo+n<=j by omega);rw[Aet]at this;omega
        rw[if_neg hr,if_neg hne];refine⟨(hd j hj k hk').1,?_⟩;have:=(hd j hj k hk').2.later hl';rw[hzl]at this;exact this
   ·exact h.elim
  ·exact h.elim
 ·exact h.elim
theorem jQ (hG:Bn G) (S:An P G st a w env M X) {t t':TypeId} {d:Nat} {e x:EV} {K:St->Prop} (h:NK P st t d e x K) (hdn:d<st.nt) {v u:Value} (hv:Ap P M w env e v) (hu:Ap P M w env x u) (ty:TypeId) :
  ∃r w',(Builtin.copy_ #[t,t'] ty #[v,u]).run P w=.ok r w'/\∃st',K st'/\AL P G st' (a.put (some d) r) w':=by
 unfold NK at h;split at h;rotate_left
 ·exact h.elim
 rename_i el hut;split at h;rotate_left
 ·exact h.elim
 rename_i y hy;split at h;rotate_left
 ·exact h.elim
 rename_i sides m get2 r sz lo n hsl hds;split at h;rotate_left
 ·exact h.elim
 rename_i e' sz' n' get hl;split at h;rotate_left
 ·exact h.elim
 rename_i hc;obtain⟨rfl,rfl,hsz,hnm⟩:=hc;obtain⟨hp,hk⟩:=Bz h;obtain⟨hp1,hp2⟩:=all_append hp;have hlo:lo+n<=n':=hp2 _ (by simp);have hmn:m<=n:=hp2 _ (by simp);obtain⟨i,hi,hz,hs,hby,_⟩:=C4 hy;have hmem:=Bp hl;obtain⟨hm,hgl,hO⟩:=S.own _ _ hmem;obtain⟨A2,cap2,news,rfl,hlen,hA2,hcell,hone,hg2,hd2⟩:=Ji S hsl hp1 hu;have hmx:Nat.min m n=m:=Nat.min_eq_left hmn
 by_cases hm0:m=0
 ·subst hm0;have hsame:Kr lo 0 get2 get=get:=by
   funext i;unfold Kr;rw[if_neg (by omega)]
  have hnews:news = []:=Ae0 (by rw[hlen,Nat.zero_mul]);obtain⟨A,cap,rfl⟩:∃A cap,v=.slice A n cap:=by
   cases hv with
   |rsub A cap _ _ _=>simp[Iv]at hds;obtain⟨_,_,_,rfl⟩:=hds;exact⟨A,cap,rfl⟩
   |@row r' A n0 c hrv =>
     simp only[Iv]at hds;split at hds
     ·rename_i e2 sz2 n2 get3 hl2;simp only[AeJ,Aeb]at hds;obtain⟨rfl,rfl,rfl,rfl⟩:=hds;rw[hl]at hl2;cases hl2;rcases hO with ⟨_,hrv',hn0⟩|⟨g,cap,cur,hg,hrv',_⟩
      ·rw[hrv']at hrv;cases hrv;subst hn0;exact⟨_,_,rfl⟩
      ·rw[hrv']at hrv;cases hrv;exact⟨_,_,rfl⟩
     ·cases hds
   |_=>simp[Iv]at hds
  refine⟨goInt 0,w,?_,_,hk,env,M,X,(S.reown hmem (by rw[hsame];exact⟨hm,hgl,hO⟩)).put0 (by intro t' ht;cases ht;exact hdn) (.p (.int _ _))⟩;cases A<;>cases A2<;>simp[Builtin.copy_,run_underlying hut,Builtin.lenOf,Builtin.firstCells,loadCells,loadCellsFrom,storeCells,Eu hi]
 ·obtain⟨g, cap', cur, hg, hrv, hh, hnc, hcm, hcs, hd⟩: ∃g cap' cur, env.at_ r = some g/\env.rv r = .slice (some ⟨g, 0, none⟩) n' cap'/\w.heap[g]? = some (.cells cur e' (0, 0))/\n'<=cap'/\cap'<=maxLen/\cur.size = cap'*y.size /\
    ∀i,i<n'->∀j,j<y.size->(cur.getD (i*y.size+j) undef).oneCell'=true/\Av M w (SV.at (get i) j) (cur.getD (i*y.size+j) undef):=by
   rcases hO with ⟨_,_,hn0⟩|hO
   ·omega
   ·exact hO
  have hpos:0<n:=AdT (Nat.pos_of_ne_zero hm0) hmn;clear hO;obtain⟨cap,rfl⟩:∃cap,v=.slice (some ⟨g,lo*y.size,none⟩) n cap:=by
   cases hv with
   |rsub A cap _ _ hA =>
     simp only[Iv,AeJ,Aeb]at hds;obtain⟨rfl,rfl,rfl,rfl⟩:=hds;obtain⟨g',hg',rfl⟩:=hA hpos;rw[hg]at hg';cases hg';exact⟨cap,rfl⟩
   |@row r' A n0 c hrv' =>
     simp only[Iv]at hds;split at hds
     ·rename_i e2 sz2 n2 get3 hl2;simp only[AeJ,Aeb]at hds;obtain⟨rfl,rfl,rfl,rfl⟩:=hds;rw[hl]at hl2;cases hl2;rw[hrv]at hrv';cases hrv';exact⟨_,by rw[Nat.zero_mul]⟩
     ·cases hds
   |_=>simp[Iv]at hds
  obtain⟨a2,rfl⟩:∃a2,A2=some a2:=by
   cases A2 with
   |none=>exact absurd (hA2 rfl) hm0
   |some a2=>exact⟨a2,rfl⟩
  have hld:=run_loadCells (P:=P) w a2 (m*y.size) (fun j=>news.getD j undef) (fun j hj=>hcell a2 rfl (by omega) j _ (by rw[AS,AdH (by omega)];rfl));have hnews:(AdP (m*y.size)).map (fun j=>news.getD j undef)=news:=by
   apply List.ext_getElem (by simp[hlen]);intro k h1 h2;simp[AS,h2]
  rw[hnews]at hld;have hfit:lo*y.size+m*y.size<=cur.size:=by
   rw[hcs,<- Aet];exact Aed _ (by omega)
  have hst:=run_storeCells_at P g (lo*y.size) e' news 0 cur w hh (by omega) hone;simp only[Afs]at hst;obtain⟨hss,hsz'⟩:=Iz (w:=w) (g:=g) (cur.toList.take (lo*y.size)++news++cur.toList.drop (lo*y.size+news.length)).toArray;have hl':Bf M M w (w.setRow g (cur.toList.take (lo*y.size)++news++cur.toList.drop (lo*y.size+news.length)).toArray):=
   ⟨by omega,fun b hb=>hss.block b (S.mlt b hb) (fun e=>(S.oat _ _ hmem g hg).2.1 (e ▸ hb)),fun b hb=>hb⟩
  refine⟨goInt m,_,?_,_,hk,env,M,X,(S.write hG hmem hg hss hsz' ?_).put0 (by intro t' ht;cases ht;exact hdn) (.p (.int _ _))⟩
  ·have hmin:min m n=m:=hmx;simp[Builtin.copy_,run_underlying hut,Builtin.lenOf,Builtin.firstCells,Eu hi,hs,hmin,hld,hst]
  ·refine⟨hm,fun j hj=>?_,.inr ⟨g,cap',_,hg,hrv,setRow_heap w g cur _ _ _ hh,hnc,hcm,by simp only[List.size_toArray,Aei,Afx,List.length_drop,Array.length_toList,hlen];omega,fun j hj k hk'=>?_⟩⟩
   ·unfold Kr;split
    ·exact hg2 _ (by omega)
    ·exact hgl j hj
   ·unfold Kr;have hjc:=Ck (sz:=y.size) (AdT hj hnc) hk';rw[Iy cur _ _ (by omega) _ (by omega),hlen]
    by_cases hr:lo<=j/\j<lo+m
    ·have q1:=Aed y.size hr.1;have q2:j*y.size+y.size<=(lo+m)*y.size:=by
      have:=Aed y.size (show j+1<=lo+m by omega);rwa[Aet,Nat.one_mul]at this
     rw[Aet]at q2;rw[if_pos hr,if_pos (by omega),show j*y.size+k-lo*y.size=(j-lo)*y.size+k by rw[Nat.sub_mul];omega];have q3:=Ck (sz:=y.size) (i:=j-lo) (len:=m) (by omega) hk';refine⟨hone _ ?_,(hd2 (j-lo) (by omega) k hk').later (by rw[hlen]at hl';exact hl')⟩;rw[AS,AdH (by omega)];exact Aeg _
    ·have hne : ¬ (lo*y.size<=j*y.size+k/\j*y.size+k<lo*y.size+m*y.size):=by
      intro hx;rcases Ae5 j lo with h5|h5
      ·have:=Aed y.size (show j+1<=lo by omega);rw[Aet]at this;omega
      ·have:=Aed y.size (show lo+m<=j by omega);rw[Aet]at this;omega
     rw[if_neg hr,if_neg hne];exact⟨(hd j hj k hk').1,(hd j hj k hk').2.later (by rw[hlen]at hl';exact hl')⟩
theorem RA (S:An P G st a w env M X) {d:Nat} {t:TypeId} {neg:Bool} {x y:EV} {K:St->Prop} (h:LB P st d t neg x y K) (hd:d<st.nt) {u v:Value} (hu:Ap P M w env x u) (hv:Ap P M w env y v) (p q:Operand) :
  ∃r,((do eqGuard (if neg then .neq else .eql) t p q u v;binOp (if neg then .neq else .eql) t u v):Sem Value).run P w=.ok r w/\∃st',K st'/\AL P G st' (a.put (some d) r) w:=by
 unfold LB at h;split at h
 ·rename_i e sz n get hu';rcases hu with ⟨hu⟩;rcases hv with ⟨hv⟩;cases hv;cases hu with
  |sl _ _ _ A cap vs hcap hm hA hg ho hden =>
  have hE:(Op.equal t (.slice A n cap) (.slice none 0 0)).run P w=.ok A.isNone w:=by
   have:∀d,(Op.equalIn (d+1) t (.slice A n cap) (.slice none 0 0)).run P w=.ok A.isNone w:=fun d=>by
    cases A<;>simp[Op.equalIn,run_underlying hu']
   exact this 9999
  have hg0:∀op,(eqGuard op t p q (.slice A n cap) (.slice none 0 0)).run P w=.ok () w:=fun op=>by cases op<;>simp[eqGuard]
  have r1:((do eqGuard .eql t p q (.slice A n cap) (.slice none 0 0);binOp .eql t (.slice A n cap) (.slice none 0 0)):Sem Value).run P w=.ok (.bool A.isNone) w:=by
   simp only[Sem.run_bind,hg0,Result.andThen_ok,binOp,hE,Sem.run_pure]
  have r2:((do eqGuard .neq t p q (.slice A n cap) (.slice none 0 0);binOp .neq t (.slice A n cap) (.slice none 0 0)):Sem Value).run P w=.ok (.bool (!A.isNone)) w:=by
   simp only[Sem.run_bind,hg0,Result.andThen_ok,binOp,hE,Sem.run_pure]
  have h0:A.isNone=true->n=0:=fun hA'=>by
   rcases Afw n with h|h
   ·exact h
   ·obtain⟨ad,e,_⟩:=hA h;rw[e]at hA';cases hA'
  cases neg with
  |false=>exact⟨_,r1,_,h A.isNone (fun hb=>h0 hb),env,M,X,S.put0 (by intro t' ht;cases ht;exact hd) (.p (.bool _))⟩
  |true=>exact⟨_,r2,_,h (!A.isNone) (fun hb=>h0 (by simpa using hb)),env,M,X,S.put0 (by intro t' ht;cases ht;exact hd) (.p (.bool _))⟩
 ·rename_i e sz n get hu';rcases hv with ⟨hv⟩;cases hv;cases hu with
  |@full q0 _ _ _ A cap hu hq =>
  have hE:(Op.equal t (.slice A n cap) (.slice none 0 0)).run P w=.ok A.isNone w:=by
   have:∀d,(Op.equalIn (d+1) t (.slice A n cap) (.slice none 0 0)).run P w=.ok A.isNone w:=fun d=>by
    cases A<;>simp[Op.equalIn,run_underlying hu']
   exact this 9999
  have hg0:∀op,(eqGuard op t p q (.slice A n cap) (.slice none 0 0)).run P w=.ok () w:=fun op=>by cases op<;>simp[eqGuard]
  have r1:((do eqGuard .eql t p q (.slice A n cap) (.slice none 0 0);binOp .eql t (.slice A n cap) (.slice none 0 0)):Sem Value).run P w=.ok (.bool A.isNone) w:=by
   simp only[Sem.run_bind,hg0,Result.andThen_ok,binOp,hE,Sem.run_pure]
  have r2:((do eqGuard .neq t p q (.slice A n cap) (.slice none 0 0);binOp .neq t (.slice A n cap) (.slice none 0 0)):Sem Value).run P w=.ok (.bool (!A.isNone)) w:=by
   simp only[Sem.run_bind,hg0,Result.andThen_ok,binOp,hE,Sem.run_pure]
  have h0:A.isNone=decide (n=0):=by
   rcases Afw n with h|h
   ·rw[(hq.2 rfl h).1,h];rfl
   ·cases hu with
    |sl _ _ _ _ _ vs hcap hm hA hg ho hden =>
    obtain⟨ad,e,_⟩:=hA h;rw[e,decide_eq_false (Nat.ne_of_gt h)];rfl
  rw[h0]at r1 r2;cases neg with
  |false=>exact⟨_,r1,_,h,env,M,X,S.put0 (by intro t' ht;cases ht;exact hd) (.p (.bool _))⟩
  |true=>exact⟨_,r2,_,h,env,M,X,S.put0 (by intro t' ht;cases ht;exact hd) (.p (.bool _))⟩
 ·exact h.elim
theorem RB (hG:Bn G) {C:Al} (hC:DU P G C) (S:An P G st a w env M X) {gd:Option (Nat×Bool×Bool)} (hgd:Eh a gd) (hh:Cr gd) {o:Oper} (hd:∀t,o.dst=some t->t<st.nt) (hq:∀q c x,gd=some (q,c,x)->o.dst≠some q)
  {K:St->Prop} (h:Ks P C st gd o K) {N:Act->World->Prop} (hN:∀st' a' w',K st'->AL P G st' a' w'->N a' w'):Gw P a o w N:=by
 obtain⟨dst,op,ty,pos,after,guard⟩:=o;simp only at hd hq;unfold Ks at h;simp only at h;split at h
 ·-- alloc
  rename_i t d;split at h
  ·rename_i y hy;split at h
   ·obtain⟨st',hk,hs⟩:=jO hG S (hd _ rfl) h;refine⟨fun c hc=>by simp at hc,.inl ⟨_,_,?_,hN _ _ _ hk hs⟩⟩;simp only[execOp];exact Fo (by rw[NS hy])
   obtain⟨st',hk,hs⟩:=QQ hG S hgd hh (hd _ rfl) (fun q c x hx=>hq q c x hx) h (vs:=y.zero.cells.toList) (by simp) (fun i hi=>by
    have:=Is (P:=P) (env:=env) (Gt (M:=M) (w:=w) y.zero.cells.toList) i (by simpa using hi);rw[Afj]at this;exact this)
   refine⟨fun c hc=>by simp at hc,.inl ⟨_,_,?_,hN _ _ _ hk hs⟩⟩;simp only[execOp];exact Fo (by rw[NS hy])
  ·exact h.elim
 ·-- box
  rename_i t x d;split at h
  ·rename_i e he;have hv:=Bb S hgd hh he;have hone:(BF e).all CK=true:=by
    unfold newVar at h;split at h
    ·assumption
    ·exact h.elim
   obtain⟨c1,c2⟩:=L3 hv hone;obtain⟨st',hk,hs⟩:=QQ hG S hgd hh (hd _ rfl) (fun q c x hx=>hq q c x hx) h c1 c2;refine⟨fun c hc=>by simp at hc,.inl ⟨_,_,?_,hN _ _ _ hk hs⟩⟩;simp only[execOp];exact Fo (by rw[QU])
  ·exact h.elim
 ·-- store
  rename_i t p x;split at h
  ·rename_i y ep ex hy hp hx;split at h
   ·rename_i ps st' hst;obtain⟨h1,h2⟩:=Bz h;obtain⟨w',hr,S'⟩:=NR hG S hy hst h1 (Bb S hgd hh hp) (Bb S hgd hh hx);refine⟨fun c hc=>by simp at hc,.inr (.inl ⟨w',?_,hN _ _ _ h2 ⟨_,_,_,S'⟩⟩)⟩;simp only[execOp];exact K0 hr
   ·exact h.elim
  ·exact h.elim
 ·-- buildSlice
  rename_i t len parts d;split at h
  ·rename_i e l hu hl;split at h
   ·rename_i y hy;split at h
    ·rename_i cs hcs;split at h
     ·rename_i hc;obtain⟨hle,hsz,hzs,hone⟩:=hc;obtain⟨q1,q2⟩:=L1 (P:=P) (env:=env) (fun x e hx=>Bb S hgd hh hx) _ _ hl;obtain⟨cells,r1,r2⟩:=L0 (M:=M) (w:=w) (fun i=>some (i*y.size,y.size)) l _ q1 q2 _ _ ((AdP (len*y.size)).map fun k=>y.zero.cells.getD (k % y.size) undef) (by
       have:=Gt (M:=M) (w:=w) ((AdP (len*y.size)).map fun k=>y.zero.cells.getD (k % y.size) undef);rw[Afj]at this;exact this) hcs
      have h1:∀v,v∈cells->v.oneCell'=true:=fun v hv=>by
       obtain⟨i,hi,rfl⟩:=Aem hv;have hi':i<cs.length:=by have:=r2.1;omega
       have a1:CK (.p cs[i])=true:=AdO.1 hone _ (Aeg hi');have a2:=r2.2 i hi';rw[show SV.at cs i=cs[i]by simp[SV.at,AS,hi']]at a2;rw[AS,AdH hi,Ae1]at a2;exact Kz a1 a2
      have hcl:cs.length=len*y.size:=by
       have:∀(pl:Nat->Option (Nat×Nat)) (ps:List (Nat×SV)) (c0 c1:List SV),Fi pl c0 ps=some c1->c1.length=c0.length:=by
        intro pl ps
        induction ps with
        |nil=>intro c0 c1 h;simp[Fi]at h;rw[h]
        |cons p ps ih =>
          intro c0 c1 h;obtain⟨i,s⟩:=p;simp only[Fi]at h;split at h
          ·cases h
          ·split at h
           ·rw[ih _ _ h,LG]
           ·cases h
       rw[this _ _ _ _ hcs];simp
      have hmax:len<=maxLen:=by
       have:len<=len*y.size:=Nat.le_mul_of_pos_right len hsz;unfold maxLen;omega
      have hrun:=QV (P:=P) (w:=w) hu hy hle hzs (parts:=parts.map fun(i,x)=>(i,a.eval x)) (cells:=cells) (by rw[<- r1];simp);refine⟨fun c hc=>by simp at hc,.inl ⟨_,_,by simp only[execOp];exact Fo hrun,?_⟩⟩;split at h
      ·split at h
       ·split at h
        ·rename_i hn;obtain⟨env',X',S',hrv⟩:=LJ hG S (hd d rfl) hn (e:=e) (cur:=cells.toArray) (n:=len) (cap:=len) (sz:=y.size) (get:=Ce cs y.size) (by have:=r2.1;simp;omega) (AdS _) hmax (fun i hi=>QW hcl i hi) (fun i hi j hj=>by
          have:=Ck (sz:=y.size) hi hj;have hgd':(cells.toArray.getD (i*y.size+j) undef)=cells.getD (i*y.size+j) undef:=by simp[LS,AS]
          rw[hgd',QX _ _ _ _ hj];refine⟨?_,r2.2 _ (by omega)⟩;have hlen:=r2.1;rw[AS,AdH (by omega)];exact h1 _ (Aeg _))
         exact hN _ _ _ h ⟨_,_,_,S'.put0 hd (.row hrv)⟩
        ·exact h.elim
       ·exact h.elim
      ·obtain⟨M',X',S',hden⟩:=QY hG S (e:=e) r2 h1 hcl hmax;refine hN _ _ _ h ⟨_,_,_,S'.putG hgd hd hq (fun _=>.p ?_) (fun hn=>absurd hh hn)⟩;split
       ·rename_i hl1;subst hl1;refine hden.congr_sl (fun i hi=>?_);have:i=0:=by omega
        subst this;simp only[Ce,Nat.zero_mul,List.drop_zero];rw[List.take_of_length_le (by omega)]
       ·exact hden
     ·exact h.elim
    ·exact h.elim
   ·exact h.elim
  ·exact h.elim
 ·-- makeSlice
  rename_i t l c d;split at h
  ·rename_i e k1 n k2 m hu hl hc;split at h
   ·rename_i y hy;split at h
    ·rename_i hcd;obtain⟨hsz,hzs,hb,hone,hn⟩:=hcd;obtain⟨h1,h2⟩:=Bz h;obtain⟨p1,p2,p3⟩:=Az h1;obtain⟨i,hi,hz,hs,hby,_⟩:=C4 hy;have el:=Bb S hgd hh hl;have ec:=Bb S hgd hh hc;rcases el with ⟨el⟩;rcases ec with ⟨ec⟩;generalize hel:a.eval l=vl at el;generalize hec:a.eval c=vc at ec;cases el;cases ec;have hmb:m<=140737488355328:=by
      have:m*1<=m*(y.bytes:Int):=Int.mul_le_mul_of_nonneg_left (by omega) (by omega);omega
     have hrun:=run_make (P:=P) w t e i y.zero hu hi hz k1 k2 n m p1 p2 (by rw[hby,Int.mul_comm];omega) (by omega);rw[hs]at hrun;have hcur:∀k,k<m.toNat*y.size->(madeCells y.zero.cells (m.toNat*y.size)).getD k undef=y.zero.cells.getD (k % y.size) undef:=fun k hk=>by
      have hmod:k % y.size<y.zero.cells.size:=by rw[hzs];exact Nat.mod_lt _ hsz
      simp only[madeCells,LS];simp[hk,hzs,getElem!_pos y.zero.cells (k % y.size) hmod];rw[AdI hmod];rfl
     obtain⟨env',X',S',hrv⟩:=LJ hG S (hd d rfl) hn (e:=e) (cur:=madeCells y.zero.cells (m.toNat*y.size)) (n:=n.toNat) (cap:=m.toNat) (sz:=y.size) (get:=fun _=>y.zero.cells.toList.map BZ) (size_madeCells _ _) (by omega) (by unfold maxLen;omega) (fun i hi=>by simpa using hzs) (fun i hi j hj=>by
      have:=Ck (sz:=y.size) (len:=m.toNat) (i:=i) (by omega) hj;rw[hcur _ this];have hmod:(i*y.size+j) % y.size=j:=by rw[Nat.mul_comm,Nat.mul_add_mod,AfA hj]
      rw[hmod];have hj':j<y.zero.cells.size:=by omega
      have hd':=(Gt (M:=M) (w:=w) y.zero.cells.toList).2 j (by simpa using hj');rw[LS,AdI hj'];rw[AS,AdH (by simpa using hj')]at hd';simp only[Ae1,Array.getElem_toList]at hd' ⊢;exact⟨by have:=Array.all_eq_true.1 hone j hj';simpa using this,hd'⟩)
     refine⟨fun c hc=>by simp at hc,.inl ⟨_,_,by simp only[execOp,hel,hec];exact Fo hrun,?_⟩⟩;exact hN _ _ _ h2 ⟨_,_,_,S'.put0 hd (.row hrv)⟩
    ·exact h.elim
   ·exact h.elim
  ·exact h.elim
 ·-- a new map
  rename_i t d;split at h
  ·rename_i kt e ht;split at h
   ·rename_i hn;refine⟨fun c hc=>by simp at hc,.inl ⟨_,_,?_,hN _ _ _ h (iX hG S (hd _ rfl) hn _ _ _ _)⟩⟩;simp only[execOp];exact Fo rfl
   ·exact h.elim
  ·exact h.elim
 ·-- a map is written
  rename_i t m k v;split at h
  ·rename_i em ek hm hk;obtain⟨w',st',hr,hk',hs⟩:∃w' st',(Instr.mapUpdate t (a.eval m) (a.eval k) (a.eval v)).run P w=.ok () w'/\K st'/\AL P G st' a w':=by
    split at h
    ·split at h
     ·rename_i ev hv;split at h
      ·rename_i em' ek' ev' hm' hk' hv';obtain⟨M',S'⟩:=jD S ev;exact jA hG S' h (Bb S' hgd hh hm') (Bb S' hgd hh hk') (Bb S' hgd hh hv')
      ·exact h.elim
     ·exact h.elim
    ·split at h
     ·split at h
      ·rename_i ev hv;exact jM hG S h (Bb S hgd hh hm) (Bb S hgd hh hk) (Bb S hgd hh hv)
      ·exact h.elim
     ·exact iW hG S h (Bb S hgd hh hm) (Bb S hgd hh hk) (a.eval v)
   refine⟨fun c hc=>by simp at hc,.inr (.inl ⟨w',?_,hN _ _ _ hk' (by
    obtain⟨env',M',X',S'⟩:=hs;exact⟨env',M',X',S'.put0 (d:=none) (e:=.any) (by simp) .any⟩)⟩)⟩
   simp only[execOp];exact K0 hr
  ·exact h.elim
 ·-- a map is read
  rename_i t m k co d;split at h
  ·rename_i em ek hm hk;obtain⟨s,u,hr,hs,hk'⟩:∃s u,(Instr.lookup t (a.eval m) (a.eval k) co).run P w=.ok u w/\Av M w s u/\K (st.put (some d) ⟨none,.p s⟩):=by
    split at h
    ·exact jL S h (Bb S hgd hh hm) (Bb S hgd hh hk)
    ·exact jB S h (Bb S hgd hh hm) (Bb S hgd hh hk)
   refine⟨fun c hc=>by simp at hc,.inl ⟨u,w,?_,hN _ _ _ hk' ⟨env,M,X,S.put0 (fun t ht=>by cases ht;exact hd _ rfl) (.p hs)⟩⟩⟩;simp only[execOp];exact Fo hr
  ·exact h.elim
 ·-- append
  rename_i args ts d;split at h
  ·rename_i s x t t' hargs hts;split at h
   ·rename_i htt;subst htt;split at h
    ·rename_i es ex hs hx;have hargs:args = #[s,x]:=by apply Aeq;simpa using hargs
     have hts:ts = #[t,t]:=by apply Aeq;simpa using hts
     subst hargs hts;obtain⟨v',w',hrun,st',hk,hs'⟩:=iN hG S h (hd _ rfl) (Bb S hgd hh hs) (Bb S hgd hh hx) ty;refine⟨fun c hc=>by simp at hc,.inl ⟨v',w',?_,hN _ _ _ hk hs'⟩⟩;simp[execOp,resolve,invoke,builtin,hrun]
    ·exact h.elim
   ·split at h
    ·rename_i es ex hs hx;have hargs:args = #[s,x]:=by apply Aeq;simpa using hargs
     have hts:ts = #[t,t']:=by apply Aeq;simpa using hts
     subst hargs hts;obtain⟨v',w',hrun,st',hk,hs'⟩:=iQ hG S h (hd _ rfl) (Bb S hgd hh hs) (Bb S hgd hh hx) ty;refine⟨fun c hc=>by simp at hc,.inl ⟨v',w',?_,hN _ _ _ hk hs'⟩⟩;simp[execOp,resolve,invoke,builtin,hrun]
    ·exact h.elim
  ·exact h.elim
 ·-- clear
  rename_i args ts;split at h
  ·rename_i x t hargs hts;split at h
   ·rename_i ex hx;have hargs:args = #[x]:=by apply Aeq;simpa using hargs
    have hts:ts = #[t]:=by apply Aeq;simpa using hts
    subst hargs hts;obtain⟨w',hrun,st',hk,hs'⟩:=jP hG S h (Bb S hgd hh hx) ty;refine⟨fun c hc=>by simp at hc,.inl ⟨_,w',?_,hN _ _ _ hk hs'⟩⟩;simp[execOp,resolve,invoke,builtin,hrun]
   ·exact h.elim
  ·exact h.elim
 ·-- copy
  rename_i args ts dd;split at h
  ·rename_i s x t t' hargs hts;split at h
   ·rename_i es ex hs hx;have hargs:args = #[s,x]:=by apply Aeq;simpa using hargs
    have hts:ts = #[t,t']:=by apply Aeq;simpa using hts
    subst hargs hts;obtain⟨r,w',hrun,st',hk,hs'⟩:=jQ (t':=t') hG S h (hd _ rfl) (Bb S hgd hh hs) (Bb S hgd hh hx) ty;refine⟨fun c hc=>by simp at hc,.inl ⟨r,w',?_,hN _ _ _ hk hs'⟩⟩;simp[execOp,resolve,invoke,builtin,hrun]
   ·exact h.elim
  ·exact h.elim
 ·-- against nil
  rename_i t x y q d;split at h
  ·rename_i ex ey hx hy;obtain⟨v,hrun,st',hk,hs'⟩:=RA S h (hd _ rfl) (Bb S hgd hh hx) (Bb S hgd hh hy) x y;refine⟨fun c hc=>by simp at hc,.inl ⟨v,w,?_,hN _ _ _ hk hs'⟩⟩;simp only[execOp];exact Fo hrun
  ·exact h.elim
 ·rename_i t x y q d;split at h
  ·rename_i ex ey hx hy;obtain⟨v,hrun,st',hk,hs'⟩:=RA S h (hd _ rfl) (Bb S hgd hh hx) (Bb S hgd hh hy) x y;refine⟨fun c hc=>by simp at hc,.inl ⟨v,w,?_,hN _ _ _ hk hs'⟩⟩;simp only[execOp];exact Fo hrun
  ·exact h.elim
 ·-- a method's value
  rename_i f first caps d;split at h
  ·rename_i pre res ss hf hss;split at h
   ·rename_i hcaps;have hl:=R8 (P:=P) (M:=M) (w:=w) (env:=env) (a:=a) (ρ:=st.rho none) (fun x e hx=>Bb S hgd hh hx) hss;have hcaps':caps = #[]:=Array.eq_empty_of_size_eq_zero hcaps;subst hcaps';have hfn:=iE hC.1 hf hl;refine⟨fun c hc=>by simp at hc,.inl ⟨.func (.func f) (first.toList.map a.eval).toArray #[],w,?_,hN _ _ _ h ⟨_,_,_,S.put0 (by intro t' ht;cases ht;exact hd _ rfl) (.fn hfn)⟩⟩⟩;have hfirst:first.map a.eval=(first.toList.map a.eval).toArray:=by apply Aeq;simp
    simp only[execOp];exact Fo (by rw[hfirst];simp[Instr.makeFunc])
   ·exact h.elim
  ·exact h.elim
 ·-- a call
  rename_i f args ts;split at h
  ·rename_i g caps ps as lent hf hargs;split at h
   ·rename_i sp hsp;rw[gN hf hsp]at hargs;obtain⟨hsok,hen⟩:=hC.1 _ _ hsp;have hfd:=Bb S hgd hh hf;rcases hfd with ⟨hfd⟩;generalize hev:a.eval f=vf at hfd;cases hfd with
    |clo _ _ cvs hcl hcd =>
    have hps:all ps:=by
     cases sp<;>simp only[F5]at h<;>have:=(Bz h).1<;>exact(all_append (F6 this hh)).1
    have hA:=Jg hC.1 S (fun x e hx=>Bb S hgd hh hx) _ _ _ _ _ hargs hps (L:=lent) (fun r hr=>hr);have hA':=Ra hA (Rb (M':=Dd M env lent) (w:=w) (ss:=caps) (vs:=cvs) ⟨hcl,fun i hi=>(hcd i hi).weak (fun b hb=>.inl hb)⟩);have hown:=K1 _ _ _ _ _ hargs;have:=iH hG S hgd hh hd hq h hA' (LO S hown) hsok hown;refine⟨fun c hc=>by simp at hc,.inr (.inr (.inl ⟨g,_,w,I5 rfl hev hen,?_⟩))⟩;have hargsEq:args.map a.eval++cvs.toArray=(args.toList.map a.eval++cvs).toArray:=by apply Aeq;simp
    rw[hargsEq];exact F7 this fun e w' ⟨v,he,st',hk,hs⟩=>⟨v,he,hN _ _ _ hk hs⟩
   ·split at h
    ·rename_i tr as' htr has;have h:=Ma h hh;obtain⟨hT,hen⟩:=hC.2.2.2.1 g tr htr;have hfd:=Bb S hgd hh hf;rcases hfd with ⟨hfd⟩;generalize hev:a.eval f=vf at hfd;cases hfd with
     |clo _ _ cvs hcl hcd =>
     obtain⟨r1,r2⟩:=Jm (P:=P) (M:=M) (w:=w) (env:=env) (a:=a) (ρ:=st.rho gd) (fun x e hx=>Bb S hgd hh hx) has;obtain⟨q1,q2⟩:=LV r1 r2 (bs:=caps.map .p) (by simpa using hcl) (Is ⟨hcl,hcd⟩);have hc:=Rn hG S hd q1 q2 hT h hN;refine⟨fun c hc=>by simp at hc,.inr (.inr (.inl ⟨g,_,w,I5 rfl hev hen,?_⟩))⟩;have hargsEq:args.map a.eval++cvs.toArray=(args.toList.map a.eval++cvs).toArray:=by apply Aeq;simp
     rw[hargsEq];exact hc
    ·rename_i as' htr has;split at h
     ·rename_i mk hmk;have h:=Ma h hh;obtain⟨hT,hen⟩:=hC.2.2.2.2.1 g mk hmk;have hfd:=Bb S hgd hh hf;rcases hfd with ⟨hfd⟩;generalize hev:a.eval f=vf at hfd;cases hfd with
      |clo _ _ cvs hcl hcd =>
      obtain⟨r1,r2⟩:=Jm (P:=P) (M:=M) (w:=w) (env:=env) (a:=a) (ρ:=st.rho gd) (fun x e hx=>Bb S hgd hh hx) has;obtain⟨q1,q2⟩:=LV r1 r2 (bs:=caps.map .p) (by simpa using hcl) (Is ⟨hcl,hcd⟩);have hc:=Rv hG S hd q1 q2 hT h hN;refine⟨fun c hc=>by simp at hc,.inr (.inr (.inl ⟨g,_,w,I5 rfl hev hen,?_⟩))⟩;have hargsEq:args.map a.eval++cvs.toArray=(args.toList.map a.eval++cvs).toArray:=by apply Aeq;simp
      rw[hargsEq];exact hc
     ·exact h.elim
    ·exact h.elim
  ·-- a closure with own blocks
   rename_i g caps hf;split at h
   ·rename_i tr as htr has;have h:=Ma h hh;obtain⟨hT,hen⟩:=hC.2.2.2.1 g tr htr;have hfd:=Bb S hgd hh hf;generalize hev:a.eval f=vf at hfd;cases hfd with
    |cl _ _ cvs hcl hcd =>
    obtain⟨r1,r2⟩:=Jm (P:=P) (M:=M) (w:=w) (env:=env) (a:=a) (ρ:=st.rho gd) (fun x e hx=>Bb S hgd hh hx) has;obtain⟨q1,q2⟩:=LV r1 r2 hcl hcd;have hc:=Rn hG S hd q1 q2 hT h hN;refine⟨fun c hc=>by simp at hc,.inr (.inr (.inl ⟨g,_,w,I5 rfl hev hen,?_⟩))⟩;have hargsEq:args.map a.eval++cvs.toArray=(args.toList.map a.eval++cvs).toArray:=by apply Aeq;simp
    rw[hargsEq];exact hc
   ·rename_i as htr has;split at h
    ·rename_i mk hmk;have h:=Ma h hh;obtain⟨hT,hen⟩:=hC.2.2.2.2.1 g mk hmk;have hfd:=Bb S hgd hh hf;generalize hev:a.eval f=vf at hfd;cases hfd with
     |cl _ _ cvs hcl hcd =>
     obtain⟨r1,r2⟩:=Jm (P:=P) (M:=M) (w:=w) (env:=env) (a:=a) (ρ:=st.rho gd) (fun x e hx=>Bb S hgd hh hx) has;obtain⟨q1,q2⟩:=LV r1 r2 hcl hcd;have hc:=Rv hG S hd q1 q2 hT h hN;refine⟨fun c hc=>by simp at hc,.inr (.inr (.inl ⟨g,_,w,I5 rfl hev hen,?_⟩))⟩;have hargsEq:args.map a.eval++cvs.toArray=(args.toList.map a.eval++cvs).toArray:=by apply Aeq;simp
     rw[hargsEq];exact hc
    ·exact h.elim
   ·exact h.elim
  ·rename_i sp ps as lent hf hargs;rw[gO hf]at hargs;split at h
   ·rename_i ss hss;have hfd:=Bb S hgd hh hf;generalize hev:a.eval f=vf at hfd;cases hfd with
    |fn hfn =>
    obtain⟨g,first,caps,rfl,hen,hcall⟩:=hfn;have hps:all ps:=by
     simp only[F5]at h;have:=(Bz h).1;exact(all_append (F6 this hh)).1
    have hA:=Jg hC.1 S (fun x e hx=>Bb S hgd hh hx) _ _ _ _ _ hargs hps (L:=lent) (fun r hr=>hr);have hown:=K1 _ _ _ _ _ hargs;have hlt:=LO (env:=env) S hown
    -- the contract of the value,as a contract of 'g' at these arguments
    simp only[F5]at h;obtain⟨h1,h2⟩:=Bz h;have h1:=F6 h1 hh;have hp:sp.pre ss:=by
     have:=h1 _ (Aef.2 (.inr (AdY.2 rfl)));simp only[hss]at this;exact this
    simp only[hss]at h2;have hlat:Bf M (Dd M env lent) w w:=⟨AdS _,fun _ _=>rfl,fun b hb=>.inl hb⟩;have hdl:Bk (Dd M env lent) w ss (args.toList.map a.eval):=by
     have:=Hg hss;subst this;refine⟨by simpa using hA.1,fun i hi=>?_⟩;have:=(hA.2 i (by simpa using hi)).2;rw[FT _ _ hi]at this;rcases this with ⟨this⟩;exact this
    have hc:=hcall _ w hlat hlt ss _ hdl hp;refine⟨fun c hc=>by simp at hc,.inr (.inr (.inl ⟨g,_,w,R7 rfl hev hen,?_⟩))⟩;have hargsEq:first++args.map a.eval++caps=first++(args.toList.map a.eval).toArray++caps:=by congr 2;apply Aeq;simp
    rw[hargsEq];refine F7 hc fun e w' hg=>?_;split at h2
    ·rename_i hL;obtain⟨v,rfl,hs⟩:=K2 hG S hgd hh hd hq hL hg;exact⟨v,rfl,hN _ _ _ h2 hs⟩
    ·exact h2.elim
   ·exact h.elim
  ·-- yield
   rename_i l ps as lent hf hargs;rw[gP hf]at hargs;split at h
   ·rename_i y ss hy hss;split at h
    ·rename_i hc;simp only[oE]at hc;obtain⟨hL,hnm⟩:=hc;have hL:lent = []:=by simpa using hL
     subst hL;obtain⟨h1,h2⟩:=Bz h;obtain⟨hps,h3⟩:=all_append h1;have hly:=h3 (l=y.l) (by simp);subst hly;have hlt:=h3 (st.yk<y.cnt) (by simp);have hitem:=h3 (ss=y.item st.yk) (by simp);have hfd:=Bb S hgd hh hf;generalize hev:a.eval f=vf at hfd;cases hfd with
     |yield =>
     have hA:=Jg hC.1 S (fun x e hx=>Bb S hgd hh hx) _ _ _ _ _ hargs hps (L:=[]) (fun r hr=>hr);have hdl:Bk (fun _=>False) w ss (args.toList.map a.eval):=by
      have:=Hg hss;subst this;refine⟨by simpa using hA.1,fun i hi=>?_⟩;have:=(hA.2 i (by simpa using hi)).2;rw[FT _ _ hi]at this;rcases this with ⟨this⟩;exact GN this (GN.noMems_at hnm i hi)
     obtain⟨fn,tmps,assign,body,hrun,hround⟩:=hC.2.1 y hy st.yk X w _ hlt S.gam.1 S.xlt (hitem ▸ hdl);refine⟨fun c hc=>by simp at hc,.inr (.inr (.inr ⟨y.l,fn,tmps,assign,body,w,?_,Jf hround fun e w' ⟨b,he,q1,q2,q3⟩=>⟨_,he,?_⟩⟩))⟩
     ·have e1:args.map a.eval=(args.toList.map a.eval).toArray:=by apply Aeq;simp
      simp only[execOp,resolve,hev,Deferred.ofValue,Sem.run_bind,Sem.run_pure,Result.andThen_ok,invoke,e1];simpa using hrun
     ·cases b with
      |true =>
        refine hN _ _ _ h2.1 ⟨env,M,X,?_⟩;exact(S.yielded q1 (fun c hc h=>q2 c hc (h.imp (fun h=>⟨rfl,h⟩) id)) q3).put0 hd (.p (.bool true))
      |false =>
        refine hN _ _ _ h2.2 ⟨env,fun _=>False,X,?_⟩;exact(S.yieldedF q1 (fun c hc h=>q2 c hc (.inr h)) q3).put0 hd (.p (.bool false))
    ·exact h.elim
   ·exact h.elim
  ·exact h.elim
 ·exact h.elim
theorem RC {C:Al} (S:An P G st a w env M X) {gd:Option (Nat×Bool×Bool)} (hgd:Eh a gd) (hh:¬ Cr gd) {o:Oper} (hd:∀t,o.dst=some t->t<st.nt) (hq:∀q c x,gd=some (q,c,x)->o.dst≠some q)
  {K:St->Prop} (h:Ks P C st gd o K):∃st',K st'/\AL P G st' (a.put o.dst undef) w:=by
 have fin:∀e:EV,AL P G (st.put o.dst ⟨gd,e⟩) (a.put o.dst undef) w:=fun e=>⟨_,_,_,S.putG hgd hd hq (fun h=>absurd h hh) (fun _=>rfl)⟩;have hsome:∃q c x,gd=some (q,c,x):=by
  cases gd with
  |none=>exact absurd trivial hh
  |some gd=>obtain⟨q,c,x⟩:=gd;exact⟨q,c,x,rfl⟩
 obtain⟨q,c,x,rfl⟩:=hsome;have hx:x=false:=by cases x;rfl;exact absurd rfl hh
 obtain⟨dst,op,ty,pos,after,guard⟩:=o;simp only at hd hq fin;unfold Ks at h;simp only at h;have call:∀{sides:List Prop} {args:List EV} {L:List Nat} {sp:Spec},F5 C st (some (q,c,x)) dst sides args L sp K->∃st',K st'/\AL P G st' (a.put dst undef) w:=by
  intro sides args L sp h;cases sp with
  |fn pre res =>
    simp only[F5]at h;have h2:=(Bz h).2;split at h2
    ·exact⟨_,h2,fin _⟩
    ·exact h2.elim
  |rel T t0 pre post res =>
    simp only[F5]at h;have h2:=(Bz h).2 t0 (by simp[Jc,hx]);split at h2
    ·exact⟨_,h2,fin _⟩
    ·exact h2.elim
  |fresh T t0 pre post e0 sz n get =>
    simp only[F5]at h;have h20:=(Bz h).2 t0 (by simp[Jc,hx]);have h2:=(Bz h20).2;clear h20;split at h2
    ·exact⟨_,h2,fin (.p (.raw undef))⟩
    ·split at h2
     ·exact h2.elim
     ·exact⟨_,h2,fin _⟩
 split at h
 ·split at h
  ·split at h
   ·simp[L6]at h
   unfold newVar at h;simp at h
  ·exact h.elim
 ·split at h
  ·unfold newVar at h;split at h
   ·split at h
    ·exact h.elim
    ·split at h
     ·exact⟨_,h,fin _⟩
     ·exact h.elim
   ·exact h.elim
  ·exact h.elim
 ·exact h.elim
 ·split at h
  ·split at h
   ·split at h
    ·split at h
     ·split at h
      ·exact h.elim
      ·exact⟨_,h,fin _⟩
     ·exact h.elim
    ·exact h.elim
   ·exact h.elim
  ·exact h.elim
 ·exact h.elim
 ·exact h.elim
 ·exact h.elim
 ·exact h.elim
 ·exact h.elim
 ·exact h.elim
 ·exact h.elim
 ·exact h.elim
 ·exact h.elim
 ·exact h.elim
 ·split at h
  ·split at h
   ·exact call h
   ·split at h
    ·exact⟨_,h.2 hx,fin _⟩
    ·split at h
     ·exact⟨_,h.2 hx,fin _⟩
     ·exact h.elim
    ·exact h.elim
  ·split at h
   ·exact⟨_,h.2 hx,fin _⟩
   ·split at h
    ·exact⟨_,h.2 hx,fin _⟩
    ·exact h.elim
   ·exact h.elim
  ·split at h
   ·exact call h
   ·exact h.elim
  ·exact h.elim
  ·exact h.elim
 ·exact h.elim
theorem RD (hG:Bn G) {C:Al} (hC:DU P G C) (S:An P G st a w env M X) {gd:Option (Nat×Bool×Bool)} (hgd:Eh a gd) (hh:Cr gd) {o:Oper} (hd:∀t,o.dst=some t->t<st.nt) (hq:∀q c x,gd=some (q,c,x)->o.dst≠some q)
  {K:St->Prop} (h:Kv P C st gd o K) {N:Act->World->Prop} (hN:∀st' a' w',K st'->AL P G st' a' w'->N a' w'):Gw P a o w N:=by
 obtain⟨dst,op,ty,pos,after,guard⟩:=o;simp only at hd hq;unfold Kv at h;simp only at h;split at h
 ·rename_i t l c d;obtain⟨v,w',hr,st',hk,hs⟩:=jG hG S (hd d rfl) h;exact⟨fun c hc=>by simp at hc,.inl ⟨v,w',by simp only[execOp];exact Fo hr,hN _ _ _ hk hs⟩⟩
 ·rename_i t p x;split at h
  ·rename_i r i A hp hx;obtain⟨w',hr,st',hk,hs⟩:=jH hG S h (Bb S hgd hh hp) (Bb S hgd hh hx);obtain⟨e,M',X',S'⟩:=hs;exact⟨fun c hc=>by simp at hc,.inr (.inl ⟨w',by simp only[execOp];exact K0 hr,hN _ _ _ hk ⟨e,M',X',S'⟩⟩)⟩
  ·exact h.elim
 ·rename_i f args _;split at h
  ·rename_i g bs i as hf has;split at h
   ·rename_i c hc;obtain⟨hT,hen⟩:=hC.2.2.2.2.2 g c hc;have hfd:=Bb S hgd hh hf;rcases hfd with ⟨hfd⟩;generalize hev:a.eval f=vf at hfd;cases hfd with
    |clo _ _ cvs hcl hcd =>
    obtain rfl:cvs = []:=Ae0 hcl;obtain⟨r1,r2⟩:=Jm (P:=P) (M:=M) (w:=w) (env:=env) (a:=a) (ρ:=st.rho gd) (fun x e hx=>Bb S hgd hh hx) has;obtain⟨v0,vals,hvl⟩:∃v0 vals,args.toList.map a.eval=v0::vals:=by
     cases hx:args.toList.map a.eval with
     |nil=>rw[hx]at r1;simp at r1
     |cons v0 vals=>exact⟨v0,vals,rfl⟩
    rw[hvl]at r1 r2;have hc:=jE hG S hgd hh hd hq hT h (v0:=v0) (by have:=r2 0 (by simp);simpa[EV.at]using this) (vals:=vals) (by simpa using r1) (fun j hj=>by have:=r2 (j+1) (by simpa using hj);simpa[EV.at]using this) hN;refine⟨fun c hc=>by simp at hc,.inr (.inr (.inl ⟨g,_,w,I5 rfl hev hen,?_⟩))⟩;have hargsEq:args.map a.eval++([]:List Value).toArray=(v0::vals).toArray:=by rw[<- hvl];apply Aeq;simp
    rw[hargsEq];exact hc
   ·exact h.elim
  ·exact h.elim
 ·exact h.elim
theorem RE {C:Al} (S:An P G st a w env M X) {gd:Option (Nat×Bool×Bool)} (hgd:Eh a gd) (hh:¬ Cr gd) {o:Oper} (hd:∀t,o.dst=some t->t<st.nt) (hq:∀q c x,gd=some (q,c,x)->o.dst≠some q)
  {K:St->Prop} (h:Kv P C st gd o K):∃st',K st'/\AL P G st' (a.put o.dst undef) w:=by
 obtain⟨dst,op,ty,pos,after,guard⟩:=o;simp only at hd hq;unfold Kv at h;simp only at h;split at h
 ·exact absurd trivial hh
 ·exact absurd trivial hh
 ·split at h
  ·split at h
   ·exact jF S hgd hh hd hq h
   ·exact h.elim
  ·exact h.elim
 ·exact h.elim
theorem HJ (hG:Bn G) {C:Al} (hC:DU P G C) {ro:Option Nat} {n:Nat} {ops:Array Oper} {Q:Exit->Act->World->Prop} {K:St->Prop} (hK:∀st a w,K st->AL P G st a w->Q .normal a w) :
  ∀(rest:List Oper) (st:St) (a:Act) (w:World),Ez P C ops rest st K->AL P G st a w->wpListIn (W ro) n P ops Q rest a w
 |[],st,a,w,h,hs=>hK st a w h hs
 |o::rest,st,a,w,h,⟨env,M,X,S⟩=>by
   simp only[Ez]at h;split at h
   ·exact h.elim
   ·rename_i gd hgd0;obtain⟨hgd,hwant⟩:=Kw S hgd0;split at h
    ·rename_i hcheck;have hd:∀t,o.dst=some t->t<st.nt:=fun t ht=>by
      rw[ht]at hcheck;cases gd with
      |none=>simpa[DT]using hcheck
      |some g=>obtain⟨q,c,x⟩:=g;simp[DT]at hcheck;exact hcheck.1
     have hq:∀q c x,gd=some (q,c,x)->o.dst≠some q:=fun q c x hg ht=>by
      rw[ht,hg]at hcheck;simp[DT]at hcheck
     by_cases hw:Region.wanted o (yielded ops a.tmps)=true
     ·have hh:=hwant.1 hw;refine hU hw ?_;split at h
      ·rename_i d t x hi hcut;obtain⟨c1,c2,c3⟩:=LX hcut;obtain⟨v,st',hr,hk,hs⟩:=Rr hG S h (hd _ c2);refine⟨fun c hc=>(by rw[c1]at hc;cases hc),.inl ⟨v,w,by simp[execOp,c1,hr],?_⟩⟩;rw[c2];exact HJ hG hC hK rest st' _ _ hk hs
      split at h
      ·exact RD hG hC S hgd hh hd hq h (fun st' a' w' hk hs=>HJ hG hC hK rest st' a' w' hk hs)
      split at h
      ·rename_i ps e hstep;obtain⟨h1,h2⟩:=Bz h;obtain⟨u,hr,hden⟩:=Kx S hgd hh hstep (F6 h1 hh) o rfl;refine⟨fun c hc=>?_,.inl ⟨u,w,hr,HJ hG hC hK rest _ _ _ h2 ⟨_,_,_,S.putG hgd hd hq (fun _=>hden) (fun hn=>absurd hh hn)⟩⟩⟩;rw[hc]at hstep;simp[F3,HD]at hstep
      ·exact RB hG hC S hgd hh hd hq h (fun st' a' w' hk hs=>HJ hG hC hK rest st' a' w' hk hs)
     ·have hh:¬ Cr gd:=fun hx=>hw (hwant.2 hx);refine hJ hw ?_;split at h
      ·rename_i d t x hi hcut;obtain⟨c1,c2,c3⟩:=LX hcut;exact absurd trivial (by rw[c3]at hh;exact hh)
      split at h
      ·obtain⟨st',hk,hs⟩:=RE S hgd hh hd hq h;exact HJ hG hC hK rest st' _ _ hk hs
      split at h
      ·rename_i ps e hstep;obtain⟨_,h2⟩:=Bz h;exact HJ hG hC hK rest _ _ _ h2 ⟨_,_,_,S.putG hgd hd hq (fun hn=>absurd hn hh) (fun _=>rfl)⟩
      ·obtain⟨st',hk,hs⟩:=RC S hgd hh hd hq h;exact HJ hG hC hK rest st' _ _ hk hs
    ·exact h.elim
end
section
def Oi (op:Op):List Nat:=op.operands.toList.filterMap fun x=>match x with | .tmp t=>some t|_=>none
def jR:Op->List Nat
 | .call { callee:=.value (.tmp t),.. }=>[t]
 |_=>[]
def GR (ops:Array Oper) (o:Oper):List Nat:=match o.guard with
 |some (j,_)=>match ops.toList[j]? with|some oj=>oj.dst.toList|none=>[]
 |none=>[]
def Cv (ops:Array Oper) (o:Oper):List Nat:=Oi o.op++jR o.op++GR ops o
def St.only (st:St) (L:List Nat):St:={ st with T:=st.T.filter fun x=>L.contains x.1 }
def KA (P:Program) (C:Al) (st:St) (gd:Option (Nat×Bool×Bool)) (o:Oper):Option (List Prop×EV):=match o.op with
 | .box _ x=>match o.dst,st.rho gd x with
   |some d,some e=>if (BF e).all CK && !(C.muts.contains d)then(CF (BF e)).map fun ss=>([],.p (.ref ss 0))else none
   |_,_=>none
 | .buildSlice t len parts=>match P.underlying t,HC (st.rho gd) parts.toList,o.dst with
   |some (.slice e),some l,some d=>match Bd P e with
     |some y=>match Fi (fun i=>some (i*y.size,y.size)) ((AdP (len*y.size)).map fun k=>BZ (y.zero.cells.getD (k % y.size) undef)) l with
       |some cs=>if (len*y.size<=16777216/\0<y.size/\y.zero.cells.size=y.size/\cs.all (fun s=>CK (.p s)))/\C.muts.contains d=false then some ([],.p (.sl y.size len (if len=1 then fun _=>cs else Ce cs y.size)))else none
       |none=>none
     |none=>none
   |_,_,_=>none
 | .call { callee:=.builtin .append,args:=args,argTypes:=ts }=>match args.toList,ts.toList,gd with
   |[s,x],[t,t'],none=>match P.underlying t,st.rho none s,st.rho none x with
     |some (.slice e),some (.full true sz n get),some ex=>match Bd P e with
       |some y=>match DS st y.size ex with
         |some (ps,m,get2)=>if t=t'/\sz=y.size/\0<y.size/\0<y.bytes then some (ps ++ [0<m/\(n+m)*y.bytes<=140737488355328],.p (.sl sz (n+m) (AN n get get2)))else none
         |none=>none
       |none=>none
     |_,_,_=>none
   |_,_,_=>none
 | .call { callee:=.value f,args:=args,argTypes:=ts }=>match st.rho gd f,F4 P C st (st.rho gd) args.toList ts.toList with
   |some (.p (.clo g caps)),some (ps,as,lent)=>match C.specs g with
     |some (.fn pre res)=>if lent.isEmpty||Dc (res (as++caps.map .p))then some (ps ++ [pre (as++caps.map .p)],.p (res (as++caps.map .p)))else none
     |_=>none
   |some (.fn sp),some (ps,as,lent)=>match CF as with
     |some ss=>if lent.isEmpty||Dc (sp.res ss)then some (ps ++ [sp.pre ss],.p (sp.res ss))else none
     |none=>none
   |_,_=>none
 |_=>none
def Cl (P:Program) (o:Oper):List (Nat×Aq):=match o.op,o.dst with
 | .alloc t,some d=>match Bd P t with
   |some y=>[(d,.blk t (y.zero.cells.toList.map fun v=>.p (BZ v)))]
   |none=>[]
 |_,_=>[]
def ET (P:Program):List Oper->List Nat
 |[]=>[]
 |o::l=>(Cl P o).map (·.1)++ET P l
def GS (P:Program):List Oper->List (Nat×Aq)
 |[]=>[]
 |o::l=>Cl P o++GS P l
def St.add (st:St) (l:List (Nat×Aq)):St:={ st with own:=l++st.own }
def St.forgets (st:St):List Nat->St
 |[]=>st
 |d::ds=>(st.forget d).forgets ds
def EU (o:Oper):Option (TypeId×Nat×Operand):=match o.op,o.dst,o.guard with
 | .store t (.tmp d) x,none,none=>some (t,d,x)
 |_,_,_=>none
def Jp (t:TypeId) (d:Nat) (o:Oper):Bool:=match o.op,o.dst with
 | .alloc t',some d'=>t' == t&&d' == d
 |_,_=>false
def Jq (ops:Array Oper) (d:Nat) (o:Oper):Bool:=(Cv ops o).contains d
def HK (d:Nat) (o:Oper):Bool:=o.dst == some d
def Ho (p:Oper->Bool) (l:List Oper):Bool:=(l.filter p).length == 1
def Mb (d:Nat) (o:Oper):Bool:=match EU o with|some (_,d',_)=>d' == d|none=>false
def Jr (ops:Array Oper) (d:Nat):Option Nat:=(AdP ops.size).find? fun i=>match ops.toList[i]? with|some o=>Mb d o|none=>false
def GT (ops:Array Oper) (d:Nat):Bool:=ops.toList.any (Mb d)&&(Ho (Jq ops d) ops.toList && !(ops.toList.any (HK d)))
def Js:Aq->Bool
 | .blk ..=>true
 |_=>false
def Oj (ops:Array Oper) (own:List (Nat×Aq)):List (Nat×Aq):=own.filter fun x=>GT ops x.1&&Js x.2
def St.minus (st:St) (ops:Array Oper):St:={ st with own:=st.own.filter fun x=>!(GT ops x.1&&Js x.2) }
def Ol (E:List (Nat×Aq)) (d n:Nat):Bool:=match BE E d with
 |some (.blk _ cs)=>decide (n<=cs.length)
 |_=>false
def Mc (P:Program) (ops:Array Oper) (E:List (Nat×Aq)) (st:St) (o:Oper):Option EV:=match EU o with
 |some (t,d,x)=>match Bd P t,st.rho none (.tmp d),st.rho none x with
   |some y,some (.loc b 0),some ex=>if (b=d/\(BF ex).length=y.size/\y.zero.cells.size=y.size)/\(((ops.toList.any (Jp t d)&&Ho (HK d) ops.toList)||(GT ops d&&Ol E d y.size))&&Ho (Jq ops d) ops.toList&&(BF ex).all CK&&(CF (BF ex)).isSome)=true then some ex else none
   |_,_,_=>none
 |none=>none
def RG:SV->Int
 | .int _ n=>n
 |_=>0
def I6 (P:Program) (C:Al) (st:St) (gd:Option (Nat×Bool×Bool)) (o:Oper):HB:=match o.op,o.dst with
 | .load t x,some d=>if C.cuts.contains d then(match F3 P st gd (.load t x)with
   |some (ps,.p s)=>some (ps ++ [s=.int .i64 (RG s)],.p (.int .i64 (RG s)))
   |_=>none)else none
 |_,_=>none
def BN (ops:Array Oper) (es:List AE) (q:Nat->Bool) (x:Nat×Aq):Nat×Aq:=match x.2,Jr ops x.1 with
 | .blk t cs,some j=>(match q j,es[j]? with
   |true,some e=>(x.1,.blk t (Eg cs 0 (BF e.v)))
   |_,_=>x)
 |_,_=>x
def Gy (P:Program) (C:Al) (ops:Array Oper) (E:List (Nat×Aq)) (st:St) (o:Oper):Option (List Prop×AE):=
 match HE ops (st.only (Cv ops o)) o with
 |none=>none
 |some gd=>if DT st o.dst gd then(match I6 P C (st.only (Cv ops o)) gd o with
  |some (ps,e)=>some (Fl gd ps,⟨gd,e⟩)
  |none=>match F3 P (st.only (Cv ops o)) gd o.op with
   |some (ps,e)=>some (Fl gd ps,⟨gd,e⟩)
   |none=>match KA P C (st.only (Cv ops o)) gd o with
     |some (ps,e)=>some (Fl gd ps,⟨gd,e⟩)
     |none=>match Mc P ops E (st.only (Cv ops o)) o with
       |some e=>some ([],⟨none,e⟩)
       |none=>match gd,Cl P o with
         |none,[(d,.blk _ cs)]=>if cs.all CK then some ([],⟨none,.loc d 0⟩)else none
         |_,_=>none)else none
def KB (P:Program) (C:Al) (ops:Array Oper) (E:List (Nat×Aq)):List Oper->St->Option (List Prop×List AE×St)
 |[],st=>some ([],[],st)
 |o::rest,st=>match Gy P C ops E st o with
   |none=>none
   |some (ps,e)=>match KB P C ops E rest (st.put o.dst e)with
     |none=>none
     |some (qs,es,stF)=>some (ps++qs,e::es,stF)
def GU (o:Oper) (j:Nat):Bool:=o.after.any fun e=>Region.binds .any e&&e.on == j
def KC (ops:List Oper) (all:Array Oper):Nat->List Oper->Bool
 |_,[]=>true
 |i, o::rest =>(o.after.all fun e => !Region.binds .any e||decide (e.on<i)) &&
  ((AdP ops.length).all fun j=>j == i||(match ops[j]? with
    |some oj=>(match oj.dst with
      |some d=>!(o.dst == some d)&&(!((Cv all o).contains d)||(if j<i then GU o j else GU oj i))&&(!((GR all o).contains d)||decide (j<i))
      |none=>true)
    |none=>true)) && !((o.dst.toList).any fun d=>(GR all o).contains d)&&KC ops all (i+1) rest
def St.noGuards (st:St) (ops:List Oper):St:={ st with T:=st.T.filter fun x=>!(ops.any fun o=>match o.dst with|some d=>x.2.by d|none=>false) }
def Om (P:Program) (C:Al) (ops:Array Oper) (E:List (Nat×Aq)):List Oper->St->Nat
 |[],_=>0
 |o::rest,st=>match Gy P C ops E st o with
   |none=>0
   |some (_,e)=>Om P C ops E rest (st.put o.dst e)+1
def HL (ops:List Oper) (j:Nat):List Nat:=match ops[j]? with
 |some o=>(o.after.toList.filter fun e=>Region.binds .any e).map (·.on)
 |none=>[]
def KD (ops:List Oper):Nat->List Nat->List Nat
 |0,l=>l
 |i+1,l=>KD ops i (if l.contains i then l++HL ops i else l)
def Hp (Z:List Nat) (ops:List Oper) (j:Nat):Bool:=(HL ops j).all (fun x=>decide (x<j))&&(AdP j).all fun i=>(KD ops j (HL ops j)).contains i||Z.contains i
def RH (Z:List Nat) (ops:List Oper) (k:Nat):Bool:=(AdP ops.length).all fun j=>decide (j<k)||Hp Z ops j
def F8 (o:Oper):Option (Nat×Nat):=match o.op,o.dst,o.guard with
 | .move (.tmp s),some d,none=>some (d,s)
 | .extract (.tmp s) _,some d,none=>some (d,s)
 |_,_,_=>none
def Jt (ops:Array Oper) (i:Nat):Bool:=match ops[i]? with
 |some oi=>match F8 oi with
   |some (d,s)=>!(d == s)&&(AdP ops.size).all fun j=>j == i||(match ops[j]? with
     |some oj=>((oj.after.any fun e=>Region.binds .any e&&e.on == i) || !((oj.looksAt ops).contains d)) && !(oj.dst == some d)&&((oi.after.any fun e=>Region.binds .any e&&e.on == j) || !(oj.dst == some s))
     |none=>true)
   |none=>false
 |none=>false
def HM (ops:Array Oper):Bool:=ops.all fun o=>match o.op with
 | .defer _ | .select ..=>false
 |_=>true
def On (ops:Array Oper) (k:Nat):List Nat:=if decide (k<ops.size)&&HM ops then(AdP k).filter (fun i=>Jt ops i && !((KD ops.toList k (HL ops.toList k)).contains i))else []
def Md (ops:List Oper):List AE->Nat->Bool:=fun es d=>(ops.zip es).all fun x=>x.1.dst == some d || !(x.2.v.names d)
def Me (P:Program) (ops:List Oper) (es:List AE) (Au:St):List Nat->Bool
 |[]=>true
 |d::ds=>Au.noName d&&Md ops es d&&Me P ops es Au ds
def HN (ops:Array Oper) (es:List AE) (q:Nat->Bool) (x:Nat×Aq):Nat×Aq:=if GT ops x.1&&Js x.2 then BN ops es q x else x
def RI (P:Program) (C:Al) (ops:Array Oper) (stf:St) (K:St->Prop):Prop :=
 (fun k=>if KC (ops.toList.take k) ops 0 (ops.toList.take k)&&RH (On ops k) ops.toList k then(match KB P C ops (Oj ops stf.own) (ops.toList.take k) (stf.minus ops)with
  |some (ps,es,stF)=>if Me P (ops.toList.take k) es stf (ET P (ops.toList.take k))&&CL (ET P (ops.toList.take k))then By ps (Ez P C ops (ops.toList.drop k) { stF with own:=(GS P (ops.toList.take k)).map (BN ops es fun j=>decide (j<k))++stf.own.map (HN ops es fun j=>decide (j<k)) } K)else False
  |none=>False)else False) (Om P C ops (Oj ops stf.own) ops.toList (stf.minus ops))
def Mf (P:Program) (C:Al) (ops:Array Oper) (st:St) (K:St->Prop):Prop:=RI P C ops ((st.noGuards ops.toList).forgets (ET P ops.toList)) K
variable {P:Program} {M:Nat->Prop} {w:World} {G:Bm} {st:St} {a:Act} {env:Aw} {X:Nat->Prop}
theorem An.only (S:An P G st a w env M X) (L:List Nat):An P G (st.only L) a w env M X :=
 S.sub (fun _ hx=>(AdK.1 hx).1) (fun _ hx=>hx) S.nod rfl rfl
theorem Oo {o:Oper} (h:∀t,o.op ≠ .alloc t):Cl P o = []:=by
 unfold Cl;split
 ·rename_i t d h1 h2;exact absurd h1 (h t)
 ·rfl
theorem Mg (st:St):st.add []=st:=rfl
theorem jS {C:Al} {st:St} {gd:Option (Nat×Bool×Bool)} (S:An P G st a w env M X) (hgd:Eh a gd) (hh:Cr gd) {o:Oper} {ps:List Prop} {e:EV} (h:I6 P C st gd o=some (ps,e)) (hp:all ps) :
  ∃u,(execOp a.eval o).run P w=.ok (.value u) w/\Ap P M w env e u:=by
 unfold I6 at h;split at h
 ·rename_i t x d h1 h2;split at h
  ·split at h
   ·rename_i ps' s hs;cases h;obtain⟨p1,p2⟩:=all_append hp;obtain⟨u,hr,hden⟩:=Kx S hgd hh hs p1 o h1;refine⟨u,hr,?_⟩;have:=Az p2;rwa[this]at hden
   ·cases h
  ·cases h
 ·cases h
theorem RJ (hG:Bn G) {C:Al} (hC:DU P G C) {ops:Array Oper} {o:Oper} {E:List (Nat×Aq)} {ps:List Prop} {e:AE} (h:Gy P C ops E st o=some (ps,e)) (hns:EU o=none) (hp:all ps) {st2:St} (hnt:st2.nt=st.nt)
  (S:An P G (st.only (Cv ops o)) a w env M X) (S2:An P G st2 a w env M X) (hfree:∀d o',(d,o')∈Cl P o->st2.noName d=true/\∀x,x∈st2.T->x.2.v.names d=false) :
  (Region.wanted o (yielded ops a.tmps)=true->Gw P a o w (fun a' w'=>AL P G ((st2.add (Cl P o)).put o.dst e) a' w'))/\(¬ Region.wanted o (yielded ops a.tmps)=true->AL P G ((st2.add (Cl P o)).put o.dst e) (a.put o.dst undef) w):=by
 unfold Gy at h;split at h
 ·cases h
 ·rename_i gd hgd0;obtain⟨hgd,hwant⟩:=Kw S hgd0;split at h
  ·rename_i hcheck;have hd:∀t,o.dst=some t->t<st2.nt:=fun t ht=>by
    rw[ht]at hcheck;rw[hnt];cases gd with
    |none=>simpa[DT]using hcheck
    |some g=>obtain⟨q,c,x⟩:=g;simp[DT]at hcheck;exact hcheck.1
   have hq:∀q c x,gd=some (q,c,x)->o.dst≠some q:=fun q c x hg ht=>by
    rw[ht,hg]at hcheck;simp[DT]at hcheck
   have skip:∀ev:EV,¬ Cr gd->AL P G (st2.put o.dst ⟨gd,ev⟩) (a.put o.dst undef) w:=fun ev hn=>⟨_,_,_,S2.putG hgd hd hq (fun h=>absurd h hn) (fun _=>rfl)⟩;split at h
   ·rename_i ps' ev hstep;cases h;rw[Oo (fun t ht=>by unfold I6 at hstep;rw[ht]at hstep;cases hstep),Mg];refine⟨fun hw=>?_,fun hw=>skip _ (fun hx=>hw (hwant.2 hx))⟩;have hh:=hwant.1 hw;obtain⟨u,hr,hden⟩:=jS S hgd hh hstep (F6 hp hh);refine⟨fun c hc=>?_,.inl ⟨u,w,hr,_,_,_,S2.putG hgd hd hq (fun _=>hden) (fun hn=>absurd hh hn)⟩⟩;unfold I6 at hstep;rw[hc]at hstep;cases hstep
   rename_i hlc;clear hlc;split at h
   ·rename_i ps' ev hstep;cases h;rw[Oo (fun t ht=>by rw[ht]at hstep;simp[F3,HD]at hstep),Mg];refine⟨fun hw=>?_,fun hw=>skip _ (fun hx=>hw (hwant.2 hx))⟩;have hh:=hwant.1 hw;obtain⟨u,hr,hden⟩:=Kx S hgd hh hstep (F6 hp hh) o rfl;refine⟨fun c hc=>?_,.inl ⟨u,w,hr,_,_,_,S2.putG hgd hd hq (fun _=>hden) (fun hn=>absurd hh hn)⟩⟩;rw[hc]at hstep;simp[F3,HD]at hstep
   ·split at h
    ·rename_i ps' ev heff;cases h;rw[Oo (fun t ht=>by unfold KA at heff;rw[ht]at heff;cases heff),Mg];refine⟨fun hw=>?_,fun hw=>skip _ (fun hx=>hw (hwant.2 hx))⟩;have hh:=hwant.1 hw;have hp:=F6 hp hh;obtain⟨dst,op,ty,pos,after,guard⟩:=o;simp only at hd hq;unfold KA at heff;simp only at heff S;split at heff
     ·-- box
      rename_i t x _;split at heff
      ·rename_i d e' hx;split at heff
       ·rename_i hc;simp only[oE]at hc;simp only[Option.map_eq_some_iff]at heff;obtain⟨ss,hss,he⟩:=heff;cases he;have hv:=Bb S hgd hh hx;obtain⟨c1,c2⟩:=L3 hv hc.1;obtain⟨M',X',S',hden,_⟩:=S2.newRef hG (Ir hss c1 c2) (LF hc.1 c1 c2) t;refine⟨fun c hc=>by simp at hc,.inl ⟨_,_,?_,_,_,_,S'.putG hgd hd hq (fun _=>.p hden) (fun hn=>absurd hh hn)⟩⟩;simp only[execOp];exact Fo (by rw[QU])
       ·cases heff
      ·cases heff
     ·-- a slice
      rename_i t len parts _;split at heff
      ·rename_i e' l d hu hz9 hl;split at heff
       ·rename_i y hy;split at heff
        ·rename_i cs hcs;split at heff
         ·rename_i hc;cases heff;obtain⟨v,w',M',X',hrun,S',hden⟩:=jN hG S2 hu hy (fun x e hx=>Bb S hgd hh hx) hl hcs hc.1;refine⟨fun c hc=>by simp at hc,.inl ⟨_,_,?_,_,_,_,S'.putG hgd hd hq (fun _=>.p hden) (fun hn=>absurd hh hn)⟩⟩;simp only[execOp];exact Fo hrun
         ·cases heff
        ·cases heff
       ·cases heff
      ·cases heff
     ·-- an append to a slice without room
      rename_i args ts _;split at heff
      ·rename_i s x t t' hargs hts _;split at heff
       ·rename_i e' sz n get ex hu hs hx;split at heff
        ·rename_i y hy;split at heff
         ·rename_i ps1 m get2 hsl;split at heff
          ·rename_i hc;obtain⟨rfl,rfl,hsz,hb⟩:=hc;cases heff;have hargs:args = #[s,x]:=by apply Aeq;simpa using hargs
           have hts:ts = #[t,t]:=by apply Aeq;simpa using hts
           subst hargs hts;obtain⟨hp1,hp2⟩:=all_append hp;obtain⟨hm0,hbytes⟩:=Az hp2;have hmax:n+m<=maxLen:=LI hb hbytes;have hs':=Bb S hgd hh hs;have hx':=Bb S hgd hh hx;generalize hev:a.eval s=vs at hs';cases hs' with
           |full hs' hq' =>
           obtain rfl:=hq'.1 rfl;obtain⟨A,cap,news,hev2,c1,c2,c3,c4,c5,c6⟩:=Ji S hsl hp1 hx';obtain⟨v',w',M',X',hrun,S',hden⟩:=Rj (cap:=cap) hG S2 hu hy hsz hm0 hbytes hmax c1 c2 c3 c4 c5 c6 hs' ty;refine⟨fun c hc=>by simp at hc,.inl ⟨v',w',?_,_,_,_,S'.putG hgd hd hq (fun _=>.p hden) (fun hn=>absurd hh hn)⟩⟩;simp[execOp,resolve,invoke,builtin,hev,hev2,hrun]
          ·cases heff
         ·cases heff
        ·cases heff
       ·cases heff
      ·cases heff
     ·-- call
      rename_i f args ts _;split at heff
      ·rename_i g caps ps1 as lent hf hargs;split at heff
       ·rename_i pre res hsp;split at heff
        ·rename_i hL;cases heff;obtain⟨hsok,hen⟩:=hC.1 _ _ hsp;have hfd:=Bb S hgd hh hf;rcases hfd with ⟨hfd⟩;generalize hev:a.eval f=vf at hfd;cases hfd with
         |clo _ _ cvs hcl hcd =>
         obtain⟨hp1,hp2⟩:=all_append hp;have hA:=Jg hC.1 S (fun x e hx=>Bb S hgd hh hx) _ _ _ _ _ hargs hp1 (L:=lent) (fun r hr=>hr);have hA':=Ra hA (Rb (M':=Dd M env lent) (w:=w) (ss:=caps) (vs:=cvs) ⟨hcl,fun i hi=>(hcd i hi).weak (fun b hb=>.inl hb)⟩);have hown:=K1 _ _ _ _ _ hargs;have:=hsok _ w _ _ (LO (env:=env) S hown) hA' (Az hp2);refine⟨fun c hc=>by simp at hc,.inr (.inr (.inl ⟨g,_,w,I5 rfl hev hen,?_⟩))⟩;have hargsEq:args.map a.eval++cvs.toArray=(args.toList.map a.eval++cvs).toArray:=by apply Aeq;simp
         rw[hargsEq];refine F7 this fun e w' hg=>?_;obtain⟨v,rfl,hs⟩:=K2 hG S2 hgd hh hd hq hL hg;exact⟨v,rfl,hs⟩
        ·cases heff
       ·cases heff
      ·rename_i sp ps1 as lent hf hargs;split at heff
       ·rename_i ss hss;split at heff
        ·rename_i hL;cases heff;have hfd:=Bb S hgd hh hf;generalize hev:a.eval f=vf at hfd;cases hfd with
         |fn hfn =>
         obtain⟨g,first,caps,rfl,hen,hcall⟩:=hfn;obtain⟨hp1,hp2⟩:=all_append hp;have hA:=Jg hC.1 S (fun x e hx=>Bb S hgd hh hx) _ _ _ _ _ hargs hp1 (L:=lent) (fun r hr=>hr);have hown:=K1 _ _ _ _ _ hargs;have hlt:=LO (env:=env) S hown;have hlat:Bf M (Dd M env lent) w w:=⟨AdS _,fun _ _=>rfl,fun b hb=>.inl hb⟩;have hdl:Bk (Dd M env lent) w ss (args.toList.map a.eval):=by
          have:=Hg hss;subst this;refine⟨by simpa using hA.1,fun i hi=>?_⟩;have:=(hA.2 i (by simpa using hi)).2;rw[FT _ _ hi]at this;rcases this with ⟨this⟩;exact this
         have hc:=hcall _ w hlat hlt ss _ hdl (Az hp2);refine⟨fun c hc=>by simp at hc,.inr (.inr (.inl ⟨g,_,w,R7 rfl hev hen,?_⟩))⟩;have hargsEq:first++args.map a.eval++caps=first++(args.toList.map a.eval).toArray++caps:=by congr 2;apply Aeq;simp
         rw[hargsEq];refine F7 hc fun e w' hg=>?_;obtain⟨v,rfl,hs⟩:=K2 hG S2 hgd hh hd hq hL hg;exact⟨v,rfl,hs⟩
        ·cases heff
       ·cases heff
      ·cases heff
     ·cases heff
    ·rw[show Mc P ops E (st.only (Cv ops o)) o=none by unfold Mc;rw[hns]]at h;simp only at h;split at h
     ·rename_i d t cs hnew hq1 hq2;split at h
      ·rename_i hone;cases h;refine⟨fun hw=>?_,fun hw=>absurd trivial (fun hx=>hw (hwant.2 hx))⟩;obtain⟨f1,f2⟩:=hfree d (.blk t cs) (by rw[hnew];simp);obtain⟨dst,op,ty,pos,after,guard⟩:=o;unfold Cl at hnew;simp only at hnew hd hq;split at hnew
       ·rename_i t' d';split at hnew
        ·rename_i y hy;simp only[List.cons.injEq,Aeb,Aq.blk.injEq,and_true]at hnew;obtain⟨rfl,rfl,rfl⟩:=hnew;have hl:y.zero.cells.toList.length=(y.zero.cells.toList.map fun v=>EV.p (BZ v)).length:=by simp
         have hden:∀i,i<(y.zero.cells.toList.map fun v=>EV.p (BZ v)).length->Ap P M w env (EV.at (y.zero.cells.toList.map fun v=>EV.p (BZ v)) i) (y.zero.cells.toList.getD i undef):=fun i hi=>by
          have:=Is (P:=P) (env:=env) (Gt (M:=M) (w:=w) y.zero.cells.toList) i (by simpa using hi);rw[Afj]at this;exact this
         obtain⟨env',X',S3,h3⟩:=QP hG S2 (d:=d') (hd _ rfl) f1 hl hden (LF hone hl hden) (fun i hi=>by
          rw[QR _ _ hi];simp[EV.names]) t'
         have S4:=S3.sub (st':=st2.add (Cl P { dst:=some d',op:=.alloc t',type:=ty,pos:=pos,after:=after,guard:=guard })) (fun x hx=>by
          show x∈(st2.forget d').T;exact AdK.2 ⟨hx,by rw[f2 x hx];rfl⟩) (fun x hx=>by
          simp only[St.add,Cl,hy]at hx;exact hx) (by
          have:=S3.nod;simp only[St.add,Cl,hy];exact this) rfl rfl
         refine⟨fun c hc=>by simp at hc,.inl ⟨_,_,?_,_,_,_,S4.put0 (fun t ht=>by cases ht;exact hd _ rfl) (.loc h3)⟩⟩;simp only[execOp];exact Fo (by rw[NS hy])
        ·cases hnew
       ·cases hnew
      ·cases h
     ·cases h
  ·cases h
theorem Oq {o:Oper} {t:TypeId} {d:Nat} {x:Operand} (h:EU o=some (t,d,x)):o.op=.store t (.tmp d) x/\o.dst=none/\o.guard=none:=by
 unfold EU at h;split at h
 ·rename_i h1 h2 h3;cases h;exact⟨h1,h2,h3⟩
 ·cases h
theorem Mh {C:Al} {ops:Array Oper} {E:List (Nat×Aq)} {o:Oper} {ps:List Prop} {e:AE} {t:TypeId} {d:Nat} {x:Operand} (hs:EU o=some (t,d,x)) (h:Gy P C ops E st o=some (ps,e)) :
  ∃y,Bd P t=some y/\(st.only (Cv ops o)).rho none (.tmp d)=some (.loc d 0)/\(st.only (Cv ops o)).rho none x=some e.v/\e.g=none/\(BF e.v).length=y.size/\y.zero.cells.size=y.size /\
    ((ops.toList.any (Jp t d)=true/\Ho (HK d) ops.toList=true)\/(GT ops d=true/\Ol E d y.size=true))/\Ho (Jq ops d) ops.toList=true/\(BF e.v).all CK=true/\(CF (BF e.v)).isSome=true:=by
 obtain⟨h1,h2,h3⟩:=Oq hs;unfold Gy at h;split at h
 ·cases h
 ·rename_i gd hgd;split at h
  ·rw[show I6 P C (st.only (Cv ops o)) gd o=none by unfold I6;rw[h1],show F3 P (st.only (Cv ops o)) gd o.op=none by rw[h1];simp[F3,HD],show KA P C (st.only (Cv ops o)) gd o=none by unfold KA;rw[h1]]at h;simp only at h;split at h
   ·rename_i ex hex;cases h;unfold Mc at hex;rw[hs]at hex;simp only at hex;split at hex
    ·rename_i y b ex' hy hb hx;split at hex
     ·rename_i hc;cases hex;obtain⟨⟨rfl,c1,c2⟩,c3⟩:=hc;simp only[oE,Aen]at c3;exact⟨y,hy,hb,hx,rfl,c1,c2,c3.1.1.1,c3.1.1.2,c3.1.2,c3.2⟩
     ·cases hex
    ·cases hex
   ·split at h
    ·rename_i hnew _;unfold Cl at hnew;rw[h1]at hnew;cases hnew
    ·cases h
  ·cases h
theorem Mi {p:Oper->Bool}:∀{l:List Oper},Ho p l=true->∀{i j:Nat} {a b:Oper},l[i]? = some a->l[j]? = some b->p a=true->p b=true->i=j
 |[],_,i,j,a,b,hi,_,_,_=>by simp at hi
 |o::l,h,i,j,a,b,hi,hj,ha,hb=>by
   have none_of:∀{k:Nat} {c:Oper},(l.filter p).length=0->l[k]? = some c->p c=true->False:=fun {k c} h0 hk hc=>by
    have:c∈l.filter p:=AdK.2 ⟨AeE hk,hc⟩;rw[Ae0 h0]at this;cases this
   unfold Ho at h;simp only[beq_iff_eq]at h;cases hpo:p o with
   |true =>
     rw[List.filter_cons_of_pos hpo]at h;simp only[List.length_cons]at h;have h0:(l.filter p).length=0:=by omega
     cases i with
     |succ i=>exact(none_of h0 (by simpa using hi) ha).elim
     |zero=>cases j with
       |zero=>rfl
       |succ j=>exact(none_of h0 (by simpa using hj) hb).elim
   |false =>
     rw[List.filter_cons_of_neg (by simp[hpo])]at h;cases i with
     |zero=>simp at hi;subst hi;rw[hpo]at ha;cases ha
     |succ i=>cases j with
       |zero=>simp at hj;subst hj;rw[hpo]at hb;cases hb
       |succ j =>
         have:=Mi (l:=l) (by unfold Ho;simpa using h) (i:=i) (j:=j) (by simpa using hi) (by simpa using hj) ha hb;omega
theorem FZ {ops:Array Oper} {d j:Nat} (h:Jr ops d=some j):∃o t x,ops[j]? = some o/\EU o=some (t,d,x):=by
 have h1:=List.find?_some h;split at h1
 ·rename_i o ho;unfold Mb at h1;split at h1
  ·rename_i t d' x hs;simp at h1;subst h1;exact⟨o,t,x,by simpa using ho,hs⟩
  ·cases h1
 ·cases h1
theorem RK {ops:Array Oper} {o:Oper} {t:TypeId} {d:Nat} {x:Operand} (h:EU o=some (t,d,x)):Jq ops d o=true:=by
 obtain⟨h1,_,_⟩:=Oq h;unfold Jq Cv;have:d∈Oi o.op:=by
  rw[h1];unfold Oi;refine List.mem_filterMap.2 ⟨.tmp d,?_,rfl⟩;simp[Op.operands]
 simp[this]
theorem jT {ops:Array Oper} {i:Nat} {o:Oper} {t:TypeId} {d:Nat} {x:Operand} (ho:ops[i]? = some o) (hs:EU o=some (t,d,x)) (h1:Ho (Jq ops d) ops.toList=true):Jr ops d=some i:=by
 have hi:=(AdX.1 ho).1;cases hf:Jr ops d with
 |none =>
   have:=List.find?_eq_none.1 hf i (AdQ.2 hi);rw[show ops.toList[i]? = some o by simpa using ho]at this;simp[Mb,hs]at this
 |some j =>
   obtain⟨o',t',x',ho',hs'⟩:=FZ hf;rw[Mi h1 (show ops.toList[j]? = some o' by simpa using ho') (show ops.toList[i]? = some o by simpa using ho) (RK hs') (RK hs)]
theorem Ga (ops:Array Oper) (es:List AE) (q:Nat->Bool) (x:Nat×Aq):(BN ops es q x).1=x.1:=by
 unfold BN;split
 ·split<;>rfl
 ·rfl
theorem KE {ops:Array Oper} {es:List AE} {q:Nat->Bool} {x:Nat×Aq} (h:∀j,Jr ops x.1=some j->q j=false):BN ops es q x=x:=by
 unfold BN;split
 ·rename_i t cs j h1 h2;rw[h j h2]
 ·rfl
theorem I7 {ops:Array Oper} {es:List AE} {q q':Nat->Bool} {x:Nat×Aq} (h:∀j,Jr ops x.1=some j->q j=q' j):BN ops es q x=BN ops es q' x:=by
 unfold BN;split
 ·rename_i t cs j h1 h2;rw[h j h2]
 ·rfl
end
section
variable {P:Program} {G:Bm}
theorem Mj {ro:Option Nat} {n:Nat} {Q:Exit->Act->World->Prop} {o:Oper} {a:Act} {w:World} {N:Act->World->Prop} (h:Gw P a o w N):o.wpIn (W ro) n P a w N Q:=by
 obtain⟨ho,⟨u,w',hr,hk⟩|⟨w',hr,hk⟩|⟨f,args,w',hr,hk⟩|⟨l,f,tmps,assign,body,w',hr,hk⟩⟩:=h
 ·exact⟨fun _ _=>trivial,by rw[Oper.semAt_eq _ _ _ ho,hr];exact hk⟩
 ·exact⟨fun _ _=>trivial,by rw[Oper.semAt_eq _ _ _ ho,hr];exact hk⟩
 ·refine⟨fun _ _=>trivial,?_⟩;rw[Oper.semAt_eq _ _ _ ho,hr];refine⟨fun h=>by simp[W,Fence.wide]at h,?_⟩;refine NP (callsIn_wide.2 (Calls.mono (callsIn_wide.1 hk) ?_));rintro e w'' ⟨v,rfl,h⟩;exact h
 ·refine⟨fun _ _=>trivial,?_⟩;rw[Oper.semAt_eq _ _ _ ho,hr];refine⟨fun h=>by simp[W,Fence.wide]at h,?_⟩;refine QO (Jf hk ?_);rintro e w'' ⟨v,rfl,h⟩;exact h
def D5 (st st':St):Prop:=st'.own=st.own/\st'.yk=st.yk/\st'.stop=st.stop/\st'.nt=st.nt
theorem D5.put (st:St) (d:Option Nat) (e:AE):D5 st (st.put d e):=by cases d<;>exact⟨rfl,rfl,rfl,rfl⟩
theorem KF {st:St} {d:Option Nat} {e:AE} {x:Nat×AE} (h:x∈(st.put d e).T):(x∈st.T/\d≠some x.1)\/(d=some x.1/\x.2=e):=by
 cases d with
 |none=>exact .inl ⟨h,by simp⟩
 |some d =>
   simp only[St.put,AdR,AdK]at h;rcases h with rfl|⟨h,hne⟩
   ·exact .inr ⟨rfl,rfl⟩
   ·simp at hne;exact .inl ⟨h,fun e=>hne.1 (by cases e;rfl)⟩
theorem RL {C:Al} {ops:Array Oper} {E:List (Nat×Aq)}:∀(rest:List Oper) (st1:St) (ps:List Prop) (es:List AE) (stF:St),KB P C ops E rest st1=some (ps,es,stF) ->
  es.length=rest.length/\(D5 st1 stF/\∀x,x∈stF.T->(x∈st1.T/\∀(j:Nat) (oj:Oper),rest[j]? = some oj->oj.dst≠some x.1)\/∃(j:Nat) (oj:Oper),rest[j]? = some oj/\oj.dst=some x.1/\es[j]? = some x.2) /\
  ∀i o,rest[i]? = some o->∃sti psi e,Gy P C ops E sti o=some (psi,e)/\es[i]? = some e/\(∀p,p∈psi->p∈ps)/\D5 st1 sti /\
    ∀x,x∈sti.T->(x∈st1.T/\∀(j:Nat) (oj:Oper),j<i->rest[j]? = some oj->oj.dst≠some x.1)\/∃(j:Nat) (oj:Oper),j<i/\rest[j]? = some oj/\oj.dst=some x.1/\es[j]? = some x.2
 |[],st1,ps,es,stF,h=>by
   simp only[KB,AeJ,Aeb]at h;obtain⟨rfl,rfl,rfl⟩:=h;exact⟨rfl,⟨⟨rfl,rfl,rfl,rfl⟩,fun x hx=>.inl ⟨hx,fun j oj hj=>by simp at hj⟩⟩,fun i o hi=>by simp at hi⟩
 |o::rest,st1,ps,es,stF,h=>by
   simp only[KB]at h;split at h
   ·cases h
   ·rename_i ps0 e hstep;split at h
    ·cases h
    ·rename_i qs es' stF' hgo;simp only[AeJ,Aeb]at h;obtain⟨rfl,rfl,rfl⟩:=h;obtain⟨h1,⟨t2,h2⟩,h3⟩:=RL rest _ _ _ _ hgo;have tw:=D5.put st1 o.dst e;refine⟨by simp[h1],⟨⟨t2.1.trans tw.1,t2.2.1.trans tw.2.1,t2.2.2.1.trans tw.2.2.1,t2.2.2.2.trans tw.2.2.2⟩,fun x hx=>?_⟩,fun i o' hi=>?_⟩
     ·rcases h2 x hx with ⟨hm,hall⟩|⟨j,oj,hj,hd,he⟩
      ·rcases KF hm with ⟨hm,hne⟩|⟨hd,he⟩
       ·refine .inl ⟨hm,fun j oj hj=>?_⟩;cases j with
        |zero=>simp at hj;subst hj;exact hne
        |succ j=>exact hall j oj (by simpa using hj)
       ·exact .inr ⟨0,o,by simp,hd,by simp[he]⟩
      ·exact .inr ⟨j+1,oj,by simpa using hj,hd,by simpa using he⟩
     ·cases i with
      |zero =>
        simp at hi;subst hi;exact⟨st1,ps0,e,hstep,by simp,fun p hp=>by simp[hp],⟨rfl,rfl,rfl,rfl⟩,fun x hx=>.inl ⟨hx,fun j oj hj=>by omega⟩⟩
      |succ i =>
        obtain⟨sti,psi,ei,hs,he,hps,tw',hmem⟩:=h3 i o' (by simpa using hi);refine⟨sti,psi,ei,hs,by simpa using he,fun p hp=>by simp[hps p hp],⟨tw'.1.trans tw.1,tw'.2.1.trans tw.2.1,tw'.2.2.1.trans tw.2.2.1,tw'.2.2.2.trans tw.2.2.2⟩,fun x hx=>?_⟩;rcases hmem x hx with ⟨hm,hall⟩|⟨j,oj,hlt,hj,hd,he⟩
        ·rcases KF hm with ⟨hm,hne⟩|⟨hd,he⟩
         ·refine .inl ⟨hm,fun j oj hlt hj=>?_⟩;cases j with
          |zero=>simp at hj;subst hj;exact hne
          |succ j=>exact hall j oj (by omega) (by simpa using hj)
         ·exact .inr ⟨0,o,by omega,by simp,hd,by simp[he]⟩
        ·exact .inr ⟨j+1,oj,by omega,by simpa using hj,hd,by simpa using he⟩
theorem RM {C:Al} {ops:Array Oper} {E:List (Nat×Aq)} {st:St} {o:Oper} {ps:List Prop} {e:AE} (h:Gy P C ops E st o=some (ps,e)):∀d,e.by d=true->d∈GR ops o:=by
 intro d hd;have key:∀gd,HE ops (st.only (Cv ops o)) o=some gd->e.g=gd->d∈GR ops o:=by
  intro gd hg he;unfold HE at hg;unfold GR;split at hg
  ·cases hg;simp[AE.by,he]at hd
  ·rename_i j want hgd;rw[hgd];split at hg
   ·rename_i oj hj;simp only[hj];split at hg
    ·rename_i d' hd';split at hg
     ·cases hg;simp only[AE.by,he,beq_iff_eq]at hd;subst hd;simp[hd']
     ·cases hg
    ·cases hg
   ·cases hg
 unfold Gy at h;split at h
 ·cases h
 ·rename_i gd hgd;split at h
  ·split at h
   ·cases h;exact key gd hgd rfl
   split at h
   ·cases h;exact key gd hgd rfl
   ·split at h
    ·cases h;exact key gd hgd rfl
    ·split at h
     ·cases h;simp[AE.by]at hd
     ·split at h
      ·split at h
       ·cases h;exact key none hgd rfl
       ·cases h
      ·cases h
  ·cases h
theorem Ot {ops:List Oper} {all:Array Oper}:∀(rest:List Oper) (k:Nat),KC ops all k rest=true->∀i o,rest[i]? = some o ->
  (∀e,e∈o.after->Region.binds .any e=true->e.on<k+i)/\∀j oj d,j≠k+i->ops[j]? = some oj->oj.dst=some d->o.dst≠some d/\(d∈Cv all o->if j<k+i then GU o j=true else GU oj (k+i)=true)/\(d∈GR all o->j<k+i)
 |[],k,h,i,o,hi=>by simp at hi
 |o'::rest,k,h,i,o,hi=>by
   simp only[KC,oE]at h;obtain⟨⟨⟨h1,h2⟩,_⟩,h4⟩:=h;cases i with
   |zero =>
     simp at hi;subst hi;refine⟨fun e he hb=>?_,fun j oj d hne hj hd=>?_⟩
     ·have:=AeO.1 h1 e he;simp[hb]at this;exact this
     ·have hlt:=(List.getElem?_eq_some_iff.1 hj).1;have:=AdO.1 h2 j (AdQ.2 hlt);simp only[Afs]at hne ⊢;simp only[hj,hd]at this;simp[hne]at this;obtain⟨⟨a1,a2⟩,a3⟩:=this;refine⟨a1,fun hm=>?_,fun hm=>?_⟩
      ·rcases a2 with a2|a2
       ·exact absurd hm a2
       ·split at a2<;>rename_i hjk
        ·rw[if_pos hjk];exact a2
        ·rw[if_neg hjk];exact a2
      ·rcases a3 with a3|a3
       ·exact absurd hm a3
       ·exact a3
   |succ i =>
     have:=Ot rest (k+1) h4 i o (by simpa using hi);rw[show k+1+i=k+(i+1)by omega]at this;exact this
theorem I8 {o:Oper} {j:Nat} (h:GU o j=true):∃e,e∈o.after/\Region.binds .any e=true/\e.on=j:=by
 unfold GU at h;rw[Array.any_eq_true]at h;obtain⟨i,hi,hx⟩:=h;simp at hx;exact⟨_,Array.getElem_mem hi,hx.1,hx.2⟩
end
section
variable {P:Program} {G:Bm}
theorem HO {st:St} {d:Option Nat} {e:AE} {x:Nat×AE} (h:x∈st.T) (h1:d≠some x.1) (h2:∀t,d=some t->x.2.by t=false):x∈(st.put d e).T:=by
 cases d with
 |none=>exact h
 |some t =>
   simp only[St.put,AdR,AdK];refine .inr ⟨h,?_⟩;have:¬ x.1=t:=fun e=>h1 (by rw[e]);simp[this,h2 t rfl]
theorem Ju {st:St} {d:Nat} {e:AE}:(d,e)∈(st.put (some d) e).T:=by simp[St.put]
def jU (ops:Array Oper) (Au:St) (es:List AE) (listed:Array Bool) (x:Nat×AE):Prop :=
 (x∈Au.T/\∀(j:Nat) (oj:Oper),ops[j]? = some oj->listed.getD j false=true->oj.dst≠some x.1) \/
  ∃(j:Nat) (oj:Oper),ops[j]? = some oj/\listed.getD j false=true/\oj.dst=some x.1/\es[j]? = some x.2
structure I9 (P:Program) (G:Bm) (ops:Array Oper) (E:List (Nat×Aq)) (Au:St) (es:List AE) (listed:Array Bool) (a:Act) (w:World):Prop where
 siz:listed.size=ops.size
 clo:∀(j:Nat) (oj:Oper),ops[j]? = some oj->listed.getD j false=true->∀e,e∈oj.after->Region.binds .any e=true->listed.getD e.on false=true
 sat:∃st2:St,(st2.yk=Au.yk/\st2.stop=Au.stop/\st2.nt=Au.nt)/\(∀x,x∈st2.own↔(x∈Au.own\/(∃(j:Nat) (oj:Oper),ops[j]? = some oj/\listed.getD j false=true/\∃y,y∈Cl P oj/\x=BN ops es (fun j=>listed.getD j false) y)\/∃y,y∈E/\x=BN ops es (fun j=>listed.getD j false) y))/\(∀x,x∈st2.T↔jU ops Au es listed x)/\AL P G st2 a w
theorem jV (st:St):∀ds,(st.forgets ds).own=st.own/\(st.forgets ds).yk=st.yk/\(st.forgets ds).stop=st.stop/\(st.forgets ds).nt=st.nt:=fun ds=>by
 induction ds generalizing st with
 |nil=>exact⟨rfl,rfl,rfl,rfl⟩
 |cons d ds ih=>exact ih (st.forget d)
theorem jW {x:Nat×AE} (ds:List Nat) {st:St} (h:x∈(st.forgets ds).T):x∈st.T/\∀d,d∈ds->x.2.v.names d=false:=by
 induction ds generalizing st with
 |nil=>exact⟨h,fun d hd=>by cases hd⟩
 |cons d0 ds ih =>
   obtain⟨h1,h2⟩:=ih (st:=st.forget d0) h;refine⟨(AdK.1 h1).1,fun d hd=>?_⟩;rcases AdR.1 hd with rfl|hd
   ·exact HH (s:=x.1) (e:=x.2) h1
   ·exact h2 d hd
theorem Ml {d:Nat} {o':Aq} {l:List Oper} {o:Oper} (h:o∈l) (hn:(d,o')∈Cl P o):d∈ET P l:=by
 induction l with
 |nil=>cases h
 |cons o1 l ih =>
   rw[ET,Aef];rcases AdR.1 h with h|h
   ·subst h;exact .inl (AdN.2 ⟨(d,o'),hn,rfl⟩)
   ·exact .inr (ih h)
theorem RN {x:Nat×Aq}:∀{l:List Oper},x∈GS P l->∃(j:Nat) (oj:Oper),l[j]? = some oj/\x∈Cl P oj
 |[],h=>by cases h
 |o::l,h=>by
   simp only[GS,Aef]at h;rcases h with h|h
   ·exact⟨0,o,rfl,h⟩
   ·obtain⟨j,oj,h1,h2⟩:=RN h;exact⟨j+1,oj,by simpa using h1,h2⟩
theorem RO:∀(l:List Oper),(GS P l).map (·.1)=ET P l
 |[]=>rfl
 |o::l=>by simp[GS,ET,RO l]
theorem Jv {o:Oper} {d:Nat} {o':Aq} (h:(d,o')∈Cl P o):o.dst=some d/\∀k,o'.names k=false:=by
 unfold Cl at h;split at h
 ·rename_i t d' h1 h2;split at h
  ·simp only[AdY,Aeb]at h;obtain⟨rfl,rfl⟩:=h;refine⟨h2,fun k=>?_⟩;have:∀l:List Value,EV.names.namesL k (l.map fun v=>EV.p (BZ v))=false:=fun l=>by
    induction l with
    |nil=>rfl
    |cons v l ih=>simp[EV.names.namesL,EV.names,ih]
   exact this _
  ·cases h
 ·cases h
theorem Mm {ops:List Oper} {es:List AE} {Au:St}:∀{ds:List Nat},Me P ops es Au ds=true->∀d,d∈ds->Au.noName d=true/\Md ops es d=true
 |d0::ds,h,d,hd=>by
   simp only[Me,oE]at h;rcases AdR.1 hd with rfl|hd
   ·exact h.1
   ·exact Mm h.2 d hd
theorem jX {ops:List Oper} {es:List AE} {d:Nat} (h:Md ops es d=true) {j:Nat} {oj:Oper} {e:AE} (h1:ops[j]? = some oj) (h2:es[j]? = some e):oj.dst=some d\/e.v.names d=false:=by
 unfold Md at h;have hm:(oj,e)∈ops.zip es:=by
  have:(ops.zip es)[j]? = some (oj,e):=by rw[List.getElem?_zip_eq_some];exact⟨h1,h2⟩
  exact AeE this
 have:=AdO.1 h _ hm;simpa using this
theorem GV {l:Array Bool} {i:Nat} (h:i<l.size):(l.setIfInBounds i true).getD i false=true:=by
 simp[LS,h]
theorem EI {l:Array Bool} {i j:Nat} (h:(l.setIfInBounds i true).getD j false=true):j=i\/l.getD j false=true:=by
 by_cases hj:j=i
 ·exact .inl hj
 ·right;rw[LS,AeT,if_neg (fun e=>hj e.symm)]at h;rw[LS];exact h
theorem DD {l:Array Bool} {i j:Nat} (h:l.getD j false=true):(l.setIfInBounds i true).getD j false=true:=by
 have hj:j<l.size:=by
  rcases Ae5 j l.size with h'|h'
  ·exact h'
  ·rw[LS,Afi h']at h;cases h
 rw[LS,AeT];split
 ·rename_i he;subst he;rw[if_pos hj];rfl
 ·rw[LS]at h;exact h
theorem Ou {ops:Array Oper} {listed:Array Bool} (clo:∀(j:Nat) (oj:Oper),ops[j]? = some oj->listed.getD j false=true->∀e,e∈oj.after->Region.binds .any e=true->listed.getD e.on false=true) :
  ∀(i:Nat) (l:List Nat),(∀x,x∈l->listed.getD x false=true)->∀x,x∈KD ops.toList i l->listed.getD x false=true
 |0,l,h,x,hx=>h x hx
 |i+1,l,h,x,hx=>by
   simp only[KD]at hx;refine Ou clo i _ (fun y hy=>?_) x hx;split at hy
   ·rename_i hc;rcases Aef.1 hy with hy|hy
    ·exact h y hy
    ·unfold HL at hy;split at hy
     ·rename_i o ho;obtain⟨e,he,rfl⟩:=AdN.1 hy;obtain⟨he1,he2⟩:=AdK.1 he;exact clo i o (by simpa using ho) (h i (by simpa using hc)) e (by simpa using he1) he2
     ·cases hy
   ·exact h y hy
theorem jY {ops:Array Oper} {listed:Array Bool} (clo:∀(j:Nat) (oj:Oper),ops[j]? = some oj->listed.getD j false=true->∀e,e∈oj.after->Region.binds .any e=true->listed.getD e.on false=true)
  {j:Nat} {o:Oper} (ho:ops[j]? = some o) {Z:List Nat} (h:Hp Z ops.toList j=true) (hZ:∀z,z∈Z->listed.getD z false=true) (hr:∀e,e∈o.after->Region.binds .any e=true->listed.getD e.on false=true):∀i,i<j->listed.getD i false=true:=by
 intro i hi;simp only[Hp,oE]at h;have:=AdO.1 h.2 i (AdQ.2 hi);rw[Aen]at this;rcases this with this|this;rotate_left
 ·exact hZ i (by simpa using this)
 refine Ou clo j _ (fun y hy=>?_) i (by simpa using this);unfold HL at hy;rw[show ops.toList[j]? = some o by simpa using ho]at hy;obtain⟨e,he,rfl⟩:=AdN.1 hy;obtain⟨he1,he2⟩:=AdK.1 he;exact hr e (by simpa using he1) he2
theorem jZ {ops:Array Oper} {listed:Array Bool} (clo:∀(j:Nat) (oj:Oper),ops[j]? = some oj->listed.getD j false=true->∀e,e∈oj.after->Region.binds .any e=true->listed.getD e.on false=true)
  {j:Nat} {o:Oper} (ho:ops[j]? = some o) {Z:List Nat} (h:Hp Z ops.toList j=true) (hr:∀e,e∈o.after->Region.binds .any e=true->listed.getD e.on false=true):∀i,i<j->i ∉ Z->listed.getD i false=true:=by
 intro i hi hz;simp only[Hp,oE]at h;have:=AdO.1 h.2 i (AdQ.2 hi);rw[Aen]at this;rcases this with this|this;rotate_left
 ·exact absurd (by simpa using this) hz
 refine Ou clo j _ (fun y hy=>?_) i (by simpa using this);unfold HL at hy;rw[show ops.toList[j]? = some o by simpa using ho]at hy;obtain⟨e,he,rfl⟩:=AdN.1 hy;obtain⟨he1,he2⟩:=AdK.1 he;exact hr e (by simpa using he1) he2
theorem kA {ops:Array Oper} {j:Nat} {o:Oper} (ho:ops[j]? = some o) {Z:List Nat} (h:Hp Z ops.toList j=true):∀e,e∈o.after->Region.binds .any e=true->e.on<j:=by
 intro e he hb;simp only[Hp,oE]at h;have:=AdO.1 h.1 e.on (by
  unfold HL;rw[show ops.toList[j]? = some o by simpa using ho];exact AdN.2 ⟨e,AdK.2 ⟨by simpa using he,hb⟩,rfl⟩)
 simpa using this
def D6 (n:Nat) (listed:Array Bool):Nat:=((AdP n).filter fun i=>!listed.getD i false).length
theorem HP {n i:Nat} {listed:Array Bool} (hi:i<n) (hl:i<listed.size) (hu:listed.getD i false=false):D6 n (listed.setIfInBounds i true)<D6 n listed:=by
 unfold D6;have e1:((AdP n).filter fun j=>!(listed.setIfInBounds i true).getD j false)=((AdP n).filter fun j=>!listed.getD j false).filter fun j=>!(j == i):=by
  rw[List.filter_filter];apply List.filter_congr;intro j hj
  by_cases hji:j=i
  ·subst hji;rw[GV hl];simp
  ·have : (listed.setIfInBounds i true).getD j false = listed.getD j false :=by
    rw[LS,AeT,if_neg (fun e=>hji e.symm),LS]
   rw[this];simp[hji]
 rw[e1];have hm:i∈(AdP n).filter fun j=>!listed.getD j false:=AdK.2 ⟨AdQ.2 hi,by rw[hu];rfl⟩;exact List.length_filter_lt_length_iff_exists.2 ⟨i,hm,by simp⟩
theorem Ov (hG:Bn G) {C:Al} (hC:DU P G C) {ops:Array Oper} {o:Oper} {rest:List Oper} {st:St} {K:St->Prop} {a:Act} {w:World} {env:Aw} {M X:Nat->Prop} (h:Ez P C ops (o::rest) st K) (S:An P G st a w env M X) :
  (Region.wanted o (yielded ops a.tmps)=true->Gw P a o w (fun a' w'=>∃st',Ez P C ops rest st' K/\AL P G st' a' w'))/\(¬ Region.wanted o (yielded ops a.tmps)=true->∃st',Ez P C ops rest st' K/\AL P G st' (a.put o.dst undef) w):=by
 simp only[Ez]at h;split at h
 ·exact h.elim
 ·rename_i gd hgd0;obtain⟨hgd,hwant⟩:=Kw S hgd0;split at h
  ·rename_i hcheck;have hd:∀t,o.dst=some t->t<st.nt:=fun t ht=>by
    rw[ht]at hcheck;cases gd with
    |none=>simpa[DT]using hcheck
    |some g=>obtain⟨q,c,x⟩:=g;simp[DT]at hcheck;exact hcheck.1
   have hq:∀q c x,gd=some (q,c,x)->o.dst≠some q:=fun q c x hg ht=>by
    rw[ht,hg]at hcheck;simp[DT]at hcheck
   refine⟨fun hw=>?_,fun hw=>?_⟩
   ·have hh:=hwant.1 hw;split at h
    ·rename_i d t x hi hcut;obtain⟨c1,c2,c3⟩:=LX hcut;obtain⟨v,st',hr,hk,hs⟩:=Rr hG S h (hd _ c2);exact⟨fun c hc=>(by rw[c1]at hc;cases hc),.inl ⟨v,w,by simp[execOp,c1,hr],st',hk,by rw[c2];exact hs⟩⟩
    split at h
    ·exact RD hG hC S hgd hh hd hq h (fun st' a' w' hk hs=>⟨st',hk,hs⟩)
    split at h
    ·rename_i ps e hstep;obtain⟨h1,h2⟩:=Bz h;obtain⟨u,hr,hden⟩:=Kx S hgd hh hstep (F6 h1 hh) o rfl;refine⟨fun c hc=>?_,.inl ⟨u,w,hr,_,h2,⟨_,_,_,S.putG hgd hd hq (fun _=>hden) (fun hn=>absurd hh hn)⟩⟩⟩;rw[hc]at hstep;simp[F3,HD]at hstep
    ·exact RB hG hC S hgd hh hd hq h (fun st' a' w' hk hs=>⟨st',hk,hs⟩)
   ·have hh:¬ Cr gd:=fun hx=>hw (hwant.2 hx);split at h
    ·rename_i d t x hi hcut;obtain⟨c1,c2,c3⟩:=LX hcut;exact absurd trivial (by rw[c3]at hh;exact hh)
    split at h
    ·exact RE S hgd hh hd hq h
    split at h
    ·rename_i ps e hstep;obtain⟨_,h2⟩:=Bz h;exact⟨_,h2,⟨_,_,_,S.putG hgd hd hq (fun hn=>absurd hn hh) (fun _=>rfl)⟩⟩
    ·exact RC S hgd hh hd hq h
  ·exact h.elim
theorem RP (hG:Bn G) {C:Al} (hC:DU P G C) {ro:Option Nat} {n:Nat} {ops:Array Oper} {Q:Exit->Act->World->Prop} {K:St->Prop} (hK:∀st a w,K st->AL P G st a w->Q .normal a w) {k:Nat} {Z:List Nat} (hs:RH Z ops.toList k=true) (hZk:∀z,z∈Z->z<k/\z<ops.size) :
  ∀(fuel j:Nat) (listed:Array Bool) (st:St) (a:Act) (w:World),k<=j->j<=ops.size->listed.size=ops.size->(∀i,i<ops.size->(listed.getD i false=true↔i<j)) ->
    (∀(j:Nat) (oj:Oper),ops[j]? = some oj->listed.getD j false=true->∀e,e∈oj.after->Region.binds .any e=true->listed.getD e.on false=true) ->
    Ez P C ops (ops.toList.drop j) st K->AL P G st a w->D6 ops.size listed<=fuel->wpAnyIn (W ro) n P .any ops Q fuel listed a w:=by
 have suf:∀j,k<=j->j<ops.size->Hp Z ops.toList j=true:=fun j hk hj=>by
  have:=AdO.1 hs j (AdQ.2 (by simpa using hj));simpa[show ¬ j<k by omega]using this
 intro fuel
 induction fuel with
 |zero =>
   intro j listed st a w hkj hj hsz hl clo h hsat hc;have hje:j=ops.size:=by
    rcases Ae5 j ops.size with hlt|hge
    ·exfalso;have hun:listed.getD j false=false:=by
      cases hx:listed.getD j false with
      |false=>rfl
      |true=>have:=(hl j hlt).1 hx;omega
     have hm:j∈(AdP ops.size).filter fun i=>!listed.getD i false:=AdK.2 ⟨AdQ.2 hlt,by rw[hun];rfl⟩;have:=List.length_pos_of_mem hm;unfold D6 at hc;omega
    ·omega
   subst hje;have hr:Region.ready .any ops listed = []:=by
    cases hr:Region.ready .any ops listed with
    |nil=>rfl
    |cons i l =>
      exfalso;obtain⟨h0,o,ho,_⟩:=mem_ready.1 (show i∈Region.ready .any ops listed by rw[hr];simp);have hi:=(AdX.1 ho).1;have:=(hl i hi).2 hi;have hil:i<listed.size:=by omega
      rw[LS,AdI hil]at h0 this;rw[Ae1]at h0 this;rw[h0]at this;cases this
   have hd:ops.toList.drop ops.size = []:=by simp
   rw[hd]at h;exact⟨hr,hK _ _ _ h hsat⟩
 |succ fuel ih =>
   intro j listed st a w hkj hj hsz hl clo h hsat hc;refine⟨fun hr=>?_,fun i hi=>?_⟩
   ·have hje : j = ops.size :=by
     rcases Ae5 j ops.size with hlt|hge
     ·exfalso;have ho:ops[j]? = some ops[j]:=AdI hlt;have hun:listed.getD j false=false:=by
       cases hx:listed.getD j false with
       |false=>rfl
       |true=>have:=(hl j hlt).1 hx;omega
      have hmem:j∈Region.ready .any ops listed:=mem_ready.2 ⟨by
       have:j<listed.size:=by omega
       rw[LS,AdI this]at hun ⊢;exact hun,ops[j],ho,fun e he hb=>by
        have:=kA ho (suf j hkj hlt) e he hb;exact(hl e.on (by omega)).2 this⟩
      rw[hr]at hmem;cases hmem
     ·omega
    subst hje;have hd:ops.toList.drop ops.size = []:=by simp
    rw[hd]at h;exact hK _ _ _ h hsat
   ·obtain⟨h0,o,ho,hafter⟩:=mem_ready.1 hi;have hisz:=(AdX.1 ho).1;have hilt:i<listed.size:=by omega
    have hunl:listed.getD i false=false:=by
     rw[LS,AdI hilt]at h0 ⊢;exact h0
    have hij:i=j:=by
     have h1:¬ i<j:=fun hlt=>by have:=(hl i hisz).2 hlt;rw[hunl]at this;cases this
     have h2:=jY clo ho (suf i (by omega) hisz) (fun z hz=>(hl z (hZk z hz).2).2 (by have:=(hZk z hz).1;omega)) hafter;rcases Ae5 j i with hlt|hge
     ·have:=(hl j (by omega)).1 (h2 j hlt);omega
     ·omega
    subst hij;have hdrop:ops.toList.drop i=o::ops.toList.drop (i+1):=by
     have hi':i<ops.toList.length:=by simpa using hisz
     rw[List.drop_eq_getElem_cons hi'];congr 1;have:=(AdX.1 ho).2;simpa using this
    rw[hdrop]at h;obtain⟨env,M,X,S⟩:=hsat;obtain⟨k1,k2⟩:=Ov hG hC h S;have next:∀a' w',(∃st',Ez P C ops (ops.toList.drop (i+1)) st' K/\AL P G st' a' w')->wpAnyIn (W ro) n P .any ops Q fuel (listed.setIfInBounds i true) a' w':=fun a' w' ⟨st',hk,hs'⟩=>by
     refine ih (i+1) _ st' a' w' (by omega) (by omega) (by simpa using hsz) (fun m hm=>⟨fun hx=>?_,fun hx=>?_⟩) (fun m om hom hlm e' he' hb'=>?_) hk hs' (by have:=HP (n:=ops.size) hisz hilt hunl;omega)
     ·rcases EI hx with rfl|hx
      ·omega
      ·have:=(hl m hm).1 hx;omega
     ·rcases Ae5 m i with hlt|hge
      ·exact DD ((hl m hm).2 hlt)
      ·obtain rfl:m=i:=by omega
       exact GV hilt
     ·rcases EI hlm with rfl|hlm
      ·rw[ho]at hom;cases hom;exact DD (hafter e' he' hb')
      ·exact DD (clo m om hom hlm e' he' hb')
    unfold wpOpIn;rw[ho];simp only;split
    ·rename_i hw;have:=k1 hw;refine Mj (N:=wpAnyIn (W ro) n P .any ops Q fuel (listed.setIfInBounds i true)) ?_;obtain⟨l1,l2⟩:=this;refine⟨l1,?_⟩;rcases l2 with ⟨u,w',hr,hk⟩|⟨w',hr,hk⟩|⟨f,args,w',hr,hk⟩|⟨l,f,tmps,assign,body,w',hr,hk⟩
     ·exact .inl ⟨u,w',hr,next _ _ hk⟩
     ·exact .inr (.inl ⟨w',hr,next _ _ hk⟩)
     ·exact .inr (.inr (.inl ⟨f,args,w',hr,F7 hk fun e w'' ⟨v,he,hk⟩=>⟨v,he,next _ _ hk⟩⟩))
     ·exact .inr (.inr (.inr ⟨l,f,tmps,assign,body,w',hr,Jf hk fun e w'' ⟨v,he,hk⟩=>⟨v,he,next _ _ hk⟩⟩))
    ·rename_i hw;exact⟨fun _ _=>trivial,next _ _ (k2 hw)⟩
theorem Mn {o:Oper} {a:Act} {w:World} {N N':Act->World->Prop} (h:Gw P a o w N) (k:∀a' w',N a' w'->N' a' w'):Gw P a o w N':=by
 obtain⟨l1,l2⟩:=h;refine⟨l1,?_⟩;rcases l2 with ⟨u,w',hr,hk⟩|⟨w',hr,hk⟩|⟨f,args,w',hr,hk⟩|⟨l,f,tmps,assign,body,w',hr,hk⟩
 ·exact .inl ⟨u,w',hr,k _ _ hk⟩
 ·exact .inr (.inl ⟨w',hr,k _ _ hk⟩)
 ·exact .inr (.inr (.inl ⟨f,args,w',hr,F7 hk fun e w'' ⟨v,he,hk⟩=>⟨v,he,k _ _ hk⟩⟩))
 ·exact .inr (.inr (.inr ⟨l,f,tmps,assign,body,w',hr,Jf hk fun e w'' ⟨v,he,hk⟩=>⟨v,he,k _ _ hk⟩⟩))
theorem Jw {o:Oper} {d s:Nat} (h:F8 o=some (d,s)):(o.op=.move (.tmp s)\/∃n,o.op=.extract (.tmp s) n)/\o.dst=some d/\o.guard=none:=by
 unfold F8 at h;split at h
 ·rename_i h1 h2 h3;cases h;exact⟨.inl h1,h2,h3⟩
 ·rename_i h1 h2 h3;cases h;exact⟨.inr ⟨_,h1⟩,h2,h3⟩
 ·cases h
theorem kB {o:Oper} {d s:Nat} (h:F8 o=some (d,s)) {a a':Act} (he:a'.eval (.tmp s)=a.eval (.tmp s)):execOp a'.eval o=execOp a.eval o:=by
 obtain⟨h1|⟨n,h1⟩,_,_⟩:=Jw h
 ·simp only[execOp,h1,he]
 ·simp only[execOp,h1,he]
theorem Mo {o:Oper} {d s:Nat} (h:F8 o=some (d,s)) {a:Act} {w w':World} {x:Next} (hr:(execOp a.eval o).run P w=.ok x w'):∃u,x=.value u/\w'=w/\∀w2,(execOp a.eval o).run P w2=.ok (.value u) w2:=by
 obtain⟨h1|⟨n,h1⟩,_,_⟩:=Jw h
 ·simp only[execOp,h1]at hr ⊢;cases hr;exact⟨_,rfl,rfl,fun _=>rfl⟩
 ·simp only[execOp,h1]at hr ⊢;unfold Instr.extract at hr ⊢;split at hr
  ·rename_i vs hv;split at hr
   ·rename_i v hx;cases hr;exact⟨v,rfl,rfl,fun _=>rfl⟩
   ·cases hr
  ·cases hr
theorem RQ {o:Oper} {a:Act} {w:World} {N:Act->World->Prop} {d s:Nat} (h:Gw P a o w N) (hm:F8 o=some (d,s)):∃u,(∀w2,(execOp a.eval o).run P w2=.ok (.value u) w2)/\N (a.put (some d) u) w:=by
 obtain⟨_,hd,_⟩:=Jw hm;rcases h.2 with ⟨u,w',h1,h2⟩|⟨w',h1,h2⟩|⟨f,args,w',h1,h2⟩|⟨l,f,tmps,assign,body,w',h1,h2⟩
 ·obtain⟨v,e1,e2,e3⟩:=Mo hm h1;cases e1;subst e2;rw[hd]at h2;exact⟨u,e3,h2⟩
 ·obtain⟨v,e1,_,_⟩:=Mo hm h1;cases e1
 ·obtain⟨v,e1,_,_⟩:=Mo hm h1;cases e1
 ·obtain⟨v,e1,_,_⟩:=Mo hm h1;cases e1
theorem Ow {ops:Array Oper} {o:Oper} {a:Act} {d s:Nat} (hm:F8 o=some (d,s)):Region.wanted o (yielded ops a.tmps)=true:=by
 obtain⟨_,_,hg⟩:=Jw hm;simp[Region.wanted,hg]
theorem Mp {F:Fence} {n:Nat} {ops:Array Oper} {md:Region.Mode} {Q Q':Exit->Act->World->Prop} (h:∀e a w,Q' e a w->Q e a w) :
  ∀(fuel:Nat) (listed:Array Bool) (a:Act) (w:World),wpAnyIn F n P md ops Q' fuel listed a w->wpAnyIn F n P md ops Q fuel listed a w
 |0,listed,a,w,hw=>⟨hw.1,h _ _ _ hw.2⟩
 |fuel+1,listed,a,w,hw=>by
   refine⟨fun hr=>h _ _ _ (hw.1 hr),fun i hi=>?_⟩;have h1:=wpOpIn_mono (fun a' w'=>Mp h fuel (listed.setIfInBounds i true) a' w') (hw.2 i hi);unfold wpOpIn at *;split
   ·rename_i ho;simpa[ho]using h1
   ·rename_i o ho;simp only[ho]at h1;split
    ·rename_i hwd;simp only[hwd,if_true]at h1;unfold Oper.wpIn at *;refine⟨h1.1,?_⟩;have h2:=h1.2;generalize (o.semAt F.round a.eval).run P w=r at *;have hL:LetsOut Q'->LetsOut Q:=fun⟨a,w,q⟩=>⟨a,w,h _ _ _ q⟩;cases r with
     |ok x w' =>
       cases x<;>simp only[Oper.uponIn]at h2 ⊢<;>first|exact h2|skip
       ·refine⟨h2.1,CallsIn.mono h2.2 fun e w'' he=>?_⟩;cases e with
        |returned u=>exact he
        |panicked c=>exact h _ _ _ he
        |outgrown=>exact hL he
       ·refine⟨h2.1,RoundIn.mono h2.2 fun e w'' he=>?_⟩;cases e with
        |returned u=>exact he
        |panicked c=>exact h _ _ _ he
        |outgrown=>exact hL he
     |halt x w' =>
       cases x<;>simp only[Oper.uponIn]at h2 ⊢<;>first|exact h _ _ _ h2|exact h2
    ·rename_i hwd;simp only[hwd]at h1;exact h1
theorem kC {ro:Option Nat} {n:Nat} {ops:Array Oper} {Q:Exit->Act->World->Prop} {j:Nat} {oj:Oper} (hj:ops[j]? = some oj) {d s:Nat} {v:Value} (h1:d ∉ oj.looksAt ops) (h2:oj.dst≠some d) (h3:oj.dst≠some s) (h4:∀c,oj.op ≠ .defer c) (h5:∀cs b,oj.op ≠ .select cs b)
  (hQ:∀c a w,¬ Q (.panic c) a w) {K:Act->World->Prop} {a:Act} {w:World} (h:wpOpIn (W ro) n P ops Q j K (a.put (some d) v) w) :
  wpOpIn (W ro) n P ops Q j (fun a' w'=>a'.eval (.tmp s)=a.eval (.tmp s)/\K (a'.put (some d) v) w') a w:=by
 have h1':∀t,some d=some t->t ∉ oj.looksAt ops:=fun t e=>by cases e;exact h1
 have keep:∀u,(a.put oj.dst u).eval (.tmp s)=a.eval (.tmp s):=fun u=>Act.eval_put fun t ht e=>by cases e;exact h3 ht
 have swap:∀u,(a.put (some d) v).put oj.dst u=(a.put oj.dst u).put (some d) v:=fun u=>Act.put_comm a v u fun t ht=>by cases ht;exact h2
 unfold wpOpIn at *;simp only[hj]at *;rw[wanted_put oj a (some d) v h1',about_put oj w a (some d) v h1']at h;split
 ·rename_i hw;simp only[hw,if_true]at h;unfold Oper.wpIn at *;rw[about_put oj w a (some d) v h1']at h;refine⟨h.1,?_⟩;have h:=h.2;rw[Oper.semAt_eq _ _ _ h4,execOp_put oj h5 a (some d) v h1']at h;rw[Oper.semAt_eq _ _ _ h4];generalize (execOp a.eval oj).run P w=r at *;cases r with
  |ok x w' =>
    cases x<;>simp only[Oper.uponIn]at h ⊢
    case value u=>exact⟨keep u,by rw[<- swap];exact h⟩
    case skip=>exact⟨keep _,by rw[<- swap];exact h⟩
    case defer q =>
     refine⟨Act.eval_put (a:={ a with defers:=q::a.defers }) fun t ht e=>by cases e;exact h3 ht,?_⟩;rw[<- Act.put_comm _ v undef (fun t ht=>by cases ht;exact h2),<- Act.put_defers];exact h
    case enter f args =>
     refine⟨h.1,CallsIn.mono h.2 fun e w'' he=>?_⟩;cases e with
     |returned u=>exact⟨keep u,by rw[<- swap];exact he⟩
     |panicked c=>exact(hQ _ _ _ he).elim
     |outgrown=>exact he
    case row row args=>exact⟨h.1,RowsIn.mono h.2 fun u w'' he=>⟨keep u,by rw[<- swap];exact he⟩⟩
    case round l f tmps assign body =>
     refine⟨h.1,RoundIn.mono h.2 fun e w'' he=>?_⟩;cases e with
     |returned u=>exact⟨keep u,by rw[<- swap];exact he⟩
     |panicked c=>exact(hQ _ _ _ he).elim
     |outgrown=>exact he
  |halt x w' =>
    cases x<;>simp only[Oper.uponIn]at h ⊢
    case panic u=>exact(hQ _ _ _ h).elim
 ·rename_i hw;simp only[hw]at h;exact⟨h.1,keep _,by rw[<- swap];exact h.2⟩
theorem Ox {ops:Array Oper} (h:HM ops=true) {j:Nat} {o:Oper} (ho:ops[j]? = some o):(∀c,o.op ≠ .defer c)/\∀cs b,o.op ≠ .select cs b:=by
 have:=AeO.1 h o (Array.mem_of_getElem? ho);constructor
 ·intro c e;simp[e]at this
 ·intro cs b e;simp[e]at this
theorem kD {ops:Array Oper} {i:Nat} {oi:Oper} {d s:Nat} (hi:ops[i]? = some oi) (hm:F8 oi=some (d,s)) (h:Jt ops i=true) :
  ∀(j:Nat) (oj:Oper),ops[j]? = some oj->j≠i->(∀e,e∈oj.after->Region.binds .any e=true->e.on≠i)->(∀e,e∈oi.after->Region.binds .any e=true->e.on≠j)->d ∉ oj.looksAt ops/\oj.dst≠some d/\oj.dst≠some s:=by
 unfold Jt at h;rw[hi]at h;simp only[hm,oE]at h;obtain⟨_,h3⟩:=h;intro j oj hj hne hno hno2;have h4:=AdO.1 h3 j (AdQ.2 (AdX.1 hj).1);simp only[hj,Aen,beq_iff_eq,hne,false_or,oE,Aer,beq_eq_false_iff_ne]at h4;refine⟨?_,h4.1.2,?_⟩
 ·rcases h4.1.1 with h5|h5
  ·obtain⟨e,he,hb⟩:=Array.any_eq_true'.1 h5;simp only[oE,beq_iff_eq]at hb;exact absurd hb.2 (hno e he hb.1)
  ·simpa using h5
 ·rcases h4.2 with h5|h5
  ·obtain⟨e,he,hb⟩:=Array.any_eq_true'.1 h5;simp only[oE,beq_iff_eq]at hb;exact absurd hb.2 (hno2 e he hb.1)
  ·exact h5
theorem kE {ro:Option Nat} {n:Nat} {ops:Array Oper} {Q:Exit->Act->World->Prop} {i:Nat} {oi:Oper} {d s:Nat} (hi:ops[i]? = some oi) (hm:F8 oi=some (d,s)) (hl:Jt ops i=true) (hp:HM ops=true) (hQ:∀c a w,¬ Q (.panic c) a w) {u:Value} :
  ∀(fuel:Nat) (listed:Array Bool) (a:Act) (w:World),listed.getD i true=false->(∀e,e∈oi.after->Region.binds .any e=true->listed.getD e.on false=true)->(∀w2,(execOp a.eval oi).run P w2=.ok (.value u) w2) ->
    wpAnyIn (W ro) n P .any ops Q fuel (listed.setIfInBounds i true) (a.put (some d) u) w->wpAnyIn (W ro) n P .any ops Q (fuel+1) listed a w:=by
 have l2:=kD hi hm hl;obtain⟨m1,m2,m3⟩:=Jw hm;have ready:∀listed:Array Bool,listed.getD i true=false->(∀e,e∈oi.after->Region.binds .any e=true->listed.getD e.on false=true)->i∈Region.ready .any ops listed:=fun listed h k=>mem_ready.2 ⟨h,oi,hi,k⟩;have nodef:∀c,oi.op ≠ .defer c:=fun c e=>by
  rcases m1 with m1|⟨_,m1⟩<;>rw[m1]at e<;>cases e
 have now:∀{K:Act->World->Prop} {a:Act} {w:World},(∀w2,(execOp a.eval oi).run P w2=.ok (.value u) w2)->K (a.put (some d) u) w->wpOpIn (W ro) n P ops Q i K a w:=fun {K a w} hr h=>by
  unfold wpOpIn;rw[hi];simp only[Ow hm,if_true];refine⟨fun _ _=>trivial,?_⟩;rw[Oper.semAt_eq _ _ _ nodef,hr];show K (a.put oi.dst _) w;rw[m2];exact h
 intro fuel
 induction fuel with
 |zero =>
   intro listed a w hun haf hr H;refine⟨fun h=>(by have:=ready listed hun haf;rw[h]at this;cases this),fun j hj=>?_⟩
   by_cases hji:j=i
   ·subst hji;exact now hr H
   ·have:=ready_mono hj hji;rw[H.1]at this;cases this
 |succ fuel ih =>
   intro listed a w hun haf hr H;refine⟨fun h=>(by have:=ready listed hun haf;rw[h]at this;cases this),fun j hj=>?_⟩
   by_cases hji:j=i
   ·subst hji;exact now hr H
   ·have h1:=H.2 j (ready_mono hj hji);obtain⟨hju,oj,hoj,hall⟩:=mem_ready.1 hj;have hno:∀e,e∈oj.after->Region.binds .any e=true->e.on≠i:=fun e he hb heq=>by
     have h1:=hall e he hb;rw[heq]at h1;rcases Ae5 i listed.size with h'|h'
     ·simp[h']at hun h1;rw[hun]at h1;cases h1
     ·simp[Afi h']at h1
    have hno2:∀e,e∈oi.after->Region.binds .any e=true->e.on≠j:=fun e he hb heq=>by
     have h1:=haf e he hb;rw[heq]at h1;rcases Ae5 j listed.size with h'|h'
     ·simp[h']at hju h1;rw[hju]at h1;cases h1
     ·simp[Afi h']at h1
    obtain⟨p1,p2,p3⟩:=l2 j oj hoj hji hno hno2;obtain⟨p4,p5⟩:=Ox hp hoj;have h2:=kC hoj p1 p2 p3 p4 p5 hQ h1;refine wpOpIn_mono (fun a' w' h3=>?_) h2;obtain⟨h3,h4⟩:=h3;refine ih (listed.setIfInBounds j true) a' w' (by rw[getD_set_ne true hji];exact hun) (fun e he hb=>DD (haf e he hb)) (fun w2=>by rw[kB hm h3];exact hr w2) ?_;rw[Array.setIfInBounds_comm _ _ hji];exact h4
theorem Jx {l:List (Nat×Aq)} {k k':Nat} {o o':Aq} (h:(k',o')∈l) (hn:k'≠k):(k',o')∈upd l k o:=AdN.2 ⟨(k',o'),h,by simp[hn]⟩
theorem RR {k:Nat}:∀(cs:List EV) (off:Nat) (e:EV),EV.names.namesL k cs=false->e.names k=false->EV.names.namesL k (cs.set off e)=false
 |[],_,_,h,_=>h
 |c::cs,0,e,h,he=>by
   simp only[EV.names.namesL,AeI,List.set_cons_zero]at h ⊢;exact⟨he,h.2⟩
 |c::cs,off+1,e,h,he=>by
   simp only[EV.names.namesL,AeI,List.set_cons_succ]at h ⊢;exact⟨h.1,RR cs off e h.2 he⟩
theorem RS {k:Nat}:∀(l:List EV) (cs:List EV) (off:Nat),EV.names.namesL k cs=false->(∀e,e∈l->e.names k=false)->EV.names.namesL k (Eg cs off l)=false
 |[],cs,off,h,_=>h
 |e::l,cs,off,h,hl=>RS l _ _ (RR cs off e h (hl e (by simp))) (fun e' he'=>hl e' (by simp[he']))
theorem RT {k:Nat}:∀{l:List EV},(CF l).isSome=true->∀e,e∈l->e.names k=false
 |[],_,e,h=>by cases h
 |c::l,h,e,he=>by
   cases c with
   |p s =>
     simp only[CF,Option.isSome_map]at h;rcases AdR.1 he with rfl|he
     ·rfl
     ·exact RT h e he
   |_=>simp[CF]at h
theorem Hq {l:Array Bool} {i j:Nat} (h:j≠i):(l.setIfInBounds i true).getD j false=l.getD j false:=by
 rw[LS,AeT,if_neg (fun e=>h e.symm),LS]
theorem kF (hG:Bn G) {C:Al} (hC:DU P G C) {ro:Option Nat} {n:Nat} {ops:Array Oper} {Q:Exit->Act->World->Prop} {K:St->Prop} (hK:∀st a w,K st->AL P G st a w->Q .normal a w) (hQ:∀c a w,¬ Q (.panic c) a w)
  {st:St} (h:Mf P C ops st K) {a:Act} {w:World} (hs:AL P G st a w):wpAnyIn (W ro) n P .any ops Q ops.size (Aey ops.size false) a w:=by
 unfold Mf RI at h;generalize hstf:(st.noGuards ops.toList).forgets (ET P ops.toList)=stf at h;generalize hE:Oj ops stf.own=E at h;generalize Om P C ops E ops.toList (stf.minus ops)=k at h;split at h
 ·rename_i hchk0;simp only[oE]at hchk0;obtain⟨hchk,hsuf⟩:=hchk0;obtain⟨Z,eZ⟩:∃Z,On ops k=Z:=⟨_,rfl⟩;rw[eZ]at hsuf;have hZ:∀z,z∈Z->z<k/\z<ops.size/\Jt ops z=true/\HM ops=true:=fun z hz=>by
   rw[<- eZ]at hz;unfold On at hz;split at hz
   ·rename_i hc;rw[oE]at hc;obtain⟨h1,h2⟩:=AdK.1 hz;rw[oE]at h2;have:=AdQ.1 h1;have h3:k<ops.size:=of_decide_eq_true hc.1;exact⟨this,by omega,h2.1,hc.2⟩
   ·cases hz
  have taken:∀{i:Nat} {o:Oper},i<k->ops[i]? = some o->(ops.toList.take k)[i]? = some o:=fun hi h=>by rw[List.getElem?_take,if_pos hi];simpa using h
  have untake:∀{i:Nat} {o:Oper},(ops.toList.take k)[i]? = some o->i<k/\ops[i]? = some o:=fun {i o} h=>by
   rw[List.getElem?_take]at h;split at h
   ·exact⟨by assumption,by simpa using h⟩
   ·cases h
  split at h
  ·rename_i ps es stF hgo;split at h;rotate_left
   ·exact h.elim
   rename_i hac;obtain⟨hac,hnda⟩:=Bool.and_eq_true_iff.1 hac;have hnda:=ES hnda;obtain⟨hps,hKF⟩:=Bz h;generalize hst0:stf.minus ops=st00 at *;have hstT:∀x,x∈st00.T->x∈(st.noGuards ops.toList).T/\∀d,d∈ET P ops.toList->x.2.v.names d=false:=fun x hx=>by rw[<- hst0]at hx;have hx:x∈stf.T:=hx;rw[<- hstf]at hx;exact jW _ hx
   have hstO:=jV (st.noGuards ops.toList) (ET P ops.toList);rw[hstf]at hstO;have h0T:∀x,x∈st00.T↔x∈stf.T:=fun x=>by rw[<- hst0];exact Iff.rfl
   have h0O:∀x,x∈st00.own↔x∈stf.own/\(GT ops x.1&&Js x.2)=false:=fun x=>by
    rw[<- hst0];show x∈stf.own.filter _↔_;rw[AdK,Aer]
   have hEm:∀x,x∈E↔x∈stf.own/\(GT ops x.1&&Js x.2)=true:=fun x=>by
    rw[<- hE];exact AdK
   have h0yk:st00.yk=stf.yk/\st00.stop=stf.stop/\st00.nt=stf.nt:=by rw[<- hst0];exact⟨rfl,rfl,rfl⟩
   obtain⟨hlen,⟨twF,hF⟩,hat⟩:=RL _ _ _ _ _ hgo;have hchk':=fun i o hi=>Ot (ops.toList.take k) 0 hchk i o hi;simp only[Nat.zero_add]at hchk';have oper:∀{i:Nat} {o:Oper},ops[i]? = some o->ops.toList[i]? = some o:=fun h=>by simpa using h
   have noG:∀x,x∈st00.T->∀(j:Nat) (oj:Oper) d,ops[j]? = some oj->oj.dst=some d->x.2.by d=false:=fun x hx j oj d hj hd=>by
    have h1:=(AdK.1 (hstT x hx).1).2;simp only[Aer,List.any_eq_false]at h1;have:=h1 oj (AeE (oper hj));rw[hd]at this;simpa using this
   have hsub:AL P G stf a w:=by
    obtain⟨env,M,X,S⟩:=hs;exact⟨env,M,X,S.sub (fun x hx=>(AdK.1 (hstT x ((h0T x).2 hx)).1).1) (fun _ hx=>by rw[hstO.1]at hx;exact hx) (by rw[hstO.1];exact S.nod) hstO.2.1 hstO.2.2.2⟩
   have hndf:(stf.own.map (·.1)).Nodup:=by obtain⟨_,_,_,S⟩:=hsub;exact S.nod
   have hnd0:(st00.own.map (·.1)).Nodup:=by
    rw[<- hst0];exact hndf.sublist (List.Sublist.map _ List.filter_sublist)
   have hkey:∀x y,x∈stf.own->y∈stf.own->x.1=y.1->x=y:=fun x y hx hy e=>by
    have h1:=GQ (k:=x.1) (o:=x.2) hndf hx;have h2:=GQ (k:=y.1) (o:=y.2) hndf hy;rw[e,h2]at h1;injection h1 with h1;exact Prod.ext e h1.symm
   have exNo:∀(d:Nat),GT ops d=true->∀(j:Nat) (oj:Oper),ops[j]? = some oj->oj.dst≠some d:=fun d hd j oj hj hdst=>by
    unfold GT at hd;simp only[oE,Aer,List.any_eq_false]at hd;exact hd.2.2 oj (AeE (oper hj)) (by simp[HK,hdst])
   have stA:∀(js:Nat) (os:Oper) (t:TypeId) (d:Nat) (x:Operand),js<k->ops[js]? = some os->EU os=some (t,d,x)->ops.toList.any (Jp t d)=true->∃(i0:Nat) (o0:Oper),i0<js/\ops[i0]? = some o0/\o0.dst=some d/\∃e,e∈os.after/\Region.binds .any e=true/\e.on=i0:=by
    intro js os t d x hjk hj hs hmade;obtain⟨sti,psi,e,hstep,_,_,_,hTi⟩:=hat js os (taken hjk hj);obtain⟨y,hy,hb,_⟩:=Mh hs hstep;have hdd:d∈ET P ops.toList:=by
     obtain⟨om,hm1,hm2⟩:=AeY.1 hmade;unfold Jp at hm2;split at hm2
     ·rename_i t' d' h1 h2;simp only[oE,beq_iff_eq]at hm2;obtain⟨rfl,rfl⟩:=hm2;refine Ml (o:=om) (o':=.blk t' (y.zero.cells.toList.map fun v=>.p (BZ v))) hm1 ?_;unfold Cl;rw[h1,h2];simp[hy]
     ·cases hm2
    obtain⟨en,hen,hev⟩:∃en,GI (sti.only (Cv ops os)).T d=some en/\en.v=.loc d 0:=by
     unfold St.rho St.ent at hb;simp only at hb;split at hb
     ·rename_i en hen;split at hb
      ·injection hb with hb;exact⟨en,hen,hb⟩
      ·cases hb
     ·cases hb
    have hm:=H9 hen;obtain⟨hm1,hm2⟩:=AdK.1 hm;have hds:d∈Cv ops os:=by simpa using hm2
    rcases hTi _ hm1 with ⟨h1,_⟩|⟨j,oj,hlt,hj',hd,_⟩
    ·have:=(hstT _ h1).2 d hdd;simp only[hev]at this;simp[EV.names]at this
    ·have:=((hchk' js os (taken hjk hj)).2 j oj d (by omega) hj' hd).2.1 hds;rw[if_pos hlt]at this;obtain⟨e',he',hb',hon⟩:=I8 this;exact⟨j,oj,hlt,(untake hj').2,hd,e',he',hb',hon⟩
   have plainC:∀(js:Nat) (os:Oper) (t:TypeId) (d:Nat) (x:Operand) (e:AE),js<k->ops[js]? = some os->EU os=some (t,d,x)->es[js]? = some e->(CF (BF e.v)).isSome=true:=by
    intro js os t d x e hjk hj hs he;obtain⟨sti,psi,e',hstep,hes,_,_,_⟩:=hat js os (taken hjk hj);rw[he]at hes;cases hes;obtain⟨_,_,_,_,_,_,_,_,_,_,hp⟩:=Mh hs hstep;exact hp
   have contN:∀(q:Nat->Bool) (z:Nat×Aq),(∀j,q j=true->j<k)->∀k',z.2.names k'=false->(BN ops es q z).2.names k'=false:=by
    intro q z hq k' hz;unfold BN;split
    ·rename_i t cs j h1 h2;split
     ·rename_i e hqj hej;obtain⟨os,t',x',hos,hso⟩:=FZ h2;have hz':=hz;rw[h1]at hz';exact RS _ _ _ hz' (RT (plainC j os t' z.1 x' e (hq j hqj) hos hso hej))
     ·exact hz
    ·exact hz
   have step : ∀(listed : Array Bool) (a : Act) (w : World), I9 P G ops E st00 es listed a w->(∀i, listed.getD i false = true->i<k)->∀(i:Nat) (o : Oper), i<k->ops[i]? = some o->listed.getD i false = false->(∀e, e∈o.after->Region.binds .any e = true->listed.getD e.on false = true) ->
    (Region.wanted o (yielded ops a.tmps)=true->Gw P a o w (fun a' w'=>I9 P G ops E st00 es (listed.setIfInBounds i true) a' w'))/\(¬ Region.wanted o (yielded ops a.tmps)=true->I9 P G ops E st00 es (listed.setIfInBounds i true) (a.put o.dst undef) w):=by
    intro listed a w inv hpre i o hik ho hunl hafter;have hisz:=(AdX.1 ho).1;have hilt:i<listed.size:=by rw[inv.siz];exact hisz
    obtain⟨c1,c2⟩:=hchk' i o (taken hik ho);obtain⟨sti,psi,e,hstep,hes,hpsi,twi,hTi⟩:=hat i o (taken hik ho);obtain⟨st2,tw,hO,hT,env,M,X,S⟩:=inv.sat;have S2:An P G (sti.only (Cv ops o)) a w env M X:=by
     refine S.sub (fun x hx=>(hT x).2 ?_) (fun x hx=>(hO x).2 (.inl (by rw[<- twi.1];exact hx))) (by show(sti.own.map (·.1)).Nodup;rw[twi.1];exact hnd0) (twi.2.1.trans tw.1.symm) (twi.2.2.2.trans tw.2.2.symm);obtain⟨hx1,hx2⟩:=AdK.1 hx;have hx2:x.1∈Cv ops o:=by simpa using hx2
     rcases hTi x hx1 with ⟨h1,h2⟩|⟨j,oj,hlt,hj,hd,he⟩
     ·refine .inl ⟨h1,fun j oj hj hl hd=>?_⟩;have hne:j≠i:=fun e=>by subst e;rw[hunl]at hl;cases hl
      rcases Ae5 j i with hlt|hge
      ·exact h2 j oj hlt (taken (hpre j hl) hj) hd
      ·have:=(c2 j oj _ hne (taken (hpre j hl) hj) hd).2.1 hx2;rw[if_neg (by omega)]at this;obtain⟨e',he',hb',hon⟩:=I8 this;have:=inv.clo j oj hj hl e' he' hb';rw[hon,hunl]at this;cases this
     ·have hj':ops[j]? = some oj:=(untake hj).2;have:=(c2 j oj _ (by omega) hj hd).2.1 hx2;rw[if_pos hlt]at this;obtain⟨e',he',hb',hon⟩:=I8 this;have hl:=hafter e' he' hb';rw[hon]at hl;exact .inr ⟨j,oj,hj',hl,hd,he⟩
    cases hso:EU o with
    |some sx =>
      obtain⟨t,d,x⟩:=sx;obtain⟨y,hy,hb,hx,heg,s1c,s2c,hmk,huse,hone,hplain⟩:=Mh hso hstep;obtain⟨s1,s2,s3⟩:=Oq hso;have hwant:Region.wanted o (yielded ops a.tmps)=true:=by simp[Region.wanted,s3]
      have hst:=jT ho hso huse;rcases hmk with ⟨hmade,hmake⟩|⟨hex,hblk⟩;rotate_left
      ·obtain⟨t0, cs, hlE, hcs⟩: ∃t0 cs, BE E d = some (.blk t0 cs)/\y.size<=cs.length :=by
        unfold Ol at hblk;split at hblk
        ·rename_i t0 cs hl;exact⟨t0,cs,hl,of_decide_eq_true hblk⟩
        ·cases hblk
       have hdE:=Bp hlE;have hdf:=((hEm _).1 hdE).1;have hmem:(d,Aq.blk t0 cs)∈st2.own:=(hO _).2 (.inr (.inr ⟨_,hdE,(KE (fun j hj=>by rw[hst]at hj;cases hj;exact hunl)).symm⟩));have hlk:=GQ S.nod hmem;have hsym:Hi st2 y (.loc d 0) e.v=some ([],{ st2 with own:=upd st2.own d (.blk t0 (Eg cs 0 (BF e.v))) }):=by
        simp only[Hi,hlk];rw[if_pos ⟨s1c,by omega,hone⟩]
       obtain⟨w',hr,S'⟩:=NR hG S hy hsym Kb (Bb S2 (gd:=none) (fun _ _ _ h=>(by cases h)) trivial hb) (Bb S2 (gd:=none) (fun _ _ _ h=>(by cases h)) trivial hx);refine⟨fun _=>⟨fun c hc=>(by rw[s1]at hc;cases hc),.inr (.inl ⟨w',(by simp only[execOp,s1];exact K0 hr),?_⟩)⟩,fun hn=>absurd hwant hn⟩;rw[s2];have hcg:∀y':Nat×Aq,y'.1≠d->BN ops es (fun j=>(listed.setIfInBounds i true).getD j false) y'=BN ops es (fun j=>listed.getD j false) y':=fun y' hyd=>I7 fun js hjs=>Hq fun e=>by
        subst e;obtain⟨o',t',x',ho',hs'⟩:=FZ hjs;rw[ho]at ho';cases ho';rw[hso]at hs';cases hs';exact hyd rfl
       have hnew:BN ops es (fun j=>(listed.setIfInBounds i true).getD j false) (d,.blk t0 cs)=(d,.blk t0 (Eg cs 0 (BF e.v))):=by
        unfold BN;simp only[hst,GV hilt,hes]
       refine⟨by simpa using inv.siz,fun j oj hj hl e' he' hb'=>?_,{ st2 with own:=upd st2.own d (.blk t0 (Eg cs 0 (BF e.v))) },⟨tw.1,tw.2.1,tw.2.2⟩,fun z=>⟨fun hz=>?_,fun hz=>?_⟩,fun z=>⟨fun hz=>?_,fun hz=>?_⟩,env,M,X,S'⟩
       ·rcases EI hl with rfl|hl
        ·rw[ho]at hj;cases hj;exact DD (hafter e' he' hb')
        ·exact DD (inv.clo j oj hj hl e' he' hb')
       ·rcases D4 (k':=z.1) (o':=z.2) hz with ⟨h1,h2,_⟩|⟨h1,h2⟩
        ·refine .inr (.inr ⟨_,hdE,?_⟩);rw[hnew];exact Prod.ext h1 h2
        ·rcases(hO z).1 h2 with h|⟨j,oj,hj,hl,y',hy',rfl⟩|⟨y',hy',rfl⟩
         ·exact .inl h
         ·rw[Ga]at h1;exact .inr (.inl ⟨j,oj,hj,DD hl,y',hy',(hcg y' h1).symm⟩)
         ·rw[Ga]at h1;exact .inr (.inr ⟨y',hy',(hcg y' h1).symm⟩)
       ·rcases hz with h|⟨j,oj,hj,hl',y',hy',rfl⟩|⟨y',hy',rfl⟩
        ·have hzd : z.1≠d :=fun ed =>by
          obtain⟨q1,q2⟩:=(h0O z).1 h;have:=hkey z _ q1 hdf ed;rw[this,hex]at q2;cases q2
         exact Jx (k':=z.1) (o':=z.2) ((hO z).2 (.inl h)) hzd
        ·obtain⟨e1,e2⟩:=Jv (d:=y'.1) (o':=y'.2) hy';have hyd:y'.1≠d:=fun ed=>exNo d hex j oj hj (by rw[e1,ed]);rcases EI hl' with rfl|hl
         ·rw[ho]at hj;cases hj;unfold Cl at hy';rw[s1]at hy';cases hy'
         ·rw[hcg y' hyd];exact Jx (k':=(BN ops es (fun j=>listed.getD j false) y').1) (o':=(BN ops es (fun j=>listed.getD j false) y').2) ((hO _).2 (.inr (.inl ⟨j,oj,hj,hl,y',hy',rfl⟩))) (by rw[Ga];exact hyd)
        ·by_cases hyd:y'.1=d
         ·have:=hkey y' _ ((hEm y').1 hy').1 hdf hyd;subst this;rw[hnew];exact NY hmem
         ·rw[hcg y' hyd];exact Jx (k':=(BN ops es (fun j=>listed.getD j false) y').1) (o':=(BN ops es (fun j=>listed.getD j false) y').2) ((hO _).2 (.inr (.inr ⟨y',hy',rfl⟩))) (by rw[Ga];exact hyd)
       ·rcases(hT z).1 hz with ⟨h1,h2⟩|⟨j,oj,hj,hl,hd,he⟩
        ·refine .inl ⟨h1,fun j oj hj hl hd=>?_⟩;rcases EI hl with rfl|hl
         ·rw[ho]at hj;cases hj;rw[s2]at hd;cases hd
         ·exact h2 j oj hj hl hd
        ·exact .inr ⟨j,oj,hj,DD hl,hd,he⟩
       ·refine(hT z).2 ?_;rcases hz with ⟨h1,h2⟩|⟨j,oj,hj,hl',hd,he⟩
        ·exact .inl ⟨h1,fun j oj hj hl=>h2 j oj hj (DD hl)⟩
        ·rcases EI hl' with rfl|hl
         ·rw[ho]at hj;cases hj;rw[s2]at hd;cases hd
         ·exact .inr ⟨j,oj,hj,hl,hd,he⟩
      obtain⟨i0,o0,hi0,ho0,hd0,e0,he0,hb0,hon0⟩:=stA i o t d x hik ho hso hmade;have hl0:listed.getD i0 false=true:=by rw[<- hon0];exact hafter e0 he0 hb0
      have hnew0:Cl P o0 = [(d,.blk t (y.zero.cells.toList.map fun v=>.p (BZ v)))]:=by
       obtain⟨om,hm1,hm2⟩:=AeY.1 hmade;obtain⟨im,him⟩:=List.getElem?_of_mem hm1;have hm3:=hm2;unfold Jp at hm3;split at hm3
       ·rename_i t' d' h1 h2;simp only[oE,beq_iff_eq]at hm3;obtain⟨rfl,rfl⟩:=hm3;have:=Mi hmake him (oper ho0) (by simp[HK,h2]) (by simp[HK,hd0]);subst this;rw[oper ho0]at him;cases him;unfold Cl;rw[h1,h2];simp[hy]
       ·cases hm3
      have hmem:(d,Aq.blk t (y.zero.cells.toList.map fun v=>.p (BZ v)))∈st2.own:=(hO _).2 (.inr (.inl ⟨i0,o0,ho0,hl0,_,by rw[hnew0];exact AdY.2 rfl,(KE (fun j hj=>by rw[hst]at hj;cases hj;exact hunl)).symm⟩));have hlk:=GQ S.nod hmem;have hsym:Hi st2 y (.loc d 0) e.v=some ([],{ st2 with own:=upd st2.own d (.blk t (Eg (y.zero.cells.toList.map fun v=>.p (BZ v)) 0 (BF e.v))) }):=by
       simp only[Hi,hlk];rw[if_pos ⟨s1c,by simp[s2c],hone⟩]
      obtain⟨w',hr,S'⟩:=NR hG S hy hsym Kb (Bb S2 (gd:=none) (fun _ _ _ h=>(by cases h)) trivial hb) (Bb S2 (gd:=none) (fun _ _ _ h=>(by cases h)) trivial hx);refine⟨fun _=>⟨fun c hc=>(by rw[s1]at hc;cases hc),.inr (.inl ⟨w',(by simp only[execOp,s1];exact K0 hr),?_⟩)⟩,fun hn=>absurd hwant hn⟩;rw[s2];refine⟨by simpa using inv.siz,fun j oj hj hl e' he' hb'=>?_,{ st2 with own:=upd st2.own d (.blk t (Eg (y.zero.cells.toList.map fun v=>.p (BZ v)) 0 (BF e.v))) },⟨tw.1,tw.2.1,tw.2.2⟩,fun z=>⟨fun hz=>?_,fun hz=>?_⟩,fun z=>⟨fun hz=>?_,fun hz=>?_⟩,env,M,X,S'⟩
      ·rcases EI hl with rfl|hl
       ·rw[ho]at hj;cases hj;exact DD (hafter e' he' hb')
       ·exact DD (inv.clo j oj hj hl e' he' hb')
      ·rcases D4 (k':=z.1) (o':=z.2) hz with ⟨h1,h2,_⟩|⟨h1,h2⟩
       ·refine .inr (.inl ⟨i0,o0,ho0,DD hl0,_,by rw[hnew0];exact AdY.2 rfl,?_⟩);unfold BN;simp only[hst,GV hilt,hes];exact Prod.ext h1 h2
       ·rcases(hO z).1 h2 with h|⟨j,oj,hj,hl,y',hy',rfl⟩|⟨y',hy',rfl⟩
        ·exact .inl h
        ·refine .inr (.inl ⟨j,oj,hj,DD hl,y',hy',I7 fun js hjs=>(Hq fun e=>?_).symm⟩);subst e;obtain⟨o',t',x',ho',hs'⟩:=FZ hjs;rw[ho]at ho';cases ho';rw[hso]at hs';cases hs';rw[Ga]at h1;exact h1 rfl
        ·refine .inr (.inr ⟨y',hy',I7 fun js hjs=>(Hq fun e=>?_).symm⟩);subst e;obtain⟨o',t',x',ho',hs'⟩:=FZ hjs;rw[ho]at ho';cases ho';rw[hso]at hs';cases hs';rw[Ga]at h1;exact h1 rfl
      ·rcases hz with h|⟨j,oj,hj,hl',y',hy',rfl⟩|⟨y',hy',rfl⟩
       ·have hdd:d∈ET P (ops.toList.take k):=Ml (o:=o0) (o':=.blk t (y.zero.cells.toList.map fun v=>.p (BZ v))) (AeE (taken (hpre i0 hl0) ho0)) (by rw[hnew0];exact AdY.2 rfl);obtain⟨n1,_⟩:=Mm hac d hdd;exact Jx (k':=z.1) (o':=z.2) ((hO z).2 (.inl h)) (Hl (k':=z.1) (o:=z.2) n1 ((h0O z).1 h).1).1
       ·rcases EI hl' with rfl|hl
        ·rw[ho]at hj;cases hj;unfold Cl at hy';rw[s1]at hy';cases hy'
        ·obtain⟨e1,e2⟩:=Jv (d:=y'.1) (o':=y'.2) hy'
         by_cases hyd:y'.1=d
         ·have:=Mi hmake (oper hj) (oper ho0) (by simp[HK,e1,hyd]) (by simp[HK,hd0]);subst this;rw[hj]at ho0;cases ho0;rw[hnew0]at hy';have hy':=AdY.1 hy';subst hy';have:BN ops es (fun j=>(listed.setIfInBounds i true).getD j false) (d,.blk t (y.zero.cells.toList.map fun v=>.p (BZ v)))=(d,.blk t (Eg (y.zero.cells.toList.map fun v=>.p (BZ v)) 0 (BF e.v))):=by
           unfold BN;simp only[hst,GV hilt,hes]
          rw[this];exact NY hmem
         ·have hc : BN ops es (fun j =>(listed.setIfInBounds i true).getD j false) y' = BN ops es (fun j =>listed.getD j false) y' :=I7 fun js hjs =>Hq fun e =>by
           subst e;obtain⟨o',t',x',ho',hs'⟩:=FZ hjs;rw[ho]at ho';cases ho';rw[hso]at hs';cases hs';exact hyd rfl
          rw[hc];exact Jx (k':=(BN ops es (fun j=>listed.getD j false) y').1) (o':=(BN ops es (fun j=>listed.getD j false) y').2) ((hO _).2 (.inr (.inl ⟨j,oj,hj,hl,y',hy',rfl⟩))) (by rw[Ga];exact hyd)
       ·have hyd : y'.1≠d :=fun ed =>by
         have hx1:=((hEm y').1 hy').2;rw[oE,ed]at hx1;exact exNo d hx1.1 i0 o0 ho0 hd0
        have hc:BN ops es (fun j=>(listed.setIfInBounds i true).getD j false) y'=BN ops es (fun j=>listed.getD j false) y':=I7 fun js hjs=>Hq fun e=>by
         subst e;obtain⟨o',t',x',ho',hs'⟩:=FZ hjs;rw[ho]at ho';cases ho';rw[hso]at hs';cases hs';exact hyd rfl
        rw[hc];exact Jx (k':=(BN ops es (fun j=>listed.getD j false) y').1) (o':=(BN ops es (fun j=>listed.getD j false) y').2) ((hO _).2 (.inr (.inr ⟨y',hy',rfl⟩))) (by rw[Ga];exact hyd)
      ·rcases(hT z).1 hz with ⟨h1,h2⟩|⟨j,oj,hj,hl,hd,he⟩
       ·refine .inl ⟨h1,fun j oj hj hl hd=>?_⟩;rcases EI hl with rfl|hl
        ·rw[ho]at hj;cases hj;rw[s2]at hd;cases hd
        ·exact h2 j oj hj hl hd
       ·exact .inr ⟨j,oj,hj,DD hl,hd,he⟩
      ·refine(hT z).2 ?_;rcases hz with ⟨h1,h2⟩|⟨j,oj,hj,hl',hd,he⟩
       ·exact .inl ⟨h1,fun j oj hj hl=>h2 j oj hj (DD hl)⟩
       ·rcases EI hl' with rfl|hl
        ·rw[ho]at hj;cases hj;rw[s2]at hd;cases hd
        ·exact .inr ⟨j,oj,hj,hl,hd,he⟩
    |none =>
    have hns:∀js,(∃o' t' d' x',ops[js]? = some o'/\EU o'=some (t',d',x'))->js≠i:=fun js ⟨o',t',d',x',ho',hs'⟩ e=>by
     subst e;rw[ho]at ho';cases ho';rw[hso]at hs';cases hs'
    have hcong:∀z:Nat×Aq,BN ops es (fun j=>(listed.setIfInBounds i true).getD j false) z=BN ops es (fun j=>listed.getD j false) z:=fun z=>I7 fun js hjs=>Hq (hns js (by
     obtain⟨o',t',x',h1,h2⟩:=FZ hjs;exact⟨o',t',_,x',h1,h2⟩))
    have hself:∀z,z∈Cl P o->BN ops es (fun j=>(listed.setIfInBounds i true).getD j false) z=z:=fun z hz=>KE fun js hjs=>by
     obtain⟨o',t',x',ho',hs'⟩:=FZ hjs;have hne:=hns js ⟨o',t',_,x',ho',hs'⟩;rw[Hq hne];cases hl:listed.getD js false with
     |false=>rfl
     |true =>
       exfalso;obtain⟨e1',_⟩:=Jv (d:=z.1) (o':=z.2) hz;have hmd:ops.toList.any (Jp t' z.1)=true:=by
        obtain⟨stj,psj,ej,hstepj,_⟩:=hat js o' (taken (hpre js hl) ho');obtain⟨_,_,_,_,_,_,_,hmk,_⟩:=Mh hs' hstepj;rcases hmk with h|h
        ·exact h.1
        ·exact absurd e1' (exNo z.1 h.1 i o ho)
       obtain⟨i0,o0,_,ho0,hd0,e0,he0,hb0,hon0⟩:=stA js o' t' z.1 x' (hpre js hl) ho' hs' hmd;have hl0:=inv.clo js o' ho' hl e0 he0 hb0;rw[hon0]at hl0;obtain⟨e1,_⟩:=Jv (d:=z.1) (o':=z.2) hz
       by_cases e:i0=i
       ·subst e;rw[hunl]at hl0;cases hl0
       ·exact(c2 i0 o0 _ e (taken (hpre i0 hl0) ho0) hd0).1 e1
    have hfree:∀d o',(d,o')∈Cl P o->st2.noName d=true/\∀x,x∈st2.T->x.2.v.names d=false:=fun d o' hm=>by
     have hod:=(Jv hm).1;obtain⟨n1,n2⟩:=Mm hac d (Ml (AeE (taken hik ho)) hm);have hdd:d∈ET P ops.toList:=Ml (AeE (oper ho)) hm;refine⟨AdO.2 fun y hy=>?_,fun x hx=>?_⟩
     ·rcases(hO y).1 hy with h|⟨j,oj,hj,hl,z,hz,rfl⟩|⟨z,hz,rfl⟩
      ·obtain⟨q1,q2⟩:=Hl (k':=y.1) (o:=y.2) n1 ((h0O y).1 h).1;simp[q1,q2]
      rotate_left
      ·obtain⟨q1,q2⟩:=Hl (k':=z.1) (o:=z.2) n1 ((hEm z).1 hz).1;have hn:=contN (fun j=>listed.getD j false) z hpre d q2;rw[Ga,hn];simp[q1]
      ·have hne:j≠i:=fun e=>by subst e;rw[hunl]at hl;cases hl
       obtain⟨e1,e2⟩:=Jv (d:=z.1) (o':=z.2) hz;have:=(c2 j oj _ hne (taken (hpre j hl) hj) e1).1;rw[hod]at this;have hyd:z.1≠d:=fun e=>this (by rw[e]);have hn:=contN (fun j=>listed.getD j false) z hpre d (e2 d);rw[Ga,hn];simp[hyd]
     ·rcases(hT x).1 hx with ⟨h1,_⟩|⟨j,oj,hj,hl,hd,he⟩
      ·exact(hstT x h1).2 d hdd
      ·have hne:j≠i:=fun e=>by subst e;rw[hunl]at hl;cases hl
       rcases jX n2 (taken (hpre j hl) hj) he with h|h
       ·exact absurd hod (by
        have:=(c2 j oj _ hne (taken (hpre j hl) hj) h).1;exact this)
       ·exact h
    obtain⟨k1,k2⟩:=RJ hG hC hstep hso (fun p hp=>hps p (hpsi p hp)) (st2:=st2) (tw.2.2.trans twi.2.2.2.symm) S2 S hfree;have next:∀a' w',AL P G ((st2.add (Cl P o)).put o.dst e) a' w'->I9 P G ops E st00 es (listed.setIfInBounds i true) a' w':=fun a' w' hs'=>by
     refine⟨by simpa using inv.siz,fun j oj hj hl e' he' hb'=>?_,(st2.add (Cl P o)).put o.dst e,?_,fun x=>⟨fun hx=>?_,fun hx=>?_⟩,fun x=>⟨fun hx=>?_,fun hx=>?_⟩,hs'⟩
     ·rcases EI hl with rfl|hl
      ·rw[ho]at hj;cases hj;exact DD (hafter e' he' hb')
      ·exact DD (inv.clo j oj hj hl e' he' hb')
     ·have:=D5.put (st2.add (Cl P o)) o.dst e;exact⟨this.2.1.trans tw.1,this.2.2.1.trans tw.2.1,this.2.2.2.trans tw.2.2⟩
     ·rw[(D5.put (st2.add (Cl P o)) o.dst e).1]at hx;rcases Aef.1 hx with hx|hx
      ·exact .inr (.inl ⟨i,o,ho,GV hilt,x,hx,(hself x hx).symm⟩)
      ·rcases(hO x).1 hx with h|⟨j,oj,hj,hl,z,hz,h⟩|⟨z,hz,h⟩
       ·exact .inl h
       ·exact .inr (.inl ⟨j,oj,hj,DD hl,z,hz,by rw[h,hcong]⟩)
       ·exact .inr (.inr ⟨z,hz,by rw[h,hcong]⟩)
     ·rw[(D5.put (st2.add (Cl P o)) o.dst e).1];rcases hx with h|⟨j,oj,hj,hl,z,hz,h⟩|⟨z,hz,h⟩
      ·exact Aez _ ((hO x).2 (.inl h))
      rotate_left
      ·exact Aez _ ((hO x).2 (.inr (.inr ⟨z,hz,by rw[h,hcong]⟩)))
      ·rcases EI hl with rfl|hl'
       ·rw[ho]at hj;cases hj;rw[hself z hz]at h;rw[h];exact List.mem_append_left _ hz
       ·exact Aez _ ((hO x).2 (.inr (.inl ⟨j,oj,hj,hl',z,hz,by rw[h,hcong]⟩)))
     ·rcases KF hx with ⟨hm,hne⟩|⟨hd,he⟩
      ·rcases(hT x).1 hm with ⟨h1,h2⟩|⟨j,oj,hj,hl,hd,he⟩
       ·refine .inl ⟨h1,fun j oj hj hl=>?_⟩;rcases EI hl with rfl|hl'
        ·rw[ho]at hj;cases hj;exact hne
        ·exact h2 j oj hj hl'
       ·exact .inr ⟨j,oj,hj,DD hl,hd,he⟩
      ·exact .inr ⟨i,o,ho,GV hilt,hd,by rw[hes,he]⟩
     ·rcases hx with ⟨h1,h2⟩|⟨j,oj,hj,hl,hd,he⟩
      ·refine HO (st:=st2.add (Cl P o)) ((hT x).2 (.inl ⟨h1,fun j oj hj hl=>h2 j oj hj (DD hl)⟩)) (h2 i o ho (GV hilt)) (fun t ht=>noG x h1 i o t ho ht)
      ·rcases EI hl with rfl|hl'
       ·rw[ho]at hj;cases hj;rw[hes]at he;injection he with he;rw[hd];obtain⟨x1,x2⟩:=x;simp only at he hd ⊢;rw[he];exact Ju
       ·have hne:j≠i:=fun e=>by subst e;rw[hunl]at hl';cases hl'
        refine HO (st:=st2.add (Cl P o)) ((hT x).2 (.inr ⟨j,oj,hj,hl',hd,he⟩)) (c2 j oj _ hne (taken (hpre j hl') hj) hd).1 (fun t ht=>?_);cases hby:x.2.by t with
        |false=>rfl
        |true =>
          exfalso;obtain⟨stj,psj,ej,hstepj,hesj,_⟩:=hat j oj (taken (hpre j hl') hj);rw[he]at hesj;injection hesj with hesj;have hgs:=RM hstepj t (by rw[<- hesj];exact hby);obtain⟨d1,d2⟩:=hchk' j oj (taken (hpre j hl') hj);obtain⟨_,f2,f3⟩:=d2 i o t (fun e=>hne e.symm) (taken hik ho) ht;have hlt:=f3 hgs;have:=f2 (Aez _ hgs);rw[if_pos hlt]at this;obtain⟨e',he',hb',hon⟩:=I8 this;have:=inv.clo j oj hj hl' e' he' hb';rw[hon,hunl]at this;cases this
    exact⟨fun hw=>Mn (k1 hw) next,fun hw=>next _ _ (k2 hw)⟩
   have main : ∀(fuel:Nat) (listed : Array Bool) (a : Act) (w : World), I9 P G ops E st00 es listed a w->(∀i, listed.getD i false = true->i<k) ->
     D6 ops.size listed<=fuel->wpAnyIn (W ro) n P .any ops Q fuel listed a w:=by
    intro fuel;have phase2:∀(fuel:Nat) (listed:Array Bool) (a:Act) (w:World),I9 P G ops E st00 es listed a w->(∀i,listed.getD i false=true->i<k)->(∀i,i<k->i<ops.size->listed.getD i false=true)->D6 ops.size listed<=fuel->wpAnyIn (W ro) n P .any ops Q fuel listed a w:=by
     intro fuel listed a w inv hpre hall hcount;obtain⟨st2,tw,hO,hT,env,M,X,S⟩:=inv.sat;have hcg:∀z:Nat×Aq,BN ops es (fun j=>decide (j<k)) z=BN ops es (fun j=>listed.getD j false) z:=fun z=>I7 fun js hjs=>by
      obtain⟨o',t',x',ho',_⟩:=FZ hjs
      by_cases hk':js<k
      ·rw[decide_eq_true hk',hall js hk' (AdX.1 ho').1]
      ·rw[decide_eq_false hk'];cases hl:listed.getD js false with
       |false=>rfl
       |true=>exact absurd (hpre js hl) hk'
     have hsat:AL P G { stF with own:=(GS P (ops.toList.take k)).map (BN ops es fun j=>decide (j<k))++stf.own.map (HN ops es fun j=>decide (j<k)) } a w:=by
      refine⟨env,M,X,S.sub (fun x hx=>(hT x).2 ?_) (fun x hx=>(hO x).2 ?_) ?_ (twF.2.1.trans tw.1.symm) (twF.2.2.2.trans tw.2.2.symm)⟩;rotate_left
      ·rcases Aef.1 hx with hx|hx
       ·obtain⟨z,hz,rfl⟩:=AdN.1 hx;obtain⟨j,oj,h1,h2⟩:=RN hz;obtain⟨hjk,hj⟩:=untake h1;exact .inr (.inl ⟨j,oj,hj,hall j hjk (AdX.1 hj).1,z,h2,hcg z⟩)
       ·obtain⟨z,hz,rfl⟩:=AdN.1 hx;unfold HN;split
        ·rename_i hc;exact .inr (.inr ⟨z,(hEm z).2 ⟨hz,hc⟩,hcg z⟩)
        ·rename_i hc;exact .inl ((h0O z).2 ⟨hz,by simpa using hc⟩)
      ·have hfst : ∀q x, (HN ops es q x).1 = x.1 :=fun q x =>by
        unfold HN;split
        ·exact Ga _ _ _ x
        ·rfl
       simp only[List.map_append];rw[show((GS P (ops.toList.take k)).map (BN ops es fun j=>decide (j<k))).map (·.1)=ET P (ops.toList.take k)by
        rw[Afj,<- RO];exact Af9 fun x _=>Ga _ _ _ x,show(stf.own.map (HN ops es fun j=>decide (j<k))).map (·.1)=stf.own.map (·.1)by
        rw[Afj];exact Af9 fun x _=>hfst _ x]
       refine List.nodup_append.2 ⟨hnda,hndf,fun a ha b hb e=>?_⟩;subst e;obtain⟨h1,_⟩:=Mm hac a ha;obtain⟨y,hy,rfl⟩:=AdN.1 hb;exact(Hl (k':=y.1) (o:=y.2) h1 hy).1 rfl
      rcases hF x hx with ⟨h1,h2⟩|⟨j,oj,h1,h2,h3⟩
      ·exact .inl ⟨h1,fun j oj hj hl=>h2 j oj (taken (hpre j hl) hj)⟩
      ·obtain⟨hjk,hj⟩:=untake h1;exact .inr ⟨j,oj,hj,hall j hjk (AdX.1 hj).1,h2,h3⟩
     rcases Nat.le_total k ops.size with hks|hks
     ·exact RP hG hC hK hsuf (fun z hz=>⟨(hZ z hz).1,(hZ z hz).2.1⟩) fuel k listed { stF with own:=(GS P (ops.toList.take k)).map (BN ops es fun j=>decide (j<k))++stf.own.map (HN ops es fun j=>decide (j<k)) } a w (AdS _) hks inv.siz (fun i hi=>⟨hpre i,fun h=>hall i h hi⟩) inv.clo hKF hsat hcount
     ·refine RP hG hC hK (k:=ops.size) (Z:=[]) ?_ (fun z hz=>by cases hz) fuel ops.size listed { stF with own:=(GS P (ops.toList.take k)).map (BN ops es fun j=>decide (j<k))++stf.own.map (HN ops es fun j=>decide (j<k)) } a w (AdS _) (AdS _) inv.siz (fun i hi=>⟨fun _=>hi,fun h=>hall i (by omega) hi⟩) inv.clo ?_ hsat hcount
      ·refine AdO.2 fun j hj=>?_;have:=AdQ.1 hj;simp at this;simp[this]
      ·have e1:ops.toList.drop k = []:=List.drop_eq_nil_of_le (by simpa using hks);have e2:ops.toList.drop ops.size = []:=by simp
       rw[e2];rw[e1]at hKF;exact hKF
    induction fuel with
    |zero =>
      intro listed a w inv hpre hcount;refine phase2 0 listed a w inv hpre (fun i _ hi=>?_) hcount;cases hli:listed.getD i false with
      |true=>rfl
      |false =>
        exfalso;have:i∈(AdP ops.size).filter fun i=>!listed.getD i false:=AdK.2 ⟨AdQ.2 hi,by rw[hli];rfl⟩;have:=List.length_pos_of_mem this;unfold D6 at hcount;omega
    |succ fuel ih =>
      intro listed a w inv hpre hcount
      by_cases hall:∀i,i<k->i<ops.size->listed.getD i false=true
      ·exact phase2 _ listed a w inv hpre hall hcount
      by_cases hz:∃z oz,z∈Z/\ops[z]? = some oz/\listed.getD z false=false/\∀e,e∈oz.after->Region.binds .any e=true->listed.getD e.on false=true
      ·obtain⟨z,oz,hzZ,ho,hun,haft⟩:=hz;obtain⟨z1,z2,z3,z4⟩:=hZ z hzZ;have hilt:z<listed.size:=by rw[inv.siz];exact z2
       obtain⟨d,s,hmv⟩:∃d s,F8 oz=some (d,s):=by
        have h3:=z3;unfold Jt at h3;rw[ho]at h3;simp only at h3;split at h3
        ·rename_i d s hm;exact⟨d,s,hm⟩
        ·cases h3
       have hlt:=HP (n:=ops.size) z2 hilt hun;obtain⟨u,hrun,inv'⟩:=RQ ((step listed a w inv hpre z oz z1 ho hun haft).1 (Ow hmv)) hmv;exact kE ho hmv z3 z4 hQ fuel listed a w (by
        rw[LS,AdI hilt]at hun ⊢;exact hun) haft hrun (ih _ _ w inv' (fun m hm=>by
         rcases EI hm with rfl|hm
         ·exact z1
         ·exact hpre m hm) (by omega))
      refine⟨fun hr=>(hall ?_).elim,fun i hi=>?_⟩
      ·intro i
       induction i using Nat.strongRecOn with
       |_ i ih2 =>
         intro hik hi;cases hli:listed.getD i false with
         |true=>rfl
         |false =>
           exfalso;have hc:=(hchk' i ops[i] (taken hik (AdI hi))).1;have hmem:i∈Region.ready .any ops listed:=mem_ready.2 ⟨by
            have:i<listed.size:=by rw[inv.siz];exact hi
            rw[LS,AdI this]at hli ⊢;exact hli,ops[i],AdI hi,fun e he hb=>by
             have:=hc e he hb;exact ih2 e.on (by omega) (by omega) (by omega)⟩
           rw[hr]at hmem;cases hmem
      obtain⟨h0,o,ho,hafter⟩:=mem_ready.1 hi;have hisz:=(AdX.1 ho).1;have hilt:i<listed.size:=by rw[inv.siz];exact hisz
      have hunl:listed.getD i false=false:=by
       rw[LS,AdI hilt]at h0 ⊢;exact h0
      have hik:i<k:=by
       rcases Ae5 i k with h|h
       ·exact h
       ·exfalso;have hs1:Hp Z ops.toList i=true:=by
         have:=AdO.1 hsuf i (AdQ.2 (by simpa using hisz));simpa[show ¬ i<k by omega]using this
        refine hall fun m=>?_
        induction m using Nat.strongRecOn with
        |_ m ih2 =>
          intro hmk hms
          by_cases hmZ:m∈Z
          ·cases hlm:listed.getD m false with
           |true=>rfl
           |false =>
             exact absurd ⟨m,ops[m],hmZ,AdI hms,hlm,fun e he hb=>by
              have:=(hchk' m ops[m] (taken hmk (AdI hms))).1 e he hb;exact ih2 e.on this (by omega) (by omega)⟩ hz
          ·exact jZ inv.clo ho hs1 hafter m (by omega) hmZ
      obtain⟨k1,k2⟩:=step listed a w inv hpre i o hik ho hunl hafter;have hcount':D6 ops.size (listed.setIfInBounds i true)<=fuel:=by have:=HP (n:=ops.size) hisz hilt hunl;omega
      have next:∀a' w',I9 P G ops E st00 es (listed.setIfInBounds i true) a' w'->wpAnyIn (W ro) n P .any ops Q fuel (listed.setIfInBounds i true) a' w':=fun a' w' inv' =>
       ih _ a' w' inv' (fun m hm=>by
        rcases EI hm with rfl|hm
        ·exact hik
        ·exact hpre m hm) hcount'
      unfold wpOpIn;rw[ho];simp only;split
      ·rename_i hw;have:=k1 hw;refine Mj (N:=wpAnyIn (W ro) n P .any ops Q fuel (listed.setIfInBounds i true)) ?_;obtain⟨l1,l2⟩:=this;refine⟨l1,?_⟩;rcases l2 with ⟨u,w',hr,hk⟩|⟨w',hr,hk⟩|⟨f,args,w',hr,hk⟩|⟨l,f,tmps,assign,body,w',hr,hk⟩
       ·exact .inl ⟨u,w',hr,next _ _ hk⟩
       ·exact .inr (.inl ⟨w',hr,next _ _ hk⟩)
       ·exact .inr (.inr (.inl ⟨f,args,w',hr,F7 hk fun e w'' ⟨v,he,hk⟩=>⟨v,he,next _ _ hk⟩⟩))
       ·exact .inr (.inr (.inr ⟨l,f,tmps,assign,body,w',hr,Jf hk fun e w'' ⟨v,he,hk⟩=>⟨v,he,next _ _ hk⟩⟩))
      ·rename_i hw;exact⟨fun _ _=>trivial,next _ _ (k2 hw)⟩
   refine main ops.size (Aey ops.size false) a w ⟨by simp,fun j oj hj hl=>?_,stf,⟨h0yk.1.symm,h0yk.2.1.symm,h0yk.2.2.symm⟩,fun x=>⟨fun hx=>?_,fun hx=>?_⟩,fun x=>⟨fun hx=>.inl ⟨(h0T x).2 hx,fun j oj hj hl=>?_⟩,fun hx=>?_⟩,hsub⟩ (fun i hi=>?_) ?_
   ·have hj':=(AdX.1 hj).1;simp[LS,hj']at hl
   ·by_cases hc:(GT ops x.1&&Js x.2)=true
    ·exact .inr (.inr ⟨x, (hEm x).2 ⟨hx, hc⟩, (KE fun j hj =>by
     obtain⟨o',t',x',ho',_⟩:=FZ hj;have hj':=(AdX.1 ho').1;simp[LS,hj']).symm⟩)
    ·exact .inl ((h0O x).2 ⟨hx,by simpa using hc⟩)
   ·rcases hx with h1|⟨j,oj,hj,hl,_,_,_⟩|⟨y,hy,rfl⟩
    ·exact((h0O x).1 h1).1
    ·have hj':=(AdX.1 hj).1;simp[LS,hj']at hl
    ·rw[KE fun j hj =>by
      obtain⟨o',t',x',ho',_⟩:=FZ hj;have hj':=(AdX.1 ho').1;simp[LS,hj']]
     exact((hEm y).1 hy).1
   ·have hj':=(AdX.1 hj).1;simp[LS,hj']at hl
   ·rcases hx with ⟨h1,_⟩|⟨j,oj,hj,hl,_⟩
    ·exact(h0T x).1 h1
    ·have hj':=(AdX.1 hj).1;simp[LS,hj']at hl
   ·rcases Ae5 i ops.size with hlt|hge
    ·simp[LS,hlt]at hi
    ·simp[LS,show ¬ i<ops.size by omega]at hi
   ·exact Nat.le_trans (List.length_filter_le _ _) (by simp)
  ·exact h.elim
 ·exact h.elim
theorem kG (hG:Bn G) {C:Al} (hC:DU P G C) {ro:Option Nat} {n:Nat} {ops:Array Oper} {Q:Exit->Act->World->Prop} {K:St->Prop} (hK:∀st a w,K st->AL P G st a w->Q .normal a w)
  {st:St} (h:Mf P C ops st K) {a:Act} {w:World} (hs:AL P G st a w):wpAnyIn (W ro) n P .any ops Q ops.size (Aey ops.size false) a w :=
 Mp (Q':=fun e a w=>(∀c,e ≠ .panic c)/\Q e a w) (fun _ _ _ h=>h.2) _ _ _ _
  (kF hG hC (fun st a w h hs=>⟨fun _ h=>(by cases h),hK st a w h hs⟩) (fun c _ _ h=>h.1 c rfl) h hs)
end
end Go.SE
