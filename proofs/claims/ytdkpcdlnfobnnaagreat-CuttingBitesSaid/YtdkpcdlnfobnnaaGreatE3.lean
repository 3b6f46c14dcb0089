/- A symbolic walk over the model, and what it shows of functions of the program: parts of the proof that the text of the row joins. -/
import Derived.Test.YtdkpcdlnfobnnaaGreatE2
import Derived.OrdersIn
open List renaming getD_eq_getElem?_getD->AS,getElem?_eq_getElem->rH,mem_filter->Adn,mem_map->Ado,mem_cons->Adq,range->Adu,mem_range->Adz,all_eq_true->Ad0,mem_singleton->Ad2,mem_append->Ad4,getElem_mem->AdC,length_append->AdL,getElem_of_mem->AdM,mem_append_right->AdS,eq_nil_of_length_eq_zero->AdT,mem_of_getElem?->Aeh,map_map->Aew,map_congr_left->AeI,length_take->AeW
open Array renaming getD_eq_getD_getElem?->LS,getElem?_eq_getElem->rK,getElem?_eq_some_iff->Ady,ext'->AdJ,replicate->AdR,all_eq_true_iff_forall_mem->Aep,getElem?_setIfInBounds->Aet,getElem?_eq_none->Ae8
open Bool renaming and_eq_true->pR,or_eq_false_iff->AdD,or_eq_true->AdN,not_eq_true'->AdO
open Nat renaming le_refl->Adp,lt_of_lt_of_le->Adt,mul_le_mul_right->Ad5,add_mul->AdK,lt_or_ge->AdX,eq_zero_or_pos->Ae1,add_zero->AeH,mod_eq_of_lt->AeV
open Option renaming getD_some->AdU
namespace Go.SE
open Go.RowKit
section
variable {P:Program} {M:Nat->Prop} {w:World} {G:Bn} {st:St} {a:Act} {env:As} {X:Nat->Prop}
theorem Sk {o:Oper} {f:Operand} {args:Array Operand} {ts:Array TypeId} (ho:o.op=.call { callee:=.value f,args:=args,argTypes:=ts }) {g:Nat} {first caps:Array Value} (hf:a.eval f=.func (.func g) first caps) (hg:Ao P g) :
  (execOp a.eval o).run P w=.ok (.enter g (first++args.map a.eval++caps)) w:=by
 simp only[execOp,ho,resolve,hf,Deferred.ofValue,Sem.run_bind,Sem.run_pure,Result.andThen_ok,invoke];rw[hg]
theorem IG {o:Oper} {f:Operand} {args:Array Operand} {ts:Array TypeId} (ho:o.op=.call { callee:=.value f,args:=args,argTypes:=ts }) {g:Nat} {caps:Array Value} (hf:a.eval f=.func (.func g) #[] caps) (hg:Ao P g) :
  (execOp a.eval o).run P w=.ok (.enter g (args.map a.eval++caps)) w:=by
 simp only[execOp,ho,resolve,hf,Deferred.ofValue,Sem.run_bind,Sem.run_pure,Result.andThen_ok,invoke];rw[hg];simp
theorem Sl {ρ:Operand->Option EV} (hρ:∀x e,ρ x=some e->Am P M w env e (a.eval x)):∀{xs:List Operand} {ss:List SV},KE ρ xs=some ss->Bm M w ss (xs.map a.eval)
 |[],ss,h=>by simp only[KE]at h;cases h;exact⟨rfl,fun i hi=>by simp at hi⟩
 |x::xs,ss,h=>by
   simp only[KE]at h;split at h
   ·rename_i s ss' hx hs;cases h;have ih:=Sl hρ hs;have h1:=hρ _ _ hx;rcases h1 with ⟨h1⟩;refine⟨by simpa using ih.1,fun i hi=>?_⟩;cases i with
    |zero=>simpa[SV.at]using h1
    |succ i=>simpa[SV.at]using ih.2 i (by simpa using hi)
   ·cases h
theorem kB (hG:Bp G) (S:Ak P G st a w env M X) {t e:TypeId} {y:Ty} (hu:P.underlying t=some (.slice e)) (hy:Bf P e=some y) {len:Nat} {parts:Array (Nat×Operand)} {l:List (Nat×SV)} {ρ:Operand->Option EV}
  (hρ:∀x e,ρ x=some e->Am P M w env e (a.eval x)) (hl:HH ρ parts.toList=some l) {cs:List SV}
  (hcs:Fm (fun i=>some (i*y.size,y.size)) ((Adu (len*y.size)).map fun k=>Cc (y.zero.cells.getD (k % y.size) undef)) l=some cs)
  (hc:len*y.size<=16777216/\0<y.size/\y.zero.cells.size=y.size/\cs.all (fun s=>CD (.p s))) :
  ∃v w' M' X',(Instr.buildSlice t len (parts.map fun(i,x)=>(i,a.eval x))).run P w=.ok v w'/\Ak P G st a w' env M' X'/\Av M' w' (.sl y.size len (if len=1 then fun _=>cs else Bb cs y.size)) v:=by
 obtain⟨hle,hsz,hzs,hone⟩:=hc;obtain⟨q1,q2⟩:=LR (P:=P) (env:=env) hρ _ _ hl;obtain⟨cells,r1,r2⟩:=LQ (M:=M) (w:=w) (fun i=>some (i*y.size,y.size)) l _ q1 q2 _ _ ((Adu (len*y.size)).map fun k=>y.zero.cells.getD (k % y.size) undef) (by
  have:=Gu (M:=M) (w:=w) ((Adu (len*y.size)).map fun k=>y.zero.cells.getD (k % y.size) undef);rw[Aew]at this;exact this) hcs
 have h1:∀v,v∈cells->v.oneCell'=true:=fun v hv=>by
  obtain⟨i,hi,rfl⟩:=AdM hv;have hi':i<cs.length:=by have:=r2.1;omega
  have a1:CD (.p cs[i])=true:=Ad0.1 hone _ (AdC hi');have a2:=r2.2 i hi';rw[show SV.at cs i=cs[i]by simp[SV.at,AS,hi']]at a2;rw[AS,rH hi,AdU]at a2;exact KP a1 a2
 have hcl:cs.length=len*y.size:=by
  have:∀(pl:Nat->Option (Nat×Nat)) (ps:List (Nat×SV)) (c0 c1:List SV),Fm pl c0 ps=some c1->c1.length=c0.length:=by
   intro pl ps
   induction ps with
   |nil=>intro c0 c1 h;simp[Fm]at h;rw[h]
   |cons p ps ih =>
     intro c0 c1 h;obtain⟨i,s⟩:=p;simp only[Fm]at h;split at h
     ·cases h
     ·split at h
      ·rw[ih _ _ h,Mh]
      ·cases h
  rw[this _ _ _ _ hcs];simp
 have hmax:len<=maxLen:=by
  have:len<=len*y.size:=Nat.le_mul_of_pos_right len hsz;unfold maxLen;omega
 have hrun:=R7 (P:=P) (w:=w) hu hy hle hzs (parts:=parts.map fun(i,x)=>(i,a.eval x)) (cells:=cells) (by rw[<- r1];simp);obtain⟨M',X',S',hden⟩:=RA hG S (e:=e) r2 h1 hcl hmax;refine⟨_,_,M',X',hrun,S',?_⟩;split
 ·rename_i hl1;subst hl1;refine hden.congr_sl (fun i hi=>?_);have:i=0:=by omega
  subst this;simp only[Bb,Nat.zero_mul,List.drop_zero];rw[List.take_of_length_le (by omega)]
 ·exact hden
theorem M4 {gd:Option (Nat×Bool×Bool)} {dst:Option Nat} {p:Prop} {K:St->Prop} (h:KF st gd dst p K) (hh:Co gd):p:=by
 cases gd with
 |none=>exact h
 |some g=>obtain⟨q,c,b⟩:=g;exact h.1 hh
theorem Sm {k:IntKind}:∀{l:List Value},KC k l=true->∀j,j<l.length->l.getD j undef=.int k 0
 |[],_,j,hj=>by simp at hj
 |v::l,h,j,hj=>by
   cases v with
   |int k' z =>
     simp only[KC,pR,decide_eq_true_eq]at h;obtain⟨⟨rfl,rfl⟩,h⟩:=h;cases j with
     |zero=>rfl
     |succ j=>simpa using Sm h j (by simpa using hj)
   |_=>simp[KC]at h
theorem kC (hG:Bp G) (S:Ak P G st a w env M X) {t:TypeId} {y:Ty} {d:Nat} {gd:Option (Nat×Bool×Bool)} (hdn:d<st.nt) {K:St->Prop} (h:LY P t y st d gd K) :
  ∃st',K st'/\AI P G st' (a.put (some d) (.pointer (some ⟨w.heap.size,0,none⟩))) (w.alloc (.cells y.zero.cells t)):=by
 unfold LY at h;split at h
 ·rename_i n e hu;split at h
  ·rename_i k hk;split at h
   ·rename_i hc;obtain⟨⟨hz,hn,hi⟩,hno⟩:=hc;have hat:∀j,j<n->y.zero.cells.getD j undef=.int k 0:=fun j hj=>by
     have:=Sm hi j (by simpa[hz]using hj);rwa[AS,Array.getElem?_toList,<- LS]at this
    obtain⟨env',X',h2,h3⟩:=Ml hG S hdn hno (e:=t) (cur:=y.zero.cells) (n:=n) (cap:=n) (sz:=1) (get:=fun _=>[.int k 0]) (by omega) (Adp _) (by unfold maxLen;omega) (fun i hi=>rfl) (fun i hi j hj=>by
     obtain rfl:j=0:=by omega
     rw[show i*1+0=i by omega,hat i hi];exact⟨rfl,.int k 0⟩)
    have h4:env'.at_ d=some w.heap.size:=by
     obtain⟨_,_,h5⟩:=h2.own d _ List.mem_cons_self;rcases h5 with ⟨_,h5,_⟩|⟨g,cap,cur,h6,h5,_⟩
     ·rw[h3]at h5;cases h5
     ·rw[h3]at h5;cases h5;exact h6
    exact⟨_,h,env',M,X',h2.put0 (by intro t' ht;cases ht;exact hdn) (.rptr (i:=0) (sz:=1) (off:=0) h4)⟩
   ·exact h.elim
  ·exact h.elim
 ·exact h.elim
theorem Ak.reown (S:Ak P G st a w env M X) {k:Nat} {o0 o:Al} (hk:(k,o0)∈st.own) (ho:B3 P M w env k o):Ak P G { st with own:=Cd st.own k o } a w env M X:=by
 refine⟨S.gam,S.mx,?_,?_,?_,by simp only[Jw];exact S.nod,S.mlt,S.xlt,S.siz,S.tmp,S.grd,?_,S.dno⟩
 ·intro k' o' h;rcases DC h with ⟨rfl,rfl,_⟩|⟨_,h⟩
  ·exact ho
  ·exact S.own _ _ h
 ·intro k' o' h g' hg';rcases DC h with ⟨rfl,rfl,o'',h''⟩|⟨_,h⟩
  ·exact S.oat _ _ h'' g' hg'
  ·exact S.oat _ _ h g' hg'
 ·intro k1 o1 k2 o2 h1 h2 hne g' hg1;have e1:∃o,(k1,o)∈st.own:=by rcases DC h1 with ⟨rfl,_,o'',h''⟩|⟨_,h⟩;exact⟨_,h''⟩;exact⟨_,h⟩
  have e2:∃o,(k2,o)∈st.own:=by rcases DC h2 with ⟨rfl,_,o'',h''⟩|⟨_,h⟩;exact⟨_,h''⟩;exact⟨_,h⟩
  obtain⟨_,e1⟩:=e1;obtain⟨_,e2⟩:=e2;exact S.inj _ _ _ _ e1 e2 hne g' hg1
 ·intro d hd;obtain⟨D,e,h1,h2,h3,h4⟩:=S.dfr d hd;refine⟨D,e,h1,h2,h3,?_⟩;intro k' o' h;rcases DC h with ⟨rfl,_,o'',h''⟩|⟨_,h⟩
  ·exact h4 _ _ h''
  ·exact h4 _ _ h
theorem kD (hG:Bp G) (S:Ak P G st a w env M X) {t:TypeId} {e:EV} {K:St->Prop} (h:On P st t e K) {v:Value} (hv:Am P M w env e v) (ty:TypeId) :
  ∃w',(Builtin.clear_ #[t] ty #[v]).run P w=.ok (.tuple #[]) w'/\∃st',K st'/\AI P G st' (a.put none (.tuple #[])) w':=by
 unfold On at h;split at h
 ·rename_i el r sz lo n hu;split at h
  ·rename_i y e' sz' n' get hy hl;split at h
   ·rename_i hc;obtain⟨rfl,rfl,hsz,hzs,hone⟩:=hc;obtain⟨hp,hk⟩:=B0 h;have hle:=Ay hp;obtain⟨i,hi,hz,hs,hby,_⟩:=C5 hy;have hmem:=Bq hl;obtain⟨hm,hgl,hO⟩:=S.own _ _ hmem;cases hv with
    |rsub A cap hcap hmx hA =>
    by_cases hn:n=0
    ·subst hn;refine⟨w,?_,_,hk,env,M,X,S.reown hmem ?_⟩
     ·cases A<;>simp[Builtin.clear_,run_underlying hu]
     ·have : I6 lo 0 (y.zero.cells.toList.map Cc) get = get :=by
       funext i;unfold I6;rw[if_neg (by omega)]
      rw[this];exact⟨hm,hgl,hO⟩
    ·obtain⟨g,hg,rfl⟩:=hA (by omega);rcases hO with ⟨hno,_⟩|⟨g',cap',cur,hg',hrv,hh,hnc,hcm,hcs,hd⟩
     ·rw[hno]at hg;cases hg
     rw[hg]at hg';cases hg';have hzl:(Builtin.zeroCells y.zero.cells n).toList.length=n*y.size:=by simp[size_zeroCells,hzs]
     have hzc:∀k,k<n*y.size->(Builtin.zeroCells y.zero.cells n).toList.getD k undef=y.zero.cells.getD (k % y.size) undef:=fun k hk'=>by
      have hmod:k % y.size<y.zero.cells.size:=by rw[hzs];exact Nat.mod_lt _ hsz
      simp only[Builtin.zeroCells,AS,LS];simp[hk',hzs,getElem!_pos y.zero.cells (k % y.size) hmod];rw[rK hmod];rfl
     have hz1:∀j,j<y.size->(y.zero.cells.getD j undef).oneCell'=true:=fun j hj=>by
      have hj':j<y.zero.cells.size:=by omega
      have:=Array.all_eq_true.1 hone j hj';simpa[LS,rK hj']using this
     have h1:∀u,u∈(Builtin.zeroCells y.zero.cells n).toList->u.oneCell'=true:=fun u hu'=>by
      obtain⟨k,hk',rfl⟩:=AdM hu';have:=hzc k (by omega);rw[AS,rH hk',AdU]at this;rw[this];exact hz1 _ (Nat.mod_lt _ hsz)
     obtain⟨zs,ezs⟩:∃zs,(Builtin.zeroCells y.zero.cells n).toList=zs:=⟨_,rfl⟩;rw[ezs]at hzl hzc h1;have hfit:lo*y.size+n*y.size<=cur.size:=by
      rw[hcs,<- AdK];exact Ad5 _ (by omega)
     have hst:=run_storeCells_at P g (lo*y.size) e' zs 0 cur w hh (by omega) h1;simp only[AeH]at hst;obtain⟨hss,hsz'⟩:=IB (w:=w) (g:=g) (cur.toList.take (lo*y.size)++zs++cur.toList.drop (lo*y.size+zs.length)).toArray;have hl':Bg M M w (w.setRow g (cur.toList.take (lo*y.size)++zs++cur.toList.drop (lo*y.size+zs.length)).toArray):=
      ⟨by omega,fun b hb=>hss.block b (S.mlt b hb) (fun e=>(S.oat _ _ hmem g hg).2.1 (e ▸ hb)),fun b hb=>hb⟩
     refine⟨_,?_,_,hk,env,M,X,S.write hG hmem hg hss hsz' ?_⟩
     ·obtain⟨n1,rfl⟩:∃n1,n=n1+1:=⟨n-1,by omega⟩;simp[Builtin.clear_,run_underlying hu,zeroValue,typeInfo,hi,hz,ezs,hst]
     ·refine⟨hm,fun j hj=>?_,.inr ⟨g,cap',_,hg,hrv,setRow_heap w g cur _ _ _ hh,hnc,hcm,by simp only[List.size_toArray,AdL,AeW,List.length_drop,Array.length_toList,hzl];omega,fun j hj k hk'=>?_⟩⟩
      ·unfold I6;split
       ·simpa using hzs
       ·exact hgl j hj
      ·unfold I6;have hjc:=Cj (sz:=y.size) (Adt hj hnc) hk';rw[IA cur _ _ (by omega) _ (by omega),hzl]
       by_cases hr:lo<=j/\j<lo+n
       ·have q1:=Ad5 y.size hr.1;have q2:j*y.size+y.size<=(lo+n)*y.size:=by
         have:=Ad5 y.size (show j+1<=lo+n by omega);rwa[AdK,Nat.one_mul]at this
        rw[AdK]at q2;rw[if_pos hr,if_pos (by omega),show j*y.size+k-lo*y.size=(j-lo)*y.size+k by rw[Nat.sub_mul];omega];have q3:=Cj (sz:=y.size) (i:=j-lo) (len:=n) (by omega) hk';rw[hzc _ q3,show((j-lo)*y.size+k) % y.size=k by rw[Nat.mul_comm,Nat.mul_add_mod,AeV hk']];refine⟨hz1 k hk',?_⟩;have hd':=(Gu (M:=M) (w:=w.setRow g (cur.toList.take (lo*y.size)++zs++cur.toList.drop (lo*y.size+zs.length)).toArray) y.zero.cells.toList).2 k (by simp;omega);have e9:y.zero.cells.toList.getD k undef=y.zero.cells.getD k undef:=by simp[AS,LS]
        rw[e9]at hd';rw[hzl]at hd';exact hd'
       ·have hne : ¬ (lo*y.size<=j*y.size+k/\j*y.size+k<lo*y.size+n*y.size):=by
         intro hx;rcases AdX j lo with h5|h5
         ·have:=Ad5 y.size (show j+1<=lo by omega);rw[AdK]at this;omega
         ·have:=Ad5 y.size (show lo+n<=j by omega);rw[AdK]at this;omega
        rw[if_neg hr,if_neg hne];refine⟨(hd j hj k hk').1,?_⟩;have:=(hd j hj k hk').2.later hl';rw[hzl]at this;exact this
   ·exact h.elim
  ·exact h.elim
 ·exact h.elim
theorem kE (hG:Bp G) (S:Ak P G st a w env M X) {t t':TypeId} {d:Nat} {e x:EV} {K:St->Prop} (h:Oo P st t d e x K) (hdn:d<st.nt) {v u:Value} (hv:Am P M w env e v) (hu:Am P M w env x u) (ty:TypeId) :
  ∃r w',(Builtin.copy_ #[t,t'] ty #[v,u]).run P w=.ok r w'/\∃st',K st'/\AI P G st' (a.put (some d) r) w':=by
 unfold Oo at h;split at h;rotate_left
 ·exact h.elim
 rename_i el hut;split at h;rotate_left
 ·exact h.elim
 rename_i y hy;split at h;rotate_left
 ·exact h.elim
 rename_i sides m get2 r sz lo n hsl hds;split at h;rotate_left
 ·exact h.elim
 rename_i e' sz' n' get hl;split at h;rotate_left
 ·exact h.elim
 rename_i hc;obtain⟨rfl,rfl,hsz,hnm⟩:=hc;obtain⟨hp,hk⟩:=B0 h;obtain⟨hp1,hp2⟩:=all_append hp;have hlo:lo+n<=n':=hp2 _ (by simp);have hmn:m<=n:=hp2 _ (by simp);obtain⟨i,hi,hz,hs,hby,_⟩:=C5 hy;have hmem:=Bq hl;obtain⟨hm,hgl,hO⟩:=S.own _ _ hmem;obtain⟨A2,cap2,news,rfl,hlen,hA2,hcell,hone,hg2,hd2⟩:=J0 S hsl hp1 hu;have hmx:Nat.min m n=m:=Nat.min_eq_left hmn
 by_cases hm0:m=0
 ·subst hm0;have hsame:KH lo 0 get2 get=get:=by
   funext i;unfold KH;rw[if_neg (by omega)]
  have hnews:news = []:=AdT (by rw[hlen,Nat.zero_mul]);obtain⟨A,cap,rfl⟩:∃A cap,v=.slice A n cap:=by
   cases hv with
   |rsub A cap _ _ _=>simp[I7]at hds;obtain⟨_,_,_,rfl⟩:=hds;exact⟨A,cap,rfl⟩
   |@row r' A n0 c hrv =>
     simp only[I7]at hds;split at hds
     ·rename_i e2 sz2 n2 get3 hl2;simp only[Option.some.injEq,Prod.mk.injEq]at hds;obtain⟨rfl,rfl,rfl,rfl⟩:=hds;rw[hl]at hl2;cases hl2;rcases hO with ⟨_,hrv',hn0⟩|⟨g,cap,cur,hg,hrv',_⟩
      ·rw[hrv']at hrv;cases hrv;subst hn0;exact⟨_,_,rfl⟩
      ·rw[hrv']at hrv;cases hrv;exact⟨_,_,rfl⟩
     ·cases hds
   |_=>simp[I7]at hds
  refine⟨goInt 0,w,?_,_,hk,env,M,X,(S.reown hmem (by rw[hsame];exact⟨hm,hgl,hO⟩)).put0 (by intro t' ht;cases ht;exact hdn) (.p (.int _ _))⟩;cases A<;>cases A2<;>simp[Builtin.copy_,run_underlying hut,Builtin.lenOf,Builtin.firstCells,loadCells,loadCellsFrom,storeCells,E3 hi]
 ·obtain⟨g, cap', cur, hg, hrv, hh, hnc, hcm, hcs, hd⟩: ∃g cap' cur, env.at_ r = some g/\env.rv r = .slice (some ⟨g, 0, none⟩) n' cap'/\w.heap[g]? = some (.cells cur e' (0, 0))/\n'<=cap'/\cap'<=maxLen/\cur.size = cap'*y.size /\
    ∀i,i<n'->∀j,j<y.size->(cur.getD (i*y.size+j) undef).oneCell'=true/\Av M w (SV.at (get i) j) (cur.getD (i*y.size+j) undef):=by
   rcases hO with ⟨_,_,hn0⟩|hO
   ·omega
   ·exact hO
  have hpos:0<n:=Adt (Nat.pos_of_ne_zero hm0) hmn;clear hO;obtain⟨cap,rfl⟩:∃cap,v=.slice (some ⟨g,lo*y.size,none⟩) n cap:=by
   cases hv with
   |rsub A cap _ _ hA =>
     simp only[I7,Option.some.injEq,Prod.mk.injEq]at hds;obtain⟨rfl,rfl,rfl,rfl⟩:=hds;obtain⟨g',hg',rfl⟩:=hA hpos;rw[hg]at hg';cases hg';exact⟨cap,rfl⟩
   |@row r' A n0 c hrv' =>
     simp only[I7]at hds;split at hds
     ·rename_i e2 sz2 n2 get3 hl2;simp only[Option.some.injEq,Prod.mk.injEq]at hds;obtain⟨rfl,rfl,rfl,rfl⟩:=hds;rw[hl]at hl2;cases hl2;rw[hrv]at hrv';cases hrv';exact⟨_,by rw[Nat.zero_mul]⟩
     ·cases hds
   |_=>simp[I7]at hds
  obtain⟨a2,rfl⟩:∃a2,A2=some a2:=by
   cases A2 with
   |none=>exact absurd (hA2 rfl) hm0
   |some a2=>exact⟨a2,rfl⟩
  have hld:=run_loadCells (P:=P) w a2 (m*y.size) (fun j=>news.getD j undef) (fun j hj=>hcell a2 rfl (by omega) j _ (by rw[AS,rH (by omega)];rfl));have hnews:(Adu (m*y.size)).map (fun j=>news.getD j undef)=news:=by
   apply List.ext_getElem (by simp[hlen]);intro k h1 h2;simp[AS,h2]
  rw[hnews]at hld;have hfit:lo*y.size+m*y.size<=cur.size:=by
   rw[hcs,<- AdK];exact Ad5 _ (by omega)
  have hst:=run_storeCells_at P g (lo*y.size) e' news 0 cur w hh (by omega) hone;simp only[AeH]at hst;obtain⟨hss,hsz'⟩:=IB (w:=w) (g:=g) (cur.toList.take (lo*y.size)++news++cur.toList.drop (lo*y.size+news.length)).toArray;have hl':Bg M M w (w.setRow g (cur.toList.take (lo*y.size)++news++cur.toList.drop (lo*y.size+news.length)).toArray):=
   ⟨by omega,fun b hb=>hss.block b (S.mlt b hb) (fun e=>(S.oat _ _ hmem g hg).2.1 (e ▸ hb)),fun b hb=>hb⟩
  refine⟨goInt m,_,?_,_,hk,env,M,X,(S.write hG hmem hg hss hsz' ?_).put0 (by intro t' ht;cases ht;exact hdn) (.p (.int _ _))⟩
  ·have hmin:min m n=m:=hmx;simp[Builtin.copy_,run_underlying hut,Builtin.lenOf,Builtin.firstCells,E3 hi,hs,hmin,hld,hst]
  ·refine⟨hm,fun j hj=>?_,.inr ⟨g,cap',_,hg,hrv,setRow_heap w g cur _ _ _ hh,hnc,hcm,by simp only[List.size_toArray,AdL,AeW,List.length_drop,Array.length_toList,hlen];omega,fun j hj k hk'=>?_⟩⟩
   ·unfold KH;split
    ·exact hg2 _ (by omega)
    ·exact hgl j hj
   ·unfold KH;have hjc:=Cj (sz:=y.size) (Adt hj hnc) hk';rw[IA cur _ _ (by omega) _ (by omega),hlen]
    by_cases hr:lo<=j/\j<lo+m
    ·have q1:=Ad5 y.size hr.1;have q2:j*y.size+y.size<=(lo+m)*y.size:=by
      have:=Ad5 y.size (show j+1<=lo+m by omega);rwa[AdK,Nat.one_mul]at this
     rw[AdK]at q2;rw[if_pos hr,if_pos (by omega),show j*y.size+k-lo*y.size=(j-lo)*y.size+k by rw[Nat.sub_mul];omega];have q3:=Cj (sz:=y.size) (i:=j-lo) (len:=m) (by omega) hk';refine⟨hone _ ?_,(hd2 (j-lo) (by omega) k hk').later (by rw[hlen]at hl';exact hl')⟩;rw[AS,rH (by omega)];exact AdC _
    ·have hne : ¬ (lo*y.size<=j*y.size+k/\j*y.size+k<lo*y.size+m*y.size):=by
      intro hx;rcases AdX j lo with h5|h5
      ·have:=Ad5 y.size (show j+1<=lo by omega);rw[AdK]at this;omega
      ·have:=Ad5 y.size (show lo+m<=j by omega);rw[AdK]at this;omega
     rw[if_neg hr,if_neg hne];exact⟨(hd j hj k hk').1,(hd j hj k hk').2.later (by rw[hlen]at hl';exact hl')⟩
theorem Sn (S:Ak P G st a w env M X) {d:Nat} {t:TypeId} {neg:Bool} {x y:EV} {K:St->Prop} (h:Md P st d t neg x y K) (hd:d<st.nt) {u v:Value} (hu:Am P M w env x u) (hv:Am P M w env y v) (p q:Operand) :
  ∃r,((do eqGuard (if neg then .neq else .eql) t p q u v;binOp (if neg then .neq else .eql) t u v):Sem Value).run P w=.ok r w/\∃st',K st'/\AI P G st' (a.put (some d) r) w:=by
 unfold Md at h;split at h
 ·rename_i e sz n get hu';rcases hu with ⟨hu⟩;rcases hv with ⟨hv⟩;cases hv;cases hu with
  |sl _ _ _ A cap vs hcap hm hA hg ho hden =>
  have hE:(Op.equal t (.slice A n cap) (.slice none 0 0)).run P w=.ok A.isNone w:=by
   have:∀d,(Op.equalIn (d+1) t (.slice A n cap) (.slice none 0 0)).run P w=.ok A.isNone w:=fun d=>by
    cases A<;>simp[Op.equalIn,run_underlying hu']
   exact this 9999
  have hg0:∀op,(eqGuard op t p q (.slice A n cap) (.slice none 0 0)).run P w=.ok () w:=fun op=>by cases op<;>simp[eqGuard]
  have r1:((do eqGuard .eql t p q (.slice A n cap) (.slice none 0 0);binOp .eql t (.slice A n cap) (.slice none 0 0)):Sem Value).run P w=.ok (.bool A.isNone) w:=by
   simp only[Sem.run_bind,hg0,Result.andThen_ok,binOp,hE,Sem.run_pure]
  have r2:((do eqGuard .neq t p q (.slice A n cap) (.slice none 0 0);binOp .neq t (.slice A n cap) (.slice none 0 0)):Sem Value).run P w=.ok (.bool (!A.isNone)) w:=by
   simp only[Sem.run_bind,hg0,Result.andThen_ok,binOp,hE,Sem.run_pure]
  have h0:A.isNone=true->n=0:=fun hA'=>by
   rcases Ae1 n with h|h
   ·exact h
   ·obtain⟨ad,e,_⟩:=hA h;rw[e]at hA';cases hA'
  cases neg with
  |false=>exact⟨_,r1,_,h A.isNone (fun hb=>h0 hb),env,M,X,S.put0 (by intro t' ht;cases ht;exact hd) (.p (.bool _))⟩
  |true=>exact⟨_,r2,_,h (!A.isNone) (fun hb=>h0 (by simpa using hb)),env,M,X,S.put0 (by intro t' ht;cases ht;exact hd) (.p (.bool _))⟩
 ·rename_i e sz n get hu';rcases hv with ⟨hv⟩;cases hv;cases hu with
  |@full q0 _ _ _ A cap hu hq =>
  have hE:(Op.equal t (.slice A n cap) (.slice none 0 0)).run P w=.ok A.isNone w:=by
   have:∀d,(Op.equalIn (d+1) t (.slice A n cap) (.slice none 0 0)).run P w=.ok A.isNone w:=fun d=>by
    cases A<;>simp[Op.equalIn,run_underlying hu']
   exact this 9999
  have hg0:∀op,(eqGuard op t p q (.slice A n cap) (.slice none 0 0)).run P w=.ok () w:=fun op=>by cases op<;>simp[eqGuard]
  have r1:((do eqGuard .eql t p q (.slice A n cap) (.slice none 0 0);binOp .eql t (.slice A n cap) (.slice none 0 0)):Sem Value).run P w=.ok (.bool A.isNone) w:=by
   simp only[Sem.run_bind,hg0,Result.andThen_ok,binOp,hE,Sem.run_pure]
  have r2:((do eqGuard .neq t p q (.slice A n cap) (.slice none 0 0);binOp .neq t (.slice A n cap) (.slice none 0 0)):Sem Value).run P w=.ok (.bool (!A.isNone)) w:=by
   simp only[Sem.run_bind,hg0,Result.andThen_ok,binOp,hE,Sem.run_pure]
  have h0:A.isNone=decide (n=0):=by
   rcases Ae1 n with h|h
   ·rw[(hq.2 rfl h).1,h];rfl
   ·cases hu with
    |sl _ _ _ _ _ vs hcap hm hA hg ho hden =>
    obtain⟨ad,e,_⟩:=hA h;rw[e,decide_eq_false (Nat.ne_of_gt h)];rfl
  rw[h0]at r1 r2;cases neg with
  |false=>exact⟨_,r1,_,h,env,M,X,S.put0 (by intro t' ht;cases ht;exact hd) (.p (.bool _))⟩
  |true=>exact⟨_,r2,_,h,env,M,X,S.put0 (by intro t' ht;cases ht;exact hd) (.p (.bool _))⟩
 ·exact h.elim
theorem So (hG:Bp G) {C:Aj} (hC:Ee P G C) (S:Ak P G st a w env M X) {gd:Option (Nat×Bool×Bool)} (hgd:Eo a gd) (hh:Co gd) {o:Oper} (hd:∀t,o.dst=some t->t<st.nt) (hq:∀q c x,gd=some (q,c,x)->o.dst≠some q)
  {K:St->Prop} (h:KI P C st gd o K) {N:Act->World->Prop} (hN:∀st' a' w',K st'->AI P G st' a' w'->N a' w'):Gx P a o w N:=by
 obtain⟨dst,op,ty,pos,after,guard⟩:=o;simp only at hd hq;unfold KI at h;simp only at h;split at h
 ·-- alloc
  rename_i t d;split at h
  ·rename_i y hy;split at h
   ·obtain⟨st',hk,hs⟩:=kC hG S (hd _ rfl) h;refine⟨fun c hc=>by simp at hc,.inl ⟨_,_,?_,hN _ _ _ hk hs⟩⟩;simp only[execOp];exact Fr (by rw[Oz hy])
   obtain⟨st',hk,hs⟩:=R2 hG S hgd hh (hd _ rfl) (fun q c x hx=>hq q c x hx) h (vs:=y.zero.cells.toList) (by simp) (fun i hi=>by
    have:=I3 (P:=P) (env:=env) (Gu (M:=M) (w:=w) y.zero.cells.toList) i (by simpa using hi);rw[Aew]at this;exact this)
   refine⟨fun c hc=>by simp at hc,.inl ⟨_,_,?_,hN _ _ _ hk hs⟩⟩;simp only[execOp];exact Fr (by rw[Oz hy])
  ·exact h.elim
 ·-- box
  rename_i t x d;split at h
  ·rename_i e he;have hv:=Bc S hgd hh he;have hone:(BG e).all CD=true:=by
    unfold newVar at h;split at h
    ·assumption
    ·exact h.elim
   obtain⟨c1,c2⟩:=LV hv hone;obtain⟨st',hk,hs⟩:=R2 hG S hgd hh (hd _ rfl) (fun q c x hx=>hq q c x hx) h c1 c2;refine⟨fun c hc=>by simp at hc,.inl ⟨_,_,?_,hN _ _ _ hk hs⟩⟩;simp only[execOp];exact Fr (by rw[R6])
  ·exact h.elim
 ·-- store
  rename_i t p x;split at h
  ·rename_i y ep ex hy hp hx;split at h
   ·rename_i ps st' hst;obtain⟨h1,h2⟩:=B0 h;obtain⟨w',hr,S'⟩:=Oy hG S hy hst h1 (Bc S hgd hh hp) (Bc S hgd hh hx);refine⟨fun c hc=>by simp at hc,.inr (.inl ⟨w',?_,hN _ _ _ h2 ⟨_,_,_,S'⟩⟩)⟩;simp only[execOp];exact KQ hr
   ·exact h.elim
  ·exact h.elim
 ·-- buildSlice
  rename_i t len parts d;split at h
  ·rename_i e l hu hl;split at h
   ·rename_i y hy;split at h
    ·rename_i cs hcs;split at h
     ·rename_i hc;obtain⟨hle,hsz,hzs,hone⟩:=hc;obtain⟨q1,q2⟩:=LR (P:=P) (env:=env) (fun x e hx=>Bc S hgd hh hx) _ _ hl;obtain⟨cells,r1,r2⟩:=LQ (M:=M) (w:=w) (fun i=>some (i*y.size,y.size)) l _ q1 q2 _ _ ((Adu (len*y.size)).map fun k=>y.zero.cells.getD (k % y.size) undef) (by
       have:=Gu (M:=M) (w:=w) ((Adu (len*y.size)).map fun k=>y.zero.cells.getD (k % y.size) undef);rw[Aew]at this;exact this) hcs
      have h1:∀v,v∈cells->v.oneCell'=true:=fun v hv=>by
       obtain⟨i,hi,rfl⟩:=AdM hv;have hi':i<cs.length:=by have:=r2.1;omega
       have a1:CD (.p cs[i])=true:=Ad0.1 hone _ (AdC hi');have a2:=r2.2 i hi';rw[show SV.at cs i=cs[i]by simp[SV.at,AS,hi']]at a2;rw[AS,rH hi,AdU]at a2;exact KP a1 a2
      have hcl:cs.length=len*y.size:=by
       have:∀(pl:Nat->Option (Nat×Nat)) (ps:List (Nat×SV)) (c0 c1:List SV),Fm pl c0 ps=some c1->c1.length=c0.length:=by
        intro pl ps
        induction ps with
        |nil=>intro c0 c1 h;simp[Fm]at h;rw[h]
        |cons p ps ih =>
          intro c0 c1 h;obtain⟨i,s⟩:=p;simp only[Fm]at h;split at h
          ·cases h
          ·split at h
           ·rw[ih _ _ h,Mh]
           ·cases h
       rw[this _ _ _ _ hcs];simp
      have hmax:len<=maxLen:=by
       have:len<=len*y.size:=Nat.le_mul_of_pos_right len hsz;unfold maxLen;omega
      have hrun:=R7 (P:=P) (w:=w) hu hy hle hzs (parts:=parts.map fun(i,x)=>(i,a.eval x)) (cells:=cells) (by rw[<- r1];simp);refine⟨fun c hc=>by simp at hc,.inl ⟨_,_,by simp only[execOp];exact Fr hrun,?_⟩⟩;split at h
      ·split at h
       ·split at h
        ·rename_i hn;obtain⟨env',X',S',hrv⟩:=Ml hG S (hd d rfl) hn (e:=e) (cur:=cells.toArray) (n:=len) (cap:=len) (sz:=y.size) (get:=Bb cs y.size) (by have:=r2.1;simp;omega) (Adp _) hmax (fun i hi=>R8 hcl i hi) (fun i hi j hj=>by
          have:=Cj (sz:=y.size) hi hj;have hgd':(cells.toArray.getD (i*y.size+j) undef)=cells.getD (i*y.size+j) undef:=by simp[LS,AS]
          rw[hgd',R9 _ _ _ _ hj];refine⟨?_,r2.2 _ (by omega)⟩;have hlen:=r2.1;rw[AS,rH (by omega)];exact h1 _ (AdC _))
         exact hN _ _ _ h ⟨_,_,_,S'.put0 hd (.row hrv)⟩
        ·exact h.elim
       ·exact h.elim
      ·obtain⟨M',X',S',hden⟩:=RA hG S (e:=e) r2 h1 hcl hmax;refine hN _ _ _ h ⟨_,_,_,S'.putG hgd hd hq (fun _=>.p ?_) (fun hn=>absurd hh hn)⟩;split
       ·rename_i hl1;subst hl1;refine hden.congr_sl (fun i hi=>?_);have:i=0:=by omega
        subst this;simp only[Bb,Nat.zero_mul,List.drop_zero];rw[List.take_of_length_le (by omega)]
       ·exact hden
     ·exact h.elim
    ·exact h.elim
   ·exact h.elim
  ·exact h.elim
 ·-- makeSlice
  rename_i t l c d;split at h
  ·rename_i e k1 n k2 m hu hl hc;split at h
   ·rename_i y hy;split at h
    ·rename_i hcd;obtain⟨hsz,hzs,hb,hone,hn⟩:=hcd;obtain⟨h1,h2⟩:=B0 h;obtain⟨p1,p2,p3⟩:=Ay h1;obtain⟨i,hi,hz,hs,hby,_⟩:=C5 hy;have el:=Bc S hgd hh hl;have ec:=Bc S hgd hh hc;rcases el with ⟨el⟩;rcases ec with ⟨ec⟩;generalize hel:a.eval l=vl at el;generalize hec:a.eval c=vc at ec;cases el;cases ec;have hmb:m<=140737488355328:=by
      have:m*1<=m*(y.bytes:Int):=Int.mul_le_mul_of_nonneg_left (by omega) (by omega);omega
     have hrun:=run_make (P:=P) w t e i y.zero hu hi hz k1 k2 n m p1 p2 (by rw[hby,Int.mul_comm];omega) (by omega);rw[hs]at hrun;have hcur:∀k,k<m.toNat*y.size->(madeCells y.zero.cells (m.toNat*y.size)).getD k undef=y.zero.cells.getD (k % y.size) undef:=fun k hk=>by
      have hmod:k % y.size<y.zero.cells.size:=by rw[hzs];exact Nat.mod_lt _ hsz
      simp only[madeCells,LS];simp[hk,hzs,getElem!_pos y.zero.cells (k % y.size) hmod];rw[rK hmod];rfl
     obtain⟨env',X',S',hrv⟩:=Ml hG S (hd d rfl) hn (e:=e) (cur:=madeCells y.zero.cells (m.toNat*y.size)) (n:=n.toNat) (cap:=m.toNat) (sz:=y.size) (get:=fun _=>y.zero.cells.toList.map Cc) (size_madeCells _ _) (by omega) (by unfold maxLen;omega) (fun i hi=>by simpa using hzs) (fun i hi j hj=>by
      have:=Cj (sz:=y.size) (len:=m.toNat) (i:=i) (by omega) hj;rw[hcur _ this];have hmod:(i*y.size+j) % y.size=j:=by rw[Nat.mul_comm,Nat.mul_add_mod,AeV hj]
      rw[hmod];have hj':j<y.zero.cells.size:=by omega
      have hd':=(Gu (M:=M) (w:=w) y.zero.cells.toList).2 j (by simpa using hj');rw[LS,rK hj'];rw[AS,rH (by simpa using hj')]at hd';simp only[AdU,Array.getElem_toList]at hd' ⊢;exact⟨by have:=Array.all_eq_true.1 hone j hj';simpa using this,hd'⟩)
     refine⟨fun c hc=>by simp at hc,.inl ⟨_,_,by simp only[execOp,hel,hec];exact Fr hrun,?_⟩⟩;exact hN _ _ _ h2 ⟨_,_,_,S'.put0 hd (.row hrv)⟩
    ·exact h.elim
   ·exact h.elim
  ·exact h.elim
 ·-- a new map
  rename_i t d;split at h
  ·rename_i kt e ht;split at h
   ·rename_i hn;refine⟨fun c hc=>by simp at hc,.inl ⟨_,_,?_,hN _ _ _ h (jM hG S (hd _ rfl) hn _ _ _ _)⟩⟩;simp only[execOp];exact Fr rfl
   ·exact h.elim
  ·exact h.elim
 ·-- a map is written
  rename_i t m k v;split at h
  ·rename_i em ek hm hk;obtain⟨w',st',hr,hk',hs⟩:∃w' st',(Instr.mapUpdate t (a.eval m) (a.eval k) (a.eval v)).run P w=.ok () w'/\K st'/\AI P G st' a w':=by
    split at h
    ·split at h
     ·rename_i ev hv;split at h
      ·rename_i em' ek' ev' hm' hk' hv';obtain⟨M',S'⟩:=jS S ev;exact jP hG S' h (Bc S' hgd hh hm') (Bc S' hgd hh hk') (Bc S' hgd hh hv')
      ·exact h.elim
     ·exact h.elim
    ·split at h
     ·split at h
      ·rename_i ev hv;exact kA hG S h (Bc S hgd hh hm) (Bc S hgd hh hk) (Bc S hgd hh hv)
      ·exact h.elim
     ·exact jL hG S h (Bc S hgd hh hm) (Bc S hgd hh hk) (a.eval v)
   refine⟨fun c hc=>by simp at hc,.inr (.inl ⟨w',?_,hN _ _ _ hk' (by
    obtain⟨env',M',X',S'⟩:=hs;exact⟨env',M',X',S'.put0 (d:=none) (e:=.any) (by simp) .any⟩)⟩)⟩
   simp only[execOp];exact KQ hr
  ·exact h.elim
 ·-- a map is read
  rename_i t m k co d;split at h
  ·rename_i em ek hm hk;obtain⟨s,u,hr,hs,hk'⟩:∃s u,(Instr.lookup t (a.eval m) (a.eval k) co).run P w=.ok u w/\Av M w s u/\K (st.put (some d) ⟨none,.p s⟩):=by
    split at h
    ·exact jZ S h (Bc S hgd hh hm) (Bc S hgd hh hk)
    ·exact jQ S h (Bc S hgd hh hm) (Bc S hgd hh hk)
   refine⟨fun c hc=>by simp at hc,.inl ⟨u,w,?_,hN _ _ _ hk' ⟨env,M,X,S.put0 (fun t ht=>by cases ht;exact hd _ rfl) (.p hs)⟩⟩⟩;simp only[execOp];exact Fr hr
  ·exact h.elim
 ·-- append
  rename_i args ts d;split at h
  ·rename_i s x t t' hargs hts;split at h
   ·rename_i htt;subst htt;split at h
    ·rename_i es ex hs hx;have hargs:args = #[s,x]:=by apply AdJ;simpa using hargs
     have hts:ts = #[t,t]:=by apply AdJ;simpa using hts
     subst hargs hts;obtain⟨v',w',hrun,st',hk,hs'⟩:=jB hG S h (hd _ rfl) (Bc S hgd hh hs) (Bc S hgd hh hx) ty;refine⟨fun c hc=>by simp at hc,.inl ⟨v',w',?_,hN _ _ _ hk hs'⟩⟩;simp[execOp,resolve,invoke,builtin,hrun]
    ·exact h.elim
   ·split at h
    ·rename_i es ex hs hx;have hargs:args = #[s,x]:=by apply AdJ;simpa using hargs
     have hts:ts = #[t,t']:=by apply AdJ;simpa using hts
     subst hargs hts;obtain⟨v',w',hrun,st',hk,hs'⟩:=jE hG S h (hd _ rfl) (Bc S hgd hh hs) (Bc S hgd hh hx) ty;refine⟨fun c hc=>by simp at hc,.inl ⟨v',w',?_,hN _ _ _ hk hs'⟩⟩;simp[execOp,resolve,invoke,builtin,hrun]
    ·exact h.elim
  ·exact h.elim
 ·-- clear
  rename_i args ts;split at h
  ·rename_i x t hargs hts;split at h
   ·rename_i ex hx;have hargs:args = #[x]:=by apply AdJ;simpa using hargs
    have hts:ts = #[t]:=by apply AdJ;simpa using hts
    subst hargs hts;obtain⟨w',hrun,st',hk,hs'⟩:=kD hG S h (Bc S hgd hh hx) ty;refine⟨fun c hc=>by simp at hc,.inl ⟨_,w',?_,hN _ _ _ hk hs'⟩⟩;simp[execOp,resolve,invoke,builtin,hrun]
   ·exact h.elim
  ·exact h.elim
 ·-- copy
  rename_i args ts dd;split at h
  ·rename_i s x t t' hargs hts;split at h
   ·rename_i es ex hs hx;have hargs:args = #[s,x]:=by apply AdJ;simpa using hargs
    have hts:ts = #[t,t']:=by apply AdJ;simpa using hts
    subst hargs hts;obtain⟨r,w',hrun,st',hk,hs'⟩:=kE (t':=t') hG S h (hd _ rfl) (Bc S hgd hh hs) (Bc S hgd hh hx) ty;refine⟨fun c hc=>by simp at hc,.inl ⟨r,w',?_,hN _ _ _ hk hs'⟩⟩;simp[execOp,resolve,invoke,builtin,hrun]
   ·exact h.elim
  ·exact h.elim
 ·-- against nil
  rename_i t x y q d;split at h
  ·rename_i ex ey hx hy;obtain⟨v,hrun,st',hk,hs'⟩:=Sn S h (hd _ rfl) (Bc S hgd hh hx) (Bc S hgd hh hy) x y;refine⟨fun c hc=>by simp at hc,.inl ⟨v,w,?_,hN _ _ _ hk hs'⟩⟩;simp only[execOp];exact Fr hrun
  ·exact h.elim
 ·rename_i t x y q d;split at h
  ·rename_i ex ey hx hy;obtain⟨v,hrun,st',hk,hs'⟩:=Sn S h (hd _ rfl) (Bc S hgd hh hx) (Bc S hgd hh hy) x y;refine⟨fun c hc=>by simp at hc,.inl ⟨v,w,?_,hN _ _ _ hk hs'⟩⟩;simp only[execOp];exact Fr hrun
  ·exact h.elim
 ·-- a method's value
  rename_i f first caps d;split at h
  ·rename_i pre res ss hf hss;split at h
   ·rename_i hcaps;have hl:=Sl (P:=P) (M:=M) (w:=w) (env:=env) (a:=a) (ρ:=st.rho none) (fun x e hx=>Bc S hgd hh hx) hss;have hcaps':caps = #[]:=Array.eq_empty_of_size_eq_zero hcaps;subst hcaps';have hfn:=iT hC.1 hf hl;refine⟨fun c hc=>by simp at hc,.inl ⟨.func (.func f) (first.toList.map a.eval).toArray #[],w,?_,hN _ _ _ h ⟨_,_,_,S.put0 (by intro t' ht;cases ht;exact hd _ rfl) (.fn hfn)⟩⟩⟩;have hfirst:first.map a.eval=(first.toList.map a.eval).toArray:=by apply AdJ;simp
    simp only[execOp];exact Fr (by rw[hfirst];simp[Instr.makeFunc])
   ·exact h.elim
  ·exact h.elim
 ·-- a call
  rename_i f args ts;split at h
  ·rename_i g caps ps as lent hf hargs;split at h
   ·rename_i sp hsp;rw[hJ hf hsp]at hargs;obtain⟨hsok,hen⟩:=hC.1 _ _ hsp;have hfd:=Bc S hgd hh hf;rcases hfd with ⟨hfd⟩;generalize hev:a.eval f=vf at hfd;cases hfd with
    |clo _ _ cvs hcl hcd =>
    have hps:all ps:=by
     cases sp<;>simp only[F5]at h<;>have:=(B0 h).1<;>exact(all_append (F6 this hh)).1
    have hA:=Jy hC.1 S (fun x e hx=>Bc S hgd hh hx) _ _ _ _ _ hargs hps (L:=lent) (fun r hr=>hr);have hA':=RC hA (RD (M':=Dd M env lent) (w:=w) (ss:=caps) (vs:=cvs) ⟨hcl,fun i hi=>(hcd i hi).weak (fun b hb=>.inl hb)⟩);have hown:=KR _ _ _ _ _ hargs;have:=iW hG S hgd hh hd hq h hA' (Mq S hown) hsok hown;refine⟨fun c hc=>by simp at hc,.inr (.inr (.inl ⟨g,_,w,IG rfl hev hen,?_⟩))⟩;have hargsEq:args.map a.eval++cvs.toArray=(args.toList.map a.eval++cvs).toArray:=by apply AdJ;simp
    rw[hargsEq];exact F8 this fun e w' ⟨v,he,st',hk,hs⟩=>⟨v,he,hN _ _ _ hk hs⟩
   ·split at h
    ·rename_i tr as' htr has;have h:=M4 h hh;obtain⟨hT,hen⟩:=hC.2.2.2.1 g tr htr;have hfd:=Bc S hgd hh hf;rcases hfd with ⟨hfd⟩;generalize hev:a.eval f=vf at hfd;cases hfd with
     |clo _ _ cvs hcl hcd =>
     obtain⟨r1,r2⟩:=J4 (P:=P) (M:=M) (w:=w) (env:=env) (a:=a) (ρ:=st.rho gd) (fun x e hx=>Bc S hgd hh hx) has;obtain⟨q1,q2⟩:=Mv r1 r2 (bs:=caps.map .p) (by simpa using hcl) (I3 ⟨hcl,hcd⟩);have hc:=RP hG S hd q1 q2 hT h hN;refine⟨fun c hc=>by simp at hc,.inr (.inr (.inl ⟨g,_,w,IG rfl hev hen,?_⟩))⟩;have hargsEq:args.map a.eval++cvs.toArray=(args.toList.map a.eval++cvs).toArray:=by apply AdJ;simp
     rw[hargsEq];exact hc
    ·rename_i as' htr has;split at h
     ·rename_i mk hmk;have h:=M4 h hh;obtain⟨hT,hen⟩:=hC.2.2.2.2.1 g mk hmk;have hfd:=Bc S hgd hh hf;rcases hfd with ⟨hfd⟩;generalize hev:a.eval f=vf at hfd;cases hfd with
      |clo _ _ cvs hcl hcd =>
      obtain⟨r1,r2⟩:=J4 (P:=P) (M:=M) (w:=w) (env:=env) (a:=a) (ρ:=st.rho gd) (fun x e hx=>Bc S hgd hh hx) has;obtain⟨q1,q2⟩:=Mv r1 r2 (bs:=caps.map .p) (by simpa using hcl) (I3 ⟨hcl,hcd⟩);have hc:=RX hG S hd q1 q2 hT h hN;refine⟨fun c hc=>by simp at hc,.inr (.inr (.inl ⟨g,_,w,IG rfl hev hen,?_⟩))⟩;have hargsEq:args.map a.eval++cvs.toArray=(args.toList.map a.eval++cvs).toArray:=by apply AdJ;simp
      rw[hargsEq];exact hc
     ·exact h.elim
    ·exact h.elim
  ·-- a closure with own blocks
   rename_i g caps hf;split at h
   ·rename_i tr as htr has;have h:=M4 h hh;obtain⟨hT,hen⟩:=hC.2.2.2.1 g tr htr;have hfd:=Bc S hgd hh hf;generalize hev:a.eval f=vf at hfd;cases hfd with
    |cl _ _ cvs hcl hcd =>
    obtain⟨r1,r2⟩:=J4 (P:=P) (M:=M) (w:=w) (env:=env) (a:=a) (ρ:=st.rho gd) (fun x e hx=>Bc S hgd hh hx) has;obtain⟨q1,q2⟩:=Mv r1 r2 hcl hcd;have hc:=RP hG S hd q1 q2 hT h hN;refine⟨fun c hc=>by simp at hc,.inr (.inr (.inl ⟨g,_,w,IG rfl hev hen,?_⟩))⟩;have hargsEq:args.map a.eval++cvs.toArray=(args.toList.map a.eval++cvs).toArray:=by apply AdJ;simp
    rw[hargsEq];exact hc
   ·rename_i as htr has;split at h
    ·rename_i mk hmk;have h:=M4 h hh;obtain⟨hT,hen⟩:=hC.2.2.2.2.1 g mk hmk;have hfd:=Bc S hgd hh hf;generalize hev:a.eval f=vf at hfd;cases hfd with
     |cl _ _ cvs hcl hcd =>
     obtain⟨r1,r2⟩:=J4 (P:=P) (M:=M) (w:=w) (env:=env) (a:=a) (ρ:=st.rho gd) (fun x e hx=>Bc S hgd hh hx) has;obtain⟨q1,q2⟩:=Mv r1 r2 hcl hcd;have hc:=RX hG S hd q1 q2 hT h hN;refine⟨fun c hc=>by simp at hc,.inr (.inr (.inl ⟨g,_,w,IG rfl hev hen,?_⟩))⟩;have hargsEq:args.map a.eval++cvs.toArray=(args.toList.map a.eval++cvs).toArray:=by apply AdJ;simp
     rw[hargsEq];exact hc
    ·exact h.elim
   ·exact h.elim
  ·rename_i sp ps as lent hf hargs;rw[iA hf]at hargs;split at h
   ·rename_i ss hss;have hfd:=Bc S hgd hh hf;generalize hev:a.eval f=vf at hfd;cases hfd with
    |fn hfn =>
    obtain⟨g,first,caps,rfl,hen,hcall⟩:=hfn;have hps:all ps:=by
     simp only[F5]at h;have:=(B0 h).1;exact(all_append (F6 this hh)).1
    have hA:=Jy hC.1 S (fun x e hx=>Bc S hgd hh hx) _ _ _ _ _ hargs hps (L:=lent) (fun r hr=>hr);have hown:=KR _ _ _ _ _ hargs;have hlt:=Mq (env:=env) S hown
    -- the contract of the value,as a contract of 'g' at these arguments
    simp only[F5]at h;obtain⟨h1,h2⟩:=B0 h;have h1:=F6 h1 hh;have hp:sp.pre ss:=by
     have:=h1 _ (Ad4.2 (.inr (Ad2.2 rfl)));simp only[hss]at this;exact this
    simp only[hss]at h2;have hlat:Bg M (Dd M env lent) w w:=⟨Adp _,fun _ _=>rfl,fun b hb=>.inl hb⟩;have hdl:Bm (Dd M env lent) w ss (args.toList.map a.eval):=by
     have:=Hj hss;subst this;refine⟨by simpa using hA.1,fun i hi=>?_⟩;have:=(hA.2 i (by simpa using hi)).2;rw[FT _ _ hi]at this;rcases this with ⟨this⟩;exact this
    have hc:=hcall _ w hlat hlt ss _ hdl hp;refine⟨fun c hc=>by simp at hc,.inr (.inr (.inl ⟨g,_,w,Sk rfl hev hen,?_⟩))⟩;have hargsEq:first++args.map a.eval++caps=first++(args.toList.map a.eval).toArray++caps:=by congr 2;apply AdJ;simp
    rw[hargsEq];refine F8 hc fun e w' hg=>?_;split at h2
    ·rename_i hL;obtain⟨v,rfl,hs⟩:=KS hG S hgd hh hd hq hL hg;exact⟨v,rfl,hN _ _ _ h2 hs⟩
    ·exact h2.elim
   ·exact h.elim
  ·-- yield
   rename_i l ps as lent hf hargs;rw[iB hf]at hargs;split at h
   ·rename_i y ss hy hss;split at h
    ·rename_i hc;simp only[pR]at hc;obtain⟨hL,hnm⟩:=hc;have hL:lent = []:=by simpa using hL
     subst hL;obtain⟨h1,h2⟩:=B0 h;obtain⟨hps,h3⟩:=all_append h1;have hly:=h3 (l=y.l) (by simp);subst hly;have hlt:=h3 (st.yk<y.cnt) (by simp);have hitem:=h3 (ss=y.item st.yk) (by simp);have hfd:=Bc S hgd hh hf;generalize hev:a.eval f=vf at hfd;cases hfd with
     |yield =>
     have hA:=Jy hC.1 S (fun x e hx=>Bc S hgd hh hx) _ _ _ _ _ hargs hps (L:=[]) (fun r hr=>hr);have hdl:Bm (fun _=>False) w ss (args.toList.map a.eval):=by
      have:=Hj hss;subst this;refine⟨by simpa using hA.1,fun i hi=>?_⟩;have:=(hA.2 i (by simpa using hi)).2;rw[FT _ _ hi]at this;rcases this with ⟨this⟩;exact GL this (GL.noMems_at hnm i hi)
     obtain⟨fn,tmps,assign,body,hrun,hround⟩:=hC.2.1 y hy st.yk X w _ hlt S.gam.1 S.xlt (hitem ▸ hdl);refine⟨fun c hc=>by simp at hc,.inr (.inr (.inr ⟨y.l,fn,tmps,assign,body,w,?_,Jx hround fun e w' ⟨b,he,q1,q2,q3⟩=>⟨_,he,?_⟩⟩))⟩
     ·have e1:args.map a.eval=(args.toList.map a.eval).toArray:=by apply AdJ;simp
      simp only[execOp,resolve,hev,Deferred.ofValue,Sem.run_bind,Sem.run_pure,Result.andThen_ok,invoke,e1];simpa using hrun
     ·cases b with
      |true =>
        refine hN _ _ _ h2.1 ⟨env,M,X,?_⟩;exact(S.yielded q1 (fun c hc h=>q2 c hc (h.imp (fun h=>⟨rfl,h⟩) id)) q3).put0 hd (.p (.bool true))
      |false =>
        refine hN _ _ _ h2.2 ⟨env,fun _=>False,X,?_⟩;exact(S.yieldedF q1 (fun c hc h=>q2 c hc (.inr h)) q3).put0 hd (.p (.bool false))
    ·exact h.elim
   ·exact h.elim
  ·exact h.elim
 ·exact h.elim
theorem Sp {C:Aj} (S:Ak P G st a w env M X) {gd:Option (Nat×Bool×Bool)} (hgd:Eo a gd) (hh:¬ Co gd) {o:Oper} (hd:∀t,o.dst=some t->t<st.nt) (hq:∀q c x,gd=some (q,c,x)->o.dst≠some q)
  {K:St->Prop} (h:KI P C st gd o K):∃st',K st'/\AI P G st' (a.put o.dst undef) w:=by
 have fin:∀e:EV,AI P G (st.put o.dst ⟨gd,e⟩) (a.put o.dst undef) w:=fun e=>⟨_,_,_,S.putG hgd hd hq (fun h=>absurd h hh) (fun _=>rfl)⟩;have hsome:∃q c x,gd=some (q,c,x):=by
  cases gd with
  |none=>exact absurd trivial hh
  |some gd=>obtain⟨q,c,x⟩:=gd;exact⟨q,c,x,rfl⟩
 obtain⟨q,c,x,rfl⟩:=hsome;have hx:x=false:=by cases x;rfl;exact absurd rfl hh
 obtain⟨dst,op,ty,pos,after,guard⟩:=o;simp only at hd hq fin;unfold KI at h;simp only at h;have call:∀{sides:List Prop} {args:List EV} {L:List Nat} {sp:Spec},F5 C st (some (q,c,x)) dst sides args L sp K->∃st',K st'/\AI P G st' (a.put dst undef) w:=by
  intro sides args L sp h;cases sp with
  |fn pre res =>
    simp only[F5]at h;have h2:=(B0 h).2;split at h2
    ·exact⟨_,h2,fin _⟩
    ·exact h2.elim
  |rel T t0 pre post res =>
    simp only[F5]at h;have h2:=(B0 h).2 t0 (by simp[Ju,hx]);split at h2
    ·exact⟨_,h2,fin _⟩
    ·exact h2.elim
  |fresh T t0 pre post e0 sz n get =>
    simp only[F5]at h;have h20:=(B0 h).2 t0 (by simp[Ju,hx]);have h2:=(B0 h20).2;clear h20;split at h2
    ·exact⟨_,h2,fin (.p (.raw undef))⟩
    ·split at h2
     ·exact h2.elim
     ·exact⟨_,h2,fin _⟩
 split at h
 ·split at h
  ·split at h
   ·simp[LY]at h
   unfold newVar at h;simp at h
  ·exact h.elim
 ·split at h
  ·unfold newVar at h;split at h
   ·split at h
    ·exact h.elim
    ·split at h
     ·exact⟨_,h,fin _⟩
     ·exact h.elim
   ·exact h.elim
  ·exact h.elim
 ·exact h.elim
 ·split at h
  ·split at h
   ·split at h
    ·split at h
     ·split at h
      ·exact h.elim
      ·exact⟨_,h,fin _⟩
     ·exact h.elim
    ·exact h.elim
   ·exact h.elim
  ·exact h.elim
 ·exact h.elim
 ·exact h.elim
 ·exact h.elim
 ·exact h.elim
 ·exact h.elim
 ·exact h.elim
 ·exact h.elim
 ·exact h.elim
 ·exact h.elim
 ·exact h.elim
 ·split at h
  ·split at h
   ·exact call h
   ·split at h
    ·exact⟨_,h.2 hx,fin _⟩
    ·split at h
     ·exact⟨_,h.2 hx,fin _⟩
     ·exact h.elim
    ·exact h.elim
  ·split at h
   ·exact⟨_,h.2 hx,fin _⟩
   ·split at h
    ·exact⟨_,h.2 hx,fin _⟩
    ·exact h.elim
   ·exact h.elim
  ·split at h
   ·exact call h
   ·exact h.elim
  ·exact h.elim
  ·exact h.elim
 ·exact h.elim
theorem Sr (hG:Bp G) {C:Aj} (hC:Ee P G C) (S:Ak P G st a w env M X) {gd:Option (Nat×Bool×Bool)} (hgd:Eo a gd) (hh:Co gd) {o:Oper} (hd:∀t,o.dst=some t->t<st.nt) (hq:∀q c x,gd=some (q,c,x)->o.dst≠some q)
  {K:St->Prop} (h:KL P C st gd o K) {N:Act->World->Prop} (hN:∀st' a' w',K st'->AI P G st' a' w'->N a' w'):Gx P a o w N:=by
 obtain⟨dst,op,ty,pos,after,guard⟩:=o;simp only at hd hq;unfold KL at h;simp only at h;split at h
 ·rename_i t l c d;obtain⟨v,w',hr,st',hk,hs⟩:=jV hG S (hd d rfl) h;exact⟨fun c hc=>by simp at hc,.inl ⟨v,w',by simp only[execOp];exact Fr hr,hN _ _ _ hk hs⟩⟩
 ·rename_i t p x;split at h
  ·rename_i r i A hp hx;obtain⟨w',hr,st',hk,hs⟩:=jW hG S h (Bc S hgd hh hp) (Bc S hgd hh hx);obtain⟨e,M',X',S'⟩:=hs;exact⟨fun c hc=>by simp at hc,.inr (.inl ⟨w',by simp only[execOp];exact KQ hr,hN _ _ _ hk ⟨e,M',X',S'⟩⟩)⟩
  ·exact h.elim
 ·rename_i f args _;split at h
  ·rename_i g bs i as hf has;split at h
   ·rename_i c hc;obtain⟨hT,hen⟩:=hC.2.2.2.2.2 g c hc;have hfd:=Bc S hgd hh hf;rcases hfd with ⟨hfd⟩;generalize hev:a.eval f=vf at hfd;cases hfd with
    |clo _ _ cvs hcl hcd =>
    obtain rfl:cvs = []:=AdT hcl;obtain⟨r1,r2⟩:=J4 (P:=P) (M:=M) (w:=w) (env:=env) (a:=a) (ρ:=st.rho gd) (fun x e hx=>Bc S hgd hh hx) has;obtain⟨v0,vals,hvl⟩:∃v0 vals,args.toList.map a.eval=v0::vals:=by
     cases hx:args.toList.map a.eval with
     |nil=>rw[hx]at r1;simp at r1
     |cons v0 vals=>exact⟨v0,vals,rfl⟩
    rw[hvl]at r1 r2;have hc:=jT hG S hgd hh hd hq hT h (v0:=v0) (by have:=r2 0 (by simp);simpa[EV.at]using this) (vals:=vals) (by simpa using r1) (fun j hj=>by have:=r2 (j+1) (by simpa using hj);simpa[EV.at]using this) hN;refine⟨fun c hc=>by simp at hc,.inr (.inr (.inl ⟨g,_,w,IG rfl hev hen,?_⟩))⟩;have hargsEq:args.map a.eval++([]:List Value).toArray=(v0::vals).toArray:=by rw[<- hvl];apply AdJ;simp
    rw[hargsEq];exact hc
   ·exact h.elim
  ·exact h.elim
 ·exact h.elim
theorem Ss {C:Aj} (S:Ak P G st a w env M X) {gd:Option (Nat×Bool×Bool)} (hgd:Eo a gd) (hh:¬ Co gd) {o:Oper} (hd:∀t,o.dst=some t->t<st.nt) (hq:∀q c x,gd=some (q,c,x)->o.dst≠some q)
  {K:St->Prop} (h:KL P C st gd o K):∃st',K st'/\AI P G st' (a.put o.dst undef) w:=by
 obtain⟨dst,op,ty,pos,after,guard⟩:=o;simp only at hd hq;unfold KL at h;simp only at h;split at h
 ·exact absurd trivial hh
 ·exact absurd trivial hh
 ·split at h
  ·split at h
   ·exact jU S hgd hh hd hq h
   ·exact h.elim
  ·exact h.elim
 ·exact h.elim
theorem HO (hG:Bp G) {C:Aj} (hC:Ee P G C) {ro:Option Nat} {n:Nat} {ops:Array Oper} {Q:Exit->Act->World->Prop} {K:St->Prop} (hK:∀st a w,K st->AI P G st a w->Q .normal a w) :
  ∀(rest:List Oper) (st:St) (a:Act) (w:World),E7 P C ops rest st K->AI P G st a w->wpListIn (W ro) n P ops Q rest a w
 |[],st,a,w,h,hs=>hK st a w h hs
 |o::rest,st,a,w,h,⟨env,M,X,S⟩=>by
   simp only[E7]at h;split at h
   ·exact h.elim
   ·rename_i gd hgd0;obtain⟨hgd,hwant⟩:=KM S hgd0;split at h
    ·rename_i hcheck;have hd:∀t,o.dst=some t->t<st.nt:=fun t ht=>by
      rw[ht]at hcheck;cases gd with
      |none=>simpa[Ed]using hcheck
      |some g=>obtain⟨q,c,x⟩:=g;simp[Ed]at hcheck;exact hcheck.1
     have hq:∀q c x,gd=some (q,c,x)->o.dst≠some q:=fun q c x hg ht=>by
      rw[ht,hg]at hcheck;simp[Ed]at hcheck
     by_cases hw:Region.wanted o (yielded ops a.tmps)=true
     ·have hh:=hwant.1 hw;refine iO hw ?_;split at h
      ·rename_i d t x hi hcut;obtain⟨c1,c2,c3⟩:=Mx hcut;obtain⟨v,st',hr,hk,hs⟩:=RT hG S h (hd _ c2);refine⟨fun c hc=>(by rw[c1]at hc;cases hc),.inl ⟨v,w,by simp[execOp,c1,hr],?_⟩⟩;rw[c2];exact HO hG hC hK rest st' _ _ hk hs
      split at h
      ·exact Sr hG hC S hgd hh hd hq h (fun st' a' w' hk hs=>HO hG hC hK rest st' a' w' hk hs)
      split at h
      ·rename_i ps e hstep;obtain⟨h1,h2⟩:=B0 h;obtain⟨u,hr,hden⟩:=KN S hgd hh hstep (F6 h1 hh) o rfl;refine⟨fun c hc=>?_,.inl ⟨u,w,hr,HO hG hC hK rest _ _ _ h2 ⟨_,_,_,S.putG hgd hd hq (fun _=>hden) (fun hn=>absurd hh hn)⟩⟩⟩;rw[hc]at hstep;simp[F3,HI]at hstep
      ·exact So hG hC S hgd hh hd hq h (fun st' a' w' hk hs=>HO hG hC hK rest st' a' w' hk hs)
     ·have hh:¬ Co gd:=fun hx=>hw (hwant.2 hx);refine iN hw ?_;split at h
      ·rename_i d t x hi hcut;obtain⟨c1,c2,c3⟩:=Mx hcut;exact absurd trivial (by rw[c3]at hh;exact hh)
      split at h
      ·obtain⟨st',hk,hs⟩:=Ss S hgd hh hd hq h;exact HO hG hC hK rest st' _ _ hk hs
      split at h
      ·rename_i ps e hstep;obtain⟨_,h2⟩:=B0 h;exact HO hG hC hK rest _ _ _ h2 ⟨_,_,_,S.putG hgd hd hq (fun hn=>absurd hn hh) (fun _=>rfl)⟩
      ·obtain⟨st',hk,hs⟩:=Sp S hgd hh hd hq h;exact HO hG hC hK rest st' _ _ hk hs
    ·exact h.elim
end
section
def OF (op:Op):List Nat:=op.operands.toList.filterMap fun x=>match x with | .tmp t=>some t|_=>none
def kF:Op->List Nat
 | .call { callee:=.value (.tmp t),.. }=>[t]
 |_=>[]
def GP (ops:Array Oper) (o:Oper):List Nat:=match o.guard with
 |some (j,_)=>match ops.toList[j]? with|some oj=>oj.dst.toList|none=>[]
 |none=>[]
def Cv (ops:Array Oper) (o:Oper):List Nat:=OF o.op++kF o.op++GP ops o
def St.only (st:St) (L:List Nat):St:={ st with T:=st.T.filter fun x=>L.contains x.1 }
def La (P:Program) (C:Aj) (st:St) (gd:Option (Nat×Bool×Bool)) (o:Oper):Option (List Prop×EV):=match o.op with
 | .box _ x=>match o.dst,st.rho gd x with
   |some d,some e=>if (BG e).all CD && !(C.muts.contains d)then(allP (BG e)).map fun ss=>([],.p (.ref ss 0))else none
   |_,_=>none
 | .buildSlice t len parts=>match P.underlying t,HH (st.rho gd) parts.toList,o.dst with
   |some (.slice e),some l,some d=>match Bf P e with
     |some y=>match Fm (fun i=>some (i*y.size,y.size)) ((Adu (len*y.size)).map fun k=>Cc (y.zero.cells.getD (k % y.size) undef)) l with
       |some cs=>if (len*y.size<=16777216/\0<y.size/\y.zero.cells.size=y.size/\cs.all (fun s=>CD (.p s)))/\C.muts.contains d=false then some ([],.p (.sl y.size len (if len=1 then fun _=>cs else Bb cs y.size)))else none
       |none=>none
     |none=>none
   |_,_,_=>none
 | .call { callee:=.builtin .append,args:=args,argTypes:=ts }=>match args.toList,ts.toList,gd with
   |[s,x],[t,t'],none=>match P.underlying t,st.rho none s,st.rho none x with
     |some (.slice e),some (.full true sz n get),some ex=>match Bf P e with
       |some y=>match Ec st y.size ex with
         |some (ps,m,get2)=>if t=t'/\sz=y.size/\0<y.size/\0<y.bytes then some (ps ++ [0<m/\(n+m)*y.bytes<=140737488355328],.p (.sl sz (n+m) (Ba n get get2)))else none
         |none=>none
       |none=>none
     |_,_,_=>none
   |_,_,_=>none
 | .call { callee:=.value f,args:=args,argTypes:=ts }=>match st.rho gd f,F4 P C st (st.rho gd) args.toList ts.toList with
   |some (.p (.clo g caps)),some (ps,as,lent)=>match C.specs g with
     |some (.fn pre res)=>if lent.isEmpty||Db (res (as++caps.map .p))then some (ps ++ [pre (as++caps.map .p)],.p (res (as++caps.map .p)))else none
     |_=>none
   |some (.fn sp),some (ps,as,lent)=>match allP as with
     |some ss=>if lent.isEmpty||Db (sp.res ss)then some (ps ++ [sp.pre ss],.p (sp.res ss))else none
     |none=>none
   |_,_=>none
 |_=>none
def Ck (P:Program) (o:Oper):List (Nat×Al):=match o.op,o.dst with
 | .alloc t,some d=>match Bf P t with
   |some y=>[(d,.blk t (y.zero.cells.toList.map fun v=>.p (Cc v)))]
   |none=>[]
 |_,_=>[]
def Fe (P:Program):List Oper->List Nat
 |[]=>[]
 |o::l=>(Ck P o).map (·.1)++Fe P l
def GQ (P:Program):List Oper->List (Nat×Al)
 |[]=>[]
 |o::l=>Ck P o++GQ P l
def St.add (st:St) (l:List (Nat×Al)):St:={ st with own:=l++st.own }
def St.forgets (st:St):List Nat->St
 |[]=>st
 |d::ds=>(st.forget d).forgets ds
def Ff (o:Oper):Option (TypeId×Nat×Operand):=match o.op,o.dst,o.guard with
 | .store t (.tmp d) x,none,none=>some (t,d,x)
 |_,_,_=>none
def J6 (t:TypeId) (d:Nat) (o:Oper):Bool:=match o.op,o.dst with
 | .alloc t',some d'=>t' == t&&d' == d
 |_,_=>false
def J7 (ops:Array Oper) (d:Nat) (o:Oper):Bool:=(Cv ops o).contains d
def HP (d:Nat) (o:Oper):Bool:=o.dst == some d
def Hr (p:Oper->Bool) (l:List Oper):Bool:=(l.filter p).length == 1
def M5 (d:Nat) (o:Oper):Bool:=match Ff o with|some (_,d',_)=>d' == d|none=>false
def J8 (ops:Array Oper) (d:Nat):Option Nat:=(Adu ops.size).find? fun i=>match ops.toList[i]? with|some o=>M5 d o|none=>false
def GR (ops:Array Oper) (d:Nat):Bool:=ops.toList.any (M5 d)&&(Hr (J7 ops d) ops.toList && !(ops.toList.any (HP d)))
def J9:Al->Bool
 | .blk ..=>true
 |_=>false
def OG (ops:Array Oper) (own:List (Nat×Al)):List (Nat×Al):=own.filter fun x=>GR ops x.1&&J9 x.2
def St.minus (st:St) (ops:Array Oper):St:={ st with own:=st.own.filter fun x=>!(GR ops x.1&&J9 x.2) }
def OH (E:List (Nat×Al)) (d n:Nat):Bool:=match BC E d with
 |some (.blk _ cs)=>decide (n<=cs.length)
 |_=>false
def M6 (P:Program) (ops:Array Oper) (E:List (Nat×Al)) (st:St) (o:Oper):Option EV:=match Ff o with
 |some (t,d,x)=>match Bf P t,st.rho none (.tmp d),st.rho none x with
   |some y,some (.loc b 0),some ex=>if (b=d/\(BG ex).length=y.size/\y.zero.cells.size=y.size)/\(((ops.toList.any (J6 t d)&&Hr (HP d) ops.toList)||(GR ops d&&OH E d y.size))&&Hr (J7 ops d) ops.toList&&(BG ex).all CD&&(allP (BG ex)).isSome)=true then some ex else none
   |_,_,_=>none
 |none=>none
def Su:SV->Int
 | .int _ n=>n
 |_=>0
def IH (P:Program) (C:Aj) (st:St) (gd:Option (Nat×Bool×Bool)) (o:Oper):HG:=match o.op,o.dst with
 | .load t x,some d=>if C.cuts.contains d then(match F3 P st gd (.load t x)with
   |some (ps,.p s)=>some (ps ++ [s=.int .i64 (Su s)],.p (.int .i64 (Su s)))
   |_=>none)else none
 |_,_=>none
def BR (ops:Array Oper) (es:List AE) (q:Nat->Bool) (x:Nat×Al):Nat×Al:=match x.2,J8 ops x.1 with
 | .blk t cs,some j=>(match q j,es[j]? with
   |true,some e=>(x.1,.blk t (En cs 0 (BG e.v)))
   |_,_=>x)
 |_,_=>x
def Gy (P:Program) (C:Aj) (ops:Array Oper) (E:List (Nat×Al)) (st:St) (o:Oper):Option (List Prop×AE):=
 match HJ ops (st.only (Cv ops o)) o with
 |none=>none
 |some gd=>if Ed st o.dst gd then(match IH P C (st.only (Cv ops o)) gd o with
  |some (ps,e)=>some (wrapG gd ps,⟨gd,e⟩)
  |none=>match F3 P (st.only (Cv ops o)) gd o.op with
   |some (ps,e)=>some (wrapG gd ps,⟨gd,e⟩)
   |none=>match La P C (st.only (Cv ops o)) gd o with
     |some (ps,e)=>some (wrapG gd ps,⟨gd,e⟩)
     |none=>match M6 P ops E (st.only (Cv ops o)) o with
       |some e=>some ([],⟨none,e⟩)
       |none=>match gd,Ck P o with
         |none,[(d,.blk _ cs)]=>if cs.all CD then some ([],⟨none,.loc d 0⟩)else none
         |_,_=>none)else none
def Lb (P:Program) (C:Aj) (ops:Array Oper) (E:List (Nat×Al)):List Oper->St->Option (List Prop×List AE×St)
 |[],st=>some ([],[],st)
 |o::rest,st=>match Gy P C ops E st o with
   |none=>none
   |some (ps,e)=>match Lb P C ops E rest (st.put o.dst e)with
     |none=>none
     |some (qs,es,stF)=>some (ps++qs,e::es,stF)
def GS (o:Oper) (j:Nat):Bool:=o.after.any fun e=>Region.binds .any e&&e.on == j
def Lc (ops:List Oper) (all:Array Oper):Nat->List Oper->Bool
 |_,[]=>true
 |i, o::rest =>(o.after.all fun e => !Region.binds .any e||decide (e.on<i)) &&
  ((Adu ops.length).all fun j=>j == i||(match ops[j]? with
    |some oj=>(match oj.dst with
      |some d=>!(o.dst == some d)&&(!((Cv all o).contains d)||(if j<i then GS o j else GS oj i))&&(!((GP all o).contains d)||decide (j<i))
      |none=>true)
    |none=>true)) && !((o.dst.toList).any fun d=>(GP all o).contains d)&&Lc ops all (i+1) rest
def St.noGuards (st:St) (ops:List Oper):St:={ st with T:=st.T.filter fun x=>!(ops.any fun o=>match o.dst with|some d=>x.2.by d|none=>false) }
def OI (P:Program) (C:Aj) (ops:Array Oper) (E:List (Nat×Al)):List Oper->St->Nat
 |[],_=>0
 |o::rest,st=>match Gy P C ops E st o with
   |none=>0
   |some (_,e)=>OI P C ops E rest (st.put o.dst e)+1
def HQ (ops:List Oper) (j:Nat):List Nat:=match ops[j]? with
 |some o=>(o.after.toList.filter fun e=>Region.binds .any e).map (·.on)
 |none=>[]
def Ld (ops:List Oper):Nat->List Nat->List Nat
 |0,l=>l
 |i+1,l=>Ld ops i (if l.contains i then l++HQ ops i else l)
def Hs (Z:List Nat) (ops:List Oper) (j:Nat):Bool:=(HQ ops j).all (fun x=>decide (x<j))&&(Adu j).all fun i=>(Ld ops j (HQ ops j)).contains i||Z.contains i
def Sv (Z:List Nat) (ops:List Oper) (k:Nat):Bool:=(Adu ops.length).all fun j=>decide (j<k)||Hs Z ops j
def F9 (o:Oper):Option (Nat×Nat):=match o.op,o.dst,o.guard with
 | .move (.tmp s),some d,none=>some (d,s)
 | .extract (.tmp s) _,some d,none=>some (d,s)
 |_,_,_=>none
def JA (ops:Array Oper) (i:Nat):Bool:=match ops[i]? with
 |some oi=>match F9 oi with
   |some (d,s)=>!(d == s)&&(Adu ops.size).all fun j=>j == i||(match ops[j]? with
     |some oj=>((oj.after.any fun e=>Region.binds .any e&&e.on == i) || !((oj.looksAt ops).contains d)) && !(oj.dst == some d)&&((oi.after.any fun e=>Region.binds .any e&&e.on == j) || !(oj.dst == some s))
     |none=>true)
   |none=>false
 |none=>false
def HR (ops:Array Oper):Bool:=ops.all fun o=>match o.op with
 | .defer _ | .select ..=>false
 |_=>true
def OJ (ops:Array Oper) (k:Nat):List Nat:=if decide (k<ops.size)&&HR ops then(Adu k).filter (fun i=>JA ops i && !((Ld ops.toList k (HQ ops.toList k)).contains i))else []
def M7 (ops:List Oper):List AE->Nat->Bool:=fun es d=>(ops.zip es).all fun x=>x.1.dst == some d || !(x.2.v.names d)
def M8 (P:Program) (ops:List Oper) (es:List AE) (Ar:St):List Nat->Bool
 |[]=>true
 |d::ds=>Ar.noName d&&M7 ops es d&&M8 P ops es Ar ds
def HS (ops:Array Oper) (es:List AE) (q:Nat->Bool) (x:Nat×Al):Nat×Al:=if GR ops x.1&&J9 x.2 then BR ops es q x else x
def Sw (P:Program) (C:Aj) (ops:Array Oper) (stf:St) (K:St->Prop):Prop :=
 (fun k=>if Lc (ops.toList.take k) ops 0 (ops.toList.take k)&&Sv (OJ ops k) ops.toList k then(match Lb P C ops (OG ops stf.own) (ops.toList.take k) (stf.minus ops)with
  |some (ps,es,stF)=>if M8 P (ops.toList.take k) es stf (Fe P (ops.toList.take k))&&CE (Fe P (ops.toList.take k))then Bz ps (E7 P C ops (ops.toList.drop k) { stF with own:=(GQ P (ops.toList.take k)).map (BR ops es fun j=>decide (j<k))++stf.own.map (HS ops es fun j=>decide (j<k)) } K)else False
  |none=>False)else False) (OI P C ops (OG ops stf.own) ops.toList (stf.minus ops))
def M9 (P:Program) (C:Aj) (ops:Array Oper) (st:St) (K:St->Prop):Prop:=Sw P C ops ((st.noGuards ops.toList).forgets (Fe P ops.toList)) K
variable {P:Program} {M:Nat->Prop} {w:World} {G:Bn} {st:St} {a:Act} {env:As} {X:Nat->Prop}
theorem Ak.only (S:Ak P G st a w env M X) (L:List Nat):Ak P G (st.only L) a w env M X :=
 S.sub (fun _ hx=>(Adn.1 hx).1) (fun _ hx=>hx) S.nod rfl rfl
theorem OK {o:Oper} (h:∀t,o.op ≠ .alloc t):Ck P o = []:=by
 unfold Ck;split
 ·rename_i t d h1 h2;exact absurd h1 (h t)
 ·rfl
theorem MA (st:St):st.add []=st:=rfl
theorem kG {C:Aj} {st:St} {gd:Option (Nat×Bool×Bool)} (S:Ak P G st a w env M X) (hgd:Eo a gd) (hh:Co gd) {o:Oper} {ps:List Prop} {e:EV} (h:IH P C st gd o=some (ps,e)) (hp:all ps) :
  ∃u,(execOp a.eval o).run P w=.ok (.value u) w/\Am P M w env e u:=by
 unfold IH at h;split at h
 ·rename_i t x d h1 h2;split at h
  ·split at h
   ·rename_i ps' s hs;cases h;obtain⟨p1,p2⟩:=all_append hp;obtain⟨u,hr,hden⟩:=KN S hgd hh hs p1 o h1;refine⟨u,hr,?_⟩;have:=Ay p2;rwa[this]at hden
   ·cases h
  ·cases h
 ·cases h
theorem Sx (hG:Bp G) {C:Aj} (hC:Ee P G C) {ops:Array Oper} {o:Oper} {E:List (Nat×Al)} {ps:List Prop} {e:AE} (h:Gy P C ops E st o=some (ps,e)) (hns:Ff o=none) (hp:all ps) {st2:St} (hnt:st2.nt=st.nt)
  (S:Ak P G (st.only (Cv ops o)) a w env M X) (S2:Ak P G st2 a w env M X) (hfree:∀d o',(d,o')∈Ck P o->st2.noName d=true/\∀x,x∈st2.T->x.2.v.names d=false) :
  (Region.wanted o (yielded ops a.tmps)=true->Gx P a o w (fun a' w'=>AI P G ((st2.add (Ck P o)).put o.dst e) a' w'))/\(¬ Region.wanted o (yielded ops a.tmps)=true->AI P G ((st2.add (Ck P o)).put o.dst e) (a.put o.dst undef) w):=by
 unfold Gy at h;split at h
 ·cases h
 ·rename_i gd hgd0;obtain⟨hgd,hwant⟩:=KM S hgd0;split at h
  ·rename_i hcheck;have hd:∀t,o.dst=some t->t<st2.nt:=fun t ht=>by
    rw[ht]at hcheck;rw[hnt];cases gd with
    |none=>simpa[Ed]using hcheck
    |some g=>obtain⟨q,c,x⟩:=g;simp[Ed]at hcheck;exact hcheck.1
   have hq:∀q c x,gd=some (q,c,x)->o.dst≠some q:=fun q c x hg ht=>by
    rw[ht,hg]at hcheck;simp[Ed]at hcheck
   have skip:∀ev:EV,¬ Co gd->AI P G (st2.put o.dst ⟨gd,ev⟩) (a.put o.dst undef) w:=fun ev hn=>⟨_,_,_,S2.putG hgd hd hq (fun h=>absurd h hn) (fun _=>rfl)⟩;split at h
   ·rename_i ps' ev hstep;cases h;rw[OK (fun t ht=>by unfold IH at hstep;rw[ht]at hstep;cases hstep),MA];refine⟨fun hw=>?_,fun hw=>skip _ (fun hx=>hw (hwant.2 hx))⟩;have hh:=hwant.1 hw;obtain⟨u,hr,hden⟩:=kG S hgd hh hstep (F6 hp hh);refine⟨fun c hc=>?_,.inl ⟨u,w,hr,_,_,_,S2.putG hgd hd hq (fun _=>hden) (fun hn=>absurd hh hn)⟩⟩;unfold IH at hstep;rw[hc]at hstep;cases hstep
   rename_i hlc;clear hlc;split at h
   ·rename_i ps' ev hstep;cases h;rw[OK (fun t ht=>by rw[ht]at hstep;simp[F3,HI]at hstep),MA];refine⟨fun hw=>?_,fun hw=>skip _ (fun hx=>hw (hwant.2 hx))⟩;have hh:=hwant.1 hw;obtain⟨u,hr,hden⟩:=KN S hgd hh hstep (F6 hp hh) o rfl;refine⟨fun c hc=>?_,.inl ⟨u,w,hr,_,_,_,S2.putG hgd hd hq (fun _=>hden) (fun hn=>absurd hh hn)⟩⟩;rw[hc]at hstep;simp[F3,HI]at hstep
   ·split at h
    ·rename_i ps' ev heff;cases h;rw[OK (fun t ht=>by unfold La at heff;rw[ht]at heff;cases heff),MA];refine⟨fun hw=>?_,fun hw=>skip _ (fun hx=>hw (hwant.2 hx))⟩;have hh:=hwant.1 hw;have hp:=F6 hp hh;obtain⟨dst,op,ty,pos,after,guard⟩:=o;simp only at hd hq;unfold La at heff;simp only at heff S;split at heff
     ·-- box
      rename_i t x _;split at heff
      ·rename_i d e' hx;split at heff
       ·rename_i hc;simp only[pR]at hc;simp only[Option.map_eq_some_iff]at heff;obtain⟨ss,hss,he⟩:=heff;cases he;have hv:=Bc S hgd hh hx;obtain⟨c1,c2⟩:=LV hv hc.1;obtain⟨M',X',S',hden,_⟩:=S2.newRef hG (I2 hss c1 c2) (Mg hc.1 c1 c2) t;refine⟨fun c hc=>by simp at hc,.inl ⟨_,_,?_,_,_,_,S'.putG hgd hd hq (fun _=>.p hden) (fun hn=>absurd hh hn)⟩⟩;simp only[execOp];exact Fr (by rw[R6])
       ·cases heff
      ·cases heff
     ·-- a slice
      rename_i t len parts _;split at heff
      ·rename_i e' l d hu hz9 hl;split at heff
       ·rename_i y hy;split at heff
        ·rename_i cs hcs;split at heff
         ·rename_i hc;cases heff;obtain⟨v,w',M',X',hrun,S',hden⟩:=kB hG S2 hu hy (fun x e hx=>Bc S hgd hh hx) hl hcs hc.1;refine⟨fun c hc=>by simp at hc,.inl ⟨_,_,?_,_,_,_,S'.putG hgd hd hq (fun _=>.p hden) (fun hn=>absurd hh hn)⟩⟩;simp only[execOp];exact Fr hrun
         ·cases heff
        ·cases heff
       ·cases heff
      ·cases heff
     ·-- an append to a slice without room
      rename_i args ts _;split at heff
      ·rename_i s x t t' hargs hts _;split at heff
       ·rename_i e' sz n get ex hu hs hx;split at heff
        ·rename_i y hy;split at heff
         ·rename_i ps1 m get2 hsl;split at heff
          ·rename_i hc;obtain⟨rfl,rfl,hsz,hb⟩:=hc;cases heff;have hargs:args = #[s,x]:=by apply AdJ;simpa using hargs
           have hts:ts = #[t,t]:=by apply AdJ;simpa using hts
           subst hargs hts;obtain⟨hp1,hp2⟩:=all_append hp;obtain⟨hm0,hbytes⟩:=Ay hp2;have hmax:n+m<=maxLen:=Mj hb hbytes;have hs':=Bc S hgd hh hs;have hx':=Bc S hgd hh hx;generalize hev:a.eval s=vs at hs';cases hs' with
           |full hs' hq' =>
           obtain rfl:=hq'.1 rfl;obtain⟨A,cap,news,hev2,c1,c2,c3,c4,c5,c6⟩:=J0 S hsl hp1 hx';obtain⟨v',w',M',X',hrun,S',hden⟩:=RL (cap:=cap) hG S2 hu hy hsz hm0 hbytes hmax c1 c2 c3 c4 c5 c6 hs' ty;refine⟨fun c hc=>by simp at hc,.inl ⟨v',w',?_,_,_,_,S'.putG hgd hd hq (fun _=>.p hden) (fun hn=>absurd hh hn)⟩⟩;simp[execOp,resolve,invoke,builtin,hev,hev2,hrun]
          ·cases heff
         ·cases heff
        ·cases heff
       ·cases heff
      ·cases heff
     ·-- call
      rename_i f args ts _;split at heff
      ·rename_i g caps ps1 as lent hf hargs;split at heff
       ·rename_i pre res hsp;split at heff
        ·rename_i hL;cases heff;obtain⟨hsok,hen⟩:=hC.1 _ _ hsp;have hfd:=Bc S hgd hh hf;rcases hfd with ⟨hfd⟩;generalize hev:a.eval f=vf at hfd;cases hfd with
         |clo _ _ cvs hcl hcd =>
         obtain⟨hp1,hp2⟩:=all_append hp;have hA:=Jy hC.1 S (fun x e hx=>Bc S hgd hh hx) _ _ _ _ _ hargs hp1 (L:=lent) (fun r hr=>hr);have hA':=RC hA (RD (M':=Dd M env lent) (w:=w) (ss:=caps) (vs:=cvs) ⟨hcl,fun i hi=>(hcd i hi).weak (fun b hb=>.inl hb)⟩);have hown:=KR _ _ _ _ _ hargs;have:=hsok _ w _ _ (Mq (env:=env) S hown) hA' (Ay hp2);refine⟨fun c hc=>by simp at hc,.inr (.inr (.inl ⟨g,_,w,IG rfl hev hen,?_⟩))⟩;have hargsEq:args.map a.eval++cvs.toArray=(args.toList.map a.eval++cvs).toArray:=by apply AdJ;simp
         rw[hargsEq];refine F8 this fun e w' hg=>?_;obtain⟨v,rfl,hs⟩:=KS hG S2 hgd hh hd hq hL hg;exact⟨v,rfl,hs⟩
        ·cases heff
       ·cases heff
      ·rename_i sp ps1 as lent hf hargs;split at heff
       ·rename_i ss hss;split at heff
        ·rename_i hL;cases heff;have hfd:=Bc S hgd hh hf;generalize hev:a.eval f=vf at hfd;cases hfd with
         |fn hfn =>
         obtain⟨g,first,caps,rfl,hen,hcall⟩:=hfn;obtain⟨hp1,hp2⟩:=all_append hp;have hA:=Jy hC.1 S (fun x e hx=>Bc S hgd hh hx) _ _ _ _ _ hargs hp1 (L:=lent) (fun r hr=>hr);have hown:=KR _ _ _ _ _ hargs;have hlt:=Mq (env:=env) S hown;have hlat:Bg M (Dd M env lent) w w:=⟨Adp _,fun _ _=>rfl,fun b hb=>.inl hb⟩;have hdl:Bm (Dd M env lent) w ss (args.toList.map a.eval):=by
          have:=Hj hss;subst this;refine⟨by simpa using hA.1,fun i hi=>?_⟩;have:=(hA.2 i (by simpa using hi)).2;rw[FT _ _ hi]at this;rcases this with ⟨this⟩;exact this
         have hc:=hcall _ w hlat hlt ss _ hdl (Ay hp2);refine⟨fun c hc=>by simp at hc,.inr (.inr (.inl ⟨g,_,w,Sk rfl hev hen,?_⟩))⟩;have hargsEq:first++args.map a.eval++caps=first++(args.toList.map a.eval).toArray++caps:=by congr 2;apply AdJ;simp
         rw[hargsEq];refine F8 hc fun e w' hg=>?_;obtain⟨v,rfl,hs⟩:=KS hG S2 hgd hh hd hq hL hg;exact⟨v,rfl,hs⟩
        ·cases heff
       ·cases heff
      ·cases heff
     ·cases heff
    ·rw[show M6 P ops E (st.only (Cv ops o)) o=none by unfold M6;rw[hns]]at h;simp only at h;split at h
     ·rename_i d t cs hnew hq1 hq2;split at h
      ·rename_i hone;cases h;refine⟨fun hw=>?_,fun hw=>absurd trivial (fun hx=>hw (hwant.2 hx))⟩;obtain⟨f1,f2⟩:=hfree d (.blk t cs) (by rw[hnew];simp);obtain⟨dst,op,ty,pos,after,guard⟩:=o;unfold Ck at hnew;simp only at hnew hd hq;split at hnew
       ·rename_i t' d';split at hnew
        ·rename_i y hy;simp only[List.cons.injEq,Prod.mk.injEq,Al.blk.injEq,and_true]at hnew;obtain⟨rfl,rfl,rfl⟩:=hnew;have hl:y.zero.cells.toList.length=(y.zero.cells.toList.map fun v=>EV.p (Cc v)).length:=by simp
         have hden:∀i,i<(y.zero.cells.toList.map fun v=>EV.p (Cc v)).length->Am P M w env (EV.at (y.zero.cells.toList.map fun v=>EV.p (Cc v)) i) (y.zero.cells.toList.getD i undef):=fun i hi=>by
          have:=I3 (P:=P) (env:=env) (Gu (M:=M) (w:=w) y.zero.cells.toList) i (by simpa using hi);rw[Aew]at this;exact this
         obtain⟨env',X',S3,h3⟩:=R1 hG S2 (d:=d') (hd _ rfl) f1 hl hden (Mg hone hl hden) (fun i hi=>by
          rw[R3 _ _ hi];simp[EV.names]) t'
         have S4:=S3.sub (st':=st2.add (Ck P { dst:=some d',op:=.alloc t',type:=ty,pos:=pos,after:=after,guard:=guard })) (fun x hx=>by
          show x∈(st2.forget d').T;exact Adn.2 ⟨hx,by rw[f2 x hx];rfl⟩) (fun x hx=>by
          simp only[St.add,Ck,hy]at hx;exact hx) (by
          have:=S3.nod;simp only[St.add,Ck,hy];exact this) rfl rfl
         refine⟨fun c hc=>by simp at hc,.inl ⟨_,_,?_,_,_,_,S4.put0 (fun t ht=>by cases ht;exact hd _ rfl) (.loc h3)⟩⟩;simp only[execOp];exact Fr (by rw[Oz hy])
        ·cases hnew
       ·cases hnew
      ·cases h
     ·cases h
  ·cases h
theorem OL {o:Oper} {t:TypeId} {d:Nat} {x:Operand} (h:Ff o=some (t,d,x)):o.op=.store t (.tmp d) x/\o.dst=none/\o.guard=none:=by
 unfold Ff at h;split at h
 ·rename_i h1 h2 h3;cases h;exact⟨h1,h2,h3⟩
 ·cases h
theorem MB {C:Aj} {ops:Array Oper} {E:List (Nat×Al)} {o:Oper} {ps:List Prop} {e:AE} {t:TypeId} {d:Nat} {x:Operand} (hs:Ff o=some (t,d,x)) (h:Gy P C ops E st o=some (ps,e)) :
  ∃y,Bf P t=some y/\(st.only (Cv ops o)).rho none (.tmp d)=some (.loc d 0)/\(st.only (Cv ops o)).rho none x=some e.v/\e.g=none/\(BG e.v).length=y.size/\y.zero.cells.size=y.size /\
    ((ops.toList.any (J6 t d)=true/\Hr (HP d) ops.toList=true)\/(GR ops d=true/\OH E d y.size=true))/\Hr (J7 ops d) ops.toList=true/\(BG e.v).all CD=true/\(allP (BG e.v)).isSome=true:=by
 obtain⟨h1,h2,h3⟩:=OL hs;unfold Gy at h;split at h
 ·cases h
 ·rename_i gd hgd;split at h
  ·rw[show IH P C (st.only (Cv ops o)) gd o=none by unfold IH;rw[h1],show F3 P (st.only (Cv ops o)) gd o.op=none by rw[h1];simp[F3,HI],show La P C (st.only (Cv ops o)) gd o=none by unfold La;rw[h1]]at h;simp only at h;split at h
   ·rename_i ex hex;cases h;unfold M6 at hex;rw[hs]at hex;simp only at hex;split at hex
    ·rename_i y b ex' hy hb hx;split at hex
     ·rename_i hc;cases hex;obtain⟨⟨rfl,c1,c2⟩,c3⟩:=hc;simp only[pR,AdN]at c3;exact⟨y,hy,hb,hx,rfl,c1,c2,c3.1.1.1,c3.1.1.2,c3.1.2,c3.2⟩
     ·cases hex
    ·cases hex
   ·split at h
    ·rename_i hnew _;unfold Ck at hnew;rw[h1]at hnew;cases hnew
    ·cases h
  ·cases h
theorem MC {p:Oper->Bool}:∀{l:List Oper},Hr p l=true->∀{i j:Nat} {a b:Oper},l[i]? = some a->l[j]? = some b->p a=true->p b=true->i=j
 |[],_,i,j,a,b,hi,_,_,_=>by simp at hi
 |o::l,h,i,j,a,b,hi,hj,ha,hb=>by
   have none_of:∀{k:Nat} {c:Oper},(l.filter p).length=0->l[k]? = some c->p c=true->False:=fun {k c} h0 hk hc=>by
    have:c∈l.filter p:=Adn.2 ⟨Aeh hk,hc⟩;rw[AdT h0]at this;cases this
   unfold Hr at h;simp only[beq_iff_eq]at h;cases hpo:p o with
   |true =>
     rw[List.filter_cons_of_pos hpo]at h;simp only[List.length_cons]at h;have h0:(l.filter p).length=0:=by omega
     cases i with
     |succ i=>exact(none_of h0 (by simpa using hi) ha).elim
     |zero=>cases j with
       |zero=>rfl
       |succ j=>exact(none_of h0 (by simpa using hj) hb).elim
   |false =>
     rw[List.filter_cons_of_neg (by simp[hpo])]at h;cases i with
     |zero=>simp at hi;subst hi;rw[hpo]at ha;cases ha
     |succ i=>cases j with
       |zero=>simp at hj;subst hj;rw[hpo]at hb;cases hb
       |succ j =>
         have:=MC (l:=l) (by unfold Hr;simpa using h) (i:=i) (j:=j) (by simpa using hi) (by simpa using hj) ha hb;omega
theorem FZ {ops:Array Oper} {d j:Nat} (h:J8 ops d=some j):∃o t x,ops[j]? = some o/\Ff o=some (t,d,x):=by
 have h1:=List.find?_some h;split at h1
 ·rename_i o ho;unfold M5 at h1;split at h1
  ·rename_i t d' x hs;simp at h1;subst h1;exact⟨o,t,x,by simpa using ho,hs⟩
  ·cases h1
 ·cases h1
theorem Sy {ops:Array Oper} {o:Oper} {t:TypeId} {d:Nat} {x:Operand} (h:Ff o=some (t,d,x)):J7 ops d o=true:=by
 obtain⟨h1,_,_⟩:=OL h;unfold J7 Cv;have:d∈OF o.op:=by
  rw[h1];unfold OF;refine List.mem_filterMap.2 ⟨.tmp d,?_,rfl⟩;simp[Op.operands]
 simp[this]
theorem kH {ops:Array Oper} {i:Nat} {o:Oper} {t:TypeId} {d:Nat} {x:Operand} (ho:ops[i]? = some o) (hs:Ff o=some (t,d,x)) (h1:Hr (J7 ops d) ops.toList=true):J8 ops d=some i:=by
 have hi:=(Ady.1 ho).1;cases hf:J8 ops d with
 |none =>
   have:=List.find?_eq_none.1 hf i (Adz.2 hi);rw[show ops.toList[i]? = some o by simpa using ho]at this;simp[M5,hs]at this
 |some j =>
   obtain⟨o',t',x',ho',hs'⟩:=FZ hf;rw[MC h1 (show ops.toList[j]? = some o' by simpa using ho') (show ops.toList[i]? = some o by simpa using ho) (Sy hs') (Sy hs)]
theorem Ga (ops:Array Oper) (es:List AE) (q:Nat->Bool) (x:Nat×Al):(BR ops es q x).1=x.1:=by
 unfold BR;split
 ·split<;>rfl
 ·rfl
theorem Le {ops:Array Oper} {es:List AE} {q:Nat->Bool} {x:Nat×Al} (h:∀j,J8 ops x.1=some j->q j=false):BR ops es q x=x:=by
 unfold BR;split
 ·rename_i t cs j h1 h2;rw[h j h2]
 ·rfl
theorem II {ops:Array Oper} {es:List AE} {q q':Nat->Bool} {x:Nat×Al} (h:∀j,J8 ops x.1=some j->q j=q' j):BR ops es q x=BR ops es q' x:=by
 unfold BR;split
 ·rename_i t cs j h1 h2;rw[h j h2]
 ·rfl
end
section
variable {P:Program} {G:Bn}
theorem MD {ro:Option Nat} {n:Nat} {Q:Exit->Act->World->Prop} {o:Oper} {a:Act} {w:World} {N:Act->World->Prop} (h:Gx P a o w N):o.wpIn (W ro) n P a w N Q:=by
 obtain⟨ho,⟨u,w',hr,hk⟩|⟨w',hr,hk⟩|⟨f,args,w',hr,hk⟩|⟨l,f,tmps,assign,body,w',hr,hk⟩⟩:=h
 ·exact⟨fun _ _=>trivial,by rw[Oper.semAt_eq _ _ _ ho,hr];exact hk⟩
 ·exact⟨fun _ _=>trivial,by rw[Oper.semAt_eq _ _ _ ho,hr];exact hk⟩
 ·refine⟨fun _ _=>trivial,?_⟩;rw[Oper.semAt_eq _ _ _ ho,hr];refine⟨fun h=>by simp[W,Fence.wide]at h,?_⟩;refine Ow (callsIn_wide.2 (Calls.mono (callsIn_wide.1 hk) ?_));rintro e w'' ⟨v,rfl,h⟩;exact h
 ·refine⟨fun _ _=>trivial,?_⟩;rw[Oper.semAt_eq _ _ _ ho,hr];refine⟨fun h=>by simp[W,Fence.wide]at h,?_⟩;refine R0 (Jx hk ?_);rintro e w'' ⟨v,rfl,h⟩;exact h
def DD (st st':St):Prop:=st'.own=st.own/\st'.yk=st.yk/\st'.stop=st.stop/\st'.nt=st.nt
theorem DD.put (st:St) (d:Option Nat) (e:AE):DD st (st.put d e):=by cases d<;>exact⟨rfl,rfl,rfl,rfl⟩
theorem Lf {st:St} {d:Option Nat} {e:AE} {x:Nat×AE} (h:x∈(st.put d e).T):(x∈st.T/\d≠some x.1)\/(d=some x.1/\x.2=e):=by
 cases d with
 |none=>exact .inl ⟨h,by simp⟩
 |some d =>
   simp only[St.put,Adq,Adn]at h;rcases h with rfl|⟨h,hne⟩
   ·exact .inr ⟨rfl,rfl⟩
   ·simp at hne;exact .inl ⟨h,fun e=>hne.1 (by cases e;rfl)⟩
theorem Sz {C:Aj} {ops:Array Oper} {E:List (Nat×Al)}:∀(rest:List Oper) (st1:St) (ps:List Prop) (es:List AE) (stF:St),Lb P C ops E rest st1=some (ps,es,stF) ->
  es.length=rest.length/\(DD st1 stF/\∀x,x∈stF.T->(x∈st1.T/\∀(j:Nat) (oj:Oper),rest[j]? = some oj->oj.dst≠some x.1)\/∃(j:Nat) (oj:Oper),rest[j]? = some oj/\oj.dst=some x.1/\es[j]? = some x.2) /\
  ∀i o,rest[i]? = some o->∃sti psi e,Gy P C ops E sti o=some (psi,e)/\es[i]? = some e/\(∀p,p∈psi->p∈ps)/\DD st1 sti /\
    ∀x,x∈sti.T->(x∈st1.T/\∀(j:Nat) (oj:Oper),j<i->rest[j]? = some oj->oj.dst≠some x.1)\/∃(j:Nat) (oj:Oper),j<i/\rest[j]? = some oj/\oj.dst=some x.1/\es[j]? = some x.2
 |[],st1,ps,es,stF,h=>by
   simp only[Lb,Option.some.injEq,Prod.mk.injEq]at h;obtain⟨rfl,rfl,rfl⟩:=h;exact⟨rfl,⟨⟨rfl,rfl,rfl,rfl⟩,fun x hx=>.inl ⟨hx,fun j oj hj=>by simp at hj⟩⟩,fun i o hi=>by simp at hi⟩
 |o::rest,st1,ps,es,stF,h=>by
   simp only[Lb]at h;split at h
   ·cases h
   ·rename_i ps0 e hstep;split at h
    ·cases h
    ·rename_i qs es' stF' hgo;simp only[Option.some.injEq,Prod.mk.injEq]at h;obtain⟨rfl,rfl,rfl⟩:=h;obtain⟨h1,⟨t2,h2⟩,h3⟩:=Sz rest _ _ _ _ hgo;have tw:=DD.put st1 o.dst e;refine⟨by simp[h1],⟨⟨t2.1.trans tw.1,t2.2.1.trans tw.2.1,t2.2.2.1.trans tw.2.2.1,t2.2.2.2.trans tw.2.2.2⟩,fun x hx=>?_⟩,fun i o' hi=>?_⟩
     ·rcases h2 x hx with ⟨hm,hall⟩|⟨j,oj,hj,hd,he⟩
      ·rcases Lf hm with ⟨hm,hne⟩|⟨hd,he⟩
       ·refine .inl ⟨hm,fun j oj hj=>?_⟩;cases j with
        |zero=>simp at hj;subst hj;exact hne
        |succ j=>exact hall j oj (by simpa using hj)
       ·exact .inr ⟨0,o,by simp,hd,by simp[he]⟩
      ·exact .inr ⟨j+1,oj,by simpa using hj,hd,by simpa using he⟩
     ·cases i with
      |zero =>
        simp at hi;subst hi;exact⟨st1,ps0,e,hstep,by simp,fun p hp=>by simp[hp],⟨rfl,rfl,rfl,rfl⟩,fun x hx=>.inl ⟨hx,fun j oj hj=>by omega⟩⟩
      |succ i =>
        obtain⟨sti,psi,ei,hs,he,hps,tw',hmem⟩:=h3 i o' (by simpa using hi);refine⟨sti,psi,ei,hs,by simpa using he,fun p hp=>by simp[hps p hp],⟨tw'.1.trans tw.1,tw'.2.1.trans tw.2.1,tw'.2.2.1.trans tw.2.2.1,tw'.2.2.2.trans tw.2.2.2⟩,fun x hx=>?_⟩;rcases hmem x hx with ⟨hm,hall⟩|⟨j,oj,hlt,hj,hd,he⟩
        ·rcases Lf hm with ⟨hm,hne⟩|⟨hd,he⟩
         ·refine .inl ⟨hm,fun j oj hlt hj=>?_⟩;cases j with
          |zero=>simp at hj;subst hj;exact hne
          |succ j=>exact hall j oj (by omega) (by simpa using hj)
         ·exact .inr ⟨0,o,by omega,by simp,hd,by simp[he]⟩
        ·exact .inr ⟨j+1,oj,by omega,by simpa using hj,hd,by simpa using he⟩
theorem S5 {C:Aj} {ops:Array Oper} {E:List (Nat×Al)} {st:St} {o:Oper} {ps:List Prop} {e:AE} (h:Gy P C ops E st o=some (ps,e)):∀d,e.by d=true->d∈GP ops o:=by
 intro d hd;have key:∀gd,HJ ops (st.only (Cv ops o)) o=some gd->e.g=gd->d∈GP ops o:=by
  intro gd hg he;unfold HJ at hg;unfold GP;split at hg
  ·cases hg;simp[AE.by,he]at hd
  ·rename_i j want hgd;rw[hgd];split at hg
   ·rename_i oj hj;simp only[hj];split at hg
    ·rename_i d' hd';split at hg
     ·cases hg;simp only[AE.by,he,beq_iff_eq]at hd;subst hd;simp[hd']
     ·cases hg
    ·cases hg
   ·cases hg
 unfold Gy at h;split at h
 ·cases h
 ·rename_i gd hgd;split at h
  ·split at h
   ·cases h;exact key gd hgd rfl
   split at h
   ·cases h;exact key gd hgd rfl
   ·split at h
    ·cases h;exact key gd hgd rfl
    ·split at h
     ·cases h;simp[AE.by]at hd
     ·split at h
      ·split at h
       ·cases h;exact key none hgd rfl
       ·cases h
      ·cases h
  ·cases h
theorem OM {ops:List Oper} {all:Array Oper}:∀(rest:List Oper) (k:Nat),Lc ops all k rest=true->∀i o,rest[i]? = some o ->
  (∀e,e∈o.after->Region.binds .any e=true->e.on<k+i)/\∀j oj d,j≠k+i->ops[j]? = some oj->oj.dst=some d->o.dst≠some d/\(d∈Cv all o->if j<k+i then GS o j=true else GS oj (k+i)=true)/\(d∈GP all o->j<k+i)
 |[],k,h,i,o,hi=>by simp at hi
 |o'::rest,k,h,i,o,hi=>by
   simp only[Lc,pR]at h;obtain⟨⟨⟨h1,h2⟩,_⟩,h4⟩:=h;cases i with
   |zero =>
     simp at hi;subst hi;refine⟨fun e he hb=>?_,fun j oj d hne hj hd=>?_⟩
     ·have:=Aep.1 h1 e he;simp[hb]at this;exact this
     ·have hlt:=(List.getElem?_eq_some_iff.1 hj).1;have:=Ad0.1 h2 j (Adz.2 hlt);simp only[AeH]at hne ⊢;simp only[hj,hd]at this;simp[hne]at this;obtain⟨⟨a1,a2⟩,a3⟩:=this;refine⟨a1,fun hm=>?_,fun hm=>?_⟩
      ·rcases a2 with a2|a2
       ·exact absurd hm a2
       ·split at a2<;>rename_i hjk
        ·rw[if_pos hjk];exact a2
        ·rw[if_neg hjk];exact a2
      ·rcases a3 with a3|a3
       ·exact absurd hm a3
       ·exact a3
   |succ i =>
     have:=OM rest (k+1) h4 i o (by simpa using hi);rw[show k+1+i=k+(i+1)by omega]at this;exact this
theorem IJ {o:Oper} {j:Nat} (h:GS o j=true):∃e,e∈o.after/\Region.binds .any e=true/\e.on=j:=by
 unfold GS at h;rw[Array.any_eq_true]at h;obtain⟨i,hi,hx⟩:=h;simp at hx;exact⟨_,Array.getElem_mem hi,hx.1,hx.2⟩
end
section
variable {P:Program} {G:Bn}
theorem HT {st:St} {d:Option Nat} {e:AE} {x:Nat×AE} (h:x∈st.T) (h1:d≠some x.1) (h2:∀t,d=some t->x.2.by t=false):x∈(st.put d e).T:=by
 cases d with
 |none=>exact h
 |some t =>
   simp only[St.put,Adq,Adn];refine .inr ⟨h,?_⟩;have:¬ x.1=t:=fun e=>h1 (by rw[e]);simp[this,h2 t rfl]
theorem JB {st:St} {d:Nat} {e:AE}:(d,e)∈(st.put (some d) e).T:=by simp[St.put]
def kI (ops:Array Oper) (Ar:St) (es:List AE) (listed:Array Bool) (x:Nat×AE):Prop :=
 (x∈Ar.T/\∀(j:Nat) (oj:Oper),ops[j]? = some oj->listed.getD j false=true->oj.dst≠some x.1) \/
  ∃(j:Nat) (oj:Oper),ops[j]? = some oj/\listed.getD j false=true/\oj.dst=some x.1/\es[j]? = some x.2
structure IK (P:Program) (G:Bn) (ops:Array Oper) (E:List (Nat×Al)) (Ar:St) (es:List AE) (listed:Array Bool) (a:Act) (w:World):Prop where
 siz:listed.size=ops.size
 clo:∀(j:Nat) (oj:Oper),ops[j]? = some oj->listed.getD j false=true->∀e,e∈oj.after->Region.binds .any e=true->listed.getD e.on false=true
 sat:∃st2:St,(st2.yk=Ar.yk/\st2.stop=Ar.stop/\st2.nt=Ar.nt)/\(∀x,x∈st2.own↔(x∈Ar.own\/(∃(j:Nat) (oj:Oper),ops[j]? = some oj/\listed.getD j false=true/\∃y,y∈Ck P oj/\x=BR ops es (fun j=>listed.getD j false) y)\/∃y,y∈E/\x=BR ops es (fun j=>listed.getD j false) y))/\(∀x,x∈st2.T↔kI ops Ar es listed x)/\AI P G st2 a w
theorem kJ (st:St):∀ds,(st.forgets ds).own=st.own/\(st.forgets ds).yk=st.yk/\(st.forgets ds).stop=st.stop/\(st.forgets ds).nt=st.nt:=fun ds=>by
 induction ds generalizing st with
 |nil=>exact⟨rfl,rfl,rfl,rfl⟩
 |cons d ds ih=>exact ih (st.forget d)
theorem kK {x:Nat×AE} (ds:List Nat) {st:St} (h:x∈(st.forgets ds).T):x∈st.T/\∀d,d∈ds->x.2.v.names d=false:=by
 induction ds generalizing st with
 |nil=>exact⟨h,fun d hd=>by cases hd⟩
 |cons d0 ds ih =>
   obtain⟨h1,h2⟩:=ih (st:=st.forget d0) h;refine⟨(Adn.1 h1).1,fun d hd=>?_⟩;rcases Adq.1 hd with rfl|hd
   ·exact HM (s:=x.1) (e:=x.2) h1
   ·exact h2 d hd
theorem ME {d:Nat} {o':Al} {l:List Oper} {o:Oper} (h:o∈l) (hn:(d,o')∈Ck P o):d∈Fe P l:=by
 induction l with
 |nil=>cases h
 |cons o1 l ih =>
   rw[Fe,Ad4];rcases Adq.1 h with h|h
   ·subst h;exact .inl (Ado.2 ⟨(d,o'),hn,rfl⟩)
   ·exact .inr (ih h)
theorem S6 {x:Nat×Al}:∀{l:List Oper},x∈GQ P l->∃(j:Nat) (oj:Oper),l[j]? = some oj/\x∈Ck P oj
 |[],h=>by cases h
 |o::l,h=>by
   simp only[GQ,Ad4]at h;rcases h with h|h
   ·exact⟨0,o,rfl,h⟩
   ·obtain⟨j,oj,h1,h2⟩:=S6 h;exact⟨j+1,oj,by simpa using h1,h2⟩
theorem S7:∀(l:List Oper),(GQ P l).map (·.1)=Fe P l
 |[]=>rfl
 |o::l=>by simp[GQ,Fe,S7 l]
theorem JC {o:Oper} {d:Nat} {o':Al} (h:(d,o')∈Ck P o):o.dst=some d/\∀k,o'.names k=false:=by
 unfold Ck at h;split at h
 ·rename_i t d' h1 h2;split at h
  ·simp only[Ad2,Prod.mk.injEq]at h;obtain⟨rfl,rfl⟩:=h;refine⟨h2,fun k=>?_⟩;have:∀l:List Value,EV.names.namesL k (l.map fun v=>EV.p (Cc v))=false:=fun l=>by
    induction l with
    |nil=>rfl
    |cons v l ih=>simp[EV.names.namesL,EV.names,ih]
   exact this _
  ·cases h
 ·cases h
theorem MF {ops:List Oper} {es:List AE} {Ar:St}:∀{ds:List Nat},M8 P ops es Ar ds=true->∀d,d∈ds->Ar.noName d=true/\M7 ops es d=true
 |d0::ds,h,d,hd=>by
   simp only[M8,pR]at h;rcases Adq.1 hd with rfl|hd
   ·exact h.1
   ·exact MF h.2 d hd
theorem kL {ops:List Oper} {es:List AE} {d:Nat} (h:M7 ops es d=true) {j:Nat} {oj:Oper} {e:AE} (h1:ops[j]? = some oj) (h2:es[j]? = some e):oj.dst=some d\/e.v.names d=false:=by
 unfold M7 at h;have hm:(oj,e)∈ops.zip es:=by
  have:(ops.zip es)[j]? = some (oj,e):=by rw[List.getElem?_zip_eq_some];exact⟨h1,h2⟩
  exact Aeh this
 have:=Ad0.1 h _ hm;simpa using this
theorem GT {l:Array Bool} {i:Nat} (h:i<l.size):(l.setIfInBounds i true).getD i false=true:=by
 simp[LS,h]
theorem EL {l:Array Bool} {i j:Nat} (h:(l.setIfInBounds i true).getD j false=true):j=i\/l.getD j false=true:=by
 by_cases hj:j=i
 ·exact .inl hj
 ·right;rw[LS,Aet,if_neg (fun e=>hj e.symm)]at h;rw[LS];exact h
theorem DP {l:Array Bool} {i j:Nat} (h:l.getD j false=true):(l.setIfInBounds i true).getD j false=true:=by
 have hj:j<l.size:=by
  rcases AdX j l.size with h'|h'
  ·exact h'
  ·rw[LS,Ae8 h']at h;cases h
 rw[LS,Aet];split
 ·rename_i he;subst he;rw[if_pos hj];rfl
 ·rw[LS]at h;exact h
theorem ON {ops:Array Oper} {listed:Array Bool} (clo:∀(j:Nat) (oj:Oper),ops[j]? = some oj->listed.getD j false=true->∀e,e∈oj.after->Region.binds .any e=true->listed.getD e.on false=true) :
  ∀(i:Nat) (l:List Nat),(∀x,x∈l->listed.getD x false=true)->∀x,x∈Ld ops.toList i l->listed.getD x false=true
 |0,l,h,x,hx=>h x hx
 |i+1,l,h,x,hx=>by
   simp only[Ld]at hx;refine ON clo i _ (fun y hy=>?_) x hx;split at hy
   ·rename_i hc;rcases Ad4.1 hy with hy|hy
    ·exact h y hy
    ·unfold HQ at hy;split at hy
     ·rename_i o ho;obtain⟨e,he,rfl⟩:=Ado.1 hy;obtain⟨he1,he2⟩:=Adn.1 he;exact clo i o (by simpa using ho) (h i (by simpa using hc)) e (by simpa using he1) he2
     ·cases hy
   ·exact h y hy
theorem kM {ops:Array Oper} {listed:Array Bool} (clo:∀(j:Nat) (oj:Oper),ops[j]? = some oj->listed.getD j false=true->∀e,e∈oj.after->Region.binds .any e=true->listed.getD e.on false=true)
  {j:Nat} {o:Oper} (ho:ops[j]? = some o) {Z:List Nat} (h:Hs Z ops.toList j=true) (hZ:∀z,z∈Z->listed.getD z false=true) (hr:∀e,e∈o.after->Region.binds .any e=true->listed.getD e.on false=true):∀i,i<j->listed.getD i false=true:=by
 intro i hi;simp only[Hs,pR]at h;have:=Ad0.1 h.2 i (Adz.2 hi);rw[AdN]at this;rcases this with this|this;rotate_left
 ·exact hZ i (by simpa using this)
 refine ON clo j _ (fun y hy=>?_) i (by simpa using this);unfold HQ at hy;rw[show ops.toList[j]? = some o by simpa using ho]at hy;obtain⟨e,he,rfl⟩:=Ado.1 hy;obtain⟨he1,he2⟩:=Adn.1 he;exact hr e (by simpa using he1) he2
theorem kN {ops:Array Oper} {listed:Array Bool} (clo:∀(j:Nat) (oj:Oper),ops[j]? = some oj->listed.getD j false=true->∀e,e∈oj.after->Region.binds .any e=true->listed.getD e.on false=true)
  {j:Nat} {o:Oper} (ho:ops[j]? = some o) {Z:List Nat} (h:Hs Z ops.toList j=true) (hr:∀e,e∈o.after->Region.binds .any e=true->listed.getD e.on false=true):∀i,i<j->i ∉ Z->listed.getD i false=true:=by
 intro i hi hz;simp only[Hs,pR]at h;have:=Ad0.1 h.2 i (Adz.2 hi);rw[AdN]at this;rcases this with this|this;rotate_left
 ·exact absurd (by simpa using this) hz
 refine ON clo j _ (fun y hy=>?_) i (by simpa using this);unfold HQ at hy;rw[show ops.toList[j]? = some o by simpa using ho]at hy;obtain⟨e,he,rfl⟩:=Ado.1 hy;obtain⟨he1,he2⟩:=Adn.1 he;exact hr e (by simpa using he1) he2
theorem kO {ops:Array Oper} {j:Nat} {o:Oper} (ho:ops[j]? = some o) {Z:List Nat} (h:Hs Z ops.toList j=true):∀e,e∈o.after->Region.binds .any e=true->e.on<j:=by
 intro e he hb;simp only[Hs,pR]at h;have:=Ad0.1 h.1 e.on (by
  unfold HQ;rw[show ops.toList[j]? = some o by simpa using ho];exact Ado.2 ⟨e,Adn.2 ⟨by simpa using he,hb⟩,rfl⟩)
 simpa using this
def DE (n:Nat) (listed:Array Bool):Nat:=((Adu n).filter fun i=>!listed.getD i false).length
theorem HU {n i:Nat} {listed:Array Bool} (hi:i<n) (hl:i<listed.size) (hu:listed.getD i false=false):DE n (listed.setIfInBounds i true)<DE n listed:=by
 unfold DE;have e1:((Adu n).filter fun j=>!(listed.setIfInBounds i true).getD j false)=((Adu n).filter fun j=>!listed.getD j false).filter fun j=>!(j == i):=by
  rw[List.filter_filter];apply List.filter_congr;intro j hj
  by_cases hji:j=i
  ·subst hji;rw[GT hl];simp
  ·have : (listed.setIfInBounds i true).getD j false = listed.getD j false :=by
    rw[LS,Aet,if_neg (fun e=>hji e.symm),LS]
   rw[this];simp[hji]
 rw[e1];have hm:i∈(Adu n).filter fun j=>!listed.getD j false:=Adn.2 ⟨Adz.2 hi,by rw[hu];rfl⟩;exact List.length_filter_lt_length_iff_exists.2 ⟨i,hm,by simp⟩
theorem OO (hG:Bp G) {C:Aj} (hC:Ee P G C) {ops:Array Oper} {o:Oper} {rest:List Oper} {st:St} {K:St->Prop} {a:Act} {w:World} {env:As} {M X:Nat->Prop} (h:E7 P C ops (o::rest) st K) (S:Ak P G st a w env M X) :
  (Region.wanted o (yielded ops a.tmps)=true->Gx P a o w (fun a' w'=>∃st',E7 P C ops rest st' K/\AI P G st' a' w'))/\(¬ Region.wanted o (yielded ops a.tmps)=true->∃st',E7 P C ops rest st' K/\AI P G st' (a.put o.dst undef) w):=by
 simp only[E7]at h;split at h
 ·exact h.elim
 ·rename_i gd hgd0;obtain⟨hgd,hwant⟩:=KM S hgd0;split at h
  ·rename_i hcheck;have hd:∀t,o.dst=some t->t<st.nt:=fun t ht=>by
    rw[ht]at hcheck;cases gd with
    |none=>simpa[Ed]using hcheck
    |some g=>obtain⟨q,c,x⟩:=g;simp[Ed]at hcheck;exact hcheck.1
   have hq:∀q c x,gd=some (q,c,x)->o.dst≠some q:=fun q c x hg ht=>by
    rw[ht,hg]at hcheck;simp[Ed]at hcheck
   refine⟨fun hw=>?_,fun hw=>?_⟩
   ·have hh:=hwant.1 hw;split at h
    ·rename_i d t x hi hcut;obtain⟨c1,c2,c3⟩:=Mx hcut;obtain⟨v,st',hr,hk,hs⟩:=RT hG S h (hd _ c2);exact⟨fun c hc=>(by rw[c1]at hc;cases hc),.inl ⟨v,w,by simp[execOp,c1,hr],st',hk,by rw[c2];exact hs⟩⟩
    split at h
    ·exact Sr hG hC S hgd hh hd hq h (fun st' a' w' hk hs=>⟨st',hk,hs⟩)
    split at h
    ·rename_i ps e hstep;obtain⟨h1,h2⟩:=B0 h;obtain⟨u,hr,hden⟩:=KN S hgd hh hstep (F6 h1 hh) o rfl;refine⟨fun c hc=>?_,.inl ⟨u,w,hr,_,h2,⟨_,_,_,S.putG hgd hd hq (fun _=>hden) (fun hn=>absurd hh hn)⟩⟩⟩;rw[hc]at hstep;simp[F3,HI]at hstep
    ·exact So hG hC S hgd hh hd hq h (fun st' a' w' hk hs=>⟨st',hk,hs⟩)
   ·have hh:¬ Co gd:=fun hx=>hw (hwant.2 hx);split at h
    ·rename_i d t x hi hcut;obtain⟨c1,c2,c3⟩:=Mx hcut;exact absurd trivial (by rw[c3]at hh;exact hh)
    split at h
    ·exact Ss S hgd hh hd hq h
    split at h
    ·rename_i ps e hstep;obtain⟨_,h2⟩:=B0 h;exact⟨_,h2,⟨_,_,_,S.putG hgd hd hq (fun hn=>absurd hn hh) (fun _=>rfl)⟩⟩
    ·exact Sp S hgd hh hd hq h
  ·exact h.elim
theorem S8 (hG:Bp G) {C:Aj} (hC:Ee P G C) {ro:Option Nat} {n:Nat} {ops:Array Oper} {Q:Exit->Act->World->Prop} {K:St->Prop} (hK:∀st a w,K st->AI P G st a w->Q .normal a w) {k:Nat} {Z:List Nat} (hs:Sv Z ops.toList k=true) (hZk:∀z,z∈Z->z<k/\z<ops.size) :
  ∀(fuel j:Nat) (listed:Array Bool) (st:St) (a:Act) (w:World),k<=j->j<=ops.size->listed.size=ops.size->(∀i,i<ops.size->(listed.getD i false=true↔i<j)) ->
    (∀(j:Nat) (oj:Oper),ops[j]? = some oj->listed.getD j false=true->∀e,e∈oj.after->Region.binds .any e=true->listed.getD e.on false=true) ->
    E7 P C ops (ops.toList.drop j) st K->AI P G st a w->DE ops.size listed<=fuel->wpAnyIn (W ro) n P .any ops Q fuel listed a w:=by
 have suf:∀j,k<=j->j<ops.size->Hs Z ops.toList j=true:=fun j hk hj=>by
  have:=Ad0.1 hs j (Adz.2 (by simpa using hj));simpa[show ¬ j<k by omega]using this
 intro fuel
 induction fuel with
 |zero =>
   intro j listed st a w hkj hj hsz hl clo h hsat hc;have hje:j=ops.size:=by
    rcases AdX j ops.size with hlt|hge
    ·exfalso;have hun:listed.getD j false=false:=by
      cases hx:listed.getD j false with
      |false=>rfl
      |true=>have:=(hl j hlt).1 hx;omega
     have hm:j∈(Adu ops.size).filter fun i=>!listed.getD i false:=Adn.2 ⟨Adz.2 hlt,by rw[hun];rfl⟩;have:=List.length_pos_of_mem hm;unfold DE at hc;omega
    ·omega
   subst hje;have hr:Region.ready .any ops listed = []:=by
    cases hr:Region.ready .any ops listed with
    |nil=>rfl
    |cons i l =>
      exfalso;obtain⟨h0,o,ho,_⟩:=mem_ready.1 (show i∈Region.ready .any ops listed by rw[hr];simp);have hi:=(Ady.1 ho).1;have:=(hl i hi).2 hi;have hil:i<listed.size:=by omega
      rw[LS,rK hil]at h0 this;rw[AdU]at h0 this;rw[h0]at this;cases this
   have hd:ops.toList.drop ops.size = []:=by simp
   rw[hd]at h;exact⟨hr,hK _ _ _ h hsat⟩
 |succ fuel ih =>
   intro j listed st a w hkj hj hsz hl clo h hsat hc;refine⟨fun hr=>?_,fun i hi=>?_⟩
   ·have hje : j = ops.size :=by
     rcases AdX j ops.size with hlt|hge
     ·exfalso;have ho:ops[j]? = some ops[j]:=rK hlt;have hun:listed.getD j false=false:=by
       cases hx:listed.getD j false with
       |false=>rfl
       |true=>have:=(hl j hlt).1 hx;omega
      have hmem:j∈Region.ready .any ops listed:=mem_ready.2 ⟨by
       have:j<listed.size:=by omega
       rw[LS,rK this]at hun ⊢;exact hun,ops[j],ho,fun e he hb=>by
        have:=kO ho (suf j hkj hlt) e he hb;exact(hl e.on (by omega)).2 this⟩
      rw[hr]at hmem;cases hmem
     ·omega
    subst hje;have hd:ops.toList.drop ops.size = []:=by simp
    rw[hd]at h;exact hK _ _ _ h hsat
   ·obtain⟨h0,o,ho,hafter⟩:=mem_ready.1 hi;have hisz:=(Ady.1 ho).1;have hilt:i<listed.size:=by omega
    have hunl:listed.getD i false=false:=by
     rw[LS,rK hilt]at h0 ⊢;exact h0
    have hij:i=j:=by
     have h1:¬ i<j:=fun hlt=>by have:=(hl i hisz).2 hlt;rw[hunl]at this;cases this
     have h2:=kM clo ho (suf i (by omega) hisz) (fun z hz=>(hl z (hZk z hz).2).2 (by have:=(hZk z hz).1;omega)) hafter;rcases AdX j i with hlt|hge
     ·have:=(hl j (by omega)).1 (h2 j hlt);omega
     ·omega
    subst hij;have hdrop:ops.toList.drop i=o::ops.toList.drop (i+1):=by
     have hi':i<ops.toList.length:=by simpa using hisz
     rw[List.drop_eq_getElem_cons hi'];congr 1;have:=(Ady.1 ho).2;simpa using this
    rw[hdrop]at h;obtain⟨env,M,X,S⟩:=hsat;obtain⟨k1,k2⟩:=OO hG hC h S;have next:∀a' w',(∃st',E7 P C ops (ops.toList.drop (i+1)) st' K/\AI P G st' a' w')->wpAnyIn (W ro) n P .any ops Q fuel (listed.setIfInBounds i true) a' w':=fun a' w' ⟨st',hk,hs'⟩=>by
     refine ih (i+1) _ st' a' w' (by omega) (by omega) (by simpa using hsz) (fun m hm=>⟨fun hx=>?_,fun hx=>?_⟩) (fun m om hom hlm e' he' hb'=>?_) hk hs' (by have:=HU (n:=ops.size) hisz hilt hunl;omega)
     ·rcases EL hx with rfl|hx
      ·omega
      ·have:=(hl m hm).1 hx;omega
     ·rcases AdX m i with hlt|hge
      ·exact DP ((hl m hm).2 hlt)
      ·obtain rfl:m=i:=by omega
       exact GT hilt
     ·rcases EL hlm with rfl|hlm
      ·rw[ho]at hom;cases hom;exact DP (hafter e' he' hb')
      ·exact DP (clo m om hom hlm e' he' hb')
    unfold wpOpIn;rw[ho];simp only;split
    ·rename_i hw;have:=k1 hw;refine MD (N:=wpAnyIn (W ro) n P .any ops Q fuel (listed.setIfInBounds i true)) ?_;obtain⟨l1,l2⟩:=this;refine⟨l1,?_⟩;rcases l2 with ⟨u,w',hr,hk⟩|⟨w',hr,hk⟩|⟨f,args,w',hr,hk⟩|⟨l,f,tmps,assign,body,w',hr,hk⟩
     ·exact .inl ⟨u,w',hr,next _ _ hk⟩
     ·exact .inr (.inl ⟨w',hr,next _ _ hk⟩)
     ·exact .inr (.inr (.inl ⟨f,args,w',hr,F8 hk fun e w'' ⟨v,he,hk⟩=>⟨v,he,next _ _ hk⟩⟩))
     ·exact .inr (.inr (.inr ⟨l,f,tmps,assign,body,w',hr,Jx hk fun e w'' ⟨v,he,hk⟩=>⟨v,he,next _ _ hk⟩⟩))
    ·rename_i hw;exact⟨fun _ _=>trivial,next _ _ (k2 hw)⟩
theorem MG {o:Oper} {a:Act} {w:World} {N N':Act->World->Prop} (h:Gx P a o w N) (k:∀a' w',N a' w'->N' a' w'):Gx P a o w N':=by
 obtain⟨l1,l2⟩:=h;refine⟨l1,?_⟩;rcases l2 with ⟨u,w',hr,hk⟩|⟨w',hr,hk⟩|⟨f,args,w',hr,hk⟩|⟨l,f,tmps,assign,body,w',hr,hk⟩
 ·exact .inl ⟨u,w',hr,k _ _ hk⟩
 ·exact .inr (.inl ⟨w',hr,k _ _ hk⟩)
 ·exact .inr (.inr (.inl ⟨f,args,w',hr,F8 hk fun e w'' ⟨v,he,hk⟩=>⟨v,he,k _ _ hk⟩⟩))
 ·exact .inr (.inr (.inr ⟨l,f,tmps,assign,body,w',hr,Jx hk fun e w'' ⟨v,he,hk⟩=>⟨v,he,k _ _ hk⟩⟩))
theorem JD {o:Oper} {d s:Nat} (h:F9 o=some (d,s)):(o.op=.move (.tmp s)\/∃n,o.op=.extract (.tmp s) n)/\o.dst=some d/\o.guard=none:=by
 unfold F9 at h;split at h
 ·rename_i h1 h2 h3;cases h;exact⟨.inl h1,h2,h3⟩
 ·rename_i h1 h2 h3;cases h;exact⟨.inr ⟨_,h1⟩,h2,h3⟩
 ·cases h
theorem kP {o:Oper} {d s:Nat} (h:F9 o=some (d,s)) {a a':Act} (he:a'.eval (.tmp s)=a.eval (.tmp s)):execOp a'.eval o=execOp a.eval o:=by
 obtain⟨h1|⟨n,h1⟩,_,_⟩:=JD h
 ·simp only[execOp,h1,he]
 ·simp only[execOp,h1,he]
theorem MH {o:Oper} {d s:Nat} (h:F9 o=some (d,s)) {a:Act} {w w':World} {x:Next} (hr:(execOp a.eval o).run P w=.ok x w'):∃u,x=.value u/\w'=w/\∀w2,(execOp a.eval o).run P w2=.ok (.value u) w2:=by
 obtain⟨h1|⟨n,h1⟩,_,_⟩:=JD h
 ·simp only[execOp,h1]at hr ⊢;cases hr;exact⟨_,rfl,rfl,fun _=>rfl⟩
 ·simp only[execOp,h1]at hr ⊢;unfold Instr.extract at hr ⊢;split at hr
  ·rename_i vs hv;split at hr
   ·rename_i v hx;cases hr;exact⟨v,rfl,rfl,fun _=>rfl⟩
   ·cases hr
  ·cases hr
theorem S9 {o:Oper} {a:Act} {w:World} {N:Act->World->Prop} {d s:Nat} (h:Gx P a o w N) (hm:F9 o=some (d,s)):∃u,(∀w2,(execOp a.eval o).run P w2=.ok (.value u) w2)/\N (a.put (some d) u) w:=by
 obtain⟨_,hd,_⟩:=JD hm;rcases h.2 with ⟨u,w',h1,h2⟩|⟨w',h1,h2⟩|⟨f,args,w',h1,h2⟩|⟨l,f,tmps,assign,body,w',h1,h2⟩
 ·obtain⟨v,e1,e2,e3⟩:=MH hm h1;cases e1;subst e2;rw[hd]at h2;exact⟨u,e3,h2⟩
 ·obtain⟨v,e1,_,_⟩:=MH hm h1;cases e1
 ·obtain⟨v,e1,_,_⟩:=MH hm h1;cases e1
 ·obtain⟨v,e1,_,_⟩:=MH hm h1;cases e1
theorem OP {ops:Array Oper} {o:Oper} {a:Act} {d s:Nat} (hm:F9 o=some (d,s)):Region.wanted o (yielded ops a.tmps)=true:=by
 obtain⟨_,_,hg⟩:=JD hm;simp[Region.wanted,hg]
theorem MI {F:Fence} {n:Nat} {ops:Array Oper} {md:Region.Mode} {Q Q':Exit->Act->World->Prop} (h:∀e a w,Q' e a w->Q e a w) :
  ∀(fuel:Nat) (listed:Array Bool) (a:Act) (w:World),wpAnyIn F n P md ops Q' fuel listed a w->wpAnyIn F n P md ops Q fuel listed a w
 |0,listed,a,w,hw=>⟨hw.1,h _ _ _ hw.2⟩
 |fuel+1,listed,a,w,hw=>by
   refine⟨fun hr=>h _ _ _ (hw.1 hr),fun i hi=>?_⟩;have h1:=wpOpIn_mono (fun a' w'=>MI h fuel (listed.setIfInBounds i true) a' w') (hw.2 i hi);unfold wpOpIn at *;split
   ·rename_i ho;simpa[ho]using h1
   ·rename_i o ho;simp only[ho]at h1;split
    ·rename_i hwd;simp only[hwd,if_true]at h1;unfold Oper.wpIn at *;refine⟨h1.1,?_⟩;have h2:=h1.2;generalize (o.semAt F.round a.eval).run P w=r at *;have hL:LetsOut Q'->LetsOut Q:=fun⟨a,w,q⟩=>⟨a,w,h _ _ _ q⟩;cases r with
     |ok x w' =>
       cases x<;>simp only[Oper.uponIn]at h2 ⊢<;>first|exact h2|skip
       ·refine⟨h2.1,CallsIn.mono h2.2 fun e w'' he=>?_⟩;cases e with
        |returned u=>exact he
        |panicked c=>exact h _ _ _ he
        |outgrown=>exact hL he
       ·refine⟨h2.1,RoundIn.mono h2.2 fun e w'' he=>?_⟩;cases e with
        |returned u=>exact he
        |panicked c=>exact h _ _ _ he
        |outgrown=>exact hL he
     |halt x w' =>
       cases x<;>simp only[Oper.uponIn]at h2 ⊢<;>first|exact h _ _ _ h2|exact h2
    ·rename_i hwd;simp only[hwd]at h1;exact h1
theorem OQ {ro:Option Nat} {n:Nat} {ops:Array Oper} {Q:Exit->Act->World->Prop} {j:Nat} {oj:Oper} (hj:ops[j]? = some oj) {d s:Nat} {v:Value} (h1:d ∉ oj.looksAt ops) (h2:oj.dst≠some d) (h3:oj.dst≠some s) (h4:∀c,oj.op ≠ .defer c) (h5:∀cs b,oj.op ≠ .select cs b)
  (hQ:∀c a w,¬ Q (.panic c) a w) {K:Act->World->Prop} {a:Act} {w:World} (h:wpOpIn (W ro) n P ops Q j K (a.put (some d) v) w) :
  wpOpIn (W ro) n P ops Q j (fun a' w'=>a'.eval (.tmp s)=a.eval (.tmp s)/\K (a'.put (some d) v) w') a w:=by
 have h1':∀t,some d=some t->t ∉ oj.looksAt ops:=fun t e=>by cases e;exact h1
 have keep:∀u,(a.put oj.dst u).eval (.tmp s)=a.eval (.tmp s):=fun u=>Act.eval_put fun t ht e=>by cases e;exact h3 ht
 have swap:∀u,(a.put (some d) v).put oj.dst u=(a.put oj.dst u).put (some d) v:=fun u=>Act.put_comm a v u fun t ht=>by cases ht;exact h2
 unfold wpOpIn at *;simp only[hj]at *;rw[wanted_put oj a (some d) v h1',about_put oj w a (some d) v h1']at h;split
 ·rename_i hw;simp only[hw,if_true]at h;unfold Oper.wpIn at *;rw[about_put oj w a (some d) v h1']at h;refine⟨h.1,?_⟩;have h:=h.2;rw[Oper.semAt_eq _ _ _ h4,execOp_put oj h5 a (some d) v h1']at h;rw[Oper.semAt_eq _ _ _ h4];generalize (execOp a.eval oj).run P w=r at *;cases r with
  |ok x w' =>
    cases x<;>simp only[Oper.uponIn]at h ⊢
    case value u=>exact⟨keep u,by rw[<- swap];exact h⟩
    case skip=>exact⟨keep _,by rw[<- swap];exact h⟩
    case defer q =>
     refine⟨Act.eval_put (a:={ a with defers:=q::a.defers }) fun t ht e=>by cases e;exact h3 ht,?_⟩;rw[<- Act.put_comm _ v undef (fun t ht=>by cases ht;exact h2),<- Act.put_defers];exact h
    case enter f args =>
     refine⟨h.1,CallsIn.mono h.2 fun e w'' he=>?_⟩;cases e with
     |returned u=>exact⟨keep u,by rw[<- swap];exact he⟩
     |panicked c=>exact(hQ _ _ _ he).elim
     |outgrown=>exact he
    case row row args=>exact⟨h.1,RowsIn.mono h.2 fun u w'' he=>⟨keep u,by rw[<- swap];exact he⟩⟩
    case round l f tmps assign body =>
     refine⟨h.1,RoundIn.mono h.2 fun e w'' he=>?_⟩;cases e with
     |returned u=>exact⟨keep u,by rw[<- swap];exact he⟩
     |panicked c=>exact(hQ _ _ _ he).elim
     |outgrown=>exact he
  |halt x w' =>
    cases x<;>simp only[Oper.uponIn]at h ⊢
    case panic u=>exact(hQ _ _ _ h).elim
 ·rename_i hw;simp only[hw]at h;exact⟨h.1,keep _,by rw[<- swap];exact h.2⟩
theorem OR {ops:Array Oper} (h:HR ops=true) {j:Nat} {o:Oper} (ho:ops[j]? = some o):(∀c,o.op ≠ .defer c)/\∀cs b,o.op ≠ .select cs b:=by
 have:=Aep.1 h o (Array.mem_of_getElem? ho);constructor
 ·intro c e;simp[e]at this
 ·intro cs b e;simp[e]at this
theorem kQ {ops:Array Oper} {i:Nat} {oi:Oper} {d s:Nat} (hi:ops[i]? = some oi) (hm:F9 oi=some (d,s)) (h:JA ops i=true) :
  ∀(j:Nat) (oj:Oper),ops[j]? = some oj->j≠i->(∀e,e∈oj.after->Region.binds .any e=true->e.on≠i)->(∀e,e∈oi.after->Region.binds .any e=true->e.on≠j)->d ∉ oj.looksAt ops/\oj.dst≠some d/\oj.dst≠some s:=by
 unfold JA at h;rw[hi]at h;simp only[hm,pR]at h;obtain⟨_,h3⟩:=h;intro j oj hj hne hno hno2;have h4:=Ad0.1 h3 j (Adz.2 (Ady.1 hj).1);simp only[hj,AdN,beq_iff_eq,hne,false_or,pR,AdO,beq_eq_false_iff_ne]at h4;refine⟨?_,h4.1.2,?_⟩
 ·rcases h4.1.1 with h5|h5
  ·obtain⟨e,he,hb⟩:=Array.any_eq_true'.1 h5;simp only[pR,beq_iff_eq]at hb;exact absurd hb.2 (hno e he hb.1)
  ·simpa using h5
 ·rcases h4.2 with h5|h5
  ·obtain⟨e,he,hb⟩:=Array.any_eq_true'.1 h5;simp only[pR,beq_iff_eq]at hb;exact absurd hb.2 (hno2 e he hb.1)
  ·exact h5
theorem OS {ro:Option Nat} {n:Nat} {ops:Array Oper} {Q:Exit->Act->World->Prop} {i:Nat} {oi:Oper} {d s:Nat} (hi:ops[i]? = some oi) (hm:F9 oi=some (d,s)) (hl:JA ops i=true) (hp:HR ops=true) (hQ:∀c a w,¬ Q (.panic c) a w) {u:Value} :
  ∀(fuel:Nat) (listed:Array Bool) (a:Act) (w:World),listed.getD i true=false->(∀e,e∈oi.after->Region.binds .any e=true->listed.getD e.on false=true)->(∀w2,(execOp a.eval oi).run P w2=.ok (.value u) w2) ->
    wpAnyIn (W ro) n P .any ops Q fuel (listed.setIfInBounds i true) (a.put (some d) u) w->wpAnyIn (W ro) n P .any ops Q (fuel+1) listed a w:=by
 have l2:=kQ hi hm hl;obtain⟨m1,m2,m3⟩:=JD hm;have ready:∀listed:Array Bool,listed.getD i true=false->(∀e,e∈oi.after->Region.binds .any e=true->listed.getD e.on false=true)->i∈Region.ready .any ops listed:=fun listed h k=>mem_ready.2 ⟨h,oi,hi,k⟩;have nodef:∀c,oi.op ≠ .defer c:=fun c e=>by
  rcases m1 with m1|⟨_,m1⟩<;>rw[m1]at e<;>cases e
 have now:∀{K:Act->World->Prop} {a:Act} {w:World},(∀w2,(execOp a.eval oi).run P w2=.ok (.value u) w2)->K (a.put (some d) u) w->wpOpIn (W ro) n P ops Q i K a w:=fun {K a w} hr h=>by
  unfold wpOpIn;rw[hi];simp only[OP hm,if_true];refine⟨fun _ _=>trivial,?_⟩;rw[Oper.semAt_eq _ _ _ nodef,hr];show K (a.put oi.dst _) w;rw[m2];exact h
 intro fuel
 induction fuel with
 |zero =>
   intro listed a w hun haf hr H;refine⟨fun h=>(by have:=ready listed hun haf;rw[h]at this;cases this),fun j hj=>?_⟩
   by_cases hji:j=i
   ·subst hji;exact now hr H
   ·have:=ready_mono hj hji;rw[H.1]at this;cases this
 |succ fuel ih =>
   intro listed a w hun haf hr H;refine⟨fun h=>(by have:=ready listed hun haf;rw[h]at this;cases this),fun j hj=>?_⟩
   by_cases hji:j=i
   ·subst hji;exact now hr H
   ·have h1:=H.2 j (ready_mono hj hji);obtain⟨hju,oj,hoj,hall⟩:=mem_ready.1 hj;have hno:∀e,e∈oj.after->Region.binds .any e=true->e.on≠i:=fun e he hb heq=>by
     have h1:=hall e he hb;rw[heq]at h1;rcases AdX i listed.size with h'|h'
     ·simp[h']at hun h1;rw[hun]at h1;cases h1
     ·simp[Ae8 h']at h1
    have hno2:∀e,e∈oi.after->Region.binds .any e=true->e.on≠j:=fun e he hb heq=>by
     have h1:=haf e he hb;rw[heq]at h1;rcases AdX j listed.size with h'|h'
     ·simp[h']at hju h1;rw[hju]at h1;cases h1
     ·simp[Ae8 h']at h1
    obtain⟨p1,p2,p3⟩:=l2 j oj hoj hji hno hno2;obtain⟨p4,p5⟩:=OR hp hoj;have h2:=OQ hoj p1 p2 p3 p4 p5 hQ h1;refine wpOpIn_mono (fun a' w' h3=>?_) h2;obtain⟨h3,h4⟩:=h3;refine ih (listed.setIfInBounds j true) a' w' (by rw[getD_set_ne true hji];exact hun) (fun e he hb=>DP (haf e he hb)) (fun w2=>by rw[kP hm h3];exact hr w2) ?_;rw[Array.setIfInBounds_comm _ _ hji];exact h4
theorem JE {l:List (Nat×Al)} {k k':Nat} {o o':Al} (h:(k',o')∈l) (hn:k'≠k):(k',o')∈Cd l k o:=Ado.2 ⟨(k',o'),h,by simp[hn]⟩
theorem SA {k:Nat}:∀(cs:List EV) (off:Nat) (e:EV),EV.names.namesL k cs=false->e.names k=false->EV.names.namesL k (cs.set off e)=false
 |[],_,_,h,_=>h
 |c::cs,0,e,h,he=>by
   simp only[EV.names.namesL,AdD,List.set_cons_zero]at h ⊢;exact⟨he,h.2⟩
 |c::cs,off+1,e,h,he=>by
   simp only[EV.names.namesL,AdD,List.set_cons_succ]at h ⊢;exact⟨h.1,SA cs off e h.2 he⟩
theorem SB {k:Nat}:∀(l:List EV) (cs:List EV) (off:Nat),EV.names.namesL k cs=false->(∀e,e∈l->e.names k=false)->EV.names.namesL k (En cs off l)=false
 |[],cs,off,h,_=>h
 |e::l,cs,off,h,hl=>SB l _ _ (SA cs off e h (hl e (by simp))) (fun e' he'=>hl e' (by simp[he']))
theorem SC {k:Nat}:∀{l:List EV},(allP l).isSome=true->∀e,e∈l->e.names k=false
 |[],_,e,h=>by cases h
 |c::l,h,e,he=>by
   cases c with
   |p s =>
     simp only[allP,Option.isSome_map]at h;rcases Adq.1 he with rfl|he
     ·rfl
     ·exact SC h e he
   |_=>simp[allP]at h
theorem Ht {l:Array Bool} {i j:Nat} (h:j≠i):(l.setIfInBounds i true).getD j false=l.getD j false:=by
 rw[LS,Aet,if_neg (fun e=>h e.symm),LS]
theorem kR (hG:Bp G) {C:Aj} (hC:Ee P G C) {ro:Option Nat} {n:Nat} {ops:Array Oper} {Q:Exit->Act->World->Prop} {K:St->Prop} (hK:∀st a w,K st->AI P G st a w->Q .normal a w) (hQ:∀c a w,¬ Q (.panic c) a w)
  {st:St} (h:M9 P C ops st K) {a:Act} {w:World} (hs:AI P G st a w):wpAnyIn (W ro) n P .any ops Q ops.size (AdR ops.size false) a w:=by
 unfold M9 Sw at h;generalize hstf:(st.noGuards ops.toList).forgets (Fe P ops.toList)=stf at h;generalize hE:OG ops stf.own=E at h;generalize OI P C ops E ops.toList (stf.minus ops)=k at h;split at h
 ·rename_i hchk0;simp only[pR]at hchk0;obtain⟨hchk,hsuf⟩:=hchk0;obtain⟨Z,eZ⟩:∃Z,OJ ops k=Z:=⟨_,rfl⟩;rw[eZ]at hsuf;have hZ:∀z,z∈Z->z<k/\z<ops.size/\JA ops z=true/\HR ops=true:=fun z hz=>by
   rw[<- eZ]at hz;unfold OJ at hz;split at hz
   ·rename_i hc;rw[pR]at hc;obtain⟨h1,h2⟩:=Adn.1 hz;rw[pR]at h2;have:=Adz.1 h1;have h3:k<ops.size:=of_decide_eq_true hc.1;exact⟨this,by omega,h2.1,hc.2⟩
   ·cases hz
  have taken:∀{i:Nat} {o:Oper},i<k->ops[i]? = some o->(ops.toList.take k)[i]? = some o:=fun hi h=>by rw[List.getElem?_take,if_pos hi];simpa using h
  have untake:∀{i:Nat} {o:Oper},(ops.toList.take k)[i]? = some o->i<k/\ops[i]? = some o:=fun {i o} h=>by
   rw[List.getElem?_take]at h;split at h
   ·exact⟨by assumption,by simpa using h⟩
   ·cases h
  split at h
  ·rename_i ps es stF hgo;split at h;rotate_left
   ·exact h.elim
   rename_i hac;obtain⟨hac,hnda⟩:=Bool.and_eq_true_iff.1 hac;have hnda:=Fc hnda;obtain⟨hps,hKF⟩:=B0 h;generalize hst0:stf.minus ops=st00 at *;have hstT:∀x,x∈st00.T->x∈(st.noGuards ops.toList).T/\∀d,d∈Fe P ops.toList->x.2.v.names d=false:=fun x hx=>by rw[<- hst0]at hx;have hx:x∈stf.T:=hx;rw[<- hstf]at hx;exact kK _ hx
   have hstO:=kJ (st.noGuards ops.toList) (Fe P ops.toList);rw[hstf]at hstO;have h0T:∀x,x∈st00.T↔x∈stf.T:=fun x=>by rw[<- hst0];exact Iff.rfl
   have h0O:∀x,x∈st00.own↔x∈stf.own/\(GR ops x.1&&J9 x.2)=false:=fun x=>by
    rw[<- hst0];show x∈stf.own.filter _↔_;rw[Adn,AdO]
   have hEm:∀x,x∈E↔x∈stf.own/\(GR ops x.1&&J9 x.2)=true:=fun x=>by
    rw[<- hE];exact Adn
   have h0yk:st00.yk=stf.yk/\st00.stop=stf.stop/\st00.nt=stf.nt:=by rw[<- hst0];exact⟨rfl,rfl,rfl⟩
   obtain⟨hlen,⟨twF,hF⟩,hat⟩:=Sz _ _ _ _ _ hgo;have hchk':=fun i o hi=>OM (ops.toList.take k) 0 hchk i o hi;simp only[Nat.zero_add]at hchk';have oper:∀{i:Nat} {o:Oper},ops[i]? = some o->ops.toList[i]? = some o:=fun h=>by simpa using h
   have noG:∀x,x∈st00.T->∀(j:Nat) (oj:Oper) d,ops[j]? = some oj->oj.dst=some d->x.2.by d=false:=fun x hx j oj d hj hd=>by
    have h1:=(Adn.1 (hstT x hx).1).2;simp only[AdO,List.any_eq_false]at h1;have:=h1 oj (Aeh (oper hj));rw[hd]at this;simpa using this
   have hsub:AI P G stf a w:=by
    obtain⟨env,M,X,S⟩:=hs;exact⟨env,M,X,S.sub (fun x hx=>(Adn.1 (hstT x ((h0T x).2 hx)).1).1) (fun _ hx=>by rw[hstO.1]at hx;exact hx) (by rw[hstO.1];exact S.nod) hstO.2.1 hstO.2.2.2⟩
   have hndf:(stf.own.map (·.1)).Nodup:=by obtain⟨_,_,_,S⟩:=hsub;exact S.nod
   have hnd0:(st00.own.map (·.1)).Nodup:=by
    rw[<- hst0];exact hndf.sublist (List.Sublist.map _ List.filter_sublist)
   have hkey:∀x y,x∈stf.own->y∈stf.own->x.1=y.1->x=y:=fun x y hx hy e=>by
    have h1:=GO (k:=x.1) (o:=x.2) hndf hx;have h2:=GO (k:=y.1) (o:=y.2) hndf hy;rw[e,h2]at h1;injection h1 with h1;exact Prod.ext e h1.symm
   have exNo:∀(d:Nat),GR ops d=true->∀(j:Nat) (oj:Oper),ops[j]? = some oj->oj.dst≠some d:=fun d hd j oj hj hdst=>by
    unfold GR at hd;simp only[pR,AdO,List.any_eq_false]at hd;exact hd.2.2 oj (Aeh (oper hj)) (by simp[HP,hdst])
   have stA:∀(js:Nat) (os:Oper) (t:TypeId) (d:Nat) (x:Operand),js<k->ops[js]? = some os->Ff os=some (t,d,x)->ops.toList.any (J6 t d)=true->∃(i0:Nat) (o0:Oper),i0<js/\ops[i0]? = some o0/\o0.dst=some d/\∃e,e∈os.after/\Region.binds .any e=true/\e.on=i0:=by
    intro js os t d x hjk hj hs hmade;obtain⟨sti,psi,e,hstep,_,_,_,hTi⟩:=hat js os (taken hjk hj);obtain⟨y,hy,hb,_⟩:=MB hs hstep;have hdd:d∈Fe P ops.toList:=by
     obtain⟨om,hm1,hm2⟩:=List.any_eq_true.1 hmade;unfold J6 at hm2;split at hm2
     ·rename_i t' d' h1 h2;simp only[pR,beq_iff_eq]at hm2;obtain⟨rfl,rfl⟩:=hm2;refine ME (o:=om) (o':=.blk t' (y.zero.cells.toList.map fun v=>.p (Cc v))) hm1 ?_;unfold Ck;rw[h1,h2];simp[hy]
     ·cases hm2
    obtain⟨en,hen,hev⟩:∃en,GG (sti.only (Cv ops os)).T d=some en/\en.v=.loc d 0:=by
     unfold St.rho St.ent at hb;simp only at hb;split at hb
     ·rename_i en hen;split at hb
      ·injection hb with hb;exact⟨en,hen,hb⟩
      ·cases hb
     ·cases hb
    have hm:=HE hen;obtain⟨hm1,hm2⟩:=Adn.1 hm;have hds:d∈Cv ops os:=by simpa using hm2
    rcases hTi _ hm1 with ⟨h1,_⟩|⟨j,oj,hlt,hj',hd,_⟩
    ·have:=(hstT _ h1).2 d hdd;simp only[hev]at this;simp[EV.names]at this
    ·have:=((hchk' js os (taken hjk hj)).2 j oj d (by omega) hj' hd).2.1 hds;rw[if_pos hlt]at this;obtain⟨e',he',hb',hon⟩:=IJ this;exact⟨j,oj,hlt,(untake hj').2,hd,e',he',hb',hon⟩
   have plainC:∀(js:Nat) (os:Oper) (t:TypeId) (d:Nat) (x:Operand) (e:AE),js<k->ops[js]? = some os->Ff os=some (t,d,x)->es[js]? = some e->(allP (BG e.v)).isSome=true:=by
    intro js os t d x e hjk hj hs he;obtain⟨sti,psi,e',hstep,hes,_,_,_⟩:=hat js os (taken hjk hj);rw[he]at hes;cases hes;obtain⟨_,_,_,_,_,_,_,_,_,_,hp⟩:=MB hs hstep;exact hp
   have contN:∀(q:Nat->Bool) (z:Nat×Al),(∀j,q j=true->j<k)->∀k',z.2.names k'=false->(BR ops es q z).2.names k'=false:=by
    intro q z hq k' hz;unfold BR;split
    ·rename_i t cs j h1 h2;split
     ·rename_i e hqj hej;obtain⟨os,t',x',hos,hso⟩:=FZ h2;have hz':=hz;rw[h1]at hz';exact SB _ _ _ hz' (SC (plainC j os t' z.1 x' e (hq j hqj) hos hso hej))
     ·exact hz
    ·exact hz
   have step : ∀(listed : Array Bool) (a : Act) (w : World), IK P G ops E st00 es listed a w->(∀i, listed.getD i false = true->i<k)->∀(i:Nat) (o : Oper), i<k->ops[i]? = some o->listed.getD i false = false->(∀e, e∈o.after->Region.binds .any e = true->listed.getD e.on false = true) ->
    (Region.wanted o (yielded ops a.tmps)=true->Gx P a o w (fun a' w'=>IK P G ops E st00 es (listed.setIfInBounds i true) a' w'))/\(¬ Region.wanted o (yielded ops a.tmps)=true->IK P G ops E st00 es (listed.setIfInBounds i true) (a.put o.dst undef) w):=by
    intro listed a w inv hpre i o hik ho hunl hafter;have hisz:=(Ady.1 ho).1;have hilt:i<listed.size:=by rw[inv.siz];exact hisz
    obtain⟨c1,c2⟩:=hchk' i o (taken hik ho);obtain⟨sti,psi,e,hstep,hes,hpsi,twi,hTi⟩:=hat i o (taken hik ho);obtain⟨st2,tw,hO,hT,env,M,X,S⟩:=inv.sat;have S2:Ak P G (sti.only (Cv ops o)) a w env M X:=by
     refine S.sub (fun x hx=>(hT x).2 ?_) (fun x hx=>(hO x).2 (.inl (by rw[<- twi.1];exact hx))) (by show(sti.own.map (·.1)).Nodup;rw[twi.1];exact hnd0) (twi.2.1.trans tw.1.symm) (twi.2.2.2.trans tw.2.2.symm);obtain⟨hx1,hx2⟩:=Adn.1 hx;have hx2:x.1∈Cv ops o:=by simpa using hx2
     rcases hTi x hx1 with ⟨h1,h2⟩|⟨j,oj,hlt,hj,hd,he⟩
     ·refine .inl ⟨h1,fun j oj hj hl hd=>?_⟩;have hne:j≠i:=fun e=>by subst e;rw[hunl]at hl;cases hl
      rcases AdX j i with hlt|hge
      ·exact h2 j oj hlt (taken (hpre j hl) hj) hd
      ·have:=(c2 j oj _ hne (taken (hpre j hl) hj) hd).2.1 hx2;rw[if_neg (by omega)]at this;obtain⟨e',he',hb',hon⟩:=IJ this;have:=inv.clo j oj hj hl e' he' hb';rw[hon,hunl]at this;cases this
     ·have hj':ops[j]? = some oj:=(untake hj).2;have:=(c2 j oj _ (by omega) hj hd).2.1 hx2;rw[if_pos hlt]at this;obtain⟨e',he',hb',hon⟩:=IJ this;have hl:=hafter e' he' hb';rw[hon]at hl;exact .inr ⟨j,oj,hj',hl,hd,he⟩
    cases hso:Ff o with
    |some sx =>
      obtain⟨t,d,x⟩:=sx;obtain⟨y,hy,hb,hx,heg,s1c,s2c,hmk,huse,hone,hplain⟩:=MB hso hstep;obtain⟨s1,s2,s3⟩:=OL hso;have hwant:Region.wanted o (yielded ops a.tmps)=true:=by simp[Region.wanted,s3]
      have hst:=kH ho hso huse;rcases hmk with ⟨hmade,hmake⟩|⟨hex,hblk⟩;rotate_left
      ·obtain⟨t0, cs, hlE, hcs⟩: ∃t0 cs, BC E d = some (.blk t0 cs)/\y.size<=cs.length :=by
        unfold OH at hblk;split at hblk
        ·rename_i t0 cs hl;exact⟨t0,cs,hl,of_decide_eq_true hblk⟩
        ·cases hblk
       have hdE:=Bq hlE;have hdf:=((hEm _).1 hdE).1;have hmem:(d,Al.blk t0 cs)∈st2.own:=(hO _).2 (.inr (.inr ⟨_,hdE,(Le (fun j hj=>by rw[hst]at hj;cases hj;exact hunl)).symm⟩));have hlk:=GO S.nod hmem;have hsym:Hl st2 y (.loc d 0) e.v=some ([],{ st2 with own:=Cd st2.own d (.blk t0 (En cs 0 (BG e.v))) }):=by
        simp only[Hl,hlk];rw[if_pos ⟨s1c,by omega,hone⟩]
       obtain⟨w',hr,S'⟩:=Oy hG S hy hsym K2 (Bc S2 (gd:=none) (fun _ _ _ h=>(by cases h)) trivial hb) (Bc S2 (gd:=none) (fun _ _ _ h=>(by cases h)) trivial hx);refine⟨fun _=>⟨fun c hc=>(by rw[s1]at hc;cases hc),.inr (.inl ⟨w',(by simp only[execOp,s1];exact KQ hr),?_⟩)⟩,fun hn=>absurd hwant hn⟩;rw[s2];have hcg:∀y':Nat×Al,y'.1≠d->BR ops es (fun j=>(listed.setIfInBounds i true).getD j false) y'=BR ops es (fun j=>listed.getD j false) y':=fun y' hyd=>II fun js hjs=>Ht fun e=>by
        subst e;obtain⟨o',t',x',ho',hs'⟩:=FZ hjs;rw[ho]at ho';cases ho';rw[hso]at hs';cases hs';exact hyd rfl
       have hnew:BR ops es (fun j=>(listed.setIfInBounds i true).getD j false) (d,.blk t0 cs)=(d,.blk t0 (En cs 0 (BG e.v))):=by
        unfold BR;simp only[hst,GT hilt,hes]
       refine⟨by simpa using inv.siz,fun j oj hj hl e' he' hb'=>?_,{ st2 with own:=Cd st2.own d (.blk t0 (En cs 0 (BG e.v))) },⟨tw.1,tw.2.1,tw.2.2⟩,fun z=>⟨fun hz=>?_,fun hz=>?_⟩,fun z=>⟨fun hz=>?_,fun hz=>?_⟩,env,M,X,S'⟩
       ·rcases EL hl with rfl|hl
        ·rw[ho]at hj;cases hj;exact DP (hafter e' he' hb')
        ·exact DP (inv.clo j oj hj hl e' he' hb')
       ·rcases DC (k':=z.1) (o':=z.2) hz with ⟨h1,h2,_⟩|⟨h1,h2⟩
        ·refine .inr (.inr ⟨_,hdE,?_⟩);rw[hnew];exact Prod.ext h1 h2
        ·rcases(hO z).1 h2 with h|⟨j,oj,hj,hl,y',hy',rfl⟩|⟨y',hy',rfl⟩
         ·exact .inl h
         ·rw[Ga]at h1;exact .inr (.inl ⟨j,oj,hj,DP hl,y',hy',(hcg y' h1).symm⟩)
         ·rw[Ga]at h1;exact .inr (.inr ⟨y',hy',(hcg y' h1).symm⟩)
       ·rcases hz with h|⟨j,oj,hj,hl',y',hy',rfl⟩|⟨y',hy',rfl⟩
        ·have hzd : z.1≠d :=fun ed =>by
          obtain⟨q1,q2⟩:=(h0O z).1 h;have:=hkey z _ q1 hdf ed;rw[this,hex]at q2;cases q2
         exact JE (k':=z.1) (o':=z.2) ((hO z).2 (.inl h)) hzd
        ·obtain⟨e1,e2⟩:=JC (d:=y'.1) (o':=y'.2) hy';have hyd:y'.1≠d:=fun ed=>exNo d hex j oj hj (by rw[e1,ed]);rcases EL hl' with rfl|hl
         ·rw[ho]at hj;cases hj;unfold Ck at hy';rw[s1]at hy';cases hy'
         ·rw[hcg y' hyd];exact JE (k':=(BR ops es (fun j=>listed.getD j false) y').1) (o':=(BR ops es (fun j=>listed.getD j false) y').2) ((hO _).2 (.inr (.inl ⟨j,oj,hj,hl,y',hy',rfl⟩))) (by rw[Ga];exact hyd)
        ·by_cases hyd:y'.1=d
         ·have:=hkey y' _ ((hEm y').1 hy').1 hdf hyd;subst this;rw[hnew];exact O5 hmem
         ·rw[hcg y' hyd];exact JE (k':=(BR ops es (fun j=>listed.getD j false) y').1) (o':=(BR ops es (fun j=>listed.getD j false) y').2) ((hO _).2 (.inr (.inr ⟨y',hy',rfl⟩))) (by rw[Ga];exact hyd)
       ·rcases(hT z).1 hz with ⟨h1,h2⟩|⟨j,oj,hj,hl,hd,he⟩
        ·refine .inl ⟨h1,fun j oj hj hl hd=>?_⟩;rcases EL hl with rfl|hl
         ·rw[ho]at hj;cases hj;rw[s2]at hd;cases hd
         ·exact h2 j oj hj hl hd
        ·exact .inr ⟨j,oj,hj,DP hl,hd,he⟩
       ·refine(hT z).2 ?_;rcases hz with ⟨h1,h2⟩|⟨j,oj,hj,hl',hd,he⟩
        ·exact .inl ⟨h1,fun j oj hj hl=>h2 j oj hj (DP hl)⟩
        ·rcases EL hl' with rfl|hl
         ·rw[ho]at hj;cases hj;rw[s2]at hd;cases hd
         ·exact .inr ⟨j,oj,hj,hl,hd,he⟩
      obtain⟨i0,o0,hi0,ho0,hd0,e0,he0,hb0,hon0⟩:=stA i o t d x hik ho hso hmade;have hl0:listed.getD i0 false=true:=by rw[<- hon0];exact hafter e0 he0 hb0
      have hnew0:Ck P o0 = [(d,.blk t (y.zero.cells.toList.map fun v=>.p (Cc v)))]:=by
       obtain⟨om,hm1,hm2⟩:=List.any_eq_true.1 hmade;obtain⟨im,him⟩:=List.getElem?_of_mem hm1;have hm3:=hm2;unfold J6 at hm3;split at hm3
       ·rename_i t' d' h1 h2;simp only[pR,beq_iff_eq]at hm3;obtain⟨rfl,rfl⟩:=hm3;have:=MC hmake him (oper ho0) (by simp[HP,h2]) (by simp[HP,hd0]);subst this;rw[oper ho0]at him;cases him;unfold Ck;rw[h1,h2];simp[hy]
       ·cases hm3
      have hmem:(d,Al.blk t (y.zero.cells.toList.map fun v=>.p (Cc v)))∈st2.own:=(hO _).2 (.inr (.inl ⟨i0,o0,ho0,hl0,_,by rw[hnew0];exact Ad2.2 rfl,(Le (fun j hj=>by rw[hst]at hj;cases hj;exact hunl)).symm⟩));have hlk:=GO S.nod hmem;have hsym:Hl st2 y (.loc d 0) e.v=some ([],{ st2 with own:=Cd st2.own d (.blk t (En (y.zero.cells.toList.map fun v=>.p (Cc v)) 0 (BG e.v))) }):=by
       simp only[Hl,hlk];rw[if_pos ⟨s1c,by simp[s2c],hone⟩]
      obtain⟨w',hr,S'⟩:=Oy hG S hy hsym K2 (Bc S2 (gd:=none) (fun _ _ _ h=>(by cases h)) trivial hb) (Bc S2 (gd:=none) (fun _ _ _ h=>(by cases h)) trivial hx);refine⟨fun _=>⟨fun c hc=>(by rw[s1]at hc;cases hc),.inr (.inl ⟨w',(by simp only[execOp,s1];exact KQ hr),?_⟩)⟩,fun hn=>absurd hwant hn⟩;rw[s2];refine⟨by simpa using inv.siz,fun j oj hj hl e' he' hb'=>?_,{ st2 with own:=Cd st2.own d (.blk t (En (y.zero.cells.toList.map fun v=>.p (Cc v)) 0 (BG e.v))) },⟨tw.1,tw.2.1,tw.2.2⟩,fun z=>⟨fun hz=>?_,fun hz=>?_⟩,fun z=>⟨fun hz=>?_,fun hz=>?_⟩,env,M,X,S'⟩
      ·rcases EL hl with rfl|hl
       ·rw[ho]at hj;cases hj;exact DP (hafter e' he' hb')
       ·exact DP (inv.clo j oj hj hl e' he' hb')
      ·rcases DC (k':=z.1) (o':=z.2) hz with ⟨h1,h2,_⟩|⟨h1,h2⟩
       ·refine .inr (.inl ⟨i0,o0,ho0,DP hl0,_,by rw[hnew0];exact Ad2.2 rfl,?_⟩);unfold BR;simp only[hst,GT hilt,hes];exact Prod.ext h1 h2
       ·rcases(hO z).1 h2 with h|⟨j,oj,hj,hl,y',hy',rfl⟩|⟨y',hy',rfl⟩
        ·exact .inl h
        ·refine .inr (.inl ⟨j,oj,hj,DP hl,y',hy',II fun js hjs=>(Ht fun e=>?_).symm⟩);subst e;obtain⟨o',t',x',ho',hs'⟩:=FZ hjs;rw[ho]at ho';cases ho';rw[hso]at hs';cases hs';rw[Ga]at h1;exact h1 rfl
        ·refine .inr (.inr ⟨y',hy',II fun js hjs=>(Ht fun e=>?_).symm⟩);subst e;obtain⟨o',t',x',ho',hs'⟩:=FZ hjs;rw[ho]at ho';cases ho';rw[hso]at hs';cases hs';rw[Ga]at h1;exact h1 rfl
      ·rcases hz with h|⟨j,oj,hj,hl',y',hy',rfl⟩|⟨y',hy',rfl⟩
       ·have hdd:d∈Fe P (ops.toList.take k):=ME (o:=o0) (o':=.blk t (y.zero.cells.toList.map fun v=>.p (Cc v))) (Aeh (taken (hpre i0 hl0) ho0)) (by rw[hnew0];exact Ad2.2 rfl);obtain⟨n1,_⟩:=MF hac d hdd;exact JE (k':=z.1) (o':=z.2) ((hO z).2 (.inl h)) (Ho (k':=z.1) (o:=z.2) n1 ((h0O z).1 h).1).1
       ·rcases EL hl' with rfl|hl
        ·rw[ho]at hj;cases hj;unfold Ck at hy';rw[s1]at hy';cases hy'
        ·obtain⟨e1,e2⟩:=JC (d:=y'.1) (o':=y'.2) hy'
         by_cases hyd:y'.1=d
         ·have:=MC hmake (oper hj) (oper ho0) (by simp[HP,e1,hyd]) (by simp[HP,hd0]);subst this;rw[hj]at ho0;cases ho0;rw[hnew0]at hy';have hy':=Ad2.1 hy';subst hy';have:BR ops es (fun j=>(listed.setIfInBounds i true).getD j false) (d,.blk t (y.zero.cells.toList.map fun v=>.p (Cc v)))=(d,.blk t (En (y.zero.cells.toList.map fun v=>.p (Cc v)) 0 (BG e.v))):=by
           unfold BR;simp only[hst,GT hilt,hes]
          rw[this];exact O5 hmem
         ·have hc : BR ops es (fun j =>(listed.setIfInBounds i true).getD j false) y' = BR ops es (fun j =>listed.getD j false) y' :=II fun js hjs =>Ht fun e =>by
           subst e;obtain⟨o',t',x',ho',hs'⟩:=FZ hjs;rw[ho]at ho';cases ho';rw[hso]at hs';cases hs';exact hyd rfl
          rw[hc];exact JE (k':=(BR ops es (fun j=>listed.getD j false) y').1) (o':=(BR ops es (fun j=>listed.getD j false) y').2) ((hO _).2 (.inr (.inl ⟨j,oj,hj,hl,y',hy',rfl⟩))) (by rw[Ga];exact hyd)
       ·have hyd : y'.1≠d :=fun ed =>by
         have hx1:=((hEm y').1 hy').2;rw[pR,ed]at hx1;exact exNo d hx1.1 i0 o0 ho0 hd0
        have hc:BR ops es (fun j=>(listed.setIfInBounds i true).getD j false) y'=BR ops es (fun j=>listed.getD j false) y':=II fun js hjs=>Ht fun e=>by
         subst e;obtain⟨o',t',x',ho',hs'⟩:=FZ hjs;rw[ho]at ho';cases ho';rw[hso]at hs';cases hs';exact hyd rfl
        rw[hc];exact JE (k':=(BR ops es (fun j=>listed.getD j false) y').1) (o':=(BR ops es (fun j=>listed.getD j false) y').2) ((hO _).2 (.inr (.inr ⟨y',hy',rfl⟩))) (by rw[Ga];exact hyd)
      ·rcases(hT z).1 hz with ⟨h1,h2⟩|⟨j,oj,hj,hl,hd,he⟩
       ·refine .inl ⟨h1,fun j oj hj hl hd=>?_⟩;rcases EL hl with rfl|hl
        ·rw[ho]at hj;cases hj;rw[s2]at hd;cases hd
        ·exact h2 j oj hj hl hd
       ·exact .inr ⟨j,oj,hj,DP hl,hd,he⟩
      ·refine(hT z).2 ?_;rcases hz with ⟨h1,h2⟩|⟨j,oj,hj,hl',hd,he⟩
       ·exact .inl ⟨h1,fun j oj hj hl=>h2 j oj hj (DP hl)⟩
       ·rcases EL hl' with rfl|hl
        ·rw[ho]at hj;cases hj;rw[s2]at hd;cases hd
        ·exact .inr ⟨j,oj,hj,hl,hd,he⟩
    |none =>
    have hns:∀js,(∃o' t' d' x',ops[js]? = some o'/\Ff o'=some (t',d',x'))->js≠i:=fun js ⟨o',t',d',x',ho',hs'⟩ e=>by
     subst e;rw[ho]at ho';cases ho';rw[hso]at hs';cases hs'
    have hcong:∀z:Nat×Al,BR ops es (fun j=>(listed.setIfInBounds i true).getD j false) z=BR ops es (fun j=>listed.getD j false) z:=fun z=>II fun js hjs=>Ht (hns js (by
     obtain⟨o',t',x',h1,h2⟩:=FZ hjs;exact⟨o',t',_,x',h1,h2⟩))
    have hself:∀z,z∈Ck P o->BR ops es (fun j=>(listed.setIfInBounds i true).getD j false) z=z:=fun z hz=>Le fun js hjs=>by
     obtain⟨o',t',x',ho',hs'⟩:=FZ hjs;have hne:=hns js ⟨o',t',_,x',ho',hs'⟩;rw[Ht hne];cases hl:listed.getD js false with
     |false=>rfl
     |true =>
       exfalso;obtain⟨e1',_⟩:=JC (d:=z.1) (o':=z.2) hz;have hmd:ops.toList.any (J6 t' z.1)=true:=by
        obtain⟨stj,psj,ej,hstepj,_⟩:=hat js o' (taken (hpre js hl) ho');obtain⟨_,_,_,_,_,_,_,hmk,_⟩:=MB hs' hstepj;rcases hmk with h|h
        ·exact h.1
        ·exact absurd e1' (exNo z.1 h.1 i o ho)
       obtain⟨i0,o0,_,ho0,hd0,e0,he0,hb0,hon0⟩:=stA js o' t' z.1 x' (hpre js hl) ho' hs' hmd;have hl0:=inv.clo js o' ho' hl e0 he0 hb0;rw[hon0]at hl0;obtain⟨e1,_⟩:=JC (d:=z.1) (o':=z.2) hz
       by_cases e:i0=i
       ·subst e;rw[hunl]at hl0;cases hl0
       ·exact(c2 i0 o0 _ e (taken (hpre i0 hl0) ho0) hd0).1 e1
    have hfree:∀d o',(d,o')∈Ck P o->st2.noName d=true/\∀x,x∈st2.T->x.2.v.names d=false:=fun d o' hm=>by
     have hod:=(JC hm).1;obtain⟨n1,n2⟩:=MF hac d (ME (Aeh (taken hik ho)) hm);have hdd:d∈Fe P ops.toList:=ME (Aeh (oper ho)) hm;refine⟨Ad0.2 fun y hy=>?_,fun x hx=>?_⟩
     ·rcases(hO y).1 hy with h|⟨j,oj,hj,hl,z,hz,rfl⟩|⟨z,hz,rfl⟩
      ·obtain⟨q1,q2⟩:=Ho (k':=y.1) (o:=y.2) n1 ((h0O y).1 h).1;simp[q1,q2]
      rotate_left
      ·obtain⟨q1,q2⟩:=Ho (k':=z.1) (o:=z.2) n1 ((hEm z).1 hz).1;have hn:=contN (fun j=>listed.getD j false) z hpre d q2;rw[Ga,hn];simp[q1]
      ·have hne:j≠i:=fun e=>by subst e;rw[hunl]at hl;cases hl
       obtain⟨e1,e2⟩:=JC (d:=z.1) (o':=z.2) hz;have:=(c2 j oj _ hne (taken (hpre j hl) hj) e1).1;rw[hod]at this;have hyd:z.1≠d:=fun e=>this (by rw[e]);have hn:=contN (fun j=>listed.getD j false) z hpre d (e2 d);rw[Ga,hn];simp[hyd]
     ·rcases(hT x).1 hx with ⟨h1,_⟩|⟨j,oj,hj,hl,hd,he⟩
      ·exact(hstT x h1).2 d hdd
      ·have hne:j≠i:=fun e=>by subst e;rw[hunl]at hl;cases hl
       rcases kL n2 (taken (hpre j hl) hj) he with h|h
       ·exact absurd hod (by
        have:=(c2 j oj _ hne (taken (hpre j hl) hj) h).1;exact this)
       ·exact h
    obtain⟨k1,k2⟩:=Sx hG hC hstep hso (fun p hp=>hps p (hpsi p hp)) (st2:=st2) (tw.2.2.trans twi.2.2.2.symm) S2 S hfree;have next:∀a' w',AI P G ((st2.add (Ck P o)).put o.dst e) a' w'->IK P G ops E st00 es (listed.setIfInBounds i true) a' w':=fun a' w' hs'=>by
     refine⟨by simpa using inv.siz,fun j oj hj hl e' he' hb'=>?_,(st2.add (Ck P o)).put o.dst e,?_,fun x=>⟨fun hx=>?_,fun hx=>?_⟩,fun x=>⟨fun hx=>?_,fun hx=>?_⟩,hs'⟩
     ·rcases EL hl with rfl|hl
      ·rw[ho]at hj;cases hj;exact DP (hafter e' he' hb')
      ·exact DP (inv.clo j oj hj hl e' he' hb')
     ·have:=DD.put (st2.add (Ck P o)) o.dst e;exact⟨this.2.1.trans tw.1,this.2.2.1.trans tw.2.1,this.2.2.2.trans tw.2.2⟩
     ·rw[(DD.put (st2.add (Ck P o)) o.dst e).1]at hx;rcases Ad4.1 hx with hx|hx
      ·exact .inr (.inl ⟨i,o,ho,GT hilt,x,hx,(hself x hx).symm⟩)
      ·rcases(hO x).1 hx with h|⟨j,oj,hj,hl,z,hz,h⟩|⟨z,hz,h⟩
       ·exact .inl h
       ·exact .inr (.inl ⟨j,oj,hj,DP hl,z,hz,by rw[h,hcong]⟩)
       ·exact .inr (.inr ⟨z,hz,by rw[h,hcong]⟩)
     ·rw[(DD.put (st2.add (Ck P o)) o.dst e).1];rcases hx with h|⟨j,oj,hj,hl,z,hz,h⟩|⟨z,hz,h⟩
      ·exact AdS _ ((hO x).2 (.inl h))
      rotate_left
      ·exact AdS _ ((hO x).2 (.inr (.inr ⟨z,hz,by rw[h,hcong]⟩)))
      ·rcases EL hl with rfl|hl'
       ·rw[ho]at hj;cases hj;rw[hself z hz]at h;rw[h];exact List.mem_append_left _ hz
       ·exact AdS _ ((hO x).2 (.inr (.inl ⟨j,oj,hj,hl',z,hz,by rw[h,hcong]⟩)))
     ·rcases Lf hx with ⟨hm,hne⟩|⟨hd,he⟩
      ·rcases(hT x).1 hm with ⟨h1,h2⟩|⟨j,oj,hj,hl,hd,he⟩
       ·refine .inl ⟨h1,fun j oj hj hl=>?_⟩;rcases EL hl with rfl|hl'
        ·rw[ho]at hj;cases hj;exact hne
        ·exact h2 j oj hj hl'
       ·exact .inr ⟨j,oj,hj,DP hl,hd,he⟩
      ·exact .inr ⟨i,o,ho,GT hilt,hd,by rw[hes,he]⟩
     ·rcases hx with ⟨h1,h2⟩|⟨j,oj,hj,hl,hd,he⟩
      ·refine HT (st:=st2.add (Ck P o)) ((hT x).2 (.inl ⟨h1,fun j oj hj hl=>h2 j oj hj (DP hl)⟩)) (h2 i o ho (GT hilt)) (fun t ht=>noG x h1 i o t ho ht)
      ·rcases EL hl with rfl|hl'
       ·rw[ho]at hj;cases hj;rw[hes]at he;injection he with he;rw[hd];obtain⟨x1,x2⟩:=x;simp only at he hd ⊢;rw[he];exact JB
       ·have hne:j≠i:=fun e=>by subst e;rw[hunl]at hl';cases hl'
        refine HT (st:=st2.add (Ck P o)) ((hT x).2 (.inr ⟨j,oj,hj,hl',hd,he⟩)) (c2 j oj _ hne (taken (hpre j hl') hj) hd).1 (fun t ht=>?_);cases hby:x.2.by t with
        |false=>rfl
        |true =>
          exfalso;obtain⟨stj,psj,ej,hstepj,hesj,_⟩:=hat j oj (taken (hpre j hl') hj);rw[he]at hesj;injection hesj with hesj;have hgs:=S5 hstepj t (by rw[<- hesj];exact hby);obtain⟨d1,d2⟩:=hchk' j oj (taken (hpre j hl') hj);obtain⟨_,f2,f3⟩:=d2 i o t (fun e=>hne e.symm) (taken hik ho) ht;have hlt:=f3 hgs;have:=f2 (AdS _ hgs);rw[if_pos hlt]at this;obtain⟨e',he',hb',hon⟩:=IJ this;have:=inv.clo j oj hj hl' e' he' hb';rw[hon,hunl]at this;cases this
    exact⟨fun hw=>MG (k1 hw) next,fun hw=>next _ _ (k2 hw)⟩
   have main : ∀(fuel:Nat) (listed : Array Bool) (a : Act) (w : World), IK P G ops E st00 es listed a w->(∀i, listed.getD i false = true->i<k) ->
     DE ops.size listed<=fuel->wpAnyIn (W ro) n P .any ops Q fuel listed a w:=by
    intro fuel;have phase2:∀(fuel:Nat) (listed:Array Bool) (a:Act) (w:World),IK P G ops E st00 es listed a w->(∀i,listed.getD i false=true->i<k)->(∀i,i<k->i<ops.size->listed.getD i false=true)->DE ops.size listed<=fuel->wpAnyIn (W ro) n P .any ops Q fuel listed a w:=by
     intro fuel listed a w inv hpre hall hcount;obtain⟨st2,tw,hO,hT,env,M,X,S⟩:=inv.sat;have hcg:∀z:Nat×Al,BR ops es (fun j=>decide (j<k)) z=BR ops es (fun j=>listed.getD j false) z:=fun z=>II fun js hjs=>by
      obtain⟨o',t',x',ho',_⟩:=FZ hjs
      by_cases hk':js<k
      ·rw[decide_eq_true hk',hall js hk' (Ady.1 ho').1]
      ·rw[decide_eq_false hk'];cases hl:listed.getD js false with
       |false=>rfl
       |true=>exact absurd (hpre js hl) hk'
     have hsat:AI P G { stF with own:=(GQ P (ops.toList.take k)).map (BR ops es fun j=>decide (j<k))++stf.own.map (HS ops es fun j=>decide (j<k)) } a w:=by
      refine⟨env,M,X,S.sub (fun x hx=>(hT x).2 ?_) (fun x hx=>(hO x).2 ?_) ?_ (twF.2.1.trans tw.1.symm) (twF.2.2.2.trans tw.2.2.symm)⟩;rotate_left
      ·rcases Ad4.1 hx with hx|hx
       ·obtain⟨z,hz,rfl⟩:=Ado.1 hx;obtain⟨j,oj,h1,h2⟩:=S6 hz;obtain⟨hjk,hj⟩:=untake h1;exact .inr (.inl ⟨j,oj,hj,hall j hjk (Ady.1 hj).1,z,h2,hcg z⟩)
       ·obtain⟨z,hz,rfl⟩:=Ado.1 hx;unfold HS;split
        ·rename_i hc;exact .inr (.inr ⟨z,(hEm z).2 ⟨hz,hc⟩,hcg z⟩)
        ·rename_i hc;exact .inl ((h0O z).2 ⟨hz,by simpa using hc⟩)
      ·have hfst : ∀q x, (HS ops es q x).1 = x.1 :=fun q x =>by
        unfold HS;split
        ·exact Ga _ _ _ x
        ·rfl
       simp only[List.map_append];rw[show((GQ P (ops.toList.take k)).map (BR ops es fun j=>decide (j<k))).map (·.1)=Fe P (ops.toList.take k)by
        rw[Aew,<- S7];exact AeI fun x _=>Ga _ _ _ x,show(stf.own.map (HS ops es fun j=>decide (j<k))).map (·.1)=stf.own.map (·.1)by
        rw[Aew];exact AeI fun x _=>hfst _ x]
       refine List.nodup_append.2 ⟨hnda,hndf,fun a ha b hb e=>?_⟩;subst e;obtain⟨h1,_⟩:=MF hac a ha;obtain⟨y,hy,rfl⟩:=Ado.1 hb;exact(Ho (k':=y.1) (o:=y.2) h1 hy).1 rfl
      rcases hF x hx with ⟨h1,h2⟩|⟨j,oj,h1,h2,h3⟩
      ·exact .inl ⟨h1,fun j oj hj hl=>h2 j oj (taken (hpre j hl) hj)⟩
      ·obtain⟨hjk,hj⟩:=untake h1;exact .inr ⟨j,oj,hj,hall j hjk (Ady.1 hj).1,h2,h3⟩
     rcases Nat.le_total k ops.size with hks|hks
     ·exact S8 hG hC hK hsuf (fun z hz=>⟨(hZ z hz).1,(hZ z hz).2.1⟩) fuel k listed { stF with own:=(GQ P (ops.toList.take k)).map (BR ops es fun j=>decide (j<k))++stf.own.map (HS ops es fun j=>decide (j<k)) } a w (Adp _) hks inv.siz (fun i hi=>⟨hpre i,fun h=>hall i h hi⟩) inv.clo hKF hsat hcount
     ·refine S8 hG hC hK (k:=ops.size) (Z:=[]) ?_ (fun z hz=>by cases hz) fuel ops.size listed { stF with own:=(GQ P (ops.toList.take k)).map (BR ops es fun j=>decide (j<k))++stf.own.map (HS ops es fun j=>decide (j<k)) } a w (Adp _) (Adp _) inv.siz (fun i hi=>⟨fun _=>hi,fun h=>hall i (by omega) hi⟩) inv.clo ?_ hsat hcount
      ·refine Ad0.2 fun j hj=>?_;have:=Adz.1 hj;simp at this;simp[this]
      ·have e1:ops.toList.drop k = []:=List.drop_eq_nil_of_le (by simpa using hks);have e2:ops.toList.drop ops.size = []:=by simp
       rw[e2];rw[e1]at hKF;exact hKF
    induction fuel with
    |zero =>
      intro listed a w inv hpre hcount;refine phase2 0 listed a w inv hpre (fun i _ hi=>?_) hcount;cases hli:listed.getD i false with
      |true=>rfl
      |false =>
        exfalso;have:i∈(Adu ops.size).filter fun i=>!listed.getD i false:=Adn.2 ⟨Adz.2 hi,by rw[hli];rfl⟩;have:=List.length_pos_of_mem this;unfold DE at hcount;omega
    |succ fuel ih =>
      intro listed a w inv hpre hcount
      by_cases hall:∀i,i<k->i<ops.size->listed.getD i false=true
      ·exact phase2 _ listed a w inv hpre hall hcount
      by_cases hz:∃z oz,z∈Z/\ops[z]? = some oz/\listed.getD z false=false/\∀e,e∈oz.after->Region.binds .any e=true->listed.getD e.on false=true
      ·obtain⟨z,oz,hzZ,ho,hun,haft⟩:=hz;obtain⟨z1,z2,z3,z4⟩:=hZ z hzZ;have hilt:z<listed.size:=by rw[inv.siz];exact z2
       obtain⟨d,s,hmv⟩:∃d s,F9 oz=some (d,s):=by
        have h3:=z3;unfold JA at h3;rw[ho]at h3;simp only at h3;split at h3
        ·rename_i d s hm;exact⟨d,s,hm⟩
        ·cases h3
       have hlt:=HU (n:=ops.size) z2 hilt hun;obtain⟨u,hrun,inv'⟩:=S9 ((step listed a w inv hpre z oz z1 ho hun haft).1 (OP hmv)) hmv;exact OS ho hmv z3 z4 hQ fuel listed a w (by
        rw[LS,rK hilt]at hun ⊢;exact hun) haft hrun (ih _ _ w inv' (fun m hm=>by
         rcases EL hm with rfl|hm
         ·exact z1
         ·exact hpre m hm) (by omega))
      refine⟨fun hr=>(hall ?_).elim,fun i hi=>?_⟩
      ·intro i
       induction i using Nat.strongRecOn with
       |_ i ih2 =>
         intro hik hi;cases hli:listed.getD i false with
         |true=>rfl
         |false =>
           exfalso;have hc:=(hchk' i ops[i] (taken hik (rK hi))).1;have hmem:i∈Region.ready .any ops listed:=mem_ready.2 ⟨by
            have:i<listed.size:=by rw[inv.siz];exact hi
            rw[LS,rK this]at hli ⊢;exact hli,ops[i],rK hi,fun e he hb=>by
             have:=hc e he hb;exact ih2 e.on (by omega) (by omega) (by omega)⟩
           rw[hr]at hmem;cases hmem
      obtain⟨h0,o,ho,hafter⟩:=mem_ready.1 hi;have hisz:=(Ady.1 ho).1;have hilt:i<listed.size:=by rw[inv.siz];exact hisz
      have hunl:listed.getD i false=false:=by
       rw[LS,rK hilt]at h0 ⊢;exact h0
      have hik:i<k:=by
       rcases AdX i k with h|h
       ·exact h
       ·exfalso;have hs1:Hs Z ops.toList i=true:=by
         have:=Ad0.1 hsuf i (Adz.2 (by simpa using hisz));simpa[show ¬ i<k by omega]using this
        refine hall fun m=>?_
        induction m using Nat.strongRecOn with
        |_ m ih2 =>
          intro hmk hms
          by_cases hmZ:m∈Z
          ·cases hlm:listed.getD m false with
           |true=>rfl
           |false =>
             exact absurd ⟨m,ops[m],hmZ,rK hms,hlm,fun e he hb=>by
              have:=(hchk' m ops[m] (taken hmk (rK hms))).1 e he hb;exact ih2 e.on this (by omega) (by omega)⟩ hz
          ·exact kN inv.clo ho hs1 hafter m (by omega) hmZ
      obtain⟨k1,k2⟩:=step listed a w inv hpre i o hik ho hunl hafter;have hcount':DE ops.size (listed.setIfInBounds i true)<=fuel:=by have:=HU (n:=ops.size) hisz hilt hunl;omega
      have next:∀a' w',IK P G ops E st00 es (listed.setIfInBounds i true) a' w'->wpAnyIn (W ro) n P .any ops Q fuel (listed.setIfInBounds i true) a' w':=fun a' w' inv' =>
       ih _ a' w' inv' (fun m hm=>by
        rcases EL hm with rfl|hm
        ·exact hik
        ·exact hpre m hm) hcount'
      unfold wpOpIn;rw[ho];simp only;split
      ·rename_i hw;have:=k1 hw;refine MD (N:=wpAnyIn (W ro) n P .any ops Q fuel (listed.setIfInBounds i true)) ?_;obtain⟨l1,l2⟩:=this;refine⟨l1,?_⟩;rcases l2 with ⟨u,w',hr,hk⟩|⟨w',hr,hk⟩|⟨f,args,w',hr,hk⟩|⟨l,f,tmps,assign,body,w',hr,hk⟩
       ·exact .inl ⟨u,w',hr,next _ _ hk⟩
       ·exact .inr (.inl ⟨w',hr,next _ _ hk⟩)
       ·exact .inr (.inr (.inl ⟨f,args,w',hr,F8 hk fun e w'' ⟨v,he,hk⟩=>⟨v,he,next _ _ hk⟩⟩))
       ·exact .inr (.inr (.inr ⟨l,f,tmps,assign,body,w',hr,Jx hk fun e w'' ⟨v,he,hk⟩=>⟨v,he,next _ _ hk⟩⟩))
      ·rename_i hw;exact⟨fun _ _=>trivial,next _ _ (k2 hw)⟩
   refine main ops.size (AdR ops.size false) a w ⟨by simp,fun j oj hj hl=>?_,stf,⟨h0yk.1.symm,h0yk.2.1.symm,h0yk.2.2.symm⟩,fun x=>⟨fun hx=>?_,fun hx=>?_⟩,fun x=>⟨fun hx=>.inl ⟨(h0T x).2 hx,fun j oj hj hl=>?_⟩,fun hx=>?_⟩,hsub⟩ (fun i hi=>?_) ?_
   ·have hj':=(Ady.1 hj).1;simp[LS,hj']at hl
   ·by_cases hc:(GR ops x.1&&J9 x.2)=true
    ·exact .inr (.inr ⟨x, (hEm x).2 ⟨hx, hc⟩, (Le fun j hj =>by
     obtain⟨o',t',x',ho',_⟩:=FZ hj;have hj':=(Ady.1 ho').1;simp[LS,hj']).symm⟩)
    ·exact .inl ((h0O x).2 ⟨hx,by simpa using hc⟩)
   ·rcases hx with h1|⟨j,oj,hj,hl,_,_,_⟩|⟨y,hy,rfl⟩
    ·exact((h0O x).1 h1).1
    ·have hj':=(Ady.1 hj).1;simp[LS,hj']at hl
    ·rw[Le fun j hj =>by
      obtain⟨o',t',x',ho',_⟩:=FZ hj;have hj':=(Ady.1 ho').1;simp[LS,hj']]
     exact((hEm y).1 hy).1
   ·have hj':=(Ady.1 hj).1;simp[LS,hj']at hl
   ·rcases hx with ⟨h1,_⟩|⟨j,oj,hj,hl,_⟩
    ·exact(h0T x).1 h1
    ·have hj':=(Ady.1 hj).1;simp[LS,hj']at hl
   ·rcases AdX i ops.size with hlt|hge
    ·simp[LS,hlt]at hi
    ·simp[LS,show ¬ i<ops.size by omega]at hi
   ·exact Nat.le_trans (List.length_filter_le _ _) (by simp)
  ·exact h.elim
 ·exact h.elim
theorem kS (hG:Bp G) {C:Aj} (hC:Ee P G C) {ro:Option Nat} {n:Nat} {ops:Array Oper} {Q:Exit->Act->World->Prop} {K:St->Prop} (hK:∀st a w,K st->AI P G st a w->Q .normal a w)
  {st:St} (h:M9 P C ops st K) {a:Act} {w:World} (hs:AI P G st a w):wpAnyIn (W ro) n P .any ops Q ops.size (AdR ops.size false) a w :=
 MI (Q':=fun e a w=>(∀c,e ≠ .panic c)/\Q e a w) (fun _ _ _ h=>h.2) _ _ _ _
  (kR hG hC (fun st a w h hs=>⟨fun _ h=>(by cases h),hK st a w h hs⟩) (fun c _ _ h=>h.1 c rfl) h hs)
end
end Go.SE
