/- A symbolic walk over the model, and what it shows of functions of the program: parts of the proof that the text of the row joins. -/
import Derived.Test.YtijidjjfkahojaaGreatE2
import Derived.OrdersIn
open List renaming getD_eq_getElem?_getD->AS,getElem?_eq_getElem->oE,mem_filter->Afh,mem_map->Afi,all_eq_true->Afj,mem_cons->Afk,mem_range->Afl,range->Afm,mem_singleton->Afr,mem_append->Afz,getElem_mem->Af3,getElem_of_mem->Af9,length_append->AfK,mem_append_right->AfL,eq_nil_of_length_eq_zero->AfM,mem_of_getElem?->Agb,any_eq_true->Ag5,map_map->Ag7,map_congr_left->AgE,length_take->AgU
open Array renaming getD_eq_getD_getElem?->LS,getElem?_eq_getElem->rN,getElem?_eq_some_iff->Afv,ext'->AfC,replicate->AfR,all_eq_true_iff_forall_mem->Agl,getElem?_setIfInBounds->Agq,getElem?_eq_none->Ag6
open Bool renaming and_eq_true->nT,not_eq_true'->AfA,or_eq_true->AfE,or_eq_false_iff->Age
open Nat renaming le_refl->Afo,lt_of_lt_of_le->Afp,mul_le_mul_right->Af0,add_mul->AfG,lt_or_ge->AfP,eq_zero_or_pos->AgB,add_zero->AgD,mod_eq_of_lt->AgT
open Prod.mk renaming injEq->Afx
open Option renaming getD_some->AfJ
open Option.some renaming injEq->Agf
namespace Go.SE
open Go.RowKit
section
variable {P:Program} {M:Nat->Prop} {w:World} {G:Bn} {st:St} {a:Act} {env:As} {X:Nat->Prop}
theorem Sw {o:Oper} {f:Operand} {args:Array Operand} {ts:Array TypeId} (ho:o.op=.call { callee:=.value f,args:=args,argTypes:=ts }) {g:Nat} {first caps:Array Value} (hf:a.eval f=.func (.func g) first caps) (hg:Ao P g) :
  (execOp a.eval o).run P w=.ok (.enter g (first++args.map a.eval++caps)) w:=by
 simp only[execOp,ho,resolve,hf,Deferred.ofValue,Sem.run_bind,Sem.run_pure,Result.andThen_ok,invoke];rw[hg]
theorem IU {o:Oper} {f:Operand} {args:Array Operand} {ts:Array TypeId} (ho:o.op=.call { callee:=.value f,args:=args,argTypes:=ts }) {g:Nat} {caps:Array Value} (hf:a.eval f=.func (.func g) #[] caps) (hg:Ao P g) :
  (execOp a.eval o).run P w=.ok (.enter g (args.map a.eval++caps)) w:=by
 simp only[execOp,ho,resolve,hf,Deferred.ofValue,Sem.run_bind,Sem.run_pure,Result.andThen_ok,invoke];rw[hg];simp
theorem Sx {ρ:Operand->Option EV} (hρ:∀x e,ρ x=some e->Ar P M w env e (a.eval x)):∀{xs:List Operand} {ss:List SV},KI ρ xs=some ss->Bk M w ss (xs.map a.eval)
 |[],ss,h=>by simp only[KI]at h;cases h;exact⟨rfl,fun i hi=>by simp at hi⟩
 |x::xs,ss,h=>by
   simp only[KI]at h;split at h
   ·rename_i s ss' hx hs;cases h;have ih:=Sx hρ hs;have h1:=hρ _ _ hx;rcases h1 with ⟨h1⟩;refine⟨by simpa using ih.1,fun i hi=>?_⟩;cases i with
    |zero=>simpa[SV.at]using h1
    |succ i=>simpa[SV.at]using ih.2 i (by simpa using hi)
   ·cases h
theorem mP (hG:Bq G) (S:Am P G st a w env M X) {t e:TypeId} {y:Ty} (hu:P.underlying t=some (.slice e)) (hy:Bh P e=some y) {len:Nat} {parts:Array (Nat×Operand)} {l:List (Nat×SV)} {ρ:Operand->Option EV}
  (hρ:∀x e,ρ x=some e->Ar P M w env e (a.eval x)) (hl:HV ρ parts.toList=some l) {cs:List SV}
  (hcs:F7 (fun i=>some (i*y.size,y.size)) ((Afm (len*y.size)).map fun k=>Cj (y.zero.cells.getD (k % y.size) undef)) l=some cs)
  (hc:len*y.size<=16777216/\0<y.size/\y.zero.cells.size=y.size/\cs.all (fun s=>CS (.p s))) :
  ∃v w' M' X',(Instr.buildSlice t len (parts.map fun(i,x)=>(i,a.eval x))).run P w=.ok v w'/\Am P G st a w' env M' X'/\Au M' w' (.sl y.size len (if len=1 then fun _=>cs else BX cs y.size)) v:=by
 obtain⟨hle,hsz,hzs,hone⟩:=hc;obtain⟨q1,q2⟩:=Ma (P:=P) (env:=env) hρ _ _ hl;obtain⟨cells,r1,r2⟩:=LZ (M:=M) (w:=w) (fun i=>some (i*y.size,y.size)) l _ q1 q2 _ _ ((Afm (len*y.size)).map fun k=>y.zero.cells.getD (k % y.size) undef) (by
  have:=GA (M:=M) (w:=w) ((Afm (len*y.size)).map fun k=>y.zero.cells.getD (k % y.size) undef);rw[Ag7]at this;exact this) hcs
 have h1:∀v,v∈cells->v.oneCell'=true:=fun v hv=>by
  obtain⟨i,hi,rfl⟩:=Af9 hv;have hi':i<cs.length:=by have:=r2.1;omega
  have a1:CS (.p cs[i])=true:=Afj.1 hone _ (Af3 hi');have a2:=r2.2 i hi';rw[show SV.at cs i=cs[i]by simp[SV.at,AS,hi']]at a2;rw[AS,oE hi,AfJ]at a2;exact KU a1 a2
 have hcl:cs.length=len*y.size:=by
  have:∀(pl:Nat->Option (Nat×Nat)) (ps:List (Nat×SV)) (c0 c1:List SV),F7 pl c0 ps=some c1->c1.length=c0.length:=by
   intro pl ps
   induction ps with
   |nil=>intro c0 c1 h;simp[F7]at h;rw[h]
   |cons p ps ih =>
     intro c0 c1 h;obtain⟨i,s⟩:=p;simp only[F7]at h;split at h
     ·cases h
     ·split at h
      ·rw[ih _ _ h,Mp]
      ·cases h
  rw[this _ _ _ _ hcs];simp
 have hmax:len<=maxLen:=by
  have:len<=len*y.size:=Nat.le_mul_of_pos_right len hsz;unfold maxLen;omega
 have hrun:=RI (P:=P) (w:=w) hu hy hle hzs (parts:=parts.map fun(i,x)=>(i,a.eval x)) (cells:=cells) (by rw[<- r1];simp);obtain⟨M',X',S',hden⟩:=RL hG S (e:=e) r2 h1 hcl hmax;refine⟨_,_,M',X',hrun,S',?_⟩;split
 ·rename_i hl1;subst hl1;refine hden.congr_sl (fun i hi=>?_);have:i=0:=by omega
  subst this;simp only[BX,Nat.zero_mul,List.drop_zero];rw[List.take_of_length_le (by omega)]
 ·exact hden
theorem MA {gd:Option (Nat×Bool×Bool)} {dst:Option Nat} {p:Prop} {K:St->Prop} (h:KK st gd dst p K) (hh:C6 gd):p:=by
 cases gd with
 |none=>exact h
 |some g=>obtain⟨q,c,b⟩:=g;exact h.1 hh
theorem Sy {k:IntKind}:∀{l:List Value},KG k l=true->∀j,j<l.length->l.getD j undef=.int k 0
 |[],_,j,hj=>by simp at hj
 |v::l,h,j,hj=>by
   cases v with
   |int k' z =>
     simp only[KG,nT,decide_eq_true_eq]at h;obtain⟨⟨rfl,rfl⟩,h⟩:=h;cases j with
     |zero=>rfl
     |succ j=>simpa using Sy h j (by simpa using hj)
   |_=>simp[KG]at h
theorem mQ (hG:Bq G) (S:Am P G st a w env M X) {t:TypeId} {y:Ty} {d:Nat} {gd:Option (Nat×Bool×Bool)} (hdn:d<st.nt) {K:St->Prop} (h:Mf P t y st d gd K) :
  ∃st',K st'/\AQ P G st' (a.put (some d) (.pointer (some ⟨w.heap.size,0,none⟩))) (w.alloc (.cells y.zero.cells t)):=by
 unfold Mf at h;split at h
 ·rename_i n e hu;split at h
  ·rename_i k hk;split at h
   ·rename_i hc;obtain⟨⟨hz,hn,hi⟩,hno⟩:=hc;have hat:∀j,j<n->y.zero.cells.getD j undef=.int k 0:=fun j hj=>by
     have:=Sy hi j (by simpa[hz]using hj);rwa[AS,Array.getElem?_toList,<- LS]at this
    obtain⟨env',X',h2,h3⟩:=Ms hG S hdn hno (e:=t) (cur:=y.zero.cells) (n:=n) (cap:=n) (sz:=1) (get:=fun _=>[.int k 0]) (by omega) (Afo _) (by unfold maxLen;omega) (fun i hi=>rfl) (fun i hi j hj=>by
     obtain rfl:j=0:=by omega
     rw[show i*1+0=i by omega,hat i hi];exact⟨rfl,.int k 0⟩)
    have h4:env'.at_ d=some w.heap.size:=by
     obtain⟨_,_,h5⟩:=h2.own d _ List.mem_cons_self;rcases h5 with ⟨_,h5,_⟩|⟨g,cap,cur,h6,h5,_⟩
     ·rw[h3]at h5;cases h5
     ·rw[h3]at h5;cases h5;exact h6
    exact⟨_,h,env',M,X',h2.put0 (by intro t' ht;cases ht;exact hdn) (.rptr (i:=0) (sz:=1) (off:=0) h4)⟩
   ·exact h.elim
  ·exact h.elim
 ·exact h.elim
theorem Am.reown (S:Am P G st a w env M X) {k:Nat} {o0 o:Aq} (hk:(k,o0)∈st.own) (ho:B8 P M w env k o):Am P G { st with own:=Ck st.own k o } a w env M X:=by
 refine⟨S.gam,S.mx,?_,?_,?_,by simp only[J6];exact S.nod,S.mlt,S.xlt,S.siz,S.tmp,S.grd,?_,S.dno⟩
 ·intro k' o' h;rcases DJ h with ⟨rfl,rfl,_⟩|⟨_,h⟩
  ·exact ho
  ·exact S.own _ _ h
 ·intro k' o' h g' hg';rcases DJ h with ⟨rfl,rfl,o'',h''⟩|⟨_,h⟩
  ·exact S.oat _ _ h'' g' hg'
  ·exact S.oat _ _ h g' hg'
 ·intro k1 o1 k2 o2 h1 h2 hne g' hg1;have e1:∃o,(k1,o)∈st.own:=by rcases DJ h1 with ⟨rfl,_,o'',h''⟩|⟨_,h⟩;exact⟨_,h''⟩;exact⟨_,h⟩
  have e2:∃o,(k2,o)∈st.own:=by rcases DJ h2 with ⟨rfl,_,o'',h''⟩|⟨_,h⟩;exact⟨_,h''⟩;exact⟨_,h⟩
  obtain⟨_,e1⟩:=e1;obtain⟨_,e2⟩:=e2;exact S.inj _ _ _ _ e1 e2 hne g' hg1
 ·intro d hd;obtain⟨D,e,h1,h2,h3,h4⟩:=S.dfr d hd;refine⟨D,e,h1,h2,h3,?_⟩;intro k' o' h;rcases DJ h with ⟨rfl,_,o'',h''⟩|⟨_,h⟩
  ·exact h4 _ _ h''
  ·exact h4 _ _ h
theorem mR (hG:Bq G) (S:Am P G st a w env M X) {t:TypeId} {e:EV} {K:St->Prop} (h:Oy P st t e K) {v:Value} (hv:Ar P M w env e v) (ty:TypeId) :
  ∃w',(Builtin.clear_ #[t] ty #[v]).run P w=.ok (.tuple #[]) w'/\∃st',K st'/\AQ P G st' (a.put none (.tuple #[])) w':=by
 unfold Oy at h;split at h
 ·rename_i el r sz lo n hu;split at h
  ·rename_i y e' sz' n' get hy hl;split at h
   ·rename_i hc;obtain⟨rfl,rfl,hsz,hzs,hone⟩:=hc;obtain⟨hp,hk⟩:=Bz h;have hle:=Ax hp;obtain⟨i,hi,hz,hs,hby,_⟩:=CP hy;have hmem:=Bp hl;obtain⟨hm,hgl,hO⟩:=S.own _ _ hmem;cases hv with
    |rsub A cap hcap hmx hA =>
    by_cases hn:n=0
    ·subst hn;refine⟨w,?_,_,hk,env,M,X,S.reown hmem ?_⟩
     ·cases A<;>simp[Builtin.clear_,run_underlying hu]
     ·have : KM lo 0 (y.zero.cells.toList.map Cj) get = get :=by
       funext i;unfold KM;rw[if_neg (by omega)]
      rw[this];exact⟨hm,hgl,hO⟩
    ·obtain⟨g,hg,rfl⟩:=hA (by omega);rcases hO with ⟨hno,_⟩|⟨g',cap',cur,hg',hrv,hh,hnc,hcm,hcs,hd⟩
     ·rw[hno]at hg;cases hg
     rw[hg]at hg';cases hg';have hzl:(Builtin.zeroCells y.zero.cells n).toList.length=n*y.size:=by simp[size_zeroCells,hzs]
     have hzc:∀k,k<n*y.size->(Builtin.zeroCells y.zero.cells n).toList.getD k undef=y.zero.cells.getD (k % y.size) undef:=fun k hk'=>by
      have hmod:k % y.size<y.zero.cells.size:=by rw[hzs];exact Nat.mod_lt _ hsz
      simp only[Builtin.zeroCells,AS,LS];simp[hk',hzs,getElem!_pos y.zero.cells (k % y.size) hmod];rw[rN hmod];rfl
     have hz1:∀j,j<y.size->(y.zero.cells.getD j undef).oneCell'=true:=fun j hj=>by
      have hj':j<y.zero.cells.size:=by omega
      have:=Array.all_eq_true.1 hone j hj';simpa[LS,rN hj']using this
     have h1:∀u,u∈(Builtin.zeroCells y.zero.cells n).toList->u.oneCell'=true:=fun u hu'=>by
      obtain⟨k,hk',rfl⟩:=Af9 hu';have:=hzc k (by omega);rw[AS,oE hk',AfJ]at this;rw[this];exact hz1 _ (Nat.mod_lt _ hsz)
     obtain⟨zs,ezs⟩:∃zs,(Builtin.zeroCells y.zero.cells n).toList=zs:=⟨_,rfl⟩;rw[ezs]at hzl hzc h1;have hfit:lo*y.size+n*y.size<=cur.size:=by
      rw[hcs,<- AfG];exact Af0 _ (by omega)
     have hst:=run_storeCells_at P g (lo*y.size) e' zs 0 cur w hh (by omega) h1;simp only[AgD]at hst;obtain⟨hss,hsz'⟩:=IP (w:=w) (g:=g) (cur.toList.take (lo*y.size)++zs++cur.toList.drop (lo*y.size+zs.length)).toArray;have hl':Bg M M w (w.setRow g (cur.toList.take (lo*y.size)++zs++cur.toList.drop (lo*y.size+zs.length)).toArray):=
      ⟨by omega,fun b hb=>hss.block b (S.mlt b hb) (fun e=>(S.oat _ _ hmem g hg).2.1 (e ▸ hb)),fun b hb=>hb⟩
     refine⟨_,?_,_,hk,env,M,X,S.write hG hmem hg hss hsz' ?_⟩
     ·obtain⟨n1,rfl⟩:∃n1,n=n1+1:=⟨n-1,by omega⟩;simp[Builtin.clear_,run_underlying hu,zeroValue,typeInfo,hi,hz,ezs,hst]
     ·refine⟨hm,fun j hj=>?_,.inr ⟨g,cap',_,hg,hrv,setRow_heap w g cur _ _ _ hh,hnc,hcm,by simp only[List.size_toArray,AfK,AgU,List.length_drop,Array.length_toList,hzl];omega,fun j hj k hk'=>?_⟩⟩
      ·unfold KM;split
       ·simpa using hzs
       ·exact hgl j hj
      ·unfold KM;have hjc:=Ct (sz:=y.size) (Afp hj hnc) hk';rw[IN cur _ _ (by omega) _ (by omega),hzl]
       by_cases hr:lo<=j/\j<lo+n
       ·have q1:=Af0 y.size hr.1;have q2:j*y.size+y.size<=(lo+n)*y.size:=by
         have:=Af0 y.size (show j+1<=lo+n by omega);rwa[AfG,Nat.one_mul]at this
        rw[AfG]at q2;rw[if_pos hr,if_pos (by omega),show j*y.size+k-lo*y.size=(j-lo)*y.size+k by rw[Nat.sub_mul];omega];have q3:=Ct (sz:=y.size) (i:=j-lo) (len:=n) (by omega) hk';rw[hzc _ q3,show((j-lo)*y.size+k) % y.size=k by rw[Nat.mul_comm,Nat.mul_add_mod,AgT hk']];refine⟨hz1 k hk',?_⟩;have hd':=(GA (M:=M) (w:=w.setRow g (cur.toList.take (lo*y.size)++zs++cur.toList.drop (lo*y.size+zs.length)).toArray) y.zero.cells.toList).2 k (by simp;omega);have e9:y.zero.cells.toList.getD k undef=y.zero.cells.getD k undef:=by simp[AS,LS]
        rw[e9]at hd';rw[hzl]at hd';exact hd'
       ·have hne : ¬ (lo*y.size<=j*y.size+k/\j*y.size+k<lo*y.size+n*y.size):=by
         intro hx;rcases AfP j lo with h5|h5
         ·have:=Af0 y.size (show j+1<=lo by omega);rw[AfG]at this;omega
         ·have:=Af0 y.size (show lo+n<=j by omega);rw[AfG]at this;omega
        rw[if_neg hr,if_neg hne];refine⟨(hd j hj k hk').1,?_⟩;have:=(hd j hj k hk').2.later hl';rw[hzl]at this;exact this
   ·exact h.elim
  ·exact h.elim
 ·exact h.elim
theorem mS (hG:Bq G) (S:Am P G st a w env M X) {t t':TypeId} {d:Nat} {e x:EV} {K:St->Prop} (h:Oz P st t d e x K) (hdn:d<st.nt) {v u:Value} (hv:Ar P M w env e v) (hu:Ar P M w env x u) (ty:TypeId) :
  ∃r w',(Builtin.copy_ #[t,t'] ty #[v,u]).run P w=.ok r w'/\∃st',K st'/\AQ P G st' (a.put (some d) r) w':=by
 unfold Oz at h;split at h;rotate_left
 ·exact h.elim
 rename_i el hut;split at h;rotate_left
 ·exact h.elim
 rename_i y hy;split at h;rotate_left
 ·exact h.elim
 rename_i sides m get2 r sz lo n hsl hds;split at h;rotate_left
 ·exact h.elim
 rename_i e' sz' n' get hl;split at h;rotate_left
 ·exact h.elim
 rename_i hc;obtain⟨rfl,rfl,hsz,hnm⟩:=hc;obtain⟨hp,hk⟩:=Bz h;obtain⟨hp1,hp2⟩:=all_append hp;have hlo:lo+n<=n':=hp2 _ (by simp);have hmn:m<=n:=hp2 _ (by simp);obtain⟨i,hi,hz,hs,hby,_⟩:=CP hy;have hmem:=Bp hl;obtain⟨hm,hgl,hO⟩:=S.own _ _ hmem;obtain⟨A2,cap2,news,rfl,hlen,hA2,hcell,hone,hg2,hd2⟩:=JA S hsl hp1 hu;have hmx:Nat.min m n=m:=Nat.min_eq_left hmn
 by_cases hm0:m=0
 ·subst hm0;have hsame:KN lo 0 get2 get=get:=by
   funext i;unfold KN;rw[if_neg (by omega)]
  have hnews:news = []:=AfM (by rw[hlen,Nat.zero_mul]);obtain⟨A,cap,rfl⟩:∃A cap,v=.slice A n cap:=by
   cases hv with
   |rsub A cap _ _ _=>simp[IK]at hds;obtain⟨_,_,_,rfl⟩:=hds;exact⟨A,cap,rfl⟩
   |@row r' A n0 c hrv =>
     simp only[IK]at hds;split at hds
     ·rename_i e2 sz2 n2 get3 hl2;simp only[Agf,Afx]at hds;obtain⟨rfl,rfl,rfl,rfl⟩:=hds;rw[hl]at hl2;cases hl2;rcases hO with ⟨_,hrv',hn0⟩|⟨g,cap,cur,hg,hrv',_⟩
      ·rw[hrv']at hrv;cases hrv;subst hn0;exact⟨_,_,rfl⟩
      ·rw[hrv']at hrv;cases hrv;exact⟨_,_,rfl⟩
     ·cases hds
   |_=>simp[IK]at hds
  refine⟨goInt 0,w,?_,_,hk,env,M,X,(S.reown hmem (by rw[hsame];exact⟨hm,hgl,hO⟩)).put0 (by intro t' ht;cases ht;exact hdn) (.p (.int _ _))⟩;cases A<;>cases A2<;>simp[Builtin.copy_,run_underlying hut,Builtin.lenOf,Builtin.firstCells,loadCells,loadCellsFrom,storeCells,EZ hi]
 ·obtain⟨g, cap', cur, hg, hrv, hh, hnc, hcm, hcs, hd⟩: ∃g cap' cur, env.at_ r = some g/\env.rv r = .slice (some ⟨g, 0, none⟩) n' cap'/\w.heap[g]? = some (.cells cur e' (0, 0))/\n'<=cap'/\cap'<=maxLen/\cur.size = cap'*y.size /\
    ∀i,i<n'->∀j,j<y.size->(cur.getD (i*y.size+j) undef).oneCell'=true/\Au M w (SV.at (get i) j) (cur.getD (i*y.size+j) undef):=by
   rcases hO with ⟨_,_,hn0⟩|hO
   ·omega
   ·exact hO
  have hpos:0<n:=Afp (Nat.pos_of_ne_zero hm0) hmn;clear hO;obtain⟨cap,rfl⟩:∃cap,v=.slice (some ⟨g,lo*y.size,none⟩) n cap:=by
   cases hv with
   |rsub A cap _ _ hA =>
     simp only[IK,Agf,Afx]at hds;obtain⟨rfl,rfl,rfl,rfl⟩:=hds;obtain⟨g',hg',rfl⟩:=hA hpos;rw[hg]at hg';cases hg';exact⟨cap,rfl⟩
   |@row r' A n0 c hrv' =>
     simp only[IK]at hds;split at hds
     ·rename_i e2 sz2 n2 get3 hl2;simp only[Agf,Afx]at hds;obtain⟨rfl,rfl,rfl,rfl⟩:=hds;rw[hl]at hl2;cases hl2;rw[hrv]at hrv';cases hrv';exact⟨_,by rw[Nat.zero_mul]⟩
     ·cases hds
   |_=>simp[IK]at hds
  obtain⟨a2,rfl⟩:∃a2,A2=some a2:=by
   cases A2 with
   |none=>exact absurd (hA2 rfl) hm0
   |some a2=>exact⟨a2,rfl⟩
  have hld:=run_loadCells (P:=P) w a2 (m*y.size) (fun j=>news.getD j undef) (fun j hj=>hcell a2 rfl (by omega) j _ (by rw[AS,oE (by omega)];rfl));have hnews:(Afm (m*y.size)).map (fun j=>news.getD j undef)=news:=by
   apply List.ext_getElem (by simp[hlen]);intro k h1 h2;simp[AS,h2]
  rw[hnews]at hld;have hfit:lo*y.size+m*y.size<=cur.size:=by
   rw[hcs,<- AfG];exact Af0 _ (by omega)
  have hst:=run_storeCells_at P g (lo*y.size) e' news 0 cur w hh (by omega) hone;simp only[AgD]at hst;obtain⟨hss,hsz'⟩:=IP (w:=w) (g:=g) (cur.toList.take (lo*y.size)++news++cur.toList.drop (lo*y.size+news.length)).toArray;have hl':Bg M M w (w.setRow g (cur.toList.take (lo*y.size)++news++cur.toList.drop (lo*y.size+news.length)).toArray):=
   ⟨by omega,fun b hb=>hss.block b (S.mlt b hb) (fun e=>(S.oat _ _ hmem g hg).2.1 (e ▸ hb)),fun b hb=>hb⟩
  refine⟨goInt m,_,?_,_,hk,env,M,X,(S.write hG hmem hg hss hsz' ?_).put0 (by intro t' ht;cases ht;exact hdn) (.p (.int _ _))⟩
  ·have hmin:min m n=m:=hmx;simp[Builtin.copy_,run_underlying hut,Builtin.lenOf,Builtin.firstCells,EZ hi,hs,hmin,hld,hst]
  ·refine⟨hm,fun j hj=>?_,.inr ⟨g,cap',_,hg,hrv,setRow_heap w g cur _ _ _ hh,hnc,hcm,by simp only[List.size_toArray,AfK,AgU,List.length_drop,Array.length_toList,hlen];omega,fun j hj k hk'=>?_⟩⟩
   ·unfold KN;split
    ·exact hg2 _ (by omega)
    ·exact hgl j hj
   ·unfold KN;have hjc:=Ct (sz:=y.size) (Afp hj hnc) hk';rw[IN cur _ _ (by omega) _ (by omega),hlen]
    by_cases hr:lo<=j/\j<lo+m
    ·have q1:=Af0 y.size hr.1;have q2:j*y.size+y.size<=(lo+m)*y.size:=by
      have:=Af0 y.size (show j+1<=lo+m by omega);rwa[AfG,Nat.one_mul]at this
     rw[AfG]at q2;rw[if_pos hr,if_pos (by omega),show j*y.size+k-lo*y.size=(j-lo)*y.size+k by rw[Nat.sub_mul];omega];have q3:=Ct (sz:=y.size) (i:=j-lo) (len:=m) (by omega) hk';refine⟨hone _ ?_,(hd2 (j-lo) (by omega) k hk').later (by rw[hlen]at hl';exact hl')⟩;rw[AS,oE (by omega)];exact Af3 _
    ·have hne : ¬ (lo*y.size<=j*y.size+k/\j*y.size+k<lo*y.size+m*y.size):=by
      intro hx;rcases AfP j lo with h5|h5
      ·have:=Af0 y.size (show j+1<=lo by omega);rw[AfG]at this;omega
      ·have:=Af0 y.size (show lo+m<=j by omega);rw[AfG]at this;omega
     rw[if_neg hr,if_neg hne];exact⟨(hd j hj k hk').1,(hd j hj k hk').2.later (by rw[hlen]at hl';exact hl')⟩
theorem Sz (S:Am P G st a w env M X) {d:Nat} {t:TypeId} {neg:Bool} {x y:EV} {K:St->Prop} (h:Mj P st d t neg x y K) (hd:d<st.nt) {u v:Value} (hu:Ar P M w env x u) (hv:Ar P M w env y v) (p q:Operand) :
  ∃r,((do eqGuard (if neg then .neq else .eql) t p q u v;binOp (if neg then .neq else .eql) t u v):Sem Value).run P w=.ok r w/\∃st',K st'/\AQ P G st' (a.put (some d) r) w:=by
 unfold Mj at h;split at h
 ·rename_i e sz n get hu';rcases hu with ⟨hu⟩;rcases hv with ⟨hv⟩;cases hv;cases hu with
  |sl _ _ _ A cap vs hcap hm hA hg ho hden =>
  have hE:(Op.equal t (.slice A n cap) (.slice none 0 0)).run P w=.ok A.isNone w:=by
   have:∀d,(Op.equalIn (d+1) t (.slice A n cap) (.slice none 0 0)).run P w=.ok A.isNone w:=fun d=>by
    cases A<;>simp[Op.equalIn,run_underlying hu']
   exact this 9999
  have hg0:∀op,(eqGuard op t p q (.slice A n cap) (.slice none 0 0)).run P w=.ok () w:=fun op=>by cases op<;>simp[eqGuard]
  have r1:((do eqGuard .eql t p q (.slice A n cap) (.slice none 0 0);binOp .eql t (.slice A n cap) (.slice none 0 0)):Sem Value).run P w=.ok (.bool A.isNone) w:=by
   simp only[Sem.run_bind,hg0,Result.andThen_ok,binOp,hE,Sem.run_pure]
  have r2:((do eqGuard .neq t p q (.slice A n cap) (.slice none 0 0);binOp .neq t (.slice A n cap) (.slice none 0 0)):Sem Value).run P w=.ok (.bool (!A.isNone)) w:=by
   simp only[Sem.run_bind,hg0,Result.andThen_ok,binOp,hE,Sem.run_pure]
  have h0:A.isNone=true->n=0:=fun hA'=>by
   rcases AgB n with h|h
   ·exact h
   ·obtain⟨ad,e,_⟩:=hA h;rw[e]at hA';cases hA'
  cases neg with
  |false=>exact⟨_,r1,_,h A.isNone (fun hb=>h0 hb),env,M,X,S.put0 (by intro t' ht;cases ht;exact hd) (.p (.bool _))⟩
  |true=>exact⟨_,r2,_,h (!A.isNone) (fun hb=>h0 (by simpa using hb)),env,M,X,S.put0 (by intro t' ht;cases ht;exact hd) (.p (.bool _))⟩
 ·rename_i e sz n get hu';rcases hv with ⟨hv⟩;cases hv;cases hu with
  |@full q0 _ _ _ A cap hu hq =>
  have hE:(Op.equal t (.slice A n cap) (.slice none 0 0)).run P w=.ok A.isNone w:=by
   have:∀d,(Op.equalIn (d+1) t (.slice A n cap) (.slice none 0 0)).run P w=.ok A.isNone w:=fun d=>by
    cases A<;>simp[Op.equalIn,run_underlying hu']
   exact this 9999
  have hg0:∀op,(eqGuard op t p q (.slice A n cap) (.slice none 0 0)).run P w=.ok () w:=fun op=>by cases op<;>simp[eqGuard]
  have r1:((do eqGuard .eql t p q (.slice A n cap) (.slice none 0 0);binOp .eql t (.slice A n cap) (.slice none 0 0)):Sem Value).run P w=.ok (.bool A.isNone) w:=by
   simp only[Sem.run_bind,hg0,Result.andThen_ok,binOp,hE,Sem.run_pure]
  have r2:((do eqGuard .neq t p q (.slice A n cap) (.slice none 0 0);binOp .neq t (.slice A n cap) (.slice none 0 0)):Sem Value).run P w=.ok (.bool (!A.isNone)) w:=by
   simp only[Sem.run_bind,hg0,Result.andThen_ok,binOp,hE,Sem.run_pure]
  have h0:A.isNone=decide (n=0):=by
   rcases AgB n with h|h
   ·rw[(hq.2 rfl h).1,h];rfl
   ·cases hu with
    |sl _ _ _ _ _ vs hcap hm hA hg ho hden =>
    obtain⟨ad,e,_⟩:=hA h;rw[e,decide_eq_false (Nat.ne_of_gt h)];rfl
  rw[h0]at r1 r2;cases neg with
  |false=>exact⟨_,r1,_,h,env,M,X,S.put0 (by intro t' ht;cases ht;exact hd) (.p (.bool _))⟩
  |true=>exact⟨_,r2,_,h,env,M,X,S.put0 (by intro t' ht;cases ht;exact hd) (.p (.bool _))⟩
 ·exact h.elim
theorem S5 (hG:Bq G) {C:Ak} (hC:EK P G C) (S:Am P G st a w env M X) {gd:Option (Nat×Bool×Bool)} (hgd:Ex a gd) (hh:C6 gd) {o:Oper} (hd:∀t,o.dst=some t->t<st.nt) (hq:∀q c x,gd=some (q,c,x)->o.dst≠some q)
  {K:St->Prop} (h:KO P C st gd o K) {N:Act->World->Prop} (hN:∀st' a' w',K st'->AQ P G st' a' w'->N a' w'):GD P a o w N:=by
 obtain⟨dst,op,ty,pos,after,guard⟩:=o;simp only at hd hq;unfold KO at h;simp only at h;split at h
 ·-- alloc
  rename_i t d;split at h
  ·rename_i y hy;split at h
   ·obtain⟨st',hk,hs⟩:=mQ hG S (hd _ rfl) h;refine⟨fun c hc=>by simp at hc,.inl ⟨_,_,?_,hN _ _ _ hk hs⟩⟩;simp only[execOp];exact FB (by rw[O7 hy])
   obtain⟨st',hk,hs⟩:=RC hG S hgd hh (hd _ rfl) (fun q c x hx=>hq q c x hx) h (vs:=y.zero.cells.toList) (by simp) (fun i hi=>by
    have:=IG (P:=P) (env:=env) (GA (M:=M) (w:=w) y.zero.cells.toList) i (by simpa using hi);rw[Ag7]at this;exact this)
   refine⟨fun c hc=>by simp at hc,.inl ⟨_,_,?_,hN _ _ _ hk hs⟩⟩;simp only[execOp];exact FB (by rw[O7 hy])
  ·exact h.elim
 ·-- box
  rename_i t x d;split at h
  ·rename_i e he;have hv:=Bf S hgd hh he;have hone:(BG e).all CS=true:=by
    unfold newVar at h;split at h
    ·assumption
    ·exact h.elim
   obtain⟨c1,c2⟩:=Mc hv hone;obtain⟨st',hk,hs⟩:=RC hG S hgd hh (hd _ rfl) (fun q c x hx=>hq q c x hx) h c1 c2;refine⟨fun c hc=>by simp at hc,.inl ⟨_,_,?_,hN _ _ _ hk hs⟩⟩;simp only[execOp];exact FB (by rw[RH])
  ·exact h.elim
 ·-- store
  rename_i t p x;split at h
  ·rename_i y ep ex hy hp hx;split at h
   ·rename_i ps st' hst;obtain⟨h1,h2⟩:=Bz h;obtain⟨w',hr,S'⟩:=O6 hG S hy hst h1 (Bf S hgd hh hp) (Bf S hgd hh hx);refine⟨fun c hc=>by simp at hc,.inr (.inl ⟨w',?_,hN _ _ _ h2 ⟨_,_,_,S'⟩⟩)⟩;simp only[execOp];exact KV hr
   ·exact h.elim
  ·exact h.elim
 ·-- buildSlice
  rename_i t len parts d;split at h
  ·rename_i e l hu hl;split at h
   ·rename_i y hy;split at h
    ·rename_i cs hcs;split at h
     ·rename_i hc;obtain⟨hle,hsz,hzs,hone⟩:=hc;obtain⟨q1,q2⟩:=Ma (P:=P) (env:=env) (fun x e hx=>Bf S hgd hh hx) _ _ hl;obtain⟨cells,r1,r2⟩:=LZ (M:=M) (w:=w) (fun i=>some (i*y.size,y.size)) l _ q1 q2 _ _ ((Afm (len*y.size)).map fun k=>y.zero.cells.getD (k % y.size) undef) (by
       have:=GA (M:=M) (w:=w) ((Afm (len*y.size)).map fun k=>y.zero.cells.getD (k % y.size) undef);rw[Ag7]at this;exact this) hcs
      have h1:∀v,v∈cells->v.oneCell'=true:=fun v hv=>by
       obtain⟨i,hi,rfl⟩:=Af9 hv;have hi':i<cs.length:=by have:=r2.1;omega
       have a1:CS (.p cs[i])=true:=Afj.1 hone _ (Af3 hi');have a2:=r2.2 i hi';rw[show SV.at cs i=cs[i]by simp[SV.at,AS,hi']]at a2;rw[AS,oE hi,AfJ]at a2;exact KU a1 a2
      have hcl:cs.length=len*y.size:=by
       have:∀(pl:Nat->Option (Nat×Nat)) (ps:List (Nat×SV)) (c0 c1:List SV),F7 pl c0 ps=some c1->c1.length=c0.length:=by
        intro pl ps
        induction ps with
        |nil=>intro c0 c1 h;simp[F7]at h;rw[h]
        |cons p ps ih =>
          intro c0 c1 h;obtain⟨i,s⟩:=p;simp only[F7]at h;split at h
          ·cases h
          ·split at h
           ·rw[ih _ _ h,Mp]
           ·cases h
       rw[this _ _ _ _ hcs];simp
      have hmax:len<=maxLen:=by
       have:len<=len*y.size:=Nat.le_mul_of_pos_right len hsz;unfold maxLen;omega
      have hrun:=RI (P:=P) (w:=w) hu hy hle hzs (parts:=parts.map fun(i,x)=>(i,a.eval x)) (cells:=cells) (by rw[<- r1];simp);refine⟨fun c hc=>by simp at hc,.inl ⟨_,_,by simp only[execOp];exact FB hrun,?_⟩⟩;split at h
      ·split at h
       ·split at h
        ·rename_i hn;obtain⟨env',X',S',hrv⟩:=Ms hG S (hd d rfl) hn (e:=e) (cur:=cells.toArray) (n:=len) (cap:=len) (sz:=y.size) (get:=BX cs y.size) (by have:=r2.1;simp;omega) (Afo _) hmax (fun i hi=>RJ hcl i hi) (fun i hi j hj=>by
          have:=Ct (sz:=y.size) hi hj;have hgd':(cells.toArray.getD (i*y.size+j) undef)=cells.getD (i*y.size+j) undef:=by simp[LS,AS]
          rw[hgd',RK _ _ _ _ hj];refine⟨?_,r2.2 _ (by omega)⟩;have hlen:=r2.1;rw[AS,oE (by omega)];exact h1 _ (Af3 _))
         exact hN _ _ _ h ⟨_,_,_,S'.put0 hd (.row hrv)⟩
        ·exact h.elim
       ·exact h.elim
      ·obtain⟨M',X',S',hden⟩:=RL hG S (e:=e) r2 h1 hcl hmax;refine hN _ _ _ h ⟨_,_,_,S'.putG hgd hd hq (fun _=>.p ?_) (fun hn=>absurd hh hn)⟩;split
       ·rename_i hl1;subst hl1;refine hden.congr_sl (fun i hi=>?_);have:i=0:=by omega
        subst this;simp only[BX,Nat.zero_mul,List.drop_zero];rw[List.take_of_length_le (by omega)]
       ·exact hden
     ·exact h.elim
    ·exact h.elim
   ·exact h.elim
  ·exact h.elim
 ·-- makeSlice
  rename_i t l c d;split at h
  ·rename_i e k1 n k2 m hu hl hc;split at h
   ·rename_i y hy;split at h
    ·rename_i hcd;obtain⟨hsz,hzs,hb,hone,hn⟩:=hcd;obtain⟨h1,h2⟩:=Bz h;obtain⟨p1,p2,p3⟩:=Ax h1;obtain⟨i,hi,hz,hs,hby,_⟩:=CP hy;have el:=Bf S hgd hh hl;have ec:=Bf S hgd hh hc;rcases el with ⟨el⟩;rcases ec with ⟨ec⟩;generalize hel:a.eval l=vl at el;generalize hec:a.eval c=vc at ec;cases el;cases ec;have hmb:m<=140737488355328:=by
      have:m*1<=m*(y.bytes:Int):=Int.mul_le_mul_of_nonneg_left (by omega) (by omega);omega
     have hrun:=run_make (P:=P) w t e i y.zero hu hi hz k1 k2 n m p1 p2 (by rw[hby,Int.mul_comm];omega) (by omega);rw[hs]at hrun;have hcur:∀k,k<m.toNat*y.size->(madeCells y.zero.cells (m.toNat*y.size)).getD k undef=y.zero.cells.getD (k % y.size) undef:=fun k hk=>by
      have hmod:k % y.size<y.zero.cells.size:=by rw[hzs];exact Nat.mod_lt _ hsz
      simp only[madeCells,LS];simp[hk,hzs,getElem!_pos y.zero.cells (k % y.size) hmod];rw[rN hmod];rfl
     obtain⟨env',X',S',hrv⟩:=Ms hG S (hd d rfl) hn (e:=e) (cur:=madeCells y.zero.cells (m.toNat*y.size)) (n:=n.toNat) (cap:=m.toNat) (sz:=y.size) (get:=fun _=>y.zero.cells.toList.map Cj) (size_madeCells _ _) (by omega) (by unfold maxLen;omega) (fun i hi=>by simpa using hzs) (fun i hi j hj=>by
      have:=Ct (sz:=y.size) (len:=m.toNat) (i:=i) (by omega) hj;rw[hcur _ this];have hmod:(i*y.size+j) % y.size=j:=by rw[Nat.mul_comm,Nat.mul_add_mod,AgT hj]
      rw[hmod];have hj':j<y.zero.cells.size:=by omega
      have hd':=(GA (M:=M) (w:=w) y.zero.cells.toList).2 j (by simpa using hj');rw[LS,rN hj'];rw[AS,oE (by simpa using hj')]at hd';simp only[AfJ,Array.getElem_toList]at hd' ⊢;exact⟨by have:=Array.all_eq_true.1 hone j hj';simpa using this,hd'⟩)
     refine⟨fun c hc=>by simp at hc,.inl ⟨_,_,by simp only[execOp,hel,hec];exact FB hrun,?_⟩⟩;exact hN _ _ _ h2 ⟨_,_,_,S'.put0 hd (.row hrv)⟩
    ·exact h.elim
   ·exact h.elim
  ·exact h.elim
 ·-- a new map
  rename_i t d;split at h
  ·rename_i kt e ht;split at h
   ·rename_i hn;refine⟨fun c hc=>by simp at hc,.inl ⟨_,_,?_,hN _ _ _ h (lX hG S (hd _ rfl) hn _ _ _ _)⟩⟩;simp only[execOp];exact FB rfl
   ·exact h.elim
  ·exact h.elim
 ·-- a map is written
  rename_i t m k v;split at h
  ·rename_i em ek hm hk;obtain⟨w',st',hr,hk',hs⟩:∃w' st',(Instr.mapUpdate t (a.eval m) (a.eval k) (a.eval v)).run P w=.ok () w'/\K st'/\AQ P G st' a w':=by
    split at h
    ·split at h
     ·rename_i ev hv;split at h
      ·rename_i em' ek' ev' hm' hk' hv';obtain⟨M',S'⟩:=mG S ev;exact mC hG S' h (Bf S' hgd hh hm') (Bf S' hgd hh hk') (Bf S' hgd hh hv')
      ·exact h.elim
     ·exact h.elim
    ·split at h
     ·split at h
      ·rename_i ev hv;exact mO hG S h (Bf S hgd hh hm) (Bf S hgd hh hk) (Bf S hgd hh hv)
      ·exact h.elim
     ·exact lW hG S h (Bf S hgd hh hm) (Bf S hgd hh hk) (a.eval v)
   refine⟨fun c hc=>by simp at hc,.inr (.inl ⟨w',?_,hN _ _ _ hk' (by
    obtain⟨env',M',X',S'⟩:=hs;exact⟨env',M',X',S'.put0 (d:=none) (e:=.any) (by simp) .any⟩)⟩)⟩
   simp only[execOp];exact KV hr
  ·exact h.elim
 ·-- a map is read
  rename_i t m k co d;split at h
  ·rename_i em ek hm hk;obtain⟨s,u,hr,hs,hk'⟩:∃s u,(Instr.lookup t (a.eval m) (a.eval k) co).run P w=.ok u w/\Au M w s u/\K (st.put (some d) ⟨none,.p s⟩):=by
    split at h
    ·exact mN S h (Bf S hgd hh hm) (Bf S hgd hh hk)
    ·exact mD S h (Bf S hgd hh hm) (Bf S hgd hh hk)
   refine⟨fun c hc=>by simp at hc,.inl ⟨u,w,?_,hN _ _ _ hk' ⟨env,M,X,S.put0 (fun t ht=>by cases ht;exact hd _ rfl) (.p hs)⟩⟩⟩;simp only[execOp];exact FB hr
  ·exact h.elim
 ·-- append
  rename_i args ts d;split at h
  ·rename_i s x t t' hargs hts;split at h
   ·rename_i htt;subst htt;split at h
    ·rename_i es ex hs hx;have hargs:args = #[s,x]:=by apply AfC;simpa using hargs
     have hts:ts = #[t,t]:=by apply AfC;simpa using hts
     subst hargs hts;obtain⟨v',w',hrun,st',hk,hs'⟩:=lL hG S h (hd _ rfl) (Bf S hgd hh hs) (Bf S hgd hh hx) ty;refine⟨fun c hc=>by simp at hc,.inl ⟨v',w',?_,hN _ _ _ hk hs'⟩⟩;simp[execOp,resolve,invoke,builtin,hrun]
    ·exact h.elim
   ·split at h
    ·rename_i es ex hs hx;have hargs:args = #[s,x]:=by apply AfC;simpa using hargs
     have hts:ts = #[t,t']:=by apply AfC;simpa using hts
     subst hargs hts;obtain⟨v',w',hrun,st',hk,hs'⟩:=lO hG S h (hd _ rfl) (Bf S hgd hh hs) (Bf S hgd hh hx) ty;refine⟨fun c hc=>by simp at hc,.inl ⟨v',w',?_,hN _ _ _ hk hs'⟩⟩;simp[execOp,resolve,invoke,builtin,hrun]
    ·exact h.elim
  ·exact h.elim
 ·-- clear
  rename_i args ts;split at h
  ·rename_i x t hargs hts;split at h
   ·rename_i ex hx;have hargs:args = #[x]:=by apply AfC;simpa using hargs
    have hts:ts = #[t]:=by apply AfC;simpa using hts
    subst hargs hts;obtain⟨w',hrun,st',hk,hs'⟩:=mR hG S h (Bf S hgd hh hx) ty;refine⟨fun c hc=>by simp at hc,.inl ⟨_,w',?_,hN _ _ _ hk hs'⟩⟩;simp[execOp,resolve,invoke,builtin,hrun]
   ·exact h.elim
  ·exact h.elim
 ·-- copy
  rename_i args ts dd;split at h
  ·rename_i s x t t' hargs hts;split at h
   ·rename_i es ex hs hx;have hargs:args = #[s,x]:=by apply AfC;simpa using hargs
    have hts:ts = #[t,t']:=by apply AfC;simpa using hts
    subst hargs hts;obtain⟨r,w',hrun,st',hk,hs'⟩:=mS (t':=t') hG S h (hd _ rfl) (Bf S hgd hh hs) (Bf S hgd hh hx) ty;refine⟨fun c hc=>by simp at hc,.inl ⟨r,w',?_,hN _ _ _ hk hs'⟩⟩;simp[execOp,resolve,invoke,builtin,hrun]
   ·exact h.elim
  ·exact h.elim
 ·-- against nil
  rename_i t x y q d;split at h
  ·rename_i ex ey hx hy;obtain⟨v,hrun,st',hk,hs'⟩:=Sz S h (hd _ rfl) (Bf S hgd hh hx) (Bf S hgd hh hy) x y;refine⟨fun c hc=>by simp at hc,.inl ⟨v,w,?_,hN _ _ _ hk hs'⟩⟩;simp only[execOp];exact FB hrun
  ·exact h.elim
 ·rename_i t x y q d;split at h
  ·rename_i ex ey hx hy;obtain⟨v,hrun,st',hk,hs'⟩:=Sz S h (hd _ rfl) (Bf S hgd hh hx) (Bf S hgd hh hy) x y;refine⟨fun c hc=>by simp at hc,.inl ⟨v,w,?_,hN _ _ _ hk hs'⟩⟩;simp only[execOp];exact FB hrun
  ·exact h.elim
 ·-- a method's value
  rename_i f first caps d;split at h
  ·rename_i pre res ss hf hss;split at h
   ·rename_i hcaps;have hl:=Sx (P:=P) (M:=M) (w:=w) (env:=env) (a:=a) (ρ:=st.rho none) (fun x e hx=>Bf S hgd hh hx) hss;have hcaps':caps = #[]:=Array.eq_empty_of_size_eq_zero hcaps;subst hcaps';have hfn:=lD hC.1 hf hl;refine⟨fun c hc=>by simp at hc,.inl ⟨.func (.func f) (first.toList.map a.eval).toArray #[],w,?_,hN _ _ _ h ⟨_,_,_,S.put0 (by intro t' ht;cases ht;exact hd _ rfl) (.fn hfn)⟩⟩⟩;have hfirst:first.map a.eval=(first.toList.map a.eval).toArray:=by apply AfC;simp
    simp only[execOp];exact FB (by rw[hfirst];simp[Instr.makeFunc])
   ·exact h.elim
  ·exact h.elim
 ·-- a call
  rename_i f args ts;split at h
  ·rename_i g caps ps as lent hf hargs;split at h
   ·rename_i sp hsp;rw[kF hf hsp]at hargs;obtain⟨hsok,hen⟩:=hC.1 _ _ hsp;have hfd:=Bf S hgd hh hf;rcases hfd with ⟨hfd⟩;generalize hev:a.eval f=vf at hfd;cases hfd with
    |clo _ _ cvs hcl hcd =>
    have hps:all ps:=by
     cases sp<;>simp only[FU]at h<;>have:=(Bz h).1<;>exact(all_append (FV this hh)).1
    have hA:=J8 hC.1 S (fun x e hx=>Bf S hgd hh hx) _ _ _ _ _ hargs hps (L:=lent) (fun r hr=>hr);have hA':=RN hA (RO (M':=Dp M env lent) (w:=w) (ss:=caps) (vs:=cvs) ⟨hcl,fun i hi=>(hcd i hi).weak (fun b hb=>.inl hb)⟩);have hown:=KW _ _ _ _ _ hargs;have:=lG hG S hgd hh hd hq h hA' (Mx S hown) hsok hown;refine⟨fun c hc=>by simp at hc,.inr (.inr (.inl ⟨g,_,w,IU rfl hev hen,?_⟩))⟩;have hargsEq:args.map a.eval++cvs.toArray=(args.toList.map a.eval++cvs).toArray:=by apply AfC;simp
    rw[hargsEq];exact FW this fun e w' ⟨v,he,st',hk,hs⟩=>⟨v,he,hN _ _ _ hk hs⟩
   ·split at h
    ·rename_i tr as' htr has;have h:=MA h hh;obtain⟨hT,hen⟩:=hC.2.2.2.1 g tr htr;have hfd:=Bf S hgd hh hf;rcases hfd with ⟨hfd⟩;generalize hev:a.eval f=vf at hfd;cases hfd with
     |clo _ _ cvs hcl hcd =>
     obtain⟨r1,r2⟩:=JF (P:=P) (M:=M) (w:=w) (env:=env) (a:=a) (ρ:=st.rho gd) (fun x e hx=>Bf S hgd hh hx) has;obtain⟨q1,q2⟩:=M5 r1 r2 (bs:=caps.map .p) (by simpa using hcl) (IG ⟨hcl,hcd⟩);have hc:=RZ hG S hd q1 q2 hT h hN;refine⟨fun c hc=>by simp at hc,.inr (.inr (.inl ⟨g,_,w,IU rfl hev hen,?_⟩))⟩;have hargsEq:args.map a.eval++cvs.toArray=(args.toList.map a.eval++cvs).toArray:=by apply AfC;simp
     rw[hargsEq];exact hc
    ·rename_i as' htr has;split at h
     ·rename_i mk hmk;have h:=MA h hh;obtain⟨hT,hen⟩:=hC.2.2.2.2.1 g mk hmk;have hfd:=Bf S hgd hh hf;rcases hfd with ⟨hfd⟩;generalize hev:a.eval f=vf at hfd;cases hfd with
      |clo _ _ cvs hcl hcd =>
      obtain⟨r1,r2⟩:=JF (P:=P) (M:=M) (w:=w) (env:=env) (a:=a) (ρ:=st.rho gd) (fun x e hx=>Bf S hgd hh hx) has;obtain⟨q1,q2⟩:=M5 r1 r2 (bs:=caps.map .p) (by simpa using hcl) (IG ⟨hcl,hcd⟩);have hc:=Si hG S hd q1 q2 hT h hN;refine⟨fun c hc=>by simp at hc,.inr (.inr (.inl ⟨g,_,w,IU rfl hev hen,?_⟩))⟩;have hargsEq:args.map a.eval++cvs.toArray=(args.toList.map a.eval++cvs).toArray:=by apply AfC;simp
      rw[hargsEq];exact hc
     ·exact h.elim
    ·exact h.elim
  ·-- a closure with own blocks
   rename_i g caps hf;split at h
   ·rename_i tr as htr has;have h:=MA h hh;obtain⟨hT,hen⟩:=hC.2.2.2.1 g tr htr;have hfd:=Bf S hgd hh hf;generalize hev:a.eval f=vf at hfd;cases hfd with
    |cl _ _ cvs hcl hcd =>
    obtain⟨r1,r2⟩:=JF (P:=P) (M:=M) (w:=w) (env:=env) (a:=a) (ρ:=st.rho gd) (fun x e hx=>Bf S hgd hh hx) has;obtain⟨q1,q2⟩:=M5 r1 r2 hcl hcd;have hc:=RZ hG S hd q1 q2 hT h hN;refine⟨fun c hc=>by simp at hc,.inr (.inr (.inl ⟨g,_,w,IU rfl hev hen,?_⟩))⟩;have hargsEq:args.map a.eval++cvs.toArray=(args.toList.map a.eval++cvs).toArray:=by apply AfC;simp
    rw[hargsEq];exact hc
   ·rename_i as htr has;split at h
    ·rename_i mk hmk;have h:=MA h hh;obtain⟨hT,hen⟩:=hC.2.2.2.2.1 g mk hmk;have hfd:=Bf S hgd hh hf;generalize hev:a.eval f=vf at hfd;cases hfd with
     |cl _ _ cvs hcl hcd =>
     obtain⟨r1,r2⟩:=JF (P:=P) (M:=M) (w:=w) (env:=env) (a:=a) (ρ:=st.rho gd) (fun x e hx=>Bf S hgd hh hx) has;obtain⟨q1,q2⟩:=M5 r1 r2 hcl hcd;have hc:=Si hG S hd q1 q2 hT h hN;refine⟨fun c hc=>by simp at hc,.inr (.inr (.inl ⟨g,_,w,IU rfl hev hen,?_⟩))⟩;have hargsEq:args.map a.eval++cvs.toArray=(args.toList.map a.eval++cvs).toArray:=by apply AfC;simp
     rw[hargsEq];exact hc
    ·exact h.elim
   ·exact h.elim
  ·rename_i sp ps as lent hf hargs;rw[kG hf]at hargs;split at h
   ·rename_i ss hss;have hfd:=Bf S hgd hh hf;generalize hev:a.eval f=vf at hfd;cases hfd with
    |fn hfn =>
    obtain⟨g,first,caps,rfl,hen,hcall⟩:=hfn;have hps:all ps:=by
     simp only[FU]at h;have:=(Bz h).1;exact(all_append (FV this hh)).1
    have hA:=J8 hC.1 S (fun x e hx=>Bf S hgd hh hx) _ _ _ _ _ hargs hps (L:=lent) (fun r hr=>hr);have hown:=KW _ _ _ _ _ hargs;have hlt:=Mx (env:=env) S hown
    -- the contract of the value,as a contract of 'g' at these arguments
    simp only[FU]at h;obtain⟨h1,h2⟩:=Bz h;have h1:=FV h1 hh;have hp:sp.pre ss:=by
     have:=h1 _ (Afz.2 (.inr (Afr.2 rfl)));simp only[hss]at this;exact this
    simp only[hss]at h2;have hlat:Bg M (Dp M env lent) w w:=⟨Afo _,fun _ _=>rfl,fun b hb=>.inl hb⟩;have hdl:Bk (Dp M env lent) w ss (args.toList.map a.eval):=by
     have:=IC hss;subst this;refine⟨by simpa using hA.1,fun i hi=>?_⟩;have:=(hA.2 i (by simpa using hi)).2;rw[G7 _ _ hi]at this;rcases this with ⟨this⟩;exact this
    have hc:=hcall _ w hlat hlt ss _ hdl hp;refine⟨fun c hc=>by simp at hc,.inr (.inr (.inl ⟨g,_,w,Sw rfl hev hen,?_⟩))⟩;have hargsEq:first++args.map a.eval++caps=first++(args.toList.map a.eval).toArray++caps:=by congr 2;apply AfC;simp
    rw[hargsEq];refine FW hc fun e w' hg=>?_;split at h2
    ·rename_i hL;obtain⟨v,rfl,hs⟩:=KX hG S hgd hh hd hq hL hg;exact⟨v,rfl,hN _ _ _ h2 hs⟩
    ·exact h2.elim
   ·exact h.elim
  ·-- yield
   rename_i l ps as lent hf hargs;rw[kH hf]at hargs;split at h
   ·rename_i y ss hy hss;split at h
    ·rename_i hc;simp only[nT]at hc;obtain⟨hL,hnm⟩:=hc;have hL:lent = []:=by simpa using hL
     subst hL;obtain⟨h1,h2⟩:=Bz h;obtain⟨hps,h3⟩:=all_append h1;have hly:=h3 (l=y.l) (by simp);subst hly;have hlt:=h3 (st.yk<y.cnt) (by simp);have hitem:=h3 (ss=y.item st.yk) (by simp);have hfd:=Bf S hgd hh hf;generalize hev:a.eval f=vf at hfd;cases hfd with
     |yield =>
     have hA:=J8 hC.1 S (fun x e hx=>Bf S hgd hh hx) _ _ _ _ _ hargs hps (L:=[]) (fun r hr=>hr);have hdl:Bk (fun _=>False) w ss (args.toList.map a.eval):=by
      have:=IC hss;subst this;refine⟨by simpa using hA.1,fun i hi=>?_⟩;have:=(hA.2 i (by simpa using hi)).2;rw[G7 _ _ hi]at this;rcases this with ⟨this⟩;exact Hk this (Hk.noMems_at hnm i hi)
     obtain⟨fn,tmps,assign,body,hrun,hround⟩:=hC.2.1 y hy st.yk X w _ hlt S.gam.1 S.xlt (hitem ▸ hdl);refine⟨fun c hc=>by simp at hc,.inr (.inr (.inr ⟨y.l,fn,tmps,assign,body,w,?_,J7 hround fun e w' ⟨b,he,q1,q2,q3⟩=>⟨_,he,?_⟩⟩))⟩
     ·have e1:args.map a.eval=(args.toList.map a.eval).toArray:=by apply AfC;simp
      simp only[execOp,resolve,hev,Deferred.ofValue,Sem.run_bind,Sem.run_pure,Result.andThen_ok,invoke,e1];simpa using hrun
     ·cases b with
      |true =>
        refine hN _ _ _ h2.1 ⟨env,M,X,?_⟩;exact(S.yielded q1 (fun c hc h=>q2 c hc (h.imp (fun h=>⟨rfl,h⟩) id)) q3).put0 hd (.p (.bool true))
      |false =>
        refine hN _ _ _ h2.2 ⟨env,fun _=>False,X,?_⟩;exact(S.yieldedF q1 (fun c hc h=>q2 c hc (.inr h)) q3).put0 hd (.p (.bool false))
    ·exact h.elim
   ·exact h.elim
  ·exact h.elim
 ·exact h.elim
theorem S6 {C:Ak} (S:Am P G st a w env M X) {gd:Option (Nat×Bool×Bool)} (hgd:Ex a gd) (hh:¬ C6 gd) {o:Oper} (hd:∀t,o.dst=some t->t<st.nt) (hq:∀q c x,gd=some (q,c,x)->o.dst≠some q)
  {K:St->Prop} (h:KO P C st gd o K):∃st',K st'/\AQ P G st' (a.put o.dst undef) w:=by
 have fin:∀e:EV,AQ P G (st.put o.dst ⟨gd,e⟩) (a.put o.dst undef) w:=fun e=>⟨_,_,_,S.putG hgd hd hq (fun h=>absurd h hh) (fun _=>rfl)⟩;have hsome:∃q c x,gd=some (q,c,x):=by
  cases gd with
  |none=>exact absurd trivial hh
  |some gd=>obtain⟨q,c,x⟩:=gd;exact⟨q,c,x,rfl⟩
 obtain⟨q,c,x,rfl⟩:=hsome;have hx:x=false:=by cases x;rfl;exact absurd rfl hh
 obtain⟨dst,op,ty,pos,after,guard⟩:=o;simp only at hd hq fin;unfold KO at h;simp only at h;have call:∀{sides:List Prop} {args:List EV} {L:List Nat} {sp:Spec},FU C st (some (q,c,x)) dst sides args L sp K->∃st',K st'/\AQ P G st' (a.put dst undef) w:=by
  intro sides args L sp h;cases sp with
  |fn pre res =>
    simp only[FU]at h;have h2:=(Bz h).2;split at h2
    ·exact⟨_,h2,fin _⟩
    ·exact h2.elim
  |rel T t0 pre post res =>
    simp only[FU]at h;have h2:=(Bz h).2 t0 (by simp[J4,hx]);split at h2
    ·exact⟨_,h2,fin _⟩
    ·exact h2.elim
  |fresh T t0 pre post e0 sz n get =>
    simp only[FU]at h;have h20:=(Bz h).2 t0 (by simp[J4,hx]);have h2:=(Bz h20).2;clear h20;split at h2
    ·exact⟨_,h2,fin (.p (.raw undef))⟩
    ·split at h2
     ·exact h2.elim
     ·exact⟨_,h2,fin _⟩
 split at h
 ·split at h
  ·split at h
   ·simp[Mf]at h
   unfold newVar at h;simp at h
  ·exact h.elim
 ·split at h
  ·unfold newVar at h;split at h
   ·split at h
    ·exact h.elim
    ·split at h
     ·exact⟨_,h,fin _⟩
     ·exact h.elim
   ·exact h.elim
  ·exact h.elim
 ·exact h.elim
 ·split at h
  ·split at h
   ·split at h
    ·split at h
     ·split at h
      ·exact h.elim
      ·exact⟨_,h,fin _⟩
     ·exact h.elim
    ·exact h.elim
   ·exact h.elim
  ·exact h.elim
 ·exact h.elim
 ·exact h.elim
 ·exact h.elim
 ·exact h.elim
 ·exact h.elim
 ·exact h.elim
 ·exact h.elim
 ·exact h.elim
 ·exact h.elim
 ·exact h.elim
 ·split at h
  ·split at h
   ·exact call h
   ·split at h
    ·exact⟨_,h.2 hx,fin _⟩
    ·split at h
     ·exact⟨_,h.2 hx,fin _⟩
     ·exact h.elim
    ·exact h.elim
  ·split at h
   ·exact⟨_,h.2 hx,fin _⟩
   ·split at h
    ·exact⟨_,h.2 hx,fin _⟩
    ·exact h.elim
   ·exact h.elim
  ·split at h
   ·exact call h
   ·exact h.elim
  ·exact h.elim
  ·exact h.elim
 ·exact h.elim
theorem S7 (hG:Bq G) {C:Ak} (hC:EK P G C) (S:Am P G st a w env M X) {gd:Option (Nat×Bool×Bool)} (hgd:Ex a gd) (hh:C6 gd) {o:Oper} (hd:∀t,o.dst=some t->t<st.nt) (hq:∀q c x,gd=some (q,c,x)->o.dst≠some q)
  {K:St->Prop} (h:KR P C st gd o K) {N:Act->World->Prop} (hN:∀st' a' w',K st'->AQ P G st' a' w'->N a' w'):GD P a o w N:=by
 obtain⟨dst,op,ty,pos,after,guard⟩:=o;simp only at hd hq;unfold KR at h;simp only at h;split at h
 ·rename_i t l c d;obtain⟨v,w',hr,st',hk,hs⟩:=mJ hG S (hd d rfl) h;exact⟨fun c hc=>by simp at hc,.inl ⟨v,w',by simp only[execOp];exact FB hr,hN _ _ _ hk hs⟩⟩
 ·rename_i t p x;split at h
  ·rename_i r i A hp hx;obtain⟨w',hr,st',hk,hs⟩:=mK hG S h (Bf S hgd hh hp) (Bf S hgd hh hx);obtain⟨e,M',X',S'⟩:=hs;exact⟨fun c hc=>by simp at hc,.inr (.inl ⟨w',by simp only[execOp];exact KV hr,hN _ _ _ hk ⟨e,M',X',S'⟩⟩)⟩
  ·exact h.elim
 ·rename_i f args _;split at h
  ·rename_i g bs i as hf has;split at h
   ·rename_i c hc;obtain⟨hT,hen⟩:=hC.2.2.2.2.2 g c hc;have hfd:=Bf S hgd hh hf;rcases hfd with ⟨hfd⟩;generalize hev:a.eval f=vf at hfd;cases hfd with
    |clo _ _ cvs hcl hcd =>
    obtain rfl:cvs = []:=AfM hcl;obtain⟨r1,r2⟩:=JF (P:=P) (M:=M) (w:=w) (env:=env) (a:=a) (ρ:=st.rho gd) (fun x e hx=>Bf S hgd hh hx) has;obtain⟨v0,vals,hvl⟩:∃v0 vals,args.toList.map a.eval=v0::vals:=by
     cases hx:args.toList.map a.eval with
     |nil=>rw[hx]at r1;simp at r1
     |cons v0 vals=>exact⟨v0,vals,rfl⟩
    rw[hvl]at r1 r2;have hc:=mH hG S hgd hh hd hq hT h (v0:=v0) (by have:=r2 0 (by simp);simpa[EV.at]using this) (vals:=vals) (by simpa using r1) (fun j hj=>by have:=r2 (j+1) (by simpa using hj);simpa[EV.at]using this) hN;refine⟨fun c hc=>by simp at hc,.inr (.inr (.inl ⟨g,_,w,IU rfl hev hen,?_⟩))⟩;have hargsEq:args.map a.eval++([]:List Value).toArray=(v0::vals).toArray:=by rw[<- hvl];apply AfC;simp
    rw[hargsEq];exact hc
   ·exact h.elim
  ·exact h.elim
 ·exact h.elim
theorem S8 {C:Ak} (S:Am P G st a w env M X) {gd:Option (Nat×Bool×Bool)} (hgd:Ex a gd) (hh:¬ C6 gd) {o:Oper} (hd:∀t,o.dst=some t->t<st.nt) (hq:∀q c x,gd=some (q,c,x)->o.dst≠some q)
  {K:St->Prop} (h:KR P C st gd o K):∃st',K st'/\AQ P G st' (a.put o.dst undef) w:=by
 obtain⟨dst,op,ty,pos,after,guard⟩:=o;simp only at hd hq;unfold KR at h;simp only at h;split at h
 ·exact absurd trivial hh
 ·exact absurd trivial hh
 ·split at h
  ·split at h
   ·exact mI S hgd hh hd hq h
   ·exact h.elim
  ·exact h.elim
 ·exact h.elim
theorem Ib (hG:Bq G) {C:Ak} (hC:EK P G C) {ro:Option Nat} {n:Nat} {ops:Array Oper} {Q:Exit->Act->World->Prop} {K:St->Prop} (hK:∀st a w,K st->AQ P G st a w->Q .normal a w) :
  ∀(rest:List Oper) (st:St) (a:Act) (w:World),EI P C ops rest st K->AQ P G st a w->wpListIn (W ro) n P ops Q rest a w
 |[],st,a,w,h,hs=>hK st a w h hs
 |o::rest,st,a,w,h,⟨env,M,X,S⟩=>by
   simp only[EI]at h;split at h
   ·exact h.elim
   ·rename_i gd hgd0;obtain⟨hgd,hwant⟩:=Mn S hgd0;split at h
    ·rename_i hcheck;have hd:∀t,o.dst=some t->t<st.nt:=fun t ht=>by
      rw[ht]at hcheck;cases gd with
      |none=>simpa[Fr]using hcheck
      |some g=>obtain⟨q,c,x⟩:=g;simp[Fr]at hcheck;exact hcheck.1
     have hq:∀q c x,gd=some (q,c,x)->o.dst≠some q:=fun q c x hg ht=>by
      rw[ht,hg]at hcheck;simp[Fr]at hcheck
     by_cases hw:Region.wanted o (yielded ops a.tmps)=true
     ·have hh:=hwant.1 hw;refine kU hw ?_;split at h
      ·rename_i d t x hi hcut;obtain⟨c1,c2,c3⟩:=M7 hcut;obtain⟨v,st',hr,hk,hs⟩:=Sd hG S h (hd _ c2);refine⟨fun c hc=>(by rw[c1]at hc;cases hc),.inl ⟨v,w,by simp[execOp,c1,hr],?_⟩⟩;rw[c2];exact Ib hG hC hK rest st' _ _ hk hs
      split at h
      ·exact S7 hG hC S hgd hh hd hq h (fun st' a' w' hk hs=>Ib hG hC hK rest st' a' w' hk hs)
      split at h
      ·rename_i ps e hstep;obtain⟨h1,h2⟩:=Bz h;obtain⟨u,hr,hden⟩:=KS S hgd hh hstep (FV h1 hh) o rfl;refine⟨fun c hc=>?_,.inl ⟨u,w,hr,Ib hG hC hK rest _ _ _ h2 ⟨_,_,_,S.putG hgd hd hq (fun _=>hden) (fun hn=>absurd hh hn)⟩⟩⟩;rw[hc]at hstep;simp[FS,HW]at hstep
      ·exact S5 hG hC S hgd hh hd hq h (fun st' a' w' hk hs=>Ib hG hC hK rest st' a' w' hk hs)
     ·have hh:¬ C6 gd:=fun hx=>hw (hwant.2 hx);refine kT hw ?_;split at h
      ·rename_i d t x hi hcut;obtain⟨c1,c2,c3⟩:=M7 hcut;exact absurd trivial (by rw[c3]at hh;exact hh)
      split at h
      ·obtain⟨st',hk,hs⟩:=S8 S hgd hh hd hq h;exact Ib hG hC hK rest st' _ _ hk hs
      split at h
      ·rename_i ps e hstep;obtain⟨_,h2⟩:=Bz h;exact Ib hG hC hK rest _ _ _ h2 ⟨_,_,_,S.putG hgd hd hq (fun hn=>absurd hn hh) (fun _=>rfl)⟩
      ·obtain⟨st',hk,hs⟩:=S6 S hgd hh hd hq h;exact Ib hG hC hK rest st' _ _ hk hs
    ·exact h.elim
end
section
def ON (op:Op):List Nat:=op.operands.toList.filterMap fun x=>match x with | .tmp t=>some t|_=>none
def mT:Op->List Nat
 | .call { callee:=.value (.tmp t),.. }=>[t]
 |_=>[]
def Ho (ops:Array Oper) (o:Oper):List Nat:=match o.guard with
 |some (j,_)=>match ops.toList[j]? with|some oj=>oj.dst.toList|none=>[]
 |none=>[]
def C7 (ops:Array Oper) (o:Oper):List Nat:=ON o.op++mT o.op++Ho ops o
def St.only (st:St) (L:List Nat):St:={ st with T:=st.T.filter fun x=>L.contains x.1 }
def Lf (P:Program) (C:Ak) (st:St) (gd:Option (Nat×Bool×Bool)) (o:Oper):Option (List Prop×EV):=match o.op with
 | .box _ x=>match o.dst,st.rho gd x with
   |some d,some e=>if (BG e).all CS && !(C.muts.contains d)then(Dc (BG e)).map fun ss=>([],.p (.ref ss 0))else none
   |_,_=>none
 | .buildSlice t len parts=>match P.underlying t,HV (st.rho gd) parts.toList,o.dst with
   |some (.slice e),some l,some d=>match Bh P e with
     |some y=>match F7 (fun i=>some (i*y.size,y.size)) ((Afm (len*y.size)).map fun k=>Cj (y.zero.cells.getD (k % y.size) undef)) l with
       |some cs=>if (len*y.size<=16777216/\0<y.size/\y.zero.cells.size=y.size/\cs.all (fun s=>CS (.p s)))/\C.muts.contains d=false then some ([],.p (.sl y.size len (if len=1 then fun _=>cs else BX cs y.size)))else none
       |none=>none
     |none=>none
   |_,_,_=>none
 | .call { callee:=.builtin .append,args:=args,argTypes:=ts }=>match args.toList,ts.toList,gd with
   |[s,x],[t,t'],none=>match P.underlying t,st.rho none s,st.rho none x with
     |some (.slice e),some (.full true sz n get),some ex=>match Bh P e with
       |some y=>match Ej st y.size ex with
         |some (ps,m,get2)=>if t=t'/\sz=y.size/\0<y.size/\0<y.bytes then some (ps ++ [0<m/\(n+m)*y.bytes<=140737488355328],.p (.sl sz (n+m) (AU n get get2)))else none
         |none=>none
       |none=>none
     |_,_,_=>none
   |_,_,_=>none
 | .call { callee:=.value f,args:=args,argTypes:=ts }=>match st.rho gd f,FT P C st (st.rho gd) args.toList ts.toList with
   |some (.p (.clo g caps)),some (ps,as,lent)=>match C.specs g with
     |some (.fn pre res)=>if lent.isEmpty||Dn (res (as++caps.map .p))then some (ps ++ [pre (as++caps.map .p)],.p (res (as++caps.map .p)))else none
     |_=>none
   |some (.fn sp),some (ps,as,lent)=>match Dc as with
     |some ss=>if lent.isEmpty||Dn (sp.res ss)then some (ps ++ [sp.pre ss],.p (sp.res ss))else none
     |none=>none
   |_,_=>none
 |_=>none
def Cv (P:Program) (o:Oper):List (Nat×Aq):=match o.op,o.dst with
 | .alloc t,some d=>match Bh P t with
   |some y=>[(d,.blk t (y.zero.cells.toList.map fun v=>.p (Cj v)))]
   |none=>[]
 |_,_=>[]
def Ft (P:Program):List Oper->List Nat
 |[]=>[]
 |o::l=>(Cv P o).map (·.1)++Ft P l
def Hp (P:Program):List Oper->List (Nat×Aq)
 |[]=>[]
 |o::l=>Cv P o++Hp P l
def St.add (st:St) (l:List (Nat×Aq)):St:={ st with own:=l++st.own }
def St.forgets (st:St):List Nat->St
 |[]=>st
 |d::ds=>(st.forget d).forgets ds
def Fu (o:Oper):Option (TypeId×Nat×Operand):=match o.op,o.dst,o.guard with
 | .store t (.tmp d) x,none,none=>some (t,d,x)
 |_,_,_=>none
def JH (t:TypeId) (d:Nat) (o:Oper):Bool:=match o.op,o.dst with
 | .alloc t',some d'=>t' == t&&d' == d
 |_,_=>false
def JI (ops:Array Oper) (d:Nat) (o:Oper):Bool:=(C7 ops o).contains d
def Ic (d:Nat) (o:Oper):Bool:=o.dst == some d
def H9 (p:Oper->Bool) (l:List Oper):Bool:=(l.filter p).length == 1
def MB (d:Nat) (o:Oper):Bool:=match Fu o with|some (_,d',_)=>d' == d|none=>false
def JJ (ops:Array Oper) (d:Nat):Option Nat:=(Afm ops.size).find? fun i=>match ops.toList[i]? with|some o=>MB d o|none=>false
def Hq (ops:Array Oper) (d:Nat):Bool:=ops.toList.any (MB d)&&(H9 (JI ops d) ops.toList && !(ops.toList.any (Ic d)))
def JK:Aq->Bool
 | .blk ..=>true
 |_=>false
def OO (ops:Array Oper) (own:List (Nat×Aq)):List (Nat×Aq):=own.filter fun x=>Hq ops x.1&&JK x.2
def St.minus (st:St) (ops:Array Oper):St:={ st with own:=st.own.filter fun x=>!(Hq ops x.1&&JK x.2) }
def OP (E:List (Nat×Aq)) (d n:Nat):Bool:=match BF E d with
 |some (.blk _ cs)=>decide (n<=cs.length)
 |_=>false
def MC (P:Program) (ops:Array Oper) (E:List (Nat×Aq)) (st:St) (o:Oper):Option EV:=match Fu o with
 |some (t,d,x)=>match Bh P t,st.rho none (.tmp d),st.rho none x with
   |some y,some (.loc b 0),some ex=>if (b=d/\(BG ex).length=y.size/\y.zero.cells.size=y.size)/\(((ops.toList.any (JH t d)&&H9 (Ic d) ops.toList)||(Hq ops d&&OP E d y.size))&&H9 (JI ops d) ops.toList&&(BG ex).all CS&&(Dc (BG ex)).isSome)=true then some ex else none
   |_,_,_=>none
 |none=>none
def S9:SV->Int
 | .int _ n=>n
 |_=>0
def IV (P:Program) (C:Ak) (st:St) (gd:Option (Nat×Bool×Bool)) (o:Oper):I9:=match o.op,o.dst with
 | .load t x,some d=>if C.cuts.contains d then(match FS P st gd (.load t x)with
   |some (ps,.p s)=>some (ps ++ [s=.int .i64 (S9 s)],.p (.int .i64 (S9 s)))
   |_=>none)else none
 |_,_=>none
def BT (ops:Array Oper) (es:List AG) (q:Nat->Bool) (x:Nat×Aq):Nat×Aq:=match x.2,JJ ops x.1 with
 | .blk t cs,some j=>(match q j,es[j]? with
   |true,some e=>(x.1,.blk t (Ew cs 0 (BG e.v)))
   |_,_=>x)
 |_,_=>x
def GF (P:Program) (C:Ak) (ops:Array Oper) (E:List (Nat×Aq)) (st:St) (o:Oper):Option (List Prop×AG):=
 match IH ops (st.only (C7 ops o)) o with
 |none=>none
 |some gd=>if Fr st o.dst gd then(match IV P C (st.only (C7 ops o)) gd o with
  |some (ps,e)=>some (FR gd ps,⟨gd,e⟩)
  |none=>match FS P (st.only (C7 ops o)) gd o.op with
   |some (ps,e)=>some (FR gd ps,⟨gd,e⟩)
   |none=>match Lf P C (st.only (C7 ops o)) gd o with
     |some (ps,e)=>some (FR gd ps,⟨gd,e⟩)
     |none=>match MC P ops E (st.only (C7 ops o)) o with
       |some e=>some ([],⟨none,e⟩)
       |none=>match gd,Cv P o with
         |none,[(d,.blk _ cs)]=>if cs.all CS then some ([],⟨none,.loc d 0⟩)else none
         |_,_=>none)else none
def Lg (P:Program) (C:Ak) (ops:Array Oper) (E:List (Nat×Aq)):List Oper->St->Option (List Prop×List AG×St)
 |[],st=>some ([],[],st)
 |o::rest,st=>match GF P C ops E st o with
   |none=>none
   |some (ps,e)=>match Lg P C ops E rest (st.put o.dst e)with
     |none=>none
     |some (qs,es,stF)=>some (ps++qs,e::es,stF)
def Hr (o:Oper) (j:Nat):Bool:=o.after.any fun e=>Region.binds .any e&&e.on == j
def Lh (ops:List Oper) (all:Array Oper):Nat->List Oper->Bool
 |_,[]=>true
 |i, o::rest =>(o.after.all fun e => !Region.binds .any e||decide (e.on<i)) &&
  ((Afm ops.length).all fun j=>j == i||(match ops[j]? with
    |some oj=>(match oj.dst with
      |some d=>!(o.dst == some d)&&(!((C7 all o).contains d)||(if j<i then Hr o j else Hr oj i))&&(!((Ho all o).contains d)||decide (j<i))
      |none=>true)
    |none=>true)) && !((o.dst.toList).any fun d=>(Ho all o).contains d)&&Lh ops all (i+1) rest
def St.noGuards (st:St) (ops:List Oper):St:={ st with T:=st.T.filter fun x=>!(ops.any fun o=>match o.dst with|some d=>x.2.by d|none=>false) }
def OQ (P:Program) (C:Ak) (ops:Array Oper) (E:List (Nat×Aq)):List Oper->St->Nat
 |[],_=>0
 |o::rest,st=>match GF P C ops E st o with
   |none=>0
   |some (_,e)=>OQ P C ops E rest (st.put o.dst e)+1
def Ie (ops:List Oper) (j:Nat):List Nat:=match ops[j]? with
 |some o=>(o.after.toList.filter fun e=>Region.binds .any e).map (·.on)
 |none=>[]
def Li (ops:List Oper):Nat->List Nat->List Nat
 |0,l=>l
 |i+1,l=>Li ops i (if l.contains i then l++Ie ops i else l)
def HA (Z:List Nat) (ops:List Oper) (j:Nat):Bool:=(Ie ops j).all (fun x=>decide (x<j))&&(Afm j).all fun i=>(Li ops j (Ie ops j)).contains i||Z.contains i
def SA (Z:List Nat) (ops:List Oper) (k:Nat):Bool:=(Afm ops.length).all fun j=>decide (j<k)||HA Z ops j
def FX (o:Oper):Option (Nat×Nat):=match o.op,o.dst,o.guard with
 | .move (.tmp s),some d,none=>some (d,s)
 | .extract (.tmp s) _,some d,none=>some (d,s)
 |_,_,_=>none
def JL (ops:Array Oper) (i:Nat):Bool:=match ops[i]? with
 |some oi=>match FX oi with
   |some (d,s)=>!(d == s)&&(Afm ops.size).all fun j=>j == i||(match ops[j]? with
     |some oj=>((oj.after.any fun e=>Region.binds .any e&&e.on == i) || !((oj.looksAt ops).contains d)) && !(oj.dst == some d)&&((oi.after.any fun e=>Region.binds .any e&&e.on == j) || !(oj.dst == some s))
     |none=>true)
   |none=>false
 |none=>false
def JM (ops:Array Oper):Bool:=ops.all fun o=>match o.op with
 | .defer _ | .select ..=>false
 |_=>true
def OR (ops:Array Oper) (k:Nat):List Nat:=if decide (k<ops.size)&&JM ops then(Afm k).filter (fun i=>JL ops i && !((Li ops.toList k (Ie ops.toList k)).contains i))else []
def MD (ops:List Oper):List AG->Nat->Bool:=fun es d=>(ops.zip es).all fun x=>x.1.dst == some d || !(x.2.v.names d)
def ME (P:Program) (ops:List Oper) (es:List AG) (Ap:St):List Nat->Bool
 |[]=>true
 |d::ds=>Ap.noName d&&MD ops es d&&ME P ops es Ap ds
def If (ops:Array Oper) (es:List AG) (q:Nat->Bool) (x:Nat×Aq):Nat×Aq:=if Hq ops x.1&&JK x.2 then BT ops es q x else x
def SB (P:Program) (C:Ak) (ops:Array Oper) (stf:St) (K:St->Prop):Prop :=
 (fun k=>if Lh (ops.toList.take k) ops 0 (ops.toList.take k)&&SA (OR ops k) ops.toList k then(match Lg P C ops (OO ops stf.own) (ops.toList.take k) (stf.minus ops)with
  |some (ps,es,stF)=>if ME P (ops.toList.take k) es stf (Ft P (ops.toList.take k))&&Dh (Ft P (ops.toList.take k))then By ps (EI P C ops (ops.toList.drop k) { stF with own:=(Hp P (ops.toList.take k)).map (BT ops es fun j=>decide (j<k))++stf.own.map (If ops es fun j=>decide (j<k)) } K)else False
  |none=>False)else False) (OQ P C ops (OO ops stf.own) ops.toList (stf.minus ops))
def MF (P:Program) (C:Ak) (ops:Array Oper) (st:St) (K:St->Prop):Prop:=SB P C ops ((st.noGuards ops.toList).forgets (Ft P ops.toList)) K
variable {P:Program} {M:Nat->Prop} {w:World} {G:Bn} {st:St} {a:Act} {env:As} {X:Nat->Prop}
theorem Am.only (S:Am P G st a w env M X) (L:List Nat):Am P G (st.only L) a w env M X :=
 S.sub (fun _ hx=>(Afh.1 hx).1) (fun _ hx=>hx) S.nod rfl rfl
theorem OS {o:Oper} (h:∀t,o.op ≠ .alloc t):Cv P o = []:=by
 unfold Cv;split
 ·rename_i t d h1 h2;exact absurd h1 (h t)
 ·rfl
theorem MG (st:St):st.add []=st:=rfl
theorem mU {C:Ak} {st:St} {gd:Option (Nat×Bool×Bool)} (S:Am P G st a w env M X) (hgd:Ex a gd) (hh:C6 gd) {o:Oper} {ps:List Prop} {e:EV} (h:IV P C st gd o=some (ps,e)) (hp:all ps) :
  ∃u,(execOp a.eval o).run P w=.ok (.value u) w/\Ar P M w env e u:=by
 unfold IV at h;split at h
 ·rename_i t x d h1 h2;split at h
  ·split at h
   ·rename_i ps' s hs;cases h;obtain⟨p1,p2⟩:=all_append hp;obtain⟨u,hr,hden⟩:=KS S hgd hh hs p1 o h1;refine⟨u,hr,?_⟩;have:=Ax p2;rwa[this]at hden
   ·cases h
  ·cases h
 ·cases h
theorem SC (hG:Bq G) {C:Ak} (hC:EK P G C) {ops:Array Oper} {o:Oper} {E:List (Nat×Aq)} {ps:List Prop} {e:AG} (h:GF P C ops E st o=some (ps,e)) (hns:Fu o=none) (hp:all ps) {st2:St} (hnt:st2.nt=st.nt)
  (S:Am P G (st.only (C7 ops o)) a w env M X) (S2:Am P G st2 a w env M X) (hfree:∀d o',(d,o')∈Cv P o->st2.noName d=true/\∀x,x∈st2.T->x.2.v.names d=false) :
  (Region.wanted o (yielded ops a.tmps)=true->GD P a o w (fun a' w'=>AQ P G ((st2.add (Cv P o)).put o.dst e) a' w'))/\(¬ Region.wanted o (yielded ops a.tmps)=true->AQ P G ((st2.add (Cv P o)).put o.dst e) (a.put o.dst undef) w):=by
 unfold GF at h;split at h
 ·cases h
 ·rename_i gd hgd0;obtain⟨hgd,hwant⟩:=Mn S hgd0;split at h
  ·rename_i hcheck;have hd:∀t,o.dst=some t->t<st2.nt:=fun t ht=>by
    rw[ht]at hcheck;rw[hnt];cases gd with
    |none=>simpa[Fr]using hcheck
    |some g=>obtain⟨q,c,x⟩:=g;simp[Fr]at hcheck;exact hcheck.1
   have hq:∀q c x,gd=some (q,c,x)->o.dst≠some q:=fun q c x hg ht=>by
    rw[ht,hg]at hcheck;simp[Fr]at hcheck
   have skip:∀ev:EV,¬ C6 gd->AQ P G (st2.put o.dst ⟨gd,ev⟩) (a.put o.dst undef) w:=fun ev hn=>⟨_,_,_,S2.putG hgd hd hq (fun h=>absurd h hn) (fun _=>rfl)⟩;split at h
   ·rename_i ps' ev hstep;cases h;rw[OS (fun t ht=>by unfold IV at hstep;rw[ht]at hstep;cases hstep),MG];refine⟨fun hw=>?_,fun hw=>skip _ (fun hx=>hw (hwant.2 hx))⟩;have hh:=hwant.1 hw;obtain⟨u,hr,hden⟩:=mU S hgd hh hstep (FV hp hh);refine⟨fun c hc=>?_,.inl ⟨u,w,hr,_,_,_,S2.putG hgd hd hq (fun _=>hden) (fun hn=>absurd hh hn)⟩⟩;unfold IV at hstep;rw[hc]at hstep;cases hstep
   rename_i hlc;clear hlc;split at h
   ·rename_i ps' ev hstep;cases h;rw[OS (fun t ht=>by rw[ht]at hstep;simp[FS,HW]at hstep),MG];refine⟨fun hw=>?_,fun hw=>skip _ (fun hx=>hw (hwant.2 hx))⟩;have hh:=hwant.1 hw;obtain⟨u,hr,hden⟩:=KS S hgd hh hstep (FV hp hh) o rfl;refine⟨fun c hc=>?_,.inl ⟨u,w,hr,_,_,_,S2.putG hgd hd hq (fun _=>hden) (fun hn=>absurd hh hn)⟩⟩;rw[hc]at hstep;simp[FS,HW]at hstep
   ·split at h
    ·rename_i ps' ev heff;cases h;rw[OS (fun t ht=>by unfold Lf at heff;rw[ht]at heff;cases heff),MG];refine⟨fun hw=>?_,fun hw=>skip _ (fun hx=>hw (hwant.2 hx))⟩;have hh:=hwant.1 hw;have hp:=FV hp hh;obtain⟨dst,op,ty,pos,after,guard⟩:=o;simp only at hd hq;unfold Lf at heff;simp only at heff S;split at heff
     ·-- box
      rename_i t x _;split at heff
      ·rename_i d e' hx;split at heff
       ·rename_i hc;simp only[nT]at hc;simp only[Option.map_eq_some_iff]at heff;obtain⟨ss,hss,he⟩:=heff;cases he;have hv:=Bf S hgd hh hx;obtain⟨c1,c2⟩:=Mc hv hc.1;obtain⟨M',X',S',hden,_⟩:=S2.newRef hG (IF hss c1 c2) (Mo hc.1 c1 c2) t;refine⟨fun c hc=>by simp at hc,.inl ⟨_,_,?_,_,_,_,S'.putG hgd hd hq (fun _=>.p hden) (fun hn=>absurd hh hn)⟩⟩;simp only[execOp];exact FB (by rw[RH])
       ·cases heff
      ·cases heff
     ·-- a slice
      rename_i t len parts _;split at heff
      ·rename_i e' l d hu hz9 hl;split at heff
       ·rename_i y hy;split at heff
        ·rename_i cs hcs;split at heff
         ·rename_i hc;cases heff;obtain⟨v,w',M',X',hrun,S',hden⟩:=mP hG S2 hu hy (fun x e hx=>Bf S hgd hh hx) hl hcs hc.1;refine⟨fun c hc=>by simp at hc,.inl ⟨_,_,?_,_,_,_,S'.putG hgd hd hq (fun _=>.p hden) (fun hn=>absurd hh hn)⟩⟩;simp only[execOp];exact FB hrun
         ·cases heff
        ·cases heff
       ·cases heff
      ·cases heff
     ·-- an append to a slice without room
      rename_i args ts _;split at heff
      ·rename_i s x t t' hargs hts _;split at heff
       ·rename_i e' sz n get ex hu hs hx;split at heff
        ·rename_i y hy;split at heff
         ·rename_i ps1 m get2 hsl;split at heff
          ·rename_i hc;obtain⟨rfl,rfl,hsz,hb⟩:=hc;cases heff;have hargs:args = #[s,x]:=by apply AfC;simpa using hargs
           have hts:ts = #[t,t]:=by apply AfC;simpa using hts
           subst hargs hts;obtain⟨hp1,hp2⟩:=all_append hp;obtain⟨hm0,hbytes⟩:=Ax hp2;have hmax:n+m<=maxLen:=Mr hb hbytes;have hs':=Bf S hgd hh hs;have hx':=Bf S hgd hh hx;generalize hev:a.eval s=vs at hs';cases hs' with
           |full hs' hq' =>
           obtain rfl:=hq'.1 rfl;obtain⟨A,cap,news,hev2,c1,c2,c3,c4,c5,c6⟩:=JA S hsl hp1 hx';obtain⟨v',w',M',X',hrun,S',hden⟩:=RV (cap:=cap) hG S2 hu hy hsz hm0 hbytes hmax c1 c2 c3 c4 c5 c6 hs' ty;refine⟨fun c hc=>by simp at hc,.inl ⟨v',w',?_,_,_,_,S'.putG hgd hd hq (fun _=>.p hden) (fun hn=>absurd hh hn)⟩⟩;simp[execOp,resolve,invoke,builtin,hev,hev2,hrun]
          ·cases heff
         ·cases heff
        ·cases heff
       ·cases heff
      ·cases heff
     ·-- call
      rename_i f args ts _;split at heff
      ·rename_i g caps ps1 as lent hf hargs;split at heff
       ·rename_i pre res hsp;split at heff
        ·rename_i hL;cases heff;obtain⟨hsok,hen⟩:=hC.1 _ _ hsp;have hfd:=Bf S hgd hh hf;rcases hfd with ⟨hfd⟩;generalize hev:a.eval f=vf at hfd;cases hfd with
         |clo _ _ cvs hcl hcd =>
         obtain⟨hp1,hp2⟩:=all_append hp;have hA:=J8 hC.1 S (fun x e hx=>Bf S hgd hh hx) _ _ _ _ _ hargs hp1 (L:=lent) (fun r hr=>hr);have hA':=RN hA (RO (M':=Dp M env lent) (w:=w) (ss:=caps) (vs:=cvs) ⟨hcl,fun i hi=>(hcd i hi).weak (fun b hb=>.inl hb)⟩);have hown:=KW _ _ _ _ _ hargs;have:=hsok _ w _ _ (Mx (env:=env) S hown) hA' (Ax hp2);refine⟨fun c hc=>by simp at hc,.inr (.inr (.inl ⟨g,_,w,IU rfl hev hen,?_⟩))⟩;have hargsEq:args.map a.eval++cvs.toArray=(args.toList.map a.eval++cvs).toArray:=by apply AfC;simp
         rw[hargsEq];refine FW this fun e w' hg=>?_;obtain⟨v,rfl,hs⟩:=KX hG S2 hgd hh hd hq hL hg;exact⟨v,rfl,hs⟩
        ·cases heff
       ·cases heff
      ·rename_i sp ps1 as lent hf hargs;split at heff
       ·rename_i ss hss;split at heff
        ·rename_i hL;cases heff;have hfd:=Bf S hgd hh hf;generalize hev:a.eval f=vf at hfd;cases hfd with
         |fn hfn =>
         obtain⟨g,first,caps,rfl,hen,hcall⟩:=hfn;obtain⟨hp1,hp2⟩:=all_append hp;have hA:=J8 hC.1 S (fun x e hx=>Bf S hgd hh hx) _ _ _ _ _ hargs hp1 (L:=lent) (fun r hr=>hr);have hown:=KW _ _ _ _ _ hargs;have hlt:=Mx (env:=env) S hown;have hlat:Bg M (Dp M env lent) w w:=⟨Afo _,fun _ _=>rfl,fun b hb=>.inl hb⟩;have hdl:Bk (Dp M env lent) w ss (args.toList.map a.eval):=by
          have:=IC hss;subst this;refine⟨by simpa using hA.1,fun i hi=>?_⟩;have:=(hA.2 i (by simpa using hi)).2;rw[G7 _ _ hi]at this;rcases this with ⟨this⟩;exact this
         have hc:=hcall _ w hlat hlt ss _ hdl (Ax hp2);refine⟨fun c hc=>by simp at hc,.inr (.inr (.inl ⟨g,_,w,Sw rfl hev hen,?_⟩))⟩;have hargsEq:first++args.map a.eval++caps=first++(args.toList.map a.eval).toArray++caps:=by congr 2;apply AfC;simp
         rw[hargsEq];refine FW hc fun e w' hg=>?_;obtain⟨v,rfl,hs⟩:=KX hG S2 hgd hh hd hq hL hg;exact⟨v,rfl,hs⟩
        ·cases heff
       ·cases heff
      ·cases heff
     ·cases heff
    ·rw[show MC P ops E (st.only (C7 ops o)) o=none by unfold MC;rw[hns]]at h;simp only at h;split at h
     ·rename_i d t cs hnew hq1 hq2;split at h
      ·rename_i hone;cases h;refine⟨fun hw=>?_,fun hw=>absurd trivial (fun hx=>hw (hwant.2 hx))⟩;obtain⟨f1,f2⟩:=hfree d (.blk t cs) (by rw[hnew];simp);obtain⟨dst,op,ty,pos,after,guard⟩:=o;unfold Cv at hnew;simp only at hnew hd hq;split at hnew
       ·rename_i t' d';split at hnew
        ·rename_i y hy;simp only[List.cons.injEq,Afx,Aq.blk.injEq,and_true]at hnew;obtain⟨rfl,rfl,rfl⟩:=hnew;have hl:y.zero.cells.toList.length=(y.zero.cells.toList.map fun v=>EV.p (Cj v)).length:=by simp
         have hden:∀i,i<(y.zero.cells.toList.map fun v=>EV.p (Cj v)).length->Ar P M w env (EV.at (y.zero.cells.toList.map fun v=>EV.p (Cj v)) i) (y.zero.cells.toList.getD i undef):=fun i hi=>by
          have:=IG (P:=P) (env:=env) (GA (M:=M) (w:=w) y.zero.cells.toList) i (by simpa using hi);rw[Ag7]at this;exact this
         obtain⟨env',X',S3,h3⟩:=RB hG S2 (d:=d') (hd _ rfl) f1 hl hden (Mo hone hl hden) (fun i hi=>by
          rw[RD _ _ hi];simp[EV.names]) t'
         have S4:=S3.sub (st':=st2.add (Cv P { dst:=some d',op:=.alloc t',type:=ty,pos:=pos,after:=after,guard:=guard })) (fun x hx=>by
          show x∈(st2.forget d').T;exact Afh.2 ⟨hx,by rw[f2 x hx];rfl⟩) (fun x hx=>by
          simp only[St.add,Cv,hy]at hx;exact hx) (by
          have:=S3.nod;simp only[St.add,Cv,hy];exact this) rfl rfl
         refine⟨fun c hc=>by simp at hc,.inl ⟨_,_,?_,_,_,_,S4.put0 (fun t ht=>by cases ht;exact hd _ rfl) (.loc h3)⟩⟩;simp only[execOp];exact FB (by rw[O7 hy])
        ·cases hnew
       ·cases hnew
      ·cases h
     ·cases h
  ·cases h
theorem OT {o:Oper} {t:TypeId} {d:Nat} {x:Operand} (h:Fu o=some (t,d,x)):o.op=.store t (.tmp d) x/\o.dst=none/\o.guard=none:=by
 unfold Fu at h;split at h
 ·rename_i h1 h2 h3;cases h;exact⟨h1,h2,h3⟩
 ·cases h
theorem MH {C:Ak} {ops:Array Oper} {E:List (Nat×Aq)} {o:Oper} {ps:List Prop} {e:AG} {t:TypeId} {d:Nat} {x:Operand} (hs:Fu o=some (t,d,x)) (h:GF P C ops E st o=some (ps,e)) :
  ∃y,Bh P t=some y/\(st.only (C7 ops o)).rho none (.tmp d)=some (.loc d 0)/\(st.only (C7 ops o)).rho none x=some e.v/\e.g=none/\(BG e.v).length=y.size/\y.zero.cells.size=y.size /\
    ((ops.toList.any (JH t d)=true/\H9 (Ic d) ops.toList=true)\/(Hq ops d=true/\OP E d y.size=true))/\H9 (JI ops d) ops.toList=true/\(BG e.v).all CS=true/\(Dc (BG e.v)).isSome=true:=by
 obtain⟨h1,h2,h3⟩:=OT hs;unfold GF at h;split at h
 ·cases h
 ·rename_i gd hgd;split at h
  ·rw[show IV P C (st.only (C7 ops o)) gd o=none by unfold IV;rw[h1],show FS P (st.only (C7 ops o)) gd o.op=none by rw[h1];simp[FS,HW],show Lf P C (st.only (C7 ops o)) gd o=none by unfold Lf;rw[h1]]at h;simp only at h;split at h
   ·rename_i ex hex;cases h;unfold MC at hex;rw[hs]at hex;simp only at hex;split at hex
    ·rename_i y b ex' hy hb hx;split at hex
     ·rename_i hc;cases hex;obtain⟨⟨rfl,c1,c2⟩,c3⟩:=hc;simp only[nT,AfE]at c3;exact⟨y,hy,hb,hx,rfl,c1,c2,c3.1.1.1,c3.1.1.2,c3.1.2,c3.2⟩
     ·cases hex
    ·cases hex
   ·split at h
    ·rename_i hnew _;unfold Cv at hnew;rw[h1]at hnew;cases hnew
    ·cases h
  ·cases h
theorem MI {p:Oper->Bool}:∀{l:List Oper},H9 p l=true->∀{i j:Nat} {a b:Oper},l[i]? = some a->l[j]? = some b->p a=true->p b=true->i=j
 |[],_,i,j,a,b,hi,_,_,_=>by simp at hi
 |o::l,h,i,j,a,b,hi,hj,ha,hb=>by
   have none_of:∀{k:Nat} {c:Oper},(l.filter p).length=0->l[k]? = some c->p c=true->False:=fun {k c} h0 hk hc=>by
    have:c∈l.filter p:=Afh.2 ⟨Agb hk,hc⟩;rw[AfM h0]at this;cases this
   unfold H9 at h;simp only[beq_iff_eq]at h;cases hpo:p o with
   |true =>
     rw[List.filter_cons_of_pos hpo]at h;simp only[List.length_cons]at h;have h0:(l.filter p).length=0:=by omega
     cases i with
     |succ i=>exact(none_of h0 (by simpa using hi) ha).elim
     |zero=>cases j with
       |zero=>rfl
       |succ j=>exact(none_of h0 (by simpa using hj) hb).elim
   |false =>
     rw[List.filter_cons_of_neg (by simp[hpo])]at h;cases i with
     |zero=>simp at hi;subst hi;rw[hpo]at ha;cases ha
     |succ i=>cases j with
       |zero=>simp at hj;subst hj;rw[hpo]at hb;cases hb
       |succ j =>
         have:=MI (l:=l) (by unfold H9;simpa using h) (i:=i) (j:=j) (by simpa using hi) (by simpa using hj) ha hb;omega
theorem Gs {ops:Array Oper} {d j:Nat} (h:JJ ops d=some j):∃o t x,ops[j]? = some o/\Fu o=some (t,d,x):=by
 have h1:=List.find?_some h;split at h1
 ·rename_i o ho;unfold MB at h1;split at h1
  ·rename_i t d' x hs;simp at h1;subst h1;exact⟨o,t,x,by simpa using ho,hs⟩
  ·cases h1
 ·cases h1
theorem SD {ops:Array Oper} {o:Oper} {t:TypeId} {d:Nat} {x:Operand} (h:Fu o=some (t,d,x)):JI ops d o=true:=by
 obtain⟨h1,_,_⟩:=OT h;unfold JI C7;have:d∈ON o.op:=by
  rw[h1];unfold ON;refine List.mem_filterMap.2 ⟨.tmp d,?_,rfl⟩;simp[Op.operands]
 simp[this]
theorem mV {ops:Array Oper} {i:Nat} {o:Oper} {t:TypeId} {d:Nat} {x:Operand} (ho:ops[i]? = some o) (hs:Fu o=some (t,d,x)) (h1:H9 (JI ops d) ops.toList=true):JJ ops d=some i:=by
 have hi:=(Afv.1 ho).1;cases hf:JJ ops d with
 |none =>
   have:=List.find?_eq_none.1 hf i (Afl.2 hi);rw[show ops.toList[i]? = some o by simpa using ho]at this;simp[MB,hs]at this
 |some j =>
   obtain⟨o',t',x',ho',hs'⟩:=Gs hf;rw[MI h1 (show ops.toList[j]? = some o' by simpa using ho') (show ops.toList[i]? = some o by simpa using ho) (SD hs') (SD hs)]
theorem Gt (ops:Array Oper) (es:List AG) (q:Nat->Bool) (x:Nat×Aq):(BT ops es q x).1=x.1:=by
 unfold BT;split
 ·split<;>rfl
 ·rfl
theorem Lj {ops:Array Oper} {es:List AG} {q:Nat->Bool} {x:Nat×Aq} (h:∀j,JJ ops x.1=some j->q j=false):BT ops es q x=x:=by
 unfold BT;split
 ·rename_i t cs j h1 h2;rw[h j h2]
 ·rfl
theorem IW {ops:Array Oper} {es:List AG} {q q':Nat->Bool} {x:Nat×Aq} (h:∀j,JJ ops x.1=some j->q j=q' j):BT ops es q x=BT ops es q' x:=by
 unfold BT;split
 ·rename_i t cs j h1 h2;rw[h j h2]
 ·rfl
end
section
variable {P:Program} {G:Bn}
theorem MJ {ro:Option Nat} {n:Nat} {Q:Exit->Act->World->Prop} {o:Oper} {a:Act} {w:World} {N:Act->World->Prop} (h:GD P a o w N):o.wpIn (W ro) n P a w N Q:=by
 obtain⟨ho,⟨u,w',hr,hk⟩|⟨w',hr,hk⟩|⟨f,args,w',hr,hk⟩|⟨l,f,tmps,assign,body,w',hr,hk⟩⟩:=h
 ·exact⟨fun _ _=>trivial,by rw[Oper.semAt_eq _ _ _ ho,hr];exact hk⟩
 ·exact⟨fun _ _=>trivial,by rw[Oper.semAt_eq _ _ _ ho,hr];exact hk⟩
 ·refine⟨fun _ _=>trivial,?_⟩;rw[Oper.semAt_eq _ _ _ ho,hr];refine⟨fun h=>by simp[W,Fence.wide]at h,?_⟩;refine O4 (callsIn_wide.2 (Calls.mono (callsIn_wide.1 hk) ?_));rintro e w'' ⟨v,rfl,h⟩;exact h
 ·refine⟨fun _ _=>trivial,?_⟩;rw[Oper.semAt_eq _ _ _ ho,hr];refine⟨fun h=>by simp[W,Fence.wide]at h,?_⟩;refine RA (J7 hk ?_);rintro e w'' ⟨v,rfl,h⟩;exact h
def DQ (st st':St):Prop:=st'.own=st.own/\st'.yk=st.yk/\st'.stop=st.stop/\st'.nt=st.nt
theorem DQ.put (st:St) (d:Option Nat) (e:AG):DQ st (st.put d e):=by cases d<;>exact⟨rfl,rfl,rfl,rfl⟩
theorem Lk {st:St} {d:Option Nat} {e:AG} {x:Nat×AG} (h:x∈(st.put d e).T):(x∈st.T/\d≠some x.1)\/(d=some x.1/\x.2=e):=by
 cases d with
 |none=>exact .inl ⟨h,by simp⟩
 |some d =>
   simp only[St.put,Afk,Afh]at h;rcases h with rfl|⟨h,hne⟩
   ·exact .inr ⟨rfl,rfl⟩
   ·simp at hne;exact .inl ⟨h,fun e=>hne.1 (by cases e;rfl)⟩
theorem SF {C:Ak} {ops:Array Oper} {E:List (Nat×Aq)}:∀(rest:List Oper) (st1:St) (ps:List Prop) (es:List AG) (stF:St),Lg P C ops E rest st1=some (ps,es,stF) ->
  es.length=rest.length/\(DQ st1 stF/\∀x,x∈stF.T->(x∈st1.T/\∀(j:Nat) (oj:Oper),rest[j]? = some oj->oj.dst≠some x.1)\/∃(j:Nat) (oj:Oper),rest[j]? = some oj/\oj.dst=some x.1/\es[j]? = some x.2) /\
  ∀i o,rest[i]? = some o->∃sti psi e,GF P C ops E sti o=some (psi,e)/\es[i]? = some e/\(∀p,p∈psi->p∈ps)/\DQ st1 sti /\
    ∀x,x∈sti.T->(x∈st1.T/\∀(j:Nat) (oj:Oper),j<i->rest[j]? = some oj->oj.dst≠some x.1)\/∃(j:Nat) (oj:Oper),j<i/\rest[j]? = some oj/\oj.dst=some x.1/\es[j]? = some x.2
 |[],st1,ps,es,stF,h=>by
   simp only[Lg,Agf,Afx]at h;obtain⟨rfl,rfl,rfl⟩:=h;exact⟨rfl,⟨⟨rfl,rfl,rfl,rfl⟩,fun x hx=>.inl ⟨hx,fun j oj hj=>by simp at hj⟩⟩,fun i o hi=>by simp at hi⟩
 |o::rest,st1,ps,es,stF,h=>by
   simp only[Lg]at h;split at h
   ·cases h
   ·rename_i ps0 e hstep;split at h
    ·cases h
    ·rename_i qs es' stF' hgo;simp only[Agf,Afx]at h;obtain⟨rfl,rfl,rfl⟩:=h;obtain⟨h1,⟨t2,h2⟩,h3⟩:=SF rest _ _ _ _ hgo;have tw:=DQ.put st1 o.dst e;refine⟨by simp[h1],⟨⟨t2.1.trans tw.1,t2.2.1.trans tw.2.1,t2.2.2.1.trans tw.2.2.1,t2.2.2.2.trans tw.2.2.2⟩,fun x hx=>?_⟩,fun i o' hi=>?_⟩
     ·rcases h2 x hx with ⟨hm,hall⟩|⟨j,oj,hj,hd,he⟩
      ·rcases Lk hm with ⟨hm,hne⟩|⟨hd,he⟩
       ·refine .inl ⟨hm,fun j oj hj=>?_⟩;cases j with
        |zero=>simp at hj;subst hj;exact hne
        |succ j=>exact hall j oj (by simpa using hj)
       ·exact .inr ⟨0,o,by simp,hd,by simp[he]⟩
      ·exact .inr ⟨j+1,oj,by simpa using hj,hd,by simpa using he⟩
     ·cases i with
      |zero =>
        simp at hi;subst hi;exact⟨st1,ps0,e,hstep,by simp,fun p hp=>by simp[hp],⟨rfl,rfl,rfl,rfl⟩,fun x hx=>.inl ⟨hx,fun j oj hj=>by omega⟩⟩
      |succ i =>
        obtain⟨sti,psi,ei,hs,he,hps,tw',hmem⟩:=h3 i o' (by simpa using hi);refine⟨sti,psi,ei,hs,by simpa using he,fun p hp=>by simp[hps p hp],⟨tw'.1.trans tw.1,tw'.2.1.trans tw.2.1,tw'.2.2.1.trans tw.2.2.1,tw'.2.2.2.trans tw.2.2.2⟩,fun x hx=>?_⟩;rcases hmem x hx with ⟨hm,hall⟩|⟨j,oj,hlt,hj,hd,he⟩
        ·rcases Lk hm with ⟨hm,hne⟩|⟨hd,he⟩
         ·refine .inl ⟨hm,fun j oj hlt hj=>?_⟩;cases j with
          |zero=>simp at hj;subst hj;exact hne
          |succ j=>exact hall j oj (by omega) (by simpa using hj)
         ·exact .inr ⟨0,o,by omega,by simp,hd,by simp[he]⟩
        ·exact .inr ⟨j+1,oj,by omega,by simpa using hj,hd,by simpa using he⟩
theorem SG {C:Ak} {ops:Array Oper} {E:List (Nat×Aq)} {st:St} {o:Oper} {ps:List Prop} {e:AG} (h:GF P C ops E st o=some (ps,e)):∀d,e.by d=true->d∈Ho ops o:=by
 intro d hd;have key:∀gd,IH ops (st.only (C7 ops o)) o=some gd->e.g=gd->d∈Ho ops o:=by
  intro gd hg he;unfold IH at hg;unfold Ho;split at hg
  ·cases hg;simp[AG.by,he]at hd
  ·rename_i j want hgd;rw[hgd];split at hg
   ·rename_i oj hj;simp only[hj];split at hg
    ·rename_i d' hd';split at hg
     ·cases hg;simp only[AG.by,he,beq_iff_eq]at hd;subst hd;simp[hd']
     ·cases hg
    ·cases hg
   ·cases hg
 unfold GF at h;split at h
 ·cases h
 ·rename_i gd hgd;split at h
  ·split at h
   ·cases h;exact key gd hgd rfl
   split at h
   ·cases h;exact key gd hgd rfl
   ·split at h
    ·cases h;exact key gd hgd rfl
    ·split at h
     ·cases h;simp[AG.by]at hd
     ·split at h
      ·split at h
       ·cases h;exact key none hgd rfl
       ·cases h
      ·cases h
  ·cases h
theorem OU {ops:List Oper} {all:Array Oper}:∀(rest:List Oper) (k:Nat),Lh ops all k rest=true->∀i o,rest[i]? = some o ->
  (∀e,e∈o.after->Region.binds .any e=true->e.on<k+i)/\∀j oj d,j≠k+i->ops[j]? = some oj->oj.dst=some d->o.dst≠some d/\(d∈C7 all o->if j<k+i then Hr o j=true else Hr oj (k+i)=true)/\(d∈Ho all o->j<k+i)
 |[],k,h,i,o,hi=>by simp at hi
 |o'::rest,k,h,i,o,hi=>by
   simp only[Lh,nT]at h;obtain⟨⟨⟨h1,h2⟩,_⟩,h4⟩:=h;cases i with
   |zero =>
     simp at hi;subst hi;refine⟨fun e he hb=>?_,fun j oj d hne hj hd=>?_⟩
     ·have:=Agl.1 h1 e he;simp[hb]at this;exact this
     ·have hlt:=(List.getElem?_eq_some_iff.1 hj).1;have:=Afj.1 h2 j (Afl.2 hlt);simp only[AgD]at hne ⊢;simp only[hj,hd]at this;simp[hne]at this;obtain⟨⟨a1,a2⟩,a3⟩:=this;refine⟨a1,fun hm=>?_,fun hm=>?_⟩
      ·rcases a2 with a2|a2
       ·exact absurd hm a2
       ·split at a2<;>rename_i hjk
        ·rw[if_pos hjk];exact a2
        ·rw[if_neg hjk];exact a2
      ·rcases a3 with a3|a3
       ·exact absurd hm a3
       ·exact a3
   |succ i =>
     have:=OU rest (k+1) h4 i o (by simpa using hi);rw[show k+1+i=k+(i+1)by omega]at this;exact this
theorem IX {o:Oper} {j:Nat} (h:Hr o j=true):∃e,e∈o.after/\Region.binds .any e=true/\e.on=j:=by
 unfold Hr at h;rw[Array.any_eq_true]at h;obtain⟨i,hi,hx⟩:=h;simp at hx;exact⟨_,Array.getElem_mem hi,hx.1,hx.2⟩
end
section
variable {P:Program} {G:Bn}
theorem Ig {st:St} {d:Option Nat} {e:AG} {x:Nat×AG} (h:x∈st.T) (h1:d≠some x.1) (h2:∀t,d=some t->x.2.by t=false):x∈(st.put d e).T:=by
 cases d with
 |none=>exact h
 |some t =>
   simp only[St.put,Afk,Afh];refine .inr ⟨h,?_⟩;have:¬ x.1=t:=fun e=>h1 (by rw[e]);simp[this,h2 t rfl]
theorem JN {st:St} {d:Nat} {e:AG}:(d,e)∈(st.put (some d) e).T:=by simp[St.put]
def mW (ops:Array Oper) (Ap:St) (es:List AG) (listed:Array Bool) (x:Nat×AG):Prop :=
 (x∈Ap.T/\∀(j:Nat) (oj:Oper),ops[j]? = some oj->listed.getD j false=true->oj.dst≠some x.1) \/
  ∃(j:Nat) (oj:Oper),ops[j]? = some oj/\listed.getD j false=true/\oj.dst=some x.1/\es[j]? = some x.2
structure IY (P:Program) (G:Bn) (ops:Array Oper) (E:List (Nat×Aq)) (Ap:St) (es:List AG) (listed:Array Bool) (a:Act) (w:World):Prop where
 siz:listed.size=ops.size
 clo:∀(j:Nat) (oj:Oper),ops[j]? = some oj->listed.getD j false=true->∀e,e∈oj.after->Region.binds .any e=true->listed.getD e.on false=true
 sat:∃st2:St,(st2.yk=Ap.yk/\st2.stop=Ap.stop/\st2.nt=Ap.nt)/\(∀x,x∈st2.own↔(x∈Ap.own\/(∃(j:Nat) (oj:Oper),ops[j]? = some oj/\listed.getD j false=true/\∃y,y∈Cv P oj/\x=BT ops es (fun j=>listed.getD j false) y)\/∃y,y∈E/\x=BT ops es (fun j=>listed.getD j false) y))/\(∀x,x∈st2.T↔mW ops Ap es listed x)/\AQ P G st2 a w
theorem mX (st:St):∀ds,(st.forgets ds).own=st.own/\(st.forgets ds).yk=st.yk/\(st.forgets ds).stop=st.stop/\(st.forgets ds).nt=st.nt:=fun ds=>by
 induction ds generalizing st with
 |nil=>exact⟨rfl,rfl,rfl,rfl⟩
 |cons d ds ih=>exact ih (st.forget d)
theorem mY {x:Nat×AG} (ds:List Nat) {st:St} (h:x∈(st.forgets ds).T):x∈st.T/\∀d,d∈ds->x.2.v.names d=false:=by
 induction ds generalizing st with
 |nil=>exact⟨h,fun d hd=>by cases hd⟩
 |cons d0 ds ih =>
   obtain⟨h1,h2⟩:=ih (st:=st.forget d0) h;refine⟨(Afh.1 h1).1,fun d hd=>?_⟩;rcases Afk.1 hd with rfl|hd
   ·exact HZ (s:=x.1) (e:=x.2) h1
   ·exact h2 d hd
theorem MK {d:Nat} {o':Aq} {l:List Oper} {o:Oper} (h:o∈l) (hn:(d,o')∈Cv P o):d∈Ft P l:=by
 induction l with
 |nil=>cases h
 |cons o1 l ih =>
   rw[Ft,Afz];rcases Afk.1 h with h|h
   ·subst h;exact .inl (Afi.2 ⟨(d,o'),hn,rfl⟩)
   ·exact .inr (ih h)
theorem SH {x:Nat×Aq}:∀{l:List Oper},x∈Hp P l->∃(j:Nat) (oj:Oper),l[j]? = some oj/\x∈Cv P oj
 |[],h=>by cases h
 |o::l,h=>by
   simp only[Hp,Afz]at h;rcases h with h|h
   ·exact⟨0,o,rfl,h⟩
   ·obtain⟨j,oj,h1,h2⟩:=SH h;exact⟨j+1,oj,by simpa using h1,h2⟩
theorem SI:∀(l:List Oper),(Hp P l).map (·.1)=Ft P l
 |[]=>rfl
 |o::l=>by simp[Hp,Ft,SI l]
theorem JO {o:Oper} {d:Nat} {o':Aq} (h:(d,o')∈Cv P o):o.dst=some d/\∀k,o'.names k=false:=by
 unfold Cv at h;split at h
 ·rename_i t d' h1 h2;split at h
  ·simp only[Afr,Afx]at h;obtain⟨rfl,rfl⟩:=h;refine⟨h2,fun k=>?_⟩;have:∀l:List Value,EV.names.namesL k (l.map fun v=>EV.p (Cj v))=false:=fun l=>by
    induction l with
    |nil=>rfl
    |cons v l ih=>simp[EV.names.namesL,EV.names,ih]
   exact this _
  ·cases h
 ·cases h
theorem ML {ops:List Oper} {es:List AG} {Ap:St}:∀{ds:List Nat},ME P ops es Ap ds=true->∀d,d∈ds->Ap.noName d=true/\MD ops es d=true
 |d0::ds,h,d,hd=>by
   simp only[ME,nT]at h;rcases Afk.1 hd with rfl|hd
   ·exact h.1
   ·exact ML h.2 d hd
theorem mZ {ops:List Oper} {es:List AG} {d:Nat} (h:MD ops es d=true) {j:Nat} {oj:Oper} {e:AG} (h1:ops[j]? = some oj) (h2:es[j]? = some e):oj.dst=some d\/e.v.names d=false:=by
 unfold MD at h;have hm:(oj,e)∈ops.zip es:=by
  have:(ops.zip es)[j]? = some (oj,e):=by rw[List.getElem?_zip_eq_some];exact⟨h1,h2⟩
  exact Agb this
 have:=Afj.1 h _ hm;simpa using this
theorem Hs {l:Array Bool} {i:Nat} (h:i<l.size):(l.setIfInBounds i true).getD i false=true:=by
 simp[LS,h]
theorem Fb {l:Array Bool} {i j:Nat} (h:(l.setIfInBounds i true).getD j false=true):j=i\/l.getD j false=true:=by
 by_cases hj:j=i
 ·exact .inl hj
 ·right;rw[LS,Agq,if_neg (fun e=>hj e.symm)]at h;rw[LS];exact h
theorem DR {l:Array Bool} {i j:Nat} (h:l.getD j false=true):(l.setIfInBounds i true).getD j false=true:=by
 have hj:j<l.size:=by
  rcases AfP j l.size with h'|h'
  ·exact h'
  ·rw[LS,Ag6 h']at h;cases h
 rw[LS,Agq];split
 ·rename_i he;subst he;rw[if_pos hj];rfl
 ·rw[LS]at h;exact h
theorem OV {ops:Array Oper} {listed:Array Bool} (clo:∀(j:Nat) (oj:Oper),ops[j]? = some oj->listed.getD j false=true->∀e,e∈oj.after->Region.binds .any e=true->listed.getD e.on false=true) :
  ∀(i:Nat) (l:List Nat),(∀x,x∈l->listed.getD x false=true)->∀x,x∈Li ops.toList i l->listed.getD x false=true
 |0,l,h,x,hx=>h x hx
 |i+1,l,h,x,hx=>by
   simp only[Li]at hx;refine OV clo i _ (fun y hy=>?_) x hx;split at hy
   ·rename_i hc;rcases Afz.1 hy with hy|hy
    ·exact h y hy
    ·unfold Ie at hy;split at hy
     ·rename_i o ho;obtain⟨e,he,rfl⟩:=Afi.1 hy;obtain⟨he1,he2⟩:=Afh.1 he;exact clo i o (by simpa using ho) (h i (by simpa using hc)) e (by simpa using he1) he2
     ·cases hy
   ·exact h y hy
theorem nA {ops:Array Oper} {listed:Array Bool} (clo:∀(j:Nat) (oj:Oper),ops[j]? = some oj->listed.getD j false=true->∀e,e∈oj.after->Region.binds .any e=true->listed.getD e.on false=true)
  {j:Nat} {o:Oper} (ho:ops[j]? = some o) {Z:List Nat} (h:HA Z ops.toList j=true) (hZ:∀z,z∈Z->listed.getD z false=true) (hr:∀e,e∈o.after->Region.binds .any e=true->listed.getD e.on false=true):∀i,i<j->listed.getD i false=true:=by
 intro i hi;simp only[HA,nT]at h;have:=Afj.1 h.2 i (Afl.2 hi);rw[AfE]at this;rcases this with this|this;rotate_left
 ·exact hZ i (by simpa using this)
 refine OV clo j _ (fun y hy=>?_) i (by simpa using this);unfold Ie at hy;rw[show ops.toList[j]? = some o by simpa using ho]at hy;obtain⟨e,he,rfl⟩:=Afi.1 hy;obtain⟨he1,he2⟩:=Afh.1 he;exact hr e (by simpa using he1) he2
theorem nB {ops:Array Oper} {listed:Array Bool} (clo:∀(j:Nat) (oj:Oper),ops[j]? = some oj->listed.getD j false=true->∀e,e∈oj.after->Region.binds .any e=true->listed.getD e.on false=true)
  {j:Nat} {o:Oper} (ho:ops[j]? = some o) {Z:List Nat} (h:HA Z ops.toList j=true) (hr:∀e,e∈o.after->Region.binds .any e=true->listed.getD e.on false=true):∀i,i<j->i ∉ Z->listed.getD i false=true:=by
 intro i hi hz;simp only[HA,nT]at h;have:=Afj.1 h.2 i (Afl.2 hi);rw[AfE]at this;rcases this with this|this;rotate_left
 ·exact absurd (by simpa using this) hz
 refine OV clo j _ (fun y hy=>?_) i (by simpa using this);unfold Ie at hy;rw[show ops.toList[j]? = some o by simpa using ho]at hy;obtain⟨e,he,rfl⟩:=Afi.1 hy;obtain⟨he1,he2⟩:=Afh.1 he;exact hr e (by simpa using he1) he2
theorem nC {ops:Array Oper} {j:Nat} {o:Oper} (ho:ops[j]? = some o) {Z:List Nat} (h:HA Z ops.toList j=true):∀e,e∈o.after->Region.binds .any e=true->e.on<j:=by
 intro e he hb;simp only[HA,nT]at h;have:=Afj.1 h.1 e.on (by
  unfold Ie;rw[show ops.toList[j]? = some o by simpa using ho];exact Afi.2 ⟨e,Afh.2 ⟨by simpa using he,hb⟩,rfl⟩)
 simpa using this
def Ey (n:Nat) (listed:Array Bool):Nat:=((Afm n).filter fun i=>!listed.getD i false).length
theorem IZ {n i:Nat} {listed:Array Bool} (hi:i<n) (hl:i<listed.size) (hu:listed.getD i false=false):Ey n (listed.setIfInBounds i true)<Ey n listed:=by
 unfold Ey;have e1:((Afm n).filter fun j=>!(listed.setIfInBounds i true).getD j false)=((Afm n).filter fun j=>!listed.getD j false).filter fun j=>!(j == i):=by
  rw[List.filter_filter];apply List.filter_congr;intro j hj
  by_cases hji:j=i
  ·subst hji;rw[Hs hl];simp
  ·have : (listed.setIfInBounds i true).getD j false = listed.getD j false :=by
    rw[LS,Agq,if_neg (fun e=>hji e.symm),LS]
   rw[this];simp[hji]
 rw[e1];have hm:i∈(Afm n).filter fun j=>!listed.getD j false:=Afh.2 ⟨Afl.2 hi,by rw[hu];rfl⟩;exact List.length_filter_lt_length_iff_exists.2 ⟨i,hm,by simp⟩
theorem OW (hG:Bq G) {C:Ak} (hC:EK P G C) {ops:Array Oper} {o:Oper} {rest:List Oper} {st:St} {K:St->Prop} {a:Act} {w:World} {env:As} {M X:Nat->Prop} (h:EI P C ops (o::rest) st K) (S:Am P G st a w env M X) :
  (Region.wanted o (yielded ops a.tmps)=true->GD P a o w (fun a' w'=>∃st',EI P C ops rest st' K/\AQ P G st' a' w'))/\(¬ Region.wanted o (yielded ops a.tmps)=true->∃st',EI P C ops rest st' K/\AQ P G st' (a.put o.dst undef) w):=by
 simp only[EI]at h;split at h
 ·exact h.elim
 ·rename_i gd hgd0;obtain⟨hgd,hwant⟩:=Mn S hgd0;split at h
  ·rename_i hcheck;have hd:∀t,o.dst=some t->t<st.nt:=fun t ht=>by
    rw[ht]at hcheck;cases gd with
    |none=>simpa[Fr]using hcheck
    |some g=>obtain⟨q,c,x⟩:=g;simp[Fr]at hcheck;exact hcheck.1
   have hq:∀q c x,gd=some (q,c,x)->o.dst≠some q:=fun q c x hg ht=>by
    rw[ht,hg]at hcheck;simp[Fr]at hcheck
   refine⟨fun hw=>?_,fun hw=>?_⟩
   ·have hh:=hwant.1 hw;split at h
    ·rename_i d t x hi hcut;obtain⟨c1,c2,c3⟩:=M7 hcut;obtain⟨v,st',hr,hk,hs⟩:=Sd hG S h (hd _ c2);exact⟨fun c hc=>(by rw[c1]at hc;cases hc),.inl ⟨v,w,by simp[execOp,c1,hr],st',hk,by rw[c2];exact hs⟩⟩
    split at h
    ·exact S7 hG hC S hgd hh hd hq h (fun st' a' w' hk hs=>⟨st',hk,hs⟩)
    split at h
    ·rename_i ps e hstep;obtain⟨h1,h2⟩:=Bz h;obtain⟨u,hr,hden⟩:=KS S hgd hh hstep (FV h1 hh) o rfl;refine⟨fun c hc=>?_,.inl ⟨u,w,hr,_,h2,⟨_,_,_,S.putG hgd hd hq (fun _=>hden) (fun hn=>absurd hh hn)⟩⟩⟩;rw[hc]at hstep;simp[FS,HW]at hstep
    ·exact S5 hG hC S hgd hh hd hq h (fun st' a' w' hk hs=>⟨st',hk,hs⟩)
   ·have hh:¬ C6 gd:=fun hx=>hw (hwant.2 hx);split at h
    ·rename_i d t x hi hcut;obtain⟨c1,c2,c3⟩:=M7 hcut;exact absurd trivial (by rw[c3]at hh;exact hh)
    split at h
    ·exact S8 S hgd hh hd hq h
    split at h
    ·rename_i ps e hstep;obtain⟨_,h2⟩:=Bz h;exact⟨_,h2,⟨_,_,_,S.putG hgd hd hq (fun hn=>absurd hn hh) (fun _=>rfl)⟩⟩
    ·exact S6 S hgd hh hd hq h
  ·exact h.elim
theorem SJ (hG:Bq G) {C:Ak} (hC:EK P G C) {ro:Option Nat} {n:Nat} {ops:Array Oper} {Q:Exit->Act->World->Prop} {K:St->Prop} (hK:∀st a w,K st->AQ P G st a w->Q .normal a w) {k:Nat} {Z:List Nat} (hs:SA Z ops.toList k=true) (hZk:∀z,z∈Z->z<k/\z<ops.size) :
  ∀(fuel j:Nat) (listed:Array Bool) (st:St) (a:Act) (w:World),k<=j->j<=ops.size->listed.size=ops.size->(∀i,i<ops.size->(listed.getD i false=true↔i<j)) ->
    (∀(j:Nat) (oj:Oper),ops[j]? = some oj->listed.getD j false=true->∀e,e∈oj.after->Region.binds .any e=true->listed.getD e.on false=true) ->
    EI P C ops (ops.toList.drop j) st K->AQ P G st a w->Ey ops.size listed<=fuel->wpAnyIn (W ro) n P .any ops Q fuel listed a w:=by
 have suf:∀j,k<=j->j<ops.size->HA Z ops.toList j=true:=fun j hk hj=>by
  have:=Afj.1 hs j (Afl.2 (by simpa using hj));simpa[show ¬ j<k by omega]using this
 intro fuel
 induction fuel with
 |zero =>
   intro j listed st a w hkj hj hsz hl clo h hsat hc;have hje:j=ops.size:=by
    rcases AfP j ops.size with hlt|hge
    ·exfalso;have hun:listed.getD j false=false:=by
      cases hx:listed.getD j false with
      |false=>rfl
      |true=>have:=(hl j hlt).1 hx;omega
     have hm:j∈(Afm ops.size).filter fun i=>!listed.getD i false:=Afh.2 ⟨Afl.2 hlt,by rw[hun];rfl⟩;have:=List.length_pos_of_mem hm;unfold Ey at hc;omega
    ·omega
   subst hje;have hr:Region.ready .any ops listed = []:=by
    cases hr:Region.ready .any ops listed with
    |nil=>rfl
    |cons i l =>
      exfalso;obtain⟨h0,o,ho,_⟩:=mem_ready.1 (show i∈Region.ready .any ops listed by rw[hr];simp);have hi:=(Afv.1 ho).1;have:=(hl i hi).2 hi;have hil:i<listed.size:=by omega
      rw[LS,rN hil]at h0 this;rw[AfJ]at h0 this;rw[h0]at this;cases this
   have hd:ops.toList.drop ops.size = []:=by simp
   rw[hd]at h;exact⟨hr,hK _ _ _ h hsat⟩
 |succ fuel ih =>
   intro j listed st a w hkj hj hsz hl clo h hsat hc;refine⟨fun hr=>?_,fun i hi=>?_⟩
   ·have hje : j = ops.size :=by
     rcases AfP j ops.size with hlt|hge
     ·exfalso;have ho:ops[j]? = some ops[j]:=rN hlt;have hun:listed.getD j false=false:=by
       cases hx:listed.getD j false with
       |false=>rfl
       |true=>have:=(hl j hlt).1 hx;omega
      have hmem:j∈Region.ready .any ops listed:=mem_ready.2 ⟨by
       have:j<listed.size:=by omega
       rw[LS,rN this]at hun ⊢;exact hun,ops[j],ho,fun e he hb=>by
        have:=nC ho (suf j hkj hlt) e he hb;exact(hl e.on (by omega)).2 this⟩
      rw[hr]at hmem;cases hmem
     ·omega
    subst hje;have hd:ops.toList.drop ops.size = []:=by simp
    rw[hd]at h;exact hK _ _ _ h hsat
   ·obtain⟨h0,o,ho,hafter⟩:=mem_ready.1 hi;have hisz:=(Afv.1 ho).1;have hilt:i<listed.size:=by omega
    have hunl:listed.getD i false=false:=by
     rw[LS,rN hilt]at h0 ⊢;exact h0
    have hij:i=j:=by
     have h1:¬ i<j:=fun hlt=>by have:=(hl i hisz).2 hlt;rw[hunl]at this;cases this
     have h2:=nA clo ho (suf i (by omega) hisz) (fun z hz=>(hl z (hZk z hz).2).2 (by have:=(hZk z hz).1;omega)) hafter;rcases AfP j i with hlt|hge
     ·have:=(hl j (by omega)).1 (h2 j hlt);omega
     ·omega
    subst hij;have hdrop:ops.toList.drop i=o::ops.toList.drop (i+1):=by
     have hi':i<ops.toList.length:=by simpa using hisz
     rw[List.drop_eq_getElem_cons hi'];congr 1;have:=(Afv.1 ho).2;simpa using this
    rw[hdrop]at h;obtain⟨env,M,X,S⟩:=hsat;obtain⟨k1,k2⟩:=OW hG hC h S;have next:∀a' w',(∃st',EI P C ops (ops.toList.drop (i+1)) st' K/\AQ P G st' a' w')->wpAnyIn (W ro) n P .any ops Q fuel (listed.setIfInBounds i true) a' w':=fun a' w' ⟨st',hk,hs'⟩=>by
     refine ih (i+1) _ st' a' w' (by omega) (by omega) (by simpa using hsz) (fun m hm=>⟨fun hx=>?_,fun hx=>?_⟩) (fun m om hom hlm e' he' hb'=>?_) hk hs' (by have:=IZ (n:=ops.size) hisz hilt hunl;omega)
     ·rcases Fb hx with rfl|hx
      ·omega
      ·have:=(hl m hm).1 hx;omega
     ·rcases AfP m i with hlt|hge
      ·exact DR ((hl m hm).2 hlt)
      ·obtain rfl:m=i:=by omega
       exact Hs hilt
     ·rcases Fb hlm with rfl|hlm
      ·rw[ho]at hom;cases hom;exact DR (hafter e' he' hb')
      ·exact DR (clo m om hom hlm e' he' hb')
    unfold wpOpIn;rw[ho];simp only;split
    ·rename_i hw;have:=k1 hw;refine MJ (N:=wpAnyIn (W ro) n P .any ops Q fuel (listed.setIfInBounds i true)) ?_;obtain⟨l1,l2⟩:=this;refine⟨l1,?_⟩;rcases l2 with ⟨u,w',hr,hk⟩|⟨w',hr,hk⟩|⟨f,args,w',hr,hk⟩|⟨l,f,tmps,assign,body,w',hr,hk⟩
     ·exact .inl ⟨u,w',hr,next _ _ hk⟩
     ·exact .inr (.inl ⟨w',hr,next _ _ hk⟩)
     ·exact .inr (.inr (.inl ⟨f,args,w',hr,FW hk fun e w'' ⟨v,he,hk⟩=>⟨v,he,next _ _ hk⟩⟩))
     ·exact .inr (.inr (.inr ⟨l,f,tmps,assign,body,w',hr,J7 hk fun e w'' ⟨v,he,hk⟩=>⟨v,he,next _ _ hk⟩⟩))
    ·rename_i hw;exact⟨fun _ _=>trivial,next _ _ (k2 hw)⟩
theorem MM {o:Oper} {a:Act} {w:World} {N N':Act->World->Prop} (h:GD P a o w N) (k:∀a' w',N a' w'->N' a' w'):GD P a o w N':=by
 obtain⟨l1,l2⟩:=h;refine⟨l1,?_⟩;rcases l2 with ⟨u,w',hr,hk⟩|⟨w',hr,hk⟩|⟨f,args,w',hr,hk⟩|⟨l,f,tmps,assign,body,w',hr,hk⟩
 ·exact .inl ⟨u,w',hr,k _ _ hk⟩
 ·exact .inr (.inl ⟨w',hr,k _ _ hk⟩)
 ·exact .inr (.inr (.inl ⟨f,args,w',hr,FW hk fun e w'' ⟨v,he,hk⟩=>⟨v,he,k _ _ hk⟩⟩))
 ·exact .inr (.inr (.inr ⟨l,f,tmps,assign,body,w',hr,J7 hk fun e w'' ⟨v,he,hk⟩=>⟨v,he,k _ _ hk⟩⟩))
theorem JP {o:Oper} {d s:Nat} (h:FX o=some (d,s)):(o.op=.move (.tmp s)\/∃n,o.op=.extract (.tmp s) n)/\o.dst=some d/\o.guard=none:=by
 unfold FX at h;split at h
 ·rename_i h1 h2 h3;cases h;exact⟨.inl h1,h2,h3⟩
 ·rename_i h1 h2 h3;cases h;exact⟨.inr ⟨_,h1⟩,h2,h3⟩
 ·cases h
theorem nD {o:Oper} {d s:Nat} (h:FX o=some (d,s)) {a a':Act} (he:a'.eval (.tmp s)=a.eval (.tmp s)):execOp a'.eval o=execOp a.eval o:=by
 obtain⟨h1|⟨n,h1⟩,_,_⟩:=JP h
 ·simp only[execOp,h1,he]
 ·simp only[execOp,h1,he]
theorem MN {o:Oper} {d s:Nat} (h:FX o=some (d,s)) {a:Act} {w w':World} {x:Next} (hr:(execOp a.eval o).run P w=.ok x w'):∃u,x=.value u/\w'=w/\∀w2,(execOp a.eval o).run P w2=.ok (.value u) w2:=by
 obtain⟨h1|⟨n,h1⟩,_,_⟩:=JP h
 ·simp only[execOp,h1]at hr ⊢;cases hr;exact⟨_,rfl,rfl,fun _=>rfl⟩
 ·simp only[execOp,h1]at hr ⊢;unfold Instr.extract at hr ⊢;split at hr
  ·rename_i vs hv;split at hr
   ·rename_i v hx;cases hr;exact⟨v,rfl,rfl,fun _=>rfl⟩
   ·cases hr
  ·cases hr
theorem SK {o:Oper} {a:Act} {w:World} {N:Act->World->Prop} {d s:Nat} (h:GD P a o w N) (hm:FX o=some (d,s)):∃u,(∀w2,(execOp a.eval o).run P w2=.ok (.value u) w2)/\N (a.put (some d) u) w:=by
 obtain⟨_,hd,_⟩:=JP hm;rcases h.2 with ⟨u,w',h1,h2⟩|⟨w',h1,h2⟩|⟨f,args,w',h1,h2⟩|⟨l,f,tmps,assign,body,w',h1,h2⟩
 ·obtain⟨v,e1,e2,e3⟩:=MN hm h1;cases e1;subst e2;rw[hd]at h2;exact⟨u,e3,h2⟩
 ·obtain⟨v,e1,_,_⟩:=MN hm h1;cases e1
 ·obtain⟨v,e1,_,_⟩:=MN hm h1;cases e1
 ·obtain⟨v,e1,_,_⟩:=MN hm h1;cases e1
theorem OX {ops:Array Oper} {o:Oper} {a:Act} {d s:Nat} (hm:FX o=some (d,s)):Region.wanted o (yielded ops a.tmps)=true:=by
 obtain⟨_,_,hg⟩:=JP hm;simp[Region.wanted,hg]
theorem OY {F:Fence} {n:Nat} {ops:Array Oper} {md:Region.Mode} {Q Q':Exit->Act->World->Prop} (h:∀e a w,Q' e a w->Q e a w) :
  ∀(fuel:Nat) (listed:Array Bool) (a:Act) (w:World),wpAnyIn F n P md ops Q' fuel listed a w->wpAnyIn F n P md ops Q fuel listed a w
 |0,listed,a,w,hw=>⟨hw.1,h _ _ _ hw.2⟩
 |fuel+1,listed,a,w,hw=>by
   refine⟨fun hr=>h _ _ _ (hw.1 hr),fun i hi=>?_⟩;have h1:=wpOpIn_mono (fun a' w'=>OY h fuel (listed.setIfInBounds i true) a' w') (hw.2 i hi);unfold wpOpIn at *;split
   ·rename_i ho;simpa[ho]using h1
   ·rename_i o ho;simp only[ho]at h1;split
    ·rename_i hwd;simp only[hwd,if_true]at h1;unfold Oper.wpIn at *;refine⟨h1.1,?_⟩;have h2:=h1.2;generalize (o.semAt F.round a.eval).run P w=r at *;have hL:LetsOut Q'->LetsOut Q:=fun⟨a,w,q⟩=>⟨a,w,h _ _ _ q⟩;cases r with
     |ok x w' =>
       cases x<;>simp only[Oper.uponIn]at h2 ⊢<;>first|exact h2|skip
       ·refine⟨h2.1,CallsIn.mono h2.2 fun e w'' he=>?_⟩;cases e with
        |returned u=>exact he
        |panicked c=>exact h _ _ _ he
        |outgrown=>exact hL he
       ·refine⟨h2.1,RoundIn.mono h2.2 fun e w'' he=>?_⟩;cases e with
        |returned u=>exact he
        |panicked c=>exact h _ _ _ he
        |outgrown=>exact hL he
     |halt x w' =>
       cases x<;>simp only[Oper.uponIn]at h2 ⊢<;>first|exact h _ _ _ h2|exact h2
    ·rename_i hwd;simp only[hwd]at h1;exact h1
theorem nF {ro:Option Nat} {n:Nat} {ops:Array Oper} {Q:Exit->Act->World->Prop} {j:Nat} {oj:Oper} (hj:ops[j]? = some oj) {d s:Nat} {v:Value} (h1:d ∉ oj.looksAt ops) (h2:oj.dst≠some d) (h3:oj.dst≠some s) (h4:∀c,oj.op ≠ .defer c) (h5:∀cs b,oj.op ≠ .select cs b)
  (hQ:∀c a w,¬ Q (.panic c) a w) {K:Act->World->Prop} {a:Act} {w:World} (h:wpOpIn (W ro) n P ops Q j K (a.put (some d) v) w) :
  wpOpIn (W ro) n P ops Q j (fun a' w'=>a'.eval (.tmp s)=a.eval (.tmp s)/\K (a'.put (some d) v) w') a w:=by
 have h1':∀t,some d=some t->t ∉ oj.looksAt ops:=fun t e=>by cases e;exact h1
 have keep:∀u,(a.put oj.dst u).eval (.tmp s)=a.eval (.tmp s):=fun u=>Act.eval_put fun t ht e=>by cases e;exact h3 ht
 have swap:∀u,(a.put (some d) v).put oj.dst u=(a.put oj.dst u).put (some d) v:=fun u=>Act.put_comm a v u fun t ht=>by cases ht;exact h2
 unfold wpOpIn at *;simp only[hj]at *;rw[wanted_put oj a (some d) v h1',about_put oj w a (some d) v h1']at h;split
 ·rename_i hw;simp only[hw,if_true]at h;unfold Oper.wpIn at *;rw[about_put oj w a (some d) v h1']at h;refine⟨h.1,?_⟩;have h:=h.2;rw[Oper.semAt_eq _ _ _ h4,execOp_put oj h5 a (some d) v h1']at h;rw[Oper.semAt_eq _ _ _ h4];generalize (execOp a.eval oj).run P w=r at *;cases r with
  |ok x w' =>
    cases x<;>simp only[Oper.uponIn]at h ⊢
    case value u=>exact⟨keep u,by rw[<- swap];exact h⟩
    case skip=>exact⟨keep _,by rw[<- swap];exact h⟩
    case defer q =>
     refine⟨Act.eval_put (a:={ a with defers:=q::a.defers }) fun t ht e=>by cases e;exact h3 ht,?_⟩;rw[<- Act.put_comm _ v undef (fun t ht=>by cases ht;exact h2),<- Act.put_defers];exact h
    case enter f args =>
     refine⟨h.1,CallsIn.mono h.2 fun e w'' he=>?_⟩;cases e with
     |returned u=>exact⟨keep u,by rw[<- swap];exact he⟩
     |panicked c=>exact(hQ _ _ _ he).elim
     |outgrown=>exact he
    case row row args=>exact⟨h.1,RowsIn.mono h.2 fun u w'' he=>⟨keep u,by rw[<- swap];exact he⟩⟩
    case round l f tmps assign body =>
     refine⟨h.1,RoundIn.mono h.2 fun e w'' he=>?_⟩;cases e with
     |returned u=>exact⟨keep u,by rw[<- swap];exact he⟩
     |panicked c=>exact(hQ _ _ _ he).elim
     |outgrown=>exact he
  |halt x w' =>
    cases x<;>simp only[Oper.uponIn]at h ⊢
    case panic u=>exact(hQ _ _ _ h).elim
 ·rename_i hw;simp only[hw]at h;exact⟨h.1,keep _,by rw[<- swap];exact h.2⟩
theorem OZ {ops:Array Oper} (h:JM ops=true) {j:Nat} {o:Oper} (ho:ops[j]? = some o):(∀c,o.op ≠ .defer c)/\∀cs b,o.op ≠ .select cs b:=by
 have:=Agl.1 h o (Array.mem_of_getElem? ho);constructor
 ·intro c e;simp[e]at this
 ·intro cs b e;simp[e]at this
theorem nG {ops:Array Oper} {i:Nat} {oi:Oper} {d s:Nat} (hi:ops[i]? = some oi) (hm:FX oi=some (d,s)) (h:JL ops i=true) :
  ∀(j:Nat) (oj:Oper),ops[j]? = some oj->j≠i->(∀e,e∈oj.after->Region.binds .any e=true->e.on≠i)->(∀e,e∈oi.after->Region.binds .any e=true->e.on≠j)->d ∉ oj.looksAt ops/\oj.dst≠some d/\oj.dst≠some s:=by
 unfold JL at h;rw[hi]at h;simp only[hm,nT]at h;obtain⟨_,h3⟩:=h;intro j oj hj hne hno hno2;have h4:=Afj.1 h3 j (Afl.2 (Afv.1 hj).1);simp only[hj,AfE,beq_iff_eq,hne,false_or,nT,AfA,beq_eq_false_iff_ne]at h4;refine⟨?_,h4.1.2,?_⟩
 ·rcases h4.1.1 with h5|h5
  ·obtain⟨e,he,hb⟩:=Array.any_eq_true'.1 h5;simp only[nT,beq_iff_eq]at hb;exact absurd hb.2 (hno e he hb.1)
  ·simpa using h5
 ·rcases h4.2 with h5|h5
  ·obtain⟨e,he,hb⟩:=Array.any_eq_true'.1 h5;simp only[nT,beq_iff_eq]at hb;exact absurd hb.2 (hno2 e he hb.1)
  ·exact h5
theorem nH {ro:Option Nat} {n:Nat} {ops:Array Oper} {Q:Exit->Act->World->Prop} {i:Nat} {oi:Oper} {d s:Nat} (hi:ops[i]? = some oi) (hm:FX oi=some (d,s)) (hl:JL ops i=true) (hp:JM ops=true) (hQ:∀c a w,¬ Q (.panic c) a w) {u:Value} :
  ∀(fuel:Nat) (listed:Array Bool) (a:Act) (w:World),listed.getD i true=false->(∀e,e∈oi.after->Region.binds .any e=true->listed.getD e.on false=true)->(∀w2,(execOp a.eval oi).run P w2=.ok (.value u) w2) ->
    wpAnyIn (W ro) n P .any ops Q fuel (listed.setIfInBounds i true) (a.put (some d) u) w->wpAnyIn (W ro) n P .any ops Q (fuel+1) listed a w:=by
 have l2:=nG hi hm hl;obtain⟨m1,m2,m3⟩:=JP hm;have ready:∀listed:Array Bool,listed.getD i true=false->(∀e,e∈oi.after->Region.binds .any e=true->listed.getD e.on false=true)->i∈Region.ready .any ops listed:=fun listed h k=>mem_ready.2 ⟨h,oi,hi,k⟩;have nodef:∀c,oi.op ≠ .defer c:=fun c e=>by
  rcases m1 with m1|⟨_,m1⟩<;>rw[m1]at e<;>cases e
 have now:∀{K:Act->World->Prop} {a:Act} {w:World},(∀w2,(execOp a.eval oi).run P w2=.ok (.value u) w2)->K (a.put (some d) u) w->wpOpIn (W ro) n P ops Q i K a w:=fun {K a w} hr h=>by
  unfold wpOpIn;rw[hi];simp only[OX hm,if_true];refine⟨fun _ _=>trivial,?_⟩;rw[Oper.semAt_eq _ _ _ nodef,hr];show K (a.put oi.dst _) w;rw[m2];exact h
 intro fuel
 induction fuel with
 |zero =>
   intro listed a w hun haf hr H;refine⟨fun h=>(by have:=ready listed hun haf;rw[h]at this;cases this),fun j hj=>?_⟩
   by_cases hji:j=i
   ·subst hji;exact now hr H
   ·have:=ready_mono hj hji;rw[H.1]at this;cases this
 |succ fuel ih =>
   intro listed a w hun haf hr H;refine⟨fun h=>(by have:=ready listed hun haf;rw[h]at this;cases this),fun j hj=>?_⟩
   by_cases hji:j=i
   ·subst hji;exact now hr H
   ·have h1:=H.2 j (ready_mono hj hji);obtain⟨hju,oj,hoj,hall⟩:=mem_ready.1 hj;have hno:∀e,e∈oj.after->Region.binds .any e=true->e.on≠i:=fun e he hb heq=>by
     have h1:=hall e he hb;rw[heq]at h1;rcases AfP i listed.size with h'|h'
     ·simp[h']at hun h1;rw[hun]at h1;cases h1
     ·simp[Ag6 h']at h1
    have hno2:∀e,e∈oi.after->Region.binds .any e=true->e.on≠j:=fun e he hb heq=>by
     have h1:=haf e he hb;rw[heq]at h1;rcases AfP j listed.size with h'|h'
     ·simp[h']at hju h1;rw[hju]at h1;cases h1
     ·simp[Ag6 h']at h1
    obtain⟨p1,p2,p3⟩:=l2 j oj hoj hji hno hno2;obtain⟨p4,p5⟩:=OZ hp hoj;have h2:=nF hoj p1 p2 p3 p4 p5 hQ h1;refine wpOpIn_mono (fun a' w' h3=>?_) h2;obtain⟨h3,h4⟩:=h3;refine ih (listed.setIfInBounds j true) a' w' (by rw[getD_set_ne true hji];exact hun) (fun e he hb=>DR (haf e he hb)) (fun w2=>by rw[nD hm h3];exact hr w2) ?_;rw[Array.setIfInBounds_comm _ _ hji];exact h4
theorem JQ {l:List (Nat×Aq)} {k k':Nat} {o o':Aq} (h:(k',o')∈l) (hn:k'≠k):(k',o')∈Ck l k o:=Afi.2 ⟨(k',o'),h,by simp[hn]⟩
theorem SM {k:Nat}:∀(cs:List EV) (off:Nat) (e:EV),EV.names.namesL k cs=false->e.names k=false->EV.names.namesL k (cs.set off e)=false
 |[],_,_,h,_=>h
 |c::cs,0,e,h,he=>by
   simp only[EV.names.namesL,Age,List.set_cons_zero]at h ⊢;exact⟨he,h.2⟩
 |c::cs,off+1,e,h,he=>by
   simp only[EV.names.namesL,Age,List.set_cons_succ]at h ⊢;exact⟨h.1,SM cs off e h.2 he⟩
theorem SN {k:Nat}:∀(l:List EV) (cs:List EV) (off:Nat),EV.names.namesL k cs=false->(∀e,e∈l->e.names k=false)->EV.names.namesL k (Ew cs off l)=false
 |[],cs,off,h,_=>h
 |e::l,cs,off,h,hl=>SN l _ _ (SM cs off e h (hl e (by simp))) (fun e' he'=>hl e' (by simp[he']))
theorem SO {k:Nat}:∀{l:List EV},(Dc l).isSome=true->∀e,e∈l->e.names k=false
 |[],_,e,h=>by cases h
 |c::l,h,e,he=>by
   cases c with
   |p s =>
     simp only[Dc,Option.isSome_map]at h;rcases Afk.1 he with rfl|he
     ·rfl
     ·exact SO h e he
   |_=>simp[Dc]at h
theorem HB {l:Array Bool} {i j:Nat} (h:j≠i):(l.setIfInBounds i true).getD j false=l.getD j false:=by
 rw[LS,Agq,if_neg (fun e=>h e.symm),LS]
theorem nI (hG:Bq G) {C:Ak} (hC:EK P G C) {ro:Option Nat} {n:Nat} {ops:Array Oper} {Q:Exit->Act->World->Prop} {K:St->Prop} (hK:∀st a w,K st->AQ P G st a w->Q .normal a w) (hQ:∀c a w,¬ Q (.panic c) a w)
  {st:St} (h:MF P C ops st K) {a:Act} {w:World} (hs:AQ P G st a w):wpAnyIn (W ro) n P .any ops Q ops.size (AfR ops.size false) a w:=by
 unfold MF SB at h;generalize hstf:(st.noGuards ops.toList).forgets (Ft P ops.toList)=stf at h;generalize hE:OO ops stf.own=E at h;generalize OQ P C ops E ops.toList (stf.minus ops)=k at h;split at h
 ·rename_i hchk0;simp only[nT]at hchk0;obtain⟨hchk,hsuf⟩:=hchk0;obtain⟨Z,eZ⟩:∃Z,OR ops k=Z:=⟨_,rfl⟩;rw[eZ]at hsuf;have hZ:∀z,z∈Z->z<k/\z<ops.size/\JL ops z=true/\JM ops=true:=fun z hz=>by
   rw[<- eZ]at hz;unfold OR at hz;split at hz
   ·rename_i hc;rw[nT]at hc;obtain⟨h1,h2⟩:=Afh.1 hz;rw[nT]at h2;have:=Afl.1 h1;have h3:k<ops.size:=of_decide_eq_true hc.1;exact⟨this,by omega,h2.1,hc.2⟩
   ·cases hz
  have taken:∀{i:Nat} {o:Oper},i<k->ops[i]? = some o->(ops.toList.take k)[i]? = some o:=fun hi h=>by rw[List.getElem?_take,if_pos hi];simpa using h
  have untake:∀{i:Nat} {o:Oper},(ops.toList.take k)[i]? = some o->i<k/\ops[i]? = some o:=fun {i o} h=>by
   rw[List.getElem?_take]at h;split at h
   ·exact⟨by assumption,by simpa using h⟩
   ·cases h
  split at h
  ·rename_i ps es stF hgo;split at h;rotate_left
   ·exact h.elim
   rename_i hac;obtain⟨hac,hnda⟩:=Bool.and_eq_true_iff.1 hac;have hnda:=FC hnda;obtain⟨hps,hKF⟩:=Bz h;generalize hst0:stf.minus ops=st00 at *;have hstT:∀x,x∈st00.T->x∈(st.noGuards ops.toList).T/\∀d,d∈Ft P ops.toList->x.2.v.names d=false:=fun x hx=>by rw[<- hst0]at hx;have hx:x∈stf.T:=hx;rw[<- hstf]at hx;exact mY _ hx
   have hstO:=mX (st.noGuards ops.toList) (Ft P ops.toList);rw[hstf]at hstO;have h0T:∀x,x∈st00.T↔x∈stf.T:=fun x=>by rw[<- hst0];exact Iff.rfl
   have h0O:∀x,x∈st00.own↔x∈stf.own/\(Hq ops x.1&&JK x.2)=false:=fun x=>by
    rw[<- hst0];show x∈stf.own.filter _↔_;rw[Afh,AfA]
   have hEm:∀x,x∈E↔x∈stf.own/\(Hq ops x.1&&JK x.2)=true:=fun x=>by
    rw[<- hE];exact Afh
   have h0yk:st00.yk=stf.yk/\st00.stop=stf.stop/\st00.nt=stf.nt:=by rw[<- hst0];exact⟨rfl,rfl,rfl⟩
   obtain⟨hlen,⟨twF,hF⟩,hat⟩:=SF _ _ _ _ _ hgo;have hchk':=fun i o hi=>OU (ops.toList.take k) 0 hchk i o hi;simp only[Nat.zero_add]at hchk';have oper:∀{i:Nat} {o:Oper},ops[i]? = some o->ops.toList[i]? = some o:=fun h=>by simpa using h
   have noG:∀x,x∈st00.T->∀(j:Nat) (oj:Oper) d,ops[j]? = some oj->oj.dst=some d->x.2.by d=false:=fun x hx j oj d hj hd=>by
    have h1:=(Afh.1 (hstT x hx).1).2;simp only[AfA,List.any_eq_false]at h1;have:=h1 oj (Agb (oper hj));rw[hd]at this;simpa using this
   have hsub:AQ P G stf a w:=by
    obtain⟨env,M,X,S⟩:=hs;exact⟨env,M,X,S.sub (fun x hx=>(Afh.1 (hstT x ((h0T x).2 hx)).1).1) (fun _ hx=>by rw[hstO.1]at hx;exact hx) (by rw[hstO.1];exact S.nod) hstO.2.1 hstO.2.2.2⟩
   have hndf:(stf.own.map (·.1)).Nodup:=by obtain⟨_,_,_,S⟩:=hsub;exact S.nod
   have hnd0:(st00.own.map (·.1)).Nodup:=by
    rw[<- hst0];exact hndf.sublist (List.Sublist.map _ List.filter_sublist)
   have hkey:∀x y,x∈stf.own->y∈stf.own->x.1=y.1->x=y:=fun x y hx hy e=>by
    have h1:=Hn (k:=x.1) (o:=x.2) hndf hx;have h2:=Hn (k:=y.1) (o:=y.2) hndf hy;rw[e,h2]at h1;injection h1 with h1;exact Prod.ext e h1.symm
   have exNo:∀(d:Nat),Hq ops d=true->∀(j:Nat) (oj:Oper),ops[j]? = some oj->oj.dst≠some d:=fun d hd j oj hj hdst=>by
    unfold Hq at hd;simp only[nT,AfA,List.any_eq_false]at hd;exact hd.2.2 oj (Agb (oper hj)) (by simp[Ic,hdst])
   have stA:∀(js:Nat) (os:Oper) (t:TypeId) (d:Nat) (x:Operand),js<k->ops[js]? = some os->Fu os=some (t,d,x)->ops.toList.any (JH t d)=true->∃(i0:Nat) (o0:Oper),i0<js/\ops[i0]? = some o0/\o0.dst=some d/\∃e,e∈os.after/\Region.binds .any e=true/\e.on=i0:=by
    intro js os t d x hjk hj hs hmade;obtain⟨sti,psi,e,hstep,_,_,_,hTi⟩:=hat js os (taken hjk hj);obtain⟨y,hy,hb,_⟩:=MH hs hstep;have hdd:d∈Ft P ops.toList:=by
     obtain⟨om,hm1,hm2⟩:=Ag5.1 hmade;unfold JH at hm2;split at hm2
     ·rename_i t' d' h1 h2;simp only[nT,beq_iff_eq]at hm2;obtain⟨rfl,rfl⟩:=hm2;refine MK (o:=om) (o':=.blk t' (y.zero.cells.toList.map fun v=>.p (Cj v))) hm1 ?_;unfold Cv;rw[h1,h2];simp[hy]
     ·cases hm2
    obtain⟨en,hen,hev⟩:∃en,Hf (sti.only (C7 ops os)).T d=some en/\en.v=.loc d 0:=by
     unfold St.rho St.ent at hb;simp only at hb;split at hb
     ·rename_i en hen;split at hb
      ·injection hb with hb;exact⟨en,hen,hb⟩
      ·cases hb
     ·cases hb
    have hm:=HR hen;obtain⟨hm1,hm2⟩:=Afh.1 hm;have hds:d∈C7 ops os:=by simpa using hm2
    rcases hTi _ hm1 with ⟨h1,_⟩|⟨j,oj,hlt,hj',hd,_⟩
    ·have:=(hstT _ h1).2 d hdd;simp only[hev]at this;simp[EV.names]at this
    ·have:=((hchk' js os (taken hjk hj)).2 j oj d (by omega) hj' hd).2.1 hds;rw[if_pos hlt]at this;obtain⟨e',he',hb',hon⟩:=IX this;exact⟨j,oj,hlt,(untake hj').2,hd,e',he',hb',hon⟩
   have plainC:∀(js:Nat) (os:Oper) (t:TypeId) (d:Nat) (x:Operand) (e:AG),js<k->ops[js]? = some os->Fu os=some (t,d,x)->es[js]? = some e->(Dc (BG e.v)).isSome=true:=by
    intro js os t d x e hjk hj hs he;obtain⟨sti,psi,e',hstep,hes,_,_,_⟩:=hat js os (taken hjk hj);rw[he]at hes;cases hes;obtain⟨_,_,_,_,_,_,_,_,_,_,hp⟩:=MH hs hstep;exact hp
   have contN:∀(q:Nat->Bool) (z:Nat×Aq),(∀j,q j=true->j<k)->∀k',z.2.names k'=false->(BT ops es q z).2.names k'=false:=by
    intro q z hq k' hz;unfold BT;split
    ·rename_i t cs j h1 h2;split
     ·rename_i e hqj hej;obtain⟨os,t',x',hos,hso⟩:=Gs h2;have hz':=hz;rw[h1]at hz';exact SN _ _ _ hz' (SO (plainC j os t' z.1 x' e (hq j hqj) hos hso hej))
     ·exact hz
    ·exact hz
   have step : ∀(listed : Array Bool) (a : Act) (w : World), IY P G ops E st00 es listed a w->(∀i, listed.getD i false = true->i<k)->∀(i:Nat) (o : Oper), i<k->ops[i]? = some o->listed.getD i false = false->(∀e, e∈o.after->Region.binds .any e = true->listed.getD e.on false = true) ->
    (Region.wanted o (yielded ops a.tmps)=true->GD P a o w (fun a' w'=>IY P G ops E st00 es (listed.setIfInBounds i true) a' w'))/\(¬ Region.wanted o (yielded ops a.tmps)=true->IY P G ops E st00 es (listed.setIfInBounds i true) (a.put o.dst undef) w):=by
    intro listed a w inv hpre i o hik ho hunl hafter;have hisz:=(Afv.1 ho).1;have hilt:i<listed.size:=by rw[inv.siz];exact hisz
    obtain⟨c1,c2⟩:=hchk' i o (taken hik ho);obtain⟨sti,psi,e,hstep,hes,hpsi,twi,hTi⟩:=hat i o (taken hik ho);obtain⟨st2,tw,hO,hT,env,M,X,S⟩:=inv.sat;have S2:Am P G (sti.only (C7 ops o)) a w env M X:=by
     refine S.sub (fun x hx=>(hT x).2 ?_) (fun x hx=>(hO x).2 (.inl (by rw[<- twi.1];exact hx))) (by show(sti.own.map (·.1)).Nodup;rw[twi.1];exact hnd0) (twi.2.1.trans tw.1.symm) (twi.2.2.2.trans tw.2.2.symm);obtain⟨hx1,hx2⟩:=Afh.1 hx;have hx2:x.1∈C7 ops o:=by simpa using hx2
     rcases hTi x hx1 with ⟨h1,h2⟩|⟨j,oj,hlt,hj,hd,he⟩
     ·refine .inl ⟨h1,fun j oj hj hl hd=>?_⟩;have hne:j≠i:=fun e=>by subst e;rw[hunl]at hl;cases hl
      rcases AfP j i with hlt|hge
      ·exact h2 j oj hlt (taken (hpre j hl) hj) hd
      ·have:=(c2 j oj _ hne (taken (hpre j hl) hj) hd).2.1 hx2;rw[if_neg (by omega)]at this;obtain⟨e',he',hb',hon⟩:=IX this;have:=inv.clo j oj hj hl e' he' hb';rw[hon,hunl]at this;cases this
     ·have hj':ops[j]? = some oj:=(untake hj).2;have:=(c2 j oj _ (by omega) hj hd).2.1 hx2;rw[if_pos hlt]at this;obtain⟨e',he',hb',hon⟩:=IX this;have hl:=hafter e' he' hb';rw[hon]at hl;exact .inr ⟨j,oj,hj',hl,hd,he⟩
    cases hso:Fu o with
    |some sx =>
      obtain⟨t,d,x⟩:=sx;obtain⟨y,hy,hb,hx,heg,s1c,s2c,hmk,huse,hone,hplain⟩:=MH hso hstep;obtain⟨s1,s2,s3⟩:=OT hso;have hwant:Region.wanted o (yielded ops a.tmps)=true:=by simp[Region.wanted,s3]
      have hst:=mV ho hso huse;rcases hmk with ⟨hmade,hmake⟩|⟨hex,hblk⟩;rotate_left
      ·obtain⟨t0, cs, hlE, hcs⟩: ∃t0 cs, BF E d = some (.blk t0 cs)/\y.size<=cs.length :=by
        unfold OP at hblk;split at hblk
        ·rename_i t0 cs hl;exact⟨t0,cs,hl,of_decide_eq_true hblk⟩
        ·cases hblk
       have hdE:=Bp hlE;have hdf:=((hEm _).1 hdE).1;have hmem:(d,Aq.blk t0 cs)∈st2.own:=(hO _).2 (.inr (.inr ⟨_,hdE,(Lj (fun j hj=>by rw[hst]at hj;cases hj;exact hunl)).symm⟩));have hlk:=Hn S.nod hmem;have hsym:H3 st2 y (.loc d 0) e.v=some ([],{ st2 with own:=Ck st2.own d (.blk t0 (Ew cs 0 (BG e.v))) }):=by
        simp only[H3,hlk];rw[if_pos ⟨s1c,by omega,hone⟩]
       obtain⟨w',hr,S'⟩:=O6 hG S hy hsym K7 (Bf S2 (gd:=none) (fun _ _ _ h=>(by cases h)) trivial hb) (Bf S2 (gd:=none) (fun _ _ _ h=>(by cases h)) trivial hx);refine⟨fun _=>⟨fun c hc=>(by rw[s1]at hc;cases hc),.inr (.inl ⟨w',(by simp only[execOp,s1];exact KV hr),?_⟩)⟩,fun hn=>absurd hwant hn⟩;rw[s2];have hcg:∀y':Nat×Aq,y'.1≠d->BT ops es (fun j=>(listed.setIfInBounds i true).getD j false) y'=BT ops es (fun j=>listed.getD j false) y':=fun y' hyd=>IW fun js hjs=>HB fun e=>by
        subst e;obtain⟨o',t',x',ho',hs'⟩:=Gs hjs;rw[ho]at ho';cases ho';rw[hso]at hs';cases hs';exact hyd rfl
       have hnew:BT ops es (fun j=>(listed.setIfInBounds i true).getD j false) (d,.blk t0 cs)=(d,.blk t0 (Ew cs 0 (BG e.v))):=by
        unfold BT;simp only[hst,Hs hilt,hes]
       refine⟨by simpa using inv.siz,fun j oj hj hl e' he' hb'=>?_,{ st2 with own:=Ck st2.own d (.blk t0 (Ew cs 0 (BG e.v))) },⟨tw.1,tw.2.1,tw.2.2⟩,fun z=>⟨fun hz=>?_,fun hz=>?_⟩,fun z=>⟨fun hz=>?_,fun hz=>?_⟩,env,M,X,S'⟩
       ·rcases Fb hl with rfl|hl
        ·rw[ho]at hj;cases hj;exact DR (hafter e' he' hb')
        ·exact DR (inv.clo j oj hj hl e' he' hb')
       ·rcases DJ (k':=z.1) (o':=z.2) hz with ⟨h1,h2,_⟩|⟨h1,h2⟩
        ·refine .inr (.inr ⟨_,hdE,?_⟩);rw[hnew];exact Prod.ext h1 h2
        ·rcases(hO z).1 h2 with h|⟨j,oj,hj,hl,y',hy',rfl⟩|⟨y',hy',rfl⟩
         ·exact .inl h
         ·rw[Gt]at h1;exact .inr (.inl ⟨j,oj,hj,DR hl,y',hy',(hcg y' h1).symm⟩)
         ·rw[Gt]at h1;exact .inr (.inr ⟨y',hy',(hcg y' h1).symm⟩)
       ·rcases hz with h|⟨j,oj,hj,hl',y',hy',rfl⟩|⟨y',hy',rfl⟩
        ·have hzd : z.1≠d :=fun ed =>by
          obtain⟨q1,q2⟩:=(h0O z).1 h;have:=hkey z _ q1 hdf ed;rw[this,hex]at q2;cases q2
         exact JQ (k':=z.1) (o':=z.2) ((hO z).2 (.inl h)) hzd
        ·obtain⟨e1,e2⟩:=JO (d:=y'.1) (o':=y'.2) hy';have hyd:y'.1≠d:=fun ed=>exNo d hex j oj hj (by rw[e1,ed]);rcases Fb hl' with rfl|hl
         ·rw[ho]at hj;cases hj;unfold Cv at hy';rw[s1]at hy';cases hy'
         ·rw[hcg y' hyd];exact JQ (k':=(BT ops es (fun j=>listed.getD j false) y').1) (o':=(BT ops es (fun j=>listed.getD j false) y').2) ((hO _).2 (.inr (.inl ⟨j,oj,hj,hl,y',hy',rfl⟩))) (by rw[Gt];exact hyd)
        ·by_cases hyd:y'.1=d
         ·have:=hkey y' _ ((hEm y').1 hy').1 hdf hyd;subst this;rw[hnew];exact OD hmem
         ·rw[hcg y' hyd];exact JQ (k':=(BT ops es (fun j=>listed.getD j false) y').1) (o':=(BT ops es (fun j=>listed.getD j false) y').2) ((hO _).2 (.inr (.inr ⟨y',hy',rfl⟩))) (by rw[Gt];exact hyd)
       ·rcases(hT z).1 hz with ⟨h1,h2⟩|⟨j,oj,hj,hl,hd,he⟩
        ·refine .inl ⟨h1,fun j oj hj hl hd=>?_⟩;rcases Fb hl with rfl|hl
         ·rw[ho]at hj;cases hj;rw[s2]at hd;cases hd
         ·exact h2 j oj hj hl hd
        ·exact .inr ⟨j,oj,hj,DR hl,hd,he⟩
       ·refine(hT z).2 ?_;rcases hz with ⟨h1,h2⟩|⟨j,oj,hj,hl',hd,he⟩
        ·exact .inl ⟨h1,fun j oj hj hl=>h2 j oj hj (DR hl)⟩
        ·rcases Fb hl' with rfl|hl
         ·rw[ho]at hj;cases hj;rw[s2]at hd;cases hd
         ·exact .inr ⟨j,oj,hj,hl,hd,he⟩
      obtain⟨i0,o0,hi0,ho0,hd0,e0,he0,hb0,hon0⟩:=stA i o t d x hik ho hso hmade;have hl0:listed.getD i0 false=true:=by rw[<- hon0];exact hafter e0 he0 hb0
      have hnew0:Cv P o0 = [(d,.blk t (y.zero.cells.toList.map fun v=>.p (Cj v)))]:=by
       obtain⟨om,hm1,hm2⟩:=Ag5.1 hmade;obtain⟨im,him⟩:=List.getElem?_of_mem hm1;have hm3:=hm2;unfold JH at hm3;split at hm3
       ·rename_i t' d' h1 h2;simp only[nT,beq_iff_eq]at hm3;obtain⟨rfl,rfl⟩:=hm3;have:=MI hmake him (oper ho0) (by simp[Ic,h2]) (by simp[Ic,hd0]);subst this;rw[oper ho0]at him;cases him;unfold Cv;rw[h1,h2];simp[hy]
       ·cases hm3
      have hmem:(d,Aq.blk t (y.zero.cells.toList.map fun v=>.p (Cj v)))∈st2.own:=(hO _).2 (.inr (.inl ⟨i0,o0,ho0,hl0,_,by rw[hnew0];exact Afr.2 rfl,(Lj (fun j hj=>by rw[hst]at hj;cases hj;exact hunl)).symm⟩));have hlk:=Hn S.nod hmem;have hsym:H3 st2 y (.loc d 0) e.v=some ([],{ st2 with own:=Ck st2.own d (.blk t (Ew (y.zero.cells.toList.map fun v=>.p (Cj v)) 0 (BG e.v))) }):=by
       simp only[H3,hlk];rw[if_pos ⟨s1c,by simp[s2c],hone⟩]
      obtain⟨w',hr,S'⟩:=O6 hG S hy hsym K7 (Bf S2 (gd:=none) (fun _ _ _ h=>(by cases h)) trivial hb) (Bf S2 (gd:=none) (fun _ _ _ h=>(by cases h)) trivial hx);refine⟨fun _=>⟨fun c hc=>(by rw[s1]at hc;cases hc),.inr (.inl ⟨w',(by simp only[execOp,s1];exact KV hr),?_⟩)⟩,fun hn=>absurd hwant hn⟩;rw[s2];refine⟨by simpa using inv.siz,fun j oj hj hl e' he' hb'=>?_,{ st2 with own:=Ck st2.own d (.blk t (Ew (y.zero.cells.toList.map fun v=>.p (Cj v)) 0 (BG e.v))) },⟨tw.1,tw.2.1,tw.2.2⟩,fun z=>⟨fun hz=>?_,fun hz=>?_⟩,fun z=>⟨fun hz=>?_,fun hz=>?_⟩,env,M,X,S'⟩
      ·rcases Fb hl with rfl|hl
       ·rw[ho]at hj;cases hj;exact DR (hafter e' he' hb')
       ·exact DR (inv.clo j oj hj hl e' he' hb')
      ·rcases DJ (k':=z.1) (o':=z.2) hz with ⟨h1,h2,_⟩|⟨h1,h2⟩
       ·refine .inr (.inl ⟨i0,o0,ho0,DR hl0,_,by rw[hnew0];exact Afr.2 rfl,?_⟩);unfold BT;simp only[hst,Hs hilt,hes];exact Prod.ext h1 h2
       ·rcases(hO z).1 h2 with h|⟨j,oj,hj,hl,y',hy',rfl⟩|⟨y',hy',rfl⟩
        ·exact .inl h
        ·refine .inr (.inl ⟨j,oj,hj,DR hl,y',hy',IW fun js hjs=>(HB fun e=>?_).symm⟩);subst e;obtain⟨o',t',x',ho',hs'⟩:=Gs hjs;rw[ho]at ho';cases ho';rw[hso]at hs';cases hs';rw[Gt]at h1;exact h1 rfl
        ·refine .inr (.inr ⟨y',hy',IW fun js hjs=>(HB fun e=>?_).symm⟩);subst e;obtain⟨o',t',x',ho',hs'⟩:=Gs hjs;rw[ho]at ho';cases ho';rw[hso]at hs';cases hs';rw[Gt]at h1;exact h1 rfl
      ·rcases hz with h|⟨j,oj,hj,hl',y',hy',rfl⟩|⟨y',hy',rfl⟩
       ·have hdd:d∈Ft P (ops.toList.take k):=MK (o:=o0) (o':=.blk t (y.zero.cells.toList.map fun v=>.p (Cj v))) (Agb (taken (hpre i0 hl0) ho0)) (by rw[hnew0];exact Afr.2 rfl);obtain⟨n1,_⟩:=ML hac d hdd;exact JQ (k':=z.1) (o':=z.2) ((hO z).2 (.inl h)) (H6 (k':=z.1) (o:=z.2) n1 ((h0O z).1 h).1).1
       ·rcases Fb hl' with rfl|hl
        ·rw[ho]at hj;cases hj;unfold Cv at hy';rw[s1]at hy';cases hy'
        ·obtain⟨e1,e2⟩:=JO (d:=y'.1) (o':=y'.2) hy'
         by_cases hyd:y'.1=d
         ·have:=MI hmake (oper hj) (oper ho0) (by simp[Ic,e1,hyd]) (by simp[Ic,hd0]);subst this;rw[hj]at ho0;cases ho0;rw[hnew0]at hy';have hy':=Afr.1 hy';subst hy';have:BT ops es (fun j=>(listed.setIfInBounds i true).getD j false) (d,.blk t (y.zero.cells.toList.map fun v=>.p (Cj v)))=(d,.blk t (Ew (y.zero.cells.toList.map fun v=>.p (Cj v)) 0 (BG e.v))):=by
           unfold BT;simp only[hst,Hs hilt,hes]
          rw[this];exact OD hmem
         ·have hc : BT ops es (fun j =>(listed.setIfInBounds i true).getD j false) y' = BT ops es (fun j =>listed.getD j false) y' :=IW fun js hjs =>HB fun e =>by
           subst e;obtain⟨o',t',x',ho',hs'⟩:=Gs hjs;rw[ho]at ho';cases ho';rw[hso]at hs';cases hs';exact hyd rfl
          rw[hc];exact JQ (k':=(BT ops es (fun j=>listed.getD j false) y').1) (o':=(BT ops es (fun j=>listed.getD j false) y').2) ((hO _).2 (.inr (.inl ⟨j,oj,hj,hl,y',hy',rfl⟩))) (by rw[Gt];exact hyd)
       ·have hyd : y'.1≠d :=fun ed =>by
         have hx1:=((hEm y').1 hy').2;rw[nT,ed]at hx1;exact exNo d hx1.1 i0 o0 ho0 hd0
        have hc:BT ops es (fun j=>(listed.setIfInBounds i true).getD j false) y'=BT ops es (fun j=>listed.getD j false) y':=IW fun js hjs=>HB fun e=>by
         subst e;obtain⟨o',t',x',ho',hs'⟩:=Gs hjs;rw[ho]at ho';cases ho';rw[hso]at hs';cases hs';exact hyd rfl
        rw[hc];exact JQ (k':=(BT ops es (fun j=>listed.getD j false) y').1) (o':=(BT ops es (fun j=>listed.getD j false) y').2) ((hO _).2 (.inr (.inr ⟨y',hy',rfl⟩))) (by rw[Gt];exact hyd)
      ·rcases(hT z).1 hz with ⟨h1,h2⟩|⟨j,oj,hj,hl,hd,he⟩
       ·refine .inl ⟨h1,fun j oj hj hl hd=>?_⟩;rcases Fb hl with rfl|hl
        ·rw[ho]at hj;cases hj;rw[s2]at hd;cases hd
        ·exact h2 j oj hj hl hd
       ·exact .inr ⟨j,oj,hj,DR hl,hd,he⟩
      ·refine(hT z).2 ?_;rcases hz with ⟨h1,h2⟩|⟨j,oj,hj,hl',hd,he⟩
       ·exact .inl ⟨h1,fun j oj hj hl=>h2 j oj hj (DR hl)⟩
       ·rcases Fb hl' with rfl|hl
        ·rw[ho]at hj;cases hj;rw[s2]at hd;cases hd
        ·exact .inr ⟨j,oj,hj,hl,hd,he⟩
    |none =>
    have hns:∀js,(∃o' t' d' x',ops[js]? = some o'/\Fu o'=some (t',d',x'))->js≠i:=fun js ⟨o',t',d',x',ho',hs'⟩ e=>by
     subst e;rw[ho]at ho';cases ho';rw[hso]at hs';cases hs'
    have hcong:∀z:Nat×Aq,BT ops es (fun j=>(listed.setIfInBounds i true).getD j false) z=BT ops es (fun j=>listed.getD j false) z:=fun z=>IW fun js hjs=>HB (hns js (by
     obtain⟨o',t',x',h1,h2⟩:=Gs hjs;exact⟨o',t',_,x',h1,h2⟩))
    have hself:∀z,z∈Cv P o->BT ops es (fun j=>(listed.setIfInBounds i true).getD j false) z=z:=fun z hz=>Lj fun js hjs=>by
     obtain⟨o',t',x',ho',hs'⟩:=Gs hjs;have hne:=hns js ⟨o',t',_,x',ho',hs'⟩;rw[HB hne];cases hl:listed.getD js false with
     |false=>rfl
     |true =>
       exfalso;obtain⟨e1',_⟩:=JO (d:=z.1) (o':=z.2) hz;have hmd:ops.toList.any (JH t' z.1)=true:=by
        obtain⟨stj,psj,ej,hstepj,_⟩:=hat js o' (taken (hpre js hl) ho');obtain⟨_,_,_,_,_,_,_,hmk,_⟩:=MH hs' hstepj;rcases hmk with h|h
        ·exact h.1
        ·exact absurd e1' (exNo z.1 h.1 i o ho)
       obtain⟨i0,o0,_,ho0,hd0,e0,he0,hb0,hon0⟩:=stA js o' t' z.1 x' (hpre js hl) ho' hs' hmd;have hl0:=inv.clo js o' ho' hl e0 he0 hb0;rw[hon0]at hl0;obtain⟨e1,_⟩:=JO (d:=z.1) (o':=z.2) hz
       by_cases e:i0=i
       ·subst e;rw[hunl]at hl0;cases hl0
       ·exact(c2 i0 o0 _ e (taken (hpre i0 hl0) ho0) hd0).1 e1
    have hfree:∀d o',(d,o')∈Cv P o->st2.noName d=true/\∀x,x∈st2.T->x.2.v.names d=false:=fun d o' hm=>by
     have hod:=(JO hm).1;obtain⟨n1,n2⟩:=ML hac d (MK (Agb (taken hik ho)) hm);have hdd:d∈Ft P ops.toList:=MK (Agb (oper ho)) hm;refine⟨Afj.2 fun y hy=>?_,fun x hx=>?_⟩
     ·rcases(hO y).1 hy with h|⟨j,oj,hj,hl,z,hz,rfl⟩|⟨z,hz,rfl⟩
      ·obtain⟨q1,q2⟩:=H6 (k':=y.1) (o:=y.2) n1 ((h0O y).1 h).1;simp[q1,q2]
      rotate_left
      ·obtain⟨q1,q2⟩:=H6 (k':=z.1) (o:=z.2) n1 ((hEm z).1 hz).1;have hn:=contN (fun j=>listed.getD j false) z hpre d q2;rw[Gt,hn];simp[q1]
      ·have hne:j≠i:=fun e=>by subst e;rw[hunl]at hl;cases hl
       obtain⟨e1,e2⟩:=JO (d:=z.1) (o':=z.2) hz;have:=(c2 j oj _ hne (taken (hpre j hl) hj) e1).1;rw[hod]at this;have hyd:z.1≠d:=fun e=>this (by rw[e]);have hn:=contN (fun j=>listed.getD j false) z hpre d (e2 d);rw[Gt,hn];simp[hyd]
     ·rcases(hT x).1 hx with ⟨h1,_⟩|⟨j,oj,hj,hl,hd,he⟩
      ·exact(hstT x h1).2 d hdd
      ·have hne:j≠i:=fun e=>by subst e;rw[hunl]at hl;cases hl
       rcases mZ n2 (taken (hpre j hl) hj) he with h|h
       ·exact absurd hod (by
        have:=(c2 j oj _ hne (taken (hpre j hl) hj) h).1;exact this)
       ·exact h
    obtain⟨k1,k2⟩:=SC hG hC hstep hso (fun p hp=>hps p (hpsi p hp)) (st2:=st2) (tw.2.2.trans twi.2.2.2.symm) S2 S hfree;have next:∀a' w',AQ P G ((st2.add (Cv P o)).put o.dst e) a' w'->IY P G ops E st00 es (listed.setIfInBounds i true) a' w':=fun a' w' hs'=>by
     refine⟨by simpa using inv.siz,fun j oj hj hl e' he' hb'=>?_,(st2.add (Cv P o)).put o.dst e,?_,fun x=>⟨fun hx=>?_,fun hx=>?_⟩,fun x=>⟨fun hx=>?_,fun hx=>?_⟩,hs'⟩
     ·rcases Fb hl with rfl|hl
      ·rw[ho]at hj;cases hj;exact DR (hafter e' he' hb')
      ·exact DR (inv.clo j oj hj hl e' he' hb')
     ·have:=DQ.put (st2.add (Cv P o)) o.dst e;exact⟨this.2.1.trans tw.1,this.2.2.1.trans tw.2.1,this.2.2.2.trans tw.2.2⟩
     ·rw[(DQ.put (st2.add (Cv P o)) o.dst e).1]at hx;rcases Afz.1 hx with hx|hx
      ·exact .inr (.inl ⟨i,o,ho,Hs hilt,x,hx,(hself x hx).symm⟩)
      ·rcases(hO x).1 hx with h|⟨j,oj,hj,hl,z,hz,h⟩|⟨z,hz,h⟩
       ·exact .inl h
       ·exact .inr (.inl ⟨j,oj,hj,DR hl,z,hz,by rw[h,hcong]⟩)
       ·exact .inr (.inr ⟨z,hz,by rw[h,hcong]⟩)
     ·rw[(DQ.put (st2.add (Cv P o)) o.dst e).1];rcases hx with h|⟨j,oj,hj,hl,z,hz,h⟩|⟨z,hz,h⟩
      ·exact AfL _ ((hO x).2 (.inl h))
      rotate_left
      ·exact AfL _ ((hO x).2 (.inr (.inr ⟨z,hz,by rw[h,hcong]⟩)))
      ·rcases Fb hl with rfl|hl'
       ·rw[ho]at hj;cases hj;rw[hself z hz]at h;rw[h];exact List.mem_append_left _ hz
       ·exact AfL _ ((hO x).2 (.inr (.inl ⟨j,oj,hj,hl',z,hz,by rw[h,hcong]⟩)))
     ·rcases Lk hx with ⟨hm,hne⟩|⟨hd,he⟩
      ·rcases(hT x).1 hm with ⟨h1,h2⟩|⟨j,oj,hj,hl,hd,he⟩
       ·refine .inl ⟨h1,fun j oj hj hl=>?_⟩;rcases Fb hl with rfl|hl'
        ·rw[ho]at hj;cases hj;exact hne
        ·exact h2 j oj hj hl'
       ·exact .inr ⟨j,oj,hj,DR hl,hd,he⟩
      ·exact .inr ⟨i,o,ho,Hs hilt,hd,by rw[hes,he]⟩
     ·rcases hx with ⟨h1,h2⟩|⟨j,oj,hj,hl,hd,he⟩
      ·refine Ig (st:=st2.add (Cv P o)) ((hT x).2 (.inl ⟨h1,fun j oj hj hl=>h2 j oj hj (DR hl)⟩)) (h2 i o ho (Hs hilt)) (fun t ht=>noG x h1 i o t ho ht)
      ·rcases Fb hl with rfl|hl'
       ·rw[ho]at hj;cases hj;rw[hes]at he;injection he with he;rw[hd];obtain⟨x1,x2⟩:=x;simp only at he hd ⊢;rw[he];exact JN
       ·have hne:j≠i:=fun e=>by subst e;rw[hunl]at hl';cases hl'
        refine Ig (st:=st2.add (Cv P o)) ((hT x).2 (.inr ⟨j,oj,hj,hl',hd,he⟩)) (c2 j oj _ hne (taken (hpre j hl') hj) hd).1 (fun t ht=>?_);cases hby:x.2.by t with
        |false=>rfl
        |true =>
          exfalso;obtain⟨stj,psj,ej,hstepj,hesj,_⟩:=hat j oj (taken (hpre j hl') hj);rw[he]at hesj;injection hesj with hesj;have hgs:=SG hstepj t (by rw[<- hesj];exact hby);obtain⟨d1,d2⟩:=hchk' j oj (taken (hpre j hl') hj);obtain⟨_,f2,f3⟩:=d2 i o t (fun e=>hne e.symm) (taken hik ho) ht;have hlt:=f3 hgs;have:=f2 (AfL _ hgs);rw[if_pos hlt]at this;obtain⟨e',he',hb',hon⟩:=IX this;have:=inv.clo j oj hj hl' e' he' hb';rw[hon,hunl]at this;cases this
    exact⟨fun hw=>MM (k1 hw) next,fun hw=>next _ _ (k2 hw)⟩
   have main : ∀(fuel:Nat) (listed : Array Bool) (a : Act) (w : World), IY P G ops E st00 es listed a w->(∀i, listed.getD i false = true->i<k) ->
     Ey ops.size listed<=fuel->wpAnyIn (W ro) n P .any ops Q fuel listed a w:=by
    intro fuel;have phase2:∀(fuel:Nat) (listed:Array Bool) (a:Act) (w:World),IY P G ops E st00 es listed a w->(∀i,listed.getD i false=true->i<k)->(∀i,i<k->i<ops.size->listed.getD i false=true)->Ey ops.size listed<=fuel->wpAnyIn (W ro) n P .any ops Q fuel listed a w:=by
     intro fuel listed a w inv hpre hall hcount;obtain⟨st2,tw,hO,hT,env,M,X,S⟩:=inv.sat;have hcg:∀z:Nat×Aq,BT ops es (fun j=>decide (j<k)) z=BT ops es (fun j=>listed.getD j false) z:=fun z=>IW fun js hjs=>by
      obtain⟨o',t',x',ho',_⟩:=Gs hjs
      by_cases hk':js<k
      ·rw[decide_eq_true hk',hall js hk' (Afv.1 ho').1]
      ·rw[decide_eq_false hk'];cases hl:listed.getD js false with
       |false=>rfl
       |true=>exact absurd (hpre js hl) hk'
     have hsat:AQ P G { stF with own:=(Hp P (ops.toList.take k)).map (BT ops es fun j=>decide (j<k))++stf.own.map (If ops es fun j=>decide (j<k)) } a w:=by
      refine⟨env,M,X,S.sub (fun x hx=>(hT x).2 ?_) (fun x hx=>(hO x).2 ?_) ?_ (twF.2.1.trans tw.1.symm) (twF.2.2.2.trans tw.2.2.symm)⟩;rotate_left
      ·rcases Afz.1 hx with hx|hx
       ·obtain⟨z,hz,rfl⟩:=Afi.1 hx;obtain⟨j,oj,h1,h2⟩:=SH hz;obtain⟨hjk,hj⟩:=untake h1;exact .inr (.inl ⟨j,oj,hj,hall j hjk (Afv.1 hj).1,z,h2,hcg z⟩)
       ·obtain⟨z,hz,rfl⟩:=Afi.1 hx;unfold If;split
        ·rename_i hc;exact .inr (.inr ⟨z,(hEm z).2 ⟨hz,hc⟩,hcg z⟩)
        ·rename_i hc;exact .inl ((h0O z).2 ⟨hz,by simpa using hc⟩)
      ·have hfst : ∀q x, (If ops es q x).1 = x.1 :=fun q x =>by
        unfold If;split
        ·exact Gt _ _ _ x
        ·rfl
       simp only[List.map_append];rw[show((Hp P (ops.toList.take k)).map (BT ops es fun j=>decide (j<k))).map (·.1)=Ft P (ops.toList.take k)by
        rw[Ag7,<- SI];exact AgE fun x _=>Gt _ _ _ x,show(stf.own.map (If ops es fun j=>decide (j<k))).map (·.1)=stf.own.map (·.1)by
        rw[Ag7];exact AgE fun x _=>hfst _ x]
       refine List.nodup_append.2 ⟨hnda,hndf,fun a ha b hb e=>?_⟩;subst e;obtain⟨h1,_⟩:=ML hac a ha;obtain⟨y,hy,rfl⟩:=Afi.1 hb;exact(H6 (k':=y.1) (o:=y.2) h1 hy).1 rfl
      rcases hF x hx with ⟨h1,h2⟩|⟨j,oj,h1,h2,h3⟩
      ·exact .inl ⟨h1,fun j oj hj hl=>h2 j oj (taken (hpre j hl) hj)⟩
      ·obtain⟨hjk,hj⟩:=untake h1;exact .inr ⟨j,oj,hj,hall j hjk (Afv.1 hj).1,h2,h3⟩
     rcases Nat.le_total k ops.size with hks|hks
     ·exact SJ hG hC hK hsuf (fun z hz=>⟨(hZ z hz).1,(hZ z hz).2.1⟩) fuel k listed { stF with own:=(Hp P (ops.toList.take k)).map (BT ops es fun j=>decide (j<k))++stf.own.map (If ops es fun j=>decide (j<k)) } a w (Afo _) hks inv.siz (fun i hi=>⟨hpre i,fun h=>hall i h hi⟩) inv.clo hKF hsat hcount
     ·refine SJ hG hC hK (k:=ops.size) (Z:=[]) ?_ (fun z hz=>by cases hz) fuel ops.size listed { stF with own:=(Hp P (ops.toList.take k)).map (BT ops es fun j=>decide (j<k))++stf.own.map (If ops es fun j=>decide (j<k)) } a w (Afo _) (Afo _) inv.siz (fun i hi=>⟨fun _=>hi,fun h=>hall i (by omega) hi⟩) inv.clo ?_ hsat hcount
      ·refine Afj.2 fun j hj=>?_;have:=Afl.1 hj;simp at this;simp[this]
      ·have e1:ops.toList.drop k = []:=List.drop_eq_nil_of_le (by simpa using hks);have e2:ops.toList.drop ops.size = []:=by simp
       rw[e2];rw[e1]at hKF;exact hKF
    induction fuel with
    |zero =>
      intro listed a w inv hpre hcount;refine phase2 0 listed a w inv hpre (fun i _ hi=>?_) hcount;cases hli:listed.getD i false with
      |true=>rfl
      |false =>
        exfalso;have:i∈(Afm ops.size).filter fun i=>!listed.getD i false:=Afh.2 ⟨Afl.2 hi,by rw[hli];rfl⟩;have:=List.length_pos_of_mem this;unfold Ey at hcount;omega
    |succ fuel ih =>
      intro listed a w inv hpre hcount
      by_cases hall:∀i,i<k->i<ops.size->listed.getD i false=true
      ·exact phase2 _ listed a w inv hpre hall hcount
      by_cases hz:∃z oz,z∈Z/\ops[z]? = some oz/\listed.getD z false=false/\∀e,e∈oz.after->Region.binds .any e=true->listed.getD e.on false=true
      ·obtain⟨z,oz,hzZ,ho,hun,haft⟩:=hz;obtain⟨z1,z2,z3,z4⟩:=hZ z hzZ;have hilt:z<listed.size:=by rw[inv.siz];exact z2
       obtain⟨d,s,hmv⟩:∃d s,FX oz=some (d,s):=by
        have h3:=z3;unfold JL at h3;rw[ho]at h3;simp only at h3;split at h3
        ·rename_i d s hm;exact⟨d,s,hm⟩
        ·cases h3
       have hlt:=IZ (n:=ops.size) z2 hilt hun;obtain⟨u,hrun,inv'⟩:=SK ((step listed a w inv hpre z oz z1 ho hun haft).1 (OX hmv)) hmv;exact nH ho hmv z3 z4 hQ fuel listed a w (by
        rw[LS,rN hilt]at hun ⊢;exact hun) haft hrun (ih _ _ w inv' (fun m hm=>by
         rcases Fb hm with rfl|hm
         ·exact z1
         ·exact hpre m hm) (by omega))
      refine⟨fun hr=>(hall ?_).elim,fun i hi=>?_⟩
      ·intro i
       induction i using Nat.strongRecOn with
       |_ i ih2 =>
         intro hik hi;cases hli:listed.getD i false with
         |true=>rfl
         |false =>
           exfalso;have hc:=(hchk' i ops[i] (taken hik (rN hi))).1;have hmem:i∈Region.ready .any ops listed:=mem_ready.2 ⟨by
            have:i<listed.size:=by rw[inv.siz];exact hi
            rw[LS,rN this]at hli ⊢;exact hli,ops[i],rN hi,fun e he hb=>by
             have:=hc e he hb;exact ih2 e.on (by omega) (by omega) (by omega)⟩
           rw[hr]at hmem;cases hmem
      obtain⟨h0,o,ho,hafter⟩:=mem_ready.1 hi;have hisz:=(Afv.1 ho).1;have hilt:i<listed.size:=by rw[inv.siz];exact hisz
      have hunl:listed.getD i false=false:=by
       rw[LS,rN hilt]at h0 ⊢;exact h0
      have hik:i<k:=by
       rcases AfP i k with h|h
       ·exact h
       ·exfalso;have hs1:HA Z ops.toList i=true:=by
         have:=Afj.1 hsuf i (Afl.2 (by simpa using hisz));simpa[show ¬ i<k by omega]using this
        refine hall fun m=>?_
        induction m using Nat.strongRecOn with
        |_ m ih2 =>
          intro hmk hms
          by_cases hmZ:m∈Z
          ·cases hlm:listed.getD m false with
           |true=>rfl
           |false =>
             exact absurd ⟨m,ops[m],hmZ,rN hms,hlm,fun e he hb=>by
              have:=(hchk' m ops[m] (taken hmk (rN hms))).1 e he hb;exact ih2 e.on this (by omega) (by omega)⟩ hz
          ·exact nB inv.clo ho hs1 hafter m (by omega) hmZ
      obtain⟨k1,k2⟩:=step listed a w inv hpre i o hik ho hunl hafter;have hcount':Ey ops.size (listed.setIfInBounds i true)<=fuel:=by have:=IZ (n:=ops.size) hisz hilt hunl;omega
      have next:∀a' w',IY P G ops E st00 es (listed.setIfInBounds i true) a' w'->wpAnyIn (W ro) n P .any ops Q fuel (listed.setIfInBounds i true) a' w':=fun a' w' inv' =>
       ih _ a' w' inv' (fun m hm=>by
        rcases Fb hm with rfl|hm
        ·exact hik
        ·exact hpre m hm) hcount'
      unfold wpOpIn;rw[ho];simp only;split
      ·rename_i hw;have:=k1 hw;refine MJ (N:=wpAnyIn (W ro) n P .any ops Q fuel (listed.setIfInBounds i true)) ?_;obtain⟨l1,l2⟩:=this;refine⟨l1,?_⟩;rcases l2 with ⟨u,w',hr,hk⟩|⟨w',hr,hk⟩|⟨f,args,w',hr,hk⟩|⟨l,f,tmps,assign,body,w',hr,hk⟩
       ·exact .inl ⟨u,w',hr,next _ _ hk⟩
       ·exact .inr (.inl ⟨w',hr,next _ _ hk⟩)
       ·exact .inr (.inr (.inl ⟨f,args,w',hr,FW hk fun e w'' ⟨v,he,hk⟩=>⟨v,he,next _ _ hk⟩⟩))
       ·exact .inr (.inr (.inr ⟨l,f,tmps,assign,body,w',hr,J7 hk fun e w'' ⟨v,he,hk⟩=>⟨v,he,next _ _ hk⟩⟩))
      ·rename_i hw;exact⟨fun _ _=>trivial,next _ _ (k2 hw)⟩
   refine main ops.size (AfR ops.size false) a w ⟨by simp,fun j oj hj hl=>?_,stf,⟨h0yk.1.symm,h0yk.2.1.symm,h0yk.2.2.symm⟩,fun x=>⟨fun hx=>?_,fun hx=>?_⟩,fun x=>⟨fun hx=>.inl ⟨(h0T x).2 hx,fun j oj hj hl=>?_⟩,fun hx=>?_⟩,hsub⟩ (fun i hi=>?_) ?_
   ·have hj':=(Afv.1 hj).1;simp[LS,hj']at hl
   ·by_cases hc:(Hq ops x.1&&JK x.2)=true
    ·exact .inr (.inr ⟨x, (hEm x).2 ⟨hx, hc⟩, (Lj fun j hj =>by
     obtain⟨o',t',x',ho',_⟩:=Gs hj;have hj':=(Afv.1 ho').1;simp[LS,hj']).symm⟩)
    ·exact .inl ((h0O x).2 ⟨hx,by simpa using hc⟩)
   ·rcases hx with h1|⟨j,oj,hj,hl,_,_,_⟩|⟨y,hy,rfl⟩
    ·exact((h0O x).1 h1).1
    ·have hj':=(Afv.1 hj).1;simp[LS,hj']at hl
    ·rw[Lj fun j hj =>by
      obtain⟨o',t',x',ho',_⟩:=Gs hj;have hj':=(Afv.1 ho').1;simp[LS,hj']]
     exact((hEm y).1 hy).1
   ·have hj':=(Afv.1 hj).1;simp[LS,hj']at hl
   ·rcases hx with ⟨h1,_⟩|⟨j,oj,hj,hl,_⟩
    ·exact(h0T x).1 h1
    ·have hj':=(Afv.1 hj).1;simp[LS,hj']at hl
   ·rcases AfP i ops.size with hlt|hge
    ·simp[LS,hlt]at hi
    ·simp[LS,show ¬ i<ops.size by omega]at hi
   ·exact Nat.le_trans (List.length_filter_le _ _) (by simp)
  ·exact h.elim
 ·exact h.elim
theorem nJ (hG:Bq G) {C:Ak} (hC:EK P G C) {ro:Option Nat} {n:Nat} {ops:Array Oper} {Q:Exit->Act->World->Prop} {K:St->Prop} (hK:∀st a w,K st->AQ P G st a w->Q .normal a w)
  {st:St} (h:MF P C ops st K) {a:Act} {w:World} (hs:AQ P G st a w):wpAnyIn (W ro) n P .any ops Q ops.size (AfR ops.size false) a w :=
 OY (Q':=fun e a w=>(∀c,e ≠ .panic c)/\Q e a w) (fun _ _ _ h=>h.2) _ _ _ _
  (nI hG hC (fun st a w h hs=>⟨fun _ h=>(by cases h),hK st a w h hs⟩) (fun c _ _ h=>h.1 c rfl) h hs)
end
end Go.SE
