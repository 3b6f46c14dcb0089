/- A symbolic walk over the model, and what it shows of functions of the program: parts of the proof that the text of the row joins. -/
import Derived.Test.YtdkpcdlnfobnnaaGreatE1
import Derived.MapKept
open List renaming getD_eq_getElem?_getD->AS,getElem?_eq_getElem->rH,mem_filter->Adn,mem_map->Ado,mem_cons->Adq,mem_cons_of_mem->Adr,contains_iff_mem->Adv,mem_cons_self->Adw,all_eq_true->Ad0,mem_singleton->Ad2,mem_append->Ad4,getElem?_append_left->Ad7,getElem?_append_right->Ad8,getElem_mem->AdC,getElem?_eq_some_iff->AdH,length_append->AdL,getElem_of_mem->AdM,eq_nil_of_length_eq_zero->AdT,length_map->AdW,map_cons->Aea,pairwise_iff_getElem->Aed,pairwise_map->Aek,nodup_cons->Ael,getElem?_take_of_lt->Aeq,not_mem_nil->Ae2,map_append->AeA,map_congr_left->AeI
open Array renaming getD_eq_getD_getElem?->LS,getElem?_eq_getElem->rK,getElem?_push_size->AdI,getElem?_append_left->Aei,getElem?_modify->Aeo,getElem?_push_lt->Aer,getElem?_toList->AeN,getElem_toList->AeR
open Nat renaming not_lt_zero->oE,le_refl->Adp,zero_le->Ads,lt_of_lt_of_le->Adt,lt_succ_iff_lt_or_eq->Ad1,mul_le_mul_right->Ad5,zero_add->AdE,add_mul->AdK,mul_comm->Aem,lt_trichotomy->Aev,eq_zero_or_pos->Ae1,mod_eq_of_lt->AeV
open Bool renaming and_eq_true->pR,or_eq_true->AdN,not_eq_true'->AdO,false_eq_true->AeC,and_eq_true_iff->AeO
open Option renaming getD_some->AdU,map_some->Aej,isSome_iff_exists->AeS
namespace Go.SE
open Go.RowKit
section
variable {P:Program} {M:Nat->Prop} {w:World} {G:Bn} {st:St} {a:Act} {env:As} {X:Nat->Prop}
def Dd (M:Nat->Prop) (env:As) (l:List Nat):Nat->Prop:=fun b=>M b\/∃r,r∈l/\env.at_ r=some b
theorem Mp (S:Ak P G st a w env M X) {r:Nat} {e:TypeId} {sz n:Nat} {get:Nat->List SV} (h:(r,Al.row e sz n get)∈st.own) {M':Nat->Prop} (hM:∀b,M b->M' b) (hr:∀g,env.at_ r=some g->M' g) :
  Av M' w (.sl sz n get) (env.rv r):=by
 obtain⟨hm,hgl,h1⟩:=S.own _ _ h;rcases h1 with ⟨_,hrv,hn⟩|⟨g,cap,cur,hg,hrv,hh,hnc,hcm,hcs,hd⟩
 ·rw[hrv];subst hn;exact .sl _ _ _ _ _ (fun _ _=>undef) (Adp _) hm (fun h=>by omega) hgl (fun i hi=>by omega) (fun i hi=>by omega)
 ·rw[hrv];refine .sl _ _ _ _ _ (fun i j=>cur.getD (i*sz+j) undef) hnc hm (fun _=>⟨_,rfl,hr g hg,fun i hi j hj=>?_⟩) hgl (fun i hi j hj=>(hd i hi j hj).1) (fun i hi j hj=>(hd i hi j hj).2.weak hM);have:=Cj (sz:=sz) (len:=cap) (Adt hi hnc) hj;rw[CB,AdE,E4 hh (by omega)]
theorem O0 (S:Ak P G st a w env M X) {r lo k:Nat} {e:TypeId} {sz n:Nat} {get:Nat->List SV} (h:(r,Al.row e sz n get)∈st.own) {M':Nat->Prop} (hM:∀b,M b->M' b) (hr:∀g,env.at_ r=some g->M' g)
  (hk:lo+k<=n) {v:Value} (hv:Am P M w env (.rsub r sz lo k) v):Av M' w (.sl sz k (fun i=>get (lo+i))) v:=by
 obtain⟨hm,hgl,h1⟩:=S.own _ _ h;cases hv with
 |rsub A cap' hc' hm' hA =>
 rcases h1 with ⟨_,hrv,hn⟩|⟨g,cap,cur,hg,hrv,hh,hnc,hcm,hcs,hd⟩
 ·have:k=0:=by omega
  subst this;refine .sl _ _ _ A cap' (fun _ _=>undef) (by omega) (by omega) (fun h=>by omega) (fun i hi=>by omega) (fun i hi=>by omega) (fun i hi=>by omega)
 ·refine .sl _ _ _ A cap' (fun i j=>cur.getD ((lo+i)*sz+j) undef) hc' hm' (fun hpos=>?_) (fun i hi=>hgl _ (by omega)) (fun i hi j hj=>(hd _ (by omega) j hj).1) (fun i hi j hj=>(hd _ (by omega) j hj).2.weak hM);obtain⟨g',hg',rfl⟩:=hA hpos;rw[hg]at hg';cases hg';refine⟨_,rfl,hr g hg,fun i hi j hj=>?_⟩;have:=Cj (i:=lo+i) (sz:=sz) (len:=cap) (by omega) hj;rw[CB,show lo*sz+(i*sz+j)=(lo+i)*sz+j by rw[AdK,Nat.add_assoc],E4 hh (by omega)]
theorem iR (S:Ak P G st a w env M X) {r k:Nat} {e:TypeId} {sz n:Nat} {get:Nat->List SV} (h:(r,Al.row e sz n get)∈st.own) {M':Nat->Prop} (hM:∀b,M b->M' b) (hr:∀g,env.at_ r=some g->M' g)
  (hk:k<=n) {v:Value} (hv:Am P M w env (.rpre r k) v):Av M' w (.sl sz k get) v:=by
 obtain⟨hm,hgl,h1⟩:=S.own _ _ h;cases hv with
 |@rpre _ _ N cap' g' hrv' hn' =>
 rcases h1 with ⟨_,hrv,_⟩|⟨g,cap,cur,hg,hrv,hh,hnc,hcm,hcs,hd⟩
 ·rw[hrv]at hrv';cases hrv'
 rw[hrv]at hrv';obtain⟨rfl,rfl,rfl⟩:g'=g/\N=n/\cap'=cap:=by injection hrv' with e1 e2 e3;injection e1 with e1;injection e1 with e1;exact⟨e1.symm,e2.symm,e3.symm⟩
 refine .sl _ _ _ _ _ (fun i j=>cur.getD (i*sz+j) undef) (by omega) (by omega) (fun _=>⟨_,rfl,hr _ hg,fun i hi j hj=>?_⟩) (fun i hi=>hgl i (by omega)) (fun i hi j hj=>(hd i (by omega) j hj).1) (fun i hi j hj=>(hd i (by omega) j hj).2.weak hM);have:=Cj (i:=i) (sz:=sz) (len:=cap') (by omega) hj;rw[CB,AdE,E4 hh (by omega)]
theorem GL {M':Nat->Prop} {w':World} {s:SV} {v:Value} (h:Av M w s v) (hn:Db s=true):Av M' w' s v:=by
 induction h with
 |int k n=>exact .int k n
 |bool b=>exact .bool b
 |raw v=>exact .raw v
 |agg cs vs hl _ ih=>exact .agg cs vs hl (fun i hi=>ih i hi (noMems_at hn i hi))
 |tup cs vs hl _ ih=>exact .tup cs vs hl (fun i hi=>ih i hi (noMems_at hn i hi))
 |clo|ref|sl=>simp[Db]at hn
where noMems_at:∀{cs:List SV},Db.noMems cs=true->∀i,i<cs.length->Db (SV.at cs i)=true
 |[],_,i,hi=>by simp at hi
 |c::cs,h,i,hi=>by
   simp only[Db.noMems,pR]at h;cases i with
   |zero=>exact h.1
   |succ i=>exact noMems_at h.2 i (by simpa using hi)
theorem iS {C:Aj} (hC:∀f sp,C.specs f=some sp->AB P f sp/\Ao P f) {f:Nat} {caps:List SV} {pre:List EV->Prop} {res:List EV->SV} (hf:C.specs f=some (.fn pre res)) {v:Value} (hv:Av M w (.clo f caps) v) :
  Jm P M w ⟨fun as=>pre (as.map .p++caps.map .p),fun as=>res (as.map .p++caps.map .p)⟩ v:=by
 obtain⟨h1,h2⟩:=hC f _ hf;cases hv with
 |clo _ _ vs hl hd =>
 refine⟨f,#[],vs.toArray,rfl,h2,fun M' w' hl' hlt args vals hda hp=>?_⟩;have hdc:Bm M' w' caps vs:=Bm.later hl' ⟨hl,hd⟩;have hall:=Rg hda hdc;have:=h1 M' w' (args.map .p++caps.map .p) (vals++vs) hlt ?_ hp
 ·simpa using this
 ·rw[<- AeA];refine⟨by simpa using hall.1,fun i hi=>?_⟩;simp only[AdW]at hi;rw[FT _ _ hi];exact⟨rfl,.p (hall.2 i hi)⟩
theorem iT {C:Aj} (hC:∀f sp,C.specs f=some sp->AB P f sp/\Ao P f) {f:Nat} {first:List SV} {pre:List EV->Prop} {res:List EV->SV} (hf:C.specs f=some (.fn pre res)) {vs:List Value} (hv:Bm M w first vs) :
  Jm P M w (Rr pre res first) (.func (.func f) vs.toArray #[]):=by
 obtain⟨h1,h2⟩:=hC f _ hf;refine⟨f,vs.toArray,#[],rfl,h2,fun M' w' hl' hlt args vals hda hp=>?_⟩;have hall:=Rg (Bm.later hl' hv) hda;have hp:pre (first.map .p++args.map .p):=hp;have:=h1 M' w' (first.map .p++args.map .p) (vs++vals) hlt ?_ hp
 ·show CallsIn Fence.wide 0 P f (vs.toArray++vals.toArray ++ #[]) w' (HD M' w' (res (first.map .p++args.map .p)));simpa using this
 ·rw[<- AeA];refine⟨by simpa using hall.1,fun i hi=>?_⟩;simp only[AdW]at hi;rw[FT _ _ hi];exact⟨rfl,.p (hall.2 i hi)⟩
theorem O1 {M':Nat->Prop}:∀(fs:List Field) (cs:List SV) (vs:List Value),Bm M' w cs vs->Bm M' w (KD P fs cs) vs
 |[],_,_,h=>h
 |f::l,cs,vs,h=>by
   unfold KD;split
   ·rename_i y hc hy;refine O1 l _ vs ⟨by rw[List.length_set];exact h.1,fun i hi=>?_⟩;rw[List.length_set]at hi;have h2:=h.2 i hi
    by_cases e:f.offset=i
    ·subst e;have e1:SV.at cs f.offset=.raw (.slice none 0 0):=by
      unfold SV.at;rw[AS,hc];rfl
     have e2:SV.at (cs.set f.offset (.sl y.size 0 (fun _=>[]))) f.offset=.sl y.size 0 (fun _=>[]):=by
      unfold SV.at;rw[AS,List.getElem?_set_self hi];rfl
     rw[e1]at h2;rw[e2];generalize vs.getD f.offset undef=v at h2;cases h2;exact .sl _ _ _ _ _ (fun _ _=>undef) (Adp _) (Ads _) (fun h=>by omega) (fun i hi=>by omega) (fun i hi=>by omega) (fun i hi=>by omega)
    ·have e2 : SV.at (cs.set f.offset (.sl y.size 0 (fun _ =>[]))) i = SV.at cs i :=by
      unfold SV.at;rw[AS,AS,List.getElem?_set_ne e]
     rw[e2];exact h2
   ·exact O1 l _ vs h
theorem iU {C:Aj} (hC:∀f sp,C.specs f=some sp->AB P f sp/\Ao P f) (S:Ak P G st a w env M X) {t:TypeId} {e e':EV} {ps:List Prop} {ls:List Nat} (h:LZ P C st t e=some (ps,e',ls)) (hp:all ps)
  {v:Value} (hv:Am P M w env e v) {L:List Nat} (hL:∀r,r∈ls->r∈L):KA e'=true/\Am P (Dd M env L) w Gv e' v:=by
 have hw:∀b,M b->Dd M env L b:=fun b hb=>.inl hb;have hlat:Bg M (Dd M env L) w w:=⟨Adp _,fun _ _=>rfl,hw⟩;unfold LZ at h;split at h
 ·rename_i f caps;rcases hv with ⟨hv⟩;split at h
  ·split at h
   ·rename_i pre res hf;cases h;exact⟨rfl,.fn ((iS hC hf hv).later hlat)⟩
   ·cases h
  ·cases h;exact⟨rfl,.p (hv.weak hw)⟩
 ·rename_i v';rcases hv with ⟨hv⟩;split at h
  ·rename_i y hy;cases h;cases hv;exact⟨rfl,.p (.sl _ _ _ _ _ (fun _ _=>undef) (Adp _) (Ads _) (fun h=>by omega) (fun i hi=>by omega) (fun i hi=>by omega) (fun i hi=>by omega))⟩
  ·cases h;exact⟨rfl,.p (hv.weak hw)⟩
 ·rename_i cs;rcases hv with ⟨hv⟩;split at h
  ·cases h;have hv:=hv.weak hw;cases hv with
   |agg _ vs hl hd =>
     rename_i fs _ _;have:=O1 (P:=P) fs.toList cs vs ⟨hl,hd⟩;exact⟨rfl,.p (.agg _ _ this.1 this.2)⟩
  ·cases h;exact⟨rfl,.p (hv.weak hw)⟩
 ·rcases hv with ⟨hv⟩;cases h;exact⟨rfl,.p (hv.weak hw)⟩
 ·cases h;cases hv with
  |fn hf=>exact⟨rfl,.fn (hf.later hlat)⟩
 ·cases h;cases hv with
  |full hf hq=>exact⟨rfl,.p (hf.weak hw)⟩
 ·rename_i r;split at h
  ·rename_i e1 sz n get hl;cases h;cases hv with
   |row hrv =>
   have:=Mp S (Bq hl) (M':=Dd M env L) hw (fun g hg=>.inr ⟨r,hL r (by simp),hg⟩);rw[hrv]at this;exact⟨rfl,.p this⟩
  ·cases h
 ·rename_i r sz lo n;split at h
  ·rename_i e1 sz' n' get hl;split at h
   ·rename_i hsz;subst hsz;cases h;exact⟨rfl,.p (O0 S (Bq hl) (M':=Dd M env L) hw (fun g hg=>.inr ⟨r,hL r (by simp),hg⟩) (Ay hp) hv)⟩
   ·cases h
  ·cases h
 ·rename_i r n;split at h
  ·rename_i e1 sz n' get hl;cases h;exact⟨rfl,.p (iR S (Bq hl) (M':=Dd M env L) hw (fun g hg=>.inr ⟨r,hL r (by simp),hg⟩) (Ay hp) hv)⟩
  ·cases h
 ·cases h
theorem all_append {ps qs:List Prop} (h:all (ps++qs)):all ps/\all qs:=⟨fun p hp=>h p (by simp[hp]),fun p hp=>h p (by simp[hp])⟩
theorem Jy {C:Aj} (hC:∀f sp,C.specs f=some sp->AB P f sp/\Ao P f) (S:Ak P G st a w env M X) {ρ:Operand->Option EV} (hρ:∀x e,ρ x=some e->Am P M w env e (a.eval x)) {L:List Nat} :
  ∀(xs:List Operand) (ts:List TypeId) (ps:List Prop) (as:List EV) (ls:List Nat),F4 P C st ρ xs ts=some (ps,as,ls)->all ps->(∀r,r∈ls->r∈L)->Fo P (Dd M env L) w as (xs.map a.eval)
 |[],ts,ps,as,ls,h,_,_=>by simp[F4]at h;obtain⟨_,rfl,_⟩:=h;exact⟨rfl,fun i hi=>by simp at hi⟩
 |x::xs,ts,ps,as,ls,h,hp,hL=>by
   simp only[F4]at h;split at h
   ·rename_i e he;split at h
    ·rename_i p a' l ps' as' ls' h1 h2;cases h;obtain⟨hp1,hp2⟩:=all_append hp;obtain⟨q1,q2⟩:=iU hC S h1 hp1 (hρ _ _ he) (L:=L) (fun r hr=>hL r (by simp[hr]));obtain⟨q3,q4⟩:=Jy hC S hρ xs _ _ _ _ h2 hp2 (fun r hr=>hL r (by simp[hr]));refine⟨by simpa using q3,fun i hi=>?_⟩;cases i with
     |zero=>exact⟨by simpa[EV.at]using q1,by simpa[EV.at]using q2⟩
     |succ i=>simpa[EV.at]using q4 i (by simpa using hi)
    ·cases h
   ·cases h
theorem RC {M':Nat->Prop} {as bs:List EV} {us vs:List Value} (h:Fo P M' w as us) (k:Fo P M' w bs vs):Fo P M' w (as++bs) (us++vs):=by
 refine⟨by simp[h.1,k.1],fun i hi=>?_⟩;simp only[EV.at,AS]
 by_cases hi':i<as.length
 ·rw[Ad7 hi',Ad7 (by rw[h.1];exact hi')];have:=h.2 i hi';simpa[EV.at,AS]using this
 ·rw[Ad8 (by omega),Ad8 (by rw[h.1];omega),h.1];have:=k.2 (i-as.length) (by simp at hi;omega);simpa[EV.at,AS]using this
theorem RD {M':Nat->Prop} {ss:List SV} {vs:List Value} (h:Bm M' w ss vs):Fo P M' w (ss.map .p) vs :=
 ⟨by simpa using h.1,fun i hi=>by simp only[AdW]at hi;rw[FT _ _ hi];exact⟨rfl,.p (h.2 i hi)⟩⟩
theorem Mq (S:Ak P G st a w env M X) {L:List Nat} (hL:∀r,r∈L->∃o,(r,o)∈st.own):∀b,Dd M env L b->b<w.heap.size:=fun b hb=>by
 rcases hb with hb|⟨r,hr,hg⟩
 ·exact S.mlt b hb
 ·obtain⟨o,ho⟩:=hL r hr;exact(S.oat _ _ ho b hg).2.2
theorem KR {C:Aj} {ρ:Operand->Option EV}:∀(xs:List Operand) (ts:List TypeId) (ps:List Prop) (as:List EV) (ls:List Nat),F4 P C st ρ xs ts=some (ps,as,ls)->∀r,r∈ls->∃o,(r,o)∈st.own
 |[],ts,ps,as,ls,h,r,hr=>by simp[F4]at h;obtain⟨_,_,rfl⟩:=h;simp at hr
 |x::xs,ts,ps,as,ls,h,r,hr=>by
   simp only[F4]at h;split at h
   ·split at h
    ·rename_i p a' l ps' as' ls' h1 h2;cases h;rcases Ad4.1 hr with hr|hr
     ·unfold LZ at h1;split at h1
      ·split at h1
       ·split at h1<;>cases h1;simp at hr
       ·cases h1;simp at hr
      ·split at h1<;>cases h1<;>simp at hr
      ·split at h1<;>cases h1<;>simp at hr
      ·cases h1;simp at hr
      ·cases h1;simp at hr
      ·cases h1;simp at hr
      ·split at h1
       ·rename_i hl;cases h1;simp at hr;subst hr;exact⟨_,Bq hl⟩
       ·cases h1
      ·split at h1
       ·rename_i hl;split at h1
        ·cases h1;simp at hr;subst hr;exact⟨_,Bq hl⟩
        ·cases h1
       ·cases h1
      ·split at h1
       ·rename_i hl;cases h1;simp at hr;subst hr;exact⟨_,Bq hl⟩
       ·cases h1
      ·cases h1
     ·exact KR xs _ _ _ _ h2 r hr
    ·cases h
   ·cases h
theorem KS (hG:Bp G) (S:Ak P G st a w env M X) {gd:Option (Nat×Bool×Bool)} (hgd:Eo a gd) (hh:Co gd) {dst:Option Nat} (hd:∀t,dst=some t->t<st.nt) (hq:∀q c x,gd=some (q,c,x)->dst≠some q)
  {L:List Nat} {r:SV} (hL:(L.isEmpty||Db r)=true) {e:Ending} {w':World} (hg:HD (Dd M env L) w r e w'):∃v,e=.returned v/\AI P G (st.put dst ⟨gd,.p r⟩) (a.put dst v) w':=by
 obtain⟨v,M',rfl,hb,h1,h2,h3,h4⟩:=hg;refine⟨v,rfl,?_⟩;cases hl:L.isEmpty with
 |true =>
   have hL0:L = []:=by simpa using hl
   subst hL0;have hM:∀b,M' b->M b\/w.heap.size<=b:=fun b hb=>by
    rcases h2 b hb with (h|⟨_,h,_⟩)|h
    ·exact .inl h
    ·simp at h
    ·exact .inr h
   have S':=S.grow hG (KO hb) (M':=M') (fun b hb=>h1 b (.inl hb)) hM h3;exact⟨_,_,_,S'.putG hgd hd hq (fun _=>.p h4) (fun hn=>absurd hh hn)⟩
 |false =>
   have hn:Db r=true:=by simpa[hl]using hL
   have S':=S.grow hG (KO hb) (M':=M) (fun b h=>h) (fun b h=>.inl h) (fun b h=>Adt (S.mlt b h) hb.size);exact⟨_,_,_,S'.putG hgd hd hq (fun _=>.p (GL h4 hn)) (fun hn'=>absurd hh hn')⟩
end
section
variable {P:Program} {M:Nat->Prop} {w:World} {G:Bn} {st:St} {a:Act} {env:As} {X:Nat->Prop}
def KT (P:Program) (G:Bn) (C:Aj):Prop:=∀y,C.yld=some y->∀k X w vals,k<y.cnt->G.g k X w->(∀b,X b->b<w.heap.size)->Bm (fun _=>False) w (y.item k) vals ->
 ∃fn tmps assign body,(Instr.yield y.l vals.toArray).run P w=.ok (.round y.l fn tmps assign body) w /\
   RoundIn Fence.wide 0 P y.l fn tmps assign body w (fun e w'=>∃b,e=.returned (.bool b)/\w.heap.size<=w'.heap.size/\(∀c,c<w.heap.size->((b=true/\G.m0 c)\/X c)->w'.heap[c]? = w.heap[c]?)/\G.g (if b then k+1 else y.cnt+1) X w')
def Hp (P:Program) (f:Nat) (it:F0):Prop:=∀(G:Bn),Bp G->∀(l:Nat) (w:World) (caps:List SV) (vals:List Value),it.pre caps->(∀b,G.m0 b->b<w.heap.size)->Bm G.m0 w caps vals->G.g 0 (fun _=>False) w ->
 (∀C:Aj,C.yld=some ⟨l,it.cnt caps,it.item caps⟩->KT P G C) ->
 CallsIn Fence.wide 0 P f (#[.func (.yield l) #[] #[]]++vals.toArray) w (fun e w'=>∃v X,e=.returned v/\(G.g (it.cnt caps) X w'\/G.g (it.cnt caps+1) X w'))
def E8 (env:As) (own:List (Nat×Al)) (b:Nat):Prop:=∃k o,(k,o)∈own/\env.at_ k=some b
def RE (P:Program) (tr:Tr) (t:tr.T) (M:Nat->Prop) (w:World) (env:As) (e:Ending) (w':World):Prop :=
 ∃u v M',tr.post t u/\e=.returned v/\Same (E8 env (tr.own t)) w w'/\(∀b,M b->M' b)/\(∀b,M' b->M b\/w.heap.size<=b)/\(∀b,M' b->b<w'.heap.size)/\(∀k o,(k,o)∈tr.own' t u->B3 P M' w' env k o)/\Am P M' w' env (tr.res t u) v
def F7 (P:Program) (f:Nat) (tr:Tr):Prop:=(∀t u,Bh (tr.own' t u)=Bh (tr.own t))/\∀t,tr.pre t->∀(M:Nat->Prop) (w:World) (env:As) (vals:List Value),(∀b,M b->b<w.heap.size)->(∀k o,(k,o)∈tr.own t->B3 P M w env k o) ->
 (∀k o,(k,o)∈tr.own t->∀g,env.at_ k=some g->¬ M g/\g<w.heap.size)->(∀k o k' o',(k,o)∈tr.own t->(k',o')∈tr.own t->k≠k'->∀g,env.at_ k=some g->env.at_ k'≠some g) ->
 vals.length=(tr.args t).length->(∀i,i<(tr.args t).length->Am P M w env (EV.at (tr.args t) i) (vals.getD i undef))->CallsIn Fence.wide 0 P f vals.toArray w (RE P tr t M w env)
def RG (P:Program) (mk:Mk) (t:mk.T) (M:Nat->Prop) (w:World) (env:As) (e:Ending) (w':World):Prop :=
 ∃u v env' M',mk.post t u/\e=.returned v/\Same (E8 env (mk.lent t)) w w'/\(∀b,M b->M' b) /\
   (∀b,M' b->M b\/(w.heap.size<=b/\∀k,k∈mk.keys++Ci mk.mv->env'.at_ k≠some b)\/∃k,k∈Ci mk.mv/\env.at_ k=some b/\env'.at_ k≠some b)/\(∀b,M' b->b<w'.heap.size) /\
   (∀k,k∈mk.lkeys->k ∉ Ci mk.mv->env'.at_ k=env.at_ k/\env'.rv k=env.rv k) /\
   (∀k,k∈mk.keys->∀g,env'.at_ k=some g->w.heap.size<=g/\g<w'.heap.size)/\(∀k,k∈Ci mk.mv->∀g,env'.at_ k=some g->env.at_ k=some g\/(w.heap.size<=g/\g<w'.heap.size)) /\
   (∀k1 k2,k1∈mk.keys->k2∈mk.keys->k1≠k2->∀g,env'.at_ k1=some g->env'.at_ k2≠some g) /\
   (∀k o,(k,o)∈mk.lent' t u->B3 P M' w' env' k o)/\(∀k o,(k,o)∈mk.own t u->B3 P M' w' env' k o)/\Am P M' w' env' (mk.res t u) v
def Du (P:Program) (f:Nat) (mk:Mk):Prop:=((∀t,Bh (mk.lent t)=mk.lkeys)/\(∀t u,Bh (mk.lent' t u)=mk.lkeys)/\(∀t u,Bh (mk.own t u)=mk.keys) /\
  (∀t u,(mk.lent' t u).all (fun x=>x.2.within mk.lkeys)=true/\(mk.own t u).all (fun x=>x.2.within (mk.lkeys++mk.keys))=true/\(mk.res t u).within (mk.lkeys++mk.keys)=true)/\(mk.mv=none\/mk.keys = [])/\∀k,k∈Ci mk.mv->k∈mk.lkeys)/\∀t,mk.pre t->∀(M:Nat->Prop) (w:World) (env:As) (vals:List Value),(∀b,M b->b<w.heap.size) ->
 (∀k o,(k,o)∈mk.lent t->B3 P M w env k o)->(∀k o,(k,o)∈mk.lent t->∀g,env.at_ k=some g->¬ M g/\g<w.heap.size)->(∀k o k' o',(k,o)∈mk.lent t->(k',o')∈mk.lent t->k≠k'->∀g,env.at_ k=some g->env.at_ k'≠some g) ->
 vals.length=(mk.args t).length->(∀i,i<(mk.args t).length->Am P M w env (EV.at (mk.args t) i) (vals.getD i undef))->CallsIn Fence.wide 0 P f vals.toArray w (RG P mk t M w env)
def IC (P:Program) (f:Nat) (c:Fp):Prop:=∀t,c.pre t->∀(M:Nat->Prop) (w:World) (env:As) (a b:Nat) (vals:List Value),(∀b,M b->b<w.heap.size)->env.at_ 0=some a->env.at_ 1=some b->a≠b->¬ M a->¬ M b->b<w.heap.size ->
 El P M w env 0 c.t ((c.head t).map .p ++ [.mapv 1])->(∃dom,FL M w env 1 dom (c.val t))->Bm M w (c.args t) vals ->
 CallsIn Fence.wide 0 P f (Value.pointer (some ⟨a,0,none⟩)::vals).toArray w (fun e w'=>∃v M',e=.returned v/\Same (fun x=>x=a\/x=b) w w'/\(∀b,M b->M' b)/\(∀b,M' b->M b\/w.heap.size<=b)/\(∀b,M' b->b<w'.heap.size) /\
  El P M' w' env 0 c.t ((c.head t).map .p ++ [.mapv 1])/\(∃dom,FL M' w' env 1 dom (c.val t))/\Av M' w' (c.res t) v)
def FV (P:Program) (C:Aj):Prop:=(∀g mk,C.mks g=some mk->Du P g mk/\Ao P g)/\∀g c,C.fams g=some c->IC P g c/\Ao P g
def AC (P:Program) (C:Aj):Prop:=(∀g tr,C.trs g=some tr->F7 P g tr/\Ao P g)/\FV P C
def Jz (P:Program) (C:Aj):Prop:=(∀g it,C.iters g=some it->Hp P g it/\Ao P g)/\AC P C
abbrev Ee (P:Program) (G:Bn) (C:Aj):Prop:=(∀f sp,C.specs f=some sp->AB P f sp/\Ao P f)/\KT P G C/\Jz P C
theorem Ak.yielded {P:Program} {G:Bn} {st:St} {a:Act} {w w':World} {env:As} {M X:Nat->Prop} (S:Ak P G st a w env M X) {k:Nat} (hsz:w.heap.size<=w'.heap.size) (hb:∀c,c<w.heap.size->(G.m0 c\/X c)->w'.heap[c]? = w.heap[c]?) (hg:G.g k X w') :
  Ak P G { st with yk:=k } a w' env M X:=by
 have hM:∀b,M b->w'.heap[b]? = w.heap[b]?:=fun b h=>hb b (S.mlt b h) (S.mx b h);have hX:∀b,X b->w'.heap[b]? = w.heap[b]?:=fun b h=>hb b (S.xlt b h) (.inr h);have hl:Bg M M w w':=⟨hsz,hM,fun _ h=>h⟩;refine⟨⟨hg,S.gam.2⟩,S.mx,fun k o h=>?_,fun k o h g hg=>?_,S.inj,S.nod,fun b h=>Adt (S.mlt b h) hsz,fun b h=>Adt (S.xlt b h) hsz,S.siz,?_,S.grd,?_,S.dno⟩
 ·have h1:=S.own k o h;have h2:=S.oat k o h;exact h1.move hl rfl rfl (fun g' ha=>hX g' (h2 g' ha).1) (fun _ _=>⟨rfl,rfl⟩)
 ·obtain⟨q1,q2,q3⟩:=S.oat k o h g hg;exact⟨q1,q2,Adt q3 hsz⟩
 ·intro s e h;obtain⟨h1,h2,h3⟩:=S.tmp s e h;exact⟨h1,fun ho=>(h2 ho).later hl,h3⟩
 ·intro d h;obtain⟨D,e,q1,q2,q3,q4⟩:=S.dfr d h;exact⟨D,e,(hX D q2).trans q1,q2,q3,q4⟩
theorem iV {M M':Nat->Prop} {w w':World} {s:SV} {v:Value} (h:Av M w s v) (hs:Rp s=true):Av M' w' s v:=by
 cases h with
 |clo f cs vs hl hd =>
   cases cs with
   |nil=>exact .clo f [] vs hl (fun i hi=>absurd hi (oE _))
   |cons c cs=>cases hs
 |int k n=>exact .int k n
 |bool b=>exact .bool b
 |raw v=>exact .raw v
 |agg cs vs hl hd=>exact GL (.agg cs vs hl hd) hs
 |tup cs vs hl hd=>exact GL (.tup cs vs hl hd) hs
 |ref=>cases hs
 |sl=>cases hs
theorem Ak.yieldedF {P:Program} {G:Bn} {st:St} {a:Act} {w w':World} {env:As} {M X:Nat->Prop} (S:Ak P G st a w env M X) {k:Nat} (hsz:w.heap.size<=w'.heap.size) (hb:∀c,c<w.heap.size->X c->w'.heap[c]? = w.heap[c]?) (hg:G.g k X w') :
  Ak P G { st.bare with yk:=k } a w' env (fun _=>False) X:=by
 refine⟨⟨hg,S.gam.2⟩,fun b h=>h.elim,fun k o h=>(by cases h),fun k o h=>(by cases h),fun k o k' o' h=>(by cases h),List.nodup_nil,fun b h=>h.elim,fun b h=>Adt (S.xlt b h) hsz,S.siz,?_,fun s e h=>S.grd s e (Adn.1 h).1,?_,S.dno⟩
 ·intro s e h;obtain⟨h0,hf⟩:=Adn.1 h;obtain⟨h1,h2,h3⟩:=S.tmp s e h0;refine⟨h1,fun ho=>?_,h3⟩;have h4:=h2 ho;have hf:Rq e.v=true:=hf;show Am P _ _ _ e.v _;generalize a.eval (.tmp s)=v at h4;generalize e.v=ev at h4 hf;cases h4 with
  |p hp=>exact .p (iV hp hf)
  |yield=>exact .yield
  |any=>exact .any
  |_=>cases hf
 ·intro d h;obtain⟨D,e,q1,q2,q3,q4⟩:=S.dfr d h;exact⟨D,e,(hb D (S.xlt D q2) q2).trans q1,q2,fun h=>h,fun k o h=>(by cases h)⟩
theorem RH {gd:Option (Nat×Bool×Bool)} {p:Prop} (h:p):Ju gd p:=by
 unfold Ju;split
 ·exact h
 ·exact fun _=>h
theorem iW (hG:Bp G) (S:Ak P G st a w env M X) {C:Aj} {gd:Option (Nat×Bool×Bool)} (hgd:Eo a gd) (hh:Co gd) {dst:Option Nat} (hd:∀t,dst=some t->t<st.nt) (hq:∀q c x,gd=some (q,c,x)->dst≠some q)
  {sides:List Prop} {args:List EV} {L:List Nat} {sp:Spec} {K:St->Prop} (h:F5 C st gd dst sides args L sp K) {f:Nat} {vals:List Value} (hargs:Fo P (Dd M env L) w args vals) (hlt:∀b,Dd M env L b->b<w.heap.size)
  (hsp:AB P f sp) (hLown:∀r,r∈L->∃o,(r,o)∈st.own):CallsIn Fence.wide 0 P f vals.toArray w (fun e w'=>∃v,e=.returned v/\∃st',K st'/\AI P G st' (a.put dst v) w'):=by
 have mono:∀{R R':Ending->World->Prop},CallsIn Fence.wide 0 P f vals.toArray w R->(∀e w',R e w'->R' e w')->CallsIn Fence.wide 0 P f vals.toArray w R' :=
  fun h1 h2=>callsIn_wide.2 ((callsIn_wide.1 h1).mono h2)
 cases sp with
 |fn pre res =>
   simp only[F5]at h;obtain⟨h1,h2⟩:=B0 h;have h1:=F6 h1 hh;have hp:pre args:=h1 _ (by simp);split at h2
   ·rename_i hL;refine mono (hsp _ w args vals hlt hargs hp) fun e w' hg=>?_;obtain⟨v,rfl,hs⟩:=KS hG S hgd hh hd hq hL hg;exact⟨v,rfl,_,h2,hs⟩
   ·exact h2.elim
 |rel T t0 pre post res =>
   simp only[F5]at h;obtain⟨h1,h2⟩:=B0 h;have h1:=F6 h1 hh;have hp:pre args:=h1 _ (by simp);refine mono (hsp _ w args vals hlt hargs hp) fun e w' ⟨t,ht,hg⟩=>?_;have h3:=h2 t (RH ht);split at h3
   ·rename_i hL;obtain⟨v,rfl,hs⟩:=KS hG S hgd hh hd hq hL hg;exact⟨v,rfl,_,h3,hs⟩
   ·exact h3.elim
 |fresh T t0 pre post e0 sz n get =>
   simp only[F5]at h;obtain⟨h1,h2⟩:=B0 h;have h1:=F6 h1 hh;have hp:pre args:=h1 _ (by simp);refine mono (hsp _ w args vals hlt hargs hp) fun e w' ⟨t,ht,env',v,he,hb,ho,hrv,hat⟩=>?_;subst he;refine⟨v,rfl,?_⟩;have h30:=h2 t (RH ht);have hL:=(B0 h30).1;have h3:=(B0 h30).2;clear h30 h2;have hlt:∀b,Dd M env [] b->b<w.heap.size:=fun b hb=>hlt b (by
    rcases hb with hb|⟨_,hb,_⟩
    ·exact .inl hb
    ·simp at hb)
   have ho:B3 P (fun b=>Dd M env [] b\/(w.heap.size<=b/\b<w'.heap.size/\env'.at_ 0≠some b)) w' env' 0 (.row e0 sz (n args t) (get args t)):=by
    cases L with
    |nil=>exact ho
    |cons r L =>
      have hnm:∀i,i<n args t->Db.noMems (get args t i)=true:=Ay hL;obtain⟨hm,hgl,h4⟩:=ho;refine⟨hm,hgl,?_⟩;rcases h4 with h4|⟨g,cap,cur,h5,h6,h7,h8,h9,h10,h11⟩
      ·exact .inl h4
      ·exact .inr ⟨g,cap,cur,h5,h6,h7,h8,h9,h10,fun i hi j hj=>⟨(h11 i hi j hj).1,GL (h11 i hi j hj).2 (GL.noMems_at (hnm i hi) j (by rw[hgl i hi];exact hj))⟩⟩
   split at h3
   ·have S':=S.grow hG (KO hb) (M':=M) (fun b h=>h) (fun b h=>.inl h) (fun b h=>Adt (S.mlt b h) hb.size);exact⟨_,h3,_,_,_,S'⟩
   ·rename_i d;have ho0:=ho;obtain⟨hm,hgl,h4⟩:=ho;have hr:∃A k c,v=.slice A k c:=by
     rw[<- hrv];rcases h4 with ⟨_,h4,_⟩|⟨g,cap,cur,_,h4,_⟩<;>rw[h4]<;>exact⟨_,_,_,rfl⟩
    obtain⟨A,k,c,hv⟩:=hr;split at h3
    ·split at h3
     ·split at h3
      ·rename_i hn
       -- an own row
       let env2:As:={ env with at_:=fun j=>if j=d then env'.at_ 0 else env.at_ j,rv:=fun j=>if j=d then v else env.rv j };have e1:env2.at_ d=env'.at_ 0:=by simp[env2]
       have e2:env2.rv d=v:=by simp[env2]
       obtain⟨X',S'⟩:=(S.forget d).newOwn hG (hd d rfl) hn (fun s e h=>HM h) (KO hb) (env':=env2) (fun j hj=>by simp[env2,hj]) rfl
        (fun g hg=>by rw[e1]at hg;exact hat g hg) (M':=fun b=>Dd M env [] b\/(w.heap.size<=b/\b<w'.heap.size/\env'.at_ 0≠some b)) (fun b hb=>.inl (.inl hb))
        (fun b hb=>by
         rcases hb with (hb|⟨_,hb,_⟩)|hb
         ·exact .inl hb
         ·simp at hb
         ·exact .inr ⟨hb.1,by rw[e1];exact hb.2.2⟩)
        (fun b hb'=>by
         rcases hb' with hb'|hb'
         ·exact Adt (hlt b hb') hb.size
         ·exact hb'.2.1)
        (o:=.row e0 sz (n args t) (get args t)) ⟨hm,hgl,by rw[e1,e2,<- hrv];exact h4⟩
       subst hv;exact⟨_,h3,_,_,_,S'.put0 hd (.row e2)⟩
      ·exact h3.elim
     ·exact h3.elim
    ·have S' :=S.grow hG (KO hb) (M' :=fun b =>M b\/(w.heap.size<=b/\b<w'.heap.size)) (fun b h => .inl h) (fun b h =>by rcases h with h|h; exact .inl h; exact .inr h.1)
      (fun b h=>by rcases h with h|h;exact Adt (S.mlt b h) hb.size;exact h.2)
     refine⟨_,h3,_,_,_,S'.putG hgd hd hq (fun _=>.p ?_) (fun hn=>absurd hh hn)⟩;rw[<- hrv];have hw:∀b,(Dd M env [] b\/(w.heap.size<=b/\b<w'.heap.size/\env'.at_ 0≠some b))->(M b\/(w.heap.size<=b/\b<w'.heap.size)):=fun b hb=>by
      rcases hb with (hb|⟨_,hb,_⟩)|hb
      ·exact .inl hb
      ·simp at hb
      ·exact .inr ⟨hb.1,hb.2.1⟩
     rcases h4 with ⟨_,hrv',hn0⟩|⟨g,cap,cur,hg',hrv',hh',hnc,hcm,hcs,hd'⟩
     ·rw[hrv',hn0];exact .sl _ _ _ _ _ (fun _ _=>undef) (Adp _) (Ads _) (fun h=>by omega) (fun i hi=>by omega) (fun i hi=>by omega) (fun i hi=>by omega)
     ·rw[hrv'];refine .sl _ _ _ _ _ (fun i j=>cur.getD (i*sz+j) undef) hnc hm (fun _=>⟨_,rfl,.inr (hat g hg'),fun i hi j hj=>?_⟩) hgl (fun i hi j hj=>(hd' i hi j hj).1) (fun i hi j hj=>(hd' i hi j hj).2.weak hw);have:=Cj (sz:=sz) (len:=cap) (Adt hi hnc) hj;rw[CB,AdE,E4 hh' (by omega)]
theorem iX (S:Ak P G st a w env M X) {sz:Nat} {e:EV} {ps:List Prop} {m:Nat} {get:Nat->List SV} (h:Ec st sz e=some (ps,m,get)) (hp:all ps)
  {v:Value} (hv:Am P M w env e v):∃L,Av (Dd M env L) w (.sl sz m get) v/\∀r,r∈L->∃o,(r,o)∈st.own:=by
 have hw:∀L b,M b->Dd M env L b:=fun L b hb=>.inl hb;cases e with
 |p s =>
   cases s with
   |sl sz' n' g' =>
     simp only[Ec]at h;split at h
     ·rename_i hs;subst hs;cases h;rcases hv with ⟨hv⟩;exact⟨[],hv.weak (hw []),fun r hr=>by simp at hr⟩
     ·cases h
   |raw v' =>
     unfold Ec at h;split at h
     ·rename_i heq;cases heq
     ·rename_i heq;cases heq;cases h;rcases hv with ⟨hv⟩;cases hv;exact⟨[],.sl _ _ _ _ _ (fun _ _=>undef) (Adp _) (Ads _) (fun h=>by omega) (fun i hi=>by omega) (fun i hi=>by omega) (fun i hi=>by omega),fun r hr=>by simp at hr⟩
     ·rename_i heq;cases heq
     ·rename_i heq;cases heq
     ·rename_i heq;cases heq
     ·cases h
   |_=>simp[Ec]at h
 |full q sz' n' g' =>
   simp only[Ec]at h;split at h
   ·rename_i hs;subst hs;cases h;cases hv with
    |full hv _=>exact⟨[],hv.weak (hw []),fun r hr=>by simp at hr⟩
   ·cases h
 |row r =>
   simp only[Ec]at h;split at h
   ·rename_i e' sz' n' g' hl;split at h
    ·rename_i hs;subst hs;cases h;cases hv with
     |row hrv =>
     have:=Mp S (Bq hl) (M':=Dd M env [r]) (hw _) (fun g hg=>.inr ⟨r,by simp,hg⟩);rw[hrv]at this;exact⟨[r],this,fun r' hr'=>by simp at hr';subst hr';exact⟨_,Bq hl⟩⟩
    ·cases h
   ·cases h
 |rsub r sz1 lo n1 =>
   simp only[Ec]at h;split at h
   ·rename_i e' sz' n' g' hl;split at h
    ·rename_i hs;obtain⟨rfl,rfl⟩:=hs;cases h;exact⟨[r],O0 S (Bq hl) (M':=Dd M env [r]) (hw _) (fun g hg=>.inr ⟨r,by simp,hg⟩) (Ay hp) hv,fun r' hr'=>by simp at hr';subst hr';exact⟨_,Bq hl⟩⟩
    ·cases h
   ·cases h
 |_=>simp[Ec]at h
theorem RI {M':Nat->Prop} {sz m:Nat} {get:Nat->List SV} {v:Value} (h:Av M' w (.sl sz m get) v):∃(A:Option Addr) (cap:Nat) (news:List Value),v=.slice A m cap/\m<=cap/\news.length=m*sz/\(A=none->m=0)/\(∀ad,A=some ad->0<m->∀j u,news[j]? = some u->w.cell? (ad.add j)=some u) /\
  (∀u:Value,u∈news->u.oneCell'=true)/\(∀i,i<m->(get i).length=sz)/\∀i,i<m->∀j,j<sz->Av M' w (SV.at (get i) j) (news.getD (i*sz+j) undef):=by
 cases h with
 |sl _ _ _ A cap vs hcap hm hA hg ho hd =>
   have hAn:A=none->m=0:=fun h=>by
    rcases Ae1 m with h0|h0
    ·exact h0
    ·obtain⟨ad,e,_⟩:=hA h0;rw[h]at e;cases e
   by_cases hsz:sz=0
   ·subst hsz;exact⟨A,cap,[],rfl,hcap,by simp,hAn,fun ad _ _ j u hu=>by simp at hu,fun u hu=>by simp at hu,hg,fun i hi j hj=>by omega⟩
   have hpos:0<sz:=Nat.pos_of_ne_zero hsz;have key:∀k,k<m*sz->k / sz<m/\k % sz<sz/\k / sz*sz+k % sz=k:=fun k hk=>⟨Nat.div_lt_of_lt_mul (by rw[Aem];exact hk),Nat.mod_lt _ hpos,by rw[Aem];exact Nat.div_add_mod k sz⟩;refine⟨A,cap,(List.range (m*sz)).map fun k=>vs (k / sz) (k % sz),rfl,hcap,by simp,hAn,fun ad e h0 j u hu=>?_,fun u hu=>?_,hg,fun i hi j hj=>?_⟩
   ·obtain⟨ad',e',_,hc⟩:=hA h0;rw[e]at e';cases e';have hj:j<m*sz:=by have:=(AdH.1 hu).1;simpa using this
    obtain⟨k1,k2,k3⟩:=key j hj;have:=hc _ k1 _ k2;rw[k3]at this;rw[this];simp[hj]at hu;rw[hu]
   ·obtain⟨k,hk,rfl⟩:=Ado.1 hu;have hk:k<m*sz:=by simpa using hk
    obtain⟨k1,k2,_⟩:=key k hk;exact ho _ k1 _ k2
   ·have hlt:=Cj (sz:=sz) hi hj;rw[AS];simp only[List.getElem?_map,List.getElem?_range hlt,Aej,AdU];have h1:(i*sz+j) / sz=i:=by rw[Aem,Nat.mul_add_div hpos,Nat.div_eq_of_lt hj,Nat.add_zero]
    have h2:(i*sz+j) % sz=j:=by rw[Aem,Nat.mul_add_mod,AeV hj]
    rw[h1,h2];exact hd i hi j hj
theorem iY {t ty e:TypeId} {y:Ty} (ht:P.underlying t=some (.slice e)) (hy:Bf P e=some y) {v:Value} {n:Nat} {xs:List Value} (hown:w.ownsRow 0 e y.size v n xs) (c:Nat) :
  (Builtin.append_ #[t,t] ty #[v,.slice none 0 c]).run P w=.ok v w:=by
 obtain⟨i,hi,hz,hs,hb,_⟩:=C5 hy;rcases hown.2 with ⟨rfl,rfl⟩|⟨g,cap,cur,rfl,_,_,hnc,_⟩
 ·simp[Builtin.append_,run_underlying ht,sizeOf,typeInfo,hi,Builtin.lenOf,Builtin.firstCells]
 ·simp[Builtin.append_,run_underlying ht,sizeOf,typeInfo,hi,Builtin.lenOf,Builtin.firstCells,hnc,storeCells]
theorem iZ {t ty e:TypeId} {y:Ty} (hy:Bf P e=some y) (ht:P.underlying t=some (.slice e)) {v:Value} {n:Nat} {xs:List Value} (hown:w.ownsRow 0 e y.size v n xs) (_:0<y.size) (_:y.zero.cells.size=y.size)
  {ad:Addr} {m cap:Nat} {news:List Value} (hl:news.length=m*y.size) (hc:∀j u,news[j]? = some u->w.cell? (ad.add j)=some u) (h1:∀u,u∈news->u.oneCell'=true)
  (h63:n+m<=maxLen) (hbytes:(n+m)*y.bytes<=140737488355328) {v':Value} {w':World} (hrun:(Builtin.append_ #[t,t] ty #[v,.slice (some ad) m cap]).run P w=.ok v' w'):w.drawn<=w'.drawn:=by
 obtain⟨i,hi,hz,hs,hb,_⟩:=C5 hy;have hsmall:n+m<=9223372036854775807:=by simp only[maxLen]at h63;omega
 rcases hown.2 with ⟨rfl,rfl⟩|⟨g,cp,cur,rfl,_,hg,hnc,_,hcs,_⟩
 ·by_cases hm:m=0
  ·subst hm;have hn:news = []:=AdT (by simpa using hl);subst hn;simp[Builtin.append_,run_underlying ht,sizeOf,typeInfo,hi,Builtin.lenOf,Builtin.firstCells,loadCells,loadCellsFrom]at hrun;rw[<- hrun.2];exact Adp _
  ·have hr:=run_append_nil (P:=P) w t ty e i y.zero ht hi hz ad m cap news (by rw[hl,hs]) hc (by omega) (by omega) (by rw[hb];have h:=hbytes;rw[AdE]at h;omega);rw[hr]at hrun;cases hrun;exact Nat.le_succ _
 ·by_cases hroom:n+m<=cp
  ·have hfit:n*i.size+news.length<=cur.size:=by rw[hl,hcs,hs,<- AdK];exact Ad5 _ hroom
   have hr:=run_append_room (P:=P) w t ty e i ht hi g n cp cur hg ad m cap news (by rw[hl,hs]) hc h1 hroom hfit;rw[hr]at hrun;cases hrun;exact Adp _
  ·have hr:=run_append_grow (P:=P) w t ty e i y.zero ht hi hz ⟨g,0,none⟩ n cp xs (by rw[hown.1,hs]) (fun j u hu=>hown.cells (g:=g) rfl j u hu) ad m cap news (by rw[hl,hs]) hc (by omega) (by omega) (growslice_fits (by omega) (by rw[hb];exact hbytes));rw[hr]at hrun;cases hrun;exact Nat.le_succ _
theorem RJ {t ty e:TypeId} {y:Ty} (ht:P.underlying t=some (.slice e)) (hy:Bf P e=some y) (hsz:0<y.size) (hzs:y.zero.cells.size=y.size) {v:Value} {n:Nat} {xs:List Value} (hown:w.ownsRow 0 e y.size v n xs)
  {A:Option Addr} {m cap:Nat} {news:List Value} (hl:news.length=m*y.size) (hA:A=none->m=0) (hc:∀ad,A=some ad->0<m->∀j u,news[j]? = some u->w.cell? (ad.add j)=some u) (h1:∀u,u∈news->u.oneCell'=true)
  (h63:n+m<=maxLen) (hbytes:(n+m)*y.bytes<=140737488355328) :
  ∃v' w',(Builtin.append_ #[t,t] ty #[v,.slice A m cap]).run P w=.ok v' w'/\w'.ownsRow 0 e y.size v' (n+m) (xs++news)/\w.grownBy w' v.ownBlock/\(v'.ownBlock=v.ownBlock\/v'.ownBlock=some w.heap.size)/\w.drawn<=w'.drawn:=by
 obtain⟨i,hi,hz,hs,hb,_⟩:=C5 hy;cases A with
 |none =>
   have:=hA rfl;subst this;have:news = []:=AdT (by simpa using hl);subst this;exact⟨v,w,iY ht hy hown cap,by simpa using hown,World.grownBy.refl w _,.inl rfl,Adp _⟩
 |some ad =>
   have hcells:∀j u,news[j]? = some u->w.cell? (ad.add j)=some u:=fun j u hu=>by
    rcases Ae1 m with h0|h0
    ·subst h0;have:news = []:=AdT (by simpa using hl);subst this;simp at hu
    ·exact hc ad rfl h0 j u hu
   obtain⟨v',w',h2,h3,h4,_,h5⟩:=run_append_own_at (P:=P) w 0 t ty e i y.zero y.size y.bytes ht hi hz hs hb hzs hsz v n xs hown ad m cap news hl hcells h1 h63 hbytes (Ads _);exact⟨v',w',h2,h3,h4,h5,iZ hy ht hown hsz hzs hl hcells h1 h63 hbytes h2⟩
end
section
variable {P:Program} {M:Nat->Prop} {w:World} {G:Bn} {st:St} {a:Act} {env:As} {X:Nat->Prop}
def Mr (M:Nat->Prop) (w:World) (sz m:Nat) (get:Nat->List SV) (v:Value):Prop :=
 ∃(A:Option Addr) (cap:Nat) (news:List Value),v=.slice A m cap/\news.length=m*sz/\(A=none->m=0)/\(∀ad,A=some ad->0<m->∀j u,news[j]? = some u->w.cell? (ad.add j)=some u) /\
   (∀u:Value,u∈news->u.oneCell'=true)/\(∀i,i<m->(get i).length=sz)/\∀i,i<m->∀j,j<sz->Av M w (SV.at (get i) j) (news.getD (i*sz+j) undef)
theorem O2 {sz m:Nat} {get:Nat->List SV} {v:Value} (h:Av M w (.sl sz m get) v):Mr M w sz m get v:=by
 obtain⟨A,cap,news,h1,_,h2⟩:=RI h;exact⟨A,cap,news,h1,h2⟩
theorem KU {sz m:Nat} {get:Nat->List SV} {v:Value} {M':Nat->Prop} (h:Mr M' w sz m get v) (f:Nat->Nat->Value) (hf:∀ad cap,v=.slice (some ad) m cap->∀i,i<m->∀j,j<sz->w.cell? (ad.add (i*sz+j))=some (f i j)/\Av M w (SV.at (get i) j) (f i j)):Mr M w sz m get v:=by
 obtain⟨A,cap,news,rfl,h1,h2,h3,h4,h5,h6⟩:=h;refine⟨A,cap,news,rfl,h1,h2,h3,h4,h5,fun i hi j hj=>?_⟩;cases A with
 |none=>have:=h2 rfl;omega
 |some ad =>
   obtain⟨k1,k2⟩:=hf ad cap rfl i hi j hj;have hlt:=Cj (sz:=sz) hi hj;have:=h3 ad rfl (by omega) (i*sz+j) (news.getD (i*sz+j) undef) (by rw[AS,rH (by omega)];rfl);rw[k1]at this;injection this with this;rw[<- this];exact k2
theorem J0 (S:Ak P G st a w env M X) {sz:Nat} {e:EV} {ps:List Prop} {m:Nat} {get:Nat->List SV} (h:Ec st sz e=some (ps,m,get)) (hp:all ps)
  {v:Value} (hv:Am P M w env e v):Mr M w sz m get v:=by
 have hv0:=hv;obtain⟨L,hd,_⟩:=iX S h hp hv;have hc:=O2 hd;cases e with
 |p s =>
   cases s with
   |sl sz' n' g' =>
     simp only[Ec]at h;split at h
     ·rename_i hs;subst hs;cases h;rcases hv with ⟨hv⟩;exact O2 hv
     ·cases h
   |raw v' =>
     refine KU hc (fun _ _=>undef) (fun ad cap e i hi=>?_);unfold Ec at h;split at h
     ·rename_i heq;cases heq
     ·cases h;omega
     ·rename_i heq;cases heq
     ·rename_i heq;cases heq
     ·rename_i heq;cases heq
     ·cases h
   |_=>simp[Ec]at h
 |full q sz' n' g' =>
   simp only[Ec]at h;split at h
   ·rename_i hs;subst hs;cases h;cases hv with
    |full hv _=>exact O2 hv
   ·cases h
 |row r =>
   simp only[Ec]at h;split at h
   ·rename_i e' sz' n' g' hl;split at h
    ·rename_i hs;subst hs;cases h;obtain⟨_,_,hO⟩:=S.own _ _ (Bq hl);cases hv with
     |row hrv =>
     rcases hO with ⟨_,hrv',hn⟩|⟨g,cap,cur,hg,hrv',hh,hnc,hcm,hcs,hd'⟩
     ·exact KU hc (fun _ _=>undef) (fun ad cap e i hi=>by omega)
     ·rw[hrv']at hrv;cases hrv;refine KU hc (fun i j=>cur.getD (i*sz'+j) undef) (fun ad cap' e i hi j hj=>?_);cases e;have:=Cj (sz:=sz') (Adt hi hnc) hj;exact⟨by rw[CB,AdE,E4 hh (by omega)],(hd' i hi j hj).2⟩
    ·cases h
   ·cases h
 |rsub r sz1 lo n1 =>
   simp only[Ec]at h;split at h
   ·rename_i e' sz' n' g' hl;split at h
    ·rename_i hs;obtain⟨rfl,rfl⟩:=hs;cases h;have hle:lo+m<=n':=Ay hp;obtain⟨_,_,hO⟩:=S.own _ _ (Bq hl);cases hv with
     |rsub A cap0 hc0 hm0 hA =>
     rcases hO with ⟨_,hrv',hn⟩|⟨g,cap,cur,hg,hrv',hh,hnc,hcm,hcs,hd'⟩
     ·exact KU hc (fun _ _=>undef) (fun ad cap e i hi=>by omega)
     ·refine KU hc (fun i j=>cur.getD ((lo+i)*sz1+j) undef) (fun ad cap' e i hi j hj=>?_);cases e;obtain⟨g',hg',e⟩:=hA (by omega);rw[hg]at hg';cases hg';cases e;have:=Cj (i:=lo+i) (sz:=sz1) (len:=cap) (by omega) hj;exact⟨by rw[CB,show lo*sz1+(i*sz1+j)=(lo+i)*sz1+j by rw[AdK,Nat.add_assoc],E4 hh (by omega)],(hd' _ (by omega) j hj).2⟩
    ·cases h
   ·cases h
 |_=>simp[Ec]at h
theorem RK {e:TypeId} {y:Ty} {n m:Nat} {get get2:Nat->List SV} {xs news:List Value} {w':World} {v':Value} {env':As} {k:Nat} (hl:Bg M M w w')
  (hxl:xs.length=n*y.size) (hgl:∀i,i<n->(get i).length=y.size) (hgl2:∀i,i<m->(get2 i).length=y.size) (hnl:news.length=m*y.size) (hx1:∀u,u∈xs->u.oneCell'=true) (hn1:∀u,u∈news->u.oneCell'=true)
  (hdx:∀i,i<n->∀j,j<y.size->Av M w (SV.at (get i) j) (xs.getD (i*y.size+j) undef)) (hdn:∀i,i<m->∀j,j<y.size->Av M w (SV.at (get2 i) j) (news.getD (i*y.size+j) undef))
  (hown:w'.ownsRow 0 e y.size v' (n+m) (xs++news)) (hm:n+m<=maxLen) (hat:env'.at_ k=v'.ownBlock) (hrv:env'.rv k=v'):B3 P M w' env' k (.row e y.size (n+m) (Ba n get get2)):=by
 refine⟨hm,fun i hi=>?_,?_⟩
 ·unfold Ba;split
  ·rename_i h;exact hgl i h
  ·exact hgl2 _ (by omega)
 ·rcases hown.2 with ⟨rfl,h0⟩|⟨g,cap,cur,rfl,_,hh,hnc,hcm,hcs,htake⟩
  ·exact .inl ⟨by rw[hat];rfl,hrv,h0⟩
  ·refine .inr ⟨g,cap,cur,by rw[hat];rfl,hrv,hh,hnc,hcm,hcs,fun i hi j hj=>?_⟩;have hlt:=Cj (sz:=y.size) hi hj;have hlt2:=Cj (sz:=y.size) (Adt hi hnc) hj;have e1:cur.getD (i*y.size+j) undef=(xs++news).getD (i*y.size+j) undef:=by
    rw[<- htake,AS,Aeq hlt,LS];simp
   rw[e1];unfold Ba
   by_cases hin:i<n
   ·have hltn:=Cj (sz:=y.size) hin hj;rw[if_pos hin,AS,Ad7 (by omega),<- AS];refine⟨?_,(hdx i hin j hj).later hl⟩;rw[AS,rH (by omega)];exact hx1 _ (AdC _)
   ·have hge:n*y.size<=i*y.size:=Ad5 _ (by omega);have hsub:i*y.size+j-n*y.size=(i-n)*y.size+j:=by rw[Nat.sub_mul];omega
    have hltm:=Cj (i:=i-n) (sz:=y.size) (len:=m) (by omega) hj;rw[if_neg hin,AS,Ad8 (by omega),hxl,hsub,<- AS];refine⟨?_,(hdn _ (by omega) j hj).later hl⟩;rw[AS,rH (by omega)];exact hn1 _ (AdC _)
theorem jA {t ty e:TypeId} {y:Ty} (ht:P.underlying t=some (.slice e)) (hy:Bf P e=some y) {A0 A:Option Addr} {n m cap:Nat} {olds news:List Value} (hol:olds.length=n*y.size) (hA0:A0=none->n=0)
  (hoc:∀ad,A0=some ad->0<n->∀j u,olds[j]? = some u->w.cell? (ad.add j)=some u) (hl:news.length=m*y.size) (hA:A=none->m=0) (hc:∀ad,A=some ad->0<m->∀j u,news[j]? = some u->w.cell? (ad.add j)=some u)
  (hm0:0<m) (h63:n+m<=maxLen) (hbytes:(n+m)*y.bytes<=140737488355328) :
  ∃c zs,(Builtin.append_ #[t,t] ty #[.slice A0 n n,.slice A m cap]).run P w=.ok (.slice (some ⟨w.heap.size,0,none⟩) (n+m) c) (w.drew.alloc (.cells ((olds++news).toArray++zs) e))/\n+m<=c:=by
 obtain⟨i,hi,hz,hs,hb,_⟩:=C5 hy;have hsmall:n+m<=9223372036854775807:=by simp only[maxLen]at h63;omega
 cases A with
 |none=>exact absurd (hA rfl) (by omega)
 |some ad =>
   cases A0 with
   |none =>
     have:=hA0 rfl;subst this;have:olds = []:=AdT (by simpa using hol);subst this;have hr:=run_append_nil (P:=P) w t ty e i y.zero ht hi hz ad m cap news (by rw[hl,hs]) (hc ad rfl hm0) hm0 (by omega) (by rw[hb];have h:=hbytes;rw[AdE]at h;omega);refine⟨_,_,by rw[hr];simp only[AdE,List.nil_append];rfl,?_⟩;rw[AdE];exact grownCap_ge w m 0 e
   |some ad0 =>
     have hr :=run_append_grow (P :=P) w t ty e i y.zero ht hi hz ad0 n n olds (by rw[hol, hs]) (fun j u hu =>by
      rcases Ae1 n with h0|h0
      ·subst h0;have:olds = []:=AdT (by simpa using hol);subst this;simp at hu
      ·exact hoc ad0 rfl h0 j u hu) ad m cap news (by rw[hl,hs]) (hc ad rfl hm0) (by omega) (by omega) (growslice_fits (by omega) (by rw[hb];exact hbytes))
     refine⟨_,_,by rw[hr];simp only[List.append_toArray];rfl,?_⟩;exact grownCap_ge w (n+m) n e
theorem RL (hG:Bp G) (S:Ak P G st a w env M X) {t e:TypeId} {y:Ty} {n m:Nat} {get get2:Nat->List SV}
  (hu:P.underlying t=some (.slice e)) (hy:Bf P e=some y) (_:0<y.size) (hm0:0<m) (hbytes:(n+m)*y.bytes<=140737488355328) (hmax:n+m<=maxLen)
  {A:Option Addr} {cap:Nat} {news:List Value} (c1:news.length=m*y.size) (c2:A=none->m=0) (c3:∀ad,A=some ad->0<m->∀j u,news[j]? = some u->w.cell? (ad.add j)=some u) (c4:∀u,u∈news->u.oneCell'=true)
  (c5:∀i,i<m->(get2 i).length=y.size) (c6:∀i,i<m->∀j,j<y.size->Av M w (SV.at (get2 i) j) (news.getD (i*y.size+j) undef)) {A0:Option Addr} (hs:Av M w (.sl y.size n get) (.slice A0 n n)) (ty:TypeId) :
  ∃v' w' M' X',(Builtin.append_ #[t,t] ty #[.slice A0 n n,.slice A m cap]).run P w=.ok v' w'/\Ak P G st a w' env M' X'/\Av M' w' (.sl y.size (n+m) (Ba n get get2)) v':=by
 obtain⟨A1,cap1,olds,he,_,o1,o2,o3,o4,o5,o6⟩:=RI hs;cases he;obtain⟨c,zs,hrun,hc⟩:=jA (P:=P) (w:=w) (ty:=ty) (cap:=cap) hu hy o1 o2 o3 c1 c2 c3 hm0 hmax hbytes;have hs1:=Rz w;have hs2:=I9 w.drew (.cells ((olds++news).toArray++zs) e);have hsame:Same (fun _=>False) w (w.drew.alloc (.cells ((olds++news).toArray++zs) e)):=⟨hs2.os.trans hs1.os,hs2.tape.trans hs1.tape,hs2.output.trans hs1.output,Nat.le_trans hs1.drawn hs2.drawn,Nat.le_trans hs1.size hs2.size,fun b hb h=>(hs2.block b hb h).trans (hs1.block b hb h)⟩;have hsize:(w.drew.alloc (.cells ((olds++news).toArray++zs) e)).heap.size=w.heap.size+1:=by simp
 have hnew:(w.drew.alloc (.cells ((olds++news).toArray++zs) e)).heap[w.heap.size]? = some (.cells ((olds++news).toArray++zs) e (0,0)):=heap_alloc_new w.drew _;have S':=S.grow hG hsame (M':=fun b=>M b\/b=w.heap.size) (fun b h=>.inl h) (fun b h=>by rcases h with h|h;exact .inl h;exact .inr (by omega)) (fun b h=>by rcases h with h|h;exact Adt (S.mlt b h) hsame.size;rw[hsize];omega);have hlat:Bg M (fun b=>M b\/b=w.heap.size) w (w.drew.alloc (.cells ((olds++news).toArray++zs) e)):=⟨hsame.size,fun b hb=>hsame.block b (S.mlt b hb) id,fun b hb=>.inl hb⟩;refine⟨_,_,_,_,hrun,S',?_⟩;have hlen:(olds++news).length=(n+m)*y.size:=by rw[AdL,o1,c1,AdK]
 have hget:∀k,k<(n+m)*y.size->(((olds++news).toArray++zs).getD k undef)=(olds++news).getD k undef:=fun k hk=>by
  rw[LS,Aei (by simpa[hlen]using hk),AS];simp
 have key:∀i,i<n+m->∀j,j<y.size->((((olds++news).toArray++zs).getD (i*y.size+j) undef).oneCell'=true/\Av M w (SV.at (Ba n get get2 i) j) (((olds++news).toArray++zs).getD (i*y.size+j) undef)):=fun i hi j hj=>by
  have hlt:=Cj (sz:=y.size) hi hj;rw[hget _ hlt];unfold Ba
  by_cases hin:i<n
  ·have hltn:=Cj (sz:=y.size) hin hj;rw[if_pos hin,AS,Ad7 (by omega),<- AS];refine⟨?_,o6 i hin j hj⟩;rw[AS,rH (by omega)];exact o4 _ (AdC _)
  ·have hge:n*y.size<=i*y.size:=Ad5 _ (by omega);have hsub:i*y.size+j-n*y.size=(i-n)*y.size+j:=by rw[Nat.sub_mul];omega
   have hltm:=Cj (i:=i-n) (sz:=y.size) (len:=m) (by omega) hj;rw[if_neg hin,AS,Ad8 (by omega),o1,hsub,<- AS];refine⟨?_,c6 _ (by omega) j hj⟩;rw[AS,rH (by omega)];exact c4 _ (AdC _)
 refine .sl _ _ _ _ _ (fun i j=>((olds++news).toArray++zs).getD (i*y.size+j) undef) hc hmax (fun _=>⟨_,rfl,.inr rfl,fun i hi j hj=>?_⟩) (fun i hi=>?_) (fun i hi j hj=>(key i hi j hj).1) (fun i hi j hj=>(key i hi j hj).2.later hlat)
 ·have hlt:=Cj (sz:=y.size) hi hj;rw[CB,AdE,E4 hnew (by simp[hlen]at *;omega)]
 ·unfold Ba;split
  ·rename_i h;exact o5 i h
  ·exact c5 _ (by omega)
theorem jB (hG:Bp G) (S:Ak P G st a w env M X) {t:TypeId} {d:Nat} {s x:EV} {K:St->Prop} (h:NX P st t d s x K) (hd:d<st.nt) {vs vx:Value} (hs:Am P M w env s vs) (hx:Am P M w env x vx) (ty:TypeId) :
  ∃v' w',(Builtin.append_ #[t,t] ty #[vs,vx]).run P w=.ok v' w'/\∃st',K st'/\AI P G st' (a.put (some d) v') w':=by
 unfold NX at h;split at h
 ·rename_i e hu;split at h
  ·rename_i y hy;split at h
   ·rename_i sides m get2 hsl;split at h
    ·rename_i hc;obtain⟨hb,hsz,hzs⟩:=hc;split at h
     ·rename_i r;split at h
      ·rename_i e' sz n get hl;split at h
       ·rename_i hc2;obtain⟨rfl,rfl,hxr,hrn⟩:=hc2;obtain⟨hp,hk⟩:=B0 h;obtain⟨hp1,hp2⟩:=all_append hp;have hbytes:(n+m)*y.bytes<=140737488355328:=Ay hp2;have hmax:=Mj hb hbytes;obtain⟨A,cap,news,rfl,c1,c2,c3,c4,c5,c6⟩:=J0 S hsl hp1 hx;have hmem:=Bq hl;obtain⟨hm,hgl,hO⟩:=S.own _ _ hmem;cases hs with
        |row hrv =>
        obtain⟨xs,hxo,hx1,hxd,hob⟩:∃xs,w.ownsRow 0 e' y.size (env.rv r) n xs/\(∀u,u∈xs->u.oneCell'=true)/\(∀i,i<n->∀j,j<y.size->Av M w (SV.at (get i) j) (xs.getD (i*y.size+j) undef))/\(env.rv r).ownBlock=env.at_ r:=by
         rcases hO with ⟨h1,h2,h3⟩|⟨g,cap',cur,hg,hrv',hh,hnc,hcm,hcs,hd'⟩
         ·subst h3;exact⟨[],by rw[h2];exact World.ownsRow_nil w 0 e' y.size,fun u hu=>by simp at hu,fun i hi=>by omega,by rw[h2,h1];rfl⟩
         ·have hle:n*y.size<=cap'*y.size:=Ad5 _ hnc;refine⟨cur.toList.take (n*y.size),⟨by simp;omega,.inr ⟨g,cap',cur,hrv',Ads _,hh,hnc,hcm,hcs,rfl⟩⟩,fun u hu=>?_,fun i hi j hj=>?_,by rw[hrv',hg];rfl⟩
          ·obtain⟨k,hk,rfl⟩:=AdM hu;have hk':k<n*y.size:=by simp at hk;omega
           have h1:k / y.size<n:=Nat.div_lt_of_lt_mul (by rw[Aem];exact hk');have h2:=(hd' _ h1 _ (Nat.mod_lt k hsz)).1;rw[show k / y.size*y.size+k % y.size=k by rw[Aem];exact Nat.div_add_mod k y.size]at h2;rw[LS,rK (by omega)]at h2;simpa using h2
          ·have:=Cj (sz:=y.size) hi hj;rw[AS,Aeq this];have:=(hd' i hi j hj).2;rw[LS]at this;simpa using this
        obtain⟨v',w',hrun,hown',hgr,hblk,hdr⟩:=RJ (P:=P) (ty:=ty) (cap:=cap) hu hy hsz hzs hxo c1 c2 c3 c4 hmax hbytes;rw[hrv]at hrun;let env2:As:={ env with at_:=fun j=>if j=r then v'.ownBlock else env.at_ j,rv:=fun j=>if j=r then v' else env.rv j };have e1:env2.at_ r=v'.ownBlock:=by simp[env2]
        have e2:env2.rv r=v':=by simp[env2]
        have hs':Same (fun b=>env.at_ r=some b) w w':=⟨hgr.os,hgr.tape,hgr.output,hdr,hgr.size,fun b hb hne=>hgr.block b hb (fun e=>hne (by rw[<- hob];exact e.symm))⟩;have hlat:Bg M M w w':=⟨hgr.size,fun b hb=>hs'.block b (S.mlt b hb) (fun e=>(S.oat _ _ hmem b e).2.1 hb),fun b hb=>hb⟩;have hnew:=RK (P:=P) (env':=env2) (k:=r) hlat hxo.1 hgl c5 c1 hx1 c4 hxd c6 hown' hmax e1 e2;have hmem':∃o,(r,o)∈(st.scrub r).own:=⟨.row e' y.size n get,Ado.2 ⟨(r,.row e' y.size n get),Adn.2 ⟨hmem,rfl⟩,rfl⟩⟩;obtain⟨o0,ho0⟩:=hmem';have hlt':∀g,v'.ownBlock=some g->g<w'.heap.size:=fun g hg=>(hown'.lt g hg).2;obtain⟨X',S'⟩:=(Mm S r).rerow hG hrn ho0 (fun s e h=>Mn h) (fun k' o' h=>Mo h) hs' (env':=env2) (fun j hj=>by simp[env2,hj]) rfl
         (fun g hg=>by
          rw[e1]at hg;refine⟨?_,hlt' g hg⟩;rcases hblk with hb'|hb'
          ·left;rw[<- hob,<- hb'];exact hg
          ·right;rw[hb']at hg;cases hg;exact Adp _) hnew
        have hv':∃A k c,v'=.slice A k c:=by
         rcases hown'.2 with ⟨h,_⟩|⟨_,_,_,h,_⟩<;>rw[h]<;>exact⟨_,_,_,rfl⟩
        obtain⟨A',k',c',rfl⟩:=hv';exact⟨_,w',hrun,_,hk,_,_,_,S'.put0 (by intro t' ht;cases ht;exact hd) (.row e2)⟩
       ·exact h.elim
      ·exact h.elim
     ·split at h
      ·rename_i hn;obtain⟨hp,hk⟩:=B0 h;obtain⟨hp1,hp2⟩:=all_append hp;have hbytes:m*y.bytes<=140737488355328:=Ay hp2;have hmax:=Mj hb hbytes;obtain⟨A,cap,news,rfl,c1,c2,c3,c4,c5,c6⟩:=J0 S hsl hp1 hx;rcases hs with ⟨hs⟩;cases hs;obtain⟨v',w',hrun,hown',hgr,hblk,hdr⟩:=RJ (P:=P) (ty:=ty) (cap:=cap) hu hy hsz hzs (World.ownsRow_nil w 0 e y.size) c1 c2 c3 c4 (by omega) (by simpa using hbytes);simp only[AdE,List.nil_append]at hown';let env2:As:={ env with at_:=fun j=>if j=d then v'.ownBlock else env.at_ j,rv:=fun j=>if j=d then v' else env.rv j };have e1:env2.at_ d=v'.ownBlock:=by simp[env2]
       have e2:env2.rv d=v':=by simp[env2]
       have hs':Same (fun _=>False) w w':=⟨hgr.os,hgr.tape,hgr.output,hdr,hgr.size,fun b hb _=>hgr.block b hb (by simp[Value.ownBlock])⟩;have hlat:Bg M M w w':=⟨hgr.size,fun b hb=>hs'.block b (S.mlt b hb) id,fun b hb=>hb⟩;have hnew:=RK (P:=P) (M:=M) (w:=w) (e:=e) (y:=y) (n:=0) (m:=m) (get:=fun _=>[]) (get2:=get2) (xs:=[]) (news:=news) (w':=w') (v':=v') (env':=env2) (k:=d) hlat (by simp) (fun i hi=>by omega) c5 c1 (fun u hu=>by simp at hu) c4 (fun i hi=>by omega) c6 (by simpa using hown') (by omega) e1 e2;have hnew':B3 P M w' env2 d (.row e y.size m get2):=by
        have:Ba 0 (fun _=>[]) get2=get2:=by funext i;simp[Ba]
        rw[this,AdE]at hnew;exact hnew
       have hv':∃A k c,v'=.slice A k c:=by
        rcases hown'.2 with ⟨h,_⟩|⟨_,_,_,h,_⟩<;>rw[h]<;>exact⟨_,_,_,rfl⟩
       obtain⟨X',S'⟩:=(S.forget d).newOwn hG hd hn (fun s e h=>HM h) hs' (env':=env2) (fun j hj=>by simp[env2,hj]) rfl
        (fun g hg=>by
         rw[e1]at hg;rcases hblk with hb'|hb'
         ·rw[hb']at hg;cases hg
         ·rw[hb']at hg;cases hg;exact⟨Adp _,(hown'.lt _ hb').2⟩)
        (M':=M) (fun b h=>h) (fun b h=>.inl h) (fun b h=>Adt (S.mlt b h) hgr.size) hnew'
       obtain⟨A',k',c',rfl⟩:=hv';exact⟨_,w',hrun,_,hk,_,_,_,S'.put0 (by intro t' ht;cases ht;exact hd) (.row e2)⟩
      ·exact h.elim
     ·rename_i r n;split at h
      ·rename_i e' sz N get hl;split at h
       ·rename_i hc2;obtain⟨rfl,rfl,hxr⟩:=hc2;obtain⟨hp,hk⟩:=B0 h;obtain⟨hp1,hp2⟩:=all_append hp;obtain⟨hm0,hle⟩:=Ay hp2;obtain⟨A,cap,news,rfl,c1,c2,c3,c4,c5,c6⟩:=J0 S hsl hp1 hx;have hmem:=Bq hl;obtain⟨hm,hgl,hO⟩:=S.own _ _ hmem;cases hs with
        |@rpre _ _ N' cap' g' hrv' hn' =>
        rcases hO with ⟨_,hrv,_⟩|⟨g,capr,cur,hg,hrv,hh,hnc,hcm,hcs,hd'⟩
        ·rw[hrv]at hrv';cases hrv'
        have hrv0:=hrv';rw[hrv]at hrv';obtain⟨rfl,rfl,rfl⟩:g'=g/\N'=N/\cap'=capr:=by injection hrv' with e1 e2 e3;injection e1 with e1;injection e1 with e1;exact⟨e1.symm,e2.symm,e3.symm⟩
        cases A with
        |none=>exact absurd (c2 rfl) (by omega)
        |some ad =>
        obtain⟨i,hi,hz,hs1,hb1,_⟩:=C5 hy;have hfit:n*y.size+news.length<=cur.size:=by rw[c1,hcs,<- AdK];exact Ad5 _ (by omega)
        have hrun:=run_append_room (P:=P) w t ty e' i hu hi g' n cap' cur hh ad m cap news (by rw[c1,hs1]) (c3 ad rfl hm0) c4 (by omega) (by rw[hs1];exact hfit);rw[hs1]at hrun;obtain⟨hsm,hss⟩:=IB (w:=w) (g:=g') (cur.toList.take (n*y.size)++news++cur.toList.drop (n*y.size+news.length)).toArray;have hl':Bg M M w (w.setRow g' (cur.toList.take (n*y.size)++news++cur.toList.drop (n*y.size+news.length)).toArray):=
         ⟨by omega,fun b hb=>hsm.block b (S.mlt b hb) (fun e=>(S.oat _ _ hmem g' hg).2.1 (e ▸ hb)),fun b hb=>hb⟩
        have hnew:B3 P M (w.setRow g' (cur.toList.take (n*y.size)++news++cur.toList.drop (n*y.size+news.length)).toArray) env r (.row e' y.size N' (fun i=>if n<=i/\i<n+m then get2 (i-n)else get i)):=by
         refine⟨hm,fun j hj=>?_,.inr ⟨g',cap',_,hg,hrv0,setRow_heap w g' cur _ _ _ hh,hnc,hcm,by simp;omega,fun j hj k hk2=>?_⟩⟩
         ·by_cases hr:n<=j/\j<n+m
          ·show(if n<=j/\j<n+m then get2 (j-n)else get j).length=_;rw[if_pos hr];exact c5 _ (by omega)
          ·show(if n<=j/\j<n+m then get2 (j-n)else get j).length=_;rw[if_neg hr];exact hgl j hj
         ·have hlt:=Cj (sz:=y.size) (Adt hj hnc) hk2;rw[IA cur _ _ hfit _ (by omega)];show _/\Av M _ (SV.at (if n<=j/\j<n+m then get2 (j-n)else get j) k) _
          by_cases hr:n<=j/\j<n+m
          ·have h5:n*y.size<=j*y.size:=Ad5 _ hr.1;have h6:(j-n)*y.size+k<m*y.size:=Cj (by omega) hk2;have h7:j*y.size+k-n*y.size=(j-n)*y.size+k:=by rw[Nat.sub_mul];omega
           rw[if_pos hr,if_pos (by rw[Nat.sub_mul]at h6;omega),h7];refine⟨?_,(c6 _ (by omega) k hk2).later hl'⟩;rw[AS,rH (by omega)];exact c4 _ (AdC _)
          ·have hne : ¬ (n*y.size<=j*y.size+k/\j*y.size+k<n*y.size+news.length):=by
            rw[c1,<- AdK];intro hx;rcases Nat.lt_or_ge j n with h5|h5
            ·have:=Cj (sz:=y.size) h5 hk2;omega
            ·have:=Ad5 y.size (show n+m<=j by omega);omega
           rw[if_neg hr,if_neg hne];exact⟨(hd' j hj k hk2).1,(hd' j hj k hk2).2.later hl'⟩
        exact⟨_,_,hrun,_,hk,_,_,_,(S.write hG hmem hg hsm hss hnew).put0 (by intro t' ht;cases ht;exact hd) (.rpre hrv0 hle)⟩
       ·exact h.elim
      ·exact h.elim
     ·rename_i sz n get;split at h
      ·rename_i hs2;subst hs2;obtain⟨hp,hk⟩:=B0 h;obtain⟨hp1,hp2⟩:=all_append hp;obtain⟨hm0,hbytes⟩:=Ay hp2;have hmax:=Mj hb hbytes;obtain⟨A,cap,news,rfl,c1,c2,c3,c4,c5,c6⟩:=J0 S hsl hp1 hx;cases hs with
       |full hs hq =>
       obtain rfl:=hq.1 rfl;obtain⟨v',w',M',X',hrun,S',hden⟩:=RL hG S hu hy hsz hm0 hbytes hmax c1 c2 c3 c4 c5 c6 hs ty;exact⟨v',w',hrun,_,hk,_,_,_,S'.put0 (by intro t' ht;cases ht;exact hd) (.p hden)⟩
      ·exact h.elim
     ·exact h.elim
    ·exact h.elim
   ·exact h.elim
  ·exact h.elim
 ·exact h.elim
theorem jC {t t' ty e:TypeId} {i:TypeInfo} {z:Value} {k' kk:IntKind} (ht:P.underlying t=some (.slice e)) (ht':P.underlying t'=some (.int k')) (hi:P.info? e=some i) (hz:i.zero=some z)
  {n:Int} (h0:0<n) (h63:n<=9223372036854775807) (h48:n*(i.bytes:Int)<=281474976710656) (hsz:0<i.size) :
  (Builtin.append_ #[t,t'] ty #[.slice none 0 0,.int kk n]).run P w =
   .ok (.slice (some ⟨w.heap.size,0,none⟩) n.toNat (grownCap w n.toNat 0 e)) (w.drew.alloc (.cells (Builtin.zeroCells z.cells n.toNat++Builtin.zeroCells z.cells (grownCap w n.toNat 0 e-n.toNat)) e)):=by
 have hw:IntKind.i64.wrap n=n:=by simp only[IntKind.wrap,IntKind.bits,IntKind.signed];simp;omega
 have h1:¬ n<0:=by omega
 have h2:¬ (281474976710656<n*(i.bytes:Int)):=by omega
 have h4:¬ (9223372036854775807<max n 0):=by omega
 have h6:¬ n<=0:=by omega
 have h5:¬ (281474976710656<Builtin.nextslicecap n.toNat 0*i.bytes):=by
  rw[nextslicecap_zero (by omega)];have:((n.toNat*i.bytes:Nat):Int)=n*(i.bytes:Int):=by rw[Int.natCast_mul,Int.toNat_of_nonneg (by omega)]
  omega
 simp[Builtin.append_,run_underlying ht,run_underlying ht',sizeOf,typeInfo,zeroValue,hi,hz,asInt,asIntOf,hw,h1,h2,h4,h5,h6,Question.forced,Builtin.firstCells,newRow,grownCap];intro h8;exact absurd h8 (Nat.ne_of_gt (Nat.mul_pos (by omega) hsz))
theorem jD {z:Array Value} {n k:Nat} (hz:0<z.size) (hk:k<n*z.size):(Builtin.zeroCells z n).getD k undef=z.getD (k % z.size) undef:=by
 have hm:k % z.size<z.size:=Nat.mod_lt _ hz;simp only[Builtin.zeroCells,LS];simp[hk,getElem!_pos z (k % z.size) hm];rw[rK hm];rfl
theorem jE (hG:Bp G) (S:Ak P G st a w env M X) {t t':TypeId} {d:Nat} {s x:EV} {K:St->Prop} (h:NY P st t t' d s x K) (hd:d<st.nt) {vs vx:Value} (hs:Am P M w env s vs) (hx:Am P M w env x vx) (ty:TypeId) :
  ∃v' w',(Builtin.append_ #[t,t'] ty #[vs,vx]).run P w=.ok v' w'/\∃st',K st'/\AI P G st' (a.put (some d) v') w':=by
 unfold NY at h;split at h
 ·rename_i e k' kk n hu hu';split at h
  ·rename_i y hy;split at h
   ·rename_i hc;obtain⟨⟨hb,hsz,hzs,hone⟩,hn⟩:=hc;obtain⟨hp,hk⟩:=B0 h;obtain⟨h0,h47⟩:=Ay hp;obtain⟨i,hi,hz,hsi,hby,_⟩:=C5 hy;rcases hs with ⟨hs⟩;cases hs;rcases hx with ⟨hx⟩;cases hx;have hnb:n<=140737488355328:=by
     have:n*1<=n*(y.bytes:Int):=Int.mul_le_mul_of_nonneg_left (by omega) (by omega);omega
    have hrun:=jC (P:=P) (w:=w) (ty:=ty) (kk:=kk) hu hu' hi hz h0 (by omega) (by rw[hby];omega) (by rw[hsi];exact hsz);have hge:=grownCap_ge w n.toNat 0 e;have hcm:grownCap w n.toNat 0 e<=maxLen:=grownCap_le_maxLen w n.toNat 0 e (by unfold maxLen;omega);generalize hcap:grownCap w n.toNat 0 e=cap at hrun hge hcm;let cur:=Builtin.zeroCells y.zero.cells n.toNat++Builtin.zeroCells y.zero.cells (cap-n.toNat);let w':=w.drew.alloc (.cells cur e);let v':Value:=.slice (some ⟨w.heap.size,0,none⟩) n.toNat cap;let env2:As:={ env with at_:=fun j=>if j=d then v'.ownBlock else env.at_ j,rv:=fun j=>if j=d then v' else env.rv j };have e1:env2.at_ d=some w.heap.size:=by simp[env2,v',Value.ownBlock]
    have e2:env2.rv d=v':=by simp[env2]
    have hs':Same (fun _=>False) w w':=⟨rfl,rfl,rfl,Nat.le_succ _,by simp[w'],fun b hb _=>heap_alloc_old w.drew _ (by simpa using hb)⟩;have hlat:Bg M M w w':=⟨hs'.size,fun b hb=>hs'.block b (S.mlt b hb) id,fun b hb=>hb⟩;have hnew:B3 P M w' env2 d (.row e y.size n.toNat (fun _=>y.zero.cells.toList.map Cc)):=by
     refine⟨by unfold maxLen;omega,fun i hi=>by simpa using hzs,.inr ⟨w.heap.size,cap,cur,e1,e2,heap_alloc_new w.drew _,hge,hcm,?_,fun i hi j hj=>?_⟩⟩
     ·simp only[cur,Array.size_append,size_zeroCells,hzs,<- AdK];congr 1;have:=hge;omega
     ·have hlt:=Cj (sz:=y.size) (len:=n.toNat) (i:=i) hi hj;have hg:cur.getD (i*y.size+j) undef=y.zero.cells.getD j undef:=by
       have hl:i*y.size+j<(Builtin.zeroCells y.zero.cells n.toNat).size:=by rw[size_zeroCells,hzs];exact hlt
       have h1:cur.getD (i*y.size+j) undef=(Builtin.zeroCells y.zero.cells n.toNat).getD (i*y.size+j) undef:=by
        simp only[cur,LS];rw[Aei hl]
       have hmod:(i*y.size+j) % y.size=j:=by rw[Aem,Nat.mul_add_mod,AeV hj]
       rw[h1,jD (by omega) (by rw[hzs];exact hlt),hzs,hmod]
      rw[hg];have hj':j<y.zero.cells.size:=by omega
      have hd':=(Gu (M:=M) (w:=w') y.zero.cells.toList).2 j (by simpa using hj');rw[LS,rK hj'];rw[AS,rH (by simpa using hj')]at hd';simp only[AdU,AeR]at hd' ⊢;exact⟨by have:=Array.all_eq_true.1 hone j hj';simpa using this,hd'⟩
    obtain⟨X',S'⟩:=(S.forget d).newOwn hG hd hn (fun s e h=>HM h) hs' (env':=env2) (fun j hj=>by simp[env2,hj]) rfl
     (fun g hg=>by
      rw[e1]at hg;cases hg;exact⟨Adp _,by simp[w']⟩)
     (M':=M) (fun b h=>h) (fun b h=>.inl h) (fun b h=>Adt (S.mlt b h) hs'.size) hnew
    exact⟨v',w',hrun,_,hk,_,_,_,S'.put0 (by intro t' ht;cases ht;exact hd) (.row e2)⟩
   ·exact h.elim
  ·exact h.elim
 ·exact h.elim
end
section
variable {P:Program} {M:Nat->Prop} {w:World} {G:Bn} {st:St} {a:Act} {env:As} {X:Nat->Prop}
theorem all_cons {p:Prop} {ps:List Prop} (h:all (p::ps)):p/\all ps:=⟨h p (by simp),fun q hq=>h q (by simp[hq])⟩
theorem KV {s t:SV} (h:all (Hm s t)) {v:Value} (hd:Av M w s v):Av M w t v:=by
 unfold Hm at h;split at h
 ·split at h
  ·rename_i hk;subst hk;have:=Ay h;subst this;exact hd
  ·exact(Ay h).elim
 ·have:=Ay h;subst this;exact hd
 ·split at h
  ·rename_i hk;subst hk;obtain⟨rfl,he⟩:=Ay h;exact hd.congr_sl (fun i hi=>(he i hi).symm)
  ·exact(Ay h).elim
 ·unfold Rs at h;split at h
  ·have:=Ay h;subst this;exact hd
  ·split at h
   ·have:=Ay h;subst this;cases hd;exact .sl _ _ _ _ _ (fun _ _=>undef) (Adp _) (Ads _) (fun h=>absurd h (Nat.lt_irrefl _)) (fun i hi=>absurd hi (oE _)) (fun i hi=>absurd hi (oE _)) (fun i hi=>absurd hi (oE _))
   ·have:=Ay h;cases this
  ·have:=Ay h;rw[<- this];exact hd
 ·have:=Ay h;subst this;exact hd
theorem GM {e e':EV} (h:all (fitE e e')) {v:Value} (hd:Am P M w env e v):Am P M w env e' v:=by
 unfold fitE at h;split at h
 ·rcases hd with ⟨hd⟩;exact .p (KV h hd)
 ·split at h
  ·rename_i hb;have:=Ay h;simp at hb;subst this hb;exact hd
  ·exact(Ay h).elim
 ·split at h
  ·rename_i hb;simp at hb;subst hb;exact hd
  ·exact(Ay h).elim
 ·split at h
  ·rename_i hb;simp at hb;subst hb;exact hd
  ·exact(Ay h).elim
 ·split at h
  ·rename_i hb;simp only[pR,beq_iff_eq]at hb;obtain⟨rfl,rfl⟩:=hb;obtain⟨rfl,rfl⟩:=Ay h;exact hd
  ·exact(Ay h).elim
 ·split at h
  ·rename_i hb;have:=Ay h;simp at hb;subst this hb;exact hd
  ·exact(Ay h).elim
 ·split at h
  ·rename_i hb;have:=Ay h;simp at hb;subst this hb;exact hd
  ·exact(Ay h).elim
 ·split at h
  ·rename_i hb;simp only[pR,beq_iff_eq]at hb;obtain⟨rfl,rfl⟩:=hb;obtain⟨rfl,rfl⟩:=Ay h;exact hd
  ·exact(Ay h).elim
 ·have:=Ay h;rw[<- this];exact hd
 ·have:=Ay h;subst this;exact hd
 ·have:=Ay h;subst this;exact hd
 ·rcases hd with ⟨hd⟩;unfold Rt at h;split at h
  ·exact(Ay h).elim
  ·split at h
   ·split at h
    ·rename_i hk;subst hk;obtain⟨rfl,h0,he⟩:=Ay h;have hd2:=hd.congr_sl (fun i hi=>(he i hi).symm);cases hd with
     |sl=>exact .full hd2 ⟨fun hf=>(by cases hf),fun _ hn=>absurd hn (Nat.ne_of_gt h0)⟩
    ·exact(Ay h).elim
   ·split at h
    ·have:=Ay h;subst this;cases hd;exact .full (.sl _ _ _ _ _ (fun _ _=>undef) (Adp _) (Ads _) (fun h=>absurd h (Nat.lt_irrefl _)) (fun i hi=>absurd hi (oE _)) (fun i hi=>absurd hi (oE _)) (fun i hi=>absurd hi (oE _))) ⟨fun hf=>(by cases hf),fun _ _=>⟨rfl,rfl⟩⟩
    ·exact(Ay h).elim
   ·exact(Ay h).elim
 ·split at h
  ·rename_i hk;obtain⟨rfl,rfl⟩:=hk;obtain⟨rfl,he⟩:=Ay h;cases hd with
   |full hd hq=>exact .full (hd.congr_sl (fun i hi=>(he i hi).symm)) hq
  ·exact(Ay h).elim
 ·cases hd with
  |full hd hq=>exact .p (KV h hd)
 ·exact .any
 ·exact(Ay h).elim
theorem ID:∀{l m:List EV},all (Hn l m)->l.length=m.length/\∀i,i<m.length->all (fitE (EV.at l i) (EV.at m i))
 |[],[],_=>⟨rfl,fun i hi=>by simp at hi⟩
 |a::l,b::m,h=>by
   simp only[Hn]at h;obtain⟨h1,h2⟩:=all_append h;obtain⟨h3,h4⟩:=ID h2;refine⟨by simp[h3],fun i hi=>?_⟩;cases i with
   |zero=>exact h1
   |succ i=>exact h4 i (by simpa using hi)
 |[],_::_,h=>(Ay h).elim
 |_::_,[],h=>(Ay h).elim
theorem jF {k:Nat} {o o':Al} (h:all (NZ o o')) (ho:B3 P M w env k o):B3 P M w env k o':=by
 unfold NZ at h;split at h
 ·rename_i t cs t' cs';split at h
  ·rename_i ht;simp at ht;subst ht;obtain⟨h1,h2⟩:=ID h;obtain⟨g,vs,ha,hh,hz,hd⟩:=ho;exact⟨g,vs,ha,hh,hz.trans h1,fun i hi=>⟨(hd i (by omega)).1,GM (h2 i hi) (hd i (by omega)).2⟩⟩
  ·exact(Ay h).elim
 ·split at h
  ·rename_i ht;simp at ht;obtain⟨rfl,rfl⟩:=ht;obtain⟨rfl,he⟩:=Ay h;obtain⟨hm,hgl,h1⟩:=ho;refine⟨hm,fun i hi=>by rw[<- he i hi];exact hgl i hi,?_⟩;rcases h1 with h1|⟨g,cap,cur,ha,hr,hh,h3,h4,h5,h6⟩
   ·exact .inl h1
   ·exact .inr ⟨g,cap,cur,ha,hr,hh,h3,h4,h5,fun i hi j hj=>by rw[<- he i hi];exact h6 i hi j hj⟩
  ·exact(Ay h).elim
 ·split at h
  ·rename_i ht;simp at ht;subst ht;obtain⟨rfl,he⟩:=Ay h;obtain⟨g,es,clock,ha,hh,hz,hd⟩:=ho;exact⟨g,es,clock,ha,hh,hz,fun i hi=>by rw[<- he i hi];exact hd i hi⟩
  ·exact(Ay h).elim
 ·split at h
  ·rename_i ht;simp at ht;obtain⟨rfl,rfl⟩:=ht;have e1:=h _ (Adw ..);have e2:=h _ (Adr _ (Adw ..));obtain⟨g,es,clock,ha,hh,hz,hd⟩:=ho;exact⟨g,es,clock,ha,hh,fun key hk=>hz key (by rw[e1];exact hk),fun i hi=>by
    obtain⟨key,q1,q2,q3⟩:=hd i hi;exact⟨key,q1,by rw[<- e1];exact q2,by rw[<- e2 key q2];exact q3⟩⟩
  ·exact(Ay h).elim
 ·split at h
  ·rename_i ht;simp at ht;subst ht;have e0:=h _ (Adw ..);obtain⟨h1,h2⟩:=ID (fun p hp=>h p (Adr _ hp));subst e0;refine⟨fun e=>?_,ho.2⟩;obtain⟨g,vs,ha,hh,hz,hd⟩:=ho.1 e;exact⟨g,vs,ha,hh,hz.trans h1,fun i hi=>⟨(hd i (by omega)).1,GM (h2 i hi) (hd i (by omega)).2⟩⟩
  ·exact(Ay h).elim
 ·split at h
  ·rename_i ht;simp at ht;obtain⟨rfl,rfl⟩:=ht;have e0:=h _ (Adw ..);have e2:=h _ (Adr _ (Adw ..));subst e0;refine⟨fun e=>?_,ho.2⟩;obtain⟨dom,g,es,clock,ha,hh,hz,hd⟩:=ho.1 e;exact⟨dom,g,es,clock,ha,hh,hz,fun i hi=>by
    obtain⟨key,q1,q2,q3⟩:=hd i hi;exact⟨key,q1,q2,by rw[<- e2 key];exact q3⟩⟩
  ·exact(Ay h).elim
 ·split at h
  ·rename_i ht;simp at ht;obtain⟨rfl,rfl⟩:=ht;have hq:=Ay h;obtain⟨g,es,clock,ha,hh,hd⟩:=ho;exact⟨g,es,clock,ha,hh,fun i hi=>by
    obtain⟨a,b,q1,q2,q3⟩:=hd i hi;exact⟨a,b,q1,hq a b q2,q3⟩⟩
  ·exact(Ay h).elim
 ·split at h
  ·rename_i ht;simp at ht;obtain⟨rfl,rfl⟩:=ht;have:=Ay h;subst this;exact ho
  ·exact(Ay h).elim
 ·exact(Ay h).elim
theorem FW (S:Ak P G st a w env M X):∀{l:List (Nat×Al)},all (E6 st.own l)->∀k o,(k,o)∈l->(∃o',(k,o')∈st.own)/\B3 P M w env k o
 |[],_,k,o,hm=>by cases hm
 |(k0,o0)::l,h,k,o,hm=>by
   simp only[E6]at h;obtain⟨h1,h2⟩:=all_append h;rcases Adq.1 hm with hm|hm
   ·cases hm;split at h1
    ·rename_i o' hl;exact⟨⟨o',Bq hl⟩,jF h1 (S.own _ _ (Bq hl))⟩
    ·exact(Ay h1).elim
   ·exact FW S h2 k o hm
theorem Fc:∀{l:List Nat},CE l=true->l.Nodup
 |[],_=>List.nodup_nil
 |k::ks,h=>by
   simp only[CE,pR]at h;refine Ael.2 ⟨by simpa using h.1,Fc h.2⟩
theorem F8 {f:Nat} {args:Array Value} {R R':Ending->World->Prop} (h:CallsIn Fence.wide 0 P f args w R) (k:∀e w',R e w'->R' e w'):CallsIn Fence.wide 0 P f args w R' :=
 callsIn_wide.2 ((callsIn_wide.1 h).mono k)
def As.via (env:As) (f:Nat->Nat):As:={ at_:=fun k=>env.at_ (f k),rv:=fun k=>env.rv (f k),yl:=env.yl }
theorem FX (f:Nat->Nat):∀(l:List EV),(EV.ren.renL f l).length=l.length
 |[]=>rfl
 |e::l=>by simp[EV.ren.renL,FX f l]
theorem Hq (f:Nat->Nat):∀(l:List EV) (i:Nat),i<l.length->EV.at (EV.ren.renL f l) i=(EV.at l i).ren f
 |[],i,hi=>by simp at hi
 |e::l,0,_=>rfl
 |e::l,i+1,hi=>Hq f l i (by simpa using hi)
theorem Ms {f:Nat->Nat} {bs:List Nat} {j:Nat} (h:j<bs.length):(bs.map f).getD j 0=f (bs.getD j 0):=by
 simp[AS,h]
theorem Mt {f:Nat->Nat} {e:EV} {v:Value} (h:Am P M w (env.via f) e v):Am P M w env (e.ren f) v:=by
 induction h with
 |p h=>exact .p h
 |loc h=>exact .loc h
 |row h=>exact .row h
 |mapv h=>exact .mapv h
 |rsub A cap hc hm hA=>exact .rsub A cap hc hm hA
 |rptr h=>exact .rptr h
 |rpre h hn=>exact .rpre h hn
 |fptr hi h=>exact .fptr (by simpa using hi) (by rw[Ms hi];exact h)
 |ag q cs vs hl _ ih=>exact .ag q _ vs (by rw[FX];exact hl) (fun i hi=>by rw[FX]at hi;rw[Hq f cs i hi];exact ih i hi)
 |cl g cs vs hl _ ih=>exact .cl g _ vs (by rw[FX];exact hl) (fun i hi=>by rw[FX]at hi;rw[Hq f cs i hi];exact ih i hi)
 |fn h=>exact .fn h
 |yield=>exact .yield
 |any=>exact .any
 |full h hq=>exact .full h hq
theorem jG (l:List EV) (i:Nat) (hi:i<l.length):SizeOf.sizeOf (EV.at l i)<SizeOf.sizeOf l:=by
 have:EV.at l i∈l:=by rw[R3 l i hi];exact AdC hi
 exact List.sizeOf_lt_of_mem this
theorem J1 {f:Nat->Nat}:∀(e:EV) (v:Value),Am P M w env (e.ren f) v->Am P M w (env.via f) e v
 | .p s,v,h=>by cases h with|p h=>exact .p h
 | .loc b off,v,h=>by unfold EV.ren at h;cases h with|loc h=>exact .loc h
 | .row r,v,h=>by unfold EV.ren at h;cases h with|row h=>exact .row h
 | .mapv r,v,h=>by unfold EV.ren at h;cases h with|mapv h=>exact .mapv h
 | .rsub r sz lo n,v,h=>by unfold EV.ren at h;cases h with|rsub A cap hc hm hA=>exact .rsub A cap hc hm hA
 | .rptr r sz i off,v,h=>by unfold EV.ren at h;cases h with|rptr h=>exact .rptr h
 | .rpre r n,v,h=>by unfold EV.ren at h;cases h with|rpre h hn=>exact .rpre h hn
 | .fptr bs i,v,h=>by
   unfold EV.ren at h;cases h with
   |fptr hi h =>
     have hi:2*i<bs.length:=by simpa using hi
     rw[Ms hi]at h;exact .fptr hi h
 | .cl g cs,v,h=>by
   unfold EV.ren at h;cases h with
   |cl _ _ vs hl hc =>
     rw[FX]at hl hc;refine .cl g cs vs hl (fun i hi=>?_);have:=hc i hi;rw[Hq f cs i hi]at this;exact J1 (EV.at cs i) _ this
 | .ag q cs,v,h=>by
   unfold EV.ren at h;cases h with
   |ag _ _ vs hl hc =>
     rw[FX]at hl hc;refine .ag q cs vs hl (fun i hi=>?_);have:=hc i hi;rw[Hq f cs i hi]at this;exact J1 (EV.at cs i) _ this
 | .fn sp,v,h=>by cases h with|fn h=>exact .fn h
 | .yield l,v,h=>by cases h with|yield=>exact .yield
 | .any,v,h=>.any
 | .full q sz n get,v,h=>by cases h with|full h hq=>exact .full h hq
termination_by e=>SizeOf.sizeOf e
decreasing_by
 all_goals
  have:=jG cs i hi;simp only[EV.cl.sizeOf_spec,EV.ag.sizeOf_spec];omega
theorem E9 {f:Nat->Nat} {k:Nat} {o:Al}:∀{l:List (Nat×Al)},(k,o)∈l->(f k,o.ren f)∈Cf f l
 |[],h=>by cases h
 |(k',o')::l,h=>by
   rcases Adq.1 h with h|h
   ·cases h;simp[Cf]
   ·simp only[Cf];exact Adr _ (E9 h)
theorem GN {f:Nat->Nat} {k:Nat} {o:Al}:∀{l:List (Nat×Al)},(k,o)∈Cf f l->∃k' o',(k',o')∈l/\k=f k'/\o=o'.ren f
 |[],h=>by cases h
 |(k',o')::l,h=>by
   simp only[Cf]at h;rcases Adq.1 h with h|h
   ·cases h;exact⟨k',o',by simp,rfl,rfl⟩
   ·obtain⟨k2,o2,h1,h2⟩:=GN h;exact⟨k2,o2,Adr _ h1,h2⟩
theorem HN (f:Nat->Nat):∀(l:List (Nat×Al)),Bh (Cf f l)=(Bh l).map f
 |[]=>rfl
 |(k,o)::l=>by
   have:=HN f l;simp only[Bh]at this;simp[Cf,Bh,this]
theorem RM {f:Nat->Nat} {k:Nat} {t:TypeId} {cs:List EV} (h:El P M w (env.via f) k t cs):El P M w env (f k) t (EV.ren.renL f cs):=by
 obtain⟨g,vs,ha,hh,hz,hd⟩:=h;exact⟨g,vs,ha,hh,by rw[FX];exact hz,fun i hi=>by rw[FX]at hi;rw[Hq f cs i hi];exact⟨(hd i hi).1,Mt (hd i hi).2⟩⟩
theorem RN {f:Nat->Nat} {k:Nat} {t:TypeId} {cs:List EV} (h:El P M w env (f k) t (EV.ren.renL f cs)):El P M w (env.via f) k t cs:=by
 obtain⟨g,vs,ha,hh,hz,hd⟩:=h;rw[FX]at hz hd;exact⟨g,vs,ha,hh,hz,fun i hi=>by have:=hd i hi;rw[Hq f cs i hi]at this;exact⟨this.1,J1 _ _ this.2⟩⟩
theorem J2 {f:Nat->Nat} {k:Nat} {o:Al} (h:B3 P M w (env.via f) k o):B3 P M w env (f k) (o.ren f):=by
 cases o with
 |blk t cs=>exact RM h
 |oblk b t cs=>exact⟨fun e=>RM (h.1 e),h.2⟩
 |prow e n bs =>
   obtain⟨hm,hn,g,cap,cur,h1,h2,hh,h3,h4,h5,h6⟩:=h;exact⟨hm,by simpa using hn,g,cap,cur,h1,h2,hh,h3,h4,h5,fun i hi=>by rw[Ms (by omega)];exact h6 i hi⟩
 |_=>exact h
theorem J3 {f:Nat->Nat} {k:Nat} {o:Al} (h:B3 P M w env (f k) (o.ren f)):B3 P M w (env.via f) k o:=by
 cases o with
 |blk t cs=>exact RN h
 |oblk b t cs=>exact⟨fun e=>RN (h.1 e),h.2⟩
 |prow e n bs =>
   obtain⟨hm,hn,g,cap,cur,h1,h2,hh,h3,h4,h5,h6⟩:=h;have hn:2*n<=bs.length:=by simpa using hn
   exact⟨hm,hn,g,cap,cur,h1,h2,hh,h3,h4,h5,fun i hi=>by have:=h6 i hi;rw[Ms (by omega)]at this;exact this⟩
 |_=>exact h
theorem Mu:∀(l own:List (Nat×Al)),(Fa own l).map (·.1)=own.map (·.1)
 |[],own=>rfl
 |(k,o)::l,own=>by simp only[Fa];rw[Mu l,Jw]
theorem FY:∀(l own:List (Nat×Al)) {k:Nat} {o:Al},(k,o)∈Fa own l->(∃o',(k,o')∈own)/\((k,o)∈l\/((k,o)∈own/\k ∉ Bh l))
 |[],own,k,o,h=>⟨⟨o,h⟩,.inr ⟨h,by simp[Bh]⟩⟩
 |(k',o')::l,own,k,o,h=>by
   simp only[Fa]at h;obtain⟨⟨o1,h1⟩,h2⟩:=FY l _ h;have hex:∃o',(k,o')∈own:=by
    rcases DC h1 with ⟨rfl,_,h3⟩|⟨_,h3⟩
    ·exact h3
    ·exact⟨_,h3⟩
   refine⟨hex,?_⟩;rcases h2 with h2|⟨h2,h3⟩
   ·exact .inl (Adr _ h2)
   ·rcases DC h2 with ⟨rfl,rfl,_⟩|⟨hne,h4⟩
    ·exact .inl (by simp)
    ·refine .inr ⟨h4,?_⟩;simp only[Bh,Aea,Adq,not_or];exact⟨hne,h3⟩
theorem J4 {ρ:Operand->Option EV} (hρ:∀x e,ρ x=some e->Am P M w env e (a.eval x)):∀{xs:List Operand} {l:List EV},I5 ρ xs=some l->(xs.map a.eval).length=l.length/\∀i,i<l.length->Am P M w env (EV.at l i) ((xs.map a.eval).getD i undef)
 |[],l,h=>by
   simp only[I5,Option.some.injEq]at h;subst h;exact⟨rfl,fun i hi=>by simp at hi⟩
 |x::xs,l,h=>by
   simp only[I5]at h;split at h
   ·rename_i e l' he hl;cases h;obtain⟨h1,h2⟩:=J4 hρ hl;refine⟨by simpa using h1,fun i hi=>?_⟩;cases i with
    |zero=>exact hρ x e he
    |succ i=>exact h2 i (by simpa using hi)
   ·cases h
theorem Mv {as bs:List EV} {us vs:List Value} (h1:us.length=as.length) (h2:∀i,i<as.length->Am P M w env (EV.at as i) (us.getD i undef)) (k1:vs.length=bs.length) (k2:∀i,i<bs.length->Am P M w env (EV.at bs i) (vs.getD i undef)) :
  (us++vs).length=(as++bs).length/\∀i,i<(as++bs).length->Am P M w env (EV.at (as++bs) i) ((us++vs).getD i undef):=by
 refine⟨by simp[h1,k1],fun i hi=>?_⟩;simp only[EV.at,AS]
 by_cases hlt:i<as.length
 ·rw[Ad7 hlt,Ad7 (by omega)];have:=h2 i hlt;simpa[EV.at,AS]using this
 ·rw[Ad8 (by omega),Ad8 (by omega)];have:=k2 (i-as.length) (by simp at hi;omega);rw[h1];simpa[EV.at,AS]using this
theorem Ak.lentX (hG:Bp G) (S:Ak P G st a w env M X) {L L':List (Nat×Al)} {w':World} {M':Nat->Prop} (hL:∀k o,(k,o)∈L->∃o',(k,o')∈st.own) (hk:Bh L'=Bh L)
  (hs:Same (E8 env L) w w') (hM:∀b,M b->M' b) (hM':∀b,M' b->M b\/w.heap.size<=b) (hMl:∀b,M' b->b<w'.heap.size) (ho:∀k o,(k,o)∈L'->B3 P M' w' env k o) :
  Ak P G { st with own:=Fa st.own L' } a w' env M' (fun b=>X b\/(w.heap.size<=b/\b<w'.heap.size)):=by
 have hlX:∀b,E8 env L b->X b/\¬ M b:=fun b ⟨k,o,h1,h2⟩=>by
  obtain⟨o',h3⟩:=hL k o h1;obtain⟨q1,q2,_⟩:=S.oat k o' h3 b h2;exact⟨q1,q2⟩
 have hl:Bg M M' w w':=⟨hs.size,fun b hb=>hs.block b (S.mlt b hb) (fun e=>(hlX b e).2 hb),hM⟩;refine⟨⟨hG _ _ _ _ _ S.gam.1 ⟨hs.os,hs.tape,hs.output,hs.drawn,hs.size,fun b hb hx=>hs.block b hb (fun e=>hx (hlX b e).1)⟩ (fun b h=>.inl h) (fun b h=>by rcases h with h|h;exact .inl h;exact .inr h.1),S.gam.2⟩,
  fun b hb=>?_,?_,?_,?_,by rw[Mu];exact S.nod,hMl,?_,S.siz,?_,S.grd,?_,S.dno⟩
 ·rcases hM' b hb with h|h
  ·exact(S.mx b h).imp id .inl
  ·exact .inr (.inr ⟨h,hMl b hb⟩)
 ·intro k o h;obtain⟨_,h⟩:=FY _ _ h;rcases h with h|⟨h,hn⟩
  ·exact ho k o h
  ·have h1:=S.own _ _ h;have h2:=S.oat _ _ h;have hng:∀g',env.at_ k=some g'->¬ E8 env L g':=fun g' hg' ⟨k2,o2,q1,q2⟩=>by
    obtain⟨o3,q3⟩:=hL k2 o2 q1;have hne:k≠k2:=fun e=>hn (by rw[hk,e];exact Ado.2 ⟨(k2,o2),q1,rfl⟩);exact S.inj k o k2 o3 h q3 hne g' hg' q2
   exact h1.move hl rfl rfl (fun g' ha=>hs.block g' (h2 g' ha).2.2 (hng g' ha)) (fun _ _=>⟨rfl,rfl⟩)
 ·intro k o h g hg;obtain⟨⟨o',h'⟩,_⟩:=FY _ _ h;obtain⟨q1,q2,q3⟩:=S.oat k o' h' g hg;refine⟨.inl q1,fun hm=>?_,Adt q3 hs.size⟩;rcases hM' g hm with h4|h4
  ·exact q2 h4
  ·omega
 ·intro k o k' o' h h';obtain⟨⟨_,e1⟩,_⟩:=FY _ _ h;obtain⟨⟨_,e2⟩,_⟩:=FY _ _ h';exact S.inj _ _ _ _ e1 e2
 ·intro b hb;rcases hb with h|h
  ·exact Adt (S.xlt b h) hs.size
  ·exact h.2
 ·intro s e h;obtain⟨h1,h2,h3⟩:=S.tmp s e h;exact⟨h1,fun ho'=>(h2 ho').later hl,h3⟩
 ·intro d hd;obtain⟨D,e,h1,h2,h3,h4⟩:=S.dfr d hd;have hD:=S.xlt D h2;refine⟨D,e,(hs.block D hD (fun⟨k,o,q1,q2⟩=>?_)).trans h1,.inl h2,fun hm=>?_,fun k o h=>?_⟩
  ·obtain⟨o',q3⟩:=hL k o q1;exact h4 k o' q3 q2
  ·rcases hM' D hm with h5|h5
   ·exact h3 h5
   ·omega
  ·obtain⟨⟨_,e1⟩,_⟩:=FY _ _ h;exact h4 _ _ e1
theorem Ak.lent (hG:Bp G) (S:Ak P G st a w env M X) {L L':List (Nat×Al)} {w':World} {M':Nat->Prop} (hL:∀k o,(k,o)∈L->∃o',(k,o')∈st.own) (hk:Bh L'=Bh L)
 (hs:Same (E8 env L) w w') (hM:∀b,M b->M' b) (hM':∀b,M' b->M b\/w.heap.size<=b) (hMl:∀b,M' b->b<w'.heap.size) (ho:∀k o,(k,o)∈L'->B3 P M' w' env k o) :
 ∃X',Ak P G { st with own:=Fa st.own L' } a w' env M' X':=⟨_,S.lentX hG hL hk hs hM hM' hMl ho⟩
theorem RO {f:Nat->Nat} {L:List (Nat×Al)} (hnd:(Bh (Cf f L)).Nodup):∀k o k' o',(k,o)∈L->(k',o')∈L->k≠k'->f k≠f k':=fun k o k' o' h h' hne e=>by
 rw[HN]at hnd;have:=(Aek.1 hnd);have hm1:k∈Bh L:=Ado.2 ⟨_,h,rfl⟩;have hm2:k'∈Bh L:=Ado.2 ⟨_,h',rfl⟩;have hp:=Aed.1 this;obtain⟨i,hi,rfl⟩:=AdM hm1;obtain⟨j,hj,rfl⟩:=AdM hm2;rcases Aev i j with hlt|heq|hgt
 ·exact hp i j hi hj hlt e
 ·subst heq;exact hne rfl
 ·exact hp j i hj hi hgt e.symm
theorem RP (hG:Bp G) (S:Ak P G st a w env M X) {C:Aj} {dst:Option Nat} (hd:∀t,dst=some t->t<st.nt) {as:List EV} {vals:List Value} (hv1:vals.length=as.length) (hv2:∀i,i<as.length->Am P M w env (EV.at as i) (vals.getD i undef))
  {g:Nat} {tr:Tr} (hT:F7 P g tr) {K:St->Prop} (h:Oa C st dst as tr K) {N:Act->World->Prop} (hN:∀st' a' w',K st'->AI P G st' a' w'->N a' w') :
  CallsIn Fence.wide 0 P g vals.toArray w (fun e w'=>∃v,e=.returned v/\N (a.put dst v) w'):=by
 obtain⟨t,h⟩:=h;split at h;rotate_left
 ·exact h.elim
 rename_i hnd;obtain⟨h1,hpre,hpost⟩:=B0 h;obtain⟨hA,hO⟩:=all_append h1;obtain⟨hk,hT⟩:=hT;obtain⟨l1,l2⟩:=ID hA;rw[FX]at l1 l2;have hO':=FW S hO;have hnd:=Fc hnd;have inj:=RO hnd;refine F8 (hT t hpre M w (env.via C.ren) vals S.mlt (fun k o h=>J3 (hO' _ _ (E9 h)).2) (fun k o h g hg=>?_) (fun k o k' o' h h' hne g hg=>?_) (by omega) (fun i hi=>?_)) ?_
 ·obtain⟨⟨o',h'⟩,_⟩:=hO' _ _ (E9 (f:=C.ren) h);obtain⟨_,q2,q3⟩:=S.oat _ _ h' g hg;exact⟨q2,q3⟩
 ·obtain⟨⟨o1,h1⟩,_⟩:=hO' _ _ (E9 (f:=C.ren) h);obtain⟨⟨o2,h2⟩,_⟩:=hO' _ _ (E9 (f:=C.ren) h');exact S.inj _ _ _ _ h1 h2 (inj k o k' o' h h' hne) g hg
 ·have:=l2 i hi;rw[Hq _ _ _ hi]at this;exact J1 _ _ (GM this (hv2 i (by omega)))
 ·rintro e w' ⟨u,v,M',hp,rfl,hs,hM,hM',hMl,ho,hr⟩;refine⟨v,rfl,hN _ _ _ (hpost u hp) ?_⟩;have hl:∀b,E8 (env.via C.ren) (tr.own t) b->E8 env (Cf C.ren (tr.own t)) b:=fun b ⟨k,o,h,hg⟩=>⟨_,_,E9 h,hg⟩;obtain⟨X',S'⟩:=S.lent hG (L:=Cf C.ren (tr.own t)) (L':=Cf C.ren (tr.own' t u)) (fun k o h=>(hO' k o h).1) (by rw[HN,HN,hk]) ⟨hs.os,hs.tape,hs.output,hs.drawn,hs.size,fun b hb hn=>hs.block b hb (fun e=>hn (hl b e))⟩ hM hM' hMl (fun k o h=>by
   obtain⟨k',o',h',rfl,rfl⟩:=GN h;exact J2 (ho k' o' h'))
  exact⟨env,M',X',S'.put0 hd (Mt hr)⟩
theorem Ak.lentV (hG:Bp G) (S:Ak P G st a w env M X) {L L':List (Nat×Al)} {w':World} {M':Nat->Prop} {env1:As} {mvs:Nat->Prop} (hL:∀k o,(k,o)∈L->∃o',(k,o')∈st.own) (hk:Bh L'=Bh L)
  (hs:Same (E8 env L) w w') (hM:∀b,M b->M' b) (hM':∀b,M' b->M b\/(w.heap.size<=b/\∀j,mvs j->env1.at_ j≠some b)\/∃j,mvs j/\env.at_ j=some b/\env1.at_ j≠some b) (hMl:∀b,M' b->b<w'.heap.size)
  (he:∀j,¬ mvs j->env1.at_ j=env.at_ j/\env1.rv j=env.rv j) (hy:env1.yl=env.yl) (hone:∀i j,mvs i->mvs j->i=j) (hmk:∀j,mvs j->j<st.nt/\∃o,(j,o)∈L)
  (hmg:∀j,mvs j->∀g,env1.at_ j=some g->env.at_ j=some g\/(w.heap.size<=g/\g<w'.heap.size)) (hT:∀j,mvs j->∀s e,(s,e)∈st.T->e.v.names j=false) (hO:∀j,mvs j->∀k o,(k,o)∈st.own->k ∉ Bh L->o.names j=false)
  (ho:∀k o,(k,o)∈L'->B3 P M' w' env1 k o) :
  Ak P G { st with own:=Fa st.own L' } a w' env1 M' (fun b=>X b\/(w.heap.size<=b/\b<w'.heap.size)):=by
 have hlX:∀b,E8 env L b->X b/\¬ M b:=fun b ⟨k,o,h1,h2⟩=>by
  obtain⟨o',h3⟩:=hL k o h1;obtain⟨q1,q2,_⟩:=S.oat k o' h3 b h2;exact⟨q1,q2⟩
 have hl:Bg M M' w w':=⟨hs.size,fun b hb=>hs.block b (S.mlt b hb) (fun e=>(hlX b e).2 hb),hM⟩;have hmo:∀j,mvs j->∃o,(j,o)∈st.own:=fun j h=>by
  obtain⟨_,o,h1⟩:=hmk j h;exact hL j o h1
 refine⟨⟨hG _ _ _ _ _ S.gam.1 ⟨hs.os,hs.tape,hs.output,hs.drawn,hs.size,fun b hb hx=>hs.block b hb (fun e=>hx (hlX b e).1)⟩ (fun b h=>.inl h) (fun b h=>by rcases h with h|h;exact .inl h;exact .inr h.1),fun j hj=>?_⟩,
  fun b hb=>?_,?_,?_,?_,by rw[Mu];exact S.nod,hMl,?_,S.siz,?_,S.grd,?_,S.dno⟩
 ·obtain⟨h1,h2,h3⟩:=S.gam.2 j hj;obtain⟨e1,e2⟩:=he j (fun hm=>by have:=(hmk j hm).1;omega);exact⟨h1,e1.trans h2,e2.trans h3⟩
 ·rcases hM' b hb with h|h|⟨j,h1,h2,_⟩
  ·exact(S.mx b h).imp id .inl
  ·exact .inr (.inr ⟨h.1,hMl b hb⟩)
  ·obtain⟨o,h3⟩:=hmo j h1;exact .inr (.inl (S.oat j o h3 b h2).1)
 ·intro k o h;obtain⟨_,h⟩:=FY _ _ h;rcases h with h|⟨h,hn⟩
  ·exact ho k o h
  ·have h1:=S.own _ _ h;have h2:=S.oat _ _ h;have hng:∀g',env.at_ k=some g'->¬ E8 env L g':=fun g' hg' ⟨k2,o2,q1,q2⟩=>by
    obtain⟨o3,q3⟩:=hL k2 o2 q1;have hne:k≠k2:=fun e=>hn (by rw[hk,e];exact Ado.2 ⟨(k2,o2),q1,rfl⟩);exact S.inj k o k2 o3 h q3 hne g' hg' q2
   have hnk:¬ mvs k:=fun hm=>by
    obtain⟨_,o2,h3⟩:=hmk k hm;exact hn (by rw[hk];exact Ado.2 ⟨(k,o2),h3,rfl⟩)
   exact h1.move hl (he k hnk).1 (he k hnk).2 (fun g' ha=>hs.block g' (h2 g' ha).2.2 (hng g' ha)) (fun j hj=>he j (fun hm=>by
    have:=hO j hm k o h (by rw[<- hk];exact hn);rw[this]at hj;cases hj))
 ·intro k o h g hg;obtain⟨⟨o',h'⟩,_⟩:=FY _ _ h
  by_cases hm:mvs k
  ·rcases hmg k hm g hg with h4|h4
   ·obtain⟨q1,q2,q3⟩:=S.oat k o' h' g h4;refine⟨.inl q1,fun hm'=>?_,Adt q3 hs.size⟩;rcases hM' g hm' with h5|h5|⟨j,h5,h6,h7⟩
    ·exact q2 h5
    ·omega
    ·obtain rfl:=hone j k h5 hm;exact h7 hg
   ·refine⟨.inr h4,fun hm'=>?_,h4.2⟩;rcases hM' g hm' with h5|h5|⟨j,h5,h6,h7⟩
    ·have:=S.mlt g h5;omega
    ·exact h5.2 k hm hg
    ·obtain rfl:=hone j k h5 hm;exact h7 hg
  ·rw[(he k hm).1]at hg;obtain⟨q1,q2,q3⟩:=S.oat k o' h' g hg;refine⟨.inl q1,fun hm'=>?_,Adt q3 hs.size⟩;rcases hM' g hm' with h5|h5|⟨j,h5,h6,h7⟩
   ·exact q2 h5
   ·omega
   ·obtain⟨o2,h8⟩:=hmo j h5;exact S.inj k o' j o2 h' h8 (fun e=>hm (e ▸ h5)) g hg h6
 ·intro k o k' o' h h' hne g hg;obtain⟨⟨o1,e1⟩,_⟩:=FY _ _ h;obtain⟨⟨o2,e2⟩,_⟩:=FY _ _ h'
  by_cases hm:mvs k
  ·have hm':¬ mvs k':=fun h=>hne (hone k k' hm h);rw[(he k' hm').1];rcases hmg k hm g hg with h4|h4
   ·exact S.inj k o1 k' o2 e1 e2 hne g h4
   ·intro h5;have:=(S.oat k' o2 e2 g h5).2.2;omega
  ·rw[(he k hm).1]at hg
   by_cases hm':mvs k'
   ·intro h5;rcases hmg k' hm' g h5 with h4|h4
    ·exact S.inj k o1 k' o2 e1 e2 hne g hg h4
    ·have:=(S.oat k o1 e1 g hg).2.2;omega
   ·rw[(he k' hm').1];exact S.inj k o1 k' o2 e1 e2 hne g hg
 ·intro b hb;rcases hb with h|h
  ·exact Adt (S.xlt b h) hs.size
  ·exact h.2
 ·intro s e h;obtain⟨h1,h2,h3⟩:=S.tmp s e h;exact⟨h1,fun ho'=>(h2 ho').mono hl (fun j hj=>he j (fun hm=>by rw[hT j hm s e h]at hj;cases hj)) hy,h3⟩
 ·intro d hd;obtain⟨D,e,h1,h2,h3,h4⟩:=S.dfr d hd;have hD:=S.xlt D h2;refine⟨D,e,(hs.block D hD (fun⟨k,o,q1,q2⟩=>?_)).trans h1,.inl h2,fun hm=>?_,fun k o h hc=>?_⟩
  ·obtain⟨o',q3⟩:=hL k o q1;exact h4 k o' q3 q2
  ·rcases hM' D hm with h5|h5|⟨j,h5,h6,_⟩
   ·exact h3 h5
   ·omega
   ·obtain⟨o,h7⟩:=hmo j h5;exact h4 j o h7 h6
  ·obtain⟨⟨o',h'⟩,_⟩:=FY _ _ h
   by_cases hm:mvs k
   ·rcases hmg k hm D hc with h5|h5
    ·exact h4 k o' h' h5
    ·omega
   ·rw[(he k hm).1]at hc;exact h4 k o' h' hc
end
section
variable {P:Program} {M:Nat->Prop} {w:World} {G:Bn} {st:St} {a:Act} {env:As} {X:Nat->Prop}
theorem RQ {t:TypeId} {v:Value} (h:(∃k,P.underlying t=some (.int k))\/P.underlying t=some .bool) (hv:(∃k n,v=.int k n)\/∃b,v=.bool b) (em:Bool) (n:Nat) (w:World):(Instr.checkKey em (n+1) t v).run P w=.ok () w:=by
 unfold Instr.checkKey;rcases h with ⟨k,h⟩|h<;>rcases hv with ⟨k',m,rfl⟩|⟨b,rfl⟩<;>simp[run_underlying h]
theorem Mw:∀{cs:List SV},Fq cs=true->∀i,i<cs.length->(∃k n,SV.at cs i=.int k n)\/∃b,SV.at cs i=.bool b
 | .int k n::l,h,0,_=>.inl ⟨k,n,rfl⟩
 | .bool b::l,h,0,_=>.inr ⟨b,rfl⟩
 | .int k n::l,h,i+1,hi=>Mw (cs:=l) (by simpa[Fq]using h) i (by simpa using hi)
 | .bool b::l,h,i+1,hi=>Mw (cs:=l) (by simpa[Fq]using h) i (by simpa using hi)
 |[],_,i,hi=>by simp at hi
 | .agg _::_,h,_,_ | .tup _::_,h,_,_ | .sl .. :: _,h,_,_ | .ref .. :: _,h,_,_ | .clo .. :: _,h,_,_ | .raw _::_,h,_,_=>by simp[Fq]at h
theorem jH {kt:TypeId} {fs:Array Field} (hk:P.underlying kt=some (.struct fs)) {cs:List SV} {vs:List Value} (hi:Fq cs=true) (hok:Mc P cs fs.toList=true) (hl:vs.length=cs.length) (hd:∀i,i<cs.length->Av M w (SV.at cs i) (vs.getD i undef)) (em:Bool) (n:Nat) :
   (Instr.checkKey em (n+2) kt (.agg vs.toArray)).run P w=.ok () w:=by
 unfold Instr.checkKey;simp only[Sem.run_bind,run_underlying hk,Result.andThen_ok];rw[<- Array.forIn_toList];generalize fs.toList=l at hok
 induction l with
 |nil=>simp
 |cons f l ih =>
   simp only[Mc,pR]at hok;obtain⟨h1,h2⟩:=hok;have key:∃v,(part f.type vs.toArray f.offset).run P w=.ok v w/\(Instr.checkKey em (n+1) f.type v).run P w=.ok () w:=by
     have fin:∀y,Bf P f.type=some y->DO y.desc=false->(EJ y cs f.offset).isSome=true->((∃k,P.underlying f.type=some (.int k))\/P.underlying f.type=some .bool)->∃v,(part f.type vs.toArray f.offset).run P w=.ok v w/\(Instr.checkKey em (n+1) f.type v).run P w=.ok () w:=by
       intro y hy hag hs hu;obtain⟨s,hs⟩:=AeS.1 hs;obtain⟨v,r,d⟩:=Jo (M:=M) (w:=w) hy hl hs hd;refine⟨v,r w,RQ hu ?_ em n w⟩;unfold EJ at hs;rw[hag]at hs;simp only[AeC,if_false]at hs;have hlt:f.offset<cs.length:=(AdH.1 hs).1;have hat:SV.at cs f.offset=s:=by simp[SV.at,AS,hs]
       rcases Mw hi f.offset hlt with ⟨k,m,e⟩|⟨b,e⟩
       · rw[hat]at e;subst e;cases d;exact .inl ⟨_,_,rfl⟩
       · rw[hat]at e;subst e;cases d;exact .inr ⟨_,rfl⟩
     split at h1
     · rename_i y k hy hu
       refine fin y hy ?_ h1 (.inl ⟨k,hu⟩);obtain⟨_,_,_,_,_,e⟩:=C5 hy;rw[hu]at e;injection e with e;rw[<- e];rfl
     · rename_i y hy hu
       refine fin y hy ?_ h1 (.inr hu);obtain⟨_,_,_,_,_,e⟩:=C5 hy;rw[hu]at e;injection e with e;rw[<- e];rfl
     · cases h1
   obtain⟨v,r1,r2⟩:=key;simp only[List.forIn_cons,Sem.run_bind]
   by_cases hn:f.name = "_"
   · simpa[hn]using ih h2
   · simpa[hn,r1,r2]using ih h2
theorem jI {M':Nat->Prop} {w':World}:∀{s:SV} {u v:Value},(∃k n,s=.int k n)\/(∃b,s=.bool b)->Av M w s u->Av M' w' s v->u=v/\∀n,Instr.sameBits n u v=true
 |_,u,v,.inl ⟨k,n,rfl⟩,h1,h2=>by cases h1;cases h2;exact⟨rfl,fun n=>by cases n<;>simp[Instr.sameBits]⟩
 |_,u,v,.inr ⟨b,rfl⟩,h1,h2=>by cases h1;cases h2;exact⟨rfl,fun n=>by cases n<;>simp[Instr.sameBits]⟩
theorem jJ {M':Nat->Prop} {w':World} {cs:List SV} (hi:Fq cs=true) {u v:Value} (h1:Av M w (.agg cs) u) (h2:Av M' w' (.agg cs) v):u=v/\∀n,Instr.sameBits (n+1) u v=true:=by
 cases h1 with
 |agg _ us hl1 hd1 =>
 cases h2 with
 |agg _ vs hl2 hd2 =>
 have key:∀i,i<cs.length->us.getD i undef=vs.getD i undef/\∀n,Instr.sameBits n (us.getD i undef) (vs.getD i undef)=true:=fun i hlt=>jI (Mw hi i hlt) (hd1 i hlt) (hd2 i hlt);have he:us=vs:=by
  apply List.ext_getElem (by omega);intro i h1 h2;have:=(key i (by omega)).1;simpa[AS,h1,h2]using this
 subst he;refine⟨rfl,fun n=>?_⟩;simp only[Instr.sameBits,beq_self_eq_true,Bool.true_and,Ad0];rintro⟨x,y⟩ hm;obtain⟨i,hi',he⟩:=AdM hm;simp only[List.getElem_zip,Prod.mk.injEq]at he;obtain⟨rfl,rfl⟩:=he;have hlt:i<us.length:=by simpa using hi'
 have:=(key i (by omega)).2 n;simpa[AS,hlt]using this
theorem RR:∀{cs ds:List SV},Gw cs ds=true->Fq cs=true->cs=ds
 |[],[],_,_=>rfl
 |s::l,t::m,h,hi=>by
   have h12:Mb s t=true/\Gw l m=true:=by
    unfold Gw at h;split at h
    ·exact⟨h,rfl⟩
    ·simpa using h
   have hl:Fq l=true:=by
    cases s<;>simp_all [Fq]
   have:=RR h12.2 hl;subst this;have h1:=h12.1;unfold Mb at h1;split at h1
   ·split at h1
    ·rename_i hk;subst hk;simp at h1;subst h1;rfl
    ·cases h1
   ·simp at h1;subst h1;rfl
   ·cases h1
 |[],_::_,h,_=>by simp[Gw]at h
 |_::_,[],h,_=>by simp[Gw]at h
theorem RS {kt:TypeId} {cs:List SV} {key:Value} (hk:Av M w (.agg cs) key) (get:Nat->List SV) :
  ∀(es:List MapEntry) (o:Nat),(∀i,i<es.length->Of P kt cs (get (o+i))/\Av (fun _=>False) w (.agg (get (o+i))) (es.getD i default).key) ->
    (∃j,o<=j/\j<o+es.length/\Gw cs (get j)=true/\∃v,(Instr.findAsking kt key es o).run P w=.ok (some (j,v)) w)\/((∀j,o<=j->j<o+es.length->Gw cs (get j)=false)/\(Instr.findAsking kt key es o).run P w=.ok none w)
 |[],o,_=>.inr ⟨fun j h1 h2=>by simp at h2;omega,rfl⟩
 |e::es,o,h=>by
   obtain⟨h1,h2⟩:=h 0 (by simp);simp only[Nat.add_zero,List.getD_cons_zero]at h1 h2;unfold Of at h1;split at h1;rotate_left
   ·exact h1.elim
   rename_i b hb;have hrun:(Op.equal kt key e.key).run P w=.ok b w:=by
    unfold Op.equal;exact NT (P:=P) (M:=M) 3 kt _ _ b hb _ _ hk h2.still _ w (by decide)
   unfold Instr.findAsking;simp only[Sem.run_bind,hrun,Result.andThen_ok];cases b with
   |true=>exact .inl ⟨o,Adp _,by simp,h1.symm,e.val,by simp⟩
   |false =>
     have ih:=RS hk get es (o+1) (fun i hi=>by
      have:=h (i+1) (by simpa using hi);rw[show o+1+i=o+(i+1)by omega];simpa using this)
     simp only[AeC,if_false];rcases ih with ⟨j,q1,q2,q3,q4⟩|⟨q1,q2⟩
     ·exact .inl ⟨j,by omega,by simp;omega,q3,q4⟩
     ·refine .inr ⟨fun j hj hj2=>?_,q2⟩;rcases Nat.lt_or_ge o j with hlt|hge
      ·exact q1 j hlt (by simp at hj2;omega)
      ·have:j=o:=by omega
       subst this;exact h1.symm
theorem IE {g:Nat} {o o':Obj} (hb:w.heap[g]? = some o):Same (fun b=>b=g) w { w with heap:=w.heap.setIfInBounds g o' }/\({ w with heap:=w.heap.setIfInBounds g o' }:World).heap.size=w.heap.size/\({ w with heap:=w.heap.setIfInBounds g o' }:World).heap[g]? = some o':=by
 obtain⟨h1,h2⟩:=MapKept.heap_set (o':=o') hb;exact⟨⟨rfl,rfl,rfl,Adp _,by simp,fun b _ hne=>h2 b hne⟩,by simp,h1⟩
theorem jL (hG:Bp G) (S:Ak P G st a w env M X) {t:TypeId} {m k:EV} {K:St->Prop} (h:Og P st t m k K) {vm vk:Value} (hm:Am P M w env m vm) (hk:Am P M w env k vk) (vv:Value) :
  ∃w' st',(Instr.mapUpdate t vm vk vv).run P w=.ok () w'/\K st'/\AI P G st' a w':=by
 unfold Og at h;split at h;rotate_left
 ·exact h.elim
 rename_i kt e r cs ht;split at h;rotate_left
 ·exact h.elim
 rename_i kt' n get fs hl hfs;split at h;rotate_left
 ·exact h.elim
 rename_i hc;obtain⟨rfl,hi,hko⟩:=hc;obtain⟨hsym,hold,hnew⟩:=h;rcases hk with ⟨hk⟩;cases hm with
 |@mapv _ g hg =>
 have hmem:=Bq hl;obtain⟨g',es,clock,ha,hh,hz,hd⟩:=S.own _ _ hmem;rw[hg]at ha;cases ha;obtain⟨us,rfl,hul,hud⟩:∃us:List Value,vk=.agg us.toArray/\us.length=cs.length/\∀i,i<cs.length->Av M w (SV.at cs i) (us.getD i undef):=by
  cases hk with|agg _ us h1 h2=>exact⟨us,rfl,h1,h2⟩
 have hchk:=jH (w:=w) hfs hi hko hul hud false 9998;have hfind:=RS (P:=P) (kt:=kt') hk get es.toList 0 (fun i hi'=>by
  rw[AdE];have hi':i<es.size:=by simpa using hi'
  refine⟨hsym i (by omega),?_⟩;have:=(hd i (by omega)).2;have e1:(es.toList.getD i default)=es.getD i default:=by simp[AS,LS]
  rw[e1];exact this)
 have hfk:(Instr.findKey kt' (.agg us.toArray) es.toList).run P w=(Instr.findAsking kt' (.agg us.toArray) es.toList 0).run P w:=by
  cases hes:es.toList with
  |nil=>simp[Instr.findKey,run_underlying hfs,Instr.findNow,Instr.findAsking]
  |cons x l=>simp[Instr.findKey,run_underlying hfs,Instr.findNow,Instr.sameNow]
 rcases hfind with ⟨j,_,hj,hc,v,hrun⟩|⟨hno,hrun⟩
 ·-- there already
  have hj:j<n:=by simp at hj;omega
  have hcs:=RR hc hi;have hkey:=(hd j hj).2;have hlt:j<es.size:=by omega
  have hkey':Av (fun _=>False) w (.agg cs) (es[j]).key:=by
   rw[hcs];rw[LS,rK hlt]at hkey;exact hkey
  obtain⟨hsame,hbits⟩:=jJ hi hkey' hk;have hstay:∀w',(Instr.keyThatStays (es[j]).key (.agg us.toArray)).run P w'=.ok (.agg us.toArray) w':=fun w'=>by
   unfold Instr.keyThatStays;rw[if_pos (hbits 9999)];rfl
  obtain⟨s1,s2,s3⟩:=IE (w:=w) (g:=g) (o':=.map (es.modify j fun e=>{ e with key:=.agg us.toArray,val:=vv }) clock) hh;refine⟨{ w with heap:=w.heap.setIfInBounds g (.map (es.modify j fun e=>{ e with key:=.agg us.toArray,val:=vv }) clock) },st,?_,hold ⟨j,hj,hc⟩,?_⟩
  ·unfold Instr.mapUpdate;simp only[Sem.run_bind,run_underlying ht,Result.andThen_ok,MapKept.run_getObj_map hh,hchk,hfk,hrun];simp only[rK hlt,Aej,AdU,hstay,Result.andThen_ok];exact MapKept.run_setObj_map _ hh
  ·have:=S.write hG hmem hg s1 s2 (o:=.mp kt' n get) ⟨g,_,clock,hg,s3,by simpa using hz,fun i hi'=>⟨(hd i hi').1,?_⟩⟩
   ·have hid : Cd st.own r (.mp kt' n get)= st.own :=by
     have hn:=S.nod;apply List.ext_getElem (by simp[Cd]);intro q h1 h2;simp only[Cd,List.getElem_map];split
     ·rename_i hq;have hq:st.own[q].1=r:=by simpa using hq
      have hin:(st.own[q])∈st.own:=AdC h2;obtain⟨q2,hq2,e2⟩:=AdM hmem;have hp:=Aed.1 (Aek.1 hn);have:q=q2:=by
       rcases Aev q q2 with hlt|heq|hgt
       ·exact absurd (by rw[e2];exact hq) (hp q q2 h2 hq2 hlt)
       ·exact heq
       ·exact absurd (by rw[e2];exact hq.symm) (hp q2 q hq2 h2 hgt)
      subst this;exact e2.symm
     ·rfl
    rw[hid]at this;exact⟨env,M,X,this⟩
   ·have hi2:i<es.size:=by omega
    rw[LS,Aeo]
    by_cases hij:j=i
    ·subst hij;simp only[if_true,rK hlt,Aej,AdU];rw[<- hcs,<- hsame];exact hkey'.still
    ·simp only[if_neg hij];have:=(hd i hi').2;rw[LS]at this;exact this.still
 ·obtain⟨s1,s2,s3⟩:=IE (w:=w) (g:=g) (o':=.map (es.push { key:=.agg us.toArray,val:=vv,born:=clock }) (clock+1)) hh;refine⟨{ w with heap:=w.heap.setIfInBounds g (.map (es.push { key:=.agg us.toArray,val:=vv,born:=clock }) (clock+1)) },_,?_,hnew (fun i hi'=>hno i (Ads _) (by simp;omega)),env,M,X,S.write hG hmem hg s1 s2 ⟨g,_,clock+1,hg,s3,by simp[hz],fun i hi'=>?_⟩⟩
  ·unfold Instr.mapUpdate;simp only[Sem.run_bind,run_underlying ht,Result.andThen_ok,MapKept.run_getObj_map hh,hchk,hfk,hrun];exact MapKept.run_setObj_map _ hh
  ·unfold Ba;have hnm:∀{l:List SV},Fq l=true->Db.noMems l=true:=fun {l} h=>by
    induction l with
    |nil=>rfl
    |cons s l ih=>cases s<;>simp_all [Fq,Db.noMems,Db]
   split
   ·rename_i hlt;refine⟨(hd i hlt).1,?_⟩;have:=(hd i hlt).2;rw[LS,Aer (by omega)];rw[LS,rK (by omega)]at this;exact this.still
   ·have:i=es.size:=by omega
    subst this;refine⟨hnm hi,?_⟩;rw[LS,AdI];exact GL hk (by simpa[Db]using hnm hi)
theorem jM (hG:Bp G) (S:Ak P G st a w env M X) {d:Nat} (hdn:d<st.nt) (hn:(st.forget d).noName d=true) (q:Option (Int->SV)) (q2:Option (Int->Int->Prop)) (kt vt:TypeId) :
  AI P G ({ st.forget d with own:=(d,Oh q q2 kt vt)::(st.forget d).own }.put (some d) ⟨none,.mapv d⟩) (a.put (some d) (.map (some w.heap.size))) (w.alloc (.map #[] 0)):=by
 have hs:=I9 w (.map #[] 0);obtain⟨X',h⟩:=(S.forget d).newOwn hG hdn hn (fun s e h=>HM h) hs (env':=env.set d w.heap.size undef) (As.set_other env d _ _) rfl
  (fun g hg=>by rw[As.set_at]at hg;cases hg;simp) (M':=M) (fun b h=>h) (fun b h=>.inl h) (fun b h=>by have:=S.mlt b h;simp;omega)
  (o:=Oh q q2 kt vt) (by
   cases q2 with
   |some ok=>exact⟨w.heap.size,#[],0,As.set_at _ _ _ _,AdI,fun i hi=>absurd hi (oE _)⟩
   |none =>
   cases q with
   |none=>exact⟨w.heap.size,#[],0,As.set_at _ _ _ _,AdI,rfl,fun i hi=>by omega⟩
   |some val=>exact⟨w.heap.size,#[],0,As.set_at _ _ _ _,AdI,(fun key h=>by cases h),fun i hi=>absurd hi (oE _)⟩)
 exact⟨_,M,X',h.put0 (fun t ht=>by cases ht;exact hdn) (.mapv (As.set_at _ _ _ _))⟩
theorem Mx {C:Aj} {o:Oper} {gd:Option (Nat×Bool×Bool)} {d:Nat} {t:TypeId} {x hi:Operand} (h:Od C o gd=some (d,t,x,hi)):o.op=.slice t x none (some hi) none/\o.dst=some d/\gd=none:=by
 unfold Od at h;split at h
 ·rename_i h1 h2;split at h
  ·cases h;exact⟨h1,h2,rfl⟩
  ·cases h
 ·cases h
theorem RT (hG:Bp G) (S:Ak P G st a w env M X) {d:Nat} {t:TypeId} {x hi:Operand} {K:St->Prop} (h:Oe P st d t x hi K) (hd:d<st.nt) :
  ∃v st',(Instr.sliceAt t (a.eval x) none (some (a.eval hi)) none).run P w=.ok v w/\K st'/\AI P G st' (a.put (some d) v) w:=by
 have hρ:∀x e,st.rho none x=some e->Am P M w env e (a.eval x):=fun x e hx=>Bc S (gd:=none) (fun _ _ _ h=>by cases h) trivial hx;unfold Oe at h;split at h;rotate_left
 ·exact h.elim
 rename_i e r z hu hx hz;split at h;rotate_left
 ·exact h.elim
 rename_i e' sz n get y hl hy;split at h;rotate_left
 ·exact h.elim
 rename_i hrn;obtain⟨hp,hk⟩:=B0 h;obtain⟨h1,h2⟩:=Ay hp;have hb:I1 none (some hi) (st.rho none) n=some (0,z):=by simp[I1,hz]
 have hmem:=Bq hl;obtain⟨hm,hgl,hO⟩:=S.own _ _ hmem;have hmem':∃o,(r,o)∈(st.scrub r).own:=⟨.row e' sz n get,Ado.2 ⟨(r,.row e' sz n get),Adn.2 ⟨hmem,rfl⟩,rfl⟩⟩;obtain⟨o0,ho0⟩:=hmem';have e1:=hρ _ _ hx;generalize hev:a.eval x=q at e1;cases e1 with
 |@row _ A' n' c hrow =>
 have hsame:Same (fun b=>env.at_ r=some b) w w:=⟨rfl,rfl,rfl,Adp _,Adp _,fun _ _ _=>rfl⟩;rcases hO with ⟨hat,hrv,hn0⟩|⟨g,cap,cur,hg,hrv,hh,hnc,hcm,hcs,hd'⟩
 ·subst hn0;rw[hrv]at hrow;cases hrow;have hz0:z.toNat=0:=by omega
  have hrun:=Js (P:=P) (w:=w) hρ hu hy hb none 0 (Adp _) (Int.le_refl _) h1 h2;simp only[Option.map_none,Aej,Int.toNat_zero,Nat.sub_zero,if_true,hz0]at hrun;obtain⟨X',S'⟩:=(Mm S r).rerow hG hrn ho0 (fun s e h=>Mn h) (fun k' o' h=>Mo h) hsame (env':=env) (fun j hj=>⟨rfl,rfl⟩) rfl
   (fun g hg=>⟨.inl hg,(S.oat _ _ hmem g hg).2.2⟩) (o:=.row e' sz z.toNat get) ⟨by omega,fun i hi=>by omega,.inl ⟨hat,hrv,hz0⟩⟩
  refine⟨_,_,hrun,hk,env,M,X',S'.put0 (fun t ht=>by cases ht;exact hd) ?_⟩;exact .row hrv
 ·rw[hrv]at hrow;cases hrow;have hrun:=Js (P:=P) (w:=w) hρ hu hy hb (some ⟨g,0,none⟩) c hnc (Int.le_refl _) h1 h2;have hA:(if c=(0:Int).toNat then some (⟨g,0,none⟩:Addr)else(some (⟨g,0,none⟩:Addr)).map (·.add ((0:Int).toNat*y.size)))=some ⟨g,0,none⟩:=by
   split
   ·rfl
   ·simp[Addr.add]
  rw[hA]at hrun;simp only[Option.map_none,Aej,Int.toNat_zero,Nat.sub_zero]at hrun;let env2:As:={ env with rv:=fun j=>if j=r then .slice (some ⟨g,0,none⟩) z.toNat c else env.rv j };have e2:env2.rv r=.slice (some ⟨g,0,none⟩) z.toNat c:=by simp[env2]
  obtain⟨X',S'⟩:=(Mm S r).rerow hG hrn ho0 (fun s e h=>Mn h) (fun k' o' h=>Mo h) hsame (env':=env2) (fun j hj=>⟨rfl,by simp[env2,hj]⟩) rfl
   (fun g hg=>⟨.inl hg,(S.oat _ _ hmem g hg).2.2⟩) (o:=.row e' sz z.toNat get) ⟨by omega,fun i hi=>hgl i (by omega),.inr ⟨g,c,cur,hg,e2,hh,by omega,hcm,hcs,fun i hi j hj=>hd' i (by omega) j hj⟩⟩
  exact⟨_,_,hrun,hk,env2,M,X',S'.put0 (fun t ht=>by cases ht;exact hd) (.row e2)⟩
end
section
variable {P:Program} {M:Nat->Prop} {w:World} {env:As}
theorem RU {es:Array MapEntry} {dom:Int->Bool} {val:Int->SV} (hd:∀i,i<es.size->∃key,(es.getD i default).key=.int .i64 key/\dom key=true/\Av M w (val key) (es.getD i default).val):∀x∈es.toList,MapKept.IsKey (.int .i64) x.key:=by
 intro x hx;obtain⟨i,hi,rfl⟩:=AdM hx;have hi:i<es.size:=by simpa using hi
 obtain⟨key,h1,_,_⟩:=hd i hi;rw[LS,rK hi]at h1;simp only[AdU]at h1;rw[AeR,h1];exact(rfl:IntKind.i64=IntKind.i64)
theorem jN {t kt vt kt' vt':TypeId} (ht:P.underlying t=some (.map kt vt)) (hk:P.underlying kt=some (.int .i64)) {r g:Nat} {dom:Int->Bool} {val:Int->SV} (ho:B3 P M w env r (.mq kt' vt' dom val)) (hg:env.at_ r=some g) (key:Int) :
  (dom key=true->∃v,Av M w (val key) v/\∀co,(Instr.lookup t (.map (some g)) (.int .i64 key) co).run P w=.ok (if co then .tuple #[v,.bool true]else v) w) /\
  (dom key=false->∀z,(zeroValue vt).run P w=.ok z w->∀co,(Instr.lookup t (.map (some g)) (.int .i64 key) co).run P w=.ok (if co then .tuple #[z,.bool false]else z) w):=by
 obtain⟨g',es,clock,ha,hh,hin,hd⟩:=ho;rw[hg]at ha;cases ha;have hkeys:=RU hd;have hck:∀e,(Instr.checkKey e 10000 kt (.int .i64 key)).run P w=.ok () w:=fun e=>MapKept.run_checkKey hk (show MapKept.IsKey (.int .i64) (.int .i64 key)from rfl) e 9999;rcases MapKept.findNow_spec (d:=.int .i64) (k:=.int .i64 key) (show MapKept.IsKey (.int .i64) (.int .i64 key)from rfl) es.toList 0 hkeys with ⟨h1,h2⟩|⟨j,e,h1,h2,h3⟩
 ·have hf:=MapKept.run_findKey (w:=w) hk h1;refine⟨fun h=>?_,fun _ z hz co=>?_⟩
  ·obtain⟨i,hi,h4⟩:=hin key h;rw[LS,rK hi]at h4;exact absurd h4 (h2 _ (by simp))
  ·unfold Instr.lookup;simp only[Sem.run_bind,run_underlying ht,Result.andThen_ok,MapKept.run_getObj_map hh,Sem.run_pure,hck,hf,hz]
   try (cases co<;>rfl)
 ·have hf:=MapKept.run_findKey (w:=w) hk h1;have hj:j<es.size:=by have:=(AdH.1 h2).1;simpa using this
  have he:es.getD j default=e:=by
   rw[AeN]at h2;rw[LS,h2];rfl
  obtain⟨key',q1,q2,q3⟩:=hd j hj;rw[he]at q1 q3;have:key'=key:=by rw[h3]at q1;cases q1;rfl
  subst this;refine⟨fun _=>⟨e.val,q3,fun co=>?_⟩,fun h=>?_⟩
  ·unfold Instr.lookup;simp only[Sem.run_bind,run_underlying ht,Result.andThen_ok,MapKept.run_getObj_map hh,Sem.run_pure,hck,hf]
   try (cases co<;>rfl)
  ·rw[q2]at h;cases h
theorem jO {t kt vt kt' vt':TypeId} (ht:P.underlying t=some (.map kt vt)) (hk:P.underlying kt=some (.int .i64)) {r g:Nat} {dom:Int->Bool} {val:Int->SV} (ho:B3 P M w env r (.mq kt' vt' dom val)) (hg:env.at_ r=some g) (hM:¬ M g) (hlt:∀b,M b->b<w.heap.size) (key:Int) {v:Value} (hv:Av M w (val key) v) :
  ∃w',(Instr.mapUpdate t (.map (some g)) (.int .i64 key) v).run P w=.ok () w'/\Same (fun b=>b=g) w w'/\w'.heap.size=w.heap.size/\B3 P M w' env r (.mq kt' vt' (fun x=>decide (x=key)||dom x) val):=by
 obtain⟨g',es,clock,ha,hh,hin,hd⟩:=ho;rw[hg]at ha;cases ha;have hkeys:=RU hd;have hck:∀e,(Instr.checkKey e 10000 kt (.int .i64 key)).run P w=.ok () w:=fun e=>MapKept.run_checkKey hk (show MapKept.IsKey (.int .i64) (.int .i64 key)from rfl) e 9999;have lat:∀{o':Obj},Bg M M w { w with heap:=w.heap.setIfInBounds g o' }:=fun {o'}=>by
  obtain⟨s1,s2,s3⟩:=IE (w:=w) (g:=g) (o':=o') hh;exact⟨s1.size,fun b hb=>s1.block b (hlt b hb) (fun e=>hM (e ▸ hb)),fun b hb=>hb⟩
 rcases MapKept.findNow_spec (d:=.int .i64) (k:=.int .i64 key) (show MapKept.IsKey (.int .i64) (.int .i64 key)from rfl) es.toList 0 hkeys with ⟨h1,h2⟩|⟨j,e,h1,h2,h3⟩
 ·have hf:=MapKept.run_findKey (w:=w) hk h1;obtain⟨s1,s2,s3⟩:=IE (w:=w) (g:=g) (o':=.map (es.push { key:=.int .i64 key,val:=v,born:=clock }) (clock+1)) hh;refine⟨_,?_,s1,s2,g,_,_,hg,s3,fun x hx=>?_,fun i hi=>?_⟩
  ·unfold Instr.mapUpdate;simp only[Sem.run_bind,run_underlying ht,Result.andThen_ok,MapKept.run_getObj_map hh,hck,hf];exact MapKept.run_setObj_map _ hh
  ·by_cases e:x=key
   ·refine⟨es.size,by simp,?_⟩;rw[LS,AdI,e];rfl
   ·have hx:dom x=true:=by simpa[e]using hx
    obtain⟨i,hi,h4⟩:=hin x hx;refine⟨i,by simp;omega,?_⟩;rw[LS]at h4 ⊢;rw[Aer hi];rwa[rK hi]at h4
  ·have hi:i<es.size+1:=by simpa using hi
   rcases Ad1.1 hi with h'|rfl
   ·obtain⟨key',q1,q2,q3⟩:=hd i h';rw[LS,rK h']at q1 q3;refine⟨key',?_,by simp[q2],?_⟩
    ·rw[LS,Aer h'];exact q1
    ·rw[LS,Aer h'];exact q3.later lat
   ·refine⟨key,?_,by simp,?_⟩
    ·rw[LS,AdI];rfl
    ·rw[LS,AdI];exact hv.later lat
 ·have hf:=MapKept.run_findKey (w:=w) hk h1;have hj:j<es.size:=by have:=(AdH.1 h2).1;simpa using this
  have he:es[j]=e:=by
   rw[AeN,rK hj]at h2;exact Option.some.inj h2
  have hstay:∀w',(Instr.keyThatStays (es[j]).key (.int .i64 key)).run P w'=.ok (.int .i64 key) w':=fun w'=>by
   rw[he,h3];unfold Instr.keyThatStays;rw[if_pos (show Instr.sameBits (9999+1) (.int .i64 key) (.int .i64 key)=true by simp[Instr.sameBits])];rfl
  obtain⟨s1,s2,s3⟩:=IE (w:=w) (g:=g) (o':=.map (es.modify j fun e=>{ e with key:=.int .i64 key,val:=v }) clock) hh;refine⟨_,?_,s1,s2,g,_,_,hg,s3,fun x hx=>?_,fun i hi=>?_⟩
  ·unfold Instr.mapUpdate;simp only[Sem.run_bind,run_underlying ht,Result.andThen_ok,MapKept.run_getObj_map hh,hck,hf];simp only[AdE,rK hj,Aej,AdU,hstay,Result.andThen_ok];exact MapKept.run_setObj_map _ hh
  ·by_cases e':x=key
   ·refine⟨j,by simpa using hj,?_⟩;rw[LS,Aeo,rK hj,e'];simp
   ·have hx:dom x=true:=by simpa[e']using hx
    obtain⟨i,hi,h4⟩:=hin x hx;refine⟨i,by simpa using hi,?_⟩;rw[LS,rK hi]at h4;rw[LS,Aeo,rK hi]
    by_cases hij:j=i
    ·subst hij;simp only[AdU]at h4;rw[he,h3]at h4;cases h4;exact absurd rfl e'
    ·simpa[hij]using h4
  ·have hi:i<es.size:=by simpa using hi
   rw[LS,Aeo,rK hi]
   by_cases hij:j=i
   ·subst hij;exact⟨key,by simp,by simp,by simpa using hv.later lat⟩
   ·obtain⟨key',q1,q2,q3⟩:=hd i hi;rw[LS,rK hi]at q1 q3;exact⟨key',by simpa[hij]using q1,by simp[q2],by simpa[hij]using q3.later lat⟩
theorem jP {G:Bn} {st:St} {a:Act} {X:Nat->Prop} (hG:Bp G) (S:Ak P G st a w env M X) {t:TypeId} {m k v:EV} {K:St->Prop} (h:Ol P st t m k v K) {vm vk vv:Value} (hm:Am P M w env m vm) (hk:Am P M w env k vk) (hv:Am P M w env v vv) :
  ∃w' st',(Instr.mapUpdate t vm vk vv).run P w=.ok () w'/\K st'/\AI P G st' a w':=by
 unfold Ol at h;split at h;rotate_left
 ·exact h.elim
 rename_i kt vt r key ht;split at h;rotate_left
 ·exact h.elim
 rename_i kt' vt' dom val hl hkt;obtain⟨h1,h2⟩:=B0 h;rcases hk with ⟨hk⟩;cases hk;cases hm with
 |@mapv _ g hg =>
 have hmem:=Bq hl;obtain⟨q1,q2,q3⟩:=S.oat _ _ hmem g hg;rcases GM h1 hv with ⟨hv⟩;obtain⟨w',hr,hs,hz,ho⟩:=jO ht hkt (S.own _ _ hmem) hg q2 S.mlt key hv;exact⟨w',_,hr,h2,env,M,X,S.write hG hmem hg hs hz ho⟩
theorem jQ {G:Bn} {st:St} {a:Act} {X:Nat->Prop} (S:Ak P G st a w env M X) {t:TypeId} {d:Nat} {m k:EV} {co:Bool} {K:St->Prop} (h:Om P st t d m k co K) {vm vk:Value} (hm:Am P M w env m vm) (hk:Am P M w env k vk) :
  ∃s v,(Instr.lookup t vm vk co).run P w=.ok v w/\Av M w s v/\K (st.put (some d) ⟨none,.p s⟩):=by
 unfold Om at h;split at h;rotate_left
 ·exact h.elim
 rename_i kt vt r key ht;split at h;rotate_left
 ·exact h.elim
 rename_i kt' vt' dom val y hl hkt hy;obtain⟨h1,h2⟩:=h;rcases hk with ⟨hk⟩;cases hk;cases hm with
 |@mapv _ g hg =>
 have hmem:=Bq hl;obtain⟨l1,l2⟩:=jN ht hkt (S.own _ _ hmem) hg key;have two:∀{s:SV} {v:Value} (b:Bool),Av M w s v->Av M w (.tup [s,.bool b]) (.tuple #[v,.bool b]):=fun {s v} b hs =>
  .tup [s,.bool b] [v,.bool b] rfl (fun i hi=>by
   match i,hi with
   |0,_=>exact hs
   |1,_=>exact .bool _)
 cases hd:dom key with
 |true =>
   obtain⟨v,hv,hr⟩:=l1 hd;cases co with
   |true=>exact⟨_,_,hr true,two true hv,h1 hd⟩
   |false=>exact⟨_,_,hr false,hv,h1 hd⟩
 |false =>
   obtain⟨i,hi,hz,_⟩:=C5 hy;have hr:=l2 hd y.zero (by simp[zeroValue,typeInfo,hi,hz]);cases co with
   |true=>exact⟨_,_,hr true,two false (K9 _),h2 hd⟩
   |false=>exact⟨_,_,hr false,K9 _,h2 hd⟩
theorem Am.reenvs {M':Nat->Prop} {w':World} {env':As} {keys:List Nat} (hl:Bg M M' w w') (he:∀j,j ∉ keys->env'.at_ j=env.at_ j/\env'.rv j=env.rv j) (hy:env'.yl=env.yl) {e:EV} {v:Value}
  (hn:∀k,k∈keys->e.names k=false) (h:Am P M w env e v):Am P M' w' env' e v :=
 h.mono hl (fun j hj=>he j (fun e'=>by rw[hn j e']at hj;cases hj)) hy
end
section
variable {P:Program}
mutual
theorem RV {ks:List Nat}:∀(e:EV),e.within ks=true->∀k,e.names k=true->k∈ks
 | .loc b _,h,k,hk=>by simp only[EV.within,EV.names,beq_iff_eq]at h hk;subst hk;simpa using h
 | .row b,h,k,hk=>by simp only[EV.within,EV.names,beq_iff_eq]at h hk;subst hk;simpa using h
 | .rsub b _ _ _,h,k,hk=>by simp only[EV.within,EV.names,beq_iff_eq]at h hk;subst hk;simpa using h
 | .rptr b _ _ _,h,k,hk=>by simp only[EV.within,EV.names,beq_iff_eq]at h hk;subst hk;simpa using h
 | .mapv b,h,k,hk=>by simp only[EV.within,EV.names,beq_iff_eq]at h hk;subst hk;simpa using h
 | .rpre b _,h,k,hk=>by simp only[EV.within,EV.names,beq_iff_eq]at h hk;subst hk;simpa using h
 | .fptr bs _,h,k,hk=>by
   simp only[EV.within,EV.names,Ad0,Adv]at h hk;exact h k hk
 | .cl _ cs,h,k,hk=>KW cs h k hk
 | .ag _ cs,h,k,hk=>KW cs h k hk
 | .p _,_,_,hk | .fn _,_,_,hk | .yield _,_,_,hk | .any,_,_,hk | .full ..,_,_,hk=>by cases hk
theorem KW {ks:List Nat}:∀(l:List EV),EV.within.withinL ks l=true->∀k,EV.names.namesL k l=true->k∈ks
 |[],_,_,hk=>by cases hk
 |e::l,h,k,hk=>by
   simp only[EV.within.withinL,EV.names.namesL,pR,AdN]at h hk;rcases hk with hk|hk
   ·exact RV e h.1 k hk
   ·exact KW l h.2 k hk
end
theorem O3 {ks:List Nat} {o:Al} (h:o.within ks=true):∀k,o.names k=true->k∈ks:=fun k hk=>by
 cases o with
 |blk t cs=>exact KW cs h k hk
 |oblk b t cs=>exact KW cs h k hk
 |prow e n bs =>
   simp only[Al.within,Al.names,Ad0,Adv]at h hk;exact h k hk
 |_=>cases hk
theorem Am.turn {M M':Nat->Prop} {w w':World} {env env':As} {ks:List Nat} (hl:Bg M M' w w') (he:∀k,k∈ks->env'.at_ k=env.at_ k/\env'.rv k=env.rv k)
 {e:EV} {v:Value} (h:Am P M w env e v) (hw:e.within ks=true):Am P M' w' env' e v:=h.go hl (fun k hk=>he k (RV e hw k hk))
def As.adopt (env env':As) (f:Nat->Nat) (keys:List Nat):As :=
 { at_:=fun j=>match keys.find? (fun k=>f k == j)with|some k=>env'.at_ k|none=>env.at_ j
   rv:=fun j=>match keys.find? (fun k=>f k == j)with|some k=>env'.rv k|none=>env.rv j
   yl:=env.yl }
theorem KX {env env':As} {f:Nat->Nat} {keys:List Nat} {j:Nat} (h:j ∉ keys.map f):(env.adopt env' f keys).at_ j=env.at_ j/\(env.adopt env' f keys).rv j=env.rv j:=by
 have:keys.find? (fun k=>f k == j)=none:=by
  rw[List.find?_eq_none];intro k hk e;exact h (Ado.2 ⟨k,hk,by simpa using e⟩)
 unfold As.adopt;simp only[this];exact⟨trivial,trivial⟩
theorem My {env env':As} {f:Nat->Nat} {keys:List Nat} (hnd:(keys.map f).Nodup) {k:Nat} (hk:k∈keys):(env.adopt env' f keys).at_ (f k)=env'.at_ k/\(env.adopt env' f keys).rv (f k)=env'.rv k:=by
 have:keys.find? (fun q=>f q == f k)=some k:=by
  induction keys with
  |nil=>cases hk
  |cons q l ih =>
    rw[Aea,Ael]at hnd
    by_cases e:f q=f k
    ·rcases Adq.1 hk with rfl|h
     ·simp
     ·exact absurd (Ado.2 ⟨k,h,e.symm⟩) hnd.1
    ·rcases Adq.1 hk with rfl|h
     ·exact absurd rfl e
     ·rw[List.find?_cons_of_neg (by simpa using e)];exact ih hnd.2 h
 unfold As.adopt;simp only[this];exact⟨trivial,trivial⟩
theorem Ak.newOwnsAt {G:Bn} {st:St} {a:Act} {w:World} {env:As} {M X:Nat->Prop} (S:Ak P G st a w env M X) {L:List (Nat×Al)} (hnd:(Bh L).Nodup) (hkn:∀k,k∈Bh L->k<st.nt) (hk:∀k,k∈Bh L->st.noName k=true)
  (hT:∀k,k∈Bh L->∀s e,(s,e)∈st.T->e.v.names k=false) {env':As} (he:∀j,j ∉ Bh L->env'.at_ j=env.at_ j/\env'.rv j=env.rv j) (hy:env'.yl=env.yl) {n0:Nat}
  (hlo:∀k o,(k,o)∈st.own->∀g,env.at_ k=some g->g<n0) (hdl:∀d,d∈a.defers->∀D,d = { target:=.collected D,args:=#[] }->D<n0)
  (hg:∀k,k∈Bh L->∀g,env'.at_ k=some g->n0<=g/\X g/\¬ M g/\g<w.heap.size)
  (hinj:∀k1 k2,k1∈Bh L->k2∈Bh L->k1≠k2->∀g,env'.at_ k1=some g->env'.at_ k2≠some g)
  (ho:∀k o,(k,o)∈L->B3 P M w env' k o):Ak P G { st with own:=L++st.own } a w env' M X:=by
 have hl:Bg M M w w:=⟨Adp _,fun _ _=>rfl,fun _ h=>h⟩;have key:∀{k o},(k,o)∈L->k∈Bh L:=fun {k o} h=>Ado.2 ⟨(k,o),h,rfl⟩;have hold:∀{k' o'},(k',o')∈st.own->k' ∉ Bh L/\∀k,k∈Bh L->o'.names k=false:=fun {k' o'} h =>
  ⟨fun hm=>(Ho (hk _ hm) h).1 rfl,fun k hm=>(Ho (hk _ hm) h).2⟩
 have hpin:HF G env' st.nt:=fun j hj=>by
  obtain⟨h1,h2,h3⟩:=S.gam.2 j hj;obtain⟨e1,e2⟩:=he j (fun hm=>by have:=hkn j hm;omega);exact⟨h1,e1.trans h2,e2.trans h3⟩
 refine⟨⟨S.gam.1,hpin⟩,S.mx,?_,?_,?_,?_,S.mlt,S.xlt,S.siz,?_,S.grd,?_,S.dno⟩
 ·intro k' o' h;rcases Ad4.1 h with h|h
  ·exact ho _ _ h
  ·obtain⟨hne,hnn⟩:=hold h;have h1:=S.own _ _ h;exact h1.move hl (he _ hne).1 (he _ hne).2 (fun _ _=>rfl) (fun j hj=>he j (fun e=>by rw[hnn j e]at hj;cases hj))
 ·intro k' o' h g hg';rcases Ad4.1 h with h|h
  ·exact(hg _ (key h) g hg').2
  ·rw[(he _ (hold h).1).1]at hg';exact S.oat _ _ h g hg'
 ·intro k1 o1 k2 o2 h1 h2 hne g hg1;rcases Ad4.1 h1 with h1|h1<;>rcases Ad4.1 h2 with h2|h2
  ·exact hinj _ _ (key h1) (key h2) hne g hg1
  ·rw[(he _ (hold h2).1).1];intro hc;have:=hlo _ _ h2 g hc;have:=(hg _ (key h1) g hg1).1;omega
  ·rw[(he _ (hold h1).1).1]at hg1;intro hc;have:=hlo _ _ h1 g hg1;have:=(hg _ (key h2) g hc).1;omega
  ·rw[(he _ (hold h1).1).1]at hg1;rw[(he _ (hold h2).1).1];exact S.inj _ _ _ _ h1 h2 hne g hg1
 ·rw[AeA,List.nodup_append];refine⟨hnd,S.nod,fun x hx y hy' e=>?_⟩;obtain⟨z,hz,rfl⟩:=Ado.1 hy';exact(hold (k':=z.1) (o':=z.2) hz).1 (e ▸ hx)
 ·intro s e h;obtain⟨h1,h2,h3⟩:=S.tmp s e h;exact⟨h1,fun ho'=>Am.reenvs hl he hy (fun k hm=>hT k hm s e h) (h2 ho'),h3⟩
 ·intro d hd;obtain⟨D,e,h1,h2,h3,h4⟩:=S.dfr d hd;have hD:=hdl d hd D e;refine⟨D,e,h1,h2,h3,?_⟩;intro k' o' h;rcases Ad4.1 h with h|h
  ·intro hc;have:=(hg _ (key h) D hc).1;omega
  ·rw[(he _ (hold h).1).1];exact h4 _ _ h
theorem RW {mv:Option (Nat×Nat)} {i j:Nat} (h:i∈Ci mv) (h':j∈Ci mv):i=j:=by
 cases mv with
 |none=>cases h
 |some x =>
   obtain⟨k,s⟩:=x;simp only[Ci,Ad2]at h h';rw[h,h']
theorem jR {G:Bn} {st:St} {a:Act} {w:World} {env:As} {M X:Nat->Prop} (S:Ak P G st a w env M X) {f:Nat->Nat} {mv:Option (Nat×Nat)} {ks:List Nat} (hk:∀k,k∈ks->∃o,(k,o)∈st.own) (h:Ob (st.mvd f mv) f mv ks=true) :
  Ak P G (st.mvd f mv) a w env M X/\(st.mvd f mv).nt=st.nt/\(∀k,k∈ks->∃o,(k,o)∈(st.mvd f mv).own) /\
   ∀k,k∈Ci mv->f k<st.nt/\(∀s e,(s,e)∈(st.mvd f mv).T->e.v.names (f k)=false)/\∀k' o,(k',o)∈(st.mvd f mv).own->o.names (f k)=false:=by
 cases mv with
 |none=>exact⟨S,rfl,hk,fun k hk=>by cases hk⟩
 |some x =>
   obtain⟨k0,s0⟩:=x;simp only[Ob,pR,decide_eq_true_eq,Ad0]at h;refine⟨Mm S _,rfl,fun k hk=>?_,fun k hk=>?_⟩
   ·obtain⟨o,ho⟩:=AeS.1 (h.2 k hk);exact⟨o,Bq ho⟩
   ·simp only[Ci,Ad2]at hk;subst hk;exact⟨h.1,fun s e h=>Mn h,fun k' o h=>Mo h⟩
theorem RX {G:Bn} {st:St} {a:Act} {w:World} {env:As} {M X:Nat->Prop} (hG:Bp G) (S:Ak P G st a w env M X) {C:Aj} {dst:Option Nat} (hd:∀t,dst=some t->t<st.nt) {as:List EV} {vals:List Value} (hv1:vals.length=as.length) (hv2:∀i,i<as.length->Am P M w env (EV.at as i) (vals.getD i undef))
  {g:Nat} {mk:Mk} (hT:Du P g mk) {K:St->Prop} (h:Oc C st dst as mk K) {N:Act->World->Prop} (hN:∀st' a' w',K st'->AI P G st' a' w'->N a' w') :
  CallsIn Fence.wide 0 P g vals.toArray w (fun e w'=>∃v,e=.returned v/\N (a.put dst v) w'):=by
 obtain⟨t,h⟩:=h;split at h;rotate_left
 ·exact h.elim
 rename_i hc;obtain⟨hndl,hnd⟩:=AeO.1 hc;have hnd:=Fc hnd;have hndl:=Fc hndl;obtain⟨h1,hpre,hpost⟩:=B0 h;obtain⟨hA,hO⟩:=all_append h1;obtain⟨⟨hk,hk',hkn,hin,hmv,hmvl⟩,hT⟩:=hT;obtain⟨l1,l2⟩:=ID hA;rw[FX]at l1 l2;have hO':=FW S hO;have inj:=RO hndl;refine F8 (hT t hpre M w (env.via C.ren) vals S.mlt (fun k o h=>J3 (hO' _ _ (E9 h)).2) (fun k o h g hg=>?_) (fun k o k' o' h h' hne g hg=>?_) (by omega) (fun i hi=>?_)) ?_
 ·obtain⟨⟨o',h'⟩,_⟩:=hO' _ _ (E9 (f:=C.ren) h);obtain⟨_,q2,q3⟩:=S.oat _ _ h' g hg;exact⟨q2,q3⟩
 ·obtain⟨⟨o1,h1⟩,_⟩:=hO' _ _ (E9 (f:=C.ren) h);obtain⟨⟨o2,h2⟩,_⟩:=hO' _ _ (E9 (f:=C.ren) h');exact S.inj _ _ _ _ h1 h2 (inj k o k' o' h h' hne) g hg
 ·have:=l2 i hi;rw[Hq _ _ _ hi]at this;exact J1 _ _ (GM this (hv2 i (by omega)))
 rintro e w' ⟨u,v,env',M',hp,rfl,hs,hM,hM',hMl,hpin,hg,hmg,hinj,ho,hon,hr⟩;have hK:=hpost u hp;split at hK;rotate_left
 ·exact hK.elim
 rename_i hfree;obtain⟨hmvo,hfree⟩:=AeO.1 hfree;refine⟨v,rfl,hN _ _ _ hK ?_⟩
 -- the lent ones,by their names
 have lk:∀k,k∈mk.lkeys->∃o,(k,o)∈mk.lent t:=fun k hm=>by
  rw[<- hk t]at hm;obtain⟨⟨k2,o2⟩,h2,e2⟩:=Ado.1 hm;cases e2;exact⟨o2,h2⟩
 have lkS:∀k,k∈mk.lkeys->∃o,(C.ren k,o)∈st.own:=fun k hm=>by
  obtain⟨o,h2⟩:=lk k hm;exact(hO' _ _ (E9 h2)).1
 obtain⟨S0,hnt0,lk0,F⟩:=jR S (fun k hm=>by
  obtain⟨q,hq,rfl⟩:=Ado.1 hm;exact lkS q hq) hmvo
 have hd0:∀t,dst=some t->t<(st.mvd C.ren mk.mv).nt:=fun t h=>by rw[hnt0];exact hd t h
 rw[<- hnt0]at F;generalize st.mvd C.ren mk.mv=Ar at *;have ndm:((Ci mk.mv).map C.ren).Nodup:=by cases mk.mv<;>simp[Ci]
 have injL:∀q k,q∈mk.lkeys->k∈mk.lkeys->C.ren q=C.ren k->q=k:=fun q k hq hk2 e=>by
  obtain⟨o1,h1⟩:=lk q hq;obtain⟨o2,h2⟩:=lk k hk2;exact Decidable.byContradiction fun hne=>inj q o1 k o2 h1 h2 hne e
 have hlat:Bg M' M' w' w':=⟨Adp _,fun _ _=>rfl,fun _ h=>h⟩;have hnm:∀k,k∈Ci mk.mv->((env.adopt env' C.ren (Ci mk.mv)).at_ (C.ren k)=env'.at_ k):=fun k hm=>(My ndm hm).1;have hag1:∀k,k∈mk.lkeys->((env.adopt env' C.ren (Ci mk.mv)).via C.ren).at_ k=env'.at_ k/\((env.adopt env' C.ren (Ci mk.mv)).via C.ren).rv k=env'.rv k:=fun k hm=>by
  by_cases hmm:k∈Ci mk.mv
  ·exact My ndm hmm
  ·have hno : C.ren k ∉ (Ci mk.mv).map C.ren :=fun hc =>by
    obtain⟨q,hq,e⟩:=Ado.1 hc;exact hmm (injL q k (hmvl q hq) hm e ▸ hq)
   obtain⟨p1,p2⟩:=hpin k hm hmm;obtain⟨q1,q2⟩:=KX (env:=env) (env':=env') hno;exact⟨q1.trans p1.symm,q2.trans p2.symm⟩
 have hl:∀b,E8 (env.via C.ren) (mk.lent t) b->E8 env (Cf C.ren (mk.lent t)) b:=fun b ⟨k,o,h,hg⟩=>⟨_,_,E9 h,hg⟩;have S1:=S0.lentV hG (L:=Cf C.ren (mk.lent t)) (L':=Cf C.ren (mk.lent' t u)) (env1:=env.adopt env' C.ren (Ci mk.mv)) (mvs:=fun j=>j∈(Ci mk.mv).map C.ren) (M':=M') (w':=w')
  (fun k o h=>by
   obtain⟨k',o',h',rfl,rfl⟩:=GN h;exact lk0 _ (Ado.2 ⟨k',by rw[<- hk t];exact Ado.2 ⟨_,h',rfl⟩,rfl⟩))
  (by rw[HN,HN,hk,hk']) ⟨hs.os,hs.tape,hs.output,hs.drawn,hs.size,fun b hb hn=>hs.block b hb (fun e=>hn (hl b e))⟩ hM
  (fun b hb=>by
   rcases hM' b hb with h|⟨h,h2⟩|⟨k,h,h2,h3⟩
   ·exact .inl h
   ·refine .inr (.inl ⟨h,fun j hj=>?_⟩);obtain⟨k,hk2,rfl⟩:=Ado.1 hj;rw[hnm k hk2];exact h2 k (List.mem_append_right _ hk2)
   ·exact .inr (.inr ⟨C.ren k,Ado.2 ⟨k,h,rfl⟩,h2,by rw[hnm k h];exact h3⟩)) hMl
  (fun j hj=>KX hj) rfl (fun i j hi hj=>by
   obtain⟨p,hp,rfl⟩:=Ado.1 hi;obtain⟨q,hq,rfl⟩:=Ado.1 hj;rw[RW hp hq])
  (fun j hj=>by
   obtain⟨k,hk2,rfl⟩:=Ado.1 hj;obtain⟨o,h2⟩:=lk k (hmvl k hk2);exact⟨(F k hk2).1,_,E9 h2⟩)
  (fun j hj g hg'=>by
   obtain⟨k,hk2,rfl⟩:=Ado.1 hj;rw[hnm k hk2]at hg';exact hmg k hk2 g hg')
  (fun j hj=>by
   obtain⟨k,hk2,rfl⟩:=Ado.1 hj;exact(F k hk2).2.1)
  (fun j hj k' o h _=>by
   obtain⟨k,hk2,rfl⟩:=Ado.1 hj;exact(F k hk2).2.2 k' o h)
  (fun k o h=>by
   obtain⟨k',o',h',rfl,rfl⟩:=GN h;have hkk:k'∈mk.lkeys:=by rw[<- hk' t u];exact Ado.2 ⟨_,h',rfl⟩
   have hw:=Ad0.1 (hin t u).1 _ h';obtain⟨p1,p2⟩:=hag1 k' hkk;exact J2 ((ho k' o' h').move hlat p1 p2 (fun _ _=>rfl) (fun j hj=>hag1 j (O3 hw j hj))))
 generalize henv1:env.adopt env' C.ren (Ci mk.mv)=env1 at *;have hkeys:Bh (Cf C.ren (mk.own t u))=mk.keys.map C.ren:=by rw[HN,hkn]
 have fr2:∀k,k∈mk.keys.map C.ren->({ Ar with own:=Fa Ar.own (Cf C.ren (mk.lent' t u)) }:St).noName k=true/\(∀s e,(s,e)∈Ar.T->e.v.names k=false)/\k<Ar.nt:=fun k hm=>by
  have:=Ad0.1 hfree k hm;unfold Jv at this;simp only[pR,decide_eq_true_eq]at this;refine⟨this.1.1,fun s e he=>?_,this.2⟩;have:=Ad0.1 this.1.2 _ he;simpa using this
 have hnew:∀k,k∈mk.keys->((env1.adopt env' C.ren mk.keys).via C.ren).at_ k=env'.at_ k/\((env1.adopt env' C.ren mk.keys).via C.ren).rv k=env'.rv k:=fun k hm=>My hnd hm;have hag:∀k,k∈mk.lkeys++mk.keys->((env1.adopt env' C.ren mk.keys).via C.ren).at_ k=env'.at_ k/\((env1.adopt env' C.ren mk.keys).via C.ren).rv k=env'.rv k:=fun k hm=>by
  rcases Ad4.1 hm with hm|hm
  ·have hno : C.ren k ∉ mk.keys.map C.ren :=fun hc =>by
    obtain⟨o,h6⟩:=lk0 _ (Ado.2 ⟨k,hm,rfl⟩);have h7:C.ren k∈(Fa Ar.own (Cf C.ren (mk.lent' t u))).map (·.1):=by
     rw[Mu];exact Ado.2 ⟨_,h6,rfl⟩
    obtain⟨⟨k8,o8⟩,h8,e8⟩:=Ado.1 h7;exact(Ho (fr2 _ hc).1 h8).1 e8
   obtain⟨p1,p2⟩:=hag1 k hm;obtain⟨q1,q2⟩:=KX (env:=env1) (env':=env') hno;exact⟨q1.trans p1,q2.trans p2⟩
  ·exact hnew k hm
 have hownE:∀k o,(k,o)∈mk.own t u->B3 P M' w' ((env1.adopt env' C.ren mk.keys).via C.ren) k o:=fun k o hm=>by
  have hkk:k∈mk.keys:=by rw[<- hkn t u];exact Ado.2 ⟨_,hm,rfl⟩
  have hw:=Ad0.1 (hin t u).2.1 _ hm;obtain⟨p1,p2⟩:=hnew k hkk;exact(hon k o hm).move hlat p1 p2 (fun _ _=>rfl) (fun j hj=>hag j (O3 hw j hj))
 have inv:∀j,j∈Bh (Cf C.ren (mk.own t u))->∃k,k∈mk.keys/\C.ren k=j/\(env1.adopt env' C.ren mk.keys).at_ j=env'.at_ k:=fun j hj=>by
  rw[hkeys]at hj;obtain⟨k,hm,rfl⟩:=Ado.1 hj;exact⟨k,hm,rfl,(My hnd hm).1⟩
 obtain⟨n0,hlo,hdl,hg0⟩:∃n0,(∀k o,(k,o)∈Fa Ar.own (Cf C.ren (mk.lent' t u))->∀g,env1.at_ k=some g->g<n0)/\(∀d,d∈a.defers->∀D,d = { target:=.collected D,args:=#[] }->D<n0)/\∀k,k∈mk.keys->∀g,env'.at_ k=some g->n0<=g:=by
  have hdl:∀d,d∈a.defers->∀D,d = { target:=.collected D,args:=#[] }->D<w.heap.size:=fun d hd D e=>by
   obtain⟨D',e',_,h2,_⟩:=S0.dfr d hd;rw[e']at e;cases e;exact S0.xlt _ h2
  rcases hmv with hmv|hkz
  ·refine⟨w.heap.size,fun k o h g hg'=>?_,hdl,fun k hm g hg'=>(hg k hm g hg').1⟩;obtain⟨⟨o',h'⟩,_⟩:=FY _ _ h;rw[<- henv1,hmv,(KX (keys:=Ci none) (by simp[Ci])).1]at hg';exact(S0.oat k o' h' g hg').2.2
  ·exact⟨w'.heap.size,fun k o h g hg'=>(S1.oat k o h g hg').2.2,fun d hd D e=>Adt (hdl d hd D e) hs.size,fun k hm=>by rw[hkz]at hm;cases hm⟩
 have S2:=S1.newOwnsAt (L:=Cf C.ren (mk.own t u)) (by rw[hkeys];exact hnd) (fun k hm=>(fr2 k (hkeys ▸ hm)).2.2) (fun k hm=>(fr2 k (hkeys ▸ hm)).1) (fun k hm=>(fr2 k (hkeys ▸ hm)).2.1) (env':=env1.adopt env' C.ren mk.keys)
  (fun j hj=>KX (by rw[<- hkeys];exact hj)) rfl (n0:=n0) hlo hdl
  (fun k hm g hg'=>by
   obtain⟨q,q1,rfl,q3⟩:=inv k hm;rw[q3]at hg';obtain⟨r1,r2⟩:=hg q q1 g hg';refine⟨hg0 q q1 g hg',.inr ⟨r1,r2⟩,fun hm'=>?_,r2⟩;rcases hM' g hm' with h|h|⟨k,h,h2,h3⟩
   ·have:=S.mlt g h;omega
   ·exact h.2 q (List.mem_append_left _ q1) hg'
   ·rcases hmv with hmv|hkz
    ·rw[hmv]at h;cases h
    ·rw[hkz]at q1;cases q1)
  (fun k1 k2 h1 h2 hne g hg'=>by
   obtain⟨q1,a1,rfl,a3⟩:=inv k1 h1;obtain⟨q2,b1,rfl,b3⟩:=inv k2 h2;rw[a3]at hg';rw[b3];exact hinj q1 q2 a1 b1 (fun e=>hne (by rw[e])) g hg')
  (fun k o hm=>by
   obtain⟨k',o',h',rfl,rfl⟩:=GN hm;exact J2 (hownE k' o' h'))
 exact⟨_,M',_,S2.put0 hd0 (Mt (hr.turn hlat hag (hin t u).2.2))⟩
section
variable {M:Nat->Prop} {w:World} {G:Bn} {st:St} {a:Act} {env:As} {X:Nat->Prop}
theorem O4 (k:Nat) (o:Al):∀(l:List EV) (i:Nat),i<l.length->EV.at (EV.frz.frzL k o l) i=(EV.at l i).frz k o
 |[],i,hi=>by simp at hi
 |e::l,0,_=>rfl
 |e::l,i+1,hi=>O4 k o l i (by simpa using hi)
theorem J5 (k:Nat) (o:Al):∀(l:List EV),(EV.frz.frzL k o l).length=l.length
 |[]=>rfl
 |e::l=>by simp[EV.frz.frzL,J5 k o l]
theorem RY (S:Ak P G st a w env M X) {k:Nat} {o:Al} (hk:(k,o)∈st.own) (hf:Rv o=true) {M':Nat->Prop} (hM:∀b,M b->M' b) (hg:∀g,env.at_ k=some g->M' g)
  {e:EV} {v:Value} (h:Am P M w env e v):Am P M' w env (e.frz k o) v:=by
 have hl:Bg M M' w w:=⟨Adp _,fun _ _=>rfl,hM⟩
 induction h with
 |p h=>exact .p (h.weak hM)
 |@loc b off g h =>
   unfold EV.frz;split
   ·rename_i hb;have hb:b=k:=by simpa using hb
    subst hb;cases o with
    |blk t cs =>
      simp only;split
      ·rename_i ss hss;obtain⟨g',vs,hg',hh,hz,hd⟩:=S.own _ _ hk;rw[h]at hg';cases hg';have:=Hj hss;subst this;simp only[AdW]at hz hd;have hp:=Av.ref (M:=M') (w:=w) ss off (fun j=>vs.getD j undef) ⟨g,0,none⟩ (hg g h) (fun j hj=>by rw[CB,AdE];exact E4 hh (by omega)) (fun j hj=>(hd j hj).1) (fun j hj=>by
        have:=(hd j hj).2;rw[FT _ _ hj]at this;rcases this with ⟨this⟩;exact this.weak hM)
       rw[CB,AdE]at hp;exact .p hp
      ·exact .any
    |_=>exact .any
   ·exact .loc h
 |@mapv r g h =>
   unfold EV.frz;split
   ·exact .any
   ·exact .mapv h
 |@row r A n c h =>
   unfold EV.frz;split
   ·rename_i hb;have hb:r=k:=by simpa using hb
    subst hb;cases o with
    |row e sz n' get =>
      have:=Mp S hk hM hg;rw[h]at this;exact .p this
    |_=>exact .any
   ·exact .row h
 |@rsub r sz lo n A cap hc hm hA =>
   unfold EV.frz;split
   ·exact .any
   ·exact .rsub A cap hc hm hA
 |@rpre r n N cap g h hn =>
   unfold EV.frz;split
   ·exact .any
   ·exact .rpre h hn
 |@fptr bs i v hi h=>exact .fptr hi h
 |@rptr r sz i off g h =>
   unfold EV.frz;split
   ·exact .any
   ·exact .rptr h
 |cl f cs vs hlen _ ih =>
   have hc:∀i,i<(EV.frz.frzL k o cs).length->Am P M' w env (EV.at (EV.frz.frzL k o cs) i) (vs.getD i undef):=fun i hi=>by
    rw[J5]at hi;rw[O4 _ _ _ _ hi];exact ih i hi
   unfold EV.frz;split
   ·rename_i ss hss;have:=I2 hss (by rw[J5];exact hlen) hc;exact .p (.clo f ss _ this.1 this.2)
   ·exact .cl f _ _ (by rw[J5];exact hlen) hc
 |ag q cs vs hlen _ ih =>
   unfold EV.frz;exact .ag q _ _ (by rw[J5];exact hlen) (fun i hi=>by
    rw[J5]at hi;rw[O4 _ _ _ _ hi];exact ih i hi)
 |fn h=>exact .fn (h.later hl)
 |yield=>exact .yield
 |any=>exact .any
 |full h hq=>exact .full (h.later hl) hq
theorem Ak.frz (S:Ak P G st a w env M X) (k:Nat):∃M',Ak P G (st.frz k) a w env M' X:=by
 unfold St.frz;split
 ·rename_i o hl;split
  ·rename_i hf;have hk:=Bq hl;have hM:∀b,M b->M b\/env.at_ k=some b:=fun b h=>.inl h;have hg:∀g,env.at_ k=some g->M g\/env.at_ k=some g:=fun g h=>.inr h;have hmem:∀{k' o'},(k',o')∈((st.own.filter fun x=>!(x.1 == k)).map fun x=>(x.1,Al.frz k o x.2))->∃o'',(k',o'')∈st.own/\k'≠k/\o'=Al.frz k o o'':=by
    intro k' o' h;obtain⟨⟨k2,o2⟩,hm,he⟩:=Ado.1 h;obtain⟨h1,h2⟩:=Adn.1 hm;cases he;exact⟨o2,h1,by simpa using h2,rfl⟩
   have hl':Bg M (fun b=>M b\/env.at_ k=some b) w w:=⟨Adp _,fun _ _=>rfl,hM⟩;refine⟨fun b=>M b\/env.at_ k=some b,S.gam,fun b hb=>by rcases hb with hb|hb;exact S.mx b hb;exact .inr (S.oat _ _ hk b hb).1,?_,?_,?_,?_,?_,S.xlt,S.siz,?_,?_,?_,S.dno⟩
   ·intro k' o' h;obtain⟨o'',ho,hne,rfl⟩:=hmem h;have h1:=S.own _ _ ho;have hmv:=h1.move hl' rfl rfl (fun _ _=>rfl) (fun _ _=>⟨rfl,rfl⟩);have hblk:∀{t cs},El P M w env k' t cs->El P (fun b=>M b\/env.at_ k=some b) w env k' t (cs.map (EV.frz k o)):=fun {t cs} ⟨g,vs,ha,hh,hz,hd⟩=>by
     refine⟨g,vs,ha,hh,by simpa using hz,fun i hi=>?_⟩;simp only[AdW]at hi;refine⟨(hd i hi).1,?_⟩;have:EV.at (cs.map (EV.frz k o)) i=(EV.at cs i).frz k o:=by simp[EV.at,AS,hi]
     rw[this];exact RY S hk hf hM hg (hd i hi).2
    cases o'' with
    |blk t cs=>exact hblk h1
    |oblk b t cs=>exact⟨fun e=>hblk (h1.1 e),h1.2⟩
    |_=>exact hmv
   ·intro k' o' h g hg';obtain⟨o'',ho,hne,rfl⟩:=hmem h;obtain⟨h1,h2,h3⟩:=S.oat _ _ ho g hg';refine⟨h1,fun hm=>?_,h3⟩;rcases hm with hm|hm
    ·exact h2 hm
    ·exact S.inj _ _ _ _ ho hk hne g hg' hm
   ·intro k1 o1 k2 o2 h1 h2;obtain⟨_,e1,_⟩:=hmem h1;obtain⟨_,e2,_⟩:=hmem h2;exact S.inj _ _ _ _ e1 e2
   ·have : ((st.own.filter fun x => !(x.1 == k)).map fun x =>(x.1, Al.frz k o x.2)).map (·.1)= (st.own.filter fun x => !(x.1 == k)).map (·.1):=by
     rw[List.map_map];rfl
    simp only[this];exact S.nod.sublist (List.Sublist.map _ List.filter_sublist)
   ·intro b hb;rcases hb with hb|hb
    ·exact S.mlt b hb
    ·exact(S.oat _ _ hk b hb).2.2
   ·intro s e h;obtain⟨⟨s',e'⟩,hm,he⟩:=Ado.1 h;cases he;obtain⟨h1,h2,h3⟩:=S.tmp _ _ hm;exact⟨h1,fun ho=>RY S hk hf hM hg (h2 ho),h3⟩
   ·intro s e h q c v hq;obtain⟨⟨s',e'⟩,hm,he⟩:=Ado.1 h;cases he;exact S.grd _ _ hm q c v hq
   ·intro d hd;obtain⟨D,e,h1,h2,h3,h4⟩:=S.dfr d hd;refine⟨D,e,h1,h2,fun hm=>?_,fun k' o' h=>?_⟩
    ·rcases hm with hm|hm
     ·exact h3 hm
     ·exact h4 _ _ hk hm
    ·obtain⟨_,e1,_⟩:=hmem h;exact h4 _ _ e1
  ·exact⟨M,S⟩
 ·exact⟨M,S⟩
theorem AI.frzs {st:St} {a:Act} {w:World} (h:AI P G st a w):∀ks,AI P G (st.frzs ks) a w:=fun ks=>by
 induction ks generalizing st with
 |nil=>exact h
 |cons k ks ih =>
   obtain⟨env,M,X,S⟩:=h;obtain⟨M',S'⟩:=S.frz k;exact ih ⟨_,_,_,S'⟩
theorem jS (S:Ak P G st a w env M X) (e:EV):∃M',Ak P G (KG st e) a w env M' X:=by
 cases e with
 |row r=>exact S.frz r
 |_=>exact⟨M,S⟩
end
def As.rek (env:As) (a b:Nat):As:={ at_:=fun k=>if k=b then env.at_ a else env.at_ k,rv:=fun k=>if k=b then env.rv a else env.rv k,yl:=env.yl }
theorem IF {env:As} {a b k:Nat} (h:k≠b):((env.rek a b).via (EK a b)).at_ k=env.at_ k/\((env.rek a b).via (EK a b)).rv k=env.rv k:=by
 show(if EK a b k=b then env.at_ a else env.at_ (EK a b k))=env.at_ k/\(if EK a b k=b then env.rv a else env.rv (EK a b k))=env.rv k;unfold EK
 by_cases e:k=a
 ·rw[if_pos e,if_pos rfl,if_pos rfl,e];exact⟨rfl,rfl⟩
 ·rw[if_neg e,if_neg h,if_neg h];exact⟨rfl,rfl⟩
section
variable {M:Nat->Prop} {w:World} {G:Bn} {st:St} {a:Act} {env:As} {X:Nat->Prop}
theorem Ak.rekey (S:Ak P G st a w env M X) (p q:Nat):∃env',Ak P G (st.rekey p q) a w env' M X:=by
 unfold St.rekey;split;rotate_left
 ·exact⟨env,S⟩
 rename_i hf;unfold Jv at hf;simp only[pR,decide_eq_true_eq]at hf;obtain⟨⟨hn,hT⟩,hq⟩:=hf;have hT:∀x,x∈st.T->x.2.v.names q=false:=fun x hx=>by simpa using Ad0.1 hT x hx
 have den:∀{e:EV} {v:Value},e.names q=false->Am P M w env e v->Am P M w (env.rek p q) (e.ren (EK p q)) v:=fun {e v} hne h =>
  Mt (h.mono (Bg.refl M w) (fun k hk=>IF (fun e'=>by rw[e',hne]at hk;cases hk)) rfl)
 have okey:∀{k o},(k,o)∈st.own->k≠q/\o.names q=false:=fun {k o} h=>Ho hn h;refine⟨env.rek p q,⟨⟨S.gam.1,fun j hj=>?_⟩,S.mx,fun k o h=>?_,fun k o h g hg=>?_,fun k1 o1 k2 o2 h1 h2 hne g hg=>?_,?_,S.mlt,S.xlt,S.siz,fun s e h=>?_,fun s e h=>?_,fun d hd=>?_,S.dno⟩⟩
 ·obtain⟨h1,h2,h3⟩:=S.gam.2 j hj;have:j≠q:=by omega
  refine⟨h1,?_,?_⟩
  ·show(if j=q then env.at_ p else env.at_ j)=_;rw[if_neg this];exact h2
  ·show(if j=q then env.rv p else env.rv j)=_;rw[if_neg this];exact h3
 ·obtain⟨k',o',h',rfl,rfl⟩:=GN h;obtain⟨hk,ho⟩:=okey h';refine J2 ?_;have h1:=S.own k' o' h';obtain⟨p1,p2⟩:=IF (env:=env) (a:=p) hk;exact h1.move (Bg.refl M w) p1 p2 (fun _ _=>rfl) (fun j hj=>IF (fun e=>by rw[e,ho]at hj;cases hj))
 ·obtain⟨k',o',h',rfl,rfl⟩:=GN h;have hg:((env.rek p q).via (EK p q)).at_ k'=some g:=hg;rw[(IF (okey h').1).1]at hg;exact S.oat k' o' h' g hg
 ·obtain⟨k1',o1',h1',rfl,rfl⟩:=GN h1;obtain⟨k2',o2',h2',rfl,rfl⟩:=GN h2;have hg:((env.rek p q).via (EK p q)).at_ k1'=some g:=hg;rw[(IF (okey h1').1).1]at hg;show((env.rek p q).via (EK p q)).at_ k2'≠some g;rw[(IF (okey h2').1).1];exact S.inj k1' o1' k2' o2' h1' h2' (fun e=>hne (by rw[e])) g hg
 ·show(Bh (Cf (EK p q) st.own)).Nodup;rw[HN];refine Aek.2 ((Aek.1 S.nod |> fun h=>Aek.2 h).imp_of_mem ?_);intro x y hx hy hne e;obtain⟨⟨k1,o1⟩,m1,rfl⟩:=Ado.1 hx;obtain⟨⟨k2,o2⟩,m2,rfl⟩:=Ado.1 hy;have q1:=(okey m1).1;have q2:=(okey m2).1;simp only at hne e q1 q2;unfold EK at e;split at e<;>split at e<;>omega
 ·obtain⟨x,hx,he⟩:=Ado.1 h;obtain⟨s',e'⟩:=x;simp only[Prod.mk.injEq]at he;obtain⟨rfl,rfl⟩:=he;obtain⟨h1,h2,h3⟩:=S.tmp s' e' hx;exact⟨h1,fun ho=>den (hT _ hx) (h2 ho),h3⟩
 ·obtain⟨x,hx,he⟩:=Ado.1 h;obtain⟨s',e'⟩:=x;simp only[Prod.mk.injEq]at he;obtain⟨rfl,rfl⟩:=he;exact S.grd s' e' hx
 ·obtain⟨D,e,h1,h2,h3,h4⟩:=S.dfr d hd;refine⟨D,e,h1,h2,h3,fun k o h hc=>?_⟩;obtain⟨k',o',h',rfl,rfl⟩:=GN h;have hc:((env.rek p q).via (EK p q)).at_ k'=some D:=hc;rw[(IF (okey h').1).1]at hc;exact h4 k' o' h' hc
theorem AI.rekeys {st:St} {a:Act} {w:World} (h:AI P G st a w):∀l,AI P G (st.rekeys l) a w:=fun l=>by
 induction l generalizing st with
 |nil=>exact h
 |cons x l ih =>
   obtain⟨env,M,X,S⟩:=h;obtain⟨env',S'⟩:=S.rekey x.1 x.2;exact ih ⟨_,_,_,S'⟩
end
end
section
variable {P:Program} {M:Nat->Prop} {w:World} {G:Bn} {st:St} {a:Act} {env:As} {X:Nat->Prop}
theorem GO {k:Nat} {o:Al}:∀{l:List (Nat×Al)},(l.map (·.1)).Nodup->(k,o)∈l->BC l k=some o
 |[],_,h=>by cases h
 |(k',o')::l,hn,h=>by
   simp only[Aea,Ael]at hn;simp only[BC];rcases Adq.1 h with h|h
   ·cases h;simp
   ·have:k'≠k:=fun e=>hn.1 (by rw[e];exact Ado.2 ⟨(k,o),h,rfl⟩);rw[if_neg (by simpa using this)];exact GO hn.2 h
theorem O5 {l:List (Nat×Al)} {k:Nat} {o o0:Al} (h:(k,o0)∈l):(k,o)∈Cd l k o:=Ado.2 ⟨(k,o0),h,by simp⟩
theorem KY:∀{cs:List EV} {b:Nat} {hs:List SV},FU cs=some (b,hs)->cs=hs.map .p ++ [.mapv b]
 |[.mapv b'],b,hs,h=>by simp[FU]at h;obtain⟨rfl,rfl⟩:=h;rfl
 | .p s::l,b,hs,h=>by
   simp only[FU,Option.map_eq_some_iff]at h;obtain⟨⟨b',hs'⟩,h1,h2⟩:=h;simp only[Prod.mk.injEq]at h2;obtain⟨rfl,rfl⟩:=h2;rw[KY h1];rfl
 |[],_,_,h=>by simp[FU]at h
 | .mapv _::_::_,_,_,h=>by simp[FU]at h
 | .loc _ _::_,_,_,h | .row _::_,_,_,h | .rsub .. :: _,_,_,h | .rptr .. :: _,_,_,h | .rpre .. :: _,_,_,h | .fptr .. :: _,_,_,h | .cl .. :: _,_,_,h | .ag .. :: _,_,_,h | .fn _::_,_,_,h | .yield _::_,_,_,h | .any::_,_,_,h | .full .. :: _,_,_,h=>by simp[FU]at h
theorem RZ:∀{ps:List Prop},Oq ps->all ps
 |[],_=>K2
 |[p],h=>fun q hq=>by rw[Ad2.1 hq];exact h
 |p::q::ps,h=>fun r hr=>by
   rcases Adq.1 hr with rfl|hr
   ·exact h.1
   ·exact RZ h.2 r hr
theorem Sa:∀{l m:List SV},all (KJ l m)->l.length=m.length/\∀i,i<m.length->∀{M:Nat->Prop} {w:World} {v:Value},Av M w (SV.at l i) v->Av M w (SV.at m i) v
 |[],[],_=>⟨rfl,fun i hi=>absurd hi (oE _)⟩
 |s::l,t::m,h=>by
   simp only[KJ]at h;obtain⟨h1,h2⟩:=all_append h;obtain⟨h3,h4⟩:=Sa h2;refine⟨by simp[h3],fun i hi=>?_⟩;cases i with
   |zero=>exact fun hd=>KV h1 hd
   |succ i=>exact h4 i (by simpa using hi)
 |[],_::_,h=>(Ay h).elim
 |_::_,[],h=>(Ay h).elim
theorem O6 {own:List (Nat×Al)}:∀{bs:List Nat} {fs:List Fb},I8 own bs=some fs->bs.length=2*fs.length/\∀j f,fs[j]? = some f->bs.getD (2*j) 0=f.a/\bs.getD (2*j+1) 0=f.b/\(f.a,Al.oblk f.x f.t f.cs)∈own/\(f.b,Al.omq f.y f.kt f.vt f.val)∈own
 |[],fs,h=>by simp[I8]at h;subst h;exact⟨rfl,fun j f hj=>by simp at hj⟩
 |[_],_,h=>by simp[I8]at h
 |p::q::l,fs,h=>by
   simp only[I8]at h;split at h
   ·rename_i x t cs y kt vt val fs' h1 h2 h3;cases h;obtain⟨e1,e2⟩:=O6 h3;refine⟨by simp[e1];omega,fun j f hj=>?_⟩;cases j with
    |zero =>
      simp at hj;subst hj;exact⟨rfl,rfl,Bq h1,Bq h2⟩
    |succ j =>
      obtain⟨g1,g2,g3⟩:=e2 j f (by simpa using hj);refine⟨?_,?_,g3⟩
      ·rw[show 2*(j+1)=2*j+1+1 by omega];simpa using g1
      ·rw[show 2*(j+1)+1=2*j+1+1+1 by omega];simpa using g2
   ·cases h
theorem O7 {M M':Nat->Prop} {w w':World} {env env':As} {k k' b b':Nat} {t:TypeId} {hs hs':List SV} (h:El P M w env k t (hs.map .p ++ [.mapv b])) (hl:Bg M M' w w') (hk:env'.at_ k'=env.at_ k) (hb:env'.at_ b'=env.at_ b)
  (hh:∀g,env.at_ k=some g->w'.heap[g]? = w.heap[g]?) (hs1:hs.length=hs'.length) (hs2:∀i,i<hs'.length->∀{v:Value},Av M w (SV.at hs i) v->Av M w (SV.at hs' i) v):El P M' w' env' k' t (hs'.map .p ++ [.mapv b']):=by
 obtain⟨g,vs,h1,h2,h3,h4⟩:=h;simp only[AdL,AdW,List.length_singleton]at h3 h4;refine⟨g,vs,hk.trans h1,(hh g h1).trans h2,by simp;omega,fun i hi=>?_⟩;simp only[AdL,AdW,List.length_singleton]at hi;obtain⟨e1,e2⟩:=h4 i (by omega);refine⟨e1,?_⟩
 by_cases hlt:i<hs'.length
 ·have q1:EV.at (hs.map .p ++ [.mapv b]) i=.p (SV.at hs i):=by simp[EV.at,SV.at,AS,Ad7,show i<hs.length by omega]
  have q2:EV.at (hs'.map .p ++ [.mapv b']) i=.p (SV.at hs' i):=by simp[EV.at,SV.at,AS,Ad7,hlt]
  rw[q1]at e2;rw[q2];rcases e2 with ⟨e2⟩;exact .p ((hs2 i hlt e2).later hl)
 ·have q1 : EV.at (hs.map .p ++ [.mapv b]) i = .mapv b :=by
   simp only[EV.at,AS];rw[Ad8 (by simp;omega)];simp[show i-hs.length=0 by omega]
  have q2:EV.at (hs'.map .p ++ [.mapv b']) i=.mapv b':=by
   simp only[EV.at,AS];rw[Ad8 (by simp;omega)];simp[show i-hs'.length=0 by omega]
  rw[q1]at e2;rw[q2];generalize vs.getD i undef=v at e2;cases e2 with
  |mapv e2=>exact .mapv (hb.trans e2)
theorem O8 {M M':Nat->Prop} {w w':World} {env env':As} {k k':Nat} {dom:Int->Bool} {val val':Int->SV} (h:FL M w env k dom val) (hl:Bg M M' w w') (hk:env'.at_ k'=env.at_ k)
  (hh:∀g,env.at_ k=some g->w'.heap[g]? = w.heap[g]?) (hv:∀x,dom x=true->val x=val' x):FL M' w' env' k' dom val':=by
 obtain⟨g,es,clock,h1,h2,h3,h4⟩:=h;exact⟨g,es,clock,hk.trans h1,(hh g h1).trans h2,h3,fun i hi=>by
  obtain⟨key,q1,q2,q3⟩:=h4 i hi;exact⟨key,q1,q2,by rw[<- hv key q2];exact q3.later hl⟩⟩
theorem Sb {c:Fp} {t:c.T} {i:Nat}:∀{fs:List Fb} {j:Nat},all (Me c t i j fs)->∀k f,fs[k]? = some f->∃hs,FU f.cs=some (f.b,hs)/\f.t=c.t/\f.kt=c.kt/\f.vt=c.vt/\(i=j+k->f.x=true/\f.y=true/\hs=c.head t/\∀x,f.val x=c.val t x)
 |[],_,_,_,_,h=>by simp at h
 |f0::l,j,h,k,f,hk=>by
   simp only[Me]at h;obtain⟨h1,h2⟩:=all_append h;cases k with
   |zero =>
     simp at hk;subst hk;split at h1
     ·rename_i b' hs hlm;split at h1
      ·rename_i hc;simp only[pR,beq_iff_eq]at hc;obtain⟨⟨⟨rfl,c1⟩,c2⟩,c3⟩:=hc;exact⟨hs,hlm,c1,c2,c3,Ay h1⟩
      ·exact(Ay h1).elim
     ·exact(Ay h1).elim
   |succ k =>
     obtain⟨hs,e1,e2,e3,e4,e5⟩:=Sb h2 k f (by simpa using hk);exact⟨hs,e1,e2,e3,e4,fun e=>e5 (by omega)⟩
theorem jT (hG:Bp G) (S:Ak P G st a w env M X) {gd:Option (Nat×Bool×Bool)} (hgd:Eo a gd) (hh:Co gd) {dst:Option Nat} (hd:∀t,dst=some t->t<st.nt) (hq:∀q c x,gd=some (q,c,x)->dst≠some q)
  {bs:List Nat} {i:Nat} {as:List EV} {c:Fp} {g:Nat} (hT:IC P g c) {K:St->Prop} (h:KK st gd dst bs i as c K) {v0:Value} (hv0:Am P M w env (.fptr bs i) v0) {vals:List Value} (hl:vals.length=as.length) (hv:∀j,j<as.length->Am P M w env (EV.at as j) (vals.getD j undef))
  {N:Act->World->Prop} (hN:∀st' a' w',K st'->AI P G st' a' w'->N a' w'):CallsIn Fence.wide 0 P g (v0::vals).toArray w (fun e w'=>∃v,e=.returned v/\N (a.put dst v) w'):=by
 unfold KK at h;split at h;rotate_left
 ·exact h.elim
 rename_i fs hfs;obtain⟨t,h⟩:=h;obtain⟨h1,hK⟩:=B0 h;obtain⟨h1,hpre⟩:=all_append (F6 h1 hh);obtain⟨h1,hA⟩:=all_append h1;obtain⟨h1,hF⟩:=all_append h1;have hi:i<fs.length:=Ay h1;have hpre:c.pre t:=Ay hpre;obtain⟨e1,e2⟩:=O6 hfs;obtain⟨f,hf⟩:∃f,fs[i]? = some f:=⟨fs[i],rH hi⟩;obtain⟨ba,bb,ma,mb⟩:=e2 i f hf;obtain⟨hs,hlm,ht,hkt,hvt,hcc⟩:=Sb hF i f hf;obtain⟨hx,hy,hhs,hval⟩:=hcc (by omega);have oa:=S.own _ _ ma;have ob:=S.own _ _ mb;rw[hx]at oa;rw[hy]at ob;have oa:=oa.1 rfl;obtain⟨dom,ob⟩:=ob.1 rfl;have hcs:=KY hlm;rw[hcs]at oa;have oa0:=oa;have ob0:=ob;obtain⟨ga,va,ha1,ha2,_⟩:=oa0;obtain⟨gb,es,clock,hb1,hb2,_⟩:=ob0;have hab:f.a≠f.b:=fun e=>by
  have h3:=GO S.nod ma;have h4:=GO S.nod mb;rw[e,h4]at h3;cases h3
 have hne:ga≠gb:=fun e=>S.inj _ _ _ _ ma mb hab ga ha1 (e ▸ hb1);obtain⟨xa,na,la⟩:=S.oat _ _ ma ga ha1;obtain⟨xb,nb,lb⟩:=S.oat _ _ mb gb hb1;let envF:As:={ at_:=fun k=>if k=0 then some ga else some gb,rv:=fun _=>undef,yl:=0 };have hlat:Bg M M w w:=Bg.refl M w;have bF:El P M w envF 0 c.t ((c.head t).map .p ++ [.mapv 1]):=by
  rw[<- ht,<- hhs];exact O7 oa hlat (by simp[envF,ha1]) (by simp[envF,hb1]) (fun _ _=>rfl) rfl (fun i _ _ hd=>hd)
 have mF:FL M w envF 1 dom (c.val t):=O8 ob hlat (by simp[envF,hb1]) (fun _ _=>rfl) (fun x _=>hval x);cases hv0 with
 |fptr hi2 hv0 =>
 rw[ba,ha1]at hv0;subst hv0;obtain⟨l1,l2⟩:=ID hA;have hdl:Bm M w (c.args t) vals:=by
  refine⟨by rw[hl,l1];simp,fun j hj=>?_⟩;have:=GM (l2 j (by simpa using hj)) (hv j (by rw[l1];simpa using hj));rw[FT _ _ hj]at this;rcases this with ⟨this⟩;exact this
 refine F8 (hT t hpre M w envF ga gb vals S.mlt (by simp[envF]) (by simp[envF]) hne na nb lb bF ⟨dom,mF⟩ hdl) ?_;rintro e w' ⟨v,M',rfl,hs',hM,hM',hMl,bF',⟨dom',mF'⟩,hr⟩;refine⟨v,rfl,hN _ _ _ hK ?_⟩;have hlat':Bg M' M' w' w':=Bg.refl M' w';have S' :=S.lentX hG (L :=[(f.a, .oblk f.x f.t f.cs), (f.b, .omq f.y f.kt f.vt f.val)]) (L' :=[(f.a, .oblk f.x f.t f.cs), (f.b, .omq f.y f.kt f.vt f.val)]) (w' :=w') (M' :=M') (fun k o h =>by
  simp only[Adq,Ae2,or_false,Prod.mk.injEq]at h;rcases h with ⟨rfl,rfl⟩|⟨rfl,rfl⟩
  ·exact⟨_,ma⟩
  ·exact⟨_,mb⟩) rfl ⟨hs'.os,hs'.tape,hs'.output,hs'.drawn,hs'.size,fun b hb hn=>hs'.block b hb (fun e=>hn (by
  rcases e with rfl|rfl
  ·exact⟨_,_,Adw ..,ha1⟩
  ·exact⟨_,_,Adr _ (Adw ..),hb1⟩))⟩ hM hM' hMl (fun k o h=>by
  simp only[Adq,Ae2,or_false,Prod.mk.injEq]at h;rcases h with ⟨rfl,rfl⟩|⟨rfl,rfl⟩
  ·rw[hx];refine⟨fun _=>?_,fun e=>by cases e⟩;rw[hcs,ht];rw[hhs];exact O7 bF' hlat' (by simp[envF,ha1]) (by simp[envF,hb1]) (fun _ _=>rfl) rfl (fun i _ _ hd=>hd)
  ·rw[hy];exact⟨fun _=>⟨dom',O8 mF' hlat' (by simp[envF,hb1]) (fun _ _=>rfl) (fun x _=>(hval x).symm)⟩,fun e=>by cases e⟩)
 have hown:Fa st.own [(f.a,.oblk f.x f.t f.cs),(f.b,.omq f.y f.kt f.vt f.val)]=st.own:=by
  have up:∀{k:Nat} {o:Al},(k,o)∈st.own->Cd st.own k o=st.own:=fun {k o} hm=>by
   unfold Cd
   conv=>rhs;rw[<- List.map_id st.own]
   apply AeI;rintro⟨k',o'⟩ hm'
   by_cases e:k'=k
   ·subst e;have h3:=GO S.nod hm;rw[GO S.nod hm']at h3;cases h3;simp
   ·simp[e]
  show Cd (Cd st.own f.a _) f.b _=st.own;rw[up ma,up mb]
 rw[hown]at S';exact⟨_,_,_,S'.putG hgd hd hq (fun _=>.p hr) (fun hn=>absurd hh hn)⟩
theorem jU (S:Ak P G st a w env M X) {gd:Option (Nat×Bool×Bool)} (hgd:Eo a gd) (hh:¬ Co gd) {dst:Option Nat} (hd:∀t,dst=some t->t<st.nt) (hq:∀q c x,gd=some (q,c,x)->dst≠some q)
  {bs:List Nat} {i:Nat} {as:List EV} {c:Fp} {K:St->Prop} (h:KK st gd dst bs i as c K):∃st',K st'/\AI P G st' (a.put dst undef) w:=by
 unfold KK at h;split at h
 ·obtain⟨t,h⟩:=h;exact⟨_,(B0 h).2,_,_,_,S.putG hgd hd hq (fun h=>absurd h hh) (fun _=>rfl)⟩
 ·exact h.elim
theorem O9 {F:Jt}:∀{bs:List Nat} {j:Nat} {k:Nat} {o:Al},(k,o)∈GJ F j bs->k∈bs/\∀q,o.names q=true->q∈bs
 |[],_,_,_,h=>by simp[GJ]at h
 |[_],_,_,_,h=>by simp[GJ]at h
 |p::q::l,j,k,o,h=>by
   simp only[GJ,Adq,Prod.mk.injEq]at h;rcases h with ⟨rfl,rfl⟩|⟨rfl,rfl⟩|h
   ·refine⟨Adw ..,fun x hx=>?_⟩;have nl:∀(hs:List SV),EV.names.namesL x (hs.map .p ++ [.mapv q])=(q == x):=fun hs=>by
     induction hs with
     |nil=>simp[EV.names.namesL,EV.names]
     |cons s l ih=>simpa[EV.names.namesL,EV.names]using ih
    have hx:EV.names.namesL x ((F.head j).map .p ++ [.mapv q])=true:=hx;rw[nl]at hx;simp at hx;subst hx;exact Adr _ (Adw ..)
   ·exact⟨Adr _ (Adw ..),fun x hx=>by cases hx⟩
   ·obtain⟨h1,h2⟩:=O9 h;exact⟨Adr _ (Adr _ h1),fun x hx=>Adr _ (Adr _ (h2 x hx))⟩
theorem OA {l:List (Nat×Al)} {k:Nat} (h:st.noName k=true) (hl:∀k' o,(k',o)∈l->k'≠k/\o.names k=false):({ st with own:=l++st.own }:St).noName k=true:=by
 unfold St.noName;rw[List.all_append,pR];refine⟨Ad0.2 fun x hx=>?_,h⟩;obtain⟨h1,h2⟩:=hl x.1 x.2 hx;simp[h1,h2]
theorem Sc (hG:Bp G) {F:Jt}:∀(bs:List Nat) (j:Nat) {env:As} {X:Nat->Prop},Ak P G st a w env M X->bs.Nodup->(∀k,k∈bs->k<st.nt/\st.noName k=true/\∀s e,(s,e)∈st.T->e.v.names k=false) ->
  ∃env' X',Ak P G { st with own:=GJ F j bs++st.own } a w env' M X'/\(∀k,k ∉ bs->env'.at_ k=env.at_ k/\env'.rv k=env.rv k)/\∀i,2*i+1<bs.length->env'.at_ (bs.getD (2*i) 0)=none
 |[],j,env,X,S,_,_=>⟨env,X,S,fun _ _=>⟨rfl,rfl⟩,fun i hi=>by simp at hi⟩
 |[p],j,env,X,S,_,_=>⟨env,X,S,fun _ _=>⟨rfl,rfl⟩,fun i hi=>by simp at hi⟩
 |p::q::l,j,env,X,S,hnd,hk=>by
   rw[Ael,Ael]at hnd;obtain⟨hp,hq,hnd⟩:=hnd;obtain⟨e1,X1,S1,k1,k2⟩:=Sc hG l (j+1) S hnd (fun k hm=>hk k (Adr _ (Adr _ hm)));have hpq:p≠q:=fun e=>hp (e ▸ Adw ..);have hpl:p ∉ l:=fun e=>hp (Adr _ e);obtain⟨a1,a2,a3⟩:=hk q (Adr _ (Adw ..));obtain⟨b1,b2,b3⟩:=hk p (Adw ..);have nn:∀{k},k ∉ l->∀k' o,(k',o)∈GJ F (j+1) l->k'≠k/\o.names k=false:=fun {k} hkl k' o hm=>by
    obtain⟨h1,h2⟩:=O9 hm;refine⟨fun e=>hkl (e ▸ h1),?_⟩;cases hx:o.names k with
    |false=>rfl
    |true=>exact absurd (h2 k hx) hkl
   have hsame:Same (fun _=>False) w w:=⟨rfl,rfl,rfl,Adp _,Adp _,fun _ _ _=>rfl⟩;let e2:As:={ e1 with at_:=fun k=>if k=q then none else e1.at_ k };obtain⟨X2,S2⟩:=S1.newOwn hG (k:=q) a1 (OA a2 (nn hq)) a3 hsame (env':=e2) (fun k hne=>by simp[e2,hne]) rfl (fun g hg=>by simp[e2]at hg) (M':=M) (fun _ h=>h) (fun _ h=>.inl h) S.mlt (o:=.omq false F.kt F.vt (F.val j)) ⟨fun e=>(by cases e),fun _=>(by simp[e2])⟩;let e3:As:={ e2 with at_:=fun k=>if k=p then none else e2.at_ k };have np:({ st with own:=(q,Al.omq false F.kt F.vt (F.val j))::(GJ F (j+1) l++st.own) }:St).noName p=true:=by
    have:=OA b2 (nn hpl);unfold St.noName at this ⊢;rw[List.all_cons,this];simp[Al.names,Ne.symm hpq]
   obtain⟨X3,S3⟩:=S2.newOwn hG (k:=p) b1 np b3 hsame (env':=e3) (fun k hne=>by simp[e3,hne]) rfl (fun g hg=>by simp[e3]at hg) (M':=M) (fun _ h=>h) (fun _ h=>.inl h) S.mlt (o:=.oblk false F.t ((F.head j).map .p ++ [.mapv q])) ⟨fun e=>(by cases e),fun _=>(by simp[e3])⟩;refine⟨e3,X3,S3,fun k hm=>?_,fun i hi=>?_⟩
   ·simp only[Adq,not_or]at hm;obtain⟨h1,h2⟩:=k1 k hm.2.2;exact⟨by simp[e3,e2,hm.1,hm.2.1,h1],by simp[e3,e2,h2]⟩
   ·cases i with
    |zero=>simp[e3]
    |succ i =>
      have e:(p::q::l).getD (2*(i+1)) 0=l.getD (2*i) 0:=by rw[show 2*(i+1)=2*i+1+1 by omega];simp
      have hi':2*i+1<l.length:=by simp at hi;omega
      have hm:=Jn (bs:=l) (j:=2*i) (by omega);rw[e];have n1:l.getD (2*i) 0≠p:=fun e=>hpl (e ▸ hm);have n2:l.getD (2*i) 0≠q:=fun e=>hq (e ▸ hm);simp only[e3,e2,n1,n2,if_false];exact k2 i hi'
theorem Sd {z:Array Value} {sz n k:Nat} (hz:z.size=sz) (hsz:0<sz) (hk:k<n):(madeCells z n).getD k undef=z.getD (k % sz) undef:=by
 have hmod:k % sz<z.size:=by rw[hz];exact Nat.mod_lt _ hsz
 simp only[madeCells,LS];simp[hk,hz,getElem!_pos z (k % sz) hmod];rw[rK hmod];rfl
theorem jV (hG:Bp G) (S:Ak P G st a w env M X) {C:Aj} {d:Nat} (hd:d<st.nt) {t:TypeId} {l c:Operand} {K:St->Prop} (h:Ou P C st d t l c K) :
  ∃v w',(Instr.makeSlice t (a.eval l) (a.eval c)).run P w=.ok v w'/\∃st',K st'/\AI P G st' (a.put (some d) v) w':=by
 have hgd:Eo a none:=fun q c x h=>by cases h
 unfold Ou at h;split at h
 ·rename_i e k1 n k2 m hu hl hc;split at h
  ·rename_i y hy;split at h
   ·rename_i hcd;obtain⟨hsz,hzs,hb,hone,hn⟩:=hcd;obtain⟨i,hi,hz,hs,hby,_⟩:=C5 hy;have el:=Bc S hgd trivial hl;have ec:=Bc S hgd trivial hc;rcases el with ⟨el⟩;rcases ec with ⟨ec⟩;generalize hel:a.eval l=vl at el;generalize hec:a.eval c=vc at ec;cases el;cases ec;have hrun:0<=n->n<=m->m*(y.bytes:Int)<=140737488355328->(Instr.makeSlice t (.int k1 n) (.int k2 m)).run P w=.ok (.slice (some ⟨w.heap.size,0,none⟩) n.toNat m.toNat) (w.alloc (.cells (madeCells y.zero.cells (m.toNat*y.size)) e))/\m.toNat<=maxLen:=fun p1 p2 p3=>by
     have hmb:m<=140737488355328:=by
      have:m*1<=m*(y.bytes:Int):=Int.mul_le_mul_of_nonneg_left (by omega) (by omega);omega
     have hrun:=run_make (P:=P) w t e i y.zero hu hi hz k1 k2 n m p1 p2 (by rw[hby,Int.mul_comm];omega) (by omega);rw[hs]at hrun;exact⟨hrun,by unfold maxLen;omega⟩
    split at h
    ·obtain⟨h1,h2⟩:=B0 h;obtain⟨p1,p2,p3⟩:=Ay h1;obtain⟨r1,r2⟩:=hrun p1 p2 p3;obtain⟨env',X',S',hrv⟩:=Ml hG S hd hn (e:=e) (cur:=madeCells y.zero.cells (m.toNat*y.size)) (n:=m.toNat) (cap:=m.toNat) (sz:=y.size) (get:=fun _=>y.zero.cells.toList.map Cc) (size_madeCells _ _) (Adp _) r2 (fun i hi=>by simpa using hzs) (fun i hi j hj=>by
      have:=Cj (sz:=y.size) (len:=m.toNat) (i:=i) hi hj;rw[Sd hzs hsz this];have hmod:(i*y.size+j) % y.size=j:=by rw[Aem,Nat.mul_add_mod,AeV hj]
      rw[hmod];have hj':j<y.zero.cells.size:=by omega
      have hd':=(Gu (M:=M) (w:=w) y.zero.cells.toList).2 j (by simpa using hj');rw[LS,rK hj'];rw[AS,rH (by simpa using hj')]at hd';simp only[AdU,AeR]at hd' ⊢;exact⟨by have:=Array.all_eq_true.1 hone j hj';simpa using this,hd'⟩)
     exact⟨_,_,r1,_,h2,_,_,_,S'.put0 (by intro t' ht;cases ht;exact hd) (.rpre hrv (by omega))⟩
    ·rename_i F hF;split at h;rotate_left
     ·exact h.elim
     rename_i hzp;split at h;rotate_left
     ·exact h.elim
     rename_i hfr;simp only[pR,AdO,Ad0]at hfr;obtain⟨⟨f1,f2⟩,f3⟩:=hfr;obtain⟨h1,h2⟩:=B0 h;obtain⟨p1,p2,p3⟩:=h1 _ (Adw ..);have p4:=h1 _ (Adr _ (Adw ..));obtain⟨r1,r2⟩:=hrun p1 p2 p3;have hsz1:y.size=1:=by
      have:=congrArg List.length hzp;simp at this;omega
     have hdn:d ∉ F.bs:=by
      intro hm;rw[<- Adv,f2]at hm;cases hm
     have hfree:∀k,k∈F.bs->k<(st.forget d).nt/\(st.forget d).noName k=true/\∀s e,(s,e)∈(st.forget d).T->e.v.names k=false:=fun k hm=>by
      have:=f3 k hm;unfold Jv at this;simp only[pR,decide_eq_true_eq]at this;refine⟨this.2,this.1.1,fun s e he=>?_⟩;have:=Ad0.1 this.1.2 _ he;simpa using this
     obtain⟨e1,X1,S1,k1',k2'⟩:=Sc hG F.bs 0 (F:=F) (S.forget d) (Fc f1) hfree;have hnd:({ st.forget d with own:=GJ F 0 F.bs++(st.forget d).own }:St).noName d=true:=OA hn (fun k' o hm=>by
      obtain⟨q1,q2⟩:=O9 hm;refine⟨fun e=>hdn (e ▸ q1),?_⟩;cases hx:o.names d with
      |false=>rfl
      |true=>exact absurd (q2 d hx) hdn)
     have hsm:=I9 w (.cells (madeCells y.zero.cells (m.toNat*y.size)) e);let e2:=e1.set d w.heap.size (.slice (some ⟨w.heap.size,0,none⟩) n.toNat m.toNat);have hne:∀j,j≠d->e2.at_ j=e1.at_ j/\e2.rv j=e1.rv j:=As.set_other e1 d _ _;obtain⟨X',S'⟩:=S1.newOwn hG (k:=d) hd hnd (fun s e h=>HM h) hsm (env':=e2) hne rfl (fun g hg=>by rw[As.set_at]at hg;cases hg;simp) (M':=M) (fun b h=>h) (fun b h=>.inl h) (fun b h=>by have:=S.mlt b h;simp;omega)
      (o:=.prow e n.toNat F.bs) ⟨by omega,p4,w.heap.size,m.toNat,_,As.set_at _ _ _ _,As.set_rv _ _ _ _,AdI,by omega,r2,by rw[size_madeCells,hsz1,Nat.mul_one],fun i hi=>by
       have hm:=Jn (bs:=F.bs) (j:=2*i) (by omega);rw[(hne _ (fun e=>hdn (e ▸ hm))).1,k2' i (by omega),Sd hzs hsz (by rw[hsz1];omega),hsz1,Nat.mod_one,LS];have:y.zero.cells = #[.pointer none]:=by apply Array.ext';rw[hzp]
       rw[this];rfl⟩
     exact⟨_,_,r1,_,h2,_,_,_,S'.put0 (by intro t' ht;cases ht;exact hd) (.row (As.set_rv _ _ _ _))⟩
   ·exact h.elim
  ·exact h.elim
 ·exact h.elim
theorem Ak.reowned (S:Ak P G st a w env M X) {T':List (Nat×AE)} {own':List (Nat×Al)} {env':As} (φ:Nat->Nat) (hT:∀x,x∈T'->x∈st.T/\∀k,x.2.v.names k=true->env'.at_ k=env.at_ k/\env'.rv k=env.rv k)
  (hnod:(own'.map (·.1)).Nodup) (hφ:∀k o,(k,o)∈own'->(∃o0,(φ k,o0)∈st.own)/\env'.at_ k=env.at_ (φ k)) (hinj:∀k1 o1 k2 o2,(k1,o1)∈own'->(k2,o2)∈own'->k1≠k2->φ k1≠φ k2)
  (hown:∀k o,(k,o)∈own'->B3 P M w env' k o) (hpin:HF G env' st.nt):Ak P G { st with T:=T',own:=own' } a w env' M X:=by
 refine⟨⟨S.gam.1,hpin⟩,S.mx,hown,fun k o h g hg=>?_,fun k1 o1 k2 o2 h1 h2 hne g hg1=>?_,hnod,S.mlt,S.xlt,S.siz,fun s e h=>?_,fun s e h=>S.grd s e (hT _ h).1,fun d hd=>?_,S.dno⟩
 ·obtain⟨⟨o0,q1⟩,q2⟩:=hφ k o h;exact S.oat _ _ q1 g (q2 ▸ hg)
 ·obtain⟨⟨p0,q1⟩,q2⟩:=hφ k1 o1 h1;obtain⟨⟨p1,q3⟩,q4⟩:=hφ k2 o2 h2;rw[q4];exact S.inj _ _ _ _ q1 q3 (hinj _ _ _ _ h1 h2 hne) g (q2 ▸ hg1)
 ·obtain⟨q1,q2⟩:=hT _ h;obtain⟨h1,h2,h3⟩:=S.tmp s e q1;exact⟨h1,fun ho=>(h2 ho).go (Bg.refl M w) q2,h3⟩
 ·obtain⟨D,e,h1,h2,h3,h4⟩:=S.dfr d hd;refine⟨D,e,h1,h2,h3,fun k o h=>?_⟩;obtain⟨⟨o0,q1⟩,q2⟩:=hφ k o h;rw[q2];exact h4 _ _ q1
theorem Se (i:Nat):∀(fs:List Fb) (j:Nat) (own:List (Nat×Al)),(HL i j fs own).map (·.1)=own.map (·.1)
 |[],_,_=>rfl
 |f::l,j,own=>by simp only[HL];rw[Se i l,Jw,Jw]
theorem Sf {i:Nat}:∀(fs:List Fb) (j:Nat) (own:List (Nat×Al)) {k:Nat} {o:Al},(k,o)∈HL i j fs own ->
  (∃(q:Nat) (f:Fb),fs[q]? = some f/\((k=f.a/\o=.oblk (f.x||decide (i=j+q)) f.t f.cs)\/(k=f.b/\o=.omq (f.y||decide (i=j+q)) f.kt f.vt f.val)))\/((k,o)∈own/\∀(q:Nat) (f:Fb),fs[q]? = some f->k≠f.a/\k≠f.b)
 |[],_,_,_,_,h=>.inr ⟨h,fun q f hq=>by simp at hq⟩
 |f0::l,j,own,k,o,h=>by
   simp only[HL]at h;rcases Sf l (j+1) _ h with ⟨q,f,h1,h2⟩|⟨h1,h2⟩
   ·refine .inl ⟨q+1,f,by simpa using h1,?_⟩;rw[show j+(q+1)=j+1+q by omega];exact h2
   ·rcases DC h1 with ⟨e1,e2,_⟩|⟨hb,h1⟩
    ·exact .inl ⟨0,f0,rfl,.inr ⟨e1,e2⟩⟩
    ·rcases DC h1 with ⟨e1,e2,_⟩|⟨ha,h1⟩
     ·exact .inl ⟨0,f0,rfl,.inl ⟨e1,e2⟩⟩
     ·refine .inr ⟨h1,fun q f hq=>?_⟩;cases q with
      |zero=>simp at hq;subst hq;exact⟨ha,hb⟩
      |succ q=>exact h2 q f (by simpa using hq)
theorem OB {i:Nat} {tA kt vt:TypeId} {hs:List SV} {dom:Int->Bool} {val:Int->SV}:∀{fs:List Fb} {j:Nat},all (Mf i tA kt vt hs dom val j fs)->∀k f,fs[k]? = some f ->
  ∃hs',FU f.cs=some (f.b,hs')/\f.t=tA/\f.kt=kt/\f.vt=vt/\(i=j+k->f.x=false/\f.y=false/\(∀x,dom x=true->val x=f.val x)/\all (KJ hs hs'))
 |[],_,_,_,_,h=>by simp at h
 |f0::l,j,h,k,f,hk=>by
   simp only[Mf]at h;obtain⟨h1,h2⟩:=all_append h;cases k with
   |zero =>
     simp at hk;subst hk;split at h1
     ·rename_i b' hs' hlm;split at h1
      ·rename_i hc;simp only[pR,beq_iff_eq]at hc;obtain⟨⟨⟨rfl,c1⟩,c2⟩,c3⟩:=hc;refine⟨hs',hlm,c1,c2,c3,fun e=>?_⟩;obtain⟨q1,q2,q3,q4⟩:=Ay h1 e;exact⟨q1,q2,q3,RZ q4⟩
      ·exact(Ay h1).elim
     ·exact(Ay h1).elim
   |succ k =>
     obtain⟨hs',e1,e2,e3,e4,e5⟩:=OB h2 k f (by simpa using hk);exact⟨hs',e1,e2,e3,e4,fun e=>e5 (by omega)⟩
theorem KZ {bs:List Nat} (h:bs.Nodup) {i j:Nat} (hi:i<bs.length) (hj:j<bs.length) (e:bs.getD i 0=bs.getD j 0):i=j:=by
 have hp:=Aed.1 h;rw[AS,AS,rH hi,rH hj]at e;have e:bs[i]=bs[j]:=e;rcases Aev i j with h1|h1|h1
 ·exact absurd e (hp i j hi hj h1)
 ·exact h1
 ·exact absurd e.symm (hp j i hj hi h1)
theorem Sg {x b:Nat}:∀(hs:List SV),EV.names.namesL x (hs.map .p ++ [.mapv b])=(b == x)
 |[]=>by simp[EV.names.namesL,EV.names]
 |s::l=>by simpa[EV.names.namesL,EV.names]using Sg l
theorem jW (hG:Bp G) (S:Ak P G st a w env M X) {t:TypeId} {r i A:Nat} {K:St->Prop} (h:Ot P st t r i A K) {vp vx:Value} (hp:Am P M w env (.rptr r 1 i 0) vp) (hx:Am P M w env (.loc A 0) vx) :
  ∃w',(Instr.storeAt t vp vx).run P w=.ok () w'/\∃st',K st'/\AI P G st' a w':=by
 unfold Ot at h;split at h;rotate_left
 ·exact h.elim
 rename_i e n bs tA csA hr hA;split at h;rotate_left
 ·exact h.elim
 rename_i fs B hs hfs hlm;split at h;rotate_left
 ·exact h.elim
 rename_i kt vt dom val y hB hy;split at h;rotate_left
 ·exact h.elim
 rename_i hc;obtain⟨⟨hys,hrA,hrB,hAB⟩,hc⟩:=hc;simp only[pR,AdO,Ad0,AdN,beq_iff_eq,decide_eq_true_eq]at hc;obtain⟨⟨⟨⟨⟨⟨c1,c2⟩,c3⟩,c4⟩,c5⟩,c6⟩,c7⟩:=hc;have c1:=Fc c1;have nin:∀{k},bs.contains k=false->k ∉ bs:=fun {k} h hm=>by rw[<- Adv,h]at hm;cases hm
 have c3:=nin c3;have c4:=nin c4;have c5:=nin c5;obtain⟨h1,hK⟩:=B0 h;obtain⟨h1,hC⟩:=all_append h1;have hin:i<n:=Ay h1;obtain⟨e1,e2⟩:=O6 hfs;have mr:=Bq hr;have mA:=Bq hA;have mB:=Bq hB;obtain⟨hm0,hbs,g,cap,cur,hg,hrv,hh,hnc,hcm,hcs,hd⟩:=S.own _ _ mr;have hifs:i<fs.length:=by omega
 obtain⟨f,hf⟩:∃f,fs[i]? = some f:=⟨fs[i],rH hifs⟩;obtain⟨ba,bb,ma,mb⟩:=e2 i f hf;obtain⟨hs',hlm',ht,hkt,hvt,hcc⟩:=OB hC i f hf;obtain⟨hxf,hyf,hval,hfit⟩:=hcc (by omega);cases hp with
 |@rptr _ _ _ _ g' hg' =>
 rw[hg]at hg';cases hg';cases hx with
 |@loc _ _ gA hgA =>
 -- the write
 have hrun:=Mi (P:=P) (w:=w) hy (g:=g) (o:=i*1+0) hh (v:=.pointer (some ⟨gA,0,none⟩)) (by rw[hys];rfl) (by omega) (fun u hu=>by simp[Value.cells]at hu;subst hu;rfl);obtain⟨hsm,hss⟩:=IB (w:=w) (g:=g) (cur.toList.take (i*1+0)++(Value.pointer (some ⟨gA,0,none⟩)).cells.toList++cur.toList.drop (i*1+0+(Value.pointer (some ⟨gA,0,none⟩)).cells.toList.length)).toArray;have hheap:=setRow_heap w g cur (cur.toList.take (i*1+0)++(Value.pointer (some ⟨gA,0,none⟩)).cells.toList++cur.toList.drop (i*1+0+(Value.pointer (some ⟨gA,0,none⟩)).cells.toList.length)).toArray e _ hh;have hcell:∀j,j<n->(cur.toList.take (i*1+0)++(Value.pointer (some ⟨gA,0,none⟩)).cells.toList++cur.toList.drop (i*1+0+(Value.pointer (some ⟨gA,0,none⟩)).cells.toList.length)).toArray.getD j undef=if j=i then Value.pointer (some ⟨gA,0,none⟩)else cur.getD j undef:=fun j hj=>by
  rw[IA cur (i*1+0) (Value.pointer (some ⟨gA,0,none⟩)).cells.toList (by simp[Value.cells];omega) j (by omega)];have e:(Value.pointer (some ⟨gA,0,none⟩)).cells.toList = [Value.pointer (some ⟨gA,0,none⟩)]:=rfl;rw[e]
  by_cases hji:j=i
  ·subst hji;rw[if_pos rfl,if_pos ⟨by omega,by simp⟩];simp
  ·rw[if_neg hji,if_neg (by simp;omega)]
 have hsz':(cur.toList.take (i*1+0)++(Value.pointer (some ⟨gA,0,none⟩)).cells.toList++cur.toList.drop (i*1+0+(Value.pointer (some ⟨gA,0,none⟩)).cells.toList.length)).toArray.size=cap:=by simp[Value.cells];omega
 generalize (cur.toList.take (i*1+0)++(Value.pointer (some ⟨gA,0,none⟩)).cells.toList++cur.toList.drop (i*1+0+(Value.pointer (some ⟨gA,0,none⟩)).cells.toList.length)).toArray=cur' at *;have S1:=S.write hG mr hg hsm hss (o:=.row e 1 n (fun j=>[.raw (cur'.getD j undef)])) ⟨hm0,fun _ _=>rfl,.inr ⟨g,cap,cur',hg,hrv,hheap,hnc,hcm,by omega,fun j hj k hk=>by
  obtain rfl:k=0:=by omega
  rw[show j*1+0=j by omega];refine⟨?_,.raw _⟩;rw[hcell j hj];split
  ·rfl
  ·rw[hd j hj];rfl⟩⟩
 generalize w.setRow g cur'=w' at *;let env':As:={ env with at_:=fun k=>if k=f.a then env.at_ A else if k=f.b then env.at_ B else env.at_ k };have hfb:∀(q:Nat) (fq:Fb),fs[q]? = some fq->2*q+1<bs.length/\fq.a∈bs/\fq.b∈bs:=fun q fq hq=>by
  have hlt:q<fs.length:=(AdH.1 hq).1;obtain⟨q1,q2,_⟩:=e2 q fq hq;exact⟨by omega,q1 ▸ Jn (by omega),q2 ▸ Jn (by omega)⟩
 have hab:f.a≠f.b:=fun e=>by
  have:=KZ c1 (i:=2*i) (j:=2*i+1) (by omega) (by omega) (by rw[ba,bb,e]);omega
 have hdis:∀(q:Nat) (fq:Fb),fs[q]? = some fq->q≠i->fq.a≠f.a/\fq.a≠f.b/\fq.b≠f.a/\fq.b≠f.b:=fun q fq hq hne=>by
  obtain⟨q1,q2,_⟩:=e2 q fq hq;obtain⟨q3,_⟩:=hfb q fq hq;refine⟨fun e=>?_,fun e=>?_,fun e=>?_,fun e=>?_⟩
  ·have:=KZ c1 (i:=2*q) (j:=2*i) (by omega) (by omega) (by rw[q1,ba,e]);omega
  ·have:=KZ c1 (i:=2*q) (j:=2*i+1) (by omega) (by omega) (by rw[q1,bb,e]);omega
  ·have:=KZ c1 (i:=2*q+1) (j:=2*i) (by omega) (by omega) (by rw[q2,ba,e]);omega
  ·have:=KZ c1 (i:=2*q+1) (j:=2*i+1) (by omega) (by omega) (by rw[q2,bb,e]);omega
 have envA:env'.at_ f.a=env.at_ A:=by simp[env']
 have envB:env'.at_ f.b=env.at_ B:=by simp[env',Ne.symm hab]
 have envO:∀k,k≠f.a->k≠f.b->env'.at_ k=env.at_ k/\env'.rv k=env.rv k:=fun k h1 h2=>by simp[env',h1,h2]
 have nbs:∀k,k ∉ bs->k≠f.a/\k≠f.b:=fun k hk=>⟨fun e=>hk (e ▸ (hfb i f hf).2.1),fun e=>hk (e ▸ (hfb i f hf).2.2)⟩;have hlat:Bg M M w' w':=Bg.refl M w';have mem1:∀{k o},(k,o)∈st.own->k≠r->(k,o)∈Cd st.own r (.row e 1 n (fun j=>[.raw (cur'.getD j undef)])):=fun {k o} hm hne=>Ado.2 ⟨(k,o),hm,by simp[hne]⟩;have hkr:∀{k},k∈bs->k≠r:=fun hm e=>c5 (e ▸ hm);refine⟨w',hrun,_,hK,env',M,X,?_⟩;have own1:∀k o,(k,o)∈HL i 0 fs (st.own.filter fun x=>!(x.1 == A) && !(x.1 == B))->(∃(q:Nat) (fq:Fb),fs[q]? = some fq/\((k=fq.a/\o=.oblk (fq.x||decide (i=0+q)) fq.t fq.cs)\/(k=fq.b/\o=.omq (fq.y||decide (i=0+q)) fq.kt fq.vt fq.val)))\/((k,o)∈st.own/\k≠A/\k≠B/\∀(q:Nat) (fq:Fb),fs[q]? = some fq->k≠fq.a/\k≠fq.b):=fun k o hm=>by
  rcases Sf _ _ _ hm with h|⟨h1,h2⟩
  ·exact .inl h
  ·obtain⟨q1,q2⟩:=Adn.1 h1;simp only[pR,AdO,beq_eq_false_iff_ne,ne_eq]at q2;exact .inr ⟨q1,q2.1,q2.2,h2⟩
 refine S1.reowned (fun k=>if k=f.a then A else if k=f.b then B else k) (fun x hx=>?_) ?_ (fun k o hm=>?_) (fun k1 o1 k2 o2 h1 h2 hne=>?_) (fun k o hm=>?_) (fun k hk=>?_)
 ·refine⟨(Adn.1 (Adn.1 hx).1).1,fun k hk=>?_⟩;have:=c6 x hx;refine envO k (fun e=>?_) (fun e=>?_)
  ·have:=this _ (hfb i f hf).2.1;rw[e,this]at hk;cases hk
  ·have:=this _ (hfb i f hf).2.2;rw[e,this]at hk;cases hk
 ·rw[Se];exact S.nod.sublist (List.filter_sublist.map _)
 ·simp only
  by_cases q1:k=f.a
  ·rw[if_pos q1,q1];exact⟨⟨_,mem1 mA (Ne.symm hrA)⟩,envA⟩
  ·by_cases q2:k=f.b
   ·rw[if_neg q1,if_pos q2,q2];exact⟨⟨_,mem1 mB (Ne.symm hrB)⟩,envB⟩
   ·rw[if_neg q1,if_neg q2];refine⟨?_,(envO k q1 q2).1⟩;rcases own1 k o hm with ⟨q,fq,hq,⟨rfl,_⟩|⟨rfl,_⟩⟩|⟨h1,_⟩
    ·exact⟨_,mem1 (e2 q fq hq).2.2.1 (hkr (hfb q fq hq).2.1)⟩
    ·exact⟨_,mem1 (e2 q fq hq).2.2.2 (hkr (hfb q fq hq).2.2)⟩
    ·by_cases hk:k=r
     ·subst hk;exact⟨_,O5 h1⟩
     ·exact⟨_,mem1 h1 hk⟩
 ·have hk : ∀k o, (k, o)∈HL i 0 fs (st.own.filter fun x => !(x.1 == A) && !(x.1 == B))->k≠A/\k≠B :=fun k o hm =>by
   rcases own1 k o hm with ⟨q,fq,hq,⟨rfl,_⟩|⟨rfl,_⟩⟩|⟨_,h1,h2,_⟩
   ·exact⟨fun e=>c3 (e ▸ (hfb q fq hq).2.1),fun e=>c4 (e ▸ (hfb q fq hq).2.1)⟩
   ·exact⟨fun e=>c3 (e ▸ (hfb q fq hq).2.2),fun e=>c4 (e ▸ (hfb q fq hq).2.2)⟩
   ·exact⟨h1,h2⟩
  have:=hk _ _ h1;have:=hk _ _ h2;have ph:∀k,(k=f.a/\(if k=f.a then A else if k=f.b then B else k)=A)\/(k=f.b/\(if k=f.a then A else if k=f.b then B else k)=B)\/(if k=f.a then A else if k=f.b then B else k)=k:=fun k=>by
   by_cases p1:k=f.a
   ·exact .inl ⟨p1,if_pos p1⟩
   ·by_cases p2:k=f.b
    ·exact .inr (.inl ⟨p2,by rw[if_neg p1,if_pos p2]⟩)
    ·exact .inr (.inr (by rw[if_neg p1,if_neg p2]))
  intro e;have e:(if k1=f.a then A else if k1=f.b then B else k1)=(if k2=f.a then A else if k2=f.b then B else k2):=e;rcases ph k1 with ⟨x1,x2⟩|⟨x1,x2⟩|x2<;>rcases ph k2 with ⟨y1,y2⟩|⟨y1,y2⟩|y2<;>rw[x2,y2]at e<;>omega
 ·rcases own1 k o hm with ⟨q,fq,hq,hko⟩|⟨h1,h2,h3,h4⟩
  ·obtain⟨hsq,hlq,_⟩:=OB hC q fq hq;obtain⟨_,_,mqa,mqb⟩:=e2 q fq hq;rw[AdE]at hko
   by_cases hqi:q=i
   ·subst hqi;rw[hf]at hq;cases hq;rcases hko with ⟨rfl,rfl⟩|⟨rfl,rfl⟩
    ·refine⟨fun _=>?_,fun e=>by simp at e⟩;have oA:=S1.own _ _ (mem1 mA (Ne.symm hrA));have oA:El P M w' env A tA csA:=oA;rw[KY hlm]at oA;rw[KY hlm',ht];obtain⟨l1,l2⟩:=Sa hfit;exact O7 oA hlat envA envB (fun _ _=>rfl) l1 (fun i hi _ hd=>l2 i hi hd)
    ·refine⟨fun _=>⟨dom,?_⟩,fun e=>by simp at e⟩;have oB:FL M w' env B dom val:=S1.own _ _ (mem1 mB (Ne.symm hrB));exact O8 oB hlat envB (fun _ _=>rfl) hval
   ·obtain⟨d1,d2,d3,d4⟩:=hdis q fq hq hqi;have hdec:decide (i=q)=false:=decide_eq_false (fun e=>hqi e.symm);rcases hko with ⟨rfl,rfl⟩|⟨rfl,rfl⟩
    ·rw[hdec,Bool.or_false];refine(S1.own _ _ (mem1 mqa (hkr (hfb q fq hq).2.1))).move hlat (envO _ d1 d2).1 (envO _ d1 d2).2 (fun _ _=>rfl) (fun j hj=>?_);have hj:EV.names.namesL j fq.cs=true:=hj;rw[KY hlq,Sg]at hj;obtain rfl:fq.b=j:=by simpa using hj
     exact envO _ d3 d4
    ·rw[hdec,Bool.or_false];exact(S1.own _ _ (mem1 mqb (hkr (hfb q fq hq).2.2))).move hlat (envO _ d3 d4).1 (envO _ d3 d4).2 (fun _ _=>rfl) (fun j hj=>by cases hj)
  ·by_cases hk:k=r
   ·subst hk;have:=GO S.nod h1;rw[hr]at this;cases this;obtain⟨n1,n2⟩:=nbs k c5;refine⟨hm0,hbs,g,cap,cur',(envO k n1 n2).1.trans hg,(envO k n1 n2).2.trans hrv,hheap,hnc,hcm,hsz',fun j hj=>?_⟩;rw[hcell j hj];obtain⟨fj,hfj⟩:∃fj,fs[j]? = some fj:=⟨fs[j]'(by omega),rH (by omega)⟩;have hbj:=(e2 j fj hfj).1
    by_cases hji:j=i
    ·subst hji;rw[if_pos rfl,ba,envA,hgA];rfl
    ·obtain⟨d1,d2,_⟩:=hdis j fj hfj hji;rw[if_neg hji,hbj,(envO _ d1 d2).1,<- hbj];exact hd j hj
   ·have hkn : k ∉ bs :=fun hm =>by
     have hi2:∃q,q<bs.length/\bs.getD q 0=k:=by
      obtain⟨q,hq,e⟩:=AdM hm;exact⟨q,hq,by rw[AS,rH hq];exact e⟩
     obtain⟨q,hq,e⟩:=hi2;obtain⟨fq,hfq⟩:∃fq,fs[q / 2]? = some fq:=⟨fs[q / 2]'(by omega),rH (by omega)⟩;obtain⟨x1,x2,_⟩:=e2 _ _ hfq;obtain⟨y1,y2⟩:=h4 _ _ hfq;rcases Nat.mod_two_eq_zero_or_one q with hz|hz
     ·exact y1 (by rw[<- x1,<- e];congr 1;omega)
     ·exact y2 (by rw[<- x2,<- e];congr 1;omega)
    have hnn:=c7 (k,o) h1;rcases hnn with (h5|h5)|h5
    ·exact absurd h5 hk
    ·exact absurd (Adv.1 h5) hkn
    obtain⟨n1,n2⟩:=nbs k hkn;refine(S1.own _ _ (mem1 h1 hk)).move hlat (envO k n1 n2).1 (envO k n1 n2).2 (fun _ _=>rfl) (fun j hj=>envO j (fun e=>?_) (fun e=>?_))
    ·have:=h5 _ (hfb i f hf).2.1;rw[e,this]at hj;cases hj
    ·have:=h5 _ (hfb i f hf).2.2;rw[e,this]at hj;cases hj
 ·obtain⟨p1,p2,p3⟩:=S.gam.2 k hk;have q1:=c2 _ (hfb i f hf).2.1;have q2:=c2 _ (hfb i f hf).2.2;obtain⟨z1,z2⟩:=envO k (by omega) (by omega);exact⟨p1,z1.trans p2,z2.trans p3⟩
end
section
variable {P:Program} {M:Nat->Prop} {w:World} {G:Bn} {st:St} {a:Act} {env:As} {X:Nat->Prop}
theorem OC {kt:TypeId} (h:HK P kt=true):∃el y,P.underlying kt=some (.array 2 el)/\P.underlying el=some (.int .i64)/\Bf P el=some y/\y.size=1:=by
 unfold HK at h;split at h
 ·rename_i el hk;split at h
  ·rename_i y h1 h2;exact⟨el,y,hk,h1,h2,of_decide_eq_true h⟩
  ·cases h
 ·cases h
theorem OD {el:TypeId} {y:Ty} (h1:P.underlying el=some (.int .i64)) (hy:Bf P el=some y) (i j:Int) (w:World) :
  (part el #[.int .i64 i,.int .i64 j] 0).run P w=.ok (.int .i64 i) w/\(part el #[.int .i64 i,.int .i64 j] 1).run P w=.ok (.int .i64 j) w:=by
 obtain⟨_,hi,_,_,_,hu⟩:=C5 hy;have hd:y.desc=.int .i64:=by rw[h1]at hu;exact(Option.some.inj hu).symm
 have ha:(isAgg el).run P w=.ok false w:=by rw[K1 hu,hd];rfl
 constructor<;>simp[part,ha]
theorem jX {kt:TypeId} (h:HK P kt=true) (i j k l:Int) (w:World):(Op.equal kt (.agg #[.int .i64 i,.int .i64 j]) (.agg #[.int .i64 k,.int .i64 l])).run P w=.ok (decide (i=k)&&decide (j=l)) w:=by
 obtain⟨el,y,hk,h1,hy,hz⟩:=OC h;obtain⟨inf,hi,_,hs,_,hu⟩:=C5 hy;have hsz:(sizeOf el).run P w=.ok 1 w:=by rw[E3 hi,hs,hz]
 obtain⟨a1,a2⟩:=OD h1 hy i j w;obtain⟨b1,b2⟩:=OD h1 hy k l w;have he:∀p q:Int,(Op.equalIn 9999 el (.int .i64 p) (.int .i64 q)).run P w=.ok (decide (p=q)) w:=fun p q=>by
  show(Op.equalIn (9998+1) el (.int .i64 p) (.int .i64 q)).run P w=_;unfold Op.equalIn;simp only[Sem.run_bind,run_underlying h1,Result.andThen_ok,if_true,Sem.run_pure]
  by_cases e:p=q<;>simp[e]
 show(Op.equalIn (9999+1) kt (.agg #[.int .i64 i,.int .i64 j]) (.agg #[.int .i64 k,.int .i64 l])).run P w=_;unfold Op.equalIn;simp only[Sem.run_bind,run_underlying hk,Result.andThen_ok,hsz]
 by_cases e1:i=k
 ·subst e1
  by_cases e2:j=l
  ·subst e2;simp[List.range',a1,a2,he]
  ·simp[List.range',a1,a2,b1,b2,he,e2]
 ·simp[List.range',a1,b1,he,e1]
theorem Mz {kt:TypeId} (h:HK P kt=true) (em:Bool) (i j:Int) (w:World):(Instr.checkKey em 10000 kt (.agg #[.int .i64 i,.int .i64 j])).run P w=.ok () w:=by
 obtain⟨el,y,hk,h1,hy,hz⟩:=OC h;obtain⟨inf,hi,_,hs,_,hu⟩:=C5 hy;have hsz:(sizeOf el).run P w=.ok 1 w:=by rw[E3 hi,hs,hz]
 obtain⟨a1,a2⟩:=OD h1 hy i j w;have hc:∀p:Int,(Instr.checkKey em 9999 el (.int .i64 p)).run P w=.ok () w:=fun p=>RQ (.inl ⟨_,h1⟩) (.inl ⟨_,_,rfl⟩) em 9998 w;show(Instr.checkKey em (9999+1) kt (.agg #[.int .i64 i,.int .i64 j])).run P w=_;unfold Instr.checkKey;simp only[Sem.run_bind,run_underlying hk,Result.andThen_ok];simp[List.range',a1,a2,hc,hsz]
theorem OE {kt:TypeId} (h:HK P kt=true) (i j:Int) (w:World):∀(es:List MapEntry) (o:Nat),(∀e,e∈es->∃a b,e.key=.agg #[.int .i64 a,.int .i64 b]) ->
  (∃q e,es[q]? = some e/\e.key=.agg #[.int .i64 i,.int .i64 j]/\(Instr.findAsking kt (.agg #[.int .i64 i,.int .i64 j]) es o).run P w=.ok (some (o+q,e.val)) w) \/
  (Instr.findAsking kt (.agg #[.int .i64 i,.int .i64 j]) es o).run P w=.ok none w
 |[],o,_=>.inr rfl
 |e::es,o,hk=>by
   obtain⟨a,b,hab⟩:=hk e (by simp);have hrun:=jX h i j a b w;rw[<- hab]at hrun;unfold Instr.findAsking;simp only[Sem.run_bind,hrun,Result.andThen_ok]
   by_cases e1:i=a/\j=b
   ·obtain⟨rfl,rfl⟩:=e1;exact .inl ⟨0,e,rfl,hab,by simp⟩
   ·have hf : (decide (i = a)&&decide (j = b))= false :=by
     rw[Bool.and_eq_false_iff]
     by_cases h1:i=a
     ·exact .inr (decide_eq_false fun h2=>e1 ⟨h1,h2⟩)
     ·exact .inl (decide_eq_false h1)
    rw[hf];simp only[AeC,if_false];rcases OE h i j w es (o+1) (fun e he=>hk e (Adr _ he))with ⟨q,e',q1,q2,q3⟩|q1
    ·exact .inl ⟨q+1,e',by simpa using q1,q2,by rw[q3];congr 3;omega⟩
    ·exact .inr q1
theorem Si {kt:TypeId} (h:HK P kt=true) (i j:Int) (w:World) (es:List MapEntry):(Instr.findKey kt (.agg #[.int .i64 i,.int .i64 j]) es).run P w=(Instr.findAsking kt (.agg #[.int .i64 i,.int .i64 j]) es 0).run P w:=by
 obtain⟨el,y,hk,_⟩:=OC h;cases es with
 |nil=>simp[Instr.findKey,run_underlying hk,Instr.findNow,Instr.findAsking]
 |cons x l=>simp[Instr.findKey,run_underlying hk,Instr.findNow,Instr.sameNow]
theorem jY {own:List (Nat×Al)} (hn:(own.map (·.1)).Nodup) {r:Nat} {o:Al} (hm:(r,o)∈own):Cd own r o=own:=by
 induction own with
 |nil=>rfl
 |cons x l ih =>
   simp only[Aea,Ael]at hn;unfold Cd;rw[Aea];rcases Adq.1 hm with rfl|hm
   ·simp only[beq_self_eq_true,if_true];congr 1;have:∀y,y∈l->(if y.1 == r then(r,o)else y)=y:=fun y hy=>by
     have:y.1≠r:=fun e=>hn.1 (Ado.2 ⟨y,hy,e⟩);simp[this]
    exact(AeI this).trans (List.map_id' l)
   ·have hx:x.1≠r:=fun e=>hn.1 (e ▸ Ado.2 ⟨(r,o),hm,rfl⟩);have:=ih hn.2 hm;unfold Cd at this;rw[this];simp[hx]
theorem Sj {es:Array MapEntry} {p:MapEntry->Prop} (h:∀i,i<es.size->p (es.getD i default)):∀e,e∈es.toList->p e:=fun e he=>by
 obtain⟨i,hi,rfl⟩:=AdM he;have hi:i<es.size:=by simpa using hi
 have:=h i hi;rw[LS,rK hi]at this;simpa using this
theorem jZ (S:Ak P G st a w env M X) {t:TypeId} {d:Nat} {m k:EV} {co:Bool} {K:St->Prop} (h:Oj P st t d m k co K) {vm vk:Value} (hm:Am P M w env m vm) (hk:Am P M w env k vk) :
  ∃s v,(Instr.lookup t vm vk co).run P w=.ok v w/\Av M w s v/\K (st.put (some d) ⟨none,.p s⟩):=by
 unfold Oj at h;split at h;rotate_left
 ·exact h.elim
 rename_i kt vt r i j ht;split at h;rotate_left
 ·exact h.elim
 rename_i kt' vt' ok y hl hy;split at h;rotate_left
 ·exact h.elim
 rename_i hp;obtain⟨h1,h2⟩:=h;have hvk:vk=.agg #[.int .i64 i,.int .i64 j]:=by
  cases hk with
  |p hk =>
  cases hk with
  |agg _ vs hl hd =>
    match vs,hl,hd with
    |[u,v],_,hd =>
      have q1:Av M w (.int .i64 i) u:=hd 0 (by simp);have q2:Av M w (.int .i64 j) v:=hd 1 (by simp);cases q1;cases q2;rfl
 subst hvk;cases hm with
 |@mapv _ g hg =>
 have hmem:=Bq hl;obtain⟨g',es,clock,ha,hh,hd⟩:=S.own _ _ hmem;rw[hg]at ha;cases ha;have two:∀{s:SV} {v:Value} (b:Bool),Av M w s v->Av M w (.tup [s,.bool b]) (.tuple #[v,.bool b]):=fun {s v} b hs =>
  .tup [s,.bool b] [v,.bool b] rfl (fun i hi=>by
   match i,hi with
   |0,_=>exact hs
   |1,_=>exact .bool _)
 have hall:=Sj (p:=fun e=>∃a b,e.key=.agg #[.int .i64 a,.int .i64 b]/\ok a b/\e.val=.bool true) hd;have hfk:=Si hp i j w es.toList;rcases OE hp i j w es.toList 0 (fun e he=>by obtain⟨a,b,q,_⟩:=hall e he;exact⟨a,b,q⟩)with ⟨q,e,q1,q2,q3⟩|q1
 ·obtain⟨a',b',r1,r2,r3⟩:=hall e (List.mem_of_getElem? q1);rw[q2]at r1;have e12:i=a'/\j=b':=by injection r1 with r1;simpa using r1
  obtain⟨rfl,rfl⟩:=e12;have hr:∀co,(Instr.lookup t (.map (some g)) (.agg #[.int .i64 i,.int .i64 j]) co).run P w=.ok (if co then .tuple #[.bool true,.bool true]else .bool true) w:=fun co=>by
   unfold Instr.lookup;simp only[Sem.run_bind,run_underlying ht,Result.andThen_ok,MapKept.run_getObj_map hh,Sem.run_pure,Mz hp,hfk,q3,r3]
   try (cases co<;>rfl)
  cases co with
  |true=>exact⟨_,_,hr true,two true (.bool true),h1 r2⟩
  |false=>exact⟨_,_,hr false,.bool true,h1 r2⟩
 ·obtain⟨inf,hi,hz,_⟩:=C5 hy;have hz:(zeroValue vt).run P w=.ok y.zero w:=by simp[zeroValue,typeInfo,hi,hz]
  have hr:∀co,(Instr.lookup t (.map (some g)) (.agg #[.int .i64 i,.int .i64 j]) co).run P w=.ok (if co then .tuple #[y.zero,.bool false]else y.zero) w:=fun co=>by
   unfold Instr.lookup;simp only[Sem.run_bind,run_underlying ht,Result.andThen_ok,MapKept.run_getObj_map hh,Sem.run_pure,Mz hp,hfk,q1,hz]
   try (cases co<;>rfl)
  cases co with
  |true=>exact⟨_,_,hr true,two false (K9 _),h2⟩
  |false=>exact⟨_,_,hr false,K9 _,h2⟩
theorem kA (hG:Bp G) (S:Ak P G st a w env M X) {t:TypeId} {m k v:EV} {K:St->Prop} (h:Oi P st t m k v K) {vm vk vv:Value} (hm:Am P M w env m vm) (hk:Am P M w env k vk) (hv:Am P M w env v vv) :
  ∃w' st',(Instr.mapUpdate t vm vk vv).run P w=.ok () w'/\K st'/\AI P G st' a w':=by
 unfold Oi at h;split at h;rotate_left
 ·exact h.elim
 rename_i kt vt r i j ht;split at h;rotate_left
 ·exact h.elim
 rename_i kt' vt' ok x hl;split at h;rotate_left
 ·exact h.elim
 rename_i hp;obtain⟨h1,h2⟩:=B0 h;have hx:x=true:=h1 _ (Adw ..);have hok:ok i j:=h1 _ (Adr _ (Adw ..));have hvv:vv=.bool true:=by
  cases hv with
  |p hv=>cases hv;rw[hx]
 subst hvv;have hvk:vk=.agg #[.int .i64 i,.int .i64 j]:=by
  cases hk with
  |p hk =>
  cases hk with
  |agg _ vs hl hd =>
    match vs,hl,hd with
    |[u,v],_,hd =>
      have q1:Av M w (.int .i64 i) u:=hd 0 (by simp);have q2:Av M w (.int .i64 j) v:=hd 1 (by simp);cases q1;cases q2;rfl
 subst hvk;cases hm with
 |@mapv _ g hg =>
 have hmem:=Bq hl;obtain⟨g',es,clock,ha,hh,hd⟩:=S.own _ _ hmem;rw[hg]at ha;cases ha;have hall:=Sj (p:=fun e=>∃a b,e.key=.agg #[.int .i64 a,.int .i64 b]/\ok a b/\e.val=.bool true) hd;have hfk:=Si hp i j w es.toList;have fin:∀w',Same (fun b=>b=g) w w'->w'.heap.size=w.heap.size->B3 P M w' env r (.ms kt' vt' ok)->AI P G st a w':=fun w' s1 s2 s3=>by
  have:=S.write hG hmem hg s1 s2 s3;rw[jY S.nod hmem]at this;exact⟨env,M,X,this⟩
 rcases OE hp i j w es.toList 0 (fun e he=>by obtain⟨a,b,q,_⟩:=hall e he;exact⟨a,b,q⟩)with ⟨q,e,q1,q2,q3⟩|q1
 ·rw[AdE]at q3;have hq:q<es.size:=by have:=(AdH.1 q1).1;simpa using this
  have he:es[q]=e:=by
   rw[AeN,rK hq]at q1;exact Option.some.inj q1
  have hstay:∀w',(Instr.keyThatStays (es[q]).key (.agg #[.int .i64 i,.int .i64 j])).run P w'=.ok (.agg #[.int .i64 i,.int .i64 j]) w':=fun w'=>by
   rw[he,q2];unfold Instr.keyThatStays;rw[if_pos (show Instr.sameBits (9999+1) (.agg #[.int .i64 i,.int .i64 j]) (.agg #[.int .i64 i,.int .i64 j])=true by simp[Instr.sameBits])];rfl
  obtain⟨s1,s2,s3⟩:=IE (w:=w) (g:=g) (o':=.map (es.modify q fun e=>{ e with key:=.agg #[.int .i64 i,.int .i64 j],val:=.bool true }) clock) hh;refine⟨_,st,?_,h2,fin _ s1 s2 ⟨g,_,clock,hg,s3,fun i' hi'=>?_⟩⟩
  ·unfold Instr.mapUpdate;simp only[Sem.run_bind,run_underlying ht,Result.andThen_ok,MapKept.run_getObj_map hh,Mz hp,hfk,q3];simp only[rK hq,Aej,AdU,hstay,Result.andThen_ok];exact MapKept.run_setObj_map _ hh
  ·have hi':i'<es.size:=by simpa using hi'
   rw[LS,Aeo,rK hi']
   by_cases hij:q=i'
   ·subst hij;exact⟨i,j,by simp,hok,by simp⟩
   ·obtain⟨a',b',r1,r2,r3⟩:=hd i' hi';rw[LS,rK hi']at r1 r3;exact⟨a',b',by simpa[hij]using r1,r2,by simpa[hij]using r3⟩
 ·obtain⟨s1,s2,s3⟩:=IE (w:=w) (g:=g) (o':=.map (es.push { key:=.agg #[.int .i64 i,.int .i64 j],val:=.bool true,born:=clock }) (clock+1)) hh;refine⟨_,st,?_,h2,fin _ s1 s2 ⟨g,_,clock+1,hg,s3,fun i' hi'=>?_⟩⟩
  ·unfold Instr.mapUpdate;simp only[Sem.run_bind,run_underlying ht,Result.andThen_ok,MapKept.run_getObj_map hh,Mz hp,hfk,q1];exact MapKept.run_setObj_map _ hh
  ·have hi':i'<es.size+1:=by simpa using hi'
   rw[LS];rcases Ad1.1 hi' with h'|rfl
   ·obtain⟨a',b',r1,r2,r3⟩:=hd i' h';rw[LS,rK h']at r1 r3;rw[Aer h'];exact⟨a',b',r1,r2,r3⟩
   ·rw[AdI];exact⟨i,j,rfl,hok,rfl⟩
end
end Go.SE
