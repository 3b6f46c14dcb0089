/- A symbolic walk over the model, and what it shows of functions of the program: parts of the proof that the text of the row joins. -/
import Derived.Test.YtinfalehnaejbaaGreatE1
import Derived.MapKept
import Derived.OrdersIn
namespace Go.SE
open Go.RowKit
variable {P:Program} {M:Nat -> Prop} {w:World} {G:Ctx} {st:St} {a:Act} {env:Env} {X:Nat -> Prop}
def YieldsOk (P:Program) (G:Ctx) (C:Cfg):Prop:=∀ y,C.yld=some y -> ∀ k X w vals,k < y.cnt -> G.g k X w -> (∀ b,X b -> b < w.heap.size) -> DenL (fun _=>False) w (y.item k) vals ->
 ∃ fn tmps assign body,(Instr.yield y.l vals.toArray).run P w=.ok (.round y.l fn tmps assign body) w /\
   RoundIn Fence.wide 0 P y.l fn tmps assign body w (fun e w'=>∃ b,e=.returned (.bool b) /\ w.heap.size <= w'.heap.size /\ (∀ c,c < w.heap.size -> ((b=true /\ G.m0 c) \/ X c) -> w'.heap[c]? = w.heap[c]?) /\ G.g (if b then k+1 else y.cnt+1) X w')
def ItOk (P:Program) (f:Nat) (it:ItSpec):Prop:=∀ (G:Ctx),Stable G -> ∀ (l:Nat) (w:World) (caps:List SV) (vals:List Value),it.pre caps -> (∀ b,G.m0 b -> b < w.heap.size) -> DenL G.m0 w caps vals -> G.g 0 (fun _=>False) w ->
 (∀ C:Cfg,C.yld=some ⟨l,it.cnt caps,it.item caps⟩ -> YieldsOk P G C) ->
 CallsIn Fence.wide 0 P f (#[.func (.yield l) #[] #[]] ++ vals.toArray) w (fun e w'=>∃ v X,e=.returned v /\ (G.g (it.cnt caps) X w' \/ G.g (it.cnt caps+1) X w'))
def lentB (env:Env) (own:List (Nat × Own)) (b:Nat):Prop:=∃ k o,(k,o) ∈ own /\ env.at_ k=some b
def TrEnd (P:Program) (tr:Tr) (t:tr.T) (M:Nat -> Prop) (w:World) (env:Env) (e:Ending) (w':World):Prop :=
 ∃ u v M',tr.post t u /\ e=.returned v /\ Same (lentB env (tr.own t)) w w' /\ (∀ b,M b -> M' b) /\ (∀ b,M' b -> M b \/ w.heap.size <= b) /\ (∀ b,M' b -> b < w'.heap.size) /\ (∀ k o,(k,o) ∈ tr.own' t u -> OwnOk P M' w' env k o) /\ DenE P M' w' env (tr.res t u) v
def TrOk (P:Program) (f:Nat) (tr:Tr):Prop:=(∀ t u,keysO (tr.own' t u)=keysO (tr.own t)) /\ ∀ t,tr.pre t -> ∀ (M:Nat -> Prop) (w:World) (env:Env) (vals:List Value),(∀ b,M b -> b < w.heap.size) -> (∀ k o,(k,o) ∈ tr.own t -> OwnOk P M w env k o) ->
 (∀ k o,(k,o) ∈ tr.own t -> ∀ g,env.at_ k=some g -> ¬ M g /\ g < w.heap.size) -> (∀ k o k' o',(k,o) ∈ tr.own t -> (k',o') ∈ tr.own t -> k ≠ k' -> ∀ g,env.at_ k=some g -> env.at_ k' ≠ some g) ->
 vals.length=(tr.args t).length -> (∀ i,i < (tr.args t).length -> DenE P M w env (EV.at (tr.args t) i) (vals.getD i undef)) -> CallsIn Fence.wide 0 P f vals.toArray w (TrEnd P tr t M w env)
def TrsOk (P:Program) (C:Cfg):Prop:=∀ g tr,C.trs g=some tr -> TrOk P g tr /\ Enters P g
def ItersOk (P:Program) (C:Cfg):Prop:=(∀ g it,C.iters g=some it -> ItOk P g it /\ Enters P g) /\ TrsOk P C
abbrev SpecsOk (P:Program) (G:Ctx) (C:Cfg):Prop:=(∀ f sp,C.specs f=some sp -> SpecOk P f sp /\ Enters P f) /\ YieldsOk P G C /\ ItersOk P C
theorem SatC.yielded {P:Program} {G:Ctx} {st:St} {a:Act} {w w':World} {env:Env} {M X:Nat -> Prop} (S:SatC P G st a w env M X) {k:Nat} (hsz:w.heap.size <= w'.heap.size) (hb:∀ c,c < w.heap.size -> (G.m0 c \/ X c) -> w'.heap[c]? = w.heap[c]?) (hg:G.g k X w') :
   SatC P G { st with yk:=k } a w' env M X:=by
 have hM:∀ b,M b -> w'.heap[b]? = w.heap[b]?:=fun b h=>hb b (S.mlt b h) (S.mx b h)
 have hX:∀ b,X b -> w'.heap[b]? = w.heap[b]?:=fun b h=>hb b (S.xlt b h) (.inr h)
 have hl:Later M M w w':=⟨hsz,hM,fun _ h=>h⟩
 refine ⟨⟨hg,S.gam.2⟩,S.mx,fun k o h=>?_,fun k o h g hg=>?_,S.inj,S.nod,fun b h=>Nat.lt_of_lt_of_le (S.mlt b h) hsz,fun b h=>Nat.lt_of_lt_of_le (S.xlt b h) hsz,S.siz,?_,S.grd,?_,S.dno⟩
 · have h1:=S.own k o h
   have h2:=S.oat k o h
   cases o with
   | mp kt n get =>
     obtain ⟨g',es,clock,ha,hh,hz,hd⟩:=h1
     exact ⟨g',es,clock,ha,(hX g' (h2 g' ha).1).trans hh,hz,fun i hi=>⟨(hd i hi).1,(hd i hi).2.still⟩⟩
   | mq kt vt dom val =>
     obtain ⟨g',es,clock,ha,hh,hz,hd⟩:=h1
     exact ⟨g',es,clock,ha,(hX g' (h2 g' ha).1).trans hh,hz,fun i hi=>by obtain ⟨key,q1,q2,q3⟩:=hd i hi;exact ⟨key,q1,q2,q3.later hl⟩⟩
   | blk t cs =>
     obtain ⟨g',vs,ha,hh,hz,hd⟩:=h1
     exact ⟨g',vs,ha,(hX g' (h2 g' ha).1).trans hh,hz,fun i hi=>⟨(hd i hi).1,(hd i hi).2.later hl⟩⟩
   | row e sz n get =>
     obtain ⟨hm,hgl,h1⟩:=h1
     refine ⟨hm,hgl,?_⟩
     rcases h1 with h1 | ⟨g',cap,cur,ha,hr,hh,h3,h4,h5,h6⟩
     · exact .inl h1
     · exact .inr ⟨g',cap,cur,ha,hr,(hX g' (h2 g' ha).1).trans hh,h3,h4,h5,fun i hi j hj=>⟨(h6 i hi j hj).1,(h6 i hi j hj).2.later hl⟩⟩
 · obtain ⟨q1,q2,q3⟩:=S.oat k o h g hg
   exact ⟨q1,q2,Nat.lt_of_lt_of_le q3 hsz⟩
 · intro s e h
   obtain ⟨h1,h2,h3⟩:=S.tmp s e h
   exact ⟨h1,fun ho=>(h2 ho).later hl,h3⟩
 · intro d h
   obtain ⟨D,e,q1,q2,q3,q4⟩:=S.dfr d h
   exact ⟨D,e,(hX D q2).trans q1,q2,q3,q4⟩
theorem scalS_ok {M M':Nat -> Prop} {w w':World} {s:SV} {v:Value} (h:DenP M w s v) (hs:scalS s=true):DenP M' w' s v:=by
 cases h with
 | clo f cs vs hl hd =>
   cases cs with
   | nil=>exact .clo f [] vs hl (fun i hi=>absurd hi (Nat.not_lt_zero _))
   | cons c cs=>cases hs
 | int k n=>exact .int k n
 | bool b=>exact .bool b
 | raw v=>exact .raw v
 | agg cs vs hl hd=>exact noMem_ok (.agg cs vs hl hd) hs
 | tup cs vs hl hd=>exact noMem_ok (.tup cs vs hl hd) hs
 | ref=>cases hs
 | sl=>cases hs
theorem SatC.yieldedF {P:Program} {G:Ctx} {st:St} {a:Act} {w w':World} {env:Env} {M X:Nat -> Prop} (S:SatC P G st a w env M X) {k:Nat} (hsz:w.heap.size <= w'.heap.size) (hb:∀ c,c < w.heap.size -> X c -> w'.heap[c]? = w.heap[c]?) (hg:G.g k X w') :
   SatC P G { st.bare with yk:=k } a w' env (fun _=>False) X:=by
 refine ⟨⟨hg,S.gam.2⟩,fun b h=>h.elim,fun k o h=>(by cases h),fun k o h=>(by cases h),fun k o k' o' h=>(by cases h),List.nodup_nil,fun b h=>h.elim,fun b h=>Nat.lt_of_lt_of_le (S.xlt b h) hsz,S.siz,?_,fun s e h=>S.grd s e (List.mem_filter.1 h).1,?_,S.dno⟩
 · intro s e h
   obtain ⟨h0,hf⟩:=List.mem_filter.1 h
   obtain ⟨h1,h2,h3⟩:=S.tmp s e h0
   refine ⟨h1,fun ho=>?_,h3⟩
   have h4:=h2 ho
   have hf:scalE e.v=true:=hf
   show DenE P _ _ _ e.v _
   generalize a.eval (.tmp s)=v at h4
   generalize e.v=ev at h4 hf
   cases h4 with
   | p hp=>exact .p (scalS_ok hp hf)
   | yield=>exact .yield
   | any=>exact .any
   | _=>cases hf
 · intro d h
   obtain ⟨D,e,q1,q2,q3,q4⟩:=S.dfr d h
   exact ⟨D,e,(hb D (S.xlt D q2) q2).trans q1,q2,fun h=>h,fun k o h=>(by cases h)⟩
theorem guardP_of {gd:Option (Nat × Bool × Bool)} {p:Prop} (h:p):guardP gd p:=by
 unfold guardP;split
 · exact h
 · exact fun _=>h
theorem callSpec_ok (hG:Stable G) (S:SatC P G st a w env M X) {C:Cfg} {gd:Option (Nat × Bool × Bool)} (hgd:GdOk a gd) (hh:holdsG gd) {dst:Option Nat} (hd:∀ t,dst=some t -> t < st.nt) (hq:∀ q c x,gd=some (q,c,x) -> dst ≠ some q)
   {sides:List Prop} {args:List EV} {L:List Nat} {sp:Spec} {K:St -> Prop} (h:callSpec C st gd dst sides args L sp K) {f:Nat} {vals:List Value} (hargs:ArgsOk P (lentM M env L) w args vals) (hlt:∀ b,lentM M env L b -> b < w.heap.size)
   (hsp:SpecOk P f sp) (hLown:∀ r,r ∈ L -> ∃ o,(r,o) ∈ st.own):CallsIn Fence.wide 0 P f vals.toArray w (fun e w'=>∃ v,e=.returned v /\ ∃ st',K st' /\ Sat P G st' (a.put dst v) w'):=by
 have mono:∀ {R R':Ending -> World -> Prop},CallsIn Fence.wide 0 P f vals.toArray w R -> (∀ e w',R e w' -> R' e w') -> CallsIn Fence.wide 0 P f vals.toArray w R' :=
   fun h1 h2=>callsIn_wide.2 ((callsIn_wide.1 h1).mono h2)
 cases sp with
 | fn pre res =>
   simp only [callSpec] at h
   obtain ⟨h1,h2⟩:=conj_spec h
   have h1:=wrapG_all h1 hh
   have hp:pre args:=h1 _ (by simp)
   split at h2
   · rename_i hL
     refine mono (hsp _ w args vals hlt hargs hp) fun e w' hg=>?_
     obtain ⟨v,rfl,hs⟩:=gives_ok hG S hgd hh hd hq hL hg
     exact ⟨v,rfl,_,h2,hs⟩
   · exact h2.elim
 | rel T t0 pre post res =>
   simp only [callSpec] at h
   obtain ⟨h1,h2⟩:=conj_spec h
   have h1:=wrapG_all h1 hh
   have hp:pre args:=h1 _ (by simp)
   refine mono (hsp _ w args vals hlt hargs hp) fun e w' ⟨t,ht,hg⟩=>?_
   have h3:=h2 t (guardP_of ht)
   split at h3
   · rename_i hL
     obtain ⟨v,rfl,hs⟩:=gives_ok hG S hgd hh hd hq hL hg
     exact ⟨v,rfl,_,h3,hs⟩
   · exact h3.elim
 | fresh T t0 pre post e0 sz n get =>
   simp only [callSpec] at h
   obtain ⟨h1,h2⟩:=conj_spec h
   have h1:=wrapG_all h1 hh
   have hp:pre args:=h1 _ (by simp)
   refine mono (hsp _ w args vals hlt hargs hp) fun e w' ⟨t,ht,env',v,he,hb,ho,hrv,hat⟩=>?_
   subst he
   refine ⟨v,rfl,?_⟩
   have h30:=h2 t (guardP_of ht)
   have hL:=(conj_spec h30).1
   have h3:=(conj_spec h30).2
   clear h30 h2
   have hlt:∀ b,lentM M env [] b -> b < w.heap.size:=fun b hb=>hlt b (by
     rcases hb with hb | ⟨_,hb,_⟩
     · exact .inl hb
     · simp at hb)
   have ho:OwnOk P (fun b=>lentM M env [] b \/ (w.heap.size <= b /\ b < w'.heap.size /\ env'.at_ 0 ≠ some b)) w' env' 0 (.row e0 sz (n args t) (get args t)):=by
     cases L with
     | nil=>exact ho
     | cons r L =>
       have hnm:∀ i,i < n args t -> noMem.noMems (get args t i)=true:=all_one hL
       obtain ⟨hm,hgl,h4⟩:=ho
       refine ⟨hm,hgl,?_⟩
       rcases h4 with h4 | ⟨g,cap,cur,h5,h6,h7,h8,h9,h10,h11⟩
       · exact .inl h4
       · exact .inr ⟨g,cap,cur,h5,h6,h7,h8,h9,h10,fun i hi j hj=>⟨(h11 i hi j hj).1,noMem_ok (h11 i hi j hj).2 (noMem_ok.noMems_at (hnm i hi) j (by rw [hgl i hi];exact hj))⟩⟩
   split at h3
   · have S':=S.grow hG (same_below hb) (M':=M) (fun b h=>h) (fun b h=>.inl h) (fun b h=>Nat.lt_of_lt_of_le (S.mlt b h) hb.size)
     exact ⟨_,h3,_,_,_,S'⟩
   · rename_i d
     have ho0:=ho
     obtain ⟨hm,hgl,h4⟩:=ho
     have hr:∃ A k c,v=.slice A k c:=by
       rw [<- hrv]
       rcases h4 with ⟨_,h4,_⟩ | ⟨g,cap,cur,_,h4,_⟩ <;> rw [h4] <;> exact ⟨_,_,_,rfl⟩
     obtain ⟨A,k,c,hv⟩:=hr
     split at h3
     · split at h3
       · split at h3
         · rename_i hn
           -- an own row
           let env2:Env:={ env with at_:=fun j=>if j=d then env'.at_ 0 else env.at_ j,rv:=fun j=>if j=d then v else env.rv j }
           have e1:env2.at_ d=env'.at_ 0:=by simp [env2]
           have e2:env2.rv d=v:=by simp [env2]
           obtain ⟨X',S'⟩:=(S.forget d).newOwn hG (hd d rfl) hn (fun s e h=>forget_T h) (same_below hb) (env':=env2) (fun j hj=>by simp [env2,hj]) rfl
             (fun g hg=>by rw [e1] at hg;exact hat g hg) (M':=fun b=>lentM M env [] b \/ (w.heap.size <= b /\ b < w'.heap.size /\ env'.at_ 0 ≠ some b)) (fun b hb=>.inl (.inl hb))
             (fun b hb=>by
               rcases hb with (hb | ⟨_,hb,_⟩) | hb
               · exact .inl hb
               · simp at hb
               · exact .inr ⟨hb.1,by rw [e1];exact hb.2.2⟩)
             (fun b hb'=>by
               rcases hb' with hb' | hb'
               · exact Nat.lt_of_lt_of_le (hlt b hb') hb.size
               · exact hb'.2.1)
             (o:=.row e0 sz (n args t) (get args t)) ⟨hm,hgl,by rw [e1,e2,<- hrv];exact h4⟩
           subst hv
           exact ⟨_,h3,_,_,_,S'.put0 hd (.row e2)⟩
         · exact h3.elim
       · exact h3.elim
     · have S' := S.grow hG (same_below hb) (M' := fun b => M b \/ (w.heap.size <= b /\ b < w'.heap.size)) (fun b h => .inl h) (fun b h => by rcases h with h | h; exact .inl h; exact .inr h.1)
         (fun b h=>by rcases h with h | h;exact Nat.lt_of_lt_of_le (S.mlt b h) hb.size;exact h.2)
       refine ⟨_,h3,_,_,_,S'.putG hgd hd hq (fun _=>.p ?_) (fun hn=>absurd hh hn)⟩
       rw [<- hrv]
       have hw:∀ b,(lentM M env [] b \/ (w.heap.size <= b /\ b < w'.heap.size /\ env'.at_ 0 ≠ some b)) -> (M b \/ (w.heap.size <= b /\ b < w'.heap.size)):=fun b hb=>by
         rcases hb with (hb | ⟨_,hb,_⟩) | hb
         · exact .inl hb
         · simp at hb
         · exact .inr ⟨hb.1,hb.2.1⟩
       rcases h4 with ⟨_,hrv',hn0⟩ | ⟨g,cap,cur,hg',hrv',hh',hnc,hcm,hcs,hd'⟩
       · rw [hrv',hn0]
         exact .sl _ _ _ _ _ (fun _ _=>undef) (Nat.le_refl _) (Nat.zero_le _) (fun h=>by omega) (fun i hi=>by omega) (fun i hi=>by omega) (fun i hi=>by omega)
       · rw [hrv']
         refine .sl _ _ _ _ _ (fun i j=>cur.getD (i * sz+j) undef) hnc hm (fun _=>⟨_,rfl,.inr (hat g hg'),fun i hi j hj=>?_⟩) hgl (fun i hi j hj=>(hd' i hi j hj).1) (fun i hi j hj=>(hd' i hi j hj).2.weak hw)
         have:=idx_lt (sz:=sz) (len:=cap) (Nat.lt_of_lt_of_le hi hnc) hj
         rw [add_mk,Nat.zero_add,cell_blk_lt hh' (by omega)]
theorem slOf_ok (S:SatC P G st a w env M X) {sz:Nat} {e:EV} {ps:List Prop} {m:Nat} {get:Nat -> List SV} (h:slOf st sz e=some (ps,m,get)) (hp:all ps)
   {v:Value} (hv:DenE P M w env e v):∃ L,DenP (lentM M env L) w (.sl sz m get) v /\ ∀ r,r ∈ L -> ∃ o,(r,o) ∈ st.own:=by
 have hw:∀ L b,M b -> lentM M env L b:=fun L b hb=>.inl hb
 cases e with
 | p s =>
   cases s with
   | sl sz' n' g' =>
     simp only [slOf] at h
     split at h
     · rename_i hs;subst hs
       cases h
       rcases hv with ⟨hv⟩
       exact ⟨[],hv.weak (hw []),fun r hr=>by simp at hr⟩
     · cases h
   | raw v' =>
     unfold slOf at h
     split at h
     · rename_i heq;cases heq
     · rename_i heq;cases heq
       cases h
       rcases hv with ⟨hv⟩
       cases hv
       exact ⟨[],.sl _ _ _ _ _ (fun _ _=>undef) (Nat.le_refl _) (Nat.zero_le _) (fun h=>by omega) (fun i hi=>by omega) (fun i hi=>by omega) (fun i hi=>by omega),fun r hr=>by simp at hr⟩
     · rename_i heq;cases heq
     · rename_i heq;cases heq
     · rename_i heq;cases heq
     · cases h
   | _=>simp [slOf] at h
 | full q sz' n' g' =>
   simp only [slOf] at h
   split at h
   · rename_i hs;subst hs
     cases h
     cases hv with
     | full hv _=>exact ⟨[],hv.weak (hw []),fun r hr=>by simp at hr⟩
   · cases h
 | row r =>
   simp only [slOf] at h
   split at h
   · rename_i e' sz' n' g' hl
     split at h
     · rename_i hs;subst hs
       cases h
       cases hv with
       | row hrv =>
       have:=row_den S (lookupO_mem hl) (M':=lentM M env [r]) (hw _) (fun g hg=>.inr ⟨r,by simp,hg⟩)
       rw [hrv] at this
       exact ⟨[r],this,fun r' hr'=>by simp at hr';subst hr';exact ⟨_,lookupO_mem hl⟩⟩
     · cases h
   · cases h
 | rsub r sz1 lo n1 =>
   simp only [slOf] at h
   split at h
   · rename_i e' sz' n' g' hl
     split at h
     · rename_i hs
       obtain ⟨rfl,rfl⟩:=hs
       cases h
       exact ⟨[r],rsub_den S (lookupO_mem hl) (M':=lentM M env [r]) (hw _) (fun g hg=>.inr ⟨r,by simp,hg⟩) (all_one hp) hv,fun r' hr'=>by simp at hr';subst hr';exact ⟨_,lookupO_mem hl⟩⟩
     · cases h
   · cases h
 | _=>simp [slOf] at h
theorem sl_cells {M':Nat -> Prop} {sz m:Nat} {get:Nat -> List SV} {v:Value} (h:DenP M' w (.sl sz m get) v):∃ (A:Option Addr) (cap:Nat) (news:List Value),v=.slice A m cap /\ m <= cap /\ news.length=m * sz /\ (A=none -> m=0) /\ (∀ ad,A=some ad -> 0 < m -> ∀ j u,news[j]? = some u -> w.cell? (ad.add j)=some u) /\
   (∀ u:Value,u ∈ news -> u.oneCell'=true) /\ (∀ i,i < m -> (get i).length=sz) /\ ∀ i,i < m -> ∀ j,j < sz -> DenP M' w (SV.at (get i) j) (news.getD (i * sz+j) undef):=by
 cases h with
 | sl _ _ _ A cap vs hcap hm hA hg ho hd =>
   have hAn:A=none -> m=0:=fun h=>by
     rcases Nat.eq_zero_or_pos m with h0 | h0
     · exact h0
     · obtain ⟨ad,e,_⟩:=hA h0;rw [h] at e;cases e
   by_cases hsz:sz=0
   · subst hsz
     exact ⟨A,cap,[],rfl,hcap,by simp,hAn,fun ad _ _ j u hu=>by simp at hu,fun u hu=>by simp at hu,hg,fun i hi j hj=>by omega⟩
   have hpos:0 < sz:=Nat.pos_of_ne_zero hsz
   have key:∀ k,k < m * sz -> k / sz < m /\ k % sz < sz /\ k / sz * sz+k % sz=k:=fun k hk=>⟨Nat.div_lt_of_lt_mul (by rw [Nat.mul_comm];exact hk),Nat.mod_lt _ hpos,by rw [Nat.mul_comm];exact Nat.div_add_mod k sz⟩
   refine ⟨A,cap,(List.range (m * sz)).map fun k=>vs (k / sz) (k % sz),rfl,hcap,by simp,hAn,fun ad e h0 j u hu=>?_,fun u hu=>?_,hg,fun i hi j hj=>?_⟩
   · obtain ⟨ad',e',_,hc⟩:=hA h0
     rw [e] at e';cases e'
     have hj:j < m * sz:=by have:=(List.getElem?_eq_some_iff.1 hu).1;simpa using this
     obtain ⟨k1,k2,k3⟩:=key j hj
     have:=hc _ k1 _ k2
     rw [k3] at this
     rw [this]
     simp [hj] at hu
     rw [hu]
   · obtain ⟨k,hk,rfl⟩:=List.mem_map.1 hu
     have hk:k < m * sz:=by simpa using hk
     obtain ⟨k1,k2,_⟩:=key k hk
     exact ho _ k1 _ k2
   · have hlt:=idx_lt (sz:=sz) hi hj
     rw [List.getD_eq_getElem?_getD]
     simp only [List.getElem?_map,List.getElem?_range hlt,Option.map_some,Option.getD_some]
     have h1:(i * sz+j) / sz=i:=by rw [Nat.mul_comm,Nat.mul_add_div hpos,Nat.div_eq_of_lt hj,Nat.add_zero]
     have h2:(i * sz+j) % sz=j:=by rw [Nat.mul_comm,Nat.mul_add_mod,Nat.mod_eq_of_lt hj]
     rw [h1,h2]
     exact hd i hi j hj
theorem run_append_none {t ty e:TypeId} {y:Ty} (ht:P.underlying t=some (.slice e)) (hy:tyOf P e=some y) {v:Value} {n:Nat} {xs:List Value} (hown:w.ownsRow 0 e y.size v n xs) (c:Nat) :
   (Builtin.append_ #[t,t] ty #[v,.slice none 0 c]).run P w=.ok v w:=by
 obtain ⟨i,hi,hz,hs,hb,_⟩:=tyOf_spec hy
 rcases hown.2 with ⟨rfl,rfl⟩ | ⟨g,cap,cur,rfl,_,_,hnc,_⟩
 · simp [Builtin.append_,run_underlying ht,sizeOf,typeInfo,hi,Builtin.lenOf,Builtin.firstCells]
 · simp [Builtin.append_,run_underlying ht,sizeOf,typeInfo,hi,Builtin.lenOf,Builtin.firstCells,hnc,storeCells]
theorem append_drawn {t ty e:TypeId} {y:Ty} (hy:tyOf P e=some y) (ht:P.underlying t=some (.slice e)) {v:Value} {n:Nat} {xs:List Value} (hown:w.ownsRow 0 e y.size v n xs) (hsz:0 < y.size) (_:y.zero.cells.size=y.size)
   {ad:Addr} {m cap:Nat} {news:List Value} (hl:news.length=m * y.size) (hc:∀ j u,news[j]? = some u -> w.cell? (ad.add j)=some u) (h1:∀ u,u ∈ news -> u.oneCell'=true)
   (h63:n+m <= maxLen) (hbytes:(n+m) * y.bytes <= 140737488355328) {v':Value} {w':World} (hrun:(Builtin.append_ #[t,t] ty #[v,.slice (some ad) m cap]).run P w=.ok v' w'):w.drawn <= w'.drawn:=by
 obtain ⟨i,hi,hz,hs,hb,_⟩:=tyOf_spec hy
 have hsmall:n+m <= 9223372036854775807:=by simp only [maxLen] at h63;omega
 rcases hown.2 with ⟨rfl,rfl⟩ | ⟨g,cp,cur,rfl,_,hg,hnc,_,hcs,_⟩
 · by_cases hm:m=0
   · subst hm
     have hn:news = []:=List.eq_nil_of_length_eq_zero (by simpa using hl)
     subst hn
     simp [Builtin.append_,run_underlying ht,sizeOf,typeInfo,hi,Builtin.lenOf,Builtin.firstCells,loadCells,loadCellsFrom] at hrun
     rw [<- hrun.2];exact Nat.le_refl _
   · have hr:=run_append_nil (P:=P) w t ty e i y.zero ht hi hz ad m cap news (by rw [hl,hs]) hc (by omega) (by omega) (by rw [hb];have h:=hbytes;rw [Nat.zero_add] at h;omega)
     rw [hr] at hrun
     cases hrun
     exact Nat.le_succ _
 · by_cases hroom:n+m <= cp
   · have hfit:n * i.size+news.length <= cur.size:=by rw [hl,hcs,hs,<- Nat.add_mul];exact Nat.mul_le_mul_right _ hroom
     have hr:=run_append_room (P:=P) w t ty e i ht hi g n cp cur hg ad m cap news (by rw [hl,hs]) hc h1 hroom hfit
     rw [hr] at hrun
     cases hrun
     exact Nat.le_refl _
   · have hr:=run_append_grow (P:=P) w t ty e i y.zero ht hi hz ⟨g,0,none⟩ n cp xs (by rw [hown.1,hs]) (fun j u hu=>hown.cells (g:=g) rfl j u hu) ad m cap news (by rw [hl,hs]) hc (by omega) (by omega) (growslice_fits (by omega) (by rw [hb];exact hbytes))
     rw [hr] at hrun
     cases hrun
     exact Nat.le_succ _
theorem run_append_all {t ty e:TypeId} {y:Ty} (ht:P.underlying t=some (.slice e)) (hy:tyOf P e=some y) (hsz:0 < y.size) (hzs:y.zero.cells.size=y.size) {v:Value} {n:Nat} {xs:List Value} (hown:w.ownsRow 0 e y.size v n xs)
   {A:Option Addr} {m cap:Nat} {news:List Value} (hl:news.length=m * y.size) (hA:A=none -> m=0) (hc:∀ ad,A=some ad -> 0 < m -> ∀ j u,news[j]? = some u -> w.cell? (ad.add j)=some u) (h1:∀ u,u ∈ news -> u.oneCell'=true)
   (h63:n+m <= maxLen) (hbytes:(n+m) * y.bytes <= 140737488355328) :
   ∃ v' w',(Builtin.append_ #[t,t] ty #[v,.slice A m cap]).run P w=.ok v' w' /\ w'.ownsRow 0 e y.size v' (n+m) (xs ++ news) /\ w.grownBy w' v.ownBlock /\ (v'.ownBlock=v.ownBlock \/ v'.ownBlock=some w.heap.size) /\ w.drawn <= w'.drawn:=by
 obtain ⟨i,hi,hz,hs,hb,_⟩:=tyOf_spec hy
 cases A with
 | none =>
   have:=hA rfl
   subst this
   have:news = []:=List.eq_nil_of_length_eq_zero (by simpa using hl)
   subst this
   exact ⟨v,w,run_append_none ht hy hown cap,by simpa using hown,World.grownBy.refl w _,.inl rfl,Nat.le_refl _⟩
 | some ad =>
   have hcells:∀ j u,news[j]? = some u -> w.cell? (ad.add j)=some u:=fun j u hu=>by
     rcases Nat.eq_zero_or_pos m with h0 | h0
     · subst h0
       have:news = []:=List.eq_nil_of_length_eq_zero (by simpa using hl)
       subst this
       simp at hu
     · exact hc ad rfl h0 j u hu
   obtain ⟨v',w',h2,h3,h4,_,h5⟩:=run_append_own_at (P:=P) w 0 t ty e i y.zero y.size y.bytes ht hi hz hs hb hzs hsz v n xs hown ad m cap news hl hcells h1 h63 hbytes (Nat.zero_le _)
   exact ⟨v',w',h2,h3,h4,h5,append_drawn hy ht hown hsz hzs hl hcells h1 h63 hbytes h2⟩
end Go.SE
namespace Go.SE
open Go.RowKit
variable {P:Program} {M:Nat -> Prop} {w:World} {G:Ctx} {st:St} {a:Act} {env:Env} {X:Nat -> Prop}
def CellsOf (M:Nat -> Prop) (w:World) (sz m:Nat) (get:Nat -> List SV) (v:Value):Prop :=
 ∃ (A:Option Addr) (cap:Nat) (news:List Value),v=.slice A m cap /\ news.length=m * sz /\ (A=none -> m=0) /\ (∀ ad,A=some ad -> 0 < m -> ∀ j u,news[j]? = some u -> w.cell? (ad.add j)=some u) /\
   (∀ u:Value,u ∈ news -> u.oneCell'=true) /\ (∀ i,i < m -> (get i).length=sz) /\ ∀ i,i < m -> ∀ j,j < sz -> DenP M w (SV.at (get i) j) (news.getD (i * sz+j) undef)
theorem cellsOf_p {sz m:Nat} {get:Nat -> List SV} {v:Value} (h:DenP M w (.sl sz m get) v):CellsOf M w sz m get v:=by
 obtain ⟨A,cap,news,h1,_,h2⟩:=sl_cells h
 exact ⟨A,cap,news,h1,h2⟩
theorem cellsOf_at {sz m:Nat} {get:Nat -> List SV} {v:Value} {M':Nat -> Prop} (h:CellsOf M' w sz m get v) (f:Nat -> Nat -> Value) (hf:∀ ad cap,v=.slice (some ad) m cap -> ∀ i,i < m -> ∀ j,j < sz -> w.cell? (ad.add (i * sz+j))=some (f i j) /\ DenP M w (SV.at (get i) j) (f i j)):CellsOf M w sz m get v:=by
 obtain ⟨A,cap,news,rfl,h1,h2,h3,h4,h5,h6⟩:=h
 refine ⟨A,cap,news,rfl,h1,h2,h3,h4,h5,fun i hi j hj=>?_⟩
 cases A with
 | none=>have:=h2 rfl;omega
 | some ad =>
   obtain ⟨k1,k2⟩:=hf ad cap rfl i hi j hj
   have hlt:=idx_lt (sz:=sz) hi hj
   have:=h3 ad rfl (by omega) (i * sz+j) (news.getD (i * sz+j) undef) (by rw [List.getD_eq_getElem?_getD,List.getElem?_eq_getElem (by omega)];rfl)
   rw [k1] at this
   injection this with this
   rw [<- this];exact k2
theorem slOf_cells (S:SatC P G st a w env M X) {sz:Nat} {e:EV} {ps:List Prop} {m:Nat} {get:Nat -> List SV} (h:slOf st sz e=some (ps,m,get)) (hp:all ps)
   {v:Value} (hv:DenE P M w env e v):CellsOf M w sz m get v:=by
 have hv0:=hv
 obtain ⟨L,hd,_⟩:=slOf_ok S h hp hv
 have hc:=cellsOf_p hd
 cases e with
 | p s =>
   cases s with
   | sl sz' n' g' =>
     simp only [slOf] at h
     split at h
     · rename_i hs;subst hs
       cases h
       rcases hv with ⟨hv⟩
       exact cellsOf_p hv
     · cases h
   | raw v' =>
     refine cellsOf_at hc (fun _ _=>undef) (fun ad cap e i hi=>?_)
     unfold slOf at h
     split at h
     · rename_i heq;cases heq
     · cases h;omega
     · rename_i heq;cases heq
     · rename_i heq;cases heq
     · rename_i heq;cases heq
     · cases h
   | _=>simp [slOf] at h
 | full q sz' n' g' =>
   simp only [slOf] at h
   split at h
   · rename_i hs;subst hs
     cases h
     cases hv with
     | full hv _=>exact cellsOf_p hv
   · cases h
 | row r =>
   simp only [slOf] at h
   split at h
   · rename_i e' sz' n' g' hl
     split at h
     · rename_i hs;subst hs
       cases h
       obtain ⟨_,_,hO⟩:=S.own _ _ (lookupO_mem hl)
       cases hv with
       | row hrv =>
       rcases hO with ⟨_,hrv',hn⟩ | ⟨g,cap,cur,hg,hrv',hh,hnc,hcm,hcs,hd'⟩
       · exact cellsOf_at hc (fun _ _=>undef) (fun ad cap e i hi=>by omega)
       · rw [hrv'] at hrv;cases hrv
         refine cellsOf_at hc (fun i j=>cur.getD (i * sz'+j) undef) (fun ad cap' e i hi j hj=>?_)
         cases e
         have:=idx_lt (sz:=sz') (Nat.lt_of_lt_of_le hi hnc) hj
         exact ⟨by rw [add_mk,Nat.zero_add,cell_blk_lt hh (by omega)],(hd' i hi j hj).2⟩
     · cases h
   · cases h
 | rsub r sz1 lo n1 =>
   simp only [slOf] at h
   split at h
   · rename_i e' sz' n' g' hl
     split at h
     · rename_i hs
       obtain ⟨rfl,rfl⟩:=hs
       cases h
       have hle:lo+m <= n':=all_one hp
       obtain ⟨_,_,hO⟩:=S.own _ _ (lookupO_mem hl)
       cases hv with
       | rsub A cap0 hc0 hm0 hA =>
       rcases hO with ⟨_,hrv',hn⟩ | ⟨g,cap,cur,hg,hrv',hh,hnc,hcm,hcs,hd'⟩
       · exact cellsOf_at hc (fun _ _=>undef) (fun ad cap e i hi=>by omega)
       · refine cellsOf_at hc (fun i j=>cur.getD ((lo+i) * sz1+j) undef) (fun ad cap' e i hi j hj=>?_)
         cases e
         obtain ⟨g',hg',e⟩:=hA (by omega)
         rw [hg] at hg';cases hg'
         cases e
         have:=idx_lt (i:=lo+i) (sz:=sz1) (len:=cap) (by omega) hj
         exact ⟨by rw [add_mk,show lo * sz1+(i * sz1+j)=(lo+i) * sz1+j by rw [Nat.add_mul,Nat.add_assoc],cell_blk_lt hh (by omega)],(hd' _ (by omega) j hj).2⟩
     · cases h
   · cases h
 | _=>simp [slOf] at h
theorem append_row {e:TypeId} {y:Ty} {n m:Nat} {get get2:Nat -> List SV} {xs news:List Value} {w':World} {v':Value} {env':Env} {k:Nat} (hl:Later M M w w')
   (hxl:xs.length=n * y.size) (hgl:∀ i,i < n -> (get i).length=y.size) (hgl2:∀ i,i < m -> (get2 i).length=y.size) (hnl:news.length=m * y.size) (hx1:∀ u,u ∈ xs -> u.oneCell'=true) (hn1:∀ u,u ∈ news -> u.oneCell'=true)
   (hdx:∀ i,i < n -> ∀ j,j < y.size -> DenP M w (SV.at (get i) j) (xs.getD (i * y.size+j) undef)) (hdn:∀ i,i < m -> ∀ j,j < y.size -> DenP M w (SV.at (get2 i) j) (news.getD (i * y.size+j) undef))
   (hown:w'.ownsRow 0 e y.size v' (n+m) (xs ++ news)) (hm:n+m <= maxLen) (hat:env'.at_ k=v'.ownBlock) (hrv:env'.rv k=v'):OwnOk P M w' env' k (.row e y.size (n+m) (appGet n get get2)):=by
 refine ⟨hm,fun i hi=>?_,?_⟩
 · unfold appGet;split
   · rename_i h;exact hgl i h
   · exact hgl2 _ (by omega)
 · rcases hown.2 with ⟨rfl,h0⟩ | ⟨g,cap,cur,rfl,_,hh,hnc,hcm,hcs,htake⟩
   · exact .inl ⟨by rw [hat];rfl,hrv,h0⟩
   · refine .inr ⟨g,cap,cur,by rw [hat];rfl,hrv,hh,hnc,hcm,hcs,fun i hi j hj=>?_⟩
     have hlt:=idx_lt (sz:=y.size) hi hj
     have hlt2:=idx_lt (sz:=y.size) (Nat.lt_of_lt_of_le hi hnc) hj
     have e1:cur.getD (i * y.size+j) undef=(xs ++ news).getD (i * y.size+j) undef:=by
       rw [<- htake,List.getD_eq_getElem?_getD,List.getElem?_take_of_lt hlt,Array.getD_eq_getD_getElem?];simp
     rw [e1]
     unfold appGet
     by_cases hin:i < n
     · have hltn:=idx_lt (sz:=y.size) hin hj
       rw [if_pos hin,List.getD_eq_getElem?_getD,List.getElem?_append_left (by omega),<- List.getD_eq_getElem?_getD]
       refine ⟨?_,(hdx i hin j hj).later hl⟩
       rw [List.getD_eq_getElem?_getD,List.getElem?_eq_getElem (by omega)]
       exact hx1 _ (List.getElem_mem _)
     · have hge:n * y.size <= i * y.size:=Nat.mul_le_mul_right _ (by omega)
       have hsub:i * y.size+j - n * y.size=(i - n) * y.size+j:=by rw [Nat.sub_mul];omega
       have hltm:=idx_lt (i:=i - n) (sz:=y.size) (len:=m) (by omega) hj
       rw [if_neg hin,List.getD_eq_getElem?_getD,List.getElem?_append_right (by omega),hxl,hsub,<- List.getD_eq_getElem?_getD]
       refine ⟨?_,(hdn _ (by omega) j hj).later hl⟩
       rw [List.getD_eq_getElem?_getD,List.getElem?_eq_getElem (by omega)]
       exact hn1 _ (List.getElem_mem _)
theorem run_append_full {t ty e:TypeId} {y:Ty} (ht:P.underlying t=some (.slice e)) (hy:tyOf P e=some y) {A0 A:Option Addr} {n m cap:Nat} {olds news:List Value} (hol:olds.length=n * y.size) (hA0:A0=none -> n=0)
   (hoc:∀ ad,A0=some ad -> 0 < n -> ∀ j u,olds[j]? = some u -> w.cell? (ad.add j)=some u) (hl:news.length=m * y.size) (hA:A=none -> m=0) (hc:∀ ad,A=some ad -> 0 < m -> ∀ j u,news[j]? = some u -> w.cell? (ad.add j)=some u)
   (hm0:0 < m) (h63:n+m <= maxLen) (hbytes:(n+m) * y.bytes <= 140737488355328) :
   ∃ c zs,(Builtin.append_ #[t,t] ty #[.slice A0 n n,.slice A m cap]).run P w=.ok (.slice (some ⟨w.heap.size,0,none⟩) (n+m) c) (w.drew.alloc (.cells ((olds ++ news).toArray ++ zs) e)) /\ n+m <= c:=by
 obtain ⟨i,hi,hz,hs,hb,_⟩:=tyOf_spec hy
 have hsmall:n+m <= 9223372036854775807:=by simp only [maxLen] at h63;omega
 cases A with
 | none=>exact absurd (hA rfl) (by omega)
 | some ad =>
   cases A0 with
   | none =>
     have:=hA0 rfl
     subst this
     have:olds = []:=List.eq_nil_of_length_eq_zero (by simpa using hol)
     subst this
     have hr:=run_append_nil (P:=P) w t ty e i y.zero ht hi hz ad m cap news (by rw [hl,hs]) (hc ad rfl hm0) hm0 (by omega) (by rw [hb];have h:=hbytes;rw [Nat.zero_add] at h;omega)
     refine ⟨_,_,by rw [hr];simp only [Nat.zero_add,List.nil_append];rfl,?_⟩
     rw [Nat.zero_add]
     exact grownCap_ge w m 0 e
   | some ad0 =>
     have hr := run_append_grow (P := P) w t ty e i y.zero ht hi hz ad0 n n olds (by rw [hol, hs]) (fun j u hu => by
         rcases Nat.eq_zero_or_pos n with h0 | h0
         · subst h0
           have:olds = []:=List.eq_nil_of_length_eq_zero (by simpa using hol)
           subst this
           simp at hu
         · exact hoc ad0 rfl h0 j u hu) ad m cap news (by rw [hl,hs]) (hc ad rfl hm0) (by omega) (by omega) (growslice_fits (by omega) (by rw [hb];exact hbytes))
     refine ⟨_,_,by rw [hr];simp only [List.append_toArray];rfl,?_⟩
     exact grownCap_ge w (n+m) n e
theorem full_ok (hG:Stable G) (S:SatC P G st a w env M X) {t e:TypeId} {y:Ty} {n m:Nat} {get get2:Nat -> List SV}
   (hu:P.underlying t=some (.slice e)) (hy:tyOf P e=some y) (hsz:0 < y.size) (hm0:0 < m) (hbytes:(n+m) * y.bytes <= 140737488355328) (hmax:n+m <= maxLen)
   {A:Option Addr} {cap:Nat} {news:List Value} (c1:news.length=m * y.size) (c2:A=none -> m=0) (c3:∀ ad,A=some ad -> 0 < m -> ∀ j u,news[j]? = some u -> w.cell? (ad.add j)=some u) (c4:∀ u,u ∈ news -> u.oneCell'=true)
   (c5:∀ i,i < m -> (get2 i).length=y.size) (c6:∀ i,i < m -> ∀ j,j < y.size -> DenP M w (SV.at (get2 i) j) (news.getD (i * y.size+j) undef)) {A0:Option Addr} (hs:DenP M w (.sl y.size n get) (.slice A0 n n)) (ty:TypeId) :
   ∃ v' w' M' X',(Builtin.append_ #[t,t] ty #[.slice A0 n n,.slice A m cap]).run P w=.ok v' w' /\ SatC P G st a w' env M' X' /\ DenP M' w' (.sl y.size (n+m) (appGet n get get2)) v':=by
 obtain ⟨A1,cap1,olds,he,_,o1,o2,o3,o4,o5,o6⟩:=sl_cells hs
 cases he
 obtain ⟨c,zs,hrun,hc⟩:=run_append_full (P:=P) (w:=w) (ty:=ty) (cap:=cap) hu hy o1 o2 o3 c1 c2 c3 hm0 hmax hbytes
 have hs1:=same_drew w
 have hs2:=same_alloc w.drew (.cells ((olds ++ news).toArray ++ zs) e)
 have hsame:Same (fun _=>False) w (w.drew.alloc (.cells ((olds ++ news).toArray ++ zs) e)):=⟨hs2.os.trans hs1.os,hs2.tape.trans hs1.tape,hs2.output.trans hs1.output,Nat.le_trans hs1.drawn hs2.drawn,Nat.le_trans hs1.size hs2.size,fun b hb h=>(hs2.block b hb h).trans (hs1.block b hb h)⟩
 have hsize:(w.drew.alloc (.cells ((olds ++ news).toArray ++ zs) e)).heap.size=w.heap.size+1:=by simp
 have hnew:(w.drew.alloc (.cells ((olds ++ news).toArray ++ zs) e)).heap[w.heap.size]? = some (.cells ((olds ++ news).toArray ++ zs) e (0,0)):=heap_alloc_new w.drew _
 have S':=S.grow hG hsame (M':=fun b=>M b \/ b=w.heap.size) (fun b h=>.inl h) (fun b h=>by rcases h with h | h;exact .inl h;exact .inr (by omega)) (fun b h=>by rcases h with h | h;exact Nat.lt_of_lt_of_le (S.mlt b h) hsame.size;rw [hsize];omega)
 have hlat:Later M (fun b=>M b \/ b=w.heap.size) w (w.drew.alloc (.cells ((olds ++ news).toArray ++ zs) e)):=⟨hsame.size,fun b hb=>hsame.block b (S.mlt b hb) id,fun b hb=>.inl hb⟩
 refine ⟨_,_,_,_,hrun,S',?_⟩
 have hlen:(olds ++ news).length=(n+m) * y.size:=by rw [List.length_append,o1,c1,Nat.add_mul]
 have hget:∀ k,k < (n+m) * y.size -> (((olds ++ news).toArray ++ zs).getD k undef)=(olds ++ news).getD k undef:=fun k hk=>by
   rw [Array.getD_eq_getD_getElem?,Array.getElem?_append_left (by simpa [hlen] using hk),List.getD_eq_getElem?_getD];simp
 have key:∀ i,i < n+m -> ∀ j,j < y.size -> ((((olds ++ news).toArray ++ zs).getD (i * y.size+j) undef).oneCell'=true /\ DenP M w (SV.at (appGet n get get2 i) j) (((olds ++ news).toArray ++ zs).getD (i * y.size+j) undef)):=fun i hi j hj=>by
   have hlt:=idx_lt (sz:=y.size) hi hj
   rw [hget _ hlt]
   unfold appGet
   by_cases hin:i < n
   · have hltn:=idx_lt (sz:=y.size) hin hj
     rw [if_pos hin,List.getD_eq_getElem?_getD,List.getElem?_append_left (by omega),<- List.getD_eq_getElem?_getD]
     refine ⟨?_,o6 i hin j hj⟩
     rw [List.getD_eq_getElem?_getD,List.getElem?_eq_getElem (by omega)]
     exact o4 _ (List.getElem_mem _)
   · have hge:n * y.size <= i * y.size:=Nat.mul_le_mul_right _ (by omega)
     have hsub:i * y.size+j - n * y.size=(i - n) * y.size+j:=by rw [Nat.sub_mul];omega
     have hltm:=idx_lt (i:=i - n) (sz:=y.size) (len:=m) (by omega) hj
     rw [if_neg hin,List.getD_eq_getElem?_getD,List.getElem?_append_right (by omega),o1,hsub,<- List.getD_eq_getElem?_getD]
     refine ⟨?_,c6 _ (by omega) j hj⟩
     rw [List.getD_eq_getElem?_getD,List.getElem?_eq_getElem (by omega)]
     exact c4 _ (List.getElem_mem _)
 refine .sl _ _ _ _ _ (fun i j=>((olds ++ news).toArray ++ zs).getD (i * y.size+j) undef) hc hmax (fun _=>⟨_,rfl,.inr rfl,fun i hi j hj=>?_⟩) (fun i hi=>?_) (fun i hi j hj=>(key i hi j hj).1) (fun i hi j hj=>(key i hi j hj).2.later hlat)
 · have hlt:=idx_lt (sz:=y.size) hi hj
   rw [add_mk,Nat.zero_add,cell_blk_lt hnew (by simp [hlen] at *;omega)]
 · unfold appGet;split
   · rename_i h;exact o5 i h
   · exact c5 _ (by omega)
theorem stepAppend_ok (hG:Stable G) (S:SatC P G st a w env M X) {t:TypeId} {d:Nat} {s x:EV} {K:St -> Prop} (h:stepAppend P st t d s x K) (hd:d < st.nt) {vs vx:Value} (hs:DenE P M w env s vs) (hx:DenE P M w env x vx) (ty:TypeId) :
   ∃ v' w',(Builtin.append_ #[t,t] ty #[vs,vx]).run P w=.ok v' w' /\ ∃ st',K st' /\ Sat P G st' (a.put (some d) v') w':=by
 unfold stepAppend at h
 split at h
 · rename_i e hu
   split at h
   · rename_i y hy
     split at h
     · rename_i sides m get2 hsl
       split at h
       · rename_i hc
         obtain ⟨hb,hsz,hzs⟩:=hc
         split at h
         · rename_i r
           split at h
           · rename_i e' sz n get hl
             split at h
             · rename_i hc2
               obtain ⟨rfl,rfl,hxr,hrn⟩:=hc2
               obtain ⟨hp,hk⟩:=conj_spec h
               obtain ⟨hp1,hp2⟩:=all_append hp
               have hbytes:(n+m) * y.bytes <= 140737488355328:=all_one hp2
               have hmax:=le_maxLen_of_bytes hb hbytes
               obtain ⟨A,cap,news,rfl,c1,c2,c3,c4,c5,c6⟩:=slOf_cells S hsl hp1 hx
               have hmem:=lookupO_mem hl
               obtain ⟨hm,hgl,hO⟩:=S.own _ _ hmem
               cases hs with
               | row hrv =>
               obtain ⟨xs,hxo,hx1,hxd,hob⟩:∃ xs,w.ownsRow 0 e' y.size (env.rv r) n xs /\ (∀ u,u ∈ xs -> u.oneCell'=true) /\ (∀ i,i < n -> ∀ j,j < y.size -> DenP M w (SV.at (get i) j) (xs.getD (i * y.size+j) undef)) /\ (env.rv r).ownBlock=env.at_ r:=by
                 rcases hO with ⟨h1,h2,h3⟩ | ⟨g,cap',cur,hg,hrv',hh,hnc,hcm,hcs,hd'⟩
                 · subst h3
                   exact ⟨[],by rw [h2];exact World.ownsRow_nil w 0 e' y.size,fun u hu=>by simp at hu,fun i hi=>by omega,by rw [h2,h1];rfl⟩
                 · have hle:n * y.size <= cap' * y.size:=Nat.mul_le_mul_right _ hnc
                   refine ⟨cur.toList.take (n * y.size),⟨by simp;omega,.inr ⟨g,cap',cur,hrv',Nat.zero_le _,hh,hnc,hcm,hcs,rfl⟩⟩,fun u hu=>?_,fun i hi j hj=>?_,by rw [hrv',hg];rfl⟩
                   · obtain ⟨k,hk,rfl⟩:=List.getElem_of_mem hu
                     have hk':k < n * y.size:=by simp at hk;omega
                     have h1:k / y.size < n:=Nat.div_lt_of_lt_mul (by rw [Nat.mul_comm];exact hk')
                     have h2:=(hd' _ h1 _ (Nat.mod_lt k hsz)).1
                     rw [show k / y.size * y.size+k % y.size=k by rw [Nat.mul_comm];exact Nat.div_add_mod k y.size] at h2
                     rw [Array.getD_eq_getD_getElem?,Array.getElem?_eq_getElem (by omega)] at h2
                     simpa using h2
                   · have:=idx_lt (sz:=y.size) hi hj
                     rw [List.getD_eq_getElem?_getD,List.getElem?_take_of_lt this]
                     have:=(hd' i hi j hj).2
                     rw [Array.getD_eq_getD_getElem?] at this
                     simpa using this
               obtain ⟨v',w',hrun,hown',hgr,hblk,hdr⟩:=run_append_all (P:=P) (ty:=ty) (cap:=cap) hu hy hsz hzs hxo c1 c2 c3 c4 hmax hbytes
               rw [hrv] at hrun
               let env2:Env:={ env with at_:=fun j=>if j=r then v'.ownBlock else env.at_ j,rv:=fun j=>if j=r then v' else env.rv j }
               have e1:env2.at_ r=v'.ownBlock:=by simp [env2]
               have e2:env2.rv r=v':=by simp [env2]
               have hs':Same (fun b=>env.at_ r=some b) w w':=⟨hgr.os,hgr.tape,hgr.output,hdr,hgr.size,fun b hb hne=>hgr.block b hb (fun e=>hne (by rw [<- hob];exact e.symm))⟩
               have hlat:Later M M w w':=⟨hgr.size,fun b hb=>hs'.block b (S.mlt b hb) (fun e=>(S.oat _ _ hmem b e).2.1 hb),fun b hb=>hb⟩
               have hnew:=append_row (P:=P) (env':=env2) (k:=r) hlat hxo.1 hgl c5 c1 hx1 c4 hxd c6 hown' hmax e1 e2
               have hmem':∃ o,(r,o) ∈ (st.scrub r).own:=⟨.row e' y.size n get,List.mem_map.2 ⟨(r,.row e' y.size n get),hmem,rfl⟩⟩
               obtain ⟨o0,ho0⟩:=hmem'
               have hlt':∀ g,v'.ownBlock=some g -> g < w'.heap.size:=fun g hg=>(hown'.lt g hg).2
               obtain ⟨X',S'⟩:=(scrub_ok S r).rerow hG hrn ho0 (fun s e h=>scrub_noT h) (fun k' o' h=>scrub_noO h) hs' (env':=env2) (fun j hj=>by simp [env2,hj]) rfl
                 (fun g hg=>by
                   rw [e1] at hg
                   refine ⟨?_,hlt' g hg⟩
                   rcases hblk with hb' | hb'
                   · left;rw [<- hob,<- hb'];exact hg
                   · right;rw [hb'] at hg;cases hg;exact Nat.le_refl _) hnew
               have hv':∃ A k c,v'=.slice A k c:=by
                 rcases hown'.2 with ⟨h,_⟩ | ⟨_,_,_,h,_⟩ <;> rw [h] <;> exact ⟨_,_,_,rfl⟩
               obtain ⟨A',k',c',rfl⟩:=hv'
               exact ⟨_,w',hrun,_,hk,_,_,_,S'.put0 (by intro t' ht;cases ht;exact hd) (.row e2)⟩
             · exact h.elim
           · exact h.elim
         · split at h
           · rename_i hn
             obtain ⟨hp,hk⟩:=conj_spec h
             obtain ⟨hp1,hp2⟩:=all_append hp
             have hbytes:m * y.bytes <= 140737488355328:=all_one hp2
             have hmax:=le_maxLen_of_bytes hb hbytes
             obtain ⟨A,cap,news,rfl,c1,c2,c3,c4,c5,c6⟩:=slOf_cells S hsl hp1 hx
             rcases hs with ⟨hs⟩
             cases hs
             obtain ⟨v',w',hrun,hown',hgr,hblk,hdr⟩:=run_append_all (P:=P) (ty:=ty) (cap:=cap) hu hy hsz hzs (World.ownsRow_nil w 0 e y.size) c1 c2 c3 c4 (by omega) (by simpa using hbytes)
             simp only [Nat.zero_add,List.nil_append] at hown'
             let env2:Env:={ env with at_:=fun j=>if j=d then v'.ownBlock else env.at_ j,rv:=fun j=>if j=d then v' else env.rv j }
             have e1:env2.at_ d=v'.ownBlock:=by simp [env2]
             have e2:env2.rv d=v':=by simp [env2]
             have hs':Same (fun _=>False) w w':=⟨hgr.os,hgr.tape,hgr.output,hdr,hgr.size,fun b hb _=>hgr.block b hb (by simp [Value.ownBlock])⟩
             have hlat:Later M M w w':=⟨hgr.size,fun b hb=>hs'.block b (S.mlt b hb) id,fun b hb=>hb⟩
             have hnew:=append_row (P:=P) (M:=M) (w:=w) (e:=e) (y:=y) (n:=0) (m:=m) (get:=fun _=>[]) (get2:=get2) (xs:=[]) (news:=news) (w':=w') (v':=v') (env':=env2) (k:=d) hlat (by simp) (fun i hi=>by omega) c5 c1 (fun u hu=>by simp at hu) c4 (fun i hi=>by omega) c6 (by simpa using hown') (by omega) e1 e2
             have hnew':OwnOk P M w' env2 d (.row e y.size m get2):=by
               have:appGet 0 (fun _=>[]) get2=get2:=by funext i;simp [appGet]
               rw [this,Nat.zero_add] at hnew
               exact hnew
             have hv':∃ A k c,v'=.slice A k c:=by
               rcases hown'.2 with ⟨h,_⟩ | ⟨_,_,_,h,_⟩ <;> rw [h] <;> exact ⟨_,_,_,rfl⟩
             obtain ⟨X',S'⟩:=(S.forget d).newOwn hG hd hn (fun s e h=>forget_T h) hs' (env':=env2) (fun j hj=>by simp [env2,hj]) rfl
               (fun g hg=>by
                 rw [e1] at hg
                 rcases hblk with hb' | hb'
                 · rw [hb'] at hg;cases hg
                 · rw [hb'] at hg;cases hg;exact ⟨Nat.le_refl _,(hown'.lt _ hb').2⟩)
               (M':=M) (fun b h=>h) (fun b h=>.inl h) (fun b h=>Nat.lt_of_lt_of_le (S.mlt b h) hgr.size) hnew'
             obtain ⟨A',k',c',rfl⟩:=hv'
             exact ⟨_,w',hrun,_,hk,_,_,_,S'.put0 (by intro t' ht;cases ht;exact hd) (.row e2)⟩
           · exact h.elim
         · rename_i sz n get
           split at h
           · rename_i hs2
             subst hs2
             obtain ⟨hp,hk⟩:=conj_spec h
             obtain ⟨hp1,hp2⟩:=all_append hp
             obtain ⟨hm0,hbytes⟩:=all_one hp2
             have hmax:=le_maxLen_of_bytes hb hbytes
             obtain ⟨A,cap,news,rfl,c1,c2,c3,c4,c5,c6⟩:=slOf_cells S hsl hp1 hx
             cases hs with
             | full hs hq =>
             obtain rfl:=hq.1 rfl
             obtain ⟨v',w',M',X',hrun,S',hden⟩:=full_ok hG S hu hy hsz hm0 hbytes hmax c1 c2 c3 c4 c5 c6 hs ty
             exact ⟨v',w',hrun,_,hk,_,_,_,S'.put0 (by intro t' ht;cases ht;exact hd) (.p hden)⟩
           · exact h.elim
         · exact h.elim
       · exact h.elim
     · exact h.elim
   · exact h.elim
 · exact h.elim
theorem run_append_zeros {t t' ty e:TypeId} {i:TypeInfo} {z:Value} {k' kk:IntKind} (ht:P.underlying t=some (.slice e)) (ht':P.underlying t'=some (.int k')) (hi:P.info? e=some i) (hz:i.zero=some z)
   {n:Int} (h0:0 < n) (h63:n <= 9223372036854775807) (h48:n * (i.bytes:Int) <= 281474976710656) (hsz:0 < i.size) :
   (Builtin.append_ #[t,t'] ty #[.slice none 0 0,.int kk n]).run P w =
     .ok (.slice (some ⟨w.heap.size,0,none⟩) n.toNat (grownCap w n.toNat 0 e)) (w.drew.alloc (.cells (Builtin.zeroCells z.cells n.toNat ++ Builtin.zeroCells z.cells (grownCap w n.toNat 0 e - n.toNat)) e)):=by
 have hw:IntKind.i64.wrap n=n:=by simp only [IntKind.wrap,IntKind.bits,IntKind.signed];simp;omega
 have h1:¬ n < 0:=by omega
 have h2:¬ (281474976710656 < n * (i.bytes:Int)):=by omega
 have h4:¬ (9223372036854775807 < max n 0):=by omega
 have h6:¬ n <= 0:=by omega
 have h5:¬ (281474976710656 < Builtin.nextslicecap n.toNat 0 * i.bytes):=by
   rw [nextslicecap_zero (by omega)]
   have:((n.toNat * i.bytes:Nat):Int)=n * (i.bytes:Int):=by rw [Int.natCast_mul,Int.toNat_of_nonneg (by omega)]
   omega
 simp [Builtin.append_,run_underlying ht,run_underlying ht',sizeOf,typeInfo,zeroValue,hi,hz,asInt,asIntOf,hw,h1,h2,h4,h5,h6,Question.forced,Builtin.firstCells,newRow,grownCap]
 intro h8
 exact absurd h8 (Nat.ne_of_gt (Nat.mul_pos (by omega) hsz))
theorem zeroCells_get {z:Array Value} {n k:Nat} (hz:0 < z.size) (hk:k < n * z.size):(Builtin.zeroCells z n).getD k undef=z.getD (k % z.size) undef:=by
 have hm:k % z.size < z.size:=Nat.mod_lt _ hz
 simp only [Builtin.zeroCells,Array.getD_eq_getD_getElem?]
 simp [hk,getElem!_pos z (k % z.size) hm]
 rw [Array.getElem?_eq_getElem hm];rfl
theorem stepZeros_ok (hG:Stable G) (S:SatC P G st a w env M X) {t t':TypeId} {d:Nat} {s x:EV} {K:St -> Prop} (h:stepZeros P st t t' d s x K) (hd:d < st.nt) {vs vx:Value} (hs:DenE P M w env s vs) (hx:DenE P M w env x vx) (ty:TypeId) :
   ∃ v' w',(Builtin.append_ #[t,t'] ty #[vs,vx]).run P w=.ok v' w' /\ ∃ st',K st' /\ Sat P G st' (a.put (some d) v') w':=by
 unfold stepZeros at h
 split at h
 · rename_i e k' kk n hu hu'
   split at h
   · rename_i y hy
     split at h
     · rename_i hc
       obtain ⟨⟨hb,hsz,hzs,hone⟩,hn⟩:=hc
       obtain ⟨hp,hk⟩:=conj_spec h
       obtain ⟨h0,h47⟩:=all_one hp
       obtain ⟨i,hi,hz,hsi,hby,_⟩:=tyOf_spec hy
       rcases hs with ⟨hs⟩
       cases hs
       rcases hx with ⟨hx⟩
       cases hx
       have hnb:n <= 140737488355328:=by
         have:n * 1 <= n * (y.bytes:Int):=Int.mul_le_mul_of_nonneg_left (by omega) (by omega)
         omega
       have hrun:=run_append_zeros (P:=P) (w:=w) (ty:=ty) (kk:=kk) hu hu' hi hz h0 (by omega) (by rw [hby];omega) (by rw [hsi];exact hsz)
       have hge:=grownCap_ge w n.toNat 0 e
       have hcm:grownCap w n.toNat 0 e <= maxLen:=grownCap_le_maxLen w n.toNat 0 e (by unfold maxLen;omega)
       generalize hcap:grownCap w n.toNat 0 e=cap at hrun hge hcm
       let cur:=Builtin.zeroCells y.zero.cells n.toNat ++ Builtin.zeroCells y.zero.cells (cap - n.toNat)
       let w':=w.drew.alloc (.cells cur e)
       let v':Value:=.slice (some ⟨w.heap.size,0,none⟩) n.toNat cap
       let env2:Env:={ env with at_:=fun j=>if j=d then v'.ownBlock else env.at_ j,rv:=fun j=>if j=d then v' else env.rv j }
       have e1:env2.at_ d=some w.heap.size:=by simp [env2,v',Value.ownBlock]
       have e2:env2.rv d=v':=by simp [env2]
       have hs':Same (fun _=>False) w w':=⟨rfl,rfl,rfl,Nat.le_succ _,by simp [w'],fun b hb _=>heap_alloc_old w.drew _ (by simpa using hb)⟩
       have hlat:Later M M w w':=⟨hs'.size,fun b hb=>hs'.block b (S.mlt b hb) id,fun b hb=>hb⟩
       have hnew:OwnOk P M w' env2 d (.row e y.size n.toNat (fun _=>y.zero.cells.toList.map svOf)):=by
         refine ⟨by unfold maxLen;omega,fun i hi=>by simpa using hzs,.inr ⟨w.heap.size,cap,cur,e1,e2,heap_alloc_new w.drew _,hge,hcm,?_,fun i hi j hj=>?_⟩⟩
         · simp only [cur,Array.size_append,size_zeroCells,hzs,<- Nat.add_mul]
           congr 1
           have:=hge
           omega
         · have hlt:=idx_lt (sz:=y.size) (len:=n.toNat) (i:=i) hi hj
           have hg:cur.getD (i * y.size+j) undef=y.zero.cells.getD j undef:=by
             have hl:i * y.size+j < (Builtin.zeroCells y.zero.cells n.toNat).size:=by rw [size_zeroCells,hzs];exact hlt
             have h1:cur.getD (i * y.size+j) undef=(Builtin.zeroCells y.zero.cells n.toNat).getD (i * y.size+j) undef:=by
               simp only [cur,Array.getD_eq_getD_getElem?]
               rw [Array.getElem?_append_left hl]
             have hmod:(i * y.size+j) % y.size=j:=by rw [Nat.mul_comm,Nat.mul_add_mod,Nat.mod_eq_of_lt hj]
             rw [h1,zeroCells_get (by omega) (by rw [hzs];exact hlt),hzs,hmod]
           rw [hg]
           have hj':j < y.zero.cells.size:=by omega
           have hd':=(denL_svOf (M:=M) (w:=w') y.zero.cells.toList).2 j (by simpa using hj')
           rw [Array.getD_eq_getD_getElem?,Array.getElem?_eq_getElem hj']
           rw [List.getD_eq_getElem?_getD,List.getElem?_eq_getElem (by simpa using hj')] at hd'
           simp only [Option.getD_some,Array.getElem_toList] at hd' ⊢
           exact ⟨by have:=Array.all_eq_true.1 hone j hj';simpa using this,hd'⟩
       obtain ⟨X',S'⟩:=(S.forget d).newOwn hG hd hn (fun s e h=>forget_T h) hs' (env':=env2) (fun j hj=>by simp [env2,hj]) rfl
         (fun g hg=>by
           rw [e1] at hg
           cases hg
           exact ⟨Nat.le_refl _,by simp [w']⟩)
         (M':=M) (fun b h=>h) (fun b h=>.inl h) (fun b h=>Nat.lt_of_lt_of_le (S.mlt b h) hs'.size) hnew
       exact ⟨v',w',hrun,_,hk,_,_,_,S'.put0 (by intro t' ht;cases ht;exact hd) (.row e2)⟩
     · exact h.elim
   · exact h.elim
 · exact h.elim
end Go.SE
namespace Go.SE
open Go.RowKit
variable {P:Program} {M:Nat -> Prop} {w:World} {G:Ctx} {st:St} {a:Act} {env:Env} {X:Nat -> Prop}
theorem all_cons {p:Prop} {ps:List Prop} (h:all (p :: ps)):p /\ all ps:=⟨h p (by simp),fun q hq=>h q (by simp [hq])⟩
theorem fitS_ok {s t:SV} (h:all (fitS s t)) {v:Value} (hd:DenP M w s v):DenP M w t v:=by
 unfold fitS at h
 split at h
 · split at h
   · rename_i hk;subst hk;have:=all_one h;subst this;exact hd
   · exact (all_one h).elim
 · have:=all_one h;subst this;exact hd
 · split at h
   · rename_i hk;subst hk
     obtain ⟨rfl,he⟩:=all_one h
     exact hd.congr_sl (fun i hi=>(he i hi).symm)
   · exact (all_one h).elim
 · unfold fitRaw at h
   split at h
   · have:=all_one h;subst this;exact hd
   · split at h
     · have:=all_one h;subst this
       cases hd
       exact .sl _ _ _ _ _ (fun _ _=>undef) (Nat.le_refl _) (Nat.zero_le _) (fun h=>absurd h (Nat.lt_irrefl _)) (fun i hi=>absurd hi (Nat.not_lt_zero _)) (fun i hi=>absurd hi (Nat.not_lt_zero _)) (fun i hi=>absurd hi (Nat.not_lt_zero _))
     · have:=all_one h;cases this
   · have:=all_one h;rw [<- this];exact hd
 · have:=all_one h;subst this;exact hd
theorem fitE_ok {e e':EV} (h:all (fitE e e')) {v:Value} (hd:DenE P M w env e v):DenE P M w env e' v:=by
 unfold fitE at h
 split at h
 · rcases hd with ⟨hd⟩;exact .p (fitS_ok h hd)
 · split at h
   · rename_i hb;have:=all_one h;simp at hb;subst this hb;exact hd
   · exact (all_one h).elim
 · split at h
   · rename_i hb;simp at hb;subst hb;exact hd
   · exact (all_one h).elim
 · split at h
   · rename_i hb;simp at hb;subst hb;exact hd
   · exact (all_one h).elim
 · split at h
   · rename_i hb
     simp only [Bool.and_eq_true,beq_iff_eq] at hb
     obtain ⟨rfl,rfl⟩:=hb
     obtain ⟨rfl,rfl⟩:=all_one h
     exact hd
   · exact (all_one h).elim
 · split at h
   · rename_i hb
     simp only [Bool.and_eq_true,beq_iff_eq] at hb
     obtain ⟨rfl,rfl⟩:=hb
     obtain ⟨rfl,rfl⟩:=all_one h
     exact hd
   · exact (all_one h).elim
 · have:=all_one h;rw [<- this];exact hd
 · have:=all_one h;subst this;exact hd
 · have:=all_one h;subst this;exact hd
 · rcases hd with ⟨hd⟩
   unfold fitPF at h
   split at h
   · exact (all_one h).elim
   · split at h
     · split at h
       · rename_i hk;subst hk
         obtain ⟨rfl,h0,he⟩:=all_one h
         have hd2:=hd.congr_sl (fun i hi=>(he i hi).symm)
         cases hd with
         | sl=>exact .full hd2 ⟨fun hf=>(by cases hf),fun _ hn=>absurd hn (Nat.ne_of_gt h0)⟩
       · exact (all_one h).elim
     · split at h
       · have:=all_one h;subst this
         cases hd
         exact .full (.sl _ _ _ _ _ (fun _ _=>undef) (Nat.le_refl _) (Nat.zero_le _) (fun h=>absurd h (Nat.lt_irrefl _)) (fun i hi=>absurd hi (Nat.not_lt_zero _)) (fun i hi=>absurd hi (Nat.not_lt_zero _)) (fun i hi=>absurd hi (Nat.not_lt_zero _))) ⟨fun hf=>(by cases hf),fun _ _=>⟨rfl,rfl⟩⟩
       · exact (all_one h).elim
     · exact (all_one h).elim
 · split at h
   · rename_i hk
     obtain ⟨rfl,rfl⟩:=hk
     obtain ⟨rfl,he⟩:=all_one h
     cases hd with
     | full hd hq=>exact .full (hd.congr_sl (fun i hi=>(he i hi).symm)) hq
   · exact (all_one h).elim
 · cases hd with
   | full hd hq=>exact .p (fitS_ok h hd)
 · exact .any
 · exact (all_one h).elim
theorem fitL_ok:∀ {l m:List EV},all (fitL l m) -> l.length=m.length /\ ∀ i,i < m.length -> all (fitE (EV.at l i) (EV.at m i))
 | [],[],_=>⟨rfl,fun i hi=>by simp at hi⟩
 | a :: l,b :: m,h=>by
   simp only [fitL] at h
   obtain ⟨h1,h2⟩:=all_append h
   obtain ⟨h3,h4⟩:=fitL_ok h2
   refine ⟨by simp [h3],fun i hi=>?_⟩
   cases i with
   | zero=>exact h1
   | succ i=>exact h4 i (by simpa using hi)
 | [],_ :: _,h=>(all_one h).elim
 | _ :: _,[],h=>(all_one h).elim
theorem fitO1_ok {k:Nat} {o o':Own} (h:all (fitO1 o o')) (ho:OwnOk P M w env k o):OwnOk P M w env k o':=by
 unfold fitO1 at h
 split at h
 · rename_i t cs t' cs'
   split at h
   · rename_i ht;simp at ht;subst ht
     obtain ⟨h1,h2⟩:=fitL_ok h
     obtain ⟨g,vs,ha,hh,hz,hd⟩:=ho
     exact ⟨g,vs,ha,hh,hz.trans h1,fun i hi=>⟨(hd i (by omega)).1,fitE_ok (h2 i hi) (hd i (by omega)).2⟩⟩
   · exact (all_one h).elim
 · split at h
   · rename_i ht;simp at ht;obtain ⟨rfl,rfl⟩:=ht
     obtain ⟨rfl,he⟩:=all_one h
     obtain ⟨hm,hgl,h1⟩:=ho
     refine ⟨hm,fun i hi=>by rw [<- he i hi];exact hgl i hi,?_⟩
     rcases h1 with h1 | ⟨g,cap,cur,ha,hr,hh,h3,h4,h5,h6⟩
     · exact .inl h1
     · exact .inr ⟨g,cap,cur,ha,hr,hh,h3,h4,h5,fun i hi j hj=>by rw [<- he i hi];exact h6 i hi j hj⟩
   · exact (all_one h).elim
 · split at h
   · rename_i ht;simp at ht;subst ht
     obtain ⟨rfl,he⟩:=all_one h
     obtain ⟨g,es,clock,ha,hh,hz,hd⟩:=ho
     exact ⟨g,es,clock,ha,hh,hz,fun i hi=>by rw [<- he i hi];exact hd i hi⟩
   · exact (all_one h).elim
 · exact (all_one h).elim
theorem fitO_ok (S:SatC P G st a w env M X):∀ {l:List (Nat × Own)},all (fitO st.own l) -> ∀ k o,(k,o) ∈ l -> (∃ o',(k,o') ∈ st.own) /\ OwnOk P M w env k o
 | [],_,k,o,hm=>by cases hm
 | (k0,o0) :: l,h,k,o,hm=>by
   simp only [fitO] at h
   obtain ⟨h1,h2⟩:=all_append h
   rcases List.mem_cons.1 hm with hm | hm
   · cases hm
     split at h1
     · rename_i o' hl
       exact ⟨⟨o',lookupO_mem hl⟩,fitO1_ok h1 (S.own _ _ (lookupO_mem hl))⟩
     · exact (all_one h1).elim
   · exact fitO_ok S h2 k o hm
theorem nodupB_ok:∀ {l:List Nat},nodupB l=true -> l.Nodup
 | [],_=>List.nodup_nil
 | k :: ks,h=>by
   simp only [nodupB,Bool.and_eq_true] at h
   refine List.nodup_cons.2 ⟨by simpa using h.1,nodupB_ok h.2⟩
theorem callsIn_mono {f:Nat} {args:Array Value} {R R':Ending -> World -> Prop} (h:CallsIn Fence.wide 0 P f args w R) (k:∀ e w',R e w' -> R' e w'):CallsIn Fence.wide 0 P f args w R' :=
 callsIn_wide.2 ((callsIn_wide.1 h).mono k)
def Env.via (env:Env) (f:Nat -> Nat):Env:={ at_:=fun k=>env.at_ (f k),rv:=fun k=>env.rv (f k),yl:=env.yl }
theorem renL_len (f:Nat -> Nat):∀ (l:List EV),(EV.ren.renL f l).length=l.length
 | []=>rfl
 | e :: l=>by simp [EV.ren.renL,renL_len f l]
theorem renL_at (f:Nat -> Nat):∀ (l:List EV) (i:Nat),i < l.length -> EV.at (EV.ren.renL f l) i=(EV.at l i).ren f
 | [],i,hi=>by simp at hi
 | e :: l,0,_=>rfl
 | e :: l,i+1,hi=>renL_at f l i (by simpa using hi)
theorem ren_den {f:Nat -> Nat} {e:EV} {v:Value} (h:DenE P M w (env.via f) e v):DenE P M w env (e.ren f) v:=by
 induction h with
 | p h=>exact .p h
 | loc h=>exact .loc h
 | row h=>exact .row h
 | mapv h=>exact .mapv h
 | rsub A cap hc hm hA=>exact .rsub A cap hc hm hA
 | rptr h=>exact .rptr h
 | cl g cs vs hl _ ih=>exact .cl g _ vs (by rw [renL_len];exact hl) (fun i hi=>by rw [renL_len] at hi;rw [renL_at f cs i hi];exact ih i hi)
 | fn h=>exact .fn h
 | yield=>exact .yield
 | any=>exact .any
 | full h hq=>exact .full h hq
theorem evAt_size (l:List EV) (i:Nat) (hi:i < l.length):SizeOf.sizeOf (EV.at l i) < SizeOf.sizeOf l:=by
 have:EV.at l i ∈ l:=by rw [evAt_eq l i hi];exact List.getElem_mem hi
 exact List.sizeOf_lt_of_mem this
theorem den_ren {f:Nat -> Nat}:∀ (e:EV) (v:Value),DenE P M w env (e.ren f) v -> DenE P M w (env.via f) e v
 | .p s,v,h=>by cases h with | p h=>exact .p h
 | .loc b off,v,h=>by unfold EV.ren at h;cases h with | loc h=>exact .loc h
 | .row r,v,h=>by unfold EV.ren at h;cases h with | row h=>exact .row h
 | .mapv r,v,h=>by unfold EV.ren at h;cases h with | mapv h=>exact .mapv h
 | .rsub r sz lo n,v,h=>by unfold EV.ren at h;cases h with | rsub A cap hc hm hA=>exact .rsub A cap hc hm hA
 | .rptr r sz i off,v,h=>by unfold EV.ren at h;cases h with | rptr h=>exact .rptr h
 | .cl g cs,v,h=>by
   unfold EV.ren at h
   cases h with
   | cl _ _ vs hl hc =>
     rw [renL_len] at hl hc
     refine .cl g cs vs hl (fun i hi=>?_)
     have:=hc i hi
     rw [renL_at f cs i hi] at this
     exact den_ren (EV.at cs i) _ this
 | .fn sp,v,h=>by cases h with | fn h=>exact .fn h
 | .yield l,v,h=>by cases h with | yield=>exact .yield
 | .any,v,h=>.any
 | .full q sz n get,v,h=>by cases h with | full h hq=>exact .full h hq
termination_by e=>SizeOf.sizeOf e
decreasing_by
 have:=evAt_size cs i hi
 simp only [EV.cl.sizeOf_spec]
 omega
theorem renO_mem {f:Nat -> Nat} {k:Nat} {o:Own}:∀ {l:List (Nat × Own)},(k,o) ∈ l -> (f k,o.ren f) ∈ renO f l
 | [],h=>by cases h
 | (k',o') :: l,h=>by
   rcases List.mem_cons.1 h with h | h
   · cases h;simp [renO]
   · simp only [renO];exact List.mem_cons_of_mem _ (renO_mem h)
theorem mem_renO {f:Nat -> Nat} {k:Nat} {o:Own}:∀ {l:List (Nat × Own)},(k,o) ∈ renO f l -> ∃ k' o',(k',o') ∈ l /\ k=f k' /\ o=o'.ren f
 | [],h=>by cases h
 | (k',o') :: l,h=>by
   simp only [renO] at h
   rcases List.mem_cons.1 h with h | h
   · cases h;exact ⟨k',o',by simp,rfl,rfl⟩
   · obtain ⟨k2,o2,h1,h2⟩:=mem_renO h
     exact ⟨k2,o2,List.mem_cons_of_mem _ h1,h2⟩
theorem keysO_renO (f:Nat -> Nat):∀ (l:List (Nat × Own)),keysO (renO f l)=(keysO l).map f
 | []=>rfl
 | (k,o) :: l=>by
   have:=keysO_renO f l
   simp only [keysO] at this
   simp [renO,keysO,this]
theorem ren_own {f:Nat -> Nat} {k:Nat} {o:Own} (h:OwnOk P M w (env.via f) k o):OwnOk P M w env (f k) (o.ren f):=by
 cases o with
 | blk t cs =>
   obtain ⟨g,vs,ha,hh,hz,hd⟩:=h
   exact ⟨g,vs,ha,hh,by rw [renL_len];exact hz,fun i hi=>by rw [renL_len] at hi;rw [renL_at f cs i hi];exact ⟨(hd i hi).1,ren_den (hd i hi).2⟩⟩
 | row e sz n get=>exact h
 | mp kt n get=>exact h
 | mq kt vt dom val=>exact h
theorem own_ren {f:Nat -> Nat} {k:Nat} {o:Own} (h:OwnOk P M w env (f k) (o.ren f)):OwnOk P M w (env.via f) k o:=by
 cases o with
 | blk t cs =>
   obtain ⟨g,vs,ha,hh,hz,hd⟩:=h
   rw [renL_len] at hz hd
   exact ⟨g,vs,ha,hh,hz,fun i hi=>by have:=hd i hi;rw [renL_at f cs i hi] at this;exact ⟨this.1,den_ren _ _ this.2⟩⟩
 | row e sz n get=>exact h
 | mp kt n get=>exact h
 | mq kt vt dom val=>exact h
theorem updAll_keys:∀ (l own:List (Nat × Own)),(updAll own l).map (·.1)=own.map (·.1)
 | [],own=>rfl
 | (k,o) :: l,own=>by simp only [updAll];rw [updAll_keys l,upd_keys]
theorem mem_updAll:∀ (l own:List (Nat × Own)) {k:Nat} {o:Own},(k,o) ∈ updAll own l -> (∃ o',(k,o') ∈ own) /\ ((k,o) ∈ l \/ ((k,o) ∈ own /\ k ∉ keysO l))
 | [],own,k,o,h=>⟨⟨o,h⟩,.inr ⟨h,by simp [keysO]⟩⟩
 | (k',o') :: l,own,k,o,h=>by
   simp only [updAll] at h
   obtain ⟨⟨o1,h1⟩,h2⟩:=mem_updAll l _ h
   have hex:∃ o',(k,o') ∈ own:=by
     rcases mem_upd h1 with ⟨rfl,_,h3⟩ | ⟨_,h3⟩
     · exact h3
     · exact ⟨_,h3⟩
   refine ⟨hex,?_⟩
   rcases h2 with h2 | ⟨h2,h3⟩
   · exact .inl (List.mem_cons_of_mem _ h2)
   · rcases mem_upd h2 with ⟨rfl,rfl,_⟩ | ⟨hne,h4⟩
     · exact .inl (by simp)
     · refine .inr ⟨h4,?_⟩
       simp only [keysO,List.map_cons,List.mem_cons,not_or]
       exact ⟨hne,h3⟩
theorem rhoL_ok {ρ:Operand -> Option EV} (hρ:∀ x e,ρ x=some e -> DenE P M w env e (a.eval x)):∀ {xs:List Operand} {l:List EV},rhoL ρ xs=some l -> (xs.map a.eval).length=l.length /\ ∀ i,i < l.length -> DenE P M w env (EV.at l i) ((xs.map a.eval).getD i undef)
 | [],l,h=>by
   simp only [rhoL,Option.some.injEq] at h
   subst h;exact ⟨rfl,fun i hi=>by simp at hi⟩
 | x :: xs,l,h=>by
   simp only [rhoL] at h
   split at h
   · rename_i e l' he hl
     cases h
     obtain ⟨h1,h2⟩:=rhoL_ok hρ hl
     refine ⟨by simpa using h1,fun i hi=>?_⟩
     cases i with
     | zero=>exact hρ x e he
     | succ i=>exact h2 i (by simpa using hi)
   · cases h
theorem den_append {as bs:List EV} {us vs:List Value} (h1:us.length=as.length) (h2:∀ i,i < as.length -> DenE P M w env (EV.at as i) (us.getD i undef)) (k1:vs.length=bs.length) (k2:∀ i,i < bs.length -> DenE P M w env (EV.at bs i) (vs.getD i undef)) :
   (us ++ vs).length=(as ++ bs).length /\ ∀ i,i < (as ++ bs).length -> DenE P M w env (EV.at (as ++ bs) i) ((us ++ vs).getD i undef):=by
 refine ⟨by simp [h1,k1],fun i hi=>?_⟩
 simp only [EV.at,List.getD_eq_getElem?_getD]
 by_cases hlt:i < as.length
 · rw [List.getElem?_append_left hlt,List.getElem?_append_left (by omega)]
   have:=h2 i hlt
   simpa [EV.at,List.getD_eq_getElem?_getD] using this
 · rw [List.getElem?_append_right (by omega),List.getElem?_append_right (by omega)]
   have:=k2 (i - as.length) (by simp at hi;omega)
   rw [h1]
   simpa [EV.at,List.getD_eq_getElem?_getD] using this
theorem SatC.lent (hG:Stable G) (S:SatC P G st a w env M X) {L L':List (Nat × Own)} {w':World} {M':Nat -> Prop} (hL:∀ k o,(k,o) ∈ L -> ∃ o',(k,o') ∈ st.own) (hk:keysO L'=keysO L)
   (hs:Same (lentB env L) w w') (hM:∀ b,M b -> M' b) (hM':∀ b,M' b -> M b \/ w.heap.size <= b) (hMl:∀ b,M' b -> b < w'.heap.size) (ho:∀ k o,(k,o) ∈ L' -> OwnOk P M' w' env k o) :
   ∃ X',SatC P G { st with own:=updAll st.own L' } a w' env M' X':=by
 have hlX:∀ b,lentB env L b -> X b /\ ¬ M b:=fun b ⟨k,o,h1,h2⟩=>by
   obtain ⟨o',h3⟩:=hL k o h1
   obtain ⟨q1,q2,_⟩:=S.oat k o' h3 b h2
   exact ⟨q1,q2⟩
 have hl:Later M M' w w':=⟨hs.size,fun b hb=>hs.block b (S.mlt b hb) (fun e=>(hlX b e).2 hb),hM⟩
 refine ⟨fun b=>X b \/ (w.heap.size <= b /\ b < w'.heap.size),?_⟩
 refine ⟨⟨hG _ _ _ _ _ S.gam.1 ⟨hs.os,hs.tape,hs.output,hs.drawn,hs.size,fun b hb hx=>hs.block b hb (fun e=>hx (hlX b e).1)⟩ (fun b h=>.inl h) (fun b h=>by rcases h with h | h;exact .inl h;exact .inr h.1),S.gam.2⟩,
   fun b hb=>?_,?_,?_,?_,by rw [updAll_keys];exact S.nod,hMl,?_,S.siz,?_,S.grd,?_,S.dno⟩
 · rcases hM' b hb with h | h
   · exact (S.mx b h).imp id .inl
   · exact .inr (.inr ⟨h,hMl b hb⟩)
 · intro k o h
   obtain ⟨_,h⟩:=mem_updAll _ _ h
   rcases h with h | ⟨h,hn⟩
   · exact ho k o h
   · have h1:=S.own _ _ h
     have h2:=S.oat _ _ h
     have hng:∀ g',env.at_ k=some g' -> ¬ lentB env L g':=fun g' hg' ⟨k2,o2,q1,q2⟩=>by
       obtain ⟨o3,q3⟩:=hL k2 o2 q1
       have hne:k ≠ k2:=fun e=>hn (by rw [hk,e];exact List.mem_map.2 ⟨(k2,o2),q1,rfl⟩)
       exact S.inj k o k2 o3 h q3 hne g' hg' q2
     cases o with
     | mp kt n get =>
       obtain ⟨g',es,clock,ha,hh,hz,hd⟩:=h1
       exact ⟨g',es,clock,ha,(hs.block g' (h2 g' ha).2.2 (hng g' ha)).trans hh,hz,fun i hi=>⟨(hd i hi).1,(hd i hi).2.still⟩⟩
     | mq kt vt dom val =>
       obtain ⟨g',es,clock,ha,hh,hz,hd⟩:=h1
       exact ⟨g',es,clock,ha,(hs.block g' (h2 g' ha).2.2 (hng g' ha)).trans hh,hz,fun i hi=>by obtain ⟨key,q1,q2,q3⟩:=hd i hi;exact ⟨key,q1,q2,q3.later hl⟩⟩
     | blk t cs =>
       obtain ⟨g',vs,ha,hh,hz,hd⟩:=h1
       exact ⟨g',vs,ha,(hs.block g' (h2 g' ha).2.2 (hng g' ha)).trans hh,hz,fun i hi=>⟨(hd i hi).1,(hd i hi).2.later hl⟩⟩
     | row e sz n get =>
       obtain ⟨hm,hgl,h1⟩:=h1
       refine ⟨hm,hgl,?_⟩
       rcases h1 with h1 | ⟨g',cap,cur,ha,hr,hh,h3,h4,h5,h6⟩
       · exact .inl h1
       · exact .inr ⟨g',cap,cur,ha,hr,(hs.block g' (h2 g' ha).2.2 (hng g' ha)).trans hh,h3,h4,h5,fun i hi j hj=>⟨(h6 i hi j hj).1,(h6 i hi j hj).2.later hl⟩⟩
 · intro k o h g hg
   obtain ⟨⟨o',h'⟩,_⟩:=mem_updAll _ _ h
   obtain ⟨q1,q2,q3⟩:=S.oat k o' h' g hg
   refine ⟨.inl q1,fun hm=>?_,Nat.lt_of_lt_of_le q3 hs.size⟩
   rcases hM' g hm with h4 | h4
   · exact q2 h4
   · omega
 · intro k o k' o' h h'
   obtain ⟨⟨_,e1⟩,_⟩:=mem_updAll _ _ h
   obtain ⟨⟨_,e2⟩,_⟩:=mem_updAll _ _ h'
   exact S.inj _ _ _ _ e1 e2
 · intro b hb
   rcases hb with h | h
   · exact Nat.lt_of_lt_of_le (S.xlt b h) hs.size
   · exact h.2
 · intro s e h
   obtain ⟨h1,h2,h3⟩:=S.tmp s e h
   exact ⟨h1,fun ho'=>(h2 ho').later hl,h3⟩
 · intro d hd
   obtain ⟨D,e,h1,h2,h3,h4⟩:=S.dfr d hd
   have hD:=S.xlt D h2
   refine ⟨D,e,(hs.block D hD (fun ⟨k,o,q1,q2⟩=>?_)).trans h1,.inl h2,fun hm=>?_,fun k o h=>?_⟩
   · obtain ⟨o',q3⟩:=hL k o q1
     exact h4 k o' q3 q2
   · rcases hM' D hm with h5 | h5
     · exact h3 h5
     · omega
   · obtain ⟨⟨_,e1⟩,_⟩:=mem_updAll _ _ h
     exact h4 _ _ e1
theorem callTr_ok (hG:Stable G) (S:SatC P G st a w env M X) {C:Cfg} {dst:Option Nat} (hd:∀ t,dst=some t -> t < st.nt) {as:List EV} {vals:List Value} (hv1:vals.length=as.length) (hv2:∀ i,i < as.length -> DenE P M w env (EV.at as i) (vals.getD i undef))
   {g:Nat} {tr:Tr} (hT:TrOk P g tr) {K:St -> Prop} (h:callTr C st dst as tr K) {N:Act -> World -> Prop} (hN:∀ st' a' w',K st' -> Sat P G st' a' w' -> N a' w') :
   CallsIn Fence.wide 0 P g vals.toArray w (fun e w'=>∃ v,e=.returned v /\ N (a.put dst v) w'):=by
 obtain ⟨t,h⟩:=h
 split at h
 rotate_left
 · exact h.elim
 rename_i hnd
 obtain ⟨h1,hpre,hpost⟩:=conj_spec h
 obtain ⟨hA,hO⟩:=all_append h1
 obtain ⟨hk,hT⟩:=hT
 obtain ⟨l1,l2⟩:=fitL_ok hA
 rw [renL_len] at l1 l2
 have hO':=fitO_ok S hO
 have hnd:=nodupB_ok hnd
 have inj:∀ k o k' o',(k,o) ∈ tr.own t -> (k',o') ∈ tr.own t -> k ≠ k' -> C.ren k ≠ C.ren k':=fun k o k' o' h h' hne e=>by
   rw [keysO_renO] at hnd
   have:=(List.pairwise_map.1 hnd)
   have hm1:k ∈ keysO (tr.own t):=List.mem_map.2 ⟨_,h,rfl⟩
   have hm2:k' ∈ keysO (tr.own t):=List.mem_map.2 ⟨_,h',rfl⟩
   have hp:=List.pairwise_iff_getElem.1 this
   obtain ⟨i,hi,rfl⟩:=List.getElem_of_mem hm1
   obtain ⟨j,hj,rfl⟩:=List.getElem_of_mem hm2
   rcases Nat.lt_trichotomy i j with hlt | heq | hgt
   · exact hp i j hi hj hlt e
   · subst heq;exact hne rfl
   · exact hp j i hj hi hgt e.symm
 refine callsIn_mono (hT t hpre M w (env.via C.ren) vals S.mlt (fun k o h=>own_ren (hO' _ _ (renO_mem h)).2) (fun k o h g hg=>?_) (fun k o k' o' h h' hne g hg=>?_) (by omega) (fun i hi=>?_)) ?_
 · obtain ⟨⟨o',h'⟩,_⟩:=hO' _ _ (renO_mem (f:=C.ren) h)
   obtain ⟨_,q2,q3⟩:=S.oat _ _ h' g hg
   exact ⟨q2,q3⟩
 · obtain ⟨⟨o1,h1⟩,_⟩:=hO' _ _ (renO_mem (f:=C.ren) h)
   obtain ⟨⟨o2,h2⟩,_⟩:=hO' _ _ (renO_mem (f:=C.ren) h')
   exact S.inj _ _ _ _ h1 h2 (inj k o k' o' h h' hne) g hg
 · have:=l2 i hi
   rw [renL_at _ _ _ hi] at this
   exact den_ren _ _ (fitE_ok this (hv2 i (by omega)))
 · rintro e w' ⟨u,v,M',hp,rfl,hs,hM,hM',hMl,ho,hr⟩
   refine ⟨v,rfl,hN _ _ _ (hpost u hp) ?_⟩
   have hl:∀ b,lentB (env.via C.ren) (tr.own t) b -> lentB env (renO C.ren (tr.own t)) b:=fun b ⟨k,o,h,hg⟩=>⟨_,_,renO_mem h,hg⟩
   obtain ⟨X',S'⟩:=S.lent hG (L:=renO C.ren (tr.own t)) (L':=renO C.ren (tr.own' t u)) (fun k o h=>(hO' k o h).1) (by rw [keysO_renO,keysO_renO,hk]) ⟨hs.os,hs.tape,hs.output,hs.drawn,hs.size,fun b hb hn=>hs.block b hb (fun e=>hn (hl b e))⟩ hM hM' hMl (fun k o h=>by
     obtain ⟨k',o',h',rfl,rfl⟩:=mem_renO h
     exact ren_own (ho k' o' h'))
   exact ⟨env,M',X',S'.put0 hd (ren_den hr)⟩
end Go.SE
namespace Go.SE
open Go.RowKit
variable {P:Program} {M:Nat -> Prop} {w:World} {G:Ctx} {st:St} {a:Act} {env:Env} {X:Nat -> Prop}
theorem run_checkKey_int {t:TypeId} {v:Value} (h:(∃ k,P.underlying t=some (.int k)) \/ P.underlying t=some .bool) (hv:(∃ k n,v=.int k n) \/ ∃ b,v=.bool b) (em:Bool) (n:Nat) (w:World):(Instr.checkKey em (n+1) t v).run P w=.ok () w:=by
 unfold Instr.checkKey
 rcases h with ⟨k,h⟩ | h <;> rcases hv with ⟨k',m,rfl⟩ | ⟨b,rfl⟩ <;> simp [run_underlying h]
theorem intCells_at:∀ {cs:List SV},intCells cs=true -> ∀ i,i < cs.length -> (∃ k n,SV.at cs i=.int k n) \/ ∃ b,SV.at cs i=.bool b
 | .int k n :: l,h,0,_=>.inl ⟨k,n,rfl⟩
 | .bool b :: l,h,0,_=>.inr ⟨b,rfl⟩
 | .int k n :: l,h,i+1,hi=>intCells_at (cs:=l) (by simpa [intCells] using h) i (by simpa using hi)
 | .bool b :: l,h,i+1,hi=>intCells_at (cs:=l) (by simpa [intCells] using h) i (by simpa using hi)
 | [],_,i,hi=>by simp at hi
 | .agg _ :: _,h,_,_ | .tup _ :: _,h,_,_ | .sl .. :: _,h,_,_ | .ref .. :: _,h,_,_ | .clo .. :: _,h,_,_ | .raw _ :: _,h,_,_=>by simp [intCells] at h
theorem run_checkKey_agg {kt:TypeId} {fs:Array Field} (hk:P.underlying kt=some (.struct fs)) {cs:List SV} {vs:List Value} (hi:intCells cs=true) (hok:keyOk P cs fs.toList=true) (hl:vs.length=cs.length) (hd:∀ i,i < cs.length -> DenP M w (SV.at cs i) (vs.getD i undef)) (em:Bool) (n:Nat) :
   (Instr.checkKey em (n+2) kt (.agg vs.toArray)).run P w=.ok () w:=by
 unfold Instr.checkKey
 simp only [Sem.run_bind,run_underlying hk,Result.andThen_ok]
 rw [<- Array.forIn_toList]
 generalize fs.toList=l at hok
 induction l with
 | nil=>simp
 | cons f l ih =>
   simp only [keyOk,Bool.and_eq_true] at hok
   obtain ⟨h1,h2⟩:=hok
   have key:∃ v,(part f.type vs.toArray f.offset).run P w=.ok v w /\ (Instr.checkKey em (n+1) f.type v).run P w=.ok () w:=by
     have fin:∀ y,tyOf P f.type=some y -> aggD y.desc=false -> (spart y cs f.offset).isSome=true -> ((∃ k,P.underlying f.type=some (.int k)) \/ P.underlying f.type=some .bool) -> ∃ v,(part f.type vs.toArray f.offset).run P w=.ok v w /\ (Instr.checkKey em (n+1) f.type v).run P w=.ok () w:=by
       intro y hy hag hs hu
       obtain ⟨s,hs⟩:=Option.isSome_iff_exists.1 hs
       obtain ⟨v,r,d⟩:=part_ok (M:=M) (w:=w) hy hl hs hd
       refine ⟨v,r w,run_checkKey_int hu ?_ em n w⟩
       unfold spart at hs
       rw [hag] at hs
       simp only [Bool.false_eq_true,if_false] at hs
       have hlt:f.offset < cs.length:=(List.getElem?_eq_some_iff.1 hs).1
       have hat:SV.at cs f.offset=s:=by simp [SV.at,List.getD_eq_getElem?_getD,hs]
       rcases intCells_at hi f.offset hlt with ⟨k,m,e⟩ | ⟨b,e⟩
       · rw [hat] at e;subst e;cases d;exact .inl ⟨_,_,rfl⟩
       · rw [hat] at e;subst e;cases d;exact .inr ⟨_,rfl⟩
     split at h1
     · rename_i y k hy hu
       refine fin y hy ?_ h1 (.inl ⟨k,hu⟩)
       obtain ⟨_,_,_,_,_,e⟩:=tyOf_spec hy
       rw [hu] at e;injection e with e;rw [<- e];rfl
     · rename_i y hy hu
       refine fin y hy ?_ h1 (.inr hu)
       obtain ⟨_,_,_,_,_,e⟩:=tyOf_spec hy
       rw [hu] at e;injection e with e;rw [<- e];rfl
     · cases h1
   obtain ⟨v,r1,r2⟩:=key
   simp only [List.forIn_cons,Sem.run_bind]
   by_cases hn:f.name = "_"
   · simpa [hn] using ih h2
   · simpa [hn,r1,r2] using ih h2
theorem noMem_same {M':Nat -> Prop} {w':World}:∀ {s:SV} {u v:Value},(∃ k n,s=.int k n) \/ (∃ b,s=.bool b) -> DenP M w s u -> DenP M' w' s v -> u=v /\ ∀ n,Instr.sameBits n u v=true
 | _,u,v,.inl ⟨k,n,rfl⟩,h1,h2=>by cases h1;cases h2;exact ⟨rfl,fun n=>by cases n <;> simp [Instr.sameBits]⟩
 | _,u,v,.inr ⟨b,rfl⟩,h1,h2=>by cases h1;cases h2;exact ⟨rfl,fun n=>by cases n <;> simp [Instr.sameBits]⟩
theorem agg_same {M':Nat -> Prop} {w':World} {cs:List SV} (hi:intCells cs=true) {u v:Value} (h1:DenP M w (.agg cs) u) (h2:DenP M' w' (.agg cs) v):u=v /\ ∀ n,Instr.sameBits (n+1) u v=true:=by
 cases h1 with
 | agg _ us hl1 hd1 =>
 cases h2 with
 | agg _ vs hl2 hd2 =>
 have key:∀ i,i < cs.length -> us.getD i undef=vs.getD i undef /\ ∀ n,Instr.sameBits n (us.getD i undef) (vs.getD i undef)=true:=fun i hlt=>noMem_same (intCells_at hi i hlt) (hd1 i hlt) (hd2 i hlt)
 have he:us=vs:=by
   apply List.ext_getElem (by omega)
   intro i h1 h2
   have:=(key i (by omega)).1
   simpa [List.getD_eq_getElem?_getD,h1,h2] using this
 subst he
 refine ⟨rfl,fun n=>?_⟩
 simp only [Instr.sameBits,beq_self_eq_true,Bool.true_and,List.all_eq_true]
 rintro ⟨x,y⟩ hm
 obtain ⟨i,hi',he⟩:=List.getElem_of_mem hm
 simp only [List.getElem_zip,Prod.mk.injEq] at he
 obtain ⟨rfl,rfl⟩:=he
 have hlt:i < us.length:=by simpa using hi'
 have:=(key i (by omega)).2 n
 simpa [List.getD_eq_getElem?_getD,hlt] using this
theorem cellsEq_eq:∀ {cs ds:List SV},cellsEq cs ds=true -> intCells cs=true -> cs=ds
 | [],[],_,_=>rfl
 | s :: l,t :: m,h,hi=>by
   have h12:cellEq s t=true /\ cellsEq l m=true:=by
     unfold cellsEq at h
     split at h
     · exact ⟨h,rfl⟩
     · simpa using h
   have hl:intCells l=true:=by
     cases s <;> simp_all [intCells]
   have:=cellsEq_eq h12.2 hl
   subst this
   have h1:=h12.1
   unfold cellEq at h1
   split at h1
   · split at h1
     · rename_i hk;subst hk;simp at h1;subst h1;rfl
     · cases h1
   · simp at h1;subst h1;rfl
   · cases h1
 | [],_ :: _,h,_=>by simp [cellsEq] at h
 | _ :: _,[],h,_=>by simp [cellsEq] at h
theorem find_ok {kt:TypeId} {cs:List SV} {key:Value} (hk:DenP M w (.agg cs) key) (get:Nat -> List SV) :
   ∀ (es:List MapEntry) (o:Nat),(∀ i,i < es.length -> symIs P kt cs (get (o+i)) /\ DenP (fun _=>False) w (.agg (get (o+i))) (es.getD i default).key) ->
     (∃ j,o <= j /\ j < o+es.length /\ cellsEq cs (get j)=true /\ ∃ v,(Instr.findAsking kt key es o).run P w=.ok (some (j,v)) w) \/ ((∀ j,o <= j -> j < o+es.length -> cellsEq cs (get j)=false) /\ (Instr.findAsking kt key es o).run P w=.ok none w)
 | [],o,_=>.inr ⟨fun j h1 h2=>by simp at h2;omega,rfl⟩
 | e :: es,o,h=>by
   obtain ⟨h1,h2⟩:=h 0 (by simp)
   simp only [Nat.add_zero,List.getD_cons_zero] at h1 h2
   unfold symIs at h1
   split at h1
   rotate_left
   · exact h1.elim
   rename_i b hb
   have hrun:(Op.equal kt key e.key).run P w=.ok b w:=by
     unfold Op.equal
     exact symEq_ok (P:=P) (M:=M) 3 kt _ _ b hb _ _ hk h2.still _ w (by decide)
   unfold Instr.findAsking
   simp only [Sem.run_bind,hrun,Result.andThen_ok]
   cases b with
   | true=>exact .inl ⟨o,Nat.le_refl _,by simp,h1.symm,e.val,by simp⟩
   | false =>
     have ih:=find_ok hk get es (o+1) (fun i hi=>by
       have:=h (i+1) (by simpa using hi)
       rw [show o+1+i=o+(i+1) by omega]
       simpa using this)
     simp only [Bool.false_eq_true,if_false]
     rcases ih with ⟨j,q1,q2,q3,q4⟩ | ⟨q1,q2⟩
     · exact .inl ⟨j,by omega,by simp;omega,q3,q4⟩
     · refine .inr ⟨fun j hj hj2=>?_,q2⟩
       rcases Nat.lt_or_ge o j with hlt | hge
       · exact q1 j hlt (by simp at hj2;omega)
       · have:j=o:=by omega
         subst this;exact h1.symm
theorem same_set {g:Nat} {o o':Obj} (hb:w.heap[g]? = some o):Same (fun b=>b=g) w { w with heap:=w.heap.setIfInBounds g o' } /\ ({ w with heap:=w.heap.setIfInBounds g o' }:World).heap.size=w.heap.size /\ ({ w with heap:=w.heap.setIfInBounds g o' }:World).heap[g]? = some o':=by
 obtain ⟨h1,h2⟩:=MapKept.heap_set (o':=o') hb
 exact ⟨⟨rfl,rfl,rfl,Nat.le_refl _,by simp,fun b _ hne=>h2 b hne⟩,by simp,h1⟩
theorem stepMap_ok (hG:Stable G) (S:SatC P G st a w env M X) {t:TypeId} {m k:EV} {K:St -> Prop} (h:stepMap P st t m k K) {vm vk:Value} (hm:DenE P M w env m vm) (hk:DenE P M w env k vk) (vv:Value) :
   ∃ w' st',(Instr.mapUpdate t vm vk vv).run P w=.ok () w' /\ K st' /\ Sat P G st' a w':=by
 unfold stepMap at h
 split at h
 rotate_left
 · exact h.elim
 rename_i kt e r cs ht
 split at h
 rotate_left
 · exact h.elim
 rename_i kt' n get fs hl hfs
 split at h
 rotate_left
 · exact h.elim
 rename_i hc
 obtain ⟨rfl,hi,hko⟩:=hc
 obtain ⟨hsym,hold,hnew⟩:=h
 rcases hk with ⟨hk⟩
 cases hm with
 | @mapv _ g hg =>
 have hmem:=lookupO_mem hl
 obtain ⟨g',es,clock,ha,hh,hz,hd⟩:=S.own _ _ hmem
 rw [hg] at ha
 cases ha
 obtain ⟨us,rfl,hul,hud⟩:∃ us:List Value,vk=.agg us.toArray /\ us.length=cs.length /\ ∀ i,i < cs.length -> DenP M w (SV.at cs i) (us.getD i undef):=by
   cases hk with | agg _ us h1 h2=>exact ⟨us,rfl,h1,h2⟩
 have hchk:=run_checkKey_agg (w:=w) hfs hi hko hul hud false 9998
 have hfind:=find_ok (P:=P) (kt:=kt') hk get es.toList 0 (fun i hi'=>by
   rw [Nat.zero_add]
   have hi':i < es.size:=by simpa using hi'
   refine ⟨hsym i (by omega),?_⟩
   have:=(hd i (by omega)).2
   have e1:(es.toList.getD i default)=es.getD i default:=by simp [List.getD_eq_getElem?_getD,Array.getD_eq_getD_getElem?]
   rw [e1];exact this)
 have hfk:(Instr.findKey kt' (.agg us.toArray) es.toList).run P w=(Instr.findAsking kt' (.agg us.toArray) es.toList 0).run P w:=by
   cases hes:es.toList with
   | nil=>simp [Instr.findKey,run_underlying hfs,Instr.findNow,Instr.findAsking]
   | cons x l=>simp [Instr.findKey,run_underlying hfs,Instr.findNow,Instr.sameNow]
 rcases hfind with ⟨j,_,hj,hc,v,hrun⟩ | ⟨hno,hrun⟩
 · -- there already
   have hj:j < n:=by simp at hj;omega
   have hcs:=cellsEq_eq hc hi
   have hkey:=(hd j hj).2
   have hlt:j < es.size:=by omega
   have hkey':DenP (fun _=>False) w (.agg cs) (es[j]).key:=by
     rw [hcs]
     rw [Array.getD_eq_getD_getElem?,Array.getElem?_eq_getElem hlt] at hkey
     exact hkey
   obtain ⟨hsame,hbits⟩:=agg_same hi hkey' hk
   have hstay:∀ w',(Instr.keyThatStays (es[j]).key (.agg us.toArray)).run P w'=.ok (.agg us.toArray) w':=fun w'=>by
     unfold Instr.keyThatStays
     rw [if_pos (hbits 9999)];rfl
   obtain ⟨s1,s2,s3⟩:=same_set (w:=w) (g:=g) (o':=.map (es.modify j fun e=>{ e with key:=.agg us.toArray,val:=vv }) clock) hh
   refine ⟨{ w with heap:=w.heap.setIfInBounds g (.map (es.modify j fun e=>{ e with key:=.agg us.toArray,val:=vv }) clock) },st,?_,hold ⟨j,hj,hc⟩,?_⟩
   · unfold Instr.mapUpdate
     simp only [Sem.run_bind,run_underlying ht,Result.andThen_ok,MapKept.run_getObj_map hh,hchk,hfk,hrun]
     simp only [Array.getElem?_eq_getElem hlt,Option.map_some,Option.getD_some,Sem.run_bind,hstay,Result.andThen_ok]
     exact MapKept.run_setObj_map _ hh
   · have:=S.write hG hmem hg s1 s2 (o:=.mp kt' n get) ⟨g,_,clock,hg,s3,by simpa using hz,fun i hi'=>⟨(hd i hi').1,?_⟩⟩
     · have hid : upd st.own r (.mp kt' n get) = st.own := by
         have hn:=S.nod
         apply List.ext_getElem (by simp [upd])
         intro q h1 h2
         simp only [upd,List.getElem_map]
         split
         · rename_i hq
           have hq:st.own[q].1=r:=by simpa using hq
           have hin:(st.own[q]) ∈ st.own:=List.getElem_mem h2
           obtain ⟨q2,hq2,e2⟩:=List.getElem_of_mem hmem
           have hp:=List.pairwise_iff_getElem.1 (List.pairwise_map.1 hn)
           have:q=q2:=by
             rcases Nat.lt_trichotomy q q2 with hlt | heq | hgt
             · exact absurd (by rw [e2];exact hq) (hp q q2 h2 hq2 hlt)
             · exact heq
             · exact absurd (by rw [e2];exact hq.symm) (hp q2 q hq2 h2 hgt)
           subst this
           exact e2.symm
         · rfl
       rw [hid] at this
       exact ⟨env,M,X,this⟩
     · have hi2:i < es.size:=by omega
       rw [Array.getD_eq_getD_getElem?,Array.getElem?_modify]
       by_cases hij:j=i
       · subst hij
         simp only [if_true,Array.getElem?_eq_getElem hlt,Option.map_some,Option.getD_some]
         rw [<- hcs,<- hsame];exact hkey'.still
       · simp only [if_neg hij]
         have:=(hd i hi').2
         rw [Array.getD_eq_getD_getElem?] at this
         exact this.still
 · obtain ⟨s1,s2,s3⟩:=same_set (w:=w) (g:=g) (o':=.map (es.push { key:=.agg us.toArray,val:=vv,born:=clock }) (clock+1)) hh
   refine ⟨{ w with heap:=w.heap.setIfInBounds g (.map (es.push { key:=.agg us.toArray,val:=vv,born:=clock }) (clock+1)) },_,?_,hnew (fun i hi'=>hno i (Nat.zero_le _) (by simp;omega)),env,M,X,S.write hG hmem hg s1 s2 ⟨g,_,clock+1,hg,s3,by simp [hz],fun i hi'=>?_⟩⟩
   · unfold Instr.mapUpdate
     simp only [Sem.run_bind,run_underlying ht,Result.andThen_ok,MapKept.run_getObj_map hh,hchk,hfk,hrun]
     exact MapKept.run_setObj_map _ hh
   · unfold appGet
     have hnm:∀ {l:List SV},intCells l=true -> noMem.noMems l=true:=fun {l} h=>by
       induction l with
       | nil=>rfl
       | cons s l ih=>cases s <;> simp_all [intCells,noMem.noMems,noMem]
     split
     · rename_i hlt
       refine ⟨(hd i hlt).1,?_⟩
       have:=(hd i hlt).2
       rw [Array.getD_eq_getD_getElem?,Array.getElem?_push_lt (by omega)]
       rw [Array.getD_eq_getD_getElem?,Array.getElem?_eq_getElem (by omega)] at this
       exact this.still
     · have:i=es.size:=by omega
       subst this
       refine ⟨hnm hi,?_⟩
       rw [Array.getD_eq_getD_getElem?,Array.getElem?_push_size]
       exact noMem_ok hk (by simpa [noMem] using hnm hi)
theorem newMap_ok (hG:Stable G) (S:SatC P G st a w env M X) {d:Nat} (hdn:d < st.nt) (hn:(st.forget d).noName d=true) (q:Option (Int -> SV)) (kt vt:TypeId) :
   Sat P G ({ st.forget d with own:=(d,newMp q kt vt) :: (st.forget d).own }.put (some d) ⟨none,.mapv d⟩) (a.put (some d) (.map (some w.heap.size))) (w.alloc (.map #[] 0)):=by
 have hs:=same_alloc w (.map #[] 0)
 obtain ⟨X',h⟩:=(S.forget d).newOwn hG hdn hn (fun s e h=>forget_T h) hs (env':=env.set d w.heap.size undef) (Env.set_other env d _ _) rfl
   (fun g hg=>by rw [Env.set_at] at hg;cases hg;simp) (M':=M) (fun b h=>h) (fun b h=>.inl h) (fun b h=>by have:=S.mlt b h;simp;omega)
   (o:=newMp q kt vt) (by
     cases q with
     | none=>exact ⟨w.heap.size,#[],0,Env.set_at _ _ _ _,Array.getElem?_push_size,rfl,fun i hi=>by omega⟩
     | some val=>exact ⟨w.heap.size,#[],0,Env.set_at _ _ _ _,Array.getElem?_push_size,(fun key h=>by cases h),fun i hi=>absurd hi (Nat.not_lt_zero _)⟩)
 exact ⟨_,M,X',h.put0 (fun t ht=>by cases ht;exact hdn) (.mapv (Env.set_at _ _ _ _))⟩
theorem cutOf_spec {C:Cfg} {o:Oper} {gd:Option (Nat × Bool × Bool)} {d:Nat} {t:TypeId} {x hi:Operand} (h:cutOf C o gd=some (d,t,x,hi)):o.op=.slice t x none (some hi) none /\ o.dst=some d /\ gd=none:=by
 unfold cutOf at h
 split at h
 · rename_i h1 h2
   split at h
   · cases h;exact ⟨h1,h2,rfl⟩
   · cases h
 · cases h
theorem stepCut_ok (hG:Stable G) (S:SatC P G st a w env M X) {d:Nat} {t:TypeId} {x hi:Operand} {K:St -> Prop} (h:stepCut P st d t x hi K) (hd:d < st.nt) :
   ∃ v st',(Instr.sliceAt t (a.eval x) none (some (a.eval hi)) none).run P w=.ok v w /\ K st' /\ Sat P G st' (a.put (some d) v) w:=by
 have hρ:∀ x e,st.rho none x=some e -> DenE P M w env e (a.eval x):=fun x e hx=>rho_ok S (gd:=none) (fun _ _ _ h=>by cases h) trivial hx
 unfold stepCut at h
 split at h
 rotate_left
 · exact h.elim
 rename_i e r z hu hx hz
 split at h
 rotate_left
 · exact h.elim
 rename_i e' sz n get y hl hy
 split at h
 rotate_left
 · exact h.elim
 rename_i hrn
 obtain ⟨hp,hk⟩:=conj_spec h
 obtain ⟨h1,h2⟩:=all_one hp
 have hb:lohi none (some hi) (st.rho none) n=some (0,z):=by simp [lohi,hz]
 have hmem:=lookupO_mem hl
 obtain ⟨hm,hgl,hO⟩:=S.own _ _ hmem
 have hmem':∃ o,(r,o) ∈ (st.scrub r).own:=⟨.row e' sz n get,List.mem_map.2 ⟨(r,.row e' sz n get),hmem,rfl⟩⟩
 obtain ⟨o0,ho0⟩:=hmem'
 have e1:=hρ _ _ hx
 generalize hev:a.eval x=q at e1
 cases e1 with
 | @row _ A' n' c hrow =>
 have hsame:Same (fun b=>env.at_ r=some b) w w:=⟨rfl,rfl,rfl,Nat.le_refl _,Nat.le_refl _,fun _ _ _=>rfl⟩
 rcases hO with ⟨hat,hrv,hn0⟩ | ⟨g,cap,cur,hg,hrv,hh,hnc,hcm,hcs,hd'⟩
 · subst hn0
   rw [hrv] at hrow
   cases hrow
   have hz0:z.toNat=0:=by omega
   have hrun:=run_slice_lohi (P:=P) (w:=w) hρ hu hy hb none 0 (Nat.le_refl _) (Int.le_refl _) h1 h2
   simp only [Option.map_none,Option.map_some,Int.toNat_zero,Nat.sub_zero,if_true,hz0] at hrun
   obtain ⟨X',S'⟩:=(scrub_ok S r).rerow hG hrn ho0 (fun s e h=>scrub_noT h) (fun k' o' h=>scrub_noO h) hsame (env':=env) (fun j hj=>⟨rfl,rfl⟩) rfl
     (fun g hg=>⟨.inl hg,(S.oat _ _ hmem g hg).2.2⟩) (o:=.row e' sz z.toNat get) ⟨by omega,fun i hi=>by omega,.inl ⟨hat,hrv,hz0⟩⟩
   refine ⟨_,_,hrun,hk,env,M,X',S'.put0 (fun t ht=>by cases ht;exact hd) ?_⟩
   exact .row hrv
 · rw [hrv] at hrow
   cases hrow
   have hrun:=run_slice_lohi (P:=P) (w:=w) hρ hu hy hb (some ⟨g,0,none⟩) c hnc (Int.le_refl _) h1 h2
   have hA:(if c=(0:Int).toNat then some (⟨g,0,none⟩:Addr) else (some (⟨g,0,none⟩:Addr)).map (·.add ((0:Int).toNat * y.size)))=some ⟨g,0,none⟩:=by
     split
     · rfl
     · simp [Addr.add]
   rw [hA] at hrun
   simp only [Option.map_none,Option.map_some,Int.toNat_zero,Nat.sub_zero] at hrun
   let env2:Env:={ env with rv:=fun j=>if j=r then .slice (some ⟨g,0,none⟩) z.toNat c else env.rv j }
   have e2:env2.rv r=.slice (some ⟨g,0,none⟩) z.toNat c:=by simp [env2]
   obtain ⟨X',S'⟩:=(scrub_ok S r).rerow hG hrn ho0 (fun s e h=>scrub_noT h) (fun k' o' h=>scrub_noO h) hsame (env':=env2) (fun j hj=>⟨rfl,by simp [env2,hj]⟩) rfl
     (fun g hg=>⟨.inl hg,(S.oat _ _ hmem g hg).2.2⟩) (o:=.row e' sz z.toNat get) ⟨by omega,fun i hi=>hgl i (by omega),.inr ⟨g,c,cur,hg,e2,hh,by omega,hcm,hcs,fun i hi j hj=>hd' i (by omega) j hj⟩⟩
   exact ⟨_,_,hrun,hk,env2,M,X',S'.put0 (fun t ht=>by cases ht;exact hd) (.row e2)⟩
end Go.SE
namespace Go.SE
open Go.RowKit
variable {P:Program} {M:Nat -> Prop} {w:World} {env:Env}
theorem mq_keys {es:Array MapEntry} {dom:Int -> Bool} {val:Int -> SV} (hd:∀ i,i < es.size -> ∃ key,(es.getD i default).key=.int .i64 key /\ dom key=true /\ DenP M w (val key) (es.getD i default).val):∀ x ∈ es.toList,MapKept.IsKey (.int .i64) x.key:=by
 intro x hx
 obtain ⟨i,hi,rfl⟩:=List.getElem_of_mem hx
 have hi:i < es.size:=by simpa using hi
 obtain ⟨key,h1,_,_⟩:=hd i hi
 rw [Array.getD_eq_getD_getElem?,Array.getElem?_eq_getElem hi] at h1
 simp only [Option.getD_some] at h1
 rw [Array.getElem_toList,h1]
 exact (rfl:IntKind.i64=IntKind.i64)
theorem lookup_mq {t kt vt kt' vt':TypeId} (ht:P.underlying t=some (.map kt vt)) (hk:P.underlying kt=some (.int .i64)) {r g:Nat} {dom:Int -> Bool} {val:Int -> SV} (ho:OwnOk P M w env r (.mq kt' vt' dom val)) (hg:env.at_ r=some g) (key:Int) :
   (dom key=true -> ∃ v,DenP M w (val key) v /\ ∀ co,(Instr.lookup t (.map (some g)) (.int .i64 key) co).run P w=.ok (if co then .tuple #[v,.bool true] else v) w) /\
   (dom key=false -> ∀ z,(zeroValue vt).run P w=.ok z w -> ∀ co,(Instr.lookup t (.map (some g)) (.int .i64 key) co).run P w=.ok (if co then .tuple #[z,.bool false] else z) w):=by
 obtain ⟨g',es,clock,ha,hh,hin,hd⟩:=ho
 rw [hg] at ha
 cases ha
 have hkeys:=mq_keys hd
 have hck:∀ e,(Instr.checkKey e 10000 kt (.int .i64 key)).run P w=.ok () w:=fun e=>MapKept.run_checkKey hk (show MapKept.IsKey (.int .i64) (.int .i64 key) from rfl) e 9999
 rcases MapKept.findNow_spec (d:=.int .i64) (k:=.int .i64 key) (show MapKept.IsKey (.int .i64) (.int .i64 key) from rfl) es.toList 0 hkeys with ⟨h1,h2⟩ | ⟨j,e,h1,h2,h3⟩
 · have hf:=MapKept.run_findKey (w:=w) hk h1
   refine ⟨fun h=>?_,fun _ z hz co=>?_⟩
   · obtain ⟨i,hi,h4⟩:=hin key h
     rw [Array.getD_eq_getD_getElem?,Array.getElem?_eq_getElem hi] at h4
     exact absurd h4 (h2 _ (by simp))
   · unfold Instr.lookup
     simp only [Sem.run_bind,run_underlying ht,Result.andThen_ok,MapKept.run_getObj_map hh,Sem.run_pure,hck,hf,hz]
     try (cases co <;> rfl)
 · have hf:=MapKept.run_findKey (w:=w) hk h1
   have hj:j < es.size:=by have:=(List.getElem?_eq_some_iff.1 h2).1;simpa using this
   have he:es.getD j default=e:=by
     rw [Array.getElem?_toList] at h2
     rw [Array.getD_eq_getD_getElem?,h2];rfl
   obtain ⟨key',q1,q2,q3⟩:=hd j hj
   rw [he] at q1 q3
   have:key'=key:=by rw [h3] at q1;cases q1;rfl
   subst this
   refine ⟨fun _=>⟨e.val,q3,fun co=>?_⟩,fun h=>?_⟩
   · unfold Instr.lookup
     simp only [Sem.run_bind,run_underlying ht,Result.andThen_ok,MapKept.run_getObj_map hh,Sem.run_pure,hck,hf]
     try (cases co <;> rfl)
   · rw [q2] at h;cases h
theorem update_mq {t kt vt kt' vt':TypeId} (ht:P.underlying t=some (.map kt vt)) (hk:P.underlying kt=some (.int .i64)) {r g:Nat} {dom:Int -> Bool} {val:Int -> SV} (ho:OwnOk P M w env r (.mq kt' vt' dom val)) (hg:env.at_ r=some g) (hM:¬ M g) (hlt:∀ b,M b -> b < w.heap.size) (key:Int) {v:Value} (hv:DenP M w (val key) v) :
   ∃ w',(Instr.mapUpdate t (.map (some g)) (.int .i64 key) v).run P w=.ok () w' /\ Same (fun b=>b=g) w w' /\ w'.heap.size=w.heap.size /\ OwnOk P M w' env r (.mq kt' vt' (fun x=>decide (x=key) || dom x) val):=by
 obtain ⟨g',es,clock,ha,hh,hin,hd⟩:=ho
 rw [hg] at ha
 cases ha
 have hkeys:=mq_keys hd
 have hck:∀ e,(Instr.checkKey e 10000 kt (.int .i64 key)).run P w=.ok () w:=fun e=>MapKept.run_checkKey hk (show MapKept.IsKey (.int .i64) (.int .i64 key) from rfl) e 9999
 have lat:∀ {o':Obj},Later M M w { w with heap:=w.heap.setIfInBounds g o' }:=fun {o'}=>by
   obtain ⟨s1,s2,s3⟩:=same_set (w:=w) (g:=g) (o':=o') hh
   exact ⟨s1.size,fun b hb=>s1.block b (hlt b hb) (fun e=>hM (e ▸ hb)),fun b hb=>hb⟩
 rcases MapKept.findNow_spec (d:=.int .i64) (k:=.int .i64 key) (show MapKept.IsKey (.int .i64) (.int .i64 key) from rfl) es.toList 0 hkeys with ⟨h1,h2⟩ | ⟨j,e,h1,h2,h3⟩
 · have hf:=MapKept.run_findKey (w:=w) hk h1
   obtain ⟨s1,s2,s3⟩:=same_set (w:=w) (g:=g) (o':=.map (es.push { key:=.int .i64 key,val:=v,born:=clock }) (clock+1)) hh
   refine ⟨_,?_,s1,s2,g,_,_,hg,s3,fun x hx=>?_,fun i hi=>?_⟩
   · unfold Instr.mapUpdate
     simp only [Sem.run_bind,run_underlying ht,Result.andThen_ok,MapKept.run_getObj_map hh,hck,hf]
     exact MapKept.run_setObj_map _ hh
   · by_cases e:x=key
     · refine ⟨es.size,by simp,?_⟩
       rw [Array.getD_eq_getD_getElem?,Array.getElem?_push_size,e];rfl
     · have hx:dom x=true:=by simpa [e] using hx
       obtain ⟨i,hi,h4⟩:=hin x hx
       refine ⟨i,by simp;omega,?_⟩
       rw [Array.getD_eq_getD_getElem?] at h4 ⊢
       rw [Array.getElem?_push_lt hi]
       rwa [Array.getElem?_eq_getElem hi] at h4
   · have hi:i < es.size+1:=by simpa using hi
     rcases Nat.lt_succ_iff_lt_or_eq.1 hi with h' | rfl
     · obtain ⟨key',q1,q2,q3⟩:=hd i h'
       rw [Array.getD_eq_getD_getElem?,Array.getElem?_eq_getElem h'] at q1 q3
       refine ⟨key',?_,by simp [q2],?_⟩
       · rw [Array.getD_eq_getD_getElem?,Array.getElem?_push_lt h'];exact q1
       · rw [Array.getD_eq_getD_getElem?,Array.getElem?_push_lt h'];exact q3.later lat
     · refine ⟨key,?_,by simp,?_⟩
       · rw [Array.getD_eq_getD_getElem?,Array.getElem?_push_size];rfl
       · rw [Array.getD_eq_getD_getElem?,Array.getElem?_push_size];exact hv.later lat
 · have hf:=MapKept.run_findKey (w:=w) hk h1
   have hj:j < es.size:=by have:=(List.getElem?_eq_some_iff.1 h2).1;simpa using this
   have he:es[j]=e:=by
     rw [Array.getElem?_toList,Array.getElem?_eq_getElem hj] at h2
     exact Option.some.inj h2
   have hstay:∀ w',(Instr.keyThatStays (es[j]).key (.int .i64 key)).run P w'=.ok (.int .i64 key) w':=fun w'=>by
     rw [he,h3]
     unfold Instr.keyThatStays
     rw [if_pos (show Instr.sameBits (9999+1) (.int .i64 key) (.int .i64 key)=true by simp [Instr.sameBits])];rfl
   obtain ⟨s1,s2,s3⟩:=same_set (w:=w) (g:=g) (o':=.map (es.modify j fun e=>{ e with key:=.int .i64 key,val:=v }) clock) hh
   refine ⟨_,?_,s1,s2,g,_,_,hg,s3,fun x hx=>?_,fun i hi=>?_⟩
   · unfold Instr.mapUpdate
     simp only [Sem.run_bind,run_underlying ht,Result.andThen_ok,MapKept.run_getObj_map hh,hck,hf]
     simp only [Nat.zero_add,Array.getElem?_eq_getElem hj,Option.map_some,Option.getD_some,Sem.run_bind,hstay,Result.andThen_ok]
     exact MapKept.run_setObj_map _ hh
   · by_cases e':x=key
     · refine ⟨j,by simpa using hj,?_⟩
       rw [Array.getD_eq_getD_getElem?,Array.getElem?_modify,Array.getElem?_eq_getElem hj,e']
       simp
     · have hx:dom x=true:=by simpa [e'] using hx
       obtain ⟨i,hi,h4⟩:=hin x hx
       refine ⟨i,by simpa using hi,?_⟩
       rw [Array.getD_eq_getD_getElem?,Array.getElem?_eq_getElem hi] at h4
       rw [Array.getD_eq_getD_getElem?,Array.getElem?_modify,Array.getElem?_eq_getElem hi]
       by_cases hij:j=i
       · subst hij
         simp only [Option.getD_some] at h4
         rw [he,h3] at h4
         cases h4
         exact absurd rfl e'
       · simpa [hij] using h4
   · have hi:i < es.size:=by simpa using hi
     rw [Array.getD_eq_getD_getElem?,Array.getElem?_modify,Array.getElem?_eq_getElem hi]
     by_cases hij:j=i
     · subst hij
       exact ⟨key,by simp,by simp,by simpa using hv.later lat⟩
     · obtain ⟨key',q1,q2,q3⟩:=hd i hi
       rw [Array.getD_eq_getD_getElem?,Array.getElem?_eq_getElem hi] at q1 q3
       exact ⟨key',by simpa [hij] using q1,by simp [q2],by simpa [hij] using q3.later lat⟩
theorem stepMapQ_ok {G:Ctx} {st:St} {a:Act} {X:Nat -> Prop} (hG:Stable G) (S:SatC P G st a w env M X) {t:TypeId} {m k v:EV} {K:St -> Prop} (h:stepMapQ P st t m k v K) {vm vk vv:Value} (hm:DenE P M w env m vm) (hk:DenE P M w env k vk) (hv:DenE P M w env v vv) :
   ∃ w' st',(Instr.mapUpdate t vm vk vv).run P w=.ok () w' /\ K st' /\ Sat P G st' a w':=by
 unfold stepMapQ at h
 split at h
 rotate_left
 · exact h.elim
 rename_i kt vt r key ht
 split at h
 rotate_left
 · exact h.elim
 rename_i kt' vt' dom val hl hkt
 obtain ⟨h1,h2⟩:=conj_spec h
 rcases hk with ⟨hk⟩
 cases hk
 cases hm with
 | @mapv _ g hg =>
 have hmem:=lookupO_mem hl
 obtain ⟨q1,q2,q3⟩:=S.oat _ _ hmem g hg
 rcases fitE_ok h1 hv with ⟨hv⟩
 obtain ⟨w',hr,hs,hz,ho⟩:=update_mq ht hkt (S.own _ _ hmem) hg q2 S.mlt key hv
 exact ⟨w',_,hr,h2,env,M,X,S.write hG hmem hg hs hz ho⟩
theorem stepLookup_ok {G:Ctx} {st:St} {a:Act} {X:Nat -> Prop} (S:SatC P G st a w env M X) {t:TypeId} {d:Nat} {m k:EV} {co:Bool} {K:St -> Prop} (h:stepLookup P st t d m k co K) {vm vk:Value} (hm:DenE P M w env m vm) (hk:DenE P M w env k vk) :
   ∃ s v,(Instr.lookup t vm vk co).run P w=.ok v w /\ DenP M w s v /\ K (st.put (some d) ⟨none,.p s⟩):=by
 unfold stepLookup at h
 split at h
 rotate_left
 · exact h.elim
 rename_i kt vt r key ht
 split at h
 rotate_left
 · exact h.elim
 rename_i kt' vt' dom val y hl hkt hy
 obtain ⟨h1,h2⟩:=h
 rcases hk with ⟨hk⟩
 cases hk
 cases hm with
 | @mapv _ g hg =>
 have hmem:=lookupO_mem hl
 obtain ⟨l1,l2⟩:=lookup_mq ht hkt (S.own _ _ hmem) hg key
 have two:∀ {s:SV} {v:Value} (b:Bool),DenP M w s v -> DenP M w (.tup [s,.bool b]) (.tuple #[v,.bool b]):=fun {s v} b hs =>
   .tup [s,.bool b] [v,.bool b] rfl (fun i hi=>by
     match i,hi with
     | 0,_=>exact hs
     | 1,_=>exact .bool _)
 cases hd:dom key with
 | true =>
   obtain ⟨v,hv,hr⟩:=l1 hd
   cases co with
   | true=>exact ⟨_,_,hr true,two true hv,h1 hd⟩
   | false=>exact ⟨_,_,hr false,hv,h1 hd⟩
 | false =>
   obtain ⟨i,hi,hz,_⟩:=tyOf_spec hy
   have hr:=l2 hd y.zero (by simp [zeroValue,typeInfo,hi,hz])
   cases co with
   | true=>exact ⟨_,_,hr true,two false (den_svOf _),h2 hd⟩
   | false=>exact ⟨_,_,hr false,den_svOf _,h2 hd⟩
end Go.SE
namespace Go.SE
open Go.RowKit
variable {P:Program}
def EV.within (ks:List Nat):EV -> Bool
 | .loc b _=>ks.contains b
 | .row r | .rsub r _ _ _ | .rptr r _ _ _ | .mapv r=>ks.contains r
 | .cl _ cs=>withinL ks cs
 | _=>true
where withinL (ks:List Nat):List EV -> Bool
 | []=>true
 | e :: l=>e.within ks && withinL ks l
def Own.within (ks:List Nat):Own -> Bool
 | .blk _ cs=>EV.within.withinL ks cs
 | .row ..=>true
 | .mp ..=>true
 | .mq ..=>true
theorem withinL_at {ks:List Nat}:∀ {l:List EV},EV.within.withinL ks l=true -> ∀ i,i < l.length -> (EV.at l i).within ks=true
 | [],_,i,hi=>by simp at hi
 | e :: l,h,i,hi=>by
   simp only [EV.within.withinL,Bool.and_eq_true] at h
   cases i with
   | zero=>exact h.1
   | succ i=>exact withinL_at h.2 i (by simpa using hi)
theorem DenE.turn {M M':Nat -> Prop} {w w':World} {env env':Env} {ks:List Nat} (hl:Later M M' w w') (he:∀ k,k ∈ ks -> env'.at_ k=env.at_ k /\ env'.rv k=env.rv k)
   {e:EV} {v:Value} (h:DenE P M w env e v):e.within ks=true -> DenE P M' w' env' e v:=by
 induction h with
 | p h=>exact fun _=>.p (h.later hl)
 | loc h=>intro hw;exact .loc (by rw [(he _ (by simpa [EV.within] using hw)).1];exact h)
 | mapv h=>intro hw;exact .mapv (by rw [(he _ (by simpa [EV.within] using hw)).1];exact h)
 | row h=>intro hw;exact .row (by rw [(he _ (by simpa [EV.within] using hw)).2];exact h)
 | rsub A cap hc hm hA=>intro hw;exact .rsub A cap hc hm (fun hn=>by obtain ⟨g,hg,e⟩:=hA hn;exact ⟨g,by rw [(he _ (by simpa [EV.within] using hw)).1];exact hg,e⟩)
 | rptr h=>intro hw;exact .rptr (by rw [(he _ (by simpa [EV.within] using hw)).1];exact h)
 | cl f cs vs hlen _ ih=>intro hw;exact .cl f cs vs hlen (fun i hi=>ih i hi (withinL_at hw i hi))
 | fn h=>exact fun _=>.fn (h.later hl)
 | yield=>exact fun _=>.yield
 | any=>exact fun _=>.any
 | full h hq=>exact fun _=>.full (h.later hl) hq
end Go.SE
namespace Go.SE
open Go.RowKit
variable {P:Program} {M:Nat -> Prop} {w:World} {G:Ctx} {st:St} {a:Act} {env:Env} {X:Nat -> Prop}
theorem run_call_first {o:Oper} {f:Operand} {args:Array Operand} {ts:Array TypeId} (ho:o.op=.call { callee:=.value f,args:=args,argTypes:=ts }) {g:Nat} {first caps:Array Value} (hf:a.eval f=.func (.func g) first caps) (hg:Enters P g) :
   (execOp a.eval o).run P w=.ok (.enter g (first ++ args.map a.eval ++ caps)) w:=by
 simp only [execOp,ho,resolve,hf,Deferred.ofValue,Sem.run_bind,Sem.run_pure,Result.andThen_ok,invoke]
 rw [hg]
theorem run_call_value {o:Oper} {f:Operand} {args:Array Operand} {ts:Array TypeId} (ho:o.op=.call { callee:=.value f,args:=args,argTypes:=ts }) {g:Nat} {caps:Array Value} (hf:a.eval f=.func (.func g) #[] caps) (hg:Enters P g) :
   (execOp a.eval o).run P w=.ok (.enter g (args.map a.eval ++ caps)) w:=by
 simp only [execOp,ho,resolve,hf,Deferred.ofValue,Sem.run_bind,Sem.run_pure,Result.andThen_ok,invoke]
 rw [hg]
 simp
theorem allPl_ok {ρ:Operand -> Option EV} (hρ:∀ x e,ρ x=some e -> DenE P M w env e (a.eval x)):∀ {xs:List Operand} {ss:List SV},allPl ρ xs=some ss -> DenL M w ss (xs.map a.eval)
 | [],ss,h=>by simp only [allPl] at h;cases h;exact ⟨rfl,fun i hi=>by simp at hi⟩
 | x :: xs,ss,h=>by
   simp only [allPl] at h
   split at h
   · rename_i s ss' hx hs
     cases h
     have ih:=allPl_ok hρ hs
     have h1:=hρ _ _ hx
     rcases h1 with ⟨h1⟩
     refine ⟨by simpa using ih.1,fun i hi=>?_⟩
     cases i with
     | zero=>simpa [SV.at] using h1
     | succ i=>simpa [SV.at] using ih.2 i (by simpa using hi)
   · cases h
theorem buildRef_ok (hG:Stable G) (S:SatC P G st a w env M X) {t e:TypeId} {y:Ty} (hu:P.underlying t=some (.slice e)) (hy:tyOf P e=some y) {len:Nat} {parts:Array (Nat × Operand)} {l:List (Nat × SV)} {ρ:Operand -> Option EV}
   (hρ:∀ x e,ρ x=some e -> DenE P M w env e (a.eval x)) (hl:allPs ρ parts.toList=some l) {cs:List SV}
   (hcs:fillAll (fun i=>some (i * y.size,y.size)) ((List.range (len * y.size)).map fun k=>svOf (y.zero.cells.getD (k % y.size) undef)) l=some cs)
   (hc:len * y.size <= 16777216 /\ 0 < y.size /\ y.zero.cells.size=y.size /\ cs.all (fun s=>oneE (.p s))) :
   ∃ v w' M' X',(Instr.buildSlice t len (parts.map fun (i,x)=>(i,a.eval x))).run P w=.ok v w' /\ SatC P G st a w' env M' X' /\ DenP M' w' (.sl y.size len (if len=1 then fun _=>cs else rowsOf cs y.size)) v:=by
 obtain ⟨hle,hsz,hzs,hone⟩:=hc
 obtain ⟨q1,q2⟩:=allPs_ok (P:=P) (env:=env) hρ _ _ hl
 obtain ⟨cells,r1,r2⟩:=fill_ok (M:=M) (w:=w) (fun i=>some (i * y.size,y.size)) l _ q1 q2 _ _ ((List.range (len * y.size)).map fun k=>y.zero.cells.getD (k % y.size) undef) (by
   have:=denL_svOf (M:=M) (w:=w) ((List.range (len * y.size)).map fun k=>y.zero.cells.getD (k % y.size) undef)
   rw [List.map_map] at this;exact this) hcs
 have h1:∀ v,v ∈ cells -> v.oneCell'=true:=fun v hv=>by
   obtain ⟨i,hi,rfl⟩:=List.getElem_of_mem hv
   have hi':i < cs.length:=by have:=r2.1;omega
   have a1:oneE (.p cs[i])=true:=List.all_eq_true.1 hone _ (List.getElem_mem hi')
   have a2:=r2.2 i hi'
   rw [show SV.at cs i=cs[i] by simp [SV.at,List.getD_eq_getElem?_getD,hi']] at a2
   rw [List.getD_eq_getElem?_getD,List.getElem?_eq_getElem hi,Option.getD_some] at a2
   exact oneE_p a1 a2
 have hcl:cs.length=len * y.size:=by
   have:∀ (pl:Nat -> Option (Nat × Nat)) (ps:List (Nat × SV)) (c0 c1:List SV),fillAll pl c0 ps=some c1 -> c1.length=c0.length:=by
     intro pl ps
     induction ps with
     | nil=>intro c0 c1 h;simp [fillAll] at h;rw [h]
     | cons p ps ih =>
       intro c0 c1 h
       obtain ⟨i,s⟩:=p
       simp only [fillAll] at h
       split at h
       · cases h
       · split at h
         · rw [ih _ _ h,fillAt_len]
         · cases h
   rw [this _ _ _ _ hcs];simp
 have hmax:len <= maxLen:=by
   have:len <= len * y.size:=Nat.le_mul_of_pos_right len hsz
   unfold maxLen;omega
 have hrun:=run_buildSlice (P:=P) (w:=w) hu hy hle hzs (parts:=parts.map fun (i,x)=>(i,a.eval x)) (cells:=cells) (by rw [<- r1];simp)
 obtain ⟨M',X',S',hden⟩:=buildSlice_ref hG S (e:=e) r2 h1 hcl hmax
 refine ⟨_,_,M',X',hrun,S',?_⟩
 split
 · rename_i hl1
   subst hl1
   refine hden.congr_sl (fun i hi=>?_)
   have:i=0:=by omega
   subst this
   simp only [rowsOf,Nat.zero_mul,List.drop_zero]
   rw [List.take_of_length_le (by omega)]
 · exact hden
theorem callTrG_of {gd:Option (Nat × Bool × Bool)} {dst:Option Nat} {p:Prop} {K:St -> Prop} (h:callTrG st gd dst p K) (hh:holdsG gd):p:=by
 cases gd with
 | none=>exact h
 | some g=>obtain ⟨q,c,b⟩:=g;exact h.1 hh
theorem zeroInts_at {k:IntKind}:∀ {l:List Value},zeroInts k l=true -> ∀ j,j < l.length -> l.getD j undef=.int k 0
 | [],_,j,hj=>by simp at hj
 | v :: l,h,j,hj=>by
   cases v with
   | int k' z =>
     simp only [zeroInts,Bool.and_eq_true,decide_eq_true_eq] at h
     obtain ⟨⟨rfl,rfl⟩,h⟩:=h
     cases j with
     | zero=>rfl
     | succ j=>simpa using zeroInts_at h j (by simpa using hj)
   | _=>simp [zeroInts] at h
theorem newArr_ok (hG:Stable G) (S:SatC P G st a w env M X) {t:TypeId} {y:Ty} {d:Nat} {gd:Option (Nat × Bool × Bool)} (hdn:d < st.nt) {K:St -> Prop} (h:newArr P t y st d gd K) :
   ∃ st',K st' /\ Sat P G st' (a.put (some d) (.pointer (some ⟨w.heap.size,0,none⟩))) (w.alloc (.cells y.zero.cells t)):=by
 unfold newArr at h
 split at h
 · rename_i n e hu
   split at h
   · rename_i k hk
     split at h
     · rename_i hc
       obtain ⟨⟨hz,hn,hi⟩,hno⟩:=hc
       have hat:∀ j,j < n -> y.zero.cells.getD j undef=.int k 0:=fun j hj=>by
         have:=zeroInts_at hi j (by simpa [hz] using hj)
         rwa [List.getD_eq_getElem?_getD,Array.getElem?_toList,<- Array.getD_eq_getD_getElem?] at this
       obtain ⟨env',X',h2,h3⟩:=newRow_ok hG S hdn hno (e:=t) (cur:=y.zero.cells) (n:=n) (cap:=n) (sz:=1) (get:=fun _=>[.int k 0]) (by omega) (Nat.le_refl _) (by unfold maxLen;omega) (fun i hi=>rfl) (fun i hi j hj=>by
         obtain rfl:j=0:=by omega
         rw [show i * 1+0=i by omega,hat i hi]
         exact ⟨rfl,.int k 0⟩)
       have h4:env'.at_ d=some w.heap.size:=by
         obtain ⟨_,_,h5⟩:=h2.own d _ List.mem_cons_self
         rcases h5 with ⟨_,h5,_⟩ | ⟨g,cap,cur,h6,h5,_⟩
         · rw [h3] at h5;cases h5
         · rw [h3] at h5;cases h5;exact h6
       exact ⟨_,h,env',M,X',h2.put0 (by intro t' ht;cases ht;exact hdn) (.rptr (i:=0) (sz:=1) (off:=0) h4)⟩
     · exact h.elim
   · exact h.elim
 · exact h.elim
theorem SatC.reown (S:SatC P G st a w env M X) {k:Nat} {o0 o:Own} (hk:(k,o0) ∈ st.own) (ho:OwnOk P M w env k o):SatC P G { st with own:=upd st.own k o } a w env M X:=by
 refine ⟨S.gam,S.mx,?_,?_,?_,by simp only [upd_keys];exact S.nod,S.mlt,S.xlt,S.siz,S.tmp,S.grd,?_,S.dno⟩
 · intro k' o' h
   rcases mem_upd h with ⟨rfl,rfl,_⟩ | ⟨_,h⟩
   · exact ho
   · exact S.own _ _ h
 · intro k' o' h g' hg'
   rcases mem_upd h with ⟨rfl,rfl,o'',h''⟩ | ⟨_,h⟩
   · exact S.oat _ _ h'' g' hg'
   · exact S.oat _ _ h g' hg'
 · intro k1 o1 k2 o2 h1 h2 hne g' hg1
   have e1:∃ o,(k1,o) ∈ st.own:=by rcases mem_upd h1 with ⟨rfl,_,o'',h''⟩ | ⟨_,h⟩;exact ⟨_,h''⟩;exact ⟨_,h⟩
   have e2:∃ o,(k2,o) ∈ st.own:=by rcases mem_upd h2 with ⟨rfl,_,o'',h''⟩ | ⟨_,h⟩;exact ⟨_,h''⟩;exact ⟨_,h⟩
   obtain ⟨_,e1⟩:=e1
   obtain ⟨_,e2⟩:=e2
   exact S.inj _ _ _ _ e1 e2 hne g' hg1
 · intro d hd
   obtain ⟨D,e,h1,h2,h3,h4⟩:=S.dfr d hd
   refine ⟨D,e,h1,h2,h3,?_⟩
   intro k' o' h
   rcases mem_upd h with ⟨rfl,_,o'',h''⟩ | ⟨_,h⟩
   · exact h4 _ _ h''
   · exact h4 _ _ h
theorem stepClear_ok (hG:Stable G) (S:SatC P G st a w env M X) {t:TypeId} {e:EV} {K:St -> Prop} (h:stepClear P st t e K) {v:Value} (hv:DenE P M w env e v) (ty:TypeId) :
   ∃ w',(Builtin.clear_ #[t] ty #[v]).run P w=.ok (.tuple #[]) w' /\ ∃ st',K st' /\ Sat P G st' (a.put none (.tuple #[])) w':=by
 unfold stepClear at h
 split at h
 · rename_i el r sz lo n hu
   split at h
   · rename_i y e' sz' n' get hy hl
     split at h
     · rename_i hc
       obtain ⟨rfl,rfl,hsz,hzs,hone⟩:=hc
       obtain ⟨hp,hk⟩:=conj_spec h
       have hle:=all_one hp
       obtain ⟨i,hi,hz,hs,hby,_⟩:=tyOf_spec hy
       have hmem:=lookupO_mem hl
       obtain ⟨hm,hgl,hO⟩:=S.own _ _ hmem
       cases hv with
       | rsub A cap hcap hmx hA =>
       by_cases hn:n=0
       · subst hn
         refine ⟨w,?_,_,hk,env,M,X,S.reown hmem ?_⟩
         · cases A <;> simp [Builtin.clear_,run_underlying hu]
         · have : clrGet lo 0 (y.zero.cells.toList.map svOf) get = get := by
             funext i;unfold clrGet;rw [if_neg (by omega)]
           rw [this];exact ⟨hm,hgl,hO⟩
       · obtain ⟨g,hg,rfl⟩:=hA (by omega)
         rcases hO with ⟨hno,_⟩ | ⟨g',cap',cur,hg',hrv,hh,hnc,hcm,hcs,hd⟩
         · rw [hno] at hg;cases hg
         rw [hg] at hg';cases hg'
         have hzl:(Builtin.zeroCells y.zero.cells n).toList.length=n * y.size:=by simp [size_zeroCells,hzs]
         have hzc:∀ k,k < n * y.size -> (Builtin.zeroCells y.zero.cells n).toList.getD k undef=y.zero.cells.getD (k % y.size) undef:=fun k hk'=>by
           have hmod:k % y.size < y.zero.cells.size:=by rw [hzs];exact Nat.mod_lt _ hsz
           simp only [Builtin.zeroCells,List.getD_eq_getElem?_getD,Array.getD_eq_getD_getElem?]
           simp [hk',hzs,getElem!_pos y.zero.cells (k % y.size) hmod]
           rw [Array.getElem?_eq_getElem hmod];rfl
         have hz1:∀ j,j < y.size -> (y.zero.cells.getD j undef).oneCell'=true:=fun j hj=>by
           have hj':j < y.zero.cells.size:=by omega
           have:=Array.all_eq_true.1 hone j hj'
           simpa [Array.getD_eq_getD_getElem?,Array.getElem?_eq_getElem hj'] using this
         have h1:∀ u,u ∈ (Builtin.zeroCells y.zero.cells n).toList -> u.oneCell'=true:=fun u hu'=>by
           obtain ⟨k,hk',rfl⟩:=List.getElem_of_mem hu'
           have:=hzc k (by omega)
           rw [List.getD_eq_getElem?_getD,List.getElem?_eq_getElem hk',Option.getD_some] at this
           rw [this];exact hz1 _ (Nat.mod_lt _ hsz)
         obtain ⟨zs,ezs⟩:∃ zs,(Builtin.zeroCells y.zero.cells n).toList=zs:=⟨_,rfl⟩
         rw [ezs] at hzl hzc h1
         have hfit:lo * y.size+n * y.size <= cur.size:=by
           rw [hcs,<- Nat.add_mul];exact Nat.mul_le_mul_right _ (by omega)
         have hst:=run_storeCells_at P g (lo * y.size) e' zs 0 cur w hh (by omega) h1
         simp only [Nat.add_zero] at hst
         obtain ⟨hss,hsz'⟩:=same_setRow (w:=w) (g:=g) (cur.toList.take (lo * y.size) ++ zs ++ cur.toList.drop (lo * y.size+zs.length)).toArray
         have hl':Later M M w (w.setRow g (cur.toList.take (lo * y.size) ++ zs ++ cur.toList.drop (lo * y.size+zs.length)).toArray) :=
           ⟨by omega,fun b hb=>hss.block b (S.mlt b hb) (fun e=>(S.oat _ _ hmem g hg).2.1 (e ▸ hb)),fun b hb=>hb⟩
         refine ⟨_,?_,_,hk,env,M,X,S.write hG hmem hg hss hsz' ?_⟩
         · obtain ⟨n1,rfl⟩:∃ n1,n=n1+1:=⟨n - 1,by omega⟩
           simp [Builtin.clear_,run_underlying hu,zeroValue,typeInfo,hi,hz,ezs,hst]
         · refine ⟨hm,fun j hj=>?_,.inr ⟨g,cap',_,hg,hrv,setRow_heap w g cur _ _ _ hh,hnc,hcm,by simp only [List.size_toArray,List.length_append,List.length_take,List.length_drop,Array.length_toList,hzl];omega,fun j hj k hk'=>?_⟩⟩
           · unfold clrGet;split
             · simpa using hzs
             · exact hgl j hj
           · unfold clrGet
             have hjc:=idx_lt (sz:=y.size) (Nat.lt_of_lt_of_le hj hnc) hk'
             rw [getD_stored cur _ _ (by omega) _ (by omega),hzl]
             by_cases hr:lo <= j /\ j < lo+n
             · have q1:=Nat.mul_le_mul_right y.size hr.1
               have q2:j * y.size+y.size <= (lo+n) * y.size:=by
                 have:=Nat.mul_le_mul_right y.size (show j+1 <= lo+n by omega)
                 rwa [Nat.add_mul,Nat.one_mul] at this
               rw [Nat.add_mul] at q2
               rw [if_pos hr,if_pos (by omega),show j * y.size+k - lo * y.size=(j - lo) * y.size+k by rw [Nat.sub_mul];omega]
               have q3:=idx_lt (sz:=y.size) (i:=j - lo) (len:=n) (by omega) hk'
               rw [hzc _ q3,show ((j - lo) * y.size+k) % y.size=k by rw [Nat.mul_comm,Nat.mul_add_mod,Nat.mod_eq_of_lt hk']]
               refine ⟨hz1 k hk',?_⟩
               have hd':=(denL_svOf (M:=M) (w:=w.setRow g (cur.toList.take (lo * y.size) ++ zs ++ cur.toList.drop (lo * y.size+zs.length)).toArray) y.zero.cells.toList).2 k (by simp;omega)
               have e9:y.zero.cells.toList.getD k undef=y.zero.cells.getD k undef:=by simp [List.getD_eq_getElem?_getD,Array.getD_eq_getD_getElem?]
               rw [e9] at hd'
               rw [hzl] at hd'
               exact hd'
             · have hne : ¬ (lo * y.size <= j * y.size + k /\ j * y.size + k < lo * y.size + n * y.size) := by
                 intro hx
                 rcases Nat.lt_or_ge j lo with h5 | h5
                 · have:=Nat.mul_le_mul_right y.size (show j+1 <= lo by omega)
                   rw [Nat.add_mul] at this;omega
                 · have:=Nat.mul_le_mul_right y.size (show lo+n <= j by omega)
                   rw [Nat.add_mul] at this;omega
               rw [if_neg hr,if_neg hne]
               refine ⟨(hd j hj k hk').1,?_⟩
               have:=(hd j hj k hk').2.later hl'
               rw [hzl] at this
               exact this
     · exact h.elim
   · exact h.elim
 · exact h.elim
theorem stepCopy_ok (hG:Stable G) (S:SatC P G st a w env M X) {t t':TypeId} {d:Nat} {e x:EV} {K:St -> Prop} (h:stepCopy P st t d e x K) (hdn:d < st.nt) {v u:Value} (hv:DenE P M w env e v) (hu:DenE P M w env x u) (ty:TypeId) :
   ∃ r w',(Builtin.copy_ #[t,t'] ty #[v,u]).run P w=.ok r w' /\ ∃ st',K st' /\ Sat P G st' (a.put (some d) r) w':=by
 unfold stepCopy at h
 split at h
 rotate_left
 · exact h.elim
 rename_i el hut
 split at h
 rotate_left
 · exact h.elim
 rename_i y hy
 split at h
 rotate_left
 · exact h.elim
 rename_i sides m get2 r sz lo n hsl hds
 split at h
 rotate_left
 · exact h.elim
 rename_i e' sz' n' get hl
 split at h
 rotate_left
 · exact h.elim
 rename_i hc
 obtain ⟨rfl,rfl,hsz,hnm⟩:=hc
 obtain ⟨hp,hk⟩:=conj_spec h
 obtain ⟨hp1,hp2⟩:=all_append hp
 have hlo:lo+n <= n':=hp2 _ (by simp)
 have hmn:m <= n:=hp2 _ (by simp)
 obtain ⟨i,hi,hz,hs,hby,_⟩:=tyOf_spec hy
 have hmem:=lookupO_mem hl
 obtain ⟨hm,hgl,hO⟩:=S.own _ _ hmem
 obtain ⟨A2,cap2,news,rfl,hlen,hA2,hcell,hone,hg2,hd2⟩:=slOf_cells S hsl hp1 hu
 have hmx:Nat.min m n=m:=Nat.min_eq_left hmn
 by_cases hm0:m=0
 · subst hm0
   have hsame:cpyGet lo 0 get2 get=get:=by
     funext i;unfold cpyGet;rw [if_neg (by omega)]
   have hnews:news = []:=List.eq_nil_of_length_eq_zero (by rw [hlen,Nat.zero_mul])
   obtain ⟨A,cap,rfl⟩:∃ A cap,v=.slice A n cap:=by
     cases hv with
     | rsub A cap _ _ _=>simp [dstOf] at hds;obtain ⟨_,_,_,rfl⟩:=hds;exact ⟨A,cap,rfl⟩
     | @row r' A n0 c hrv =>
       simp only [dstOf] at hds
       split at hds
       · rename_i e2 sz2 n2 get3 hl2
         simp only [Option.some.injEq,Prod.mk.injEq] at hds
         obtain ⟨rfl,rfl,rfl,rfl⟩:=hds
         rw [hl] at hl2;cases hl2
         rcases hO with ⟨_,hrv',hn0⟩ | ⟨g,cap,cur,hg,hrv',_⟩
         · rw [hrv'] at hrv;cases hrv;subst hn0;exact ⟨_,_,rfl⟩
         · rw [hrv'] at hrv;cases hrv;exact ⟨_,_,rfl⟩
       · cases hds
     | _=>simp [dstOf] at hds
   refine ⟨goInt 0,w,?_,_,hk,env,M,X,(S.reown hmem (by rw [hsame];exact ⟨hm,hgl,hO⟩)).put0 (by intro t' ht;cases ht;exact hdn) (.p (.int _ _))⟩
   cases A <;> cases A2 <;> simp [Builtin.copy_,run_underlying hut,Builtin.lenOf,Builtin.firstCells,loadCells,loadCellsFrom,storeCells,run_sizeOf hi]
 · obtain ⟨g, cap', cur, hg, hrv, hh, hnc, hcm, hcs, hd⟩ : ∃ g cap' cur, env.at_ r = some g /\ env.rv r = .slice (some ⟨g, 0, none⟩) n' cap' /\ w.heap[g]? = some (.cells cur e' (0, 0)) /\ n' <= cap' /\ cap' <= maxLen /\ cur.size = cap' * y.size /\
       ∀ i,i < n' -> ∀ j,j < y.size -> (cur.getD (i * y.size+j) undef).oneCell'=true /\ DenP M w (SV.at (get i) j) (cur.getD (i * y.size+j) undef):=by
     rcases hO with ⟨_,_,hn0⟩ | hO
     · omega
     · exact hO
   have hpos:0 < n:=Nat.lt_of_lt_of_le (Nat.pos_of_ne_zero hm0) hmn
   clear hO
   obtain ⟨cap,rfl⟩:∃ cap,v=.slice (some ⟨g,lo * y.size,none⟩) n cap:=by
     cases hv with
     | rsub A cap _ _ hA =>
       simp only [dstOf,Option.some.injEq,Prod.mk.injEq] at hds
       obtain ⟨rfl,rfl,rfl,rfl⟩:=hds
       obtain ⟨g',hg',rfl⟩:=hA hpos
       rw [hg] at hg';cases hg'
       exact ⟨cap,rfl⟩
     | @row r' A n0 c hrv' =>
       simp only [dstOf] at hds
       split at hds
       · rename_i e2 sz2 n2 get3 hl2
         simp only [Option.some.injEq,Prod.mk.injEq] at hds
         obtain ⟨rfl,rfl,rfl,rfl⟩:=hds
         rw [hl] at hl2;cases hl2
         rw [hrv] at hrv';cases hrv'
         exact ⟨_,by rw [Nat.zero_mul]⟩
       · cases hds
     | _=>simp [dstOf] at hds
   obtain ⟨a2,rfl⟩:∃ a2,A2=some a2:=by
     cases A2 with
     | none=>exact absurd (hA2 rfl) hm0
     | some a2=>exact ⟨a2,rfl⟩
   have hld:=run_loadCells (P:=P) w a2 (m * y.size) (fun j=>news.getD j undef) (fun j hj=>hcell a2 rfl (by omega) j _ (by rw [List.getD_eq_getElem?_getD,List.getElem?_eq_getElem (by omega)];rfl))
   have hnews:(List.range (m * y.size)).map (fun j=>news.getD j undef)=news:=by
     apply List.ext_getElem (by simp [hlen])
     intro k h1 h2
     simp [List.getD_eq_getElem?_getD,h2]
   rw [hnews] at hld
   have hfit:lo * y.size+m * y.size <= cur.size:=by
     rw [hcs,<- Nat.add_mul];exact Nat.mul_le_mul_right _ (by omega)
   have hst:=run_storeCells_at P g (lo * y.size) e' news 0 cur w hh (by omega) hone
   simp only [Nat.add_zero] at hst
   obtain ⟨hss,hsz'⟩:=same_setRow (w:=w) (g:=g) (cur.toList.take (lo * y.size) ++ news ++ cur.toList.drop (lo * y.size+news.length)).toArray
   have hl':Later M M w (w.setRow g (cur.toList.take (lo * y.size) ++ news ++ cur.toList.drop (lo * y.size+news.length)).toArray) :=
     ⟨by omega,fun b hb=>hss.block b (S.mlt b hb) (fun e=>(S.oat _ _ hmem g hg).2.1 (e ▸ hb)),fun b hb=>hb⟩
   refine ⟨goInt m,_,?_,_,hk,env,M,X,(S.write hG hmem hg hss hsz' ?_).put0 (by intro t' ht;cases ht;exact hdn) (.p (.int _ _))⟩
   · have hmin:min m n=m:=hmx
     simp [Builtin.copy_,run_underlying hut,Builtin.lenOf,Builtin.firstCells,run_sizeOf hi,hs,hmin,hld,hst]
   · refine ⟨hm,fun j hj=>?_,.inr ⟨g,cap',_,hg,hrv,setRow_heap w g cur _ _ _ hh,hnc,hcm,by simp only [List.size_toArray,List.length_append,List.length_take,List.length_drop,Array.length_toList,hlen];omega,fun j hj k hk'=>?_⟩⟩
     · unfold cpyGet;split
       · exact hg2 _ (by omega)
       · exact hgl j hj
     · unfold cpyGet
       have hjc:=idx_lt (sz:=y.size) (Nat.lt_of_lt_of_le hj hnc) hk'
       rw [getD_stored cur _ _ (by omega) _ (by omega),hlen]
       by_cases hr:lo <= j /\ j < lo+m
       · have q1:=Nat.mul_le_mul_right y.size hr.1
         have q2:j * y.size+y.size <= (lo+m) * y.size:=by
           have:=Nat.mul_le_mul_right y.size (show j+1 <= lo+m by omega)
           rwa [Nat.add_mul,Nat.one_mul] at this
         rw [Nat.add_mul] at q2
         rw [if_pos hr,if_pos (by omega),show j * y.size+k - lo * y.size=(j - lo) * y.size+k by rw [Nat.sub_mul];omega]
         have q3:=idx_lt (sz:=y.size) (i:=j - lo) (len:=m) (by omega) hk'
         refine ⟨hone _ ?_,(hd2 (j - lo) (by omega) k hk').later (by rw [hlen] at hl';exact hl')⟩
         rw [List.getD_eq_getElem?_getD,List.getElem?_eq_getElem (by omega)]
         exact List.getElem_mem _
       · have hne : ¬ (lo * y.size <= j * y.size + k /\ j * y.size + k < lo * y.size + m * y.size) := by
           intro hx
           rcases Nat.lt_or_ge j lo with h5 | h5
           · have:=Nat.mul_le_mul_right y.size (show j+1 <= lo by omega)
             rw [Nat.add_mul] at this;omega
           · have:=Nat.mul_le_mul_right y.size (show lo+m <= j by omega)
             rw [Nat.add_mul] at this;omega
         rw [if_neg hr,if_neg hne]
         exact ⟨(hd j hj k hk').1,(hd j hj k hk').2.later (by rw [hlen] at hl';exact hl')⟩
theorem stepNil_ok (S:SatC P G st a w env M X) {d:Nat} {t:TypeId} {neg:Bool} {x y:EV} {K:St -> Prop} (h:stepNil P st d t neg x y K) (hd:d < st.nt) {u v:Value} (hu:DenE P M w env x u) (hv:DenE P M w env y v) (p q:Operand) :
   ∃ r,((do eqGuard (if neg then .neq else .eql) t p q u v;binOp (if neg then .neq else .eql) t u v):Sem Value).run P w=.ok r w /\ ∃ st',K st' /\ Sat P G st' (a.put (some d) r) w:=by
 unfold stepNil at h
 split at h
 · rename_i e sz n get hu'
   rcases hu with ⟨hu⟩
   rcases hv with ⟨hv⟩
   cases hv
   cases hu with
   | sl _ _ _ A cap vs hcap hm hA hg ho hden =>
   have hE:(Op.equal t (.slice A n cap) (.slice none 0 0)).run P w=.ok A.isNone w:=by
     have:∀ d,(Op.equalIn (d+1) t (.slice A n cap) (.slice none 0 0)).run P w=.ok A.isNone w:=fun d=>by
       cases A <;> simp [Op.equalIn,run_underlying hu']
     exact this 9999
   have hg0:∀ op,(eqGuard op t p q (.slice A n cap) (.slice none 0 0)).run P w=.ok () w:=fun op=>by cases op <;> simp [eqGuard]
   have r1:((do eqGuard .eql t p q (.slice A n cap) (.slice none 0 0);binOp .eql t (.slice A n cap) (.slice none 0 0)):Sem Value).run P w=.ok (.bool A.isNone) w:=by
     simp only [Sem.run_bind,hg0,Result.andThen_ok,binOp,hE,Sem.run_pure]
   have r2:((do eqGuard .neq t p q (.slice A n cap) (.slice none 0 0);binOp .neq t (.slice A n cap) (.slice none 0 0)):Sem Value).run P w=.ok (.bool (!A.isNone)) w:=by
     simp only [Sem.run_bind,hg0,Result.andThen_ok,binOp,hE,Sem.run_pure]
   have h0:A.isNone=true -> n=0:=fun hA'=>by
     rcases Nat.eq_zero_or_pos n with h | h
     · exact h
     · obtain ⟨ad,e,_⟩:=hA h
       rw [e] at hA';cases hA'
   cases neg with
   | false=>exact ⟨_,r1,_,h A.isNone (fun hb=>h0 hb),env,M,X,S.put0 (by intro t' ht;cases ht;exact hd) (.p (.bool _))⟩
   | true=>exact ⟨_,r2,_,h (!A.isNone) (fun hb=>h0 (by simpa using hb)),env,M,X,S.put0 (by intro t' ht;cases ht;exact hd) (.p (.bool _))⟩
 · rename_i e sz n get hu'
   rcases hv with ⟨hv⟩
   cases hv
   cases hu with
   | @full q0 _ _ _ A cap hu hq =>
   have hE:(Op.equal t (.slice A n cap) (.slice none 0 0)).run P w=.ok A.isNone w:=by
     have:∀ d,(Op.equalIn (d+1) t (.slice A n cap) (.slice none 0 0)).run P w=.ok A.isNone w:=fun d=>by
       cases A <;> simp [Op.equalIn,run_underlying hu']
     exact this 9999
   have hg0:∀ op,(eqGuard op t p q (.slice A n cap) (.slice none 0 0)).run P w=.ok () w:=fun op=>by cases op <;> simp [eqGuard]
   have r1:((do eqGuard .eql t p q (.slice A n cap) (.slice none 0 0);binOp .eql t (.slice A n cap) (.slice none 0 0)):Sem Value).run P w=.ok (.bool A.isNone) w:=by
     simp only [Sem.run_bind,hg0,Result.andThen_ok,binOp,hE,Sem.run_pure]
   have r2:((do eqGuard .neq t p q (.slice A n cap) (.slice none 0 0);binOp .neq t (.slice A n cap) (.slice none 0 0)):Sem Value).run P w=.ok (.bool (!A.isNone)) w:=by
     simp only [Sem.run_bind,hg0,Result.andThen_ok,binOp,hE,Sem.run_pure]
   have h0:A.isNone=decide (n=0):=by
     rcases Nat.eq_zero_or_pos n with h | h
     · rw [(hq.2 rfl h).1,h];rfl
     · cases hu with
       | sl _ _ _ _ _ vs hcap hm hA hg ho hden =>
       obtain ⟨ad,e,_⟩:=hA h
       rw [e,decide_eq_false (Nat.ne_of_gt h)];rfl
   rw [h0] at r1 r2
   cases neg with
   | false=>exact ⟨_,r1,_,h,env,M,X,S.put0 (by intro t' ht;cases ht;exact hd) (.p (.bool _))⟩
   | true=>exact ⟨_,r2,_,h,env,M,X,S.put0 (by intro t' ht;cases ht;exact hd) (.p (.bool _))⟩
 · exact h.elim
theorem stepEff_ok (hG:Stable G) {C:Cfg} (hC:SpecsOk P G C) (S:SatC P G st a w env M X) {gd:Option (Nat × Bool × Bool)} (hgd:GdOk a gd) (hh:holdsG gd) {o:Oper} (hd:∀ t,o.dst=some t -> t < st.nt) (hq:∀ q c x,gd=some (q,c,x) -> o.dst ≠ some q)
   {K:St -> Prop} (h:stepEff P C st gd o K) {N:Act -> World -> Prop} (hN:∀ st' a' w',K st' -> Sat P G st' a' w' -> N a' w'):Leads P a o w N:=by
 obtain ⟨dst,op,ty,pos,after,guard⟩:=o
 simp only at hd hq
 unfold stepEff at h
 simp only at h
 split at h
 · -- alloc
   rename_i t d
   split at h
   · rename_i y hy
     split at h
     · obtain ⟨st',hk,hs⟩:=newArr_ok hG S (hd _ rfl) h
       refine ⟨fun c hc=>by simp at hc,.inl ⟨_,_,?_,hN _ _ _ hk hs⟩⟩
       simp only [execOp]
       exact run_value' (by rw [run_alloc hy])
     obtain ⟨st',hk,hs⟩:=newVar_ok hG S hgd hh (hd _ rfl) (fun q c x hx=>hq q c x hx) h (vs:=y.zero.cells.toList) (by simp) (fun i hi=>by
       have:=denEL_p (P:=P) (env:=env) (denL_svOf (M:=M) (w:=w) y.zero.cells.toList) i (by simpa using hi)
       rw [List.map_map] at this;exact this)
     refine ⟨fun c hc=>by simp at hc,.inl ⟨_,_,?_,hN _ _ _ hk hs⟩⟩
     simp only [execOp]
     exact run_value' (by rw [run_alloc hy])
   · exact h.elim
 · -- box
   rename_i t x d
   split at h
   · rename_i e he
     have hv:=rho_ok S hgd hh he
     have hone:(cellsE e).all oneE=true:=by
       unfold newVar at h
       split at h
       · assumption
       · exact h.elim
     obtain ⟨c1,c2⟩:=cellsE_ok hv hone
     obtain ⟨st',hk,hs⟩:=newVar_ok hG S hgd hh (hd _ rfl) (fun q c x hx=>hq q c x hx) h c1 c2
     refine ⟨fun c hc=>by simp at hc,.inl ⟨_,_,?_,hN _ _ _ hk hs⟩⟩
     simp only [execOp]
     exact run_value' (by rw [run_box])
   · exact h.elim
 · -- store
   rename_i t p x
   split at h
   · rename_i y ep ex hy hp hx
     split at h
     · rename_i ps st' hst
       obtain ⟨h1,h2⟩:=conj_spec h
       obtain ⟨w',hr,S'⟩:=symStore_ok hG S hy hst h1 (rho_ok S hgd hh hp) (rho_ok S hgd hh hx)
       refine ⟨fun c hc=>by simp at hc,.inr (.inl ⟨w',?_,hN _ _ _ h2 ⟨_,_,_,S'⟩⟩)⟩
       simp only [execOp]
       exact run_unit hr
     · exact h.elim
   · exact h.elim
 · -- buildSlice
   rename_i t len parts d
   split at h
   · rename_i e l hu hl
     split at h
     · rename_i y hy
       split at h
       · rename_i cs hcs
         split at h
         · rename_i hc
           obtain ⟨hle,hsz,hzs,hone⟩:=hc
           obtain ⟨q1,q2⟩:=allPs_ok (P:=P) (env:=env) (fun x e hx=>rho_ok S hgd hh hx) _ _ hl
           obtain ⟨cells,r1,r2⟩:=fill_ok (M:=M) (w:=w) (fun i=>some (i * y.size,y.size)) l _ q1 q2 _ _ ((List.range (len * y.size)).map fun k=>y.zero.cells.getD (k % y.size) undef) (by
             have:=denL_svOf (M:=M) (w:=w) ((List.range (len * y.size)).map fun k=>y.zero.cells.getD (k % y.size) undef)
             rw [List.map_map] at this;exact this) hcs
           have h1:∀ v,v ∈ cells -> v.oneCell'=true:=fun v hv=>by
             obtain ⟨i,hi,rfl⟩:=List.getElem_of_mem hv
             have hi':i < cs.length:=by have:=r2.1;omega
             have a1:oneE (.p cs[i])=true:=List.all_eq_true.1 hone _ (List.getElem_mem hi')
             have a2:=r2.2 i hi'
             rw [show SV.at cs i=cs[i] by simp [SV.at,List.getD_eq_getElem?_getD,hi']] at a2
             rw [List.getD_eq_getElem?_getD,List.getElem?_eq_getElem hi,Option.getD_some] at a2
             exact oneE_p a1 a2
           have hcl:cs.length=len * y.size:=by
             have:∀ (pl:Nat -> Option (Nat × Nat)) (ps:List (Nat × SV)) (c0 c1:List SV),fillAll pl c0 ps=some c1 -> c1.length=c0.length:=by
               intro pl ps
               induction ps with
               | nil=>intro c0 c1 h;simp [fillAll] at h;rw [h]
               | cons p ps ih =>
                 intro c0 c1 h
                 obtain ⟨i,s⟩:=p
                 simp only [fillAll] at h
                 split at h
                 · cases h
                 · split at h
                   · rw [ih _ _ h,fillAt_len]
                   · cases h
             rw [this _ _ _ _ hcs];simp
           have hmax:len <= maxLen:=by
             have:len <= len * y.size:=Nat.le_mul_of_pos_right len hsz
             unfold maxLen;omega
           have hrun:=run_buildSlice (P:=P) (w:=w) hu hy hle hzs (parts:=parts.map fun (i,x)=>(i,a.eval x)) (cells:=cells) (by rw [<- r1];simp)
           refine ⟨fun c hc=>by simp at hc,.inl ⟨_,_,by simp only [execOp];exact run_value' hrun,?_⟩⟩
           split at h
           · split at h
             · split at h
               · rename_i hn
                 obtain ⟨env',X',S',hrv⟩:=newRow_ok hG S (hd d rfl) hn (e:=e) (cur:=cells.toArray) (n:=len) (cap:=len) (sz:=y.size) (get:=rowsOf cs y.size) (by have:=r2.1;simp;omega) (Nat.le_refl _) hmax (fun i hi=>rowsOf_len hcl i hi) (fun i hi j hj=>by
                   have:=idx_lt (sz:=y.size) hi hj
                   have hgd':(cells.toArray.getD (i * y.size+j) undef)=cells.getD (i * y.size+j) undef:=by simp [Array.getD_eq_getD_getElem?,List.getD_eq_getElem?_getD]
                   rw [hgd',rowsOf_at _ _ _ _ hj]
                   refine ⟨?_,r2.2 _ (by omega)⟩
                   have hlen:=r2.1
                   rw [List.getD_eq_getElem?_getD,List.getElem?_eq_getElem (by omega)]
                   exact h1 _ (List.getElem_mem _))
                 exact hN _ _ _ h ⟨_,_,_,S'.put0 hd (.row hrv)⟩
               · exact h.elim
             · exact h.elim
           · obtain ⟨M',X',S',hden⟩:=buildSlice_ref hG S (e:=e) r2 h1 hcl hmax
             refine hN _ _ _ h ⟨_,_,_,S'.putG hgd hd hq (fun _=>.p ?_) (fun hn=>absurd hh hn)⟩
             split
             · rename_i hl1
               subst hl1
               refine hden.congr_sl (fun i hi=>?_)
               have:i=0:=by omega
               subst this
               simp only [rowsOf,Nat.zero_mul,List.drop_zero]
               rw [List.take_of_length_le (by omega)]
             · exact hden
         · exact h.elim
       · exact h.elim
     · exact h.elim
   · exact h.elim
 · -- makeSlice
   rename_i t l c d
   split at h
   · rename_i e k1 n k2 m hu hl hc
     split at h
     · rename_i y hy
       split at h
       · rename_i hcd
         obtain ⟨hsz,hzs,hb,hone,hn⟩:=hcd
         obtain ⟨h1,h2⟩:=conj_spec h
         obtain ⟨p1,p2,p3⟩:=all_one h1
         obtain ⟨i,hi,hz,hs,hby,_⟩:=tyOf_spec hy
         have el:=rho_ok S hgd hh hl
         have ec:=rho_ok S hgd hh hc
         rcases el with ⟨el⟩
         rcases ec with ⟨ec⟩
         generalize hel:a.eval l=vl at el
         generalize hec:a.eval c=vc at ec
         cases el;cases ec
         have hmb:m <= 140737488355328:=by
           have:m * 1 <= m * (y.bytes:Int):=Int.mul_le_mul_of_nonneg_left (by omega) (by omega)
           omega
         have hrun:=run_make (P:=P) w t e i y.zero hu hi hz k1 k2 n m p1 p2 (by rw [hby,Int.mul_comm];omega) (by omega)
         rw [hs] at hrun
         have hcur:∀ k,k < m.toNat * y.size -> (madeCells y.zero.cells (m.toNat * y.size)).getD k undef=y.zero.cells.getD (k % y.size) undef:=fun k hk=>by
           have hmod:k % y.size < y.zero.cells.size:=by rw [hzs];exact Nat.mod_lt _ hsz
           simp only [madeCells,Array.getD_eq_getD_getElem?]
           simp [hk,hzs,getElem!_pos y.zero.cells (k % y.size) hmod]
           rw [Array.getElem?_eq_getElem hmod];rfl
         obtain ⟨env',X',S',hrv⟩:=newRow_ok hG S (hd d rfl) hn (e:=e) (cur:=madeCells y.zero.cells (m.toNat * y.size)) (n:=n.toNat) (cap:=m.toNat) (sz:=y.size) (get:=fun _=>y.zero.cells.toList.map svOf) (size_madeCells _ _) (by omega) (by unfold maxLen;omega) (fun i hi=>by simpa using hzs) (fun i hi j hj=>by
           have:=idx_lt (sz:=y.size) (len:=m.toNat) (i:=i) (by omega) hj
           rw [hcur _ this]
           have hmod:(i * y.size+j) % y.size=j:=by rw [Nat.mul_comm,Nat.mul_add_mod,Nat.mod_eq_of_lt hj]
           rw [hmod]
           have hj':j < y.zero.cells.size:=by omega
           have hd':=(denL_svOf (M:=M) (w:=w) y.zero.cells.toList).2 j (by simpa using hj')
           rw [Array.getD_eq_getD_getElem?,Array.getElem?_eq_getElem hj']
           rw [List.getD_eq_getElem?_getD,List.getElem?_eq_getElem (by simpa using hj')] at hd'
           simp only [Option.getD_some,Array.getElem_toList] at hd' ⊢
           exact ⟨by have:=Array.all_eq_true.1 hone j hj';simpa using this,hd'⟩)
         refine ⟨fun c hc=>by simp at hc,.inl ⟨_,_,by simp only [execOp,hel,hec];exact run_value' hrun,?_⟩⟩
         exact hN _ _ _ h2 ⟨_,_,_,S'.put0 hd (.row hrv)⟩
       · exact h.elim
     · exact h.elim
   · exact h.elim
 · -- a new map
   rename_i t d
   split at h
   · rename_i kt e ht
     split at h
     · rename_i hn
       refine ⟨fun c hc=>by simp at hc,.inl ⟨_,_,?_,hN _ _ _ h (newMap_ok hG S (hd _ rfl) hn _ _ _)⟩⟩
       simp only [execOp]
       exact run_value' rfl
     · exact h.elim
   · exact h.elim
 · -- a map is written
   rename_i t m k v
   split at h
   · rename_i em ek hm hk
     obtain ⟨w',st',hr,hk',hs⟩:∃ w' st',(Instr.mapUpdate t (a.eval m) (a.eval k) (a.eval v)).run P w=.ok () w' /\ K st' /\ Sat P G st' a w':=by
       split at h
       · split at h
         · rename_i ev hv
           exact stepMapQ_ok hG S h (rho_ok S hgd hh hm) (rho_ok S hgd hh hk) (rho_ok S hgd hh hv)
         · exact h.elim
       · exact stepMap_ok hG S h (rho_ok S hgd hh hm) (rho_ok S hgd hh hk) (a.eval v)
     refine ⟨fun c hc=>by simp at hc,.inr (.inl ⟨w',?_,hN _ _ _ hk' (by
       obtain ⟨env',M',X',S'⟩:=hs
       exact ⟨env',M',X',S'.put0 (d:=none) (e:=.any) (by simp) .any⟩)⟩)⟩
     simp only [execOp]
     exact run_unit hr
   · exact h.elim
 · -- a map is read
   rename_i t m k co d
   split at h
   · rename_i em ek hm hk
     obtain ⟨s,u,hr,hs,hk'⟩:=stepLookup_ok S h (rho_ok S hgd hh hm) (rho_ok S hgd hh hk)
     refine ⟨fun c hc=>by simp at hc,.inl ⟨u,w,?_,hN _ _ _ hk' ⟨env,M,X,S.put0 (fun t ht=>by cases ht;exact hd _ rfl) (.p hs)⟩⟩⟩
     simp only [execOp]
     exact run_value' hr
   · exact h.elim
 · -- append
   rename_i args ts d
   split at h
   · rename_i s x t t' hargs hts
     split at h
     · rename_i htt
       subst htt
       split at h
       · rename_i es ex hs hx
         have hargs:args = #[s,x]:=by apply Array.ext';simpa using hargs
         have hts:ts = #[t,t]:=by apply Array.ext';simpa using hts
         subst hargs hts
         obtain ⟨v',w',hrun,st',hk,hs'⟩:=stepAppend_ok hG S h (hd _ rfl) (rho_ok S hgd hh hs) (rho_ok S hgd hh hx) ty
         refine ⟨fun c hc=>by simp at hc,.inl ⟨v',w',?_,hN _ _ _ hk hs'⟩⟩
         simp [execOp,resolve,invoke,builtin,hrun]
       · exact h.elim
     · split at h
       · rename_i es ex hs hx
         have hargs:args = #[s,x]:=by apply Array.ext';simpa using hargs
         have hts:ts = #[t,t']:=by apply Array.ext';simpa using hts
         subst hargs hts
         obtain ⟨v',w',hrun,st',hk,hs'⟩:=stepZeros_ok hG S h (hd _ rfl) (rho_ok S hgd hh hs) (rho_ok S hgd hh hx) ty
         refine ⟨fun c hc=>by simp at hc,.inl ⟨v',w',?_,hN _ _ _ hk hs'⟩⟩
         simp [execOp,resolve,invoke,builtin,hrun]
       · exact h.elim
   · exact h.elim
 · -- clear
   rename_i args ts
   split at h
   · rename_i x t hargs hts
     split at h
     · rename_i ex hx
       have hargs:args = #[x]:=by apply Array.ext';simpa using hargs
       have hts:ts = #[t]:=by apply Array.ext';simpa using hts
       subst hargs hts
       obtain ⟨w',hrun,st',hk,hs'⟩:=stepClear_ok hG S h (rho_ok S hgd hh hx) ty
       refine ⟨fun c hc=>by simp at hc,.inl ⟨_,w',?_,hN _ _ _ hk hs'⟩⟩
       simp [execOp,resolve,invoke,builtin,hrun]
     · exact h.elim
   · exact h.elim
 · -- copy
   rename_i args ts dd
   split at h
   · rename_i s x t t' hargs hts
     split at h
     · rename_i es ex hs hx
       have hargs:args = #[s,x]:=by apply Array.ext';simpa using hargs
       have hts:ts = #[t,t']:=by apply Array.ext';simpa using hts
       subst hargs hts
       obtain ⟨r,w',hrun,st',hk,hs'⟩:=stepCopy_ok (t':=t') hG S h (hd _ rfl) (rho_ok S hgd hh hs) (rho_ok S hgd hh hx) ty
       refine ⟨fun c hc=>by simp at hc,.inl ⟨r,w',?_,hN _ _ _ hk hs'⟩⟩
       simp [execOp,resolve,invoke,builtin,hrun]
     · exact h.elim
   · exact h.elim
 · -- against nil
   rename_i t x y q d
   split at h
   · rename_i ex ey hx hy
     obtain ⟨v,hrun,st',hk,hs'⟩:=stepNil_ok S h (hd _ rfl) (rho_ok S hgd hh hx) (rho_ok S hgd hh hy) x y
     refine ⟨fun c hc=>by simp at hc,.inl ⟨v,w,?_,hN _ _ _ hk hs'⟩⟩
     simp only [execOp]
     exact run_value' hrun
   · exact h.elim
 · rename_i t x y q d
   split at h
   · rename_i ex ey hx hy
     obtain ⟨v,hrun,st',hk,hs'⟩:=stepNil_ok S h (hd _ rfl) (rho_ok S hgd hh hx) (rho_ok S hgd hh hy) x y
     refine ⟨fun c hc=>by simp at hc,.inl ⟨v,w,?_,hN _ _ _ hk hs'⟩⟩
     simp only [execOp]
     exact run_value' hrun
   · exact h.elim
 · -- a method's value
   rename_i f first caps d
   split at h
   · rename_i pre res ss hf hss
     split at h
     · rename_i hcaps
       have hl:=allPl_ok (P:=P) (M:=M) (w:=w) (env:=env) (a:=a) (ρ:=st.rho none) (fun x e hx=>rho_ok S hgd hh hx) hss
       have hcaps':caps = #[]:=Array.eq_empty_of_size_eq_zero hcaps
       subst hcaps'
       have hfn:=bound_fnOk hC.1 hf hl
       refine ⟨fun c hc=>by simp at hc,.inl ⟨.func (.func f) (first.toList.map a.eval).toArray #[],w,?_,hN _ _ _ h ⟨_,_,_,S.put0 (by intro t' ht;cases ht;exact hd _ rfl) (.fn hfn)⟩⟩⟩
       have hfirst:first.map a.eval=(first.toList.map a.eval).toArray:=by apply Array.ext';simp
       simp only [execOp]
       exact run_value' (by rw [hfirst];simp [Instr.makeFunc])
     · exact h.elim
   · exact h.elim
 · -- a call
   rename_i f args ts
   split at h
   · rename_i g caps ps as lent hf hargs
     split at h
     · rename_i sp hsp
       rw [argsX_clo hf hsp] at hargs
       obtain ⟨hsok,hen⟩:=hC.1 _ _ hsp
       have hfd:=rho_ok S hgd hh hf
       rcases hfd with ⟨hfd⟩
       generalize hev:a.eval f=vf at hfd
       cases hfd with
       | clo _ _ cvs hcl hcd =>
       have hps:all ps:=by
         cases sp <;> simp only [callSpec] at h <;> have:=(conj_spec h).1 <;> exact (all_append (wrapG_all this hh)).1
       have hA:=argsOf_ok hC.1 S (fun x e hx=>rho_ok S hgd hh hx) _ _ _ _ _ hargs hps (L:=lent) (fun r hr=>hr)
       have hA':=args_append hA (args_of_denL (M':=lentM M env lent) (w:=w) (ss:=caps) (vs:=cvs) ⟨hcl,fun i hi=>(hcd i hi).weak (fun b hb=>.inl hb)⟩)
       have hown:=argsOf_own _ _ _ _ _ hargs
       have:=callSpec_ok hG S hgd hh hd hq h hA' (lentM_lt S hown) hsok hown
       refine ⟨fun c hc=>by simp at hc,.inr (.inr (.inl ⟨g,_,w,run_call_value rfl hev hen,?_⟩))⟩
       have hargsEq:args.map a.eval ++ cvs.toArray=(args.toList.map a.eval ++ cvs).toArray:=by apply Array.ext';simp
       rw [hargsEq]
       exact callsIn_mono this fun e w' ⟨v,he,st',hk,hs⟩=>⟨v,he,hN _ _ _ hk hs⟩
     · split at h
       · rename_i tr as' htr has
         have h:=callTrG_of h hh
         obtain ⟨hT,hen⟩:=hC.2.2.2 g tr htr
         have hfd:=rho_ok S hgd hh hf
         rcases hfd with ⟨hfd⟩
         generalize hev:a.eval f=vf at hfd
         cases hfd with
         | clo _ _ cvs hcl hcd =>
         obtain ⟨r1,r2⟩:=rhoL_ok (P:=P) (M:=M) (w:=w) (env:=env) (a:=a) (ρ:=st.rho gd) (fun x e hx=>rho_ok S hgd hh hx) has
         obtain ⟨q1,q2⟩:=den_append r1 r2 (bs:=caps.map .p) (by simpa using hcl) (denEL_p ⟨hcl,hcd⟩)
         have hc:=callTr_ok hG S hd q1 q2 hT h hN
         refine ⟨fun c hc=>by simp at hc,.inr (.inr (.inl ⟨g,_,w,run_call_value rfl hev hen,?_⟩))⟩
         have hargsEq:args.map a.eval ++ cvs.toArray=(args.toList.map a.eval ++ cvs).toArray:=by apply Array.ext';simp
         rw [hargsEq]
         exact hc
       · exact h.elim
   · -- a closure with own blocks
     rename_i g caps hf
     split at h
     · rename_i tr as htr has
       have h:=callTrG_of h hh
       obtain ⟨hT,hen⟩:=hC.2.2.2 g tr htr
       have hfd:=rho_ok S hgd hh hf
       generalize hev:a.eval f=vf at hfd
       cases hfd with
       | cl _ _ cvs hcl hcd =>
       obtain ⟨r1,r2⟩:=rhoL_ok (P:=P) (M:=M) (w:=w) (env:=env) (a:=a) (ρ:=st.rho gd) (fun x e hx=>rho_ok S hgd hh hx) has
       obtain ⟨q1,q2⟩:=den_append r1 r2 hcl hcd
       have hc:=callTr_ok hG S hd q1 q2 hT h hN
       refine ⟨fun c hc=>by simp at hc,.inr (.inr (.inl ⟨g,_,w,run_call_value rfl hev hen,?_⟩))⟩
       have hargsEq:args.map a.eval ++ cvs.toArray=(args.toList.map a.eval ++ cvs).toArray:=by apply Array.ext';simp
       rw [hargsEq]
       exact hc
     · exact h.elim
   · rename_i sp ps as lent hf hargs
     rw [argsX_fn hf] at hargs
     split at h
     · rename_i ss hss
       have hfd:=rho_ok S hgd hh hf
       generalize hev:a.eval f=vf at hfd
       cases hfd with
       | fn hfn =>
       obtain ⟨g,first,caps,rfl,hen,hcall⟩:=hfn
       have hps:all ps:=by
         simp only [callSpec] at h;have:=(conj_spec h).1;exact (all_append (wrapG_all this hh)).1
       have hA:=argsOf_ok hC.1 S (fun x e hx=>rho_ok S hgd hh hx) _ _ _ _ _ hargs hps (L:=lent) (fun r hr=>hr)
       have hown:=argsOf_own _ _ _ _ _ hargs
       have hlt:=lentM_lt (env:=env) S hown
       -- the contract of the value,as a contract of 'g' at these arguments
       simp only [callSpec] at h
       obtain ⟨h1,h2⟩:=conj_spec h
       have h1:=wrapG_all h1 hh
       have hp:sp.pre ss:=by
         have:=h1 _ (List.mem_append.2 (.inr (List.mem_singleton.2 rfl)))
         simp only [hss] at this;exact this
       simp only [hss] at h2
       have hlat:Later M (lentM M env lent) w w:=⟨Nat.le_refl _,fun _ _=>rfl,fun b hb=>.inl hb⟩
       have hdl:DenL (lentM M env lent) w ss (args.toList.map a.eval):=by
         have:=allP_spec hss
         subst this
         refine ⟨by simpa using hA.1,fun i hi=>?_⟩
         have:=(hA.2 i (by simpa using hi)).2
         rw [evat_p _ _ hi] at this
         rcases this with ⟨this⟩;exact this
       have hc:=hcall _ w hlat hlt ss _ hdl hp
       refine ⟨fun c hc=>by simp at hc,.inr (.inr (.inl ⟨g,_,w,run_call_first rfl hev hen,?_⟩))⟩
       have hargsEq:first ++ args.map a.eval ++ caps=first ++ (args.toList.map a.eval).toArray ++ caps:=by congr 2;apply Array.ext';simp
       rw [hargsEq]
       refine callsIn_mono hc fun e w' hg=>?_
       split at h2
       · rename_i hL
         obtain ⟨v,rfl,hs⟩:=gives_ok hG S hgd hh hd hq hL hg
         exact ⟨v,rfl,hN _ _ _ h2 hs⟩
       · exact h2.elim
     · exact h.elim
   · -- yield
     rename_i l ps as lent hf hargs
     rw [argsX_yield hf] at hargs
     split at h
     · rename_i y ss hy hss
       split at h
       · rename_i hc
         simp only [Bool.and_eq_true] at hc
         obtain ⟨hL,hnm⟩:=hc
         have hL:lent = []:=by simpa using hL
         subst hL
         obtain ⟨h1,h2⟩:=conj_spec h
         obtain ⟨hps,h3⟩:=all_append h1
         have hly:=h3 (l=y.l) (by simp)
         subst hly
         have hlt:=h3 (st.yk < y.cnt) (by simp)
         have hitem:=h3 (ss=y.item st.yk) (by simp)
         have hfd:=rho_ok S hgd hh hf
         generalize hev:a.eval f=vf at hfd
         cases hfd with
         | yield =>
         have hA:=argsOf_ok hC.1 S (fun x e hx=>rho_ok S hgd hh hx) _ _ _ _ _ hargs hps (L:=[]) (fun r hr=>hr)
         have hdl:DenL (fun _=>False) w ss (args.toList.map a.eval):=by
           have:=allP_spec hss
           subst this
           refine ⟨by simpa using hA.1,fun i hi=>?_⟩
           have:=(hA.2 i (by simpa using hi)).2
           rw [evat_p _ _ hi] at this
           rcases this with ⟨this⟩;exact noMem_ok this (noMem_ok.noMems_at hnm i hi)
         obtain ⟨fn,tmps,assign,body,hrun,hround⟩:=hC.2.1 y hy st.yk X w _ hlt S.gam.1 S.xlt (hitem ▸ hdl)
         refine ⟨fun c hc=>by simp at hc,.inr (.inr (.inr ⟨y.l,fn,tmps,assign,body,w,?_,roundIn_mono hround fun e w' ⟨b,he,q1,q2,q3⟩=>⟨_,he,?_⟩⟩))⟩
         · have e1:args.map a.eval=(args.toList.map a.eval).toArray:=by apply Array.ext';simp
           simp only [execOp,resolve,hev,Deferred.ofValue,Sem.run_bind,Sem.run_pure,Result.andThen_ok,invoke,e1]
           simpa using hrun
         · cases b with
           | true =>
             refine hN _ _ _ h2.1 ⟨env,M,X,?_⟩
             exact (S.yielded q1 (fun c hc h=>q2 c hc (h.imp (fun h=>⟨rfl,h⟩) id)) q3).put0 hd (.p (.bool true))
           | false =>
             refine hN _ _ _ h2.2 ⟨env,fun _=>False,X,?_⟩
             exact (S.yieldedF q1 (fun c hc h=>q2 c hc (.inr h)) q3).put0 hd (.p (.bool false))
       · exact h.elim
     · exact h.elim
   · exact h.elim
 · exact h.elim
theorem stepEff_skip {C:Cfg} (S:SatC P G st a w env M X) {gd:Option (Nat × Bool × Bool)} (hgd:GdOk a gd) (hh:¬ holdsG gd) {o:Oper} (hd:∀ t,o.dst=some t -> t < st.nt) (hq:∀ q c x,gd=some (q,c,x) -> o.dst ≠ some q)
   {K:St -> Prop} (h:stepEff P C st gd o K):∃ st',K st' /\ Sat P G st' (a.put o.dst undef) w:=by
 have fin:∀ e:EV,Sat P G (st.put o.dst ⟨gd,e⟩) (a.put o.dst undef) w:=fun e=>⟨_,_,_,S.putG hgd hd hq (fun h=>absurd h hh) (fun _=>rfl)⟩
 have hsome:∃ q c x,gd=some (q,c,x):=by
   cases gd with
   | none=>exact absurd trivial hh
   | some gd=>obtain ⟨q,c,x⟩:=gd;exact ⟨q,c,x,rfl⟩
 obtain ⟨q,c,x,rfl⟩:=hsome
 have hx:x=false:=by cases x;rfl;exact absurd rfl hh
 obtain ⟨dst,op,ty,pos,after,guard⟩:=o
 simp only at hd hq fin
 unfold stepEff at h
 simp only at h
 have call:∀ {sides:List Prop} {args:List EV} {L:List Nat} {sp:Spec},callSpec C st (some (q,c,x)) dst sides args L sp K -> ∃ st',K st' /\ Sat P G st' (a.put dst undef) w:=by
   intro sides args L sp h
   cases sp with
   | fn pre res =>
     simp only [callSpec] at h
     have h2:=(conj_spec h).2
     split at h2
     · exact ⟨_,h2,fin _⟩
     · exact h2.elim
   | rel T t0 pre post res =>
     simp only [callSpec] at h
     have h2:=(conj_spec h).2 t0 (by simp [guardP,hx])
     split at h2
     · exact ⟨_,h2,fin _⟩
     · exact h2.elim
   | fresh T t0 pre post e0 sz n get =>
     simp only [callSpec] at h
     have h20:=(conj_spec h).2 t0 (by simp [guardP,hx])
     have h2:=(conj_spec h20).2
     clear h20
     split at h2
     · exact ⟨_,h2,fin (.p (.raw undef))⟩
     · split at h2
       · exact h2.elim
       · exact ⟨_,h2,fin _⟩
 split at h
 · split at h
   · split at h
     · simp [newArr] at h
     unfold newVar at h
     simp at h
   · exact h.elim
 · split at h
   · unfold newVar at h
     split at h
     · split at h
       · exact h.elim
       · split at h
         · exact ⟨_,h,fin _⟩
         · exact h.elim
     · exact h.elim
   · exact h.elim
 · exact h.elim
 · split at h
   · split at h
     · split at h
       · split at h
         · split at h
           · exact h.elim
           · exact ⟨_,h,fin _⟩
         · exact h.elim
       · exact h.elim
     · exact h.elim
   · exact h.elim
 · exact h.elim
 · exact h.elim
 · exact h.elim
 · exact h.elim
 · exact h.elim
 · exact h.elim
 · exact h.elim
 · exact h.elim
 · exact h.elim
 · exact h.elim
 · split at h
   · split at h
     · exact call h
     · split at h
       · exact ⟨_,h.2 hx,fin _⟩
       · exact h.elim
   · split at h
     · exact ⟨_,h.2 hx,fin _⟩
     · exact h.elim
   · split at h
     · exact call h
     · exact h.elim
   · exact h.elim
   · exact h.elim
 · exact h.elim
theorem execOps_ok (hG:Stable G) {C:Cfg} (hC:SpecsOk P G C) {ro:Option Nat} {n:Nat} {ops:Array Oper} {Q:Exit -> Act -> World -> Prop} {K:St -> Prop} (hK:∀ st a w,K st -> Sat P G st a w -> Q .normal a w) :
   ∀ (rest:List Oper) (st:St) (a:Act) (w:World),execOps P C ops rest st K -> Sat P G st a w -> wpListIn (W ro) n P ops Q rest a w
 | [],st,a,w,h,hs=>hK st a w h hs
 | o :: rest,st,a,w,h,⟨env,M,X,S⟩=>by
   simp only [execOps] at h
   split at h
   · exact h.elim
   · rename_i gd hgd0
     obtain ⟨hgd,hwant⟩:=guardOf_ok S hgd0
     split at h
     · rename_i hcheck
       have hd:∀ t,o.dst=some t -> t < st.nt:=fun t ht=>by
         rw [ht] at hcheck
         cases gd with
         | none=>simpa [dstOk] using hcheck
         | some g=>obtain ⟨q,c,x⟩:=g;simp [dstOk] at hcheck;exact hcheck.1
       have hq:∀ q c x,gd=some (q,c,x) -> o.dst ≠ some q:=fun q c x hg ht=>by
         rw [ht,hg] at hcheck
         simp [dstOk] at hcheck
       by_cases hw:Region.wanted o (yielded ops a.tmps)=true
       · have hh:=hwant.1 hw
         refine list_leads hw ?_
         split at h
         · rename_i d t x hi hcut
           obtain ⟨c1,c2,c3⟩:=cutOf_spec hcut
           obtain ⟨v,st',hr,hk,hs⟩:=stepCut_ok hG S h (hd _ c2)
           refine ⟨fun c hc=>(by rw [c1] at hc;cases hc),.inl ⟨v,w,by simp [execOp,c1,hr],?_⟩⟩
           rw [c2]
           exact execOps_ok hG hC hK rest st' _ _ hk hs
         split at h
         · rename_i ps e hstep
           obtain ⟨h1,h2⟩:=conj_spec h
           obtain ⟨u,hr,hden⟩:=stepPure_ok S hgd hh hstep (wrapG_all h1 hh) o rfl
           refine ⟨fun c hc=>?_,.inl ⟨u,w,hr,execOps_ok hG hC hK rest _ _ _ h2 ⟨_,_,_,S.putG hgd hd hq (fun _=>hden) (fun hn=>absurd hh hn)⟩⟩⟩
           rw [hc] at hstep
           simp [stepPure,symPure] at hstep
         · exact stepEff_ok hG hC S hgd hh hd hq h (fun st' a' w' hk hs=>execOps_ok hG hC hK rest st' a' w' hk hs)
       · have hh:¬ holdsG gd:=fun hx=>hw (hwant.2 hx)
         refine list_skip hw ?_
         split at h
         · rename_i d t x hi hcut
           obtain ⟨c1,c2,c3⟩:=cutOf_spec hcut
           exact absurd trivial (by rw [c3] at hh;exact hh)
         split at h
         · rename_i ps e hstep
           obtain ⟨_,h2⟩:=conj_spec h
           exact execOps_ok hG hC hK rest _ _ _ h2 ⟨_,_,_,S.putG hgd hd hq (fun hn=>absurd hn hh) (fun _=>rfl)⟩
         · obtain ⟨st',hk,hs⟩:=stepEff_skip S hgd hh hd hq h
           exact execOps_ok hG hC hK rest st' _ _ hk hs
     · exact h.elim
end Go.SE
namespace Go.SE
open Go.RowKit
def opSlots (op:Op):List Nat:=op.operands.toList.filterMap fun x=>match x with | .tmp t=>some t | _=>none
def callSlot:Op -> List Nat
 | .call { callee:=.value (.tmp t),.. }=>[t]
 | _=>[]
def guardSlot (ops:Array Oper) (o:Oper):List Nat:=match o.guard with
 | some (j,_)=>match ops.toList[j]? with | some oj=>oj.dst.toList | none=>[]
 | none=>[]
def slotsOf (ops:Array Oper) (o:Oper):List Nat:=opSlots o.op ++ callSlot o.op ++ guardSlot ops o
def St.only (st:St) (L:List Nat):St:={ st with T:=st.T.filter fun x=>L.contains x.1 }
def drawEff (P:Program) (C:Cfg) (st:St) (gd:Option (Nat × Bool × Bool)) (o:Oper):Option (List Prop × EV):=match o.op with
 | .box t x=>match o.dst,st.rho gd x with
   | some d,some e=>if (cellsE e).all oneE && !(C.muts.contains d) then (allP (cellsE e)).map fun ss=>([],.p (.ref ss 0)) else none
   | _,_=>none
 | .buildSlice t len parts=>match P.underlying t,allPs (st.rho gd) parts.toList,o.dst with
   | some (.slice e),some l,some d=>match tyOf P e with
     | some y=>match fillAll (fun i=>some (i * y.size,y.size)) ((List.range (len * y.size)).map fun k=>svOf (y.zero.cells.getD (k % y.size) undef)) l with
       | some cs=>if (len * y.size <= 16777216 /\ 0 < y.size /\ y.zero.cells.size=y.size /\ cs.all (fun s=>oneE (.p s))) /\ C.muts.contains d=false then some ([],.p (.sl y.size len (if len=1 then fun _=>cs else rowsOf cs y.size))) else none
       | none=>none
     | none=>none
   | _,_,_=>none
 | .call { callee:=.builtin .append,args:=args,argTypes:=ts }=>match args.toList,ts.toList,gd with
   | [s,x],[t,t'],none=>match P.underlying t,st.rho none s,st.rho none x with
     | some (.slice e),some (.full true sz n get),some ex=>match tyOf P e with
       | some y=>match slOf st y.size ex with
         | some (ps,m,get2)=>if t=t' /\ sz=y.size /\ 0 < y.size /\ 0 < y.bytes then some (ps ++ [0 < m /\ (n+m) * y.bytes <= 140737488355328],.p (.sl sz (n+m) (appGet n get get2))) else none
         | none=>none
       | none=>none
     | _,_,_=>none
   | _,_,_=>none
 | .call { callee:=.value f,args:=args,argTypes:=ts }=>match st.rho gd f,argsOf P C st (st.rho gd) args.toList ts.toList with
   | some (.p (.clo g caps)),some (ps,as,lent)=>match C.specs g with
     | some (.fn pre res)=>if lent.isEmpty || noMem (res (as ++ caps.map .p)) then some (ps ++ [pre (as ++ caps.map .p)],.p (res (as ++ caps.map .p))) else none
     | _=>none
   | some (.fn sp),some (ps,as,lent)=>match allP as with
     | some ss=>if lent.isEmpty || noMem (sp.res ss) then some (ps ++ [sp.pre ss],.p (sp.res ss)) else none
     | none=>none
   | _,_=>none
 | _=>none
def newOwnOf (P:Program) (o:Oper):List (Nat × Own):=match o.op,o.dst with
 | .alloc t,some d=>match tyOf P t with
   | some y=>[(d,.blk t (y.zero.cells.toList.map fun v=>.p (svOf v)))]
   | none=>[]
 | _,_=>[]
def allocDs (P:Program):List Oper -> List Nat
 | []=>[]
 | o :: l=>(newOwnOf P o).map (·.1) ++ allocDs P l
def allocOwn (P:Program):List Oper -> List (Nat × Own)
 | []=>[]
 | o :: l=>newOwnOf P o ++ allocOwn P l
def St.add (st:St) (l:List (Nat × Own)):St:={ st with own:=l ++ st.own }
def St.forgets (st:St):List Nat -> St
 | []=>st
 | d :: ds=>(st.forget d).forgets ds
def storeOf (o:Oper):Option (TypeId × Nat × Operand):=match o.op,o.dst,o.guard with
 | .store t (.tmp d) x,none,none=>some (t,d,x)
 | _,_,_=>none
def madeBy (t:TypeId) (d:Nat) (o:Oper):Bool:=match o.op,o.dst with
 | .alloc t',some d'=>t' == t && d' == d
 | _,_=>false
def usesIt (ops:Array Oper) (d:Nat) (o:Oper):Bool:=(slotsOf ops o).contains d
def makesIt (d:Nat) (o:Oper):Bool:=o.dst == some d
def oneOf (p:Oper -> Bool) (l:List Oper):Bool:=(l.filter p).length == 1
def isIt (d:Nat) (o:Oper):Bool:=match storeOf o with | some (_,d',_)=>d' == d | none=>false
def stIdx (ops:Array Oper) (d:Nat):Option Nat:=(List.range ops.size).find? fun i=>match ops.toList[i]? with | some o=>isIt d o | none=>false
def exOk (ops:Array Oper) (d:Nat):Bool:=ops.toList.any (isIt d) && (oneOf (usesIt ops d) ops.toList && !(ops.toList.any (makesIt d)))
def isBlk:Own -> Bool
 | .blk ..=>true
 | _=>false
def exOwn (ops:Array Oper) (own:List (Nat × Own)):List (Nat × Own):=own.filter fun x=>exOk ops x.1 && isBlk x.2
def St.minus (st:St) (ops:Array Oper):St:={ st with own:=st.own.filter fun x=>!(exOk ops x.1 && isBlk x.2) }
def blkOf (E:List (Nat × Own)) (d n:Nat):Bool:=match lookupO E d with
 | some (.blk _ cs)=>decide (n <= cs.length)
 | _=>false
def storeStep (P:Program) (ops:Array Oper) (E:List (Nat × Own)) (st:St) (o:Oper):Option EV:=match storeOf o with
 | some (t,d,x)=>match tyOf P t,st.rho none (.tmp d),st.rho none x with
   | some y,some (.loc b 0),some ex=>if (b=d /\ (cellsE ex).length=y.size /\ y.zero.cells.size=y.size) /\ (((ops.toList.any (madeBy t d) && oneOf (makesIt d) ops.toList) || (exOk ops d && blkOf E d y.size)) && oneOf (usesIt ops d) ops.toList && (cellsE ex).all oneE && (allP (cellsE ex)).isSome)=true then some ex else none
   | _,_,_=>none
 | none=>none
def intV:SV -> Int
 | .int _ n=>n
 | _=>0
def loadCut (P:Program) (C:Cfg) (st:St) (gd:Option (Nat × Bool × Bool)) (o:Oper):Res:=match o.op,o.dst with
 | .load t x,some d=>if C.cuts.contains d then (match stepPure P st gd (.load t x) with
   | some (ps,.p s)=>some (ps ++ [s=.int .i64 (intV s)],.p (.int .i64 (intV s)))
   | _=>none) else none
 | _,_=>none
def contL (ops:Array Oper) (es:List Ent) (q:Nat -> Bool) (x:Nat × Own):Nat × Own:=match x.2,stIdx ops x.1 with
 | .blk t cs,some j=>(match q j,es[j]? with
   | true,some e=>(x.1,.blk t (setAt cs 0 (cellsE e.v)))
   | _,_=>x)
 | _,_=>x
def drawStep (P:Program) (C:Cfg) (ops:Array Oper) (E:List (Nat × Own)) (st:St) (o:Oper):Option (List Prop × Ent) :=
 match guardOf ops (st.only (slotsOf ops o)) o with
 | none=>none
 | some gd=>if dstOk st o.dst gd then (match loadCut P C (st.only (slotsOf ops o)) gd o with
  | some (ps,e)=>some (wrapG gd ps,⟨gd,e⟩)
  | none=>match stepPure P (st.only (slotsOf ops o)) gd o.op with
   | some (ps,e)=>some (wrapG gd ps,⟨gd,e⟩)
   | none=>match drawEff P C (st.only (slotsOf ops o)) gd o with
     | some (ps,e)=>some (wrapG gd ps,⟨gd,e⟩)
     | none=>match storeStep P ops E (st.only (slotsOf ops o)) o with
       | some e=>some ([],⟨none,e⟩)
       | none=>match gd,newOwnOf P o with
         | none,[(d,.blk _ cs)]=>if cs.all oneE then some ([],⟨none,.loc d 0⟩) else none
         | _,_=>none) else none
def drawGo (P:Program) (C:Cfg) (ops:Array Oper) (E:List (Nat × Own)):List Oper -> St -> Option (List Prop × List Ent × St)
 | [],st=>some ([],[],st)
 | o :: rest,st=>match drawStep P C ops E st o with
   | none=>none
   | some (ps,e)=>match drawGo P C ops E rest (st.put o.dst e) with
     | none=>none
     | some (qs,es,stF)=>some (ps ++ qs,e :: es,stF)
def aft (o:Oper) (j:Nat):Bool:=o.after.any fun e=>Region.binds .any e && e.on == j
def drawChk (ops:List Oper) (all:Array Oper):Nat -> List Oper -> Bool
 | _,[]=>true
 | i, o :: rest => (o.after.all fun e => !Region.binds .any e || decide (e.on < i)) &&
     ((List.range ops.length).all fun j=>j == i || (match ops[j]? with
       | some oj=>(match oj.dst with
         | some d=>!(o.dst == some d) && (!((slotsOf all o).contains d) || (if j < i then aft o j else aft oj i)) && (!((guardSlot all o).contains d) || decide (j < i))
         | none=>true)
       | none=>true)) && !((o.dst.toList).any fun d=>(guardSlot all o).contains d) && drawChk ops all (i+1) rest
def St.noGuards (st:St) (ops:List Oper):St:={ st with T:=st.T.filter fun x=>!(ops.any fun o=>match o.dst with | some d=>x.2.by d | none=>false) }
def drawLen (P:Program) (C:Cfg) (ops:Array Oper) (E:List (Nat × Own)):List Oper -> St -> Nat
 | [],_=>0
 | o :: rest,st=>match drawStep P C ops E st o with
   | none=>0
   | some (_,e)=>drawLen P C ops E rest (st.put o.dst e)+1
def aftOf (ops:List Oper) (j:Nat):List Nat:=match ops[j]? with
 | some o=>(o.after.toList.filter fun e=>Region.binds .any e).map (·.on)
 | none=>[]
def ancDown (ops:List Oper):Nat -> List Nat -> List Nat
 | 0,l=>l
 | i+1,l=>ancDown ops i (if l.contains i then l ++ aftOf ops i else l)
def sufOne (Z:List Nat) (ops:List Oper) (j:Nat):Bool:=(aftOf ops j).all (fun x=>decide (x < j)) && (List.range j).all fun i=>(ancDown ops j (aftOf ops j)).contains i || Z.contains i
def sufChk (Z:List Nat) (ops:List Oper) (k:Nat):Bool:=(List.range ops.length).all fun j=>decide (j < k) || sufOne Z ops j
def moveOf (o:Oper):Option (Nat × Nat):=match o.op,o.dst,o.guard with
 | .move (.tmp s),some d,none=>some (d,s)
 | .extract (.tmp s) _,some d,none=>some (d,s)
 | _,_,_=>none
def lazyOk (ops:Array Oper) (i:Nat):Bool:=match ops[i]? with
 | some oi=>match moveOf oi with
   | some (d,s)=>!(d == s) && (List.range ops.size).all fun j=>j == i || (match ops[j]? with
     | some oj=>((oj.after.any fun e=>Region.binds .any e && e.on == i) || !((oj.looksAt ops).contains d)) && !(oj.dst == some d) && ((oi.after.any fun e=>Region.binds .any e && e.on == j) || !(oj.dst == some s))
     | none=>true)
   | none=>false
 | none=>false
def plainOps (ops:Array Oper):Bool:=ops.all fun o=>match o.op with
 | .defer _ | .select ..=>false
 | _=>true
def lazies (ops:Array Oper) (k:Nat):List Nat:=if decide (k < ops.size) && plainOps ops then (List.range k).filter (fun i=>lazyOk ops i && !((ancDown ops.toList k (aftOf ops.toList k)).contains i)) else []
def namesChk (ops:List Oper):List Ent -> Nat -> Bool:=fun es d=>(ops.zip es).all fun x=>x.1.dst == some d || !(x.2.v.names d)
def allocChk (P:Program) (ops:List Oper) (es:List Ent) (st0:St):List Nat -> Bool
 | []=>true
 | d :: ds=>st0.noName d && namesChk ops es d && allocChk P ops es st0 ds
def exC (ops:Array Oper) (es:List Ent) (q:Nat -> Bool) (x:Nat × Own):Nat × Own:=if exOk ops x.1 && isBlk x.2 then contL ops es q x else x
def execDraw1 (P:Program) (C:Cfg) (ops:Array Oper) (stf:St) (K:St -> Prop):Prop :=
 (fun k=>if drawChk (ops.toList.take k) ops 0 (ops.toList.take k) && sufChk (lazies ops k) ops.toList k then (match drawGo P C ops (exOwn ops stf.own) (ops.toList.take k) (stf.minus ops) with
   | some (ps,es,stF)=>if allocChk P (ops.toList.take k) es stf (allocDs P (ops.toList.take k)) && nodupB (allocDs P (ops.toList.take k)) then conj ps (execOps P C ops (ops.toList.drop k) { stF with own:=(allocOwn P (ops.toList.take k)).map (contL ops es fun j=>decide (j < k)) ++ stf.own.map (exC ops es fun j=>decide (j < k)) } K) else False
   | none=>False) else False) (drawLen P C ops (exOwn ops stf.own) ops.toList (stf.minus ops))
def execDraw (P:Program) (C:Cfg) (ops:Array Oper) (st:St) (K:St -> Prop):Prop:=execDraw1 P C ops ((st.noGuards ops.toList).forgets (allocDs P ops.toList)) K
variable {P:Program} {M:Nat -> Prop} {w:World} {G:Ctx} {st:St} {a:Act} {env:Env} {X:Nat -> Prop}
theorem SatC.only (S:SatC P G st a w env M X) (L:List Nat):SatC P G (st.only L) a w env M X :=
 S.sub (fun _ hx=>(List.mem_filter.1 hx).1) (fun _ hx=>hx) S.nod rfl rfl
theorem newOwnOf_nil {o:Oper} (h:∀ t,o.op ≠ .alloc t):newOwnOf P o = []:=by
 unfold newOwnOf
 split
 · rename_i t d h1 h2;exact absurd h1 (h t)
 · rfl
theorem add_nil (st:St):st.add []=st:=rfl
theorem loadCut_ok {C:Cfg} {st:St} {gd:Option (Nat × Bool × Bool)} (S:SatC P G st a w env M X) (hgd:GdOk a gd) (hh:holdsG gd) {o:Oper} {ps:List Prop} {e:EV} (h:loadCut P C st gd o=some (ps,e)) (hp:all ps) :
   ∃ u,(execOp a.eval o).run P w=.ok (.value u) w /\ DenE P M w env e u:=by
 unfold loadCut at h
 split at h
 · rename_i t x d h1 h2
   split at h
   · split at h
     · rename_i ps' s hs
       cases h
       obtain ⟨p1,p2⟩:=all_append hp
       obtain ⟨u,hr,hden⟩:=stepPure_ok S hgd hh hs p1 o h1
       refine ⟨u,hr,?_⟩
       have:=all_one p2
       rwa [this] at hden
     · cases h
   · cases h
 · cases h
theorem drawStep_ok (hG:Stable G) {C:Cfg} (hC:SpecsOk P G C) {ops:Array Oper} {o:Oper} {E:List (Nat × Own)} {ps:List Prop} {e:Ent} (h:drawStep P C ops E st o=some (ps,e)) (hns:storeOf o=none) (hp:all ps) {st2:St} (hnt:st2.nt=st.nt)
   (S:SatC P G (st.only (slotsOf ops o)) a w env M X) (S2:SatC P G st2 a w env M X) (hfree:∀ d o',(d,o') ∈ newOwnOf P o -> st2.noName d=true /\ ∀ x,x ∈ st2.T -> x.2.v.names d=false) :
   (Region.wanted o (yielded ops a.tmps)=true -> Leads P a o w (fun a' w'=>Sat P G ((st2.add (newOwnOf P o)).put o.dst e) a' w')) /\ (¬ Region.wanted o (yielded ops a.tmps)=true -> Sat P G ((st2.add (newOwnOf P o)).put o.dst e) (a.put o.dst undef) w):=by
 unfold drawStep at h
 split at h
 · cases h
 · rename_i gd hgd0
   obtain ⟨hgd,hwant⟩:=guardOf_ok S hgd0
   split at h
   · rename_i hcheck
     have hd:∀ t,o.dst=some t -> t < st2.nt:=fun t ht=>by
       rw [ht] at hcheck
       rw [hnt]
       cases gd with
       | none=>simpa [dstOk] using hcheck
       | some g=>obtain ⟨q,c,x⟩:=g;simp [dstOk] at hcheck;exact hcheck.1
     have hq:∀ q c x,gd=some (q,c,x) -> o.dst ≠ some q:=fun q c x hg ht=>by
       rw [ht,hg] at hcheck
       simp [dstOk] at hcheck
     have skip:∀ ev:EV,¬ holdsG gd -> Sat P G (st2.put o.dst ⟨gd,ev⟩) (a.put o.dst undef) w:=fun ev hn=>⟨_,_,_,S2.putG hgd hd hq (fun h=>absurd h hn) (fun _=>rfl)⟩
     split at h
     · rename_i ps' ev hstep
       cases h
       rw [newOwnOf_nil (fun t ht=>by unfold loadCut at hstep;rw [ht] at hstep;cases hstep),add_nil]
       refine ⟨fun hw=>?_,fun hw=>skip _ (fun hx=>hw (hwant.2 hx))⟩
       have hh:=hwant.1 hw
       obtain ⟨u,hr,hden⟩:=loadCut_ok S hgd hh hstep (wrapG_all hp hh)
       refine ⟨fun c hc=>?_,.inl ⟨u,w,hr,_,_,_,S2.putG hgd hd hq (fun _=>hden) (fun hn=>absurd hh hn)⟩⟩
       unfold loadCut at hstep
       rw [hc] at hstep
       cases hstep
     rename_i hlc
     clear hlc
     split at h
     · rename_i ps' ev hstep
       cases h
       rw [newOwnOf_nil (fun t ht=>by rw [ht] at hstep;simp [stepPure,symPure] at hstep),add_nil]
       refine ⟨fun hw=>?_,fun hw=>skip _ (fun hx=>hw (hwant.2 hx))⟩
       have hh:=hwant.1 hw
       obtain ⟨u,hr,hden⟩:=stepPure_ok S hgd hh hstep (wrapG_all hp hh) o rfl
       refine ⟨fun c hc=>?_,.inl ⟨u,w,hr,_,_,_,S2.putG hgd hd hq (fun _=>hden) (fun hn=>absurd hh hn)⟩⟩
       rw [hc] at hstep
       simp [stepPure,symPure] at hstep
     · split at h
       · rename_i ps' ev heff
         cases h
         rw [newOwnOf_nil (fun t ht=>by unfold drawEff at heff;rw [ht] at heff;cases heff),add_nil]
         refine ⟨fun hw=>?_,fun hw=>skip _ (fun hx=>hw (hwant.2 hx))⟩
         have hh:=hwant.1 hw
         have hp:=wrapG_all hp hh
         obtain ⟨dst,op,ty,pos,after,guard⟩:=o
         simp only at hd hq
         unfold drawEff at heff
         simp only at heff S
         split at heff
         · -- box
           rename_i t x _
           split at heff
           · rename_i d e' hx
             split at heff
             · rename_i hc
               simp only [Bool.and_eq_true] at hc
               simp only [Option.map_eq_some_iff] at heff
               obtain ⟨ss,hss,he⟩:=heff
               cases he
               have hv:=rho_ok S hgd hh hx
               obtain ⟨c1,c2⟩:=cellsE_ok hv hc.1
               obtain ⟨M',X',S',hden,_⟩:=S2.newRef hG (denL_of_allP hss c1 c2) (all_oneE hc.1 c1 c2) t
               refine ⟨fun c hc=>by simp at hc,.inl ⟨_,_,?_,_,_,_,S'.putG hgd hd hq (fun _=>.p hden) (fun hn=>absurd hh hn)⟩⟩
               simp only [execOp]
               exact run_value' (by rw [run_box])
             · cases heff
           · cases heff
         · -- a slice
           rename_i t len parts _
           split at heff
           · rename_i e' l d hu hz9 hl
             split at heff
             · rename_i y hy
               split at heff
               · rename_i cs hcs
                 split at heff
                 · rename_i hc
                   cases heff
                   obtain ⟨v,w',M',X',hrun,S',hden⟩:=buildRef_ok hG S2 hu hy (fun x e hx=>rho_ok S hgd hh hx) hl hcs hc.1
                   refine ⟨fun c hc=>by simp at hc,.inl ⟨_,_,?_,_,_,_,S'.putG hgd hd hq (fun _=>.p hden) (fun hn=>absurd hh hn)⟩⟩
                   simp only [execOp]
                   exact run_value' hrun
                 · cases heff
               · cases heff
             · cases heff
           · cases heff
         · -- an append to a slice without room
           rename_i args ts _
           split at heff
           · rename_i s x t t' hargs hts _
             split at heff
             · rename_i e' sz n get ex hu hs hx
               split at heff
               · rename_i y hy
                 split at heff
                 · rename_i ps1 m get2 hsl
                   split at heff
                   · rename_i hc
                     obtain ⟨rfl,rfl,hsz,hb⟩:=hc
                     cases heff
                     have hargs:args = #[s,x]:=by apply Array.ext';simpa using hargs
                     have hts:ts = #[t,t]:=by apply Array.ext';simpa using hts
                     subst hargs hts
                     obtain ⟨hp1,hp2⟩:=all_append hp
                     obtain ⟨hm0,hbytes⟩:=all_one hp2
                     have hmax:n+m <= maxLen:=le_maxLen_of_bytes hb hbytes
                     have hs':=rho_ok S hgd hh hs
                     have hx':=rho_ok S hgd hh hx
                     generalize hev:a.eval s=vs at hs'
                     cases hs' with
                     | full hs' hq' =>
                     obtain rfl:=hq'.1 rfl
                     obtain ⟨A,cap,news,hev2,c1,c2,c3,c4,c5,c6⟩:=slOf_cells S hsl hp1 hx'
                     obtain ⟨v',w',M',X',hrun,S',hden⟩:=full_ok (cap:=cap) hG S2 hu hy hsz hm0 hbytes hmax c1 c2 c3 c4 c5 c6 hs' ty
                     refine ⟨fun c hc=>by simp at hc,.inl ⟨v',w',?_,_,_,_,S'.putG hgd hd hq (fun _=>.p hden) (fun hn=>absurd hh hn)⟩⟩
                     simp [execOp,resolve,invoke,builtin,hev,hev2,hrun]
                   · cases heff
                 · cases heff
               · cases heff
             · cases heff
           · cases heff
         · -- call
           rename_i f args ts _
           split at heff
           · rename_i g caps ps1 as lent hf hargs
             split at heff
             · rename_i pre res hsp
               split at heff
               · rename_i hL
                 cases heff
                 obtain ⟨hsok,hen⟩:=hC.1 _ _ hsp
                 have hfd:=rho_ok S hgd hh hf
                 rcases hfd with ⟨hfd⟩
                 generalize hev:a.eval f=vf at hfd
                 cases hfd with
                 | clo _ _ cvs hcl hcd =>
                 obtain ⟨hp1,hp2⟩:=all_append hp
                 have hA:=argsOf_ok hC.1 S (fun x e hx=>rho_ok S hgd hh hx) _ _ _ _ _ hargs hp1 (L:=lent) (fun r hr=>hr)
                 have hA':=args_append hA (args_of_denL (M':=lentM M env lent) (w:=w) (ss:=caps) (vs:=cvs) ⟨hcl,fun i hi=>(hcd i hi).weak (fun b hb=>.inl hb)⟩)
                 have hown:=argsOf_own _ _ _ _ _ hargs
                 have:=hsok _ w _ _ (lentM_lt (env:=env) S hown) hA' (all_one hp2)
                 refine ⟨fun c hc=>by simp at hc,.inr (.inr (.inl ⟨g,_,w,run_call_value rfl hev hen,?_⟩))⟩
                 have hargsEq:args.map a.eval ++ cvs.toArray=(args.toList.map a.eval ++ cvs).toArray:=by apply Array.ext';simp
                 rw [hargsEq]
                 refine callsIn_mono this fun e w' hg=>?_
                 obtain ⟨v,rfl,hs⟩:=gives_ok hG S2 hgd hh hd hq hL hg
                 exact ⟨v,rfl,hs⟩
               · cases heff
             · cases heff
           · rename_i sp ps1 as lent hf hargs
             split at heff
             · rename_i ss hss
               split at heff
               · rename_i hL
                 cases heff
                 have hfd:=rho_ok S hgd hh hf
                 generalize hev:a.eval f=vf at hfd
                 cases hfd with
                 | fn hfn =>
                 obtain ⟨g,first,caps,rfl,hen,hcall⟩:=hfn
                 obtain ⟨hp1,hp2⟩:=all_append hp
                 have hA:=argsOf_ok hC.1 S (fun x e hx=>rho_ok S hgd hh hx) _ _ _ _ _ hargs hp1 (L:=lent) (fun r hr=>hr)
                 have hown:=argsOf_own _ _ _ _ _ hargs
                 have hlt:=lentM_lt (env:=env) S hown
                 have hlat:Later M (lentM M env lent) w w:=⟨Nat.le_refl _,fun _ _=>rfl,fun b hb=>.inl hb⟩
                 have hdl:DenL (lentM M env lent) w ss (args.toList.map a.eval):=by
                   have:=allP_spec hss
                   subst this
                   refine ⟨by simpa using hA.1,fun i hi=>?_⟩
                   have:=(hA.2 i (by simpa using hi)).2
                   rw [evat_p _ _ hi] at this
                   rcases this with ⟨this⟩;exact this
                 have hc:=hcall _ w hlat hlt ss _ hdl (all_one hp2)
                 refine ⟨fun c hc=>by simp at hc,.inr (.inr (.inl ⟨g,_,w,run_call_first rfl hev hen,?_⟩))⟩
                 have hargsEq:first ++ args.map a.eval ++ caps=first ++ (args.toList.map a.eval).toArray ++ caps:=by congr 2;apply Array.ext';simp
                 rw [hargsEq]
                 refine callsIn_mono hc fun e w' hg=>?_
                 obtain ⟨v,rfl,hs⟩:=gives_ok hG S2 hgd hh hd hq hL hg
                 exact ⟨v,rfl,hs⟩
               · cases heff
             · cases heff
           · cases heff
         · cases heff
       · rw [show storeStep P ops E (st.only (slotsOf ops o)) o=none by unfold storeStep;rw [hns]] at h
         simp only at h
         split at h
         · rename_i d t cs hnew hq1 hq2
           split at h
           · rename_i hone
             cases h
             refine ⟨fun hw=>?_,fun hw=>absurd trivial (fun hx=>hw (hwant.2 hx))⟩
             obtain ⟨f1,f2⟩:=hfree d (.blk t cs) (by rw [hnew];simp)
             obtain ⟨dst,op,ty,pos,after,guard⟩:=o
             unfold newOwnOf at hnew
             simp only at hnew hd hq
             split at hnew
             · rename_i t' d'
               split at hnew
               · rename_i y hy
                 simp only [List.cons.injEq,Prod.mk.injEq,Own.blk.injEq,and_true] at hnew
                 obtain ⟨rfl,rfl,rfl⟩:=hnew
                 have hl:y.zero.cells.toList.length=(y.zero.cells.toList.map fun v=>EV.p (svOf v)).length:=by simp
                 have hden:∀ i,i < (y.zero.cells.toList.map fun v=>EV.p (svOf v)).length -> DenE P M w env (EV.at (y.zero.cells.toList.map fun v=>EV.p (svOf v)) i) (y.zero.cells.toList.getD i undef):=fun i hi=>by
                   have:=denEL_p (P:=P) (env:=env) (denL_svOf (M:=M) (w:=w) y.zero.cells.toList) i (by simpa using hi)
                   rw [List.map_map] at this;exact this
                 obtain ⟨env',X',S3,h3⟩:=newBlk hG S2 (d:=d') (hd _ rfl) f1 hl hden (all_oneE hone hl hden) (fun i hi=>by
                   rw [evAt_eq _ _ hi];simp [EV.names]) t'
                 have S4:=S3.sub (st':=st2.add (newOwnOf P { dst:=some d',op:=.alloc t',type:=ty,pos:=pos,after:=after,guard:=guard })) (fun x hx=>by
                   show x ∈ (st2.forget d').T
                   exact List.mem_filter.2 ⟨hx,by rw [f2 x hx];rfl⟩) (fun x hx=>by
                   simp only [St.add,newOwnOf,hy] at hx
                   exact hx) (by
                   have:=S3.nod
                   simp only [St.add,newOwnOf,hy]
                   exact this) rfl rfl
                 refine ⟨fun c hc=>by simp at hc,.inl ⟨_,_,?_,_,_,_,S4.put0 (fun t ht=>by cases ht;exact hd _ rfl) (.loc h3)⟩⟩
                 simp only [execOp]
                 exact run_value' (by rw [run_alloc hy])
               · cases hnew
             · cases hnew
           · cases h
         · cases h
   · cases h
theorem storeOf_spec {o:Oper} {t:TypeId} {d:Nat} {x:Operand} (h:storeOf o=some (t,d,x)):o.op=.store t (.tmp d) x /\ o.dst=none /\ o.guard=none:=by
 unfold storeOf at h
 split at h
 · rename_i h1 h2 h3
   cases h;exact ⟨h1,h2,h3⟩
 · cases h
theorem drawStore_spec {C:Cfg} {ops:Array Oper} {E:List (Nat × Own)} {o:Oper} {ps:List Prop} {e:Ent} {t:TypeId} {d:Nat} {x:Operand} (hs:storeOf o=some (t,d,x)) (h:drawStep P C ops E st o=some (ps,e)) :
   ∃ y,tyOf P t=some y /\ (st.only (slotsOf ops o)).rho none (.tmp d)=some (.loc d 0) /\ (st.only (slotsOf ops o)).rho none x=some e.v /\ e.g=none /\ (cellsE e.v).length=y.size /\ y.zero.cells.size=y.size /\
     ((ops.toList.any (madeBy t d)=true /\ oneOf (makesIt d) ops.toList=true) \/ (exOk ops d=true /\ blkOf E d y.size=true)) /\ oneOf (usesIt ops d) ops.toList=true /\ (cellsE e.v).all oneE=true /\ (allP (cellsE e.v)).isSome=true:=by
 obtain ⟨h1,h2,h3⟩:=storeOf_spec hs
 unfold drawStep at h
 split at h
 · cases h
 · rename_i gd hgd
   split at h
   · rw [show loadCut P C (st.only (slotsOf ops o)) gd o=none by unfold loadCut;rw [h1],show stepPure P (st.only (slotsOf ops o)) gd o.op=none by rw [h1];simp [stepPure,symPure],show drawEff P C (st.only (slotsOf ops o)) gd o=none by unfold drawEff;rw [h1]] at h
     simp only at h
     split at h
     · rename_i ex hex
       cases h
       unfold storeStep at hex
       rw [hs] at hex
       simp only at hex
       split at hex
       · rename_i y b ex' hy hb hx
         split at hex
         · rename_i hc
           cases hex
           obtain ⟨⟨rfl,c1,c2⟩,c3⟩:=hc
           simp only [Bool.and_eq_true,Bool.or_eq_true] at c3
           exact ⟨y,hy,hb,hx,rfl,c1,c2,c3.1.1.1,c3.1.1.2,c3.1.2,c3.2⟩
         · cases hex
       · cases hex
     · split at h
       · rename_i hnew _
         unfold newOwnOf at hnew
         rw [h1] at hnew
         cases hnew
       · cases h
   · cases h
theorem oneOf_at {p:Oper -> Bool}:∀ {l:List Oper},oneOf p l=true -> ∀ {i j:Nat} {a b:Oper},l[i]? = some a -> l[j]? = some b -> p a=true -> p b=true -> i=j
 | [],_,i,j,a,b,hi,_,_,_=>by simp at hi
 | o :: l,h,i,j,a,b,hi,hj,ha,hb=>by
   have none_of:∀ {k:Nat} {c:Oper},(l.filter p).length=0 -> l[k]? = some c -> p c=true -> False:=fun {k c} h0 hk hc=>by
     have:c ∈ l.filter p:=List.mem_filter.2 ⟨List.mem_of_getElem? hk,hc⟩
     rw [List.eq_nil_of_length_eq_zero h0] at this;cases this
   unfold oneOf at h
   simp only [beq_iff_eq] at h
   cases hpo:p o with
   | true =>
     rw [List.filter_cons_of_pos hpo] at h
     simp only [List.length_cons] at h
     have h0:(l.filter p).length=0:=by omega
     cases i with
     | succ i=>exact (none_of h0 (by simpa using hi) ha).elim
     | zero=>cases j with
       | zero=>rfl
       | succ j=>exact (none_of h0 (by simpa using hj) hb).elim
   | false =>
     rw [List.filter_cons_of_neg (by simp [hpo])] at h
     cases i with
     | zero=>simp at hi;subst hi;rw [hpo] at ha;cases ha
     | succ i=>cases j with
       | zero=>simp at hj;subst hj;rw [hpo] at hb;cases hb
       | succ j =>
         have:=oneOf_at (l:=l) (by unfold oneOf;simpa using h) (i:=i) (j:=j) (by simpa using hi) (by simpa using hj) ha hb
         omega
theorem stIdx_spec {ops:Array Oper} {d j:Nat} (h:stIdx ops d=some j):∃ o t x,ops[j]? = some o /\ storeOf o=some (t,d,x):=by
 have h1:=List.find?_some h
 split at h1
 · rename_i o ho
   unfold isIt at h1
   split at h1
   · rename_i t d' x hs
     simp at h1;subst h1
     exact ⟨o,t,x,by simpa using ho,hs⟩
   · cases h1
 · cases h1
theorem uses_store {ops:Array Oper} {o:Oper} {t:TypeId} {d:Nat} {x:Operand} (h:storeOf o=some (t,d,x)):usesIt ops d o=true:=by
 obtain ⟨h1,_,_⟩:=storeOf_spec h
 unfold usesIt slotsOf
 have:d ∈ opSlots o.op:=by
   rw [h1]
   unfold opSlots
   refine List.mem_filterMap.2 ⟨.tmp d,?_,rfl⟩
   simp [Op.operands]
 simp [this]
theorem stIdx_at {ops:Array Oper} {i:Nat} {o:Oper} {t:TypeId} {d:Nat} {x:Operand} (ho:ops[i]? = some o) (hs:storeOf o=some (t,d,x)) (h1:oneOf (usesIt ops d) ops.toList=true):stIdx ops d=some i:=by
 have hi:=(Array.getElem?_eq_some_iff.1 ho).1
 cases hf:stIdx ops d with
 | none =>
   have:=List.find?_eq_none.1 hf i (List.mem_range.2 hi)
   rw [show ops.toList[i]? = some o by simpa using ho] at this
   simp [isIt,hs] at this
 | some j =>
   obtain ⟨o',t',x',ho',hs'⟩:=stIdx_spec hf
   rw [oneOf_at h1 (show ops.toList[j]? = some o' by simpa using ho') (show ops.toList[i]? = some o by simpa using ho) (uses_store hs') (uses_store hs)]
theorem contL_fst (ops:Array Oper) (es:List Ent) (q:Nat -> Bool) (x:Nat × Own):(contL ops es q x).1=x.1:=by
 unfold contL
 split
 · split <;> rfl
 · rfl
theorem contL_not {ops:Array Oper} {es:List Ent} {q:Nat -> Bool} {x:Nat × Own} (h:∀ j,stIdx ops x.1=some j -> q j=false):contL ops es q x=x:=by
 unfold contL
 split
 · rename_i t cs j h1 h2
   rw [h j h2]
 · rfl
theorem contL_congr {ops:Array Oper} {es:List Ent} {q q':Nat -> Bool} {x:Nat × Own} (h:∀ j,stIdx ops x.1=some j -> q j=q' j):contL ops es q x=contL ops es q' x:=by
 unfold contL
 split
 · rename_i t cs j h1 h2
   rw [h j h2]
 · rfl
end Go.SE
namespace Go.SE
open Go.RowKit
variable {P:Program} {G:Ctx}
theorem leads_wpIn {ro:Option Nat} {n:Nat} {Q:Exit -> Act -> World -> Prop} {o:Oper} {a:Act} {w:World} {N:Act -> World -> Prop} (h:Leads P a o w N):o.wpIn (W ro) n P a w N Q:=by
 obtain ⟨ho,⟨u,w',hr,hk⟩ | ⟨w',hr,hk⟩ | ⟨f,args,w',hr,hk⟩ | ⟨l,f,tmps,assign,body,w',hr,hk⟩⟩:=h
 · exact ⟨fun _ _=>trivial,by rw [Oper.semAt_eq _ _ _ ho,hr];exact hk⟩
 · exact ⟨fun _ _=>trivial,by rw [Oper.semAt_eq _ _ _ ho,hr];exact hk⟩
 · refine ⟨fun _ _=>trivial,?_⟩
   rw [Oper.semAt_eq _ _ _ ho,hr]
   refine ⟨fun h=>by simp [W,Fence.wide] at h,?_⟩
   refine calls_W (callsIn_wide.2 (Calls.mono (callsIn_wide.1 hk) ?_))
   rintro e w'' ⟨v,rfl,h⟩
   exact h
 · refine ⟨fun _ _=>trivial,?_⟩
   rw [Oper.semAt_eq _ _ _ ho,hr]
   refine ⟨fun h=>by simp [W,Fence.wide] at h,?_⟩
   refine round_W (roundIn_mono hk ?_)
   rintro e w'' ⟨v,rfl,h⟩
   exact h
def Twin (st st':St):Prop:=st'.own=st.own /\ st'.yk=st.yk /\ st'.stop=st.stop /\ st'.nt=st.nt
theorem Twin.put (st:St) (d:Option Nat) (e:Ent):Twin st (st.put d e):=by cases d <;> exact ⟨rfl,rfl,rfl,rfl⟩
theorem put_mem {st:St} {d:Option Nat} {e:Ent} {x:Nat × Ent} (h:x ∈ (st.put d e).T):(x ∈ st.T /\ d ≠ some x.1) \/ (d=some x.1 /\ x.2=e):=by
 cases d with
 | none=>exact .inl ⟨h,by simp⟩
 | some d =>
   simp only [St.put,List.mem_cons,List.mem_filter] at h
   rcases h with rfl | ⟨h,hne⟩
   · exact .inr ⟨rfl,rfl⟩
   · simp at hne
     exact .inl ⟨h,fun e=>hne.1 (by cases e;rfl)⟩
theorem drawGo_at {C:Cfg} {ops:Array Oper} {E:List (Nat × Own)}:∀ (rest:List Oper) (st1:St) (ps:List Prop) (es:List Ent) (stF:St),drawGo P C ops E rest st1=some (ps,es,stF) ->
   es.length=rest.length /\ (Twin st1 stF /\ ∀ x,x ∈ stF.T -> (x ∈ st1.T /\ ∀ (j:Nat) (oj:Oper),rest[j]? = some oj -> oj.dst ≠ some x.1) \/ ∃ (j:Nat) (oj:Oper),rest[j]? = some oj /\ oj.dst=some x.1 /\ es[j]? = some x.2) /\
   ∀ i o,rest[i]? = some o -> ∃ sti psi e,drawStep P C ops E sti o=some (psi,e) /\ es[i]? = some e /\ (∀ p,p ∈ psi -> p ∈ ps) /\ Twin st1 sti /\
     ∀ x,x ∈ sti.T -> (x ∈ st1.T /\ ∀ (j:Nat) (oj:Oper),j < i -> rest[j]? = some oj -> oj.dst ≠ some x.1) \/ ∃ (j:Nat) (oj:Oper),j < i /\ rest[j]? = some oj /\ oj.dst=some x.1 /\ es[j]? = some x.2
 | [],st1,ps,es,stF,h=>by
   simp only [drawGo,Option.some.injEq,Prod.mk.injEq] at h
   obtain ⟨rfl,rfl,rfl⟩:=h
   exact ⟨rfl,⟨⟨rfl,rfl,rfl,rfl⟩,fun x hx=>.inl ⟨hx,fun j oj hj=>by simp at hj⟩⟩,fun i o hi=>by simp at hi⟩
 | o :: rest,st1,ps,es,stF,h=>by
   simp only [drawGo] at h
   split at h
   · cases h
   · rename_i ps0 e hstep
     split at h
     · cases h
     · rename_i qs es' stF' hgo
       simp only [Option.some.injEq,Prod.mk.injEq] at h
       obtain ⟨rfl,rfl,rfl⟩:=h
       obtain ⟨h1,⟨t2,h2⟩,h3⟩:=drawGo_at rest _ _ _ _ hgo
       have tw:=Twin.put st1 o.dst e
       refine ⟨by simp [h1],⟨⟨t2.1.trans tw.1,t2.2.1.trans tw.2.1,t2.2.2.1.trans tw.2.2.1,t2.2.2.2.trans tw.2.2.2⟩,fun x hx=>?_⟩,fun i o' hi=>?_⟩
       · rcases h2 x hx with ⟨hm,hall⟩ | ⟨j,oj,hj,hd,he⟩
         · rcases put_mem hm with ⟨hm,hne⟩ | ⟨hd,he⟩
           · refine .inl ⟨hm,fun j oj hj=>?_⟩
             cases j with
             | zero=>simp at hj;subst hj;exact hne
             | succ j=>exact hall j oj (by simpa using hj)
           · exact .inr ⟨0,o,by simp,hd,by simp [he]⟩
         · exact .inr ⟨j+1,oj,by simpa using hj,hd,by simpa using he⟩
       · cases i with
         | zero =>
           simp at hi;subst hi
           exact ⟨st1,ps0,e,hstep,by simp,fun p hp=>by simp [hp],⟨rfl,rfl,rfl,rfl⟩,fun x hx=>.inl ⟨hx,fun j oj hj=>by omega⟩⟩
         | succ i =>
           obtain ⟨sti,psi,ei,hs,he,hps,tw',hmem⟩:=h3 i o' (by simpa using hi)
           refine ⟨sti,psi,ei,hs,by simpa using he,fun p hp=>by simp [hps p hp],⟨tw'.1.trans tw.1,tw'.2.1.trans tw.2.1,tw'.2.2.1.trans tw.2.2.1,tw'.2.2.2.trans tw.2.2.2⟩,fun x hx=>?_⟩
           rcases hmem x hx with ⟨hm,hall⟩ | ⟨j,oj,hlt,hj,hd,he⟩
           · rcases put_mem hm with ⟨hm,hne⟩ | ⟨hd,he⟩
             · refine .inl ⟨hm,fun j oj hlt hj=>?_⟩
               cases j with
               | zero=>simp at hj;subst hj;exact hne
               | succ j=>exact hall j oj (by omega) (by simpa using hj)
             · exact .inr ⟨0,o,by omega,by simp,hd,by simp [he]⟩
           · exact .inr ⟨j+1,oj,by omega,by simpa using hj,hd,by simpa using he⟩
theorem drawStep_guard {C:Cfg} {ops:Array Oper} {E:List (Nat × Own)} {st:St} {o:Oper} {ps:List Prop} {e:Ent} (h:drawStep P C ops E st o=some (ps,e)):∀ d,e.by d=true -> d ∈ guardSlot ops o:=by
 intro d hd
 have key:∀ gd,guardOf ops (st.only (slotsOf ops o)) o=some gd -> e.g=gd -> d ∈ guardSlot ops o:=by
   intro gd hg he
   unfold guardOf at hg
   unfold guardSlot
   split at hg
   · cases hg;simp [Ent.by,he] at hd
   · rename_i j want hgd
     rw [hgd]
     split at hg
     · rename_i oj hj
       simp only [hj]
       split at hg
       · rename_i d' hd'
         split at hg
         · cases hg
           simp only [Ent.by,he,beq_iff_eq] at hd
           subst hd
           simp [hd']
         · cases hg
       · cases hg
     · cases hg
 unfold drawStep at h
 split at h
 · cases h
 · rename_i gd hgd
   split at h
   · split at h
     · cases h;exact key gd hgd rfl
     split at h
     · cases h;exact key gd hgd rfl
     · split at h
       · cases h;exact key gd hgd rfl
       · split at h
         · cases h;simp [Ent.by] at hd
         · split at h
           · split at h
             · cases h;exact key none hgd rfl
             · cases h
           · cases h
   · cases h
theorem drawChk_at {ops:List Oper} {all:Array Oper}:∀ (rest:List Oper) (k:Nat),drawChk ops all k rest=true -> ∀ i o,rest[i]? = some o ->
   (∀ e,e ∈ o.after -> Region.binds .any e=true -> e.on < k+i) /\ ∀ j oj d,j ≠ k+i -> ops[j]? = some oj -> oj.dst=some d -> o.dst ≠ some d /\ (d ∈ slotsOf all o -> if j < k+i then aft o j=true else aft oj (k+i)=true) /\ (d ∈ guardSlot all o -> j < k+i)
 | [],k,h,i,o,hi=>by simp at hi
 | o' :: rest,k,h,i,o,hi=>by
   simp only [drawChk,Bool.and_eq_true] at h
   obtain ⟨⟨⟨h1,h2⟩,_⟩,h4⟩:=h
   cases i with
   | zero =>
     simp at hi;subst hi
     refine ⟨fun e he hb=>?_,fun j oj d hne hj hd=>?_⟩
     · have:=Array.all_eq_true_iff_forall_mem.1 h1 e he
       simp [hb] at this
       exact this
     · have hlt:=(List.getElem?_eq_some_iff.1 hj).1
       have:=List.all_eq_true.1 h2 j (List.mem_range.2 hlt)
       simp only [Nat.add_zero] at hne ⊢
       simp only [hj,hd] at this
       simp [hne] at this
       obtain ⟨⟨a1,a2⟩,a3⟩:=this
       refine ⟨a1,fun hm=>?_,fun hm=>?_⟩
       · rcases a2 with a2 | a2
         · exact absurd hm a2
         · split at a2 <;> rename_i hjk
           · rw [if_pos hjk];exact a2
           · rw [if_neg hjk];exact a2
       · rcases a3 with a3 | a3
         · exact absurd hm a3
         · exact a3
   | succ i =>
     have:=drawChk_at rest (k+1) h4 i o (by simpa using hi)
     rw [show k+1+i=k+(i+1) by omega] at this
     exact this
theorem aft_spec {o:Oper} {j:Nat} (h:aft o j=true):∃ e,e ∈ o.after /\ Region.binds .any e=true /\ e.on=j:=by
 unfold aft at h
 rw [Array.any_eq_true] at h
 obtain ⟨i,hi,hx⟩:=h
 simp at hx
 exact ⟨_,Array.getElem_mem hi,hx.1,hx.2⟩
end Go.SE
