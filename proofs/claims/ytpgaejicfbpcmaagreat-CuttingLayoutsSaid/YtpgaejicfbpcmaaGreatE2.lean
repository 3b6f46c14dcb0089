/- A symbolic walk over the model, and what it shows of functions of the program: parts of the proof that the text of the row joins. -/
import Derived.Test.YtpgaejicfbpcmaaGreatE1
import Derived.MapKept
namespace Go.SE
open Go.RowKit
variable {P:Program} {M:Nat->Prop} {w:World} {G:Ctx} {st:St} {a:Act} {env:Env} {X:Nat->Prop}
def lentM (M:Nat->Prop) (env:Env) (l:List Nat):Nat->Prop:=fun b=>M b \/ ∃ r,r ∈ l/\env.at_ r=some b
theorem row_den (S:SatC P G st a w env M X) {r:Nat} {e:TypeId} {sz n:Nat} {get:Nat->List SV} (h:(r,Own.row e sz n get) ∈ st.own) {M':Nat->Prop} (hM:∀ b,M b->M' b) (hr:∀ g,env.at_ r=some g->M' g) :
  DenP M' w (.sl sz n get) (env.rv r):=by
 obtain ⟨hm,hgl,h1⟩:=S.own _ _ h
 rcases h1 with ⟨_,hrv,hn⟩ | ⟨g,cap,cur,hg,hrv,hh,hnc,hcm,hcs,hd⟩
 ·rw [hrv];subst hn
  exact .sl _ _ _ _ _ (fun _ _=>undef) (Nat.le_refl _) hm (fun h=>by omega) hgl (fun i hi=>by omega) (fun i hi=>by omega)
 ·rw [hrv]
  refine .sl _ _ _ _ _ (fun i j=>cur.getD (i * sz+j) undef) hnc hm (fun _=>⟨_,rfl,hr g hg,fun i hi j hj=>?_⟩) hgl (fun i hi j hj=>(hd i hi j hj).1) (fun i hi j hj=>(hd i hi j hj).2.weak hM)
  have:=idx_lt (sz:=sz) (len:=cap) (Nat.lt_of_lt_of_le hi hnc) hj
  rw [add_mk,Nat.zero_add,cell_blk_lt hh (by omega)]
theorem rsub_den (S:SatC P G st a w env M X) {r lo k:Nat} {e:TypeId} {sz n:Nat} {get:Nat->List SV} (h:(r,Own.row e sz n get) ∈ st.own) {M':Nat->Prop} (hM:∀ b,M b->M' b) (hr:∀ g,env.at_ r=some g->M' g)
  (hk:lo+k <= n) {v:Value} (hv:DenE P M w env (.rsub r sz lo k) v):DenP M' w (.sl sz k (fun i=>get (lo+i))) v:=by
 obtain ⟨hm,hgl,h1⟩:=S.own _ _ h
 cases hv with
 | rsub A cap' hc' hm' hA =>
 rcases h1 with ⟨_,hrv,hn⟩ | ⟨g,cap,cur,hg,hrv,hh,hnc,hcm,hcs,hd⟩
 ·have:k=0:=by omega
  subst this
  refine .sl _ _ _ A cap' (fun _ _=>undef) (by omega) (by omega) (fun h=>by omega) (fun i hi=>by omega) (fun i hi=>by omega) (fun i hi=>by omega)
 ·refine .sl _ _ _ A cap' (fun i j=>cur.getD ((lo+i) * sz+j) undef) hc' hm' (fun hpos=>?_) (fun i hi=>hgl _ (by omega)) (fun i hi j hj=>(hd _ (by omega) j hj).1) (fun i hi j hj=>(hd _ (by omega) j hj).2.weak hM)
  obtain ⟨g',hg',rfl⟩:=hA hpos
  rw [hg] at hg';cases hg'
  refine ⟨_,rfl,hr g hg,fun i hi j hj=>?_⟩
  have:=idx_lt (i:=lo+i) (sz:=sz) (len:=cap) (by omega) hj
  rw [add_mk,show lo * sz+(i * sz+j)=(lo+i) * sz+j by rw [Nat.add_mul,Nat.add_assoc],cell_blk_lt hh (by omega)]
theorem rpre_den (S:SatC P G st a w env M X) {r k:Nat} {e:TypeId} {sz n:Nat} {get:Nat->List SV} (h:(r,Own.row e sz n get) ∈ st.own) {M':Nat->Prop} (hM:∀ b,M b->M' b) (hr:∀ g,env.at_ r=some g->M' g)
  (hk:k <= n) {v:Value} (hv:DenE P M w env (.rpre r k) v):DenP M' w (.sl sz k get) v:=by
 obtain ⟨hm,hgl,h1⟩:=S.own _ _ h
 cases hv with
 | @rpre _ _ N cap' g' hrv' hn' =>
 rcases h1 with ⟨_,hrv,_⟩ | ⟨g,cap,cur,hg,hrv,hh,hnc,hcm,hcs,hd⟩
 ·rw [hrv] at hrv';cases hrv'
 rw [hrv] at hrv'
 obtain ⟨rfl,rfl,rfl⟩:g'=g/\N=n/\cap'=cap:=by injection hrv' with e1 e2 e3;injection e1 with e1;injection e1 with e1;exact ⟨e1.symm,e2.symm,e3.symm⟩
 refine .sl _ _ _ _ _ (fun i j=>cur.getD (i * sz+j) undef) (by omega) (by omega) (fun _=>⟨_,rfl,hr _ hg,fun i hi j hj=>?_⟩) (fun i hi=>hgl i (by omega)) (fun i hi j hj=>(hd i (by omega) j hj).1) (fun i hi j hj=>(hd i (by omega) j hj).2.weak hM)
 have:=idx_lt (i:=i) (sz:=sz) (len:=cap') (by omega) hj
 rw [add_mk,Nat.zero_add,cell_blk_lt hh (by omega)]
theorem noMem_ok {M':Nat->Prop} {w':World} {s:SV} {v:Value} (h:DenP M w s v) (hn:noMem s=true):DenP M' w' s v:=by
 induction h with
 | int k n=>exact .int k n
 | bool b=>exact .bool b
 | raw v=>exact .raw v
 | agg cs vs hl _ ih=>exact .agg cs vs hl (fun i hi=>ih i hi (noMems_at hn i hi))
 | tup cs vs hl _ ih=>exact .tup cs vs hl (fun i hi=>ih i hi (noMems_at hn i hi))
 | clo | ref | sl=>simp [noMem] at hn
where noMems_at:∀ {cs:List SV},noMem.noMems cs=true -> ∀ i,i<cs.length->noMem (SV.at cs i)=true
 | [],_,i,hi=>by simp at hi
 | c :: cs,h,i,hi=>by
   simp only [noMem.noMems,Bool.and_eq_true] at h
   cases i with
   | zero=>exact h.1
   | succ i=>exact noMems_at h.2 i (by simpa using hi)
theorem clo_fnOk {C:Cfg} (hC:∀ f sp,C.specs f=some sp->SpecOk P f sp/\Enters P f) {f:Nat} {caps:List SV} {pre:List EV->Prop} {res:List EV->SV} (hf:C.specs f=some (.fn pre res)) {v:Value} (hv:DenP M w (.clo f caps) v) :
  FnOk P M w ⟨fun as=>pre (as.map .p ++ caps.map .p),fun as=>res (as.map .p ++ caps.map .p)⟩ v:=by
 obtain ⟨h1,h2⟩:=hC f _ hf
 cases hv with
 | clo _ _ vs hl hd =>
 refine ⟨f,#[],vs.toArray,rfl,h2,fun M' w' hl' hlt args vals hda hp=>?_⟩
 have hdc:DenL M' w' caps vs:=DenL.later hl' ⟨hl,hd⟩
 have hall:=denL_append hda hdc
 have:=h1 M' w' (args.map .p ++ caps.map .p) (vals ++ vs) hlt ?_ hp
 ·simpa using this
 ·rw [<- List.map_append]
  refine ⟨by simpa using hall.1,fun i hi=>?_⟩
  simp only [List.length_map] at hi
  rw [evat_p _ _ hi]
  exact ⟨rfl,.p (hall.2 i hi)⟩
theorem bound_fnOk {C:Cfg} (hC:∀ f sp,C.specs f=some sp->SpecOk P f sp/\Enters P f) {f:Nat} {first:List SV} {pre:List EV->Prop} {res:List EV->SV} (hf:C.specs f=some (.fn pre res)) {vs:List Value} (hv:DenL M w first vs) :
  FnOk P M w (L.bound pre res first) (.func (.func f) vs.toArray #[]):=by
 obtain ⟨h1,h2⟩:=hC f _ hf
 refine ⟨f,vs.toArray,#[],rfl,h2,fun M' w' hl' hlt args vals hda hp=>?_⟩
 have hall:=denL_append (DenL.later hl' hv) hda
 have hp:pre (first.map .p ++ args.map .p):=hp
 have:=h1 M' w' (first.map .p ++ args.map .p) (vs ++ vals) hlt ?_ hp
 ·show CallsIn Fence.wide 0 P f (vs.toArray ++ vals.toArray ++ #[]) w' (Gives M' w' (res (first.map .p ++ args.map .p)))
  simpa using this
 ·rw [<- List.map_append]
  refine ⟨by simpa using hall.1,fun i hi=>?_⟩
  simp only [List.length_map] at hi
  rw [evat_p _ _ hi]
  exact ⟨rfl,.p (hall.2 i hi)⟩
theorem nilF_ok {M':Nat->Prop}:∀ (fs:List Field) (cs:List SV) (vs:List Value),DenL M' w cs vs->DenL M' w (nilF P fs cs) vs
 | [],_,_,h=>h
 | f :: l,cs,vs,h=>by
   unfold nilF
   split
   ·rename_i y hc hy
    refine nilF_ok l _ vs ⟨by rw [List.length_set];exact h.1,fun i hi=>?_⟩
    rw [List.length_set] at hi
    have h2:=h.2 i hi
    by_cases e:f.offset=i
    ·subst e
     have e1:SV.at cs f.offset=.raw (.slice none 0 0):=by
      unfold SV.at
      rw [List.getD_eq_getElem?_getD,hc];rfl
     have e2:SV.at (cs.set f.offset (.sl y.size 0 (fun _=>[]))) f.offset=.sl y.size 0 (fun _=>[]):=by
      unfold SV.at
      rw [List.getD_eq_getElem?_getD,List.getElem?_set_self hi];rfl
     rw [e1] at h2
     rw [e2]
     generalize vs.getD f.offset undef=v at h2
     cases h2
     exact .sl _ _ _ _ _ (fun _ _=>undef) (Nat.le_refl _) (Nat.zero_le _) (fun h=>by omega) (fun i hi=>by omega) (fun i hi=>by omega) (fun i hi=>by omega)
    ·have e2 : SV.at (cs.set f.offset (.sl y.size 0 (fun _ => []))) i = SV.at cs i := by
      unfold SV.at
      rw [List.getD_eq_getElem?_getD,List.getD_eq_getElem?_getD,List.getElem?_set_ne e]
     rw [e2];exact h2
   ·exact nilF_ok l _ vs h
theorem argOf_ok {C:Cfg} (hC:∀ f sp,C.specs f=some sp->SpecOk P f sp/\Enters P f) (S:SatC P G st a w env M X) {t:TypeId} {e e':EV} {ps:List Prop} {ls:List Nat} (h:argOf P C st t e=some (ps,e',ls)) (hp:all ps)
  {v:Value} (hv:DenE P M w env e v) {L:List Nat} (hL:∀ r,r ∈ ls->r ∈ L):argOk e'=true/\DenE P (lentM M env L) w env0 e' v:=by
 have hw:∀ b,M b->lentM M env L b:=fun b hb=>.inl hb
 have hlat:Later M (lentM M env L) w w:=⟨Nat.le_refl _,fun _ _=>rfl,hw⟩
 unfold argOf at h
 split at h
 ·rename_i f caps
  rcases hv with ⟨hv⟩
  split at h
  ·split at h
   ·rename_i pre res hf
    cases h
    exact ⟨rfl,.fn ((clo_fnOk hC hf hv).later hlat)⟩
   ·cases h
  ·cases h;exact ⟨rfl,.p (hv.weak hw)⟩
 ·rename_i v'
  rcases hv with ⟨hv⟩
  split at h
  ·rename_i y hy
   cases h
   cases hv
   exact ⟨rfl,.p (.sl _ _ _ _ _ (fun _ _=>undef) (Nat.le_refl _) (Nat.zero_le _) (fun h=>by omega) (fun i hi=>by omega) (fun i hi=>by omega) (fun i hi=>by omega))⟩
  ·cases h;exact ⟨rfl,.p (hv.weak hw)⟩
 ·rename_i cs
  rcases hv with ⟨hv⟩
  split at h
  ·cases h
   have hv:=hv.weak hw
   cases hv with
   | agg _ vs hl hd =>
     rename_i fs _ _
     have:=nilF_ok (P:=P) fs.toList cs vs ⟨hl,hd⟩
     exact ⟨rfl,.p (.agg _ _ this.1 this.2)⟩
  ·cases h;exact ⟨rfl,.p (hv.weak hw)⟩
 ·rcases hv with ⟨hv⟩
  cases h;exact ⟨rfl,.p (hv.weak hw)⟩
 ·cases h
  cases hv with
  | fn hf=>exact ⟨rfl,.fn (hf.later hlat)⟩
 ·cases h
  cases hv with
  | full hf hq=>exact ⟨rfl,.p (hf.weak hw)⟩
 ·rename_i r
  split at h
  ·rename_i e1 sz n get hl
   cases h
   cases hv with
   | row hrv =>
   have:=row_den S (lookupO_mem hl) (M':=lentM M env L) hw (fun g hg=>.inr ⟨r,hL r (by simp),hg⟩)
   rw [hrv] at this
   exact ⟨rfl,.p this⟩
  ·cases h
 ·rename_i r sz lo n
  split at h
  ·rename_i e1 sz' n' get hl
   split at h
   ·rename_i hsz
    subst hsz
    cases h
    exact ⟨rfl,.p (rsub_den S (lookupO_mem hl) (M':=lentM M env L) hw (fun g hg=>.inr ⟨r,hL r (by simp),hg⟩) (all_one hp) hv)⟩
   ·cases h
  ·cases h
 ·rename_i r n
  split at h
  ·rename_i e1 sz n' get hl
   cases h
   exact ⟨rfl,.p (rpre_den S (lookupO_mem hl) (M':=lentM M env L) hw (fun g hg=>.inr ⟨r,hL r (by simp),hg⟩) (all_one hp) hv)⟩
  ·cases h
 ·cases h
theorem all_append {ps qs:List Prop} (h:all (ps ++ qs)):all ps/\all qs:=⟨fun p hp=>h p (by simp [hp]),fun p hp=>h p (by simp [hp])⟩
theorem argsOf_ok {C:Cfg} (hC:∀ f sp,C.specs f=some sp->SpecOk P f sp/\Enters P f) (S:SatC P G st a w env M X) {ρ:Operand->Option EV} (hρ:∀ x e,ρ x=some e->DenE P M w env e (a.eval x)) {L:List Nat} :
  ∀ (xs:List Operand) (ts:List TypeId) (ps:List Prop) (as:List EV) (ls:List Nat),argsOf P C st ρ xs ts=some (ps,as,ls)->all ps->(∀ r,r ∈ ls->r ∈ L)->ArgsOk P (lentM M env L) w as (xs.map a.eval)
 | [],ts,ps,as,ls,h,_,_=>by simp [argsOf] at h;obtain ⟨_,rfl,_⟩:=h;exact ⟨rfl,fun i hi=>by simp at hi⟩
 | x :: xs,ts,ps,as,ls,h,hp,hL=>by
   simp only [argsOf] at h
   split at h
   ·rename_i e he
    split at h
    ·rename_i p a' l ps' as' ls' h1 h2
     cases h
     obtain ⟨hp1,hp2⟩:=all_append hp
     obtain ⟨q1,q2⟩:=argOf_ok hC S h1 hp1 (hρ _ _ he) (L:=L) (fun r hr=>hL r (by simp [hr]))
     obtain ⟨q3,q4⟩:=argsOf_ok hC S hρ xs _ _ _ _ h2 hp2 (fun r hr=>hL r (by simp [hr]))
     refine ⟨by simpa using q3,fun i hi=>?_⟩
     cases i with
     | zero=>exact ⟨by simpa [EV.at] using q1,by simpa [EV.at] using q2⟩
     | succ i=>simpa [EV.at] using q4 i (by simpa using hi)
    ·cases h
   ·cases h
theorem args_append {M':Nat->Prop} {as bs:List EV} {us vs:List Value} (h:ArgsOk P M' w as us) (k:ArgsOk P M' w bs vs):ArgsOk P M' w (as ++ bs) (us ++ vs):=by
 refine ⟨by simp [h.1,k.1],fun i hi=>?_⟩
 simp only [EV.at,List.getD_eq_getElem?_getD]
 by_cases hi':i<as.length
 ·rw [List.getElem?_append_left hi',List.getElem?_append_left (by rw [h.1];exact hi')]
  have:=h.2 i hi'
  simpa [EV.at,List.getD_eq_getElem?_getD] using this
 ·rw [List.getElem?_append_right (by omega),List.getElem?_append_right (by rw [h.1];omega),h.1]
  have:=k.2 (i - as.length) (by simp at hi;omega)
  simpa [EV.at,List.getD_eq_getElem?_getD] using this
theorem args_of_denL {M':Nat->Prop} {ss:List SV} {vs:List Value} (h:DenL M' w ss vs):ArgsOk P M' w (ss.map .p) vs :=
 ⟨by simpa using h.1,fun i hi=>by simp only [List.length_map] at hi;rw [evat_p _ _ hi];exact ⟨rfl,.p (h.2 i hi)⟩⟩
theorem lentM_lt (S:SatC P G st a w env M X) {L:List Nat} (hL:∀ r,r ∈ L -> ∃ o,(r,o) ∈ st.own):∀ b,lentM M env L b->b<w.heap.size:=fun b hb=>by
 rcases hb with hb | ⟨r,hr,hg⟩
 ·exact S.mlt b hb
 ·obtain ⟨o,ho⟩:=hL r hr;exact (S.oat _ _ ho b hg).2.2
theorem argsOf_own {C:Cfg} {ρ:Operand->Option EV}:∀ (xs:List Operand) (ts:List TypeId) (ps:List Prop) (as:List EV) (ls:List Nat),argsOf P C st ρ xs ts=some (ps,as,ls) -> ∀ r,r ∈ ls -> ∃ o,(r,o) ∈ st.own
 | [],ts,ps,as,ls,h,r,hr=>by simp [argsOf] at h;obtain ⟨_,_,rfl⟩:=h;simp at hr
 | x :: xs,ts,ps,as,ls,h,r,hr=>by
   simp only [argsOf] at h
   split at h
   ·split at h
    ·rename_i p a' l ps' as' ls' h1 h2
     cases h
     rcases List.mem_append.1 hr with hr | hr
     ·unfold argOf at h1
      split at h1
      ·split at h1
       ·split at h1 <;> cases h1;simp at hr
       ·cases h1;simp at hr
      ·split at h1 <;> cases h1 <;> simp at hr
      ·split at h1 <;> cases h1 <;> simp at hr
      ·cases h1;simp at hr
      ·cases h1;simp at hr
      ·cases h1;simp at hr
      ·split at h1
       ·rename_i hl;cases h1;simp at hr;subst hr;exact ⟨_,lookupO_mem hl⟩
       ·cases h1
      ·split at h1
       ·rename_i hl
        split at h1
        ·cases h1;simp at hr;subst hr;exact ⟨_,lookupO_mem hl⟩
        ·cases h1
       ·cases h1
      ·split at h1
       ·rename_i hl;cases h1;simp at hr;subst hr;exact ⟨_,lookupO_mem hl⟩
       ·cases h1
      ·cases h1
     ·exact argsOf_own xs _ _ _ _ h2 r hr
    ·cases h
   ·cases h
theorem gives_ok (hG:Stable G) (S:SatC P G st a w env M X) {gd:Option (Nat × Bool × Bool)} (hgd:GdOk a gd) (hh:holdsG gd) {dst:Option Nat} (hd:∀ t,dst=some t->t<st.nt) (hq:∀ q c x,gd=some (q,c,x)->dst ≠ some q)
  {L:List Nat} {r:SV} (hL:(L.isEmpty || noMem r)=true) {e:Ending} {w':World} (hg:Gives (lentM M env L) w r e w'):∃ v,e=.returned v/\Sat P G (st.put dst ⟨gd,.p r⟩) (a.put dst v) w':=by
 obtain ⟨v,M',rfl,hb,h1,h2,h3,h4⟩:=hg
 refine ⟨v,rfl,?_⟩
 cases hl:L.isEmpty with
 | true =>
   have hL0:L = []:=by simpa using hl
   subst hL0
   have hM:∀ b,M' b->M b\/w.heap.size <= b:=fun b hb=>by
    rcases h2 b hb with (h | ⟨_,h,_⟩) | h
    ·exact .inl h
    ·simp at h
    ·exact .inr h
   have S':=S.grow hG (same_below hb) (M':=M') (fun b hb=>h1 b (.inl hb)) hM h3
   exact ⟨_,_,_,S'.putG hgd hd hq (fun _=>.p h4) (fun hn=>absurd hh hn)⟩
 | false =>
   have hn:noMem r=true:=by simpa [hl] using hL
   have S':=S.grow hG (same_below hb) (M':=M) (fun b h=>h) (fun b h=>.inl h) (fun b h=>Nat.lt_of_lt_of_le (S.mlt b h) hb.size)
   exact ⟨_,_,_,S'.putG hgd hd hq (fun _=>.p (noMem_ok h4 hn)) (fun hn'=>absurd hh hn')⟩
end Go.SE
namespace Go.SE
open Go.RowKit
variable {P:Program} {M:Nat->Prop} {w:World} {G:Ctx} {st:St} {a:Act} {env:Env} {X:Nat->Prop}
def YieldsOk (P:Program) (G:Ctx) (C:Cfg):Prop:=∀ y,C.yld=some y -> ∀ k X w vals,k<y.cnt->G.g k X w->(∀ b,X b->b<w.heap.size)->DenL (fun _=>False) w (y.item k) vals ->
 ∃ fn tmps assign body,(Instr.yield y.l vals.toArray).run P w=.ok (.round y.l fn tmps assign body) w /\
   RoundIn Fence.wide 0 P y.l fn tmps assign body w (fun e w'=>∃ b,e=.returned (.bool b)/\w.heap.size <= w'.heap.size/\(∀ c,c<w.heap.size->((b=true/\G.m0 c)\/X c)->w'.heap[c]? = w.heap[c]?)/\G.g (if b then k+1 else y.cnt+1) X w')
def ItOk (P:Program) (f:Nat) (it:ItSpec):Prop:=∀ (G:Ctx),Stable G -> ∀ (l:Nat) (w:World) (caps:List SV) (vals:List Value),it.pre caps->(∀ b,G.m0 b->b<w.heap.size)->DenL G.m0 w caps vals->G.g 0 (fun _=>False) w ->
 (∀ C:Cfg,C.yld=some ⟨l,it.cnt caps,it.item caps⟩ -> YieldsOk P G C) ->
 CallsIn Fence.wide 0 P f (#[.func (.yield l) #[] #[]] ++ vals.toArray) w (fun e w'=>∃ v X,e=.returned v/\(G.g (it.cnt caps) X w'\/G.g (it.cnt caps+1) X w'))
def lentB (env:Env) (own:List (Nat × Own)) (b:Nat):Prop:=∃ k o,(k,o) ∈ own/\env.at_ k=some b
def TrEnd (P:Program) (tr:Tr) (t:tr.T) (M:Nat->Prop) (w:World) (env:Env) (e:Ending) (w':World):Prop :=
 ∃ u v M',tr.post t u/\e=.returned v/\Same (lentB env (tr.own t)) w w'/\(∀ b,M b->M' b)/\(∀ b,M' b->M b\/w.heap.size <= b)/\(∀ b,M' b->b<w'.heap.size)/\(∀ k o,(k,o) ∈ tr.own' t u->OwnOk P M' w' env k o)/\DenE P M' w' env (tr.res t u) v
def TrOk (P:Program) (f:Nat) (tr:Tr):Prop:=(∀ t u,keysO (tr.own' t u)=keysO (tr.own t)) /\ ∀ t,tr.pre t -> ∀ (M:Nat->Prop) (w:World) (env:Env) (vals:List Value),(∀ b,M b->b<w.heap.size)->(∀ k o,(k,o) ∈ tr.own t->OwnOk P M w env k o) ->
 (∀ k o,(k,o) ∈ tr.own t -> ∀ g,env.at_ k=some g->¬ M g/\g<w.heap.size)->(∀ k o k' o',(k,o) ∈ tr.own t->(k',o') ∈ tr.own t->k ≠ k' -> ∀ g,env.at_ k=some g->env.at_ k' ≠ some g) ->
 vals.length=(tr.args t).length->(∀ i,i<(tr.args t).length->DenE P M w env (EV.at (tr.args t) i) (vals.getD i undef))->CallsIn Fence.wide 0 P f vals.toArray w (TrEnd P tr t M w env)
def MkEnd (P:Program) (mk:Mk) (t:mk.T) (M:Nat->Prop) (w:World) (env:Env) (e:Ending) (w':World):Prop :=
 ∃ u v env' M',mk.post t u/\e=.returned v/\Same (lentB env (mk.lent t)) w w'/\(∀ b,M b->M' b) /\
   (∀ b,M' b->M b\/(w.heap.size <= b /\ ∀ k,k ∈ mk.keys ++ mvk mk.mv->env'.at_ k ≠ some b) \/ ∃ k,k ∈ mvk mk.mv/\env.at_ k=some b/\env'.at_ k ≠ some b)/\(∀ b,M' b->b<w'.heap.size) /\
   (∀ k,k ∈ mk.lkeys->k ∉ mvk mk.mv->env'.at_ k=env.at_ k/\env'.rv k=env.rv k) /\
   (∀ k,k ∈ mk.keys -> ∀ g,env'.at_ k=some g->w.heap.size <= g/\g<w'.heap.size)/\(∀ k,k ∈ mvk mk.mv -> ∀ g,env'.at_ k=some g->env.at_ k=some g\/(w.heap.size <= g/\g<w'.heap.size)) /\
   (∀ k1 k2,k1 ∈ mk.keys->k2 ∈ mk.keys->k1 ≠ k2 -> ∀ g,env'.at_ k1=some g->env'.at_ k2 ≠ some g) /\
   (∀ k o,(k,o) ∈ mk.lent' t u->OwnOk P M' w' env' k o)/\(∀ k o,(k,o) ∈ mk.own t u->OwnOk P M' w' env' k o)/\DenE P M' w' env' (mk.res t u) v
def MkOk (P:Program) (f:Nat) (mk:Mk):Prop:=((∀ t,keysO (mk.lent t)=mk.lkeys)/\(∀ t u,keysO (mk.lent' t u)=mk.lkeys)/\(∀ t u,keysO (mk.own t u)=mk.keys) /\
  (∀ t u,(mk.lent' t u).all (fun x=>x.2.within mk.lkeys)=true/\(mk.own t u).all (fun x=>x.2.within (mk.lkeys ++ mk.keys))=true/\(mk.res t u).within (mk.lkeys ++ mk.keys)=true)/\(mk.mv=none\/mk.keys = []) /\ ∀ k,k ∈ mvk mk.mv->k ∈ mk.lkeys) /\ ∀ t,mk.pre t -> ∀ (M:Nat->Prop) (w:World) (env:Env) (vals:List Value),(∀ b,M b->b<w.heap.size) ->
 (∀ k o,(k,o) ∈ mk.lent t->OwnOk P M w env k o)->(∀ k o,(k,o) ∈ mk.lent t -> ∀ g,env.at_ k=some g->¬ M g/\g<w.heap.size)->(∀ k o k' o',(k,o) ∈ mk.lent t->(k',o') ∈ mk.lent t->k ≠ k' -> ∀ g,env.at_ k=some g->env.at_ k' ≠ some g) ->
 vals.length=(mk.args t).length->(∀ i,i<(mk.args t).length->DenE P M w env (EV.at (mk.args t) i) (vals.getD i undef))->CallsIn Fence.wide 0 P f vals.toArray w (MkEnd P mk t M w env)
def FamCOk (P:Program) (f:Nat) (c:FamC):Prop:=∀ t,c.pre t -> ∀ (M:Nat->Prop) (w:World) (env:Env) (a b:Nat) (vals:List Value),(∀ b,M b->b<w.heap.size)->env.at_ 0=some a->env.at_ 1=some b->a ≠ b->¬ M a->¬ M b->b<w.heap.size ->
 BlkOk P M w env 0 c.t ((c.head t).map .p ++ [.mapv 1])->(∃ dom,MqOk M w env 1 dom (c.val t))->DenL M w (c.args t) vals ->
 CallsIn Fence.wide 0 P f (Value.pointer (some ⟨a,0,none⟩) :: vals).toArray w (fun e w'=>∃ v M',e=.returned v/\Same (fun x=>x=a\/x=b) w w'/\(∀ b,M b->M' b)/\(∀ b,M' b->M b\/w.heap.size <= b)/\(∀ b,M' b->b<w'.heap.size) /\
  BlkOk P M' w' env 0 c.t ((c.head t).map .p ++ [.mapv 1])/\(∃ dom,MqOk M' w' env 1 dom (c.val t))/\DenP M' w' (c.res t) v)
def MksOk (P:Program) (C:Cfg):Prop:=(∀ g mk,C.mks g=some mk->MkOk P g mk/\Enters P g) /\ ∀ g c,C.fams g=some c->FamCOk P g c/\Enters P g
def TrsOk (P:Program) (C:Cfg):Prop:=(∀ g tr,C.trs g=some tr->TrOk P g tr/\Enters P g)/\MksOk P C
def ItersOk (P:Program) (C:Cfg):Prop:=(∀ g it,C.iters g=some it->ItOk P g it/\Enters P g)/\TrsOk P C
abbrev SpecsOk (P:Program) (G:Ctx) (C:Cfg):Prop:=(∀ f sp,C.specs f=some sp->SpecOk P f sp/\Enters P f)/\YieldsOk P G C/\ItersOk P C
theorem SatC.yielded {P:Program} {G:Ctx} {st:St} {a:Act} {w w':World} {env:Env} {M X:Nat->Prop} (S:SatC P G st a w env M X) {k:Nat} (hsz:w.heap.size <= w'.heap.size) (hb:∀ c,c<w.heap.size->(G.m0 c\/X c)->w'.heap[c]? = w.heap[c]?) (hg:G.g k X w') :
  SatC P G { st with yk:=k } a w' env M X:=by
 have hM:∀ b,M b->w'.heap[b]? = w.heap[b]?:=fun b h=>hb b (S.mlt b h) (S.mx b h)
 have hX:∀ b,X b->w'.heap[b]? = w.heap[b]?:=fun b h=>hb b (S.xlt b h) (.inr h)
 have hl:Later M M w w':=⟨hsz,hM,fun _ h=>h⟩
 refine ⟨⟨hg,S.gam.2⟩,S.mx,fun k o h=>?_,fun k o h g hg=>?_,S.inj,S.nod,fun b h=>Nat.lt_of_lt_of_le (S.mlt b h) hsz,fun b h=>Nat.lt_of_lt_of_le (S.xlt b h) hsz,S.siz,?_,S.grd,?_,S.dno⟩
 ·have h1:=S.own k o h
  have h2:=S.oat k o h
  exact h1.move hl rfl rfl (fun g' ha=>hX g' (h2 g' ha).1) (fun _ _=>⟨rfl,rfl⟩)
 ·obtain ⟨q1,q2,q3⟩:=S.oat k o h g hg
  exact ⟨q1,q2,Nat.lt_of_lt_of_le q3 hsz⟩
 ·intro s e h
  obtain ⟨h1,h2,h3⟩:=S.tmp s e h
  exact ⟨h1,fun ho=>(h2 ho).later hl,h3⟩
 ·intro d h
  obtain ⟨D,e,q1,q2,q3,q4⟩:=S.dfr d h
  exact ⟨D,e,(hX D q2).trans q1,q2,q3,q4⟩
theorem scalS_ok {M M':Nat->Prop} {w w':World} {s:SV} {v:Value} (h:DenP M w s v) (hs:scalS s=true):DenP M' w' s v:=by
 cases h with
 | clo f cs vs hl hd =>
   cases cs with
   | nil=>exact .clo f [] vs hl (fun i hi=>absurd hi (Nat.not_lt_zero _))
   | cons c cs=>cases hs
 | int k n=>exact .int k n
 | bool b=>exact .bool b
 | raw v=>exact .raw v
 | agg cs vs hl hd=>exact noMem_ok (.agg cs vs hl hd) hs
 | tup cs vs hl hd=>exact noMem_ok (.tup cs vs hl hd) hs
 | ref=>cases hs
 | sl=>cases hs
theorem SatC.yieldedF {P:Program} {G:Ctx} {st:St} {a:Act} {w w':World} {env:Env} {M X:Nat->Prop} (S:SatC P G st a w env M X) {k:Nat} (hsz:w.heap.size <= w'.heap.size) (hb:∀ c,c<w.heap.size->X c->w'.heap[c]? = w.heap[c]?) (hg:G.g k X w') :
  SatC P G { st.bare with yk:=k } a w' env (fun _=>False) X:=by
 refine ⟨⟨hg,S.gam.2⟩,fun b h=>h.elim,fun k o h=>(by cases h),fun k o h=>(by cases h),fun k o k' o' h=>(by cases h),List.nodup_nil,fun b h=>h.elim,fun b h=>Nat.lt_of_lt_of_le (S.xlt b h) hsz,S.siz,?_,fun s e h=>S.grd s e (List.mem_filter.1 h).1,?_,S.dno⟩
 ·intro s e h
  obtain ⟨h0,hf⟩:=List.mem_filter.1 h
  obtain ⟨h1,h2,h3⟩:=S.tmp s e h0
  refine ⟨h1,fun ho=>?_,h3⟩
  have h4:=h2 ho
  have hf:scalE e.v=true:=hf
  show DenE P _ _ _ e.v _
  generalize a.eval (.tmp s)=v at h4
  generalize e.v=ev at h4 hf
  cases h4 with
  | p hp=>exact .p (scalS_ok hp hf)
  | yield=>exact .yield
  | any=>exact .any
  | _=>cases hf
 ·intro d h
  obtain ⟨D,e,q1,q2,q3,q4⟩:=S.dfr d h
  exact ⟨D,e,(hb D (S.xlt D q2) q2).trans q1,q2,fun h=>h,fun k o h=>(by cases h)⟩
theorem guardP_of {gd:Option (Nat × Bool × Bool)} {p:Prop} (h:p):guardP gd p:=by
 unfold guardP;split
 ·exact h
 ·exact fun _=>h
theorem callSpec_ok (hG:Stable G) (S:SatC P G st a w env M X) {C:Cfg} {gd:Option (Nat × Bool × Bool)} (hgd:GdOk a gd) (hh:holdsG gd) {dst:Option Nat} (hd:∀ t,dst=some t->t<st.nt) (hq:∀ q c x,gd=some (q,c,x)->dst ≠ some q)
  {sides:List Prop} {args:List EV} {L:List Nat} {sp:Spec} {K:St->Prop} (h:callSpec C st gd dst sides args L sp K) {f:Nat} {vals:List Value} (hargs:ArgsOk P (lentM M env L) w args vals) (hlt:∀ b,lentM M env L b->b<w.heap.size)
  (hsp:SpecOk P f sp) (hLown:∀ r,r ∈ L -> ∃ o,(r,o) ∈ st.own):CallsIn Fence.wide 0 P f vals.toArray w (fun e w'=>∃ v,e=.returned v /\ ∃ st',K st'/\Sat P G st' (a.put dst v) w'):=by
 have mono:∀ {R R':Ending->World->Prop},CallsIn Fence.wide 0 P f vals.toArray w R->(∀ e w',R e w'->R' e w')->CallsIn Fence.wide 0 P f vals.toArray w R' :=
  fun h1 h2=>callsIn_wide.2 ((callsIn_wide.1 h1).mono h2)
 cases sp with
 | fn pre res =>
   simp only [callSpec] at h
   obtain ⟨h1,h2⟩:=conj_spec h
   have h1:=wrapG_all h1 hh
   have hp:pre args:=h1 _ (by simp)
   split at h2
   ·rename_i hL
    refine mono (hsp _ w args vals hlt hargs hp) fun e w' hg=>?_
    obtain ⟨v,rfl,hs⟩:=gives_ok hG S hgd hh hd hq hL hg
    exact ⟨v,rfl,_,h2,hs⟩
   ·exact h2.elim
 | rel T t0 pre post res =>
   simp only [callSpec] at h
   obtain ⟨h1,h2⟩:=conj_spec h
   have h1:=wrapG_all h1 hh
   have hp:pre args:=h1 _ (by simp)
   refine mono (hsp _ w args vals hlt hargs hp) fun e w' ⟨t,ht,hg⟩=>?_
   have h3:=h2 t (guardP_of ht)
   split at h3
   ·rename_i hL
    obtain ⟨v,rfl,hs⟩:=gives_ok hG S hgd hh hd hq hL hg
    exact ⟨v,rfl,_,h3,hs⟩
   ·exact h3.elim
 | fresh T t0 pre post e0 sz n get =>
   simp only [callSpec] at h
   obtain ⟨h1,h2⟩:=conj_spec h
   have h1:=wrapG_all h1 hh
   have hp:pre args:=h1 _ (by simp)
   refine mono (hsp _ w args vals hlt hargs hp) fun e w' ⟨t,ht,env',v,he,hb,ho,hrv,hat⟩=>?_
   subst he
   refine ⟨v,rfl,?_⟩
   have h30:=h2 t (guardP_of ht)
   have hL:=(conj_spec h30).1
   have h3:=(conj_spec h30).2
   clear h30 h2
   have hlt:∀ b,lentM M env [] b->b<w.heap.size:=fun b hb=>hlt b (by
    rcases hb with hb | ⟨_,hb,_⟩
    ·exact .inl hb
    ·simp at hb)
   have ho:OwnOk P (fun b=>lentM M env [] b\/(w.heap.size <= b/\b<w'.heap.size/\env'.at_ 0 ≠ some b)) w' env' 0 (.row e0 sz (n args t) (get args t)):=by
    cases L with
    | nil=>exact ho
    | cons r L =>
      have hnm:∀ i,i<n args t->noMem.noMems (get args t i)=true:=all_one hL
      obtain ⟨hm,hgl,h4⟩:=ho
      refine ⟨hm,hgl,?_⟩
      rcases h4 with h4 | ⟨g,cap,cur,h5,h6,h7,h8,h9,h10,h11⟩
      ·exact .inl h4
      ·exact .inr ⟨g,cap,cur,h5,h6,h7,h8,h9,h10,fun i hi j hj=>⟨(h11 i hi j hj).1,noMem_ok (h11 i hi j hj).2 (noMem_ok.noMems_at (hnm i hi) j (by rw [hgl i hi];exact hj))⟩⟩
   split at h3
   ·have S':=S.grow hG (same_below hb) (M':=M) (fun b h=>h) (fun b h=>.inl h) (fun b h=>Nat.lt_of_lt_of_le (S.mlt b h) hb.size)
    exact ⟨_,h3,_,_,_,S'⟩
   ·rename_i d
    have ho0:=ho
    obtain ⟨hm,hgl,h4⟩:=ho
    have hr:∃ A k c,v=.slice A k c:=by
     rw [<- hrv]
     rcases h4 with ⟨_,h4,_⟩ | ⟨g,cap,cur,_,h4,_⟩ <;> rw [h4] <;> exact ⟨_,_,_,rfl⟩
    obtain ⟨A,k,c,hv⟩:=hr
    split at h3
    ·split at h3
     ·split at h3
      ·rename_i hn
       -- an own row
       let env2:Env:={ env with at_:=fun j=>if j=d then env'.at_ 0 else env.at_ j,rv:=fun j=>if j=d then v else env.rv j }
       have e1:env2.at_ d=env'.at_ 0:=by simp [env2]
       have e2:env2.rv d=v:=by simp [env2]
       obtain ⟨X',S'⟩:=(S.forget d).newOwn hG (hd d rfl) hn (fun s e h=>forget_T h) (same_below hb) (env':=env2) (fun j hj=>by simp [env2,hj]) rfl
        (fun g hg=>by rw [e1] at hg;exact hat g hg) (M':=fun b=>lentM M env [] b\/(w.heap.size <= b/\b<w'.heap.size/\env'.at_ 0 ≠ some b)) (fun b hb=>.inl (.inl hb))
        (fun b hb=>by
         rcases hb with (hb | ⟨_,hb,_⟩) | hb
         ·exact .inl hb
         ·simp at hb
         ·exact .inr ⟨hb.1,by rw [e1];exact hb.2.2⟩)
        (fun b hb'=>by
         rcases hb' with hb' | hb'
         ·exact Nat.lt_of_lt_of_le (hlt b hb') hb.size
         ·exact hb'.2.1)
        (o:=.row e0 sz (n args t) (get args t)) ⟨hm,hgl,by rw [e1,e2,<- hrv];exact h4⟩
       subst hv
       exact ⟨_,h3,_,_,_,S'.put0 hd (.row e2)⟩
      ·exact h3.elim
     ·exact h3.elim
    ·have S' := S.grow hG (same_below hb) (M' := fun b => M b \/ (w.heap.size <= b /\ b < w'.heap.size)) (fun b h => .inl h) (fun b h => by rcases h with h | h; exact .inl h; exact .inr h.1)
      (fun b h=>by rcases h with h | h;exact Nat.lt_of_lt_of_le (S.mlt b h) hb.size;exact h.2)
     refine ⟨_,h3,_,_,_,S'.putG hgd hd hq (fun _=>.p ?_) (fun hn=>absurd hh hn)⟩
     rw [<- hrv]
     have hw:∀ b,(lentM M env [] b\/(w.heap.size <= b/\b<w'.heap.size/\env'.at_ 0 ≠ some b))->(M b\/(w.heap.size <= b/\b<w'.heap.size)):=fun b hb=>by
      rcases hb with (hb | ⟨_,hb,_⟩) | hb
      ·exact .inl hb
      ·simp at hb
      ·exact .inr ⟨hb.1,hb.2.1⟩
     rcases h4 with ⟨_,hrv',hn0⟩ | ⟨g,cap,cur,hg',hrv',hh',hnc,hcm,hcs,hd'⟩
     ·rw [hrv',hn0]
      exact .sl _ _ _ _ _ (fun _ _=>undef) (Nat.le_refl _) (Nat.zero_le _) (fun h=>by omega) (fun i hi=>by omega) (fun i hi=>by omega) (fun i hi=>by omega)
     ·rw [hrv']
      refine .sl _ _ _ _ _ (fun i j=>cur.getD (i * sz+j) undef) hnc hm (fun _=>⟨_,rfl,.inr (hat g hg'),fun i hi j hj=>?_⟩) hgl (fun i hi j hj=>(hd' i hi j hj).1) (fun i hi j hj=>(hd' i hi j hj).2.weak hw)
      have:=idx_lt (sz:=sz) (len:=cap) (Nat.lt_of_lt_of_le hi hnc) hj
      rw [add_mk,Nat.zero_add,cell_blk_lt hh' (by omega)]
theorem slOf_ok (S:SatC P G st a w env M X) {sz:Nat} {e:EV} {ps:List Prop} {m:Nat} {get:Nat->List SV} (h:slOf st sz e=some (ps,m,get)) (hp:all ps)
  {v:Value} (hv:DenE P M w env e v):∃ L,DenP (lentM M env L) w (.sl sz m get) v /\ ∀ r,r ∈ L -> ∃ o,(r,o) ∈ st.own:=by
 have hw:∀ L b,M b->lentM M env L b:=fun L b hb=>.inl hb
 cases e with
 | p s =>
   cases s with
   | sl sz' n' g' =>
     simp only [slOf] at h
     split at h
     ·rename_i hs;subst hs
      cases h
      rcases hv with ⟨hv⟩
      exact ⟨[],hv.weak (hw []),fun r hr=>by simp at hr⟩
     ·cases h
   | raw v' =>
     unfold slOf at h
     split at h
     ·rename_i heq;cases heq
     ·rename_i heq;cases heq
      cases h
      rcases hv with ⟨hv⟩
      cases hv
      exact ⟨[],.sl _ _ _ _ _ (fun _ _=>undef) (Nat.le_refl _) (Nat.zero_le _) (fun h=>by omega) (fun i hi=>by omega) (fun i hi=>by omega) (fun i hi=>by omega),fun r hr=>by simp at hr⟩
     ·rename_i heq;cases heq
     ·rename_i heq;cases heq
     ·rename_i heq;cases heq
     ·cases h
   | _=>simp [slOf] at h
 | full q sz' n' g' =>
   simp only [slOf] at h
   split at h
   ·rename_i hs;subst hs
    cases h
    cases hv with
    | full hv _=>exact ⟨[],hv.weak (hw []),fun r hr=>by simp at hr⟩
   ·cases h
 | row r =>
   simp only [slOf] at h
   split at h
   ·rename_i e' sz' n' g' hl
    split at h
    ·rename_i hs;subst hs
     cases h
     cases hv with
     | row hrv =>
     have:=row_den S (lookupO_mem hl) (M':=lentM M env [r]) (hw _) (fun g hg=>.inr ⟨r,by simp,hg⟩)
     rw [hrv] at this
     exact ⟨[r],this,fun r' hr'=>by simp at hr';subst hr';exact ⟨_,lookupO_mem hl⟩⟩
    ·cases h
   ·cases h
 | rsub r sz1 lo n1 =>
   simp only [slOf] at h
   split at h
   ·rename_i e' sz' n' g' hl
    split at h
    ·rename_i hs
     obtain ⟨rfl,rfl⟩:=hs
     cases h
     exact ⟨[r],rsub_den S (lookupO_mem hl) (M':=lentM M env [r]) (hw _) (fun g hg=>.inr ⟨r,by simp,hg⟩) (all_one hp) hv,fun r' hr'=>by simp at hr';subst hr';exact ⟨_,lookupO_mem hl⟩⟩
    ·cases h
   ·cases h
 | _=>simp [slOf] at h
theorem sl_cells {M':Nat->Prop} {sz m:Nat} {get:Nat->List SV} {v:Value} (h:DenP M' w (.sl sz m get) v):∃ (A:Option Addr) (cap:Nat) (news:List Value),v=.slice A m cap/\m <= cap/\news.length=m * sz/\(A=none->m=0)/\(∀ ad,A=some ad->0<m -> ∀ j u,news[j]? = some u->w.cell? (ad.add j)=some u) /\
  (∀ u:Value,u ∈ news->u.oneCell'=true)/\(∀ i,i<m->(get i).length=sz) /\ ∀ i,i<m -> ∀ j,j<sz->DenP M' w (SV.at (get i) j) (news.getD (i * sz+j) undef):=by
 cases h with
 | sl _ _ _ A cap vs hcap hm hA hg ho hd =>
   have hAn:A=none->m=0:=fun h=>by
    rcases Nat.eq_zero_or_pos m with h0 | h0
    ·exact h0
    ·obtain ⟨ad,e,_⟩:=hA h0;rw [h] at e;cases e
   by_cases hsz:sz=0
   ·subst hsz
    exact ⟨A,cap,[],rfl,hcap,by simp,hAn,fun ad _ _ j u hu=>by simp at hu,fun u hu=>by simp at hu,hg,fun i hi j hj=>by omega⟩
   have hpos:0<sz:=Nat.pos_of_ne_zero hsz
   have key:∀ k,k<m * sz->k / sz<m/\k % sz<sz/\k / sz * sz+k % sz=k:=fun k hk=>⟨Nat.div_lt_of_lt_mul (by rw [Nat.mul_comm];exact hk),Nat.mod_lt _ hpos,by rw [Nat.mul_comm];exact Nat.div_add_mod k sz⟩
   refine ⟨A,cap,(List.range (m * sz)).map fun k=>vs (k / sz) (k % sz),rfl,hcap,by simp,hAn,fun ad e h0 j u hu=>?_,fun u hu=>?_,hg,fun i hi j hj=>?_⟩
   ·obtain ⟨ad',e',_,hc⟩:=hA h0
    rw [e] at e';cases e'
    have hj:j<m * sz:=by have:=(List.getElem?_eq_some_iff.1 hu).1;simpa using this
    obtain ⟨k1,k2,k3⟩:=key j hj
    have:=hc _ k1 _ k2
    rw [k3] at this
    rw [this]
    simp [hj] at hu
    rw [hu]
   ·obtain ⟨k,hk,rfl⟩:=List.mem_map.1 hu
    have hk:k<m * sz:=by simpa using hk
    obtain ⟨k1,k2,_⟩:=key k hk
    exact ho _ k1 _ k2
   ·have hlt:=idx_lt (sz:=sz) hi hj
    rw [List.getD_eq_getElem?_getD]
    simp only [List.getElem?_map,List.getElem?_range hlt,Option.map_some,Option.getD_some]
    have h1:(i * sz+j) / sz=i:=by rw [Nat.mul_comm,Nat.mul_add_div hpos,Nat.div_eq_of_lt hj,Nat.add_zero]
    have h2:(i * sz+j) % sz=j:=by rw [Nat.mul_comm,Nat.mul_add_mod,Nat.mod_eq_of_lt hj]
    rw [h1,h2]
    exact hd i hi j hj
theorem run_append_none {t ty e:TypeId} {y:Ty} (ht:P.underlying t=some (.slice e)) (hy:tyOf P e=some y) {v:Value} {n:Nat} {xs:List Value} (hown:w.ownsRow 0 e y.size v n xs) (c:Nat) :
  (Builtin.append_ #[t,t] ty #[v,.slice none 0 c]).run P w=.ok v w:=by
 obtain ⟨i,hi,hz,hs,hb,_⟩:=tyOf_spec hy
 rcases hown.2 with ⟨rfl,rfl⟩ | ⟨g,cap,cur,rfl,_,_,hnc,_⟩
 ·simp [Builtin.append_,run_underlying ht,sizeOf,typeInfo,hi,Builtin.lenOf,Builtin.firstCells]
 ·simp [Builtin.append_,run_underlying ht,sizeOf,typeInfo,hi,Builtin.lenOf,Builtin.firstCells,hnc,storeCells]
theorem append_drawn {t ty e:TypeId} {y:Ty} (hy:tyOf P e=some y) (ht:P.underlying t=some (.slice e)) {v:Value} {n:Nat} {xs:List Value} (hown:w.ownsRow 0 e y.size v n xs) (_:0<y.size) (_:y.zero.cells.size=y.size)
  {ad:Addr} {m cap:Nat} {news:List Value} (hl:news.length=m * y.size) (hc:∀ j u,news[j]? = some u->w.cell? (ad.add j)=some u) (h1:∀ u,u ∈ news->u.oneCell'=true)
  (h63:n+m <= maxLen) (hbytes:(n+m) * y.bytes <= 140737488355328) {v':Value} {w':World} (hrun:(Builtin.append_ #[t,t] ty #[v,.slice (some ad) m cap]).run P w=.ok v' w'):w.drawn <= w'.drawn:=by
 obtain ⟨i,hi,hz,hs,hb,_⟩:=tyOf_spec hy
 have hsmall:n+m <= 9223372036854775807:=by simp only [maxLen] at h63;omega
 rcases hown.2 with ⟨rfl,rfl⟩ | ⟨g,cp,cur,rfl,_,hg,hnc,_,hcs,_⟩
 ·by_cases hm:m=0
  ·subst hm
   have hn:news = []:=List.eq_nil_of_length_eq_zero (by simpa using hl)
   subst hn
   simp [Builtin.append_,run_underlying ht,sizeOf,typeInfo,hi,Builtin.lenOf,Builtin.firstCells,loadCells,loadCellsFrom] at hrun
   rw [<- hrun.2];exact Nat.le_refl _
  ·have hr:=run_append_nil (P:=P) w t ty e i y.zero ht hi hz ad m cap news (by rw [hl,hs]) hc (by omega) (by omega) (by rw [hb];have h:=hbytes;rw [Nat.zero_add] at h;omega)
   rw [hr] at hrun
   cases hrun
   exact Nat.le_succ _
 ·by_cases hroom:n+m <= cp
  ·have hfit:n * i.size+news.length <= cur.size:=by rw [hl,hcs,hs,<- Nat.add_mul];exact Nat.mul_le_mul_right _ hroom
   have hr:=run_append_room (P:=P) w t ty e i ht hi g n cp cur hg ad m cap news (by rw [hl,hs]) hc h1 hroom hfit
   rw [hr] at hrun
   cases hrun
   exact Nat.le_refl _
  ·have hr:=run_append_grow (P:=P) w t ty e i y.zero ht hi hz ⟨g,0,none⟩ n cp xs (by rw [hown.1,hs]) (fun j u hu=>hown.cells (g:=g) rfl j u hu) ad m cap news (by rw [hl,hs]) hc (by omega) (by omega) (growslice_fits (by omega) (by rw [hb];exact hbytes))
   rw [hr] at hrun
   cases hrun
   exact Nat.le_succ _
theorem run_append_all {t ty e:TypeId} {y:Ty} (ht:P.underlying t=some (.slice e)) (hy:tyOf P e=some y) (hsz:0<y.size) (hzs:y.zero.cells.size=y.size) {v:Value} {n:Nat} {xs:List Value} (hown:w.ownsRow 0 e y.size v n xs)
  {A:Option Addr} {m cap:Nat} {news:List Value} (hl:news.length=m * y.size) (hA:A=none->m=0) (hc:∀ ad,A=some ad->0<m -> ∀ j u,news[j]? = some u->w.cell? (ad.add j)=some u) (h1:∀ u,u ∈ news->u.oneCell'=true)
  (h63:n+m <= maxLen) (hbytes:(n+m) * y.bytes <= 140737488355328) :
  ∃ v' w',(Builtin.append_ #[t,t] ty #[v,.slice A m cap]).run P w=.ok v' w'/\w'.ownsRow 0 e y.size v' (n+m) (xs ++ news)/\w.grownBy w' v.ownBlock/\(v'.ownBlock=v.ownBlock\/v'.ownBlock=some w.heap.size)/\w.drawn <= w'.drawn:=by
 obtain ⟨i,hi,hz,hs,hb,_⟩:=tyOf_spec hy
 cases A with
 | none =>
   have:=hA rfl
   subst this
   have:news = []:=List.eq_nil_of_length_eq_zero (by simpa using hl)
   subst this
   exact ⟨v,w,run_append_none ht hy hown cap,by simpa using hown,World.grownBy.refl w _,.inl rfl,Nat.le_refl _⟩
 | some ad =>
   have hcells:∀ j u,news[j]? = some u->w.cell? (ad.add j)=some u:=fun j u hu=>by
    rcases Nat.eq_zero_or_pos m with h0 | h0
    ·subst h0
     have:news = []:=List.eq_nil_of_length_eq_zero (by simpa using hl)
     subst this
     simp at hu
    ·exact hc ad rfl h0 j u hu
   obtain ⟨v',w',h2,h3,h4,_,h5⟩:=run_append_own_at (P:=P) w 0 t ty e i y.zero y.size y.bytes ht hi hz hs hb hzs hsz v n xs hown ad m cap news hl hcells h1 h63 hbytes (Nat.zero_le _)
   exact ⟨v',w',h2,h3,h4,h5,append_drawn hy ht hown hsz hzs hl hcells h1 h63 hbytes h2⟩
end Go.SE
namespace Go.SE
open Go.RowKit
variable {P:Program} {M:Nat->Prop} {w:World} {G:Ctx} {st:St} {a:Act} {env:Env} {X:Nat->Prop}
def CellsOf (M:Nat->Prop) (w:World) (sz m:Nat) (get:Nat->List SV) (v:Value):Prop :=
 ∃ (A:Option Addr) (cap:Nat) (news:List Value),v=.slice A m cap/\news.length=m * sz/\(A=none->m=0)/\(∀ ad,A=some ad->0<m -> ∀ j u,news[j]? = some u->w.cell? (ad.add j)=some u) /\
   (∀ u:Value,u ∈ news->u.oneCell'=true)/\(∀ i,i<m->(get i).length=sz) /\ ∀ i,i<m -> ∀ j,j<sz->DenP M w (SV.at (get i) j) (news.getD (i * sz+j) undef)
theorem cellsOf_p {sz m:Nat} {get:Nat->List SV} {v:Value} (h:DenP M w (.sl sz m get) v):CellsOf M w sz m get v:=by
 obtain ⟨A,cap,news,h1,_,h2⟩:=sl_cells h
 exact ⟨A,cap,news,h1,h2⟩
theorem cellsOf_at {sz m:Nat} {get:Nat->List SV} {v:Value} {M':Nat->Prop} (h:CellsOf M' w sz m get v) (f:Nat->Nat->Value) (hf:∀ ad cap,v=.slice (some ad) m cap -> ∀ i,i<m -> ∀ j,j<sz->w.cell? (ad.add (i * sz+j))=some (f i j)/\DenP M w (SV.at (get i) j) (f i j)):CellsOf M w sz m get v:=by
 obtain ⟨A,cap,news,rfl,h1,h2,h3,h4,h5,h6⟩:=h
 refine ⟨A,cap,news,rfl,h1,h2,h3,h4,h5,fun i hi j hj=>?_⟩
 cases A with
 | none=>have:=h2 rfl;omega
 | some ad =>
   obtain ⟨k1,k2⟩:=hf ad cap rfl i hi j hj
   have hlt:=idx_lt (sz:=sz) hi hj
   have:=h3 ad rfl (by omega) (i * sz+j) (news.getD (i * sz+j) undef) (by rw [List.getD_eq_getElem?_getD,List.getElem?_eq_getElem (by omega)];rfl)
   rw [k1] at this
   injection this with this
   rw [<- this];exact k2
theorem slOf_cells (S:SatC P G st a w env M X) {sz:Nat} {e:EV} {ps:List Prop} {m:Nat} {get:Nat->List SV} (h:slOf st sz e=some (ps,m,get)) (hp:all ps)
  {v:Value} (hv:DenE P M w env e v):CellsOf M w sz m get v:=by
 have hv0:=hv
 obtain ⟨L,hd,_⟩:=slOf_ok S h hp hv
 have hc:=cellsOf_p hd
 cases e with
 | p s =>
   cases s with
   | sl sz' n' g' =>
     simp only [slOf] at h
     split at h
     ·rename_i hs;subst hs
      cases h
      rcases hv with ⟨hv⟩
      exact cellsOf_p hv
     ·cases h
   | raw v' =>
     refine cellsOf_at hc (fun _ _=>undef) (fun ad cap e i hi=>?_)
     unfold slOf at h
     split at h
     ·rename_i heq;cases heq
     ·cases h;omega
     ·rename_i heq;cases heq
     ·rename_i heq;cases heq
     ·rename_i heq;cases heq
     ·cases h
   | _=>simp [slOf] at h
 | full q sz' n' g' =>
   simp only [slOf] at h
   split at h
   ·rename_i hs;subst hs
    cases h
    cases hv with
    | full hv _=>exact cellsOf_p hv
   ·cases h
 | row r =>
   simp only [slOf] at h
   split at h
   ·rename_i e' sz' n' g' hl
    split at h
    ·rename_i hs;subst hs
     cases h
     obtain ⟨_,_,hO⟩:=S.own _ _ (lookupO_mem hl)
     cases hv with
     | row hrv =>
     rcases hO with ⟨_,hrv',hn⟩ | ⟨g,cap,cur,hg,hrv',hh,hnc,hcm,hcs,hd'⟩
     ·exact cellsOf_at hc (fun _ _=>undef) (fun ad cap e i hi=>by omega)
     ·rw [hrv'] at hrv;cases hrv
      refine cellsOf_at hc (fun i j=>cur.getD (i * sz'+j) undef) (fun ad cap' e i hi j hj=>?_)
      cases e
      have:=idx_lt (sz:=sz') (Nat.lt_of_lt_of_le hi hnc) hj
      exact ⟨by rw [add_mk,Nat.zero_add,cell_blk_lt hh (by omega)],(hd' i hi j hj).2⟩
    ·cases h
   ·cases h
 | rsub r sz1 lo n1 =>
   simp only [slOf] at h
   split at h
   ·rename_i e' sz' n' g' hl
    split at h
    ·rename_i hs
     obtain ⟨rfl,rfl⟩:=hs
     cases h
     have hle:lo+m <= n':=all_one hp
     obtain ⟨_,_,hO⟩:=S.own _ _ (lookupO_mem hl)
     cases hv with
     | rsub A cap0 hc0 hm0 hA =>
     rcases hO with ⟨_,hrv',hn⟩ | ⟨g,cap,cur,hg,hrv',hh,hnc,hcm,hcs,hd'⟩
     ·exact cellsOf_at hc (fun _ _=>undef) (fun ad cap e i hi=>by omega)
     ·refine cellsOf_at hc (fun i j=>cur.getD ((lo+i) * sz1+j) undef) (fun ad cap' e i hi j hj=>?_)
      cases e
      obtain ⟨g',hg',e⟩:=hA (by omega)
      rw [hg] at hg';cases hg'
      cases e
      have:=idx_lt (i:=lo+i) (sz:=sz1) (len:=cap) (by omega) hj
      exact ⟨by rw [add_mk,show lo * sz1+(i * sz1+j)=(lo+i) * sz1+j by rw [Nat.add_mul,Nat.add_assoc],cell_blk_lt hh (by omega)],(hd' _ (by omega) j hj).2⟩
    ·cases h
   ·cases h
 | _=>simp [slOf] at h
theorem append_row {e:TypeId} {y:Ty} {n m:Nat} {get get2:Nat->List SV} {xs news:List Value} {w':World} {v':Value} {env':Env} {k:Nat} (hl:Later M M w w')
  (hxl:xs.length=n * y.size) (hgl:∀ i,i<n->(get i).length=y.size) (hgl2:∀ i,i<m->(get2 i).length=y.size) (hnl:news.length=m * y.size) (hx1:∀ u,u ∈ xs->u.oneCell'=true) (hn1:∀ u,u ∈ news->u.oneCell'=true)
  (hdx:∀ i,i<n -> ∀ j,j<y.size->DenP M w (SV.at (get i) j) (xs.getD (i * y.size+j) undef)) (hdn:∀ i,i<m -> ∀ j,j<y.size->DenP M w (SV.at (get2 i) j) (news.getD (i * y.size+j) undef))
  (hown:w'.ownsRow 0 e y.size v' (n+m) (xs ++ news)) (hm:n+m <= maxLen) (hat:env'.at_ k=v'.ownBlock) (hrv:env'.rv k=v'):OwnOk P M w' env' k (.row e y.size (n+m) (appGet n get get2)):=by
 refine ⟨hm,fun i hi=>?_,?_⟩
 ·unfold appGet;split
  ·rename_i h;exact hgl i h
  ·exact hgl2 _ (by omega)
 ·rcases hown.2 with ⟨rfl,h0⟩ | ⟨g,cap,cur,rfl,_,hh,hnc,hcm,hcs,htake⟩
  ·exact .inl ⟨by rw [hat];rfl,hrv,h0⟩
  ·refine .inr ⟨g,cap,cur,by rw [hat];rfl,hrv,hh,hnc,hcm,hcs,fun i hi j hj=>?_⟩
   have hlt:=idx_lt (sz:=y.size) hi hj
   have hlt2:=idx_lt (sz:=y.size) (Nat.lt_of_lt_of_le hi hnc) hj
   have e1:cur.getD (i * y.size+j) undef=(xs ++ news).getD (i * y.size+j) undef:=by
    rw [<- htake,List.getD_eq_getElem?_getD,List.getElem?_take_of_lt hlt,Array.getD_eq_getD_getElem?];simp
   rw [e1]
   unfold appGet
   by_cases hin:i<n
   ·have hltn:=idx_lt (sz:=y.size) hin hj
    rw [if_pos hin,List.getD_eq_getElem?_getD,List.getElem?_append_left (by omega),<- List.getD_eq_getElem?_getD]
    refine ⟨?_,(hdx i hin j hj).later hl⟩
    rw [List.getD_eq_getElem?_getD,List.getElem?_eq_getElem (by omega)]
    exact hx1 _ (List.getElem_mem _)
   ·have hge:n * y.size <= i * y.size:=Nat.mul_le_mul_right _ (by omega)
    have hsub:i * y.size+j - n * y.size=(i - n) * y.size+j:=by rw [Nat.sub_mul];omega
    have hltm:=idx_lt (i:=i - n) (sz:=y.size) (len:=m) (by omega) hj
    rw [if_neg hin,List.getD_eq_getElem?_getD,List.getElem?_append_right (by omega),hxl,hsub,<- List.getD_eq_getElem?_getD]
    refine ⟨?_,(hdn _ (by omega) j hj).later hl⟩
    rw [List.getD_eq_getElem?_getD,List.getElem?_eq_getElem (by omega)]
    exact hn1 _ (List.getElem_mem _)
theorem run_append_full {t ty e:TypeId} {y:Ty} (ht:P.underlying t=some (.slice e)) (hy:tyOf P e=some y) {A0 A:Option Addr} {n m cap:Nat} {olds news:List Value} (hol:olds.length=n * y.size) (hA0:A0=none->n=0)
  (hoc:∀ ad,A0=some ad->0<n -> ∀ j u,olds[j]? = some u->w.cell? (ad.add j)=some u) (hl:news.length=m * y.size) (hA:A=none->m=0) (hc:∀ ad,A=some ad->0<m -> ∀ j u,news[j]? = some u->w.cell? (ad.add j)=some u)
  (hm0:0<m) (h63:n+m <= maxLen) (hbytes:(n+m) * y.bytes <= 140737488355328) :
  ∃ c zs,(Builtin.append_ #[t,t] ty #[.slice A0 n n,.slice A m cap]).run P w=.ok (.slice (some ⟨w.heap.size,0,none⟩) (n+m) c) (w.drew.alloc (.cells ((olds ++ news).toArray ++ zs) e))/\n+m <= c:=by
 obtain ⟨i,hi,hz,hs,hb,_⟩:=tyOf_spec hy
 have hsmall:n+m <= 9223372036854775807:=by simp only [maxLen] at h63;omega
 cases A with
 | none=>exact absurd (hA rfl) (by omega)
 | some ad =>
   cases A0 with
   | none =>
     have:=hA0 rfl
     subst this
     have:olds = []:=List.eq_nil_of_length_eq_zero (by simpa using hol)
     subst this
     have hr:=run_append_nil (P:=P) w t ty e i y.zero ht hi hz ad m cap news (by rw [hl,hs]) (hc ad rfl hm0) hm0 (by omega) (by rw [hb];have h:=hbytes;rw [Nat.zero_add] at h;omega)
     refine ⟨_,_,by rw [hr];simp only [Nat.zero_add,List.nil_append];rfl,?_⟩
     rw [Nat.zero_add]
     exact grownCap_ge w m 0 e
   | some ad0 =>
     have hr := run_append_grow (P := P) w t ty e i y.zero ht hi hz ad0 n n olds (by rw [hol, hs]) (fun j u hu => by
      rcases Nat.eq_zero_or_pos n with h0 | h0
      ·subst h0
       have:olds = []:=List.eq_nil_of_length_eq_zero (by simpa using hol)
       subst this
       simp at hu
      ·exact hoc ad0 rfl h0 j u hu) ad m cap news (by rw [hl,hs]) (hc ad rfl hm0) (by omega) (by omega) (growslice_fits (by omega) (by rw [hb];exact hbytes))
     refine ⟨_,_,by rw [hr];simp only [List.append_toArray];rfl,?_⟩
     exact grownCap_ge w (n+m) n e
theorem full_ok (hG:Stable G) (S:SatC P G st a w env M X) {t e:TypeId} {y:Ty} {n m:Nat} {get get2:Nat->List SV}
  (hu:P.underlying t=some (.slice e)) (hy:tyOf P e=some y) (_:0<y.size) (hm0:0<m) (hbytes:(n+m) * y.bytes <= 140737488355328) (hmax:n+m <= maxLen)
  {A:Option Addr} {cap:Nat} {news:List Value} (c1:news.length=m * y.size) (c2:A=none->m=0) (c3:∀ ad,A=some ad->0<m -> ∀ j u,news[j]? = some u->w.cell? (ad.add j)=some u) (c4:∀ u,u ∈ news->u.oneCell'=true)
  (c5:∀ i,i<m->(get2 i).length=y.size) (c6:∀ i,i<m -> ∀ j,j<y.size->DenP M w (SV.at (get2 i) j) (news.getD (i * y.size+j) undef)) {A0:Option Addr} (hs:DenP M w (.sl y.size n get) (.slice A0 n n)) (ty:TypeId) :
  ∃ v' w' M' X',(Builtin.append_ #[t,t] ty #[.slice A0 n n,.slice A m cap]).run P w=.ok v' w'/\SatC P G st a w' env M' X'/\DenP M' w' (.sl y.size (n+m) (appGet n get get2)) v':=by
 obtain ⟨A1,cap1,olds,he,_,o1,o2,o3,o4,o5,o6⟩:=sl_cells hs
 cases he
 obtain ⟨c,zs,hrun,hc⟩:=run_append_full (P:=P) (w:=w) (ty:=ty) (cap:=cap) hu hy o1 o2 o3 c1 c2 c3 hm0 hmax hbytes
 have hs1:=same_drew w
 have hs2:=same_alloc w.drew (.cells ((olds ++ news).toArray ++ zs) e)
 have hsame:Same (fun _=>False) w (w.drew.alloc (.cells ((olds ++ news).toArray ++ zs) e)):=⟨hs2.os.trans hs1.os,hs2.tape.trans hs1.tape,hs2.output.trans hs1.output,Nat.le_trans hs1.drawn hs2.drawn,Nat.le_trans hs1.size hs2.size,fun b hb h=>(hs2.block b hb h).trans (hs1.block b hb h)⟩
 have hsize:(w.drew.alloc (.cells ((olds ++ news).toArray ++ zs) e)).heap.size=w.heap.size+1:=by simp
 have hnew:(w.drew.alloc (.cells ((olds ++ news).toArray ++ zs) e)).heap[w.heap.size]? = some (.cells ((olds ++ news).toArray ++ zs) e (0,0)):=heap_alloc_new w.drew _
 have S':=S.grow hG hsame (M':=fun b=>M b\/b=w.heap.size) (fun b h=>.inl h) (fun b h=>by rcases h with h | h;exact .inl h;exact .inr (by omega)) (fun b h=>by rcases h with h | h;exact Nat.lt_of_lt_of_le (S.mlt b h) hsame.size;rw [hsize];omega)
 have hlat:Later M (fun b=>M b\/b=w.heap.size) w (w.drew.alloc (.cells ((olds ++ news).toArray ++ zs) e)):=⟨hsame.size,fun b hb=>hsame.block b (S.mlt b hb) id,fun b hb=>.inl hb⟩
 refine ⟨_,_,_,_,hrun,S',?_⟩
 have hlen:(olds ++ news).length=(n+m) * y.size:=by rw [List.length_append,o1,c1,Nat.add_mul]
 have hget:∀ k,k<(n+m) * y.size->(((olds ++ news).toArray ++ zs).getD k undef)=(olds ++ news).getD k undef:=fun k hk=>by
  rw [Array.getD_eq_getD_getElem?,Array.getElem?_append_left (by simpa [hlen] using hk),List.getD_eq_getElem?_getD];simp
 have key:∀ i,i<n+m -> ∀ j,j<y.size->((((olds ++ news).toArray ++ zs).getD (i * y.size+j) undef).oneCell'=true/\DenP M w (SV.at (appGet n get get2 i) j) (((olds ++ news).toArray ++ zs).getD (i * y.size+j) undef)):=fun i hi j hj=>by
  have hlt:=idx_lt (sz:=y.size) hi hj
  rw [hget _ hlt]
  unfold appGet
  by_cases hin:i<n
  ·have hltn:=idx_lt (sz:=y.size) hin hj
   rw [if_pos hin,List.getD_eq_getElem?_getD,List.getElem?_append_left (by omega),<- List.getD_eq_getElem?_getD]
   refine ⟨?_,o6 i hin j hj⟩
   rw [List.getD_eq_getElem?_getD,List.getElem?_eq_getElem (by omega)]
   exact o4 _ (List.getElem_mem _)
  ·have hge:n * y.size <= i * y.size:=Nat.mul_le_mul_right _ (by omega)
   have hsub:i * y.size+j - n * y.size=(i - n) * y.size+j:=by rw [Nat.sub_mul];omega
   have hltm:=idx_lt (i:=i - n) (sz:=y.size) (len:=m) (by omega) hj
   rw [if_neg hin,List.getD_eq_getElem?_getD,List.getElem?_append_right (by omega),o1,hsub,<- List.getD_eq_getElem?_getD]
   refine ⟨?_,c6 _ (by omega) j hj⟩
   rw [List.getD_eq_getElem?_getD,List.getElem?_eq_getElem (by omega)]
   exact c4 _ (List.getElem_mem _)
 refine .sl _ _ _ _ _ (fun i j=>((olds ++ news).toArray ++ zs).getD (i * y.size+j) undef) hc hmax (fun _=>⟨_,rfl,.inr rfl,fun i hi j hj=>?_⟩) (fun i hi=>?_) (fun i hi j hj=>(key i hi j hj).1) (fun i hi j hj=>(key i hi j hj).2.later hlat)
 ·have hlt:=idx_lt (sz:=y.size) hi hj
  rw [add_mk,Nat.zero_add,cell_blk_lt hnew (by simp [hlen] at *;omega)]
 ·unfold appGet;split
  ·rename_i h;exact o5 i h
  ·exact c5 _ (by omega)
theorem stepAppend_ok (hG:Stable G) (S:SatC P G st a w env M X) {t:TypeId} {d:Nat} {s x:EV} {K:St->Prop} (h:stepAppend P st t d s x K) (hd:d<st.nt) {vs vx:Value} (hs:DenE P M w env s vs) (hx:DenE P M w env x vx) (ty:TypeId) :
  ∃ v' w',(Builtin.append_ #[t,t] ty #[vs,vx]).run P w=.ok v' w' /\ ∃ st',K st'/\Sat P G st' (a.put (some d) v') w':=by
 unfold stepAppend at h
 split at h
 ·rename_i e hu
  split at h
  ·rename_i y hy
   split at h
   ·rename_i sides m get2 hsl
    split at h
    ·rename_i hc
     obtain ⟨hb,hsz,hzs⟩:=hc
     split at h
     ·rename_i r
      split at h
      ·rename_i e' sz n get hl
       split at h
       ·rename_i hc2
        obtain ⟨rfl,rfl,hxr,hrn⟩:=hc2
        obtain ⟨hp,hk⟩:=conj_spec h
        obtain ⟨hp1,hp2⟩:=all_append hp
        have hbytes:(n+m) * y.bytes <= 140737488355328:=all_one hp2
        have hmax:=le_maxLen_of_bytes hb hbytes
        obtain ⟨A,cap,news,rfl,c1,c2,c3,c4,c5,c6⟩:=slOf_cells S hsl hp1 hx
        have hmem:=lookupO_mem hl
        obtain ⟨hm,hgl,hO⟩:=S.own _ _ hmem
        cases hs with
        | row hrv =>
        obtain ⟨xs,hxo,hx1,hxd,hob⟩:∃ xs,w.ownsRow 0 e' y.size (env.rv r) n xs/\(∀ u,u ∈ xs->u.oneCell'=true)/\(∀ i,i<n -> ∀ j,j<y.size->DenP M w (SV.at (get i) j) (xs.getD (i * y.size+j) undef))/\(env.rv r).ownBlock=env.at_ r:=by
         rcases hO with ⟨h1,h2,h3⟩ | ⟨g,cap',cur,hg,hrv',hh,hnc,hcm,hcs,hd'⟩
         ·subst h3
          exact ⟨[],by rw [h2];exact World.ownsRow_nil w 0 e' y.size,fun u hu=>by simp at hu,fun i hi=>by omega,by rw [h2,h1];rfl⟩
         ·have hle:n * y.size <= cap' * y.size:=Nat.mul_le_mul_right _ hnc
          refine ⟨cur.toList.take (n * y.size),⟨by simp;omega,.inr ⟨g,cap',cur,hrv',Nat.zero_le _,hh,hnc,hcm,hcs,rfl⟩⟩,fun u hu=>?_,fun i hi j hj=>?_,by rw [hrv',hg];rfl⟩
          ·obtain ⟨k,hk,rfl⟩:=List.getElem_of_mem hu
           have hk':k<n * y.size:=by simp at hk;omega
           have h1:k / y.size<n:=Nat.div_lt_of_lt_mul (by rw [Nat.mul_comm];exact hk')
           have h2:=(hd' _ h1 _ (Nat.mod_lt k hsz)).1
           rw [show k / y.size * y.size+k % y.size=k by rw [Nat.mul_comm];exact Nat.div_add_mod k y.size] at h2
           rw [Array.getD_eq_getD_getElem?,Array.getElem?_eq_getElem (by omega)] at h2
           simpa using h2
          ·have:=idx_lt (sz:=y.size) hi hj
           rw [List.getD_eq_getElem?_getD,List.getElem?_take_of_lt this]
           have:=(hd' i hi j hj).2
           rw [Array.getD_eq_getD_getElem?] at this
           simpa using this
        obtain ⟨v',w',hrun,hown',hgr,hblk,hdr⟩:=run_append_all (P:=P) (ty:=ty) (cap:=cap) hu hy hsz hzs hxo c1 c2 c3 c4 hmax hbytes
        rw [hrv] at hrun
        let env2:Env:={ env with at_:=fun j=>if j=r then v'.ownBlock else env.at_ j,rv:=fun j=>if j=r then v' else env.rv j }
        have e1:env2.at_ r=v'.ownBlock:=by simp [env2]
        have e2:env2.rv r=v':=by simp [env2]
        have hs':Same (fun b=>env.at_ r=some b) w w':=⟨hgr.os,hgr.tape,hgr.output,hdr,hgr.size,fun b hb hne=>hgr.block b hb (fun e=>hne (by rw [<- hob];exact e.symm))⟩
        have hlat:Later M M w w':=⟨hgr.size,fun b hb=>hs'.block b (S.mlt b hb) (fun e=>(S.oat _ _ hmem b e).2.1 hb),fun b hb=>hb⟩
        have hnew:=append_row (P:=P) (env':=env2) (k:=r) hlat hxo.1 hgl c5 c1 hx1 c4 hxd c6 hown' hmax e1 e2
        have hmem':∃ o,(r,o) ∈ (st.scrub r).own:=⟨.row e' y.size n get,List.mem_map.2 ⟨(r,.row e' y.size n get),List.mem_filter.2 ⟨hmem,rfl⟩,rfl⟩⟩
        obtain ⟨o0,ho0⟩:=hmem'
        have hlt':∀ g,v'.ownBlock=some g->g<w'.heap.size:=fun g hg=>(hown'.lt g hg).2
        obtain ⟨X',S'⟩:=(scrub_ok S r).rerow hG hrn ho0 (fun s e h=>scrub_noT h) (fun k' o' h=>scrub_noO h) hs' (env':=env2) (fun j hj=>by simp [env2,hj]) rfl
         (fun g hg=>by
          rw [e1] at hg
          refine ⟨?_,hlt' g hg⟩
          rcases hblk with hb' | hb'
          ·left;rw [<- hob,<- hb'];exact hg
          ·right;rw [hb'] at hg;cases hg;exact Nat.le_refl _) hnew
        have hv':∃ A k c,v'=.slice A k c:=by
         rcases hown'.2 with ⟨h,_⟩ | ⟨_,_,_,h,_⟩ <;> rw [h] <;> exact ⟨_,_,_,rfl⟩
        obtain ⟨A',k',c',rfl⟩:=hv'
        exact ⟨_,w',hrun,_,hk,_,_,_,S'.put0 (by intro t' ht;cases ht;exact hd) (.row e2)⟩
       ·exact h.elim
      ·exact h.elim
     ·split at h
      ·rename_i hn
       obtain ⟨hp,hk⟩:=conj_spec h
       obtain ⟨hp1,hp2⟩:=all_append hp
       have hbytes:m * y.bytes <= 140737488355328:=all_one hp2
       have hmax:=le_maxLen_of_bytes hb hbytes
       obtain ⟨A,cap,news,rfl,c1,c2,c3,c4,c5,c6⟩:=slOf_cells S hsl hp1 hx
       rcases hs with ⟨hs⟩
       cases hs
       obtain ⟨v',w',hrun,hown',hgr,hblk,hdr⟩:=run_append_all (P:=P) (ty:=ty) (cap:=cap) hu hy hsz hzs (World.ownsRow_nil w 0 e y.size) c1 c2 c3 c4 (by omega) (by simpa using hbytes)
       simp only [Nat.zero_add,List.nil_append] at hown'
       let env2:Env:={ env with at_:=fun j=>if j=d then v'.ownBlock else env.at_ j,rv:=fun j=>if j=d then v' else env.rv j }
       have e1:env2.at_ d=v'.ownBlock:=by simp [env2]
       have e2:env2.rv d=v':=by simp [env2]
       have hs':Same (fun _=>False) w w':=⟨hgr.os,hgr.tape,hgr.output,hdr,hgr.size,fun b hb _=>hgr.block b hb (by simp [Value.ownBlock])⟩
       have hlat:Later M M w w':=⟨hgr.size,fun b hb=>hs'.block b (S.mlt b hb) id,fun b hb=>hb⟩
       have hnew:=append_row (P:=P) (M:=M) (w:=w) (e:=e) (y:=y) (n:=0) (m:=m) (get:=fun _=>[]) (get2:=get2) (xs:=[]) (news:=news) (w':=w') (v':=v') (env':=env2) (k:=d) hlat (by simp) (fun i hi=>by omega) c5 c1 (fun u hu=>by simp at hu) c4 (fun i hi=>by omega) c6 (by simpa using hown') (by omega) e1 e2
       have hnew':OwnOk P M w' env2 d (.row e y.size m get2):=by
        have:appGet 0 (fun _=>[]) get2=get2:=by funext i;simp [appGet]
        rw [this,Nat.zero_add] at hnew
        exact hnew
       have hv':∃ A k c,v'=.slice A k c:=by
        rcases hown'.2 with ⟨h,_⟩ | ⟨_,_,_,h,_⟩ <;> rw [h] <;> exact ⟨_,_,_,rfl⟩
       obtain ⟨X',S'⟩:=(S.forget d).newOwn hG hd hn (fun s e h=>forget_T h) hs' (env':=env2) (fun j hj=>by simp [env2,hj]) rfl
        (fun g hg=>by
         rw [e1] at hg
         rcases hblk with hb' | hb'
         ·rw [hb'] at hg;cases hg
         ·rw [hb'] at hg;cases hg;exact ⟨Nat.le_refl _,(hown'.lt _ hb').2⟩)
        (M':=M) (fun b h=>h) (fun b h=>.inl h) (fun b h=>Nat.lt_of_lt_of_le (S.mlt b h) hgr.size) hnew'
       obtain ⟨A',k',c',rfl⟩:=hv'
       exact ⟨_,w',hrun,_,hk,_,_,_,S'.put0 (by intro t' ht;cases ht;exact hd) (.row e2)⟩
      ·exact h.elim
     ·rename_i r n
      split at h
      ·rename_i e' sz N get hl
       split at h
       ·rename_i hc2
        obtain ⟨rfl,rfl,hxr⟩:=hc2
        obtain ⟨hp,hk⟩:=conj_spec h
        obtain ⟨hp1,hp2⟩:=all_append hp
        obtain ⟨hm0,hle⟩:=all_one hp2
        obtain ⟨A,cap,news,rfl,c1,c2,c3,c4,c5,c6⟩:=slOf_cells S hsl hp1 hx
        have hmem:=lookupO_mem hl
        obtain ⟨hm,hgl,hO⟩:=S.own _ _ hmem
        cases hs with
        | @rpre _ _ N' cap' g' hrv' hn' =>
        rcases hO with ⟨_,hrv,_⟩ | ⟨g,capr,cur,hg,hrv,hh,hnc,hcm,hcs,hd'⟩
        ·rw [hrv] at hrv';cases hrv'
        have hrv0:=hrv'
        rw [hrv] at hrv'
        obtain ⟨rfl,rfl,rfl⟩:g'=g/\N'=N/\cap'=capr:=by injection hrv' with e1 e2 e3;injection e1 with e1;injection e1 with e1;exact ⟨e1.symm,e2.symm,e3.symm⟩
        cases A with
        | none=>exact absurd (c2 rfl) (by omega)
        | some ad =>
        obtain ⟨i,hi,hz,hs1,hb1,_⟩:=tyOf_spec hy
        have hfit:n * y.size+news.length <= cur.size:=by rw [c1,hcs,<- Nat.add_mul];exact Nat.mul_le_mul_right _ (by omega)
        have hrun:=run_append_room (P:=P) w t ty e' i hu hi g' n cap' cur hh ad m cap news (by rw [c1,hs1]) (c3 ad rfl hm0) c4 (by omega) (by rw [hs1];exact hfit)
        rw [hs1] at hrun
        obtain ⟨hsm,hss⟩:=same_setRow (w:=w) (g:=g') (cur.toList.take (n * y.size) ++ news ++ cur.toList.drop (n * y.size+news.length)).toArray
        have hl':Later M M w (w.setRow g' (cur.toList.take (n * y.size) ++ news ++ cur.toList.drop (n * y.size+news.length)).toArray) :=
         ⟨by omega,fun b hb=>hsm.block b (S.mlt b hb) (fun e=>(S.oat _ _ hmem g' hg).2.1 (e ▸ hb)),fun b hb=>hb⟩
        have hnew:OwnOk P M (w.setRow g' (cur.toList.take (n * y.size) ++ news ++ cur.toList.drop (n * y.size+news.length)).toArray) env r (.row e' y.size N' (fun i=>if n <= i/\i<n+m then get2 (i - n) else get i)):=by
         refine ⟨hm,fun j hj=>?_,.inr ⟨g',cap',_,hg,hrv0,setRow_heap w g' cur _ _ _ hh,hnc,hcm,by simp;omega,fun j hj k hk2=>?_⟩⟩
         ·by_cases hr:n <= j/\j<n+m
          ·show (if n <= j/\j<n+m then get2 (j - n) else get j).length=_
           rw [if_pos hr];exact c5 _ (by omega)
          ·show (if n <= j/\j<n+m then get2 (j - n) else get j).length=_
           rw [if_neg hr];exact hgl j hj
         ·have hlt:=idx_lt (sz:=y.size) (Nat.lt_of_lt_of_le hj hnc) hk2
          rw [getD_stored cur _ _ hfit _ (by omega)]
          show _/\DenP M _ (SV.at (if n <= j/\j<n+m then get2 (j - n) else get j) k) _
          by_cases hr:n <= j/\j<n+m
          ·have h5:n * y.size <= j * y.size:=Nat.mul_le_mul_right _ hr.1
           have h6:(j - n) * y.size+k<m * y.size:=idx_lt (by omega) hk2
           have h7:j * y.size+k - n * y.size=(j - n) * y.size+k:=by rw [Nat.sub_mul];omega
           rw [if_pos hr,if_pos (by rw [Nat.sub_mul] at h6;omega),h7]
           refine ⟨?_,(c6 _ (by omega) k hk2).later hl'⟩
           rw [List.getD_eq_getElem?_getD,List.getElem?_eq_getElem (by omega)]
           exact c4 _ (List.getElem_mem _)
          ·have hne : ¬ (n * y.size <= j * y.size + k /\ j * y.size + k < n * y.size + news.length) := by
            rw [c1,<- Nat.add_mul]
            intro hx
            rcases Nat.lt_or_ge j n with h5 | h5
            ·have:=idx_lt (sz:=y.size) h5 hk2;omega
            ·have:=Nat.mul_le_mul_right y.size (show n+m <= j by omega);omega
           rw [if_neg hr,if_neg hne]
           exact ⟨(hd' j hj k hk2).1,(hd' j hj k hk2).2.later hl'⟩
        exact ⟨_,_,hrun,_,hk,_,_,_,(S.write hG hmem hg hsm hss hnew).put0 (by intro t' ht;cases ht;exact hd) (.rpre hrv0 hle)⟩
       ·exact h.elim
      ·exact h.elim
     ·rename_i sz n get
      split at h
      ·rename_i hs2
       subst hs2
       obtain ⟨hp,hk⟩:=conj_spec h
       obtain ⟨hp1,hp2⟩:=all_append hp
       obtain ⟨hm0,hbytes⟩:=all_one hp2
       have hmax:=le_maxLen_of_bytes hb hbytes
       obtain ⟨A,cap,news,rfl,c1,c2,c3,c4,c5,c6⟩:=slOf_cells S hsl hp1 hx
       cases hs with
       | full hs hq =>
       obtain rfl:=hq.1 rfl
       obtain ⟨v',w',M',X',hrun,S',hden⟩:=full_ok hG S hu hy hsz hm0 hbytes hmax c1 c2 c3 c4 c5 c6 hs ty
       exact ⟨v',w',hrun,_,hk,_,_,_,S'.put0 (by intro t' ht;cases ht;exact hd) (.p hden)⟩
      ·exact h.elim
     ·exact h.elim
    ·exact h.elim
   ·exact h.elim
  ·exact h.elim
 ·exact h.elim
theorem run_append_zeros {t t' ty e:TypeId} {i:TypeInfo} {z:Value} {k' kk:IntKind} (ht:P.underlying t=some (.slice e)) (ht':P.underlying t'=some (.int k')) (hi:P.info? e=some i) (hz:i.zero=some z)
  {n:Int} (h0:0<n) (h63:n <= 9223372036854775807) (h48:n * (i.bytes:Int) <= 281474976710656) (hsz:0<i.size) :
  (Builtin.append_ #[t,t'] ty #[.slice none 0 0,.int kk n]).run P w =
   .ok (.slice (some ⟨w.heap.size,0,none⟩) n.toNat (grownCap w n.toNat 0 e)) (w.drew.alloc (.cells (Builtin.zeroCells z.cells n.toNat ++ Builtin.zeroCells z.cells (grownCap w n.toNat 0 e - n.toNat)) e)):=by
 have hw:IntKind.i64.wrap n=n:=by simp only [IntKind.wrap,IntKind.bits,IntKind.signed];simp;omega
 have h1:¬ n<0:=by omega
 have h2:¬ (281474976710656<n * (i.bytes:Int)):=by omega
 have h4:¬ (9223372036854775807<max n 0):=by omega
 have h6:¬ n <= 0:=by omega
 have h5:¬ (281474976710656<Builtin.nextslicecap n.toNat 0 * i.bytes):=by
  rw [nextslicecap_zero (by omega)]
  have:((n.toNat * i.bytes:Nat):Int)=n * (i.bytes:Int):=by rw [Int.natCast_mul,Int.toNat_of_nonneg (by omega)]
  omega
 simp [Builtin.append_,run_underlying ht,run_underlying ht',sizeOf,typeInfo,zeroValue,hi,hz,asInt,asIntOf,hw,h1,h2,h4,h5,h6,Question.forced,Builtin.firstCells,newRow,grownCap]
 intro h8
 exact absurd h8 (Nat.ne_of_gt (Nat.mul_pos (by omega) hsz))
theorem zeroCells_get {z:Array Value} {n k:Nat} (hz:0<z.size) (hk:k<n * z.size):(Builtin.zeroCells z n).getD k undef=z.getD (k % z.size) undef:=by
 have hm:k % z.size<z.size:=Nat.mod_lt _ hz
 simp only [Builtin.zeroCells,Array.getD_eq_getD_getElem?]
 simp [hk,getElem!_pos z (k % z.size) hm]
 rw [Array.getElem?_eq_getElem hm];rfl
theorem stepZeros_ok (hG:Stable G) (S:SatC P G st a w env M X) {t t':TypeId} {d:Nat} {s x:EV} {K:St->Prop} (h:stepZeros P st t t' d s x K) (hd:d<st.nt) {vs vx:Value} (hs:DenE P M w env s vs) (hx:DenE P M w env x vx) (ty:TypeId) :
  ∃ v' w',(Builtin.append_ #[t,t'] ty #[vs,vx]).run P w=.ok v' w' /\ ∃ st',K st'/\Sat P G st' (a.put (some d) v') w':=by
 unfold stepZeros at h
 split at h
 ·rename_i e k' kk n hu hu'
  split at h
  ·rename_i y hy
   split at h
   ·rename_i hc
    obtain ⟨⟨hb,hsz,hzs,hone⟩,hn⟩:=hc
    obtain ⟨hp,hk⟩:=conj_spec h
    obtain ⟨h0,h47⟩:=all_one hp
    obtain ⟨i,hi,hz,hsi,hby,_⟩:=tyOf_spec hy
    rcases hs with ⟨hs⟩
    cases hs
    rcases hx with ⟨hx⟩
    cases hx
    have hnb:n <= 140737488355328:=by
     have:n * 1 <= n * (y.bytes:Int):=Int.mul_le_mul_of_nonneg_left (by omega) (by omega)
     omega
    have hrun:=run_append_zeros (P:=P) (w:=w) (ty:=ty) (kk:=kk) hu hu' hi hz h0 (by omega) (by rw [hby];omega) (by rw [hsi];exact hsz)
    have hge:=grownCap_ge w n.toNat 0 e
    have hcm:grownCap w n.toNat 0 e <= maxLen:=grownCap_le_maxLen w n.toNat 0 e (by unfold maxLen;omega)
    generalize hcap:grownCap w n.toNat 0 e=cap at hrun hge hcm
    let cur:=Builtin.zeroCells y.zero.cells n.toNat ++ Builtin.zeroCells y.zero.cells (cap - n.toNat)
    let w':=w.drew.alloc (.cells cur e)
    let v':Value:=.slice (some ⟨w.heap.size,0,none⟩) n.toNat cap
    let env2:Env:={ env with at_:=fun j=>if j=d then v'.ownBlock else env.at_ j,rv:=fun j=>if j=d then v' else env.rv j }
    have e1:env2.at_ d=some w.heap.size:=by simp [env2,v',Value.ownBlock]
    have e2:env2.rv d=v':=by simp [env2]
    have hs':Same (fun _=>False) w w':=⟨rfl,rfl,rfl,Nat.le_succ _,by simp [w'],fun b hb _=>heap_alloc_old w.drew _ (by simpa using hb)⟩
    have hlat:Later M M w w':=⟨hs'.size,fun b hb=>hs'.block b (S.mlt b hb) id,fun b hb=>hb⟩
    have hnew:OwnOk P M w' env2 d (.row e y.size n.toNat (fun _=>y.zero.cells.toList.map svOf)):=by
     refine ⟨by unfold maxLen;omega,fun i hi=>by simpa using hzs,.inr ⟨w.heap.size,cap,cur,e1,e2,heap_alloc_new w.drew _,hge,hcm,?_,fun i hi j hj=>?_⟩⟩
     ·simp only [cur,Array.size_append,size_zeroCells,hzs,<- Nat.add_mul]
      congr 1
      have:=hge
      omega
     ·have hlt:=idx_lt (sz:=y.size) (len:=n.toNat) (i:=i) hi hj
      have hg:cur.getD (i * y.size+j) undef=y.zero.cells.getD j undef:=by
       have hl:i * y.size+j<(Builtin.zeroCells y.zero.cells n.toNat).size:=by rw [size_zeroCells,hzs];exact hlt
       have h1:cur.getD (i * y.size+j) undef=(Builtin.zeroCells y.zero.cells n.toNat).getD (i * y.size+j) undef:=by
        simp only [cur,Array.getD_eq_getD_getElem?]
        rw [Array.getElem?_append_left hl]
       have hmod:(i * y.size+j) % y.size=j:=by rw [Nat.mul_comm,Nat.mul_add_mod,Nat.mod_eq_of_lt hj]
       rw [h1,zeroCells_get (by omega) (by rw [hzs];exact hlt),hzs,hmod]
      rw [hg]
      have hj':j<y.zero.cells.size:=by omega
      have hd':=(denL_svOf (M:=M) (w:=w') y.zero.cells.toList).2 j (by simpa using hj')
      rw [Array.getD_eq_getD_getElem?,Array.getElem?_eq_getElem hj']
      rw [List.getD_eq_getElem?_getD,List.getElem?_eq_getElem (by simpa using hj')] at hd'
      simp only [Option.getD_some,Array.getElem_toList] at hd' ⊢
      exact ⟨by have:=Array.all_eq_true.1 hone j hj';simpa using this,hd'⟩
    obtain ⟨X',S'⟩:=(S.forget d).newOwn hG hd hn (fun s e h=>forget_T h) hs' (env':=env2) (fun j hj=>by simp [env2,hj]) rfl
     (fun g hg=>by
      rw [e1] at hg
      cases hg
      exact ⟨Nat.le_refl _,by simp [w']⟩)
     (M':=M) (fun b h=>h) (fun b h=>.inl h) (fun b h=>Nat.lt_of_lt_of_le (S.mlt b h) hs'.size) hnew
    exact ⟨v',w',hrun,_,hk,_,_,_,S'.put0 (by intro t' ht;cases ht;exact hd) (.row e2)⟩
   ·exact h.elim
  ·exact h.elim
 ·exact h.elim
end Go.SE
namespace Go.SE
open Go.RowKit
variable {P:Program} {M:Nat->Prop} {w:World} {G:Ctx} {st:St} {a:Act} {env:Env} {X:Nat->Prop}
theorem all_cons {p:Prop} {ps:List Prop} (h:all (p :: ps)):p/\all ps:=⟨h p (by simp),fun q hq=>h q (by simp [hq])⟩
theorem fitS_ok {s t:SV} (h:all (fitS s t)) {v:Value} (hd:DenP M w s v):DenP M w t v:=by
 unfold fitS at h
 split at h
 ·split at h
  ·rename_i hk;subst hk;have:=all_one h;subst this;exact hd
  ·exact (all_one h).elim
 ·have:=all_one h;subst this;exact hd
 ·split at h
  ·rename_i hk;subst hk
   obtain ⟨rfl,he⟩:=all_one h
   exact hd.congr_sl (fun i hi=>(he i hi).symm)
  ·exact (all_one h).elim
 ·unfold fitRaw at h
  split at h
  ·have:=all_one h;subst this;exact hd
  ·split at h
   ·have:=all_one h;subst this
    cases hd
    exact .sl _ _ _ _ _ (fun _ _=>undef) (Nat.le_refl _) (Nat.zero_le _) (fun h=>absurd h (Nat.lt_irrefl _)) (fun i hi=>absurd hi (Nat.not_lt_zero _)) (fun i hi=>absurd hi (Nat.not_lt_zero _)) (fun i hi=>absurd hi (Nat.not_lt_zero _))
   ·have:=all_one h;cases this
  ·have:=all_one h;rw [<- this];exact hd
 ·have:=all_one h;subst this;exact hd
theorem fitE_ok {e e':EV} (h:all (fitE e e')) {v:Value} (hd:DenE P M w env e v):DenE P M w env e' v:=by
 unfold fitE at h
 split at h
 ·rcases hd with ⟨hd⟩;exact .p (fitS_ok h hd)
 ·split at h
  ·rename_i hb;have:=all_one h;simp at hb;subst this hb;exact hd
  ·exact (all_one h).elim
 ·split at h
  ·rename_i hb;simp at hb;subst hb;exact hd
  ·exact (all_one h).elim
 ·split at h
  ·rename_i hb;simp at hb;subst hb;exact hd
  ·exact (all_one h).elim
 ·split at h
  ·rename_i hb
   simp only [Bool.and_eq_true,beq_iff_eq] at hb
   obtain ⟨rfl,rfl⟩:=hb
   obtain ⟨rfl,rfl⟩:=all_one h
   exact hd
  ·exact (all_one h).elim
 ·split at h
  ·rename_i hb;have:=all_one h;simp at hb;subst this hb;exact hd
  ·exact (all_one h).elim
 ·split at h
  ·rename_i hb;have:=all_one h;simp at hb;subst this hb;exact hd
  ·exact (all_one h).elim
 ·split at h
  ·rename_i hb
   simp only [Bool.and_eq_true,beq_iff_eq] at hb
   obtain ⟨rfl,rfl⟩:=hb
   obtain ⟨rfl,rfl⟩:=all_one h
   exact hd
  ·exact (all_one h).elim
 ·have:=all_one h;rw [<- this];exact hd
 ·have:=all_one h;subst this;exact hd
 ·have:=all_one h;subst this;exact hd
 ·rcases hd with ⟨hd⟩
  unfold fitPF at h
  split at h
  ·exact (all_one h).elim
  ·split at h
   ·split at h
    ·rename_i hk;subst hk
     obtain ⟨rfl,h0,he⟩:=all_one h
     have hd2:=hd.congr_sl (fun i hi=>(he i hi).symm)
     cases hd with
     | sl=>exact .full hd2 ⟨fun hf=>(by cases hf),fun _ hn=>absurd hn (Nat.ne_of_gt h0)⟩
    ·exact (all_one h).elim
   ·split at h
    ·have:=all_one h;subst this
     cases hd
     exact .full (.sl _ _ _ _ _ (fun _ _=>undef) (Nat.le_refl _) (Nat.zero_le _) (fun h=>absurd h (Nat.lt_irrefl _)) (fun i hi=>absurd hi (Nat.not_lt_zero _)) (fun i hi=>absurd hi (Nat.not_lt_zero _)) (fun i hi=>absurd hi (Nat.not_lt_zero _))) ⟨fun hf=>(by cases hf),fun _ _=>⟨rfl,rfl⟩⟩
    ·exact (all_one h).elim
   ·exact (all_one h).elim
 ·split at h
  ·rename_i hk
   obtain ⟨rfl,rfl⟩:=hk
   obtain ⟨rfl,he⟩:=all_one h
   cases hd with
   | full hd hq=>exact .full (hd.congr_sl (fun i hi=>(he i hi).symm)) hq
  ·exact (all_one h).elim
 ·cases hd with
  | full hd hq=>exact .p (fitS_ok h hd)
 ·exact .any
 ·exact (all_one h).elim
theorem fitL_ok:∀ {l m:List EV},all (fitL l m)->l.length=m.length /\ ∀ i,i<m.length->all (fitE (EV.at l i) (EV.at m i))
 | [],[],_=>⟨rfl,fun i hi=>by simp at hi⟩
 | a :: l,b :: m,h=>by
   simp only [fitL] at h
   obtain ⟨h1,h2⟩:=all_append h
   obtain ⟨h3,h4⟩:=fitL_ok h2
   refine ⟨by simp [h3],fun i hi=>?_⟩
   cases i with
   | zero=>exact h1
   | succ i=>exact h4 i (by simpa using hi)
 | [],_ :: _,h=>(all_one h).elim
 | _ :: _,[],h=>(all_one h).elim
theorem fitO1_ok {k:Nat} {o o':Own} (h:all (fitO1 o o')) (ho:OwnOk P M w env k o):OwnOk P M w env k o':=by
 unfold fitO1 at h
 split at h
 ·rename_i t cs t' cs'
  split at h
  ·rename_i ht;simp at ht;subst ht
   obtain ⟨h1,h2⟩:=fitL_ok h
   obtain ⟨g,vs,ha,hh,hz,hd⟩:=ho
   exact ⟨g,vs,ha,hh,hz.trans h1,fun i hi=>⟨(hd i (by omega)).1,fitE_ok (h2 i hi) (hd i (by omega)).2⟩⟩
  ·exact (all_one h).elim
 ·split at h
  ·rename_i ht;simp at ht;obtain ⟨rfl,rfl⟩:=ht
   obtain ⟨rfl,he⟩:=all_one h
   obtain ⟨hm,hgl,h1⟩:=ho
   refine ⟨hm,fun i hi=>by rw [<- he i hi];exact hgl i hi,?_⟩
   rcases h1 with h1 | ⟨g,cap,cur,ha,hr,hh,h3,h4,h5,h6⟩
   ·exact .inl h1
   ·exact .inr ⟨g,cap,cur,ha,hr,hh,h3,h4,h5,fun i hi j hj=>by rw [<- he i hi];exact h6 i hi j hj⟩
  ·exact (all_one h).elim
 ·split at h
  ·rename_i ht;simp at ht;subst ht
   obtain ⟨rfl,he⟩:=all_one h
   obtain ⟨g,es,clock,ha,hh,hz,hd⟩:=ho
   exact ⟨g,es,clock,ha,hh,hz,fun i hi=>by rw [<- he i hi];exact hd i hi⟩
  ·exact (all_one h).elim
 ·split at h
  ·rename_i ht;simp at ht;obtain ⟨rfl,rfl⟩:=ht
   have e1:=h _ (List.mem_cons_self ..)
   have e2:=h _ (List.mem_cons_of_mem _ (List.mem_cons_self ..))
   obtain ⟨g,es,clock,ha,hh,hz,hd⟩:=ho
   exact ⟨g,es,clock,ha,hh,fun key hk=>hz key (by rw [e1];exact hk),fun i hi=>by
    obtain ⟨key,q1,q2,q3⟩:=hd i hi
    exact ⟨key,q1,by rw [<- e1];exact q2,by rw [<- e2 key q2];exact q3⟩⟩
  ·exact (all_one h).elim
 ·split at h
  ·rename_i ht;simp at ht;subst ht
   have e0:=h _ (List.mem_cons_self ..)
   obtain ⟨h1,h2⟩:=fitL_ok (fun p hp=>h p (List.mem_cons_of_mem _ hp))
   subst e0
   refine ⟨fun e=>?_,ho.2⟩
   obtain ⟨g,vs,ha,hh,hz,hd⟩:=ho.1 e
   exact ⟨g,vs,ha,hh,hz.trans h1,fun i hi=>⟨(hd i (by omega)).1,fitE_ok (h2 i hi) (hd i (by omega)).2⟩⟩
  ·exact (all_one h).elim
 ·split at h
  ·rename_i ht;simp at ht;obtain ⟨rfl,rfl⟩:=ht
   have e0:=h _ (List.mem_cons_self ..)
   have e2:=h _ (List.mem_cons_of_mem _ (List.mem_cons_self ..))
   subst e0
   refine ⟨fun e=>?_,ho.2⟩
   obtain ⟨dom,g,es,clock,ha,hh,hz,hd⟩:=ho.1 e
   exact ⟨dom,g,es,clock,ha,hh,hz,fun i hi=>by
    obtain ⟨key,q1,q2,q3⟩:=hd i hi
    exact ⟨key,q1,q2,by rw [<- e2 key];exact q3⟩⟩
  ·exact (all_one h).elim
 ·split at h
  ·rename_i ht;simp at ht;obtain ⟨rfl,rfl⟩:=ht
   have hq:=all_one h
   obtain ⟨g,es,clock,ha,hh,hd⟩:=ho
   exact ⟨g,es,clock,ha,hh,fun i hi=>by
    obtain ⟨a,b,q1,q2,q3⟩:=hd i hi
    exact ⟨a,b,q1,hq a b q2,q3⟩⟩
  ·exact (all_one h).elim
 ·split at h
  ·rename_i ht;simp at ht;obtain ⟨rfl,rfl⟩:=ht
   have:=all_one h;subst this;exact ho
  ·exact (all_one h).elim
 ·exact (all_one h).elim
theorem fitO_ok (S:SatC P G st a w env M X):∀ {l:List (Nat × Own)},all (fitO st.own l) -> ∀ k o,(k,o) ∈ l->(∃ o',(k,o') ∈ st.own)/\OwnOk P M w env k o
 | [],_,k,o,hm=>by cases hm
 | (k0,o0) :: l,h,k,o,hm=>by
   simp only [fitO] at h
   obtain ⟨h1,h2⟩:=all_append h
   rcases List.mem_cons.1 hm with hm | hm
   ·cases hm
    split at h1
    ·rename_i o' hl
     exact ⟨⟨o',lookupO_mem hl⟩,fitO1_ok h1 (S.own _ _ (lookupO_mem hl))⟩
    ·exact (all_one h1).elim
   ·exact fitO_ok S h2 k o hm
theorem nodupB_ok:∀ {l:List Nat},nodupB l=true->l.Nodup
 | [],_=>List.nodup_nil
 | k :: ks,h=>by
   simp only [nodupB,Bool.and_eq_true] at h
   refine List.nodup_cons.2 ⟨by simpa using h.1,nodupB_ok h.2⟩
theorem callsIn_mono {f:Nat} {args:Array Value} {R R':Ending->World->Prop} (h:CallsIn Fence.wide 0 P f args w R) (k:∀ e w',R e w'->R' e w'):CallsIn Fence.wide 0 P f args w R' :=
 callsIn_wide.2 ((callsIn_wide.1 h).mono k)
def Env.via (env:Env) (f:Nat->Nat):Env:={ at_:=fun k=>env.at_ (f k),rv:=fun k=>env.rv (f k),yl:=env.yl }
theorem renL_len (f:Nat->Nat):∀ (l:List EV),(EV.ren.renL f l).length=l.length
 | []=>rfl
 | e :: l=>by simp [EV.ren.renL,renL_len f l]
theorem renL_at (f:Nat->Nat):∀ (l:List EV) (i:Nat),i<l.length->EV.at (EV.ren.renL f l) i=(EV.at l i).ren f
 | [],i,hi=>by simp at hi
 | e :: l,0,_=>rfl
 | e :: l,i+1,hi=>renL_at f l i (by simpa using hi)
theorem map_getD {f:Nat->Nat} {bs:List Nat} {j:Nat} (h:j<bs.length):(bs.map f).getD j 0=f (bs.getD j 0):=by
 simp [List.getD_eq_getElem?_getD,h]
theorem ren_den {f:Nat->Nat} {e:EV} {v:Value} (h:DenE P M w (env.via f) e v):DenE P M w env (e.ren f) v:=by
 induction h with
 | p h=>exact .p h
 | loc h=>exact .loc h
 | row h=>exact .row h
 | mapv h=>exact .mapv h
 | rsub A cap hc hm hA=>exact .rsub A cap hc hm hA
 | rptr h=>exact .rptr h
 | rpre h hn=>exact .rpre h hn
 | fptr hi h=>exact .fptr (by simpa using hi) (by rw [map_getD hi];exact h)
 | ag cs vs hl _ ih=>exact .ag _ vs (by rw [renL_len];exact hl) (fun i hi=>by rw [renL_len] at hi;rw [renL_at f cs i hi];exact ih i hi)
 | cl g cs vs hl _ ih=>exact .cl g _ vs (by rw [renL_len];exact hl) (fun i hi=>by rw [renL_len] at hi;rw [renL_at f cs i hi];exact ih i hi)
 | fn h=>exact .fn h
 | yield=>exact .yield
 | any=>exact .any
 | full h hq=>exact .full h hq
theorem evAt_size (l:List EV) (i:Nat) (hi:i<l.length):SizeOf.sizeOf (EV.at l i)<SizeOf.sizeOf l:=by
 have:EV.at l i ∈ l:=by rw [evAt_eq l i hi];exact List.getElem_mem hi
 exact List.sizeOf_lt_of_mem this
theorem den_ren {f:Nat->Nat}:∀ (e:EV) (v:Value),DenE P M w env (e.ren f) v->DenE P M w (env.via f) e v
 | .p s,v,h=>by cases h with | p h=>exact .p h
 | .loc b off,v,h=>by unfold EV.ren at h;cases h with | loc h=>exact .loc h
 | .row r,v,h=>by unfold EV.ren at h;cases h with | row h=>exact .row h
 | .mapv r,v,h=>by unfold EV.ren at h;cases h with | mapv h=>exact .mapv h
 | .rsub r sz lo n,v,h=>by unfold EV.ren at h;cases h with | rsub A cap hc hm hA=>exact .rsub A cap hc hm hA
 | .rptr r sz i off,v,h=>by unfold EV.ren at h;cases h with | rptr h=>exact .rptr h
 | .rpre r n,v,h=>by unfold EV.ren at h;cases h with | rpre h hn=>exact .rpre h hn
 | .fptr bs i,v,h=>by
   unfold EV.ren at h
   cases h with
   | fptr hi h =>
     have hi:2 * i<bs.length:=by simpa using hi
     rw [map_getD hi] at h
     exact .fptr hi h
 | .cl g cs,v,h=>by
   unfold EV.ren at h
   cases h with
   | cl _ _ vs hl hc =>
     rw [renL_len] at hl hc
     refine .cl g cs vs hl (fun i hi=>?_)
     have:=hc i hi
     rw [renL_at f cs i hi] at this
     exact den_ren (EV.at cs i) _ this
 | .ag cs,v,h=>by
   unfold EV.ren at h
   cases h with
   | ag _ vs hl hc =>
     rw [renL_len] at hl hc
     refine .ag cs vs hl (fun i hi=>?_)
     have:=hc i hi
     rw [renL_at f cs i hi] at this
     exact den_ren (EV.at cs i) _ this
 | .fn sp,v,h=>by cases h with | fn h=>exact .fn h
 | .yield l,v,h=>by cases h with | yield=>exact .yield
 | .any,v,h=>.any
 | .full q sz n get,v,h=>by cases h with | full h hq=>exact .full h hq
termination_by e=>SizeOf.sizeOf e
decreasing_by
 all_goals
  have:=evAt_size cs i hi
  simp only [EV.cl.sizeOf_spec,EV.ag.sizeOf_spec]
  omega
theorem renO_mem {f:Nat->Nat} {k:Nat} {o:Own}:∀ {l:List (Nat × Own)},(k,o) ∈ l->(f k,o.ren f) ∈ renO f l
 | [],h=>by cases h
 | (k',o') :: l,h=>by
   rcases List.mem_cons.1 h with h | h
   ·cases h;simp [renO]
   ·simp only [renO];exact List.mem_cons_of_mem _ (renO_mem h)
theorem mem_renO {f:Nat->Nat} {k:Nat} {o:Own}:∀ {l:List (Nat × Own)},(k,o) ∈ renO f l -> ∃ k' o',(k',o') ∈ l/\k=f k'/\o=o'.ren f
 | [],h=>by cases h
 | (k',o') :: l,h=>by
   simp only [renO] at h
   rcases List.mem_cons.1 h with h | h
   ·cases h;exact ⟨k',o',by simp,rfl,rfl⟩
   ·obtain ⟨k2,o2,h1,h2⟩:=mem_renO h
    exact ⟨k2,o2,List.mem_cons_of_mem _ h1,h2⟩
theorem keysO_renO (f:Nat->Nat):∀ (l:List (Nat × Own)),keysO (renO f l)=(keysO l).map f
 | []=>rfl
 | (k,o) :: l=>by
   have:=keysO_renO f l
   simp only [keysO] at this
   simp [renO,keysO,this]
theorem ren_blk {f:Nat->Nat} {k:Nat} {t:TypeId} {cs:List EV} (h:BlkOk P M w (env.via f) k t cs):BlkOk P M w env (f k) t (EV.ren.renL f cs):=by
 obtain ⟨g,vs,ha,hh,hz,hd⟩:=h
 exact ⟨g,vs,ha,hh,by rw [renL_len];exact hz,fun i hi=>by rw [renL_len] at hi;rw [renL_at f cs i hi];exact ⟨(hd i hi).1,ren_den (hd i hi).2⟩⟩
theorem blk_ren {f:Nat->Nat} {k:Nat} {t:TypeId} {cs:List EV} (h:BlkOk P M w env (f k) t (EV.ren.renL f cs)):BlkOk P M w (env.via f) k t cs:=by
 obtain ⟨g,vs,ha,hh,hz,hd⟩:=h
 rw [renL_len] at hz hd
 exact ⟨g,vs,ha,hh,hz,fun i hi=>by have:=hd i hi;rw [renL_at f cs i hi] at this;exact ⟨this.1,den_ren _ _ this.2⟩⟩
theorem ren_own {f:Nat->Nat} {k:Nat} {o:Own} (h:OwnOk P M w (env.via f) k o):OwnOk P M w env (f k) (o.ren f):=by
 cases o with
 | blk t cs=>exact ren_blk h
 | oblk b t cs=>exact ⟨fun e=>ren_blk (h.1 e),h.2⟩
 | prow e n bs =>
   obtain ⟨hm,hn,g,cap,cur,h1,h2,hh,h3,h4,h5,h6⟩:=h
   exact ⟨hm,by simpa using hn,g,cap,cur,h1,h2,hh,h3,h4,h5,fun i hi=>by rw [map_getD (by omega)];exact h6 i hi⟩
 | _=>exact h
theorem own_ren {f:Nat->Nat} {k:Nat} {o:Own} (h:OwnOk P M w env (f k) (o.ren f)):OwnOk P M w (env.via f) k o:=by
 cases o with
 | blk t cs=>exact blk_ren h
 | oblk b t cs=>exact ⟨fun e=>blk_ren (h.1 e),h.2⟩
 | prow e n bs =>
   obtain ⟨hm,hn,g,cap,cur,h1,h2,hh,h3,h4,h5,h6⟩:=h
   have hn:2 * n <= bs.length:=by simpa using hn
   exact ⟨hm,hn,g,cap,cur,h1,h2,hh,h3,h4,h5,fun i hi=>by have:=h6 i hi;rw [map_getD (by omega)] at this;exact this⟩
 | _=>exact h
theorem updAll_keys:∀ (l own:List (Nat × Own)),(updAll own l).map (·.1)=own.map (·.1)
 | [],own=>rfl
 | (k,o) :: l,own=>by simp only [updAll];rw [updAll_keys l,upd_keys]
theorem mem_updAll:∀ (l own:List (Nat × Own)) {k:Nat} {o:Own},(k,o) ∈ updAll own l->(∃ o',(k,o') ∈ own)/\((k,o) ∈ l\/((k,o) ∈ own/\k ∉ keysO l))
 | [],own,k,o,h=>⟨⟨o,h⟩,.inr ⟨h,by simp [keysO]⟩⟩
 | (k',o') :: l,own,k,o,h=>by
   simp only [updAll] at h
   obtain ⟨⟨o1,h1⟩,h2⟩:=mem_updAll l _ h
   have hex:∃ o',(k,o') ∈ own:=by
    rcases mem_upd h1 with ⟨rfl,_,h3⟩ | ⟨_,h3⟩
    ·exact h3
    ·exact ⟨_,h3⟩
   refine ⟨hex,?_⟩
   rcases h2 with h2 | ⟨h2,h3⟩
   ·exact .inl (List.mem_cons_of_mem _ h2)
   ·rcases mem_upd h2 with ⟨rfl,rfl,_⟩ | ⟨hne,h4⟩
    ·exact .inl (by simp)
    ·refine .inr ⟨h4,?_⟩
     simp only [keysO,List.map_cons,List.mem_cons,not_or]
     exact ⟨hne,h3⟩
theorem rhoL_ok {ρ:Operand->Option EV} (hρ:∀ x e,ρ x=some e->DenE P M w env e (a.eval x)):∀ {xs:List Operand} {l:List EV},rhoL ρ xs=some l->(xs.map a.eval).length=l.length /\ ∀ i,i<l.length->DenE P M w env (EV.at l i) ((xs.map a.eval).getD i undef)
 | [],l,h=>by
   simp only [rhoL,Option.some.injEq] at h
   subst h;exact ⟨rfl,fun i hi=>by simp at hi⟩
 | x :: xs,l,h=>by
   simp only [rhoL] at h
   split at h
   ·rename_i e l' he hl
    cases h
    obtain ⟨h1,h2⟩:=rhoL_ok hρ hl
    refine ⟨by simpa using h1,fun i hi=>?_⟩
    cases i with
    | zero=>exact hρ x e he
    | succ i=>exact h2 i (by simpa using hi)
   ·cases h
theorem den_append {as bs:List EV} {us vs:List Value} (h1:us.length=as.length) (h2:∀ i,i<as.length->DenE P M w env (EV.at as i) (us.getD i undef)) (k1:vs.length=bs.length) (k2:∀ i,i<bs.length->DenE P M w env (EV.at bs i) (vs.getD i undef)) :
  (us ++ vs).length=(as ++ bs).length /\ ∀ i,i<(as ++ bs).length->DenE P M w env (EV.at (as ++ bs) i) ((us ++ vs).getD i undef):=by
 refine ⟨by simp [h1,k1],fun i hi=>?_⟩
 simp only [EV.at,List.getD_eq_getElem?_getD]
 by_cases hlt:i<as.length
 ·rw [List.getElem?_append_left hlt,List.getElem?_append_left (by omega)]
  have:=h2 i hlt
  simpa [EV.at,List.getD_eq_getElem?_getD] using this
 ·rw [List.getElem?_append_right (by omega),List.getElem?_append_right (by omega)]
  have:=k2 (i - as.length) (by simp at hi;omega)
  rw [h1]
  simpa [EV.at,List.getD_eq_getElem?_getD] using this
theorem SatC.lentX (hG:Stable G) (S:SatC P G st a w env M X) {L L':List (Nat × Own)} {w':World} {M':Nat->Prop} (hL:∀ k o,(k,o) ∈ L -> ∃ o',(k,o') ∈ st.own) (hk:keysO L'=keysO L)
  (hs:Same (lentB env L) w w') (hM:∀ b,M b->M' b) (hM':∀ b,M' b->M b\/w.heap.size <= b) (hMl:∀ b,M' b->b<w'.heap.size) (ho:∀ k o,(k,o) ∈ L'->OwnOk P M' w' env k o) :
  SatC P G { st with own:=updAll st.own L' } a w' env M' (fun b=>X b\/(w.heap.size <= b/\b<w'.heap.size)):=by
 have hlX:∀ b,lentB env L b->X b/\¬ M b:=fun b ⟨k,o,h1,h2⟩=>by
  obtain ⟨o',h3⟩:=hL k o h1
  obtain ⟨q1,q2,_⟩:=S.oat k o' h3 b h2
  exact ⟨q1,q2⟩
 have hl:Later M M' w w':=⟨hs.size,fun b hb=>hs.block b (S.mlt b hb) (fun e=>(hlX b e).2 hb),hM⟩
 refine ⟨⟨hG _ _ _ _ _ S.gam.1 ⟨hs.os,hs.tape,hs.output,hs.drawn,hs.size,fun b hb hx=>hs.block b hb (fun e=>hx (hlX b e).1)⟩ (fun b h=>.inl h) (fun b h=>by rcases h with h | h;exact .inl h;exact .inr h.1),S.gam.2⟩,
  fun b hb=>?_,?_,?_,?_,by rw [updAll_keys];exact S.nod,hMl,?_,S.siz,?_,S.grd,?_,S.dno⟩
 ·rcases hM' b hb with h | h
  ·exact (S.mx b h).imp id .inl
  ·exact .inr (.inr ⟨h,hMl b hb⟩)
 ·intro k o h
  obtain ⟨_,h⟩:=mem_updAll _ _ h
  rcases h with h | ⟨h,hn⟩
  ·exact ho k o h
  ·have h1:=S.own _ _ h
   have h2:=S.oat _ _ h
   have hng:∀ g',env.at_ k=some g'->¬ lentB env L g':=fun g' hg' ⟨k2,o2,q1,q2⟩=>by
    obtain ⟨o3,q3⟩:=hL k2 o2 q1
    have hne:k ≠ k2:=fun e=>hn (by rw [hk,e];exact List.mem_map.2 ⟨(k2,o2),q1,rfl⟩)
    exact S.inj k o k2 o3 h q3 hne g' hg' q2
   exact h1.move hl rfl rfl (fun g' ha=>hs.block g' (h2 g' ha).2.2 (hng g' ha)) (fun _ _=>⟨rfl,rfl⟩)
 ·intro k o h g hg
  obtain ⟨⟨o',h'⟩,_⟩:=mem_updAll _ _ h
  obtain ⟨q1,q2,q3⟩:=S.oat k o' h' g hg
  refine ⟨.inl q1,fun hm=>?_,Nat.lt_of_lt_of_le q3 hs.size⟩
  rcases hM' g hm with h4 | h4
  ·exact q2 h4
  ·omega
 ·intro k o k' o' h h'
  obtain ⟨⟨_,e1⟩,_⟩:=mem_updAll _ _ h
  obtain ⟨⟨_,e2⟩,_⟩:=mem_updAll _ _ h'
  exact S.inj _ _ _ _ e1 e2
 ·intro b hb
  rcases hb with h | h
  ·exact Nat.lt_of_lt_of_le (S.xlt b h) hs.size
  ·exact h.2
 ·intro s e h
  obtain ⟨h1,h2,h3⟩:=S.tmp s e h
  exact ⟨h1,fun ho'=>(h2 ho').later hl,h3⟩
 ·intro d hd
  obtain ⟨D,e,h1,h2,h3,h4⟩:=S.dfr d hd
  have hD:=S.xlt D h2
  refine ⟨D,e,(hs.block D hD (fun ⟨k,o,q1,q2⟩=>?_)).trans h1,.inl h2,fun hm=>?_,fun k o h=>?_⟩
  ·obtain ⟨o',q3⟩:=hL k o q1
   exact h4 k o' q3 q2
  ·rcases hM' D hm with h5 | h5
   ·exact h3 h5
   ·omega
  ·obtain ⟨⟨_,e1⟩,_⟩:=mem_updAll _ _ h
   exact h4 _ _ e1
theorem SatC.lent (hG:Stable G) (S:SatC P G st a w env M X) {L L':List (Nat × Own)} {w':World} {M':Nat->Prop} (hL:∀ k o,(k,o) ∈ L -> ∃ o',(k,o') ∈ st.own) (hk:keysO L'=keysO L)
 (hs:Same (lentB env L) w w') (hM:∀ b,M b->M' b) (hM':∀ b,M' b->M b\/w.heap.size <= b) (hMl:∀ b,M' b->b<w'.heap.size) (ho:∀ k o,(k,o) ∈ L'->OwnOk P M' w' env k o) :
 ∃ X',SatC P G { st with own:=updAll st.own L' } a w' env M' X':=⟨_,S.lentX hG hL hk hs hM hM' hMl ho⟩
theorem ren_inj {f:Nat->Nat} {L:List (Nat × Own)} (hnd:(keysO (renO f L)).Nodup):∀ k o k' o',(k,o) ∈ L->(k',o') ∈ L->k ≠ k'->f k ≠ f k':=fun k o k' o' h h' hne e=>by
 rw [keysO_renO] at hnd
 have:=(List.pairwise_map.1 hnd)
 have hm1:k ∈ keysO L:=List.mem_map.2 ⟨_,h,rfl⟩
 have hm2:k' ∈ keysO L:=List.mem_map.2 ⟨_,h',rfl⟩
 have hp:=List.pairwise_iff_getElem.1 this
 obtain ⟨i,hi,rfl⟩:=List.getElem_of_mem hm1
 obtain ⟨j,hj,rfl⟩:=List.getElem_of_mem hm2
 rcases Nat.lt_trichotomy i j with hlt | heq | hgt
 ·exact hp i j hi hj hlt e
 ·subst heq;exact hne rfl
 ·exact hp j i hj hi hgt e.symm
theorem callTr_ok (hG:Stable G) (S:SatC P G st a w env M X) {C:Cfg} {dst:Option Nat} (hd:∀ t,dst=some t->t<st.nt) {as:List EV} {vals:List Value} (hv1:vals.length=as.length) (hv2:∀ i,i<as.length->DenE P M w env (EV.at as i) (vals.getD i undef))
  {g:Nat} {tr:Tr} (hT:TrOk P g tr) {K:St->Prop} (h:callTr C st dst as tr K) {N:Act->World->Prop} (hN:∀ st' a' w',K st'->Sat P G st' a' w'->N a' w') :
  CallsIn Fence.wide 0 P g vals.toArray w (fun e w'=>∃ v,e=.returned v/\N (a.put dst v) w'):=by
 obtain ⟨t,h⟩:=h
 split at h
 rotate_left
 ·exact h.elim
 rename_i hnd
 obtain ⟨h1,hpre,hpost⟩:=conj_spec h
 obtain ⟨hA,hO⟩:=all_append h1
 obtain ⟨hk,hT⟩:=hT
 obtain ⟨l1,l2⟩:=fitL_ok hA
 rw [renL_len] at l1 l2
 have hO':=fitO_ok S hO
 have hnd:=nodupB_ok hnd
 have inj:=ren_inj hnd
 refine callsIn_mono (hT t hpre M w (env.via C.ren) vals S.mlt (fun k o h=>own_ren (hO' _ _ (renO_mem h)).2) (fun k o h g hg=>?_) (fun k o k' o' h h' hne g hg=>?_) (by omega) (fun i hi=>?_)) ?_
 ·obtain ⟨⟨o',h'⟩,_⟩:=hO' _ _ (renO_mem (f:=C.ren) h)
  obtain ⟨_,q2,q3⟩:=S.oat _ _ h' g hg
  exact ⟨q2,q3⟩
 ·obtain ⟨⟨o1,h1⟩,_⟩:=hO' _ _ (renO_mem (f:=C.ren) h)
  obtain ⟨⟨o2,h2⟩,_⟩:=hO' _ _ (renO_mem (f:=C.ren) h')
  exact S.inj _ _ _ _ h1 h2 (inj k o k' o' h h' hne) g hg
 ·have:=l2 i hi
  rw [renL_at _ _ _ hi] at this
  exact den_ren _ _ (fitE_ok this (hv2 i (by omega)))
 ·rintro e w' ⟨u,v,M',hp,rfl,hs,hM,hM',hMl,ho,hr⟩
  refine ⟨v,rfl,hN _ _ _ (hpost u hp) ?_⟩
  have hl:∀ b,lentB (env.via C.ren) (tr.own t) b->lentB env (renO C.ren (tr.own t)) b:=fun b ⟨k,o,h,hg⟩=>⟨_,_,renO_mem h,hg⟩
  obtain ⟨X',S'⟩:=S.lent hG (L:=renO C.ren (tr.own t)) (L':=renO C.ren (tr.own' t u)) (fun k o h=>(hO' k o h).1) (by rw [keysO_renO,keysO_renO,hk]) ⟨hs.os,hs.tape,hs.output,hs.drawn,hs.size,fun b hb hn=>hs.block b hb (fun e=>hn (hl b e))⟩ hM hM' hMl (fun k o h=>by
   obtain ⟨k',o',h',rfl,rfl⟩:=mem_renO h
   exact ren_own (ho k' o' h'))
  exact ⟨env,M',X',S'.put0 hd (ren_den hr)⟩
theorem SatC.lentV (hG:Stable G) (S:SatC P G st a w env M X) {L L':List (Nat × Own)} {w':World} {M':Nat->Prop} {env1:Env} {mvs:Nat->Prop} (hL:∀ k o,(k,o) ∈ L -> ∃ o',(k,o') ∈ st.own) (hk:keysO L'=keysO L)
  (hs:Same (lentB env L) w w') (hM:∀ b,M b->M' b) (hM':∀ b,M' b->M b\/(w.heap.size <= b /\ ∀ j,mvs j->env1.at_ j ≠ some b) \/ ∃ j,mvs j/\env.at_ j=some b/\env1.at_ j ≠ some b) (hMl:∀ b,M' b->b<w'.heap.size)
  (he:∀ j,¬ mvs j->env1.at_ j=env.at_ j/\env1.rv j=env.rv j) (hy:env1.yl=env.yl) (hone:∀ i j,mvs i->mvs j->i=j) (hmk:∀ j,mvs j->j<st.nt /\ ∃ o,(j,o) ∈ L)
  (hmg:∀ j,mvs j -> ∀ g,env1.at_ j=some g->env.at_ j=some g\/(w.heap.size <= g/\g<w'.heap.size)) (hT:∀ j,mvs j -> ∀ s e,(s,e) ∈ st.T->e.v.names j=false) (hO:∀ j,mvs j -> ∀ k o,(k,o) ∈ st.own->k ∉ keysO L->o.names j=false)
  (ho:∀ k o,(k,o) ∈ L'->OwnOk P M' w' env1 k o) :
  SatC P G { st with own:=updAll st.own L' } a w' env1 M' (fun b=>X b\/(w.heap.size <= b/\b<w'.heap.size)):=by
 have hlX:∀ b,lentB env L b->X b/\¬ M b:=fun b ⟨k,o,h1,h2⟩=>by
  obtain ⟨o',h3⟩:=hL k o h1
  obtain ⟨q1,q2,_⟩:=S.oat k o' h3 b h2
  exact ⟨q1,q2⟩
 have hl:Later M M' w w':=⟨hs.size,fun b hb=>hs.block b (S.mlt b hb) (fun e=>(hlX b e).2 hb),hM⟩
 have hmo:∀ j,mvs j -> ∃ o,(j,o) ∈ st.own:=fun j h=>by
  obtain ⟨_,o,h1⟩:=hmk j h
  exact hL j o h1
 refine ⟨⟨hG _ _ _ _ _ S.gam.1 ⟨hs.os,hs.tape,hs.output,hs.drawn,hs.size,fun b hb hx=>hs.block b hb (fun e=>hx (hlX b e).1)⟩ (fun b h=>.inl h) (fun b h=>by rcases h with h | h;exact .inl h;exact .inr h.1),fun j hj=>?_⟩,
  fun b hb=>?_,?_,?_,?_,by rw [updAll_keys];exact S.nod,hMl,?_,S.siz,?_,S.grd,?_,S.dno⟩
 ·obtain ⟨h1,h2,h3⟩:=S.gam.2 j hj
  obtain ⟨e1,e2⟩:=he j (fun hm=>by have:=(hmk j hm).1;omega)
  exact ⟨h1,e1.trans h2,e2.trans h3⟩
 ·rcases hM' b hb with h | h | ⟨j,h1,h2,_⟩
  ·exact (S.mx b h).imp id .inl
  ·exact .inr (.inr ⟨h.1,hMl b hb⟩)
  ·obtain ⟨o,h3⟩:=hmo j h1
   exact .inr (.inl (S.oat j o h3 b h2).1)
 ·intro k o h
  obtain ⟨_,h⟩:=mem_updAll _ _ h
  rcases h with h | ⟨h,hn⟩
  ·exact ho k o h
  ·have h1:=S.own _ _ h
   have h2:=S.oat _ _ h
   have hng:∀ g',env.at_ k=some g'->¬ lentB env L g':=fun g' hg' ⟨k2,o2,q1,q2⟩=>by
    obtain ⟨o3,q3⟩:=hL k2 o2 q1
    have hne:k ≠ k2:=fun e=>hn (by rw [hk,e];exact List.mem_map.2 ⟨(k2,o2),q1,rfl⟩)
    exact S.inj k o k2 o3 h q3 hne g' hg' q2
   have hnk:¬ mvs k:=fun hm=>by
    obtain ⟨_,o2,h3⟩:=hmk k hm
    exact hn (by rw [hk];exact List.mem_map.2 ⟨(k,o2),h3,rfl⟩)
   exact h1.move hl (he k hnk).1 (he k hnk).2 (fun g' ha=>hs.block g' (h2 g' ha).2.2 (hng g' ha)) (fun j hj=>he j (fun hm=>by
    have:=hO j hm k o h (by rw [<- hk];exact hn)
    rw [this] at hj;cases hj))
 ·intro k o h g hg
  obtain ⟨⟨o',h'⟩,_⟩:=mem_updAll _ _ h
  by_cases hm:mvs k
  ·rcases hmg k hm g hg with h4 | h4
   ·obtain ⟨q1,q2,q3⟩:=S.oat k o' h' g h4
    refine ⟨.inl q1,fun hm'=>?_,Nat.lt_of_lt_of_le q3 hs.size⟩
    rcases hM' g hm' with h5 | h5 | ⟨j,h5,h6,h7⟩
    ·exact q2 h5
    ·omega
    ·obtain rfl:=hone j k h5 hm
     exact h7 hg
   ·refine ⟨.inr h4,fun hm'=>?_,h4.2⟩
    rcases hM' g hm' with h5 | h5 | ⟨j,h5,h6,h7⟩
    ·have:=S.mlt g h5;omega
    ·exact h5.2 k hm hg
    ·obtain rfl:=hone j k h5 hm
     exact h7 hg
  ·rw [(he k hm).1] at hg
   obtain ⟨q1,q2,q3⟩:=S.oat k o' h' g hg
   refine ⟨.inl q1,fun hm'=>?_,Nat.lt_of_lt_of_le q3 hs.size⟩
   rcases hM' g hm' with h5 | h5 | ⟨j,h5,h6,h7⟩
   ·exact q2 h5
   ·omega
   ·obtain ⟨o2,h8⟩:=hmo j h5
    exact S.inj k o' j o2 h' h8 (fun e=>hm (e ▸ h5)) g hg h6
 ·intro k o k' o' h h' hne g hg
  obtain ⟨⟨o1,e1⟩,_⟩:=mem_updAll _ _ h
  obtain ⟨⟨o2,e2⟩,_⟩:=mem_updAll _ _ h'
  by_cases hm:mvs k
  ·have hm':¬ mvs k':=fun h=>hne (hone k k' hm h)
   rw [(he k' hm').1]
   rcases hmg k hm g hg with h4 | h4
   ·exact S.inj k o1 k' o2 e1 e2 hne g h4
   ·intro h5
    have:=(S.oat k' o2 e2 g h5).2.2
    omega
  ·rw [(he k hm).1] at hg
   by_cases hm':mvs k'
   ·intro h5
    rcases hmg k' hm' g h5 with h4 | h4
    ·exact S.inj k o1 k' o2 e1 e2 hne g hg h4
    ·have:=(S.oat k o1 e1 g hg).2.2
     omega
   ·rw [(he k' hm').1]
    exact S.inj k o1 k' o2 e1 e2 hne g hg
 ·intro b hb
  rcases hb with h | h
  ·exact Nat.lt_of_lt_of_le (S.xlt b h) hs.size
  ·exact h.2
 ·intro s e h
  obtain ⟨h1,h2,h3⟩:=S.tmp s e h
  exact ⟨h1,fun ho'=>(h2 ho').mono hl (fun j hj=>he j (fun hm=>by rw [hT j hm s e h] at hj;cases hj)) hy,h3⟩
 ·intro d hd
  obtain ⟨D,e,h1,h2,h3,h4⟩:=S.dfr d hd
  have hD:=S.xlt D h2
  refine ⟨D,e,(hs.block D hD (fun ⟨k,o,q1,q2⟩=>?_)).trans h1,.inl h2,fun hm=>?_,fun k o h hc=>?_⟩
  ·obtain ⟨o',q3⟩:=hL k o q1
   exact h4 k o' q3 q2
  ·rcases hM' D hm with h5 | h5 | ⟨j,h5,h6,_⟩
   ·exact h3 h5
   ·omega
   ·obtain ⟨o,h7⟩:=hmo j h5
    exact h4 j o h7 h6
  ·obtain ⟨⟨o',h'⟩,_⟩:=mem_updAll _ _ h
   by_cases hm:mvs k
   ·rcases hmg k hm D hc with h5 | h5
    ·exact h4 k o' h' h5
    ·omega
   ·rw [(he k hm).1] at hc
    exact h4 k o' h' hc
end Go.SE
namespace Go.SE
open Go.RowKit
variable {P:Program} {M:Nat->Prop} {w:World} {G:Ctx} {st:St} {a:Act} {env:Env} {X:Nat->Prop}
theorem run_checkKey_int {t:TypeId} {v:Value} (h:(∃ k,P.underlying t=some (.int k))\/P.underlying t=some .bool) (hv:(∃ k n,v=.int k n) \/ ∃ b,v=.bool b) (em:Bool) (n:Nat) (w:World):(Instr.checkKey em (n+1) t v).run P w=.ok () w:=by
 unfold Instr.checkKey
 rcases h with ⟨k,h⟩ | h <;> rcases hv with ⟨k',m,rfl⟩ | ⟨b,rfl⟩ <;> simp [run_underlying h]
theorem intCells_at:∀ {cs:List SV},intCells cs=true -> ∀ i,i<cs.length->(∃ k n,SV.at cs i=.int k n) \/ ∃ b,SV.at cs i=.bool b
 | .int k n :: l,h,0,_=>.inl ⟨k,n,rfl⟩
 | .bool b :: l,h,0,_=>.inr ⟨b,rfl⟩
 | .int k n :: l,h,i+1,hi=>intCells_at (cs:=l) (by simpa [intCells] using h) i (by simpa using hi)
 | .bool b :: l,h,i+1,hi=>intCells_at (cs:=l) (by simpa [intCells] using h) i (by simpa using hi)
 | [],_,i,hi=>by simp at hi
 | .agg _ :: _,h,_,_ | .tup _ :: _,h,_,_ | .sl .. :: _,h,_,_ | .ref .. :: _,h,_,_ | .clo .. :: _,h,_,_ | .raw _ :: _,h,_,_=>by simp [intCells] at h
theorem run_checkKey_agg {kt:TypeId} {fs:Array Field} (hk:P.underlying kt=some (.struct fs)) {cs:List SV} {vs:List Value} (hi:intCells cs=true) (hok:keyOk P cs fs.toList=true) (hl:vs.length=cs.length) (hd:∀ i,i<cs.length->DenP M w (SV.at cs i) (vs.getD i undef)) (em:Bool) (n:Nat) :
   (Instr.checkKey em (n+2) kt (.agg vs.toArray)).run P w=.ok () w:=by
 unfold Instr.checkKey
 simp only [Sem.run_bind,run_underlying hk,Result.andThen_ok]
 rw [<- Array.forIn_toList]
 generalize fs.toList=l at hok
 induction l with
 | nil=>simp
 | cons f l ih =>
   simp only [keyOk,Bool.and_eq_true] at hok
   obtain ⟨h1,h2⟩:=hok
   have key:∃ v,(part f.type vs.toArray f.offset).run P w=.ok v w/\(Instr.checkKey em (n+1) f.type v).run P w=.ok () w:=by
     have fin:∀ y,tyOf P f.type=some y->aggD y.desc=false->(spart y cs f.offset).isSome=true->((∃ k,P.underlying f.type=some (.int k))\/P.underlying f.type=some .bool) -> ∃ v,(part f.type vs.toArray f.offset).run P w=.ok v w/\(Instr.checkKey em (n+1) f.type v).run P w=.ok () w:=by
       intro y hy hag hs hu
       obtain ⟨s,hs⟩:=Option.isSome_iff_exists.1 hs
       obtain ⟨v,r,d⟩:=part_ok (M:=M) (w:=w) hy hl hs hd
       refine ⟨v,r w,run_checkKey_int hu ?_ em n w⟩
       unfold spart at hs
       rw [hag] at hs
       simp only [Bool.false_eq_true,if_false] at hs
       have hlt:f.offset<cs.length:=(List.getElem?_eq_some_iff.1 hs).1
       have hat:SV.at cs f.offset=s:=by simp [SV.at,List.getD_eq_getElem?_getD,hs]
       rcases intCells_at hi f.offset hlt with ⟨k,m,e⟩ | ⟨b,e⟩
       · rw [hat] at e;subst e;cases d;exact .inl ⟨_,_,rfl⟩
       · rw [hat] at e;subst e;cases d;exact .inr ⟨_,rfl⟩
     split at h1
     · rename_i y k hy hu
       refine fin y hy ?_ h1 (.inl ⟨k,hu⟩)
       obtain ⟨_,_,_,_,_,e⟩:=tyOf_spec hy
       rw [hu] at e;injection e with e;rw [<- e];rfl
     · rename_i y hy hu
       refine fin y hy ?_ h1 (.inr hu)
       obtain ⟨_,_,_,_,_,e⟩:=tyOf_spec hy
       rw [hu] at e;injection e with e;rw [<- e];rfl
     · cases h1
   obtain ⟨v,r1,r2⟩:=key
   simp only [List.forIn_cons,Sem.run_bind]
   by_cases hn:f.name = "_"
   · simpa [hn] using ih h2
   · simpa [hn,r1,r2] using ih h2
theorem noMem_same {M':Nat->Prop} {w':World}:∀ {s:SV} {u v:Value},(∃ k n,s=.int k n)\/(∃ b,s=.bool b)->DenP M w s u->DenP M' w' s v->u=v /\ ∀ n,Instr.sameBits n u v=true
 | _,u,v,.inl ⟨k,n,rfl⟩,h1,h2=>by cases h1;cases h2;exact ⟨rfl,fun n=>by cases n <;> simp [Instr.sameBits]⟩
 | _,u,v,.inr ⟨b,rfl⟩,h1,h2=>by cases h1;cases h2;exact ⟨rfl,fun n=>by cases n <;> simp [Instr.sameBits]⟩
theorem agg_same {M':Nat->Prop} {w':World} {cs:List SV} (hi:intCells cs=true) {u v:Value} (h1:DenP M w (.agg cs) u) (h2:DenP M' w' (.agg cs) v):u=v /\ ∀ n,Instr.sameBits (n+1) u v=true:=by
 cases h1 with
 | agg _ us hl1 hd1 =>
 cases h2 with
 | agg _ vs hl2 hd2 =>
 have key:∀ i,i<cs.length->us.getD i undef=vs.getD i undef /\ ∀ n,Instr.sameBits n (us.getD i undef) (vs.getD i undef)=true:=fun i hlt=>noMem_same (intCells_at hi i hlt) (hd1 i hlt) (hd2 i hlt)
 have he:us=vs:=by
  apply List.ext_getElem (by omega)
  intro i h1 h2
  have:=(key i (by omega)).1
  simpa [List.getD_eq_getElem?_getD,h1,h2] using this
 subst he
 refine ⟨rfl,fun n=>?_⟩
 simp only [Instr.sameBits,beq_self_eq_true,Bool.true_and,List.all_eq_true]
 rintro ⟨x,y⟩ hm
 obtain ⟨i,hi',he⟩:=List.getElem_of_mem hm
 simp only [List.getElem_zip,Prod.mk.injEq] at he
 obtain ⟨rfl,rfl⟩:=he
 have hlt:i<us.length:=by simpa using hi'
 have:=(key i (by omega)).2 n
 simpa [List.getD_eq_getElem?_getD,hlt] using this
theorem cellsEq_eq:∀ {cs ds:List SV},cellsEq cs ds=true->intCells cs=true->cs=ds
 | [],[],_,_=>rfl
 | s :: l,t :: m,h,hi=>by
   have h12:cellEq s t=true/\cellsEq l m=true:=by
    unfold cellsEq at h
    split at h
    ·exact ⟨h,rfl⟩
    ·simpa using h
   have hl:intCells l=true:=by
    cases s <;> simp_all [intCells]
   have:=cellsEq_eq h12.2 hl
   subst this
   have h1:=h12.1
   unfold cellEq at h1
   split at h1
   ·split at h1
    ·rename_i hk;subst hk;simp at h1;subst h1;rfl
    ·cases h1
   ·simp at h1;subst h1;rfl
   ·cases h1
 | [],_ :: _,h,_=>by simp [cellsEq] at h
 | _ :: _,[],h,_=>by simp [cellsEq] at h
theorem find_ok {kt:TypeId} {cs:List SV} {key:Value} (hk:DenP M w (.agg cs) key) (get:Nat->List SV) :
  ∀ (es:List MapEntry) (o:Nat),(∀ i,i<es.length->symIs P kt cs (get (o+i))/\DenP (fun _=>False) w (.agg (get (o+i))) (es.getD i default).key) ->
    (∃ j,o <= j/\j<o+es.length/\cellsEq cs (get j)=true /\ ∃ v,(Instr.findAsking kt key es o).run P w=.ok (some (j,v)) w)\/((∀ j,o <= j->j<o+es.length->cellsEq cs (get j)=false)/\(Instr.findAsking kt key es o).run P w=.ok none w)
 | [],o,_=>.inr ⟨fun j h1 h2=>by simp at h2;omega,rfl⟩
 | e :: es,o,h=>by
   obtain ⟨h1,h2⟩:=h 0 (by simp)
   simp only [Nat.add_zero,List.getD_cons_zero] at h1 h2
   unfold symIs at h1
   split at h1
   rotate_left
   ·exact h1.elim
   rename_i b hb
   have hrun:(Op.equal kt key e.key).run P w=.ok b w:=by
    unfold Op.equal
    exact symEq_ok (P:=P) (M:=M) 3 kt _ _ b hb _ _ hk h2.still _ w (by decide)
   unfold Instr.findAsking
   simp only [Sem.run_bind,hrun,Result.andThen_ok]
   cases b with
   | true=>exact .inl ⟨o,Nat.le_refl _,by simp,h1.symm,e.val,by simp⟩
   | false =>
     have ih:=find_ok hk get es (o+1) (fun i hi=>by
      have:=h (i+1) (by simpa using hi)
      rw [show o+1+i=o+(i+1) by omega]
      simpa using this)
     simp only [Bool.false_eq_true,if_false]
     rcases ih with ⟨j,q1,q2,q3,q4⟩ | ⟨q1,q2⟩
     ·exact .inl ⟨j,by omega,by simp;omega,q3,q4⟩
     ·refine .inr ⟨fun j hj hj2=>?_,q2⟩
      rcases Nat.lt_or_ge o j with hlt | hge
      ·exact q1 j hlt (by simp at hj2;omega)
      ·have:j=o:=by omega
       subst this;exact h1.symm
theorem same_set {g:Nat} {o o':Obj} (hb:w.heap[g]? = some o):Same (fun b=>b=g) w { w with heap:=w.heap.setIfInBounds g o' } /\ ({ w with heap:=w.heap.setIfInBounds g o' }:World).heap.size=w.heap.size/\({ w with heap:=w.heap.setIfInBounds g o' }:World).heap[g]? = some o':=by
 obtain ⟨h1,h2⟩:=MapKept.heap_set (o':=o') hb
 exact ⟨⟨rfl,rfl,rfl,Nat.le_refl _,by simp,fun b _ hne=>h2 b hne⟩,by simp,h1⟩
theorem stepMap_ok (hG:Stable G) (S:SatC P G st a w env M X) {t:TypeId} {m k:EV} {K:St->Prop} (h:stepMap P st t m k K) {vm vk:Value} (hm:DenE P M w env m vm) (hk:DenE P M w env k vk) (vv:Value) :
  ∃ w' st',(Instr.mapUpdate t vm vk vv).run P w=.ok () w'/\K st'/\Sat P G st' a w':=by
 unfold stepMap at h
 split at h
 rotate_left
 ·exact h.elim
 rename_i kt e r cs ht
 split at h
 rotate_left
 ·exact h.elim
 rename_i kt' n get fs hl hfs
 split at h
 rotate_left
 ·exact h.elim
 rename_i hc
 obtain ⟨rfl,hi,hko⟩:=hc
 obtain ⟨hsym,hold,hnew⟩:=h
 rcases hk with ⟨hk⟩
 cases hm with
 | @mapv _ g hg =>
 have hmem:=lookupO_mem hl
 obtain ⟨g',es,clock,ha,hh,hz,hd⟩:=S.own _ _ hmem
 rw [hg] at ha
 cases ha
 obtain ⟨us,rfl,hul,hud⟩:∃ us:List Value,vk=.agg us.toArray/\us.length=cs.length /\ ∀ i,i<cs.length->DenP M w (SV.at cs i) (us.getD i undef):=by
  cases hk with | agg _ us h1 h2=>exact ⟨us,rfl,h1,h2⟩
 have hchk:=run_checkKey_agg (w:=w) hfs hi hko hul hud false 9998
 have hfind:=find_ok (P:=P) (kt:=kt') hk get es.toList 0 (fun i hi'=>by
  rw [Nat.zero_add]
  have hi':i<es.size:=by simpa using hi'
  refine ⟨hsym i (by omega),?_⟩
  have:=(hd i (by omega)).2
  have e1:(es.toList.getD i default)=es.getD i default:=by simp [List.getD_eq_getElem?_getD,Array.getD_eq_getD_getElem?]
  rw [e1];exact this)
 have hfk:(Instr.findKey kt' (.agg us.toArray) es.toList).run P w=(Instr.findAsking kt' (.agg us.toArray) es.toList 0).run P w:=by
  cases hes:es.toList with
  | nil=>simp [Instr.findKey,run_underlying hfs,Instr.findNow,Instr.findAsking]
  | cons x l=>simp [Instr.findKey,run_underlying hfs,Instr.findNow,Instr.sameNow]
 rcases hfind with ⟨j,_,hj,hc,v,hrun⟩ | ⟨hno,hrun⟩
 ·-- there already
  have hj:j<n:=by simp at hj;omega
  have hcs:=cellsEq_eq hc hi
  have hkey:=(hd j hj).2
  have hlt:j<es.size:=by omega
  have hkey':DenP (fun _=>False) w (.agg cs) (es[j]).key:=by
   rw [hcs]
   rw [Array.getD_eq_getD_getElem?,Array.getElem?_eq_getElem hlt] at hkey
   exact hkey
  obtain ⟨hsame,hbits⟩:=agg_same hi hkey' hk
  have hstay:∀ w',(Instr.keyThatStays (es[j]).key (.agg us.toArray)).run P w'=.ok (.agg us.toArray) w':=fun w'=>by
   unfold Instr.keyThatStays
   rw [if_pos (hbits 9999)];rfl
  obtain ⟨s1,s2,s3⟩:=same_set (w:=w) (g:=g) (o':=.map (es.modify j fun e=>{ e with key:=.agg us.toArray,val:=vv }) clock) hh
  refine ⟨{ w with heap:=w.heap.setIfInBounds g (.map (es.modify j fun e=>{ e with key:=.agg us.toArray,val:=vv }) clock) },st,?_,hold ⟨j,hj,hc⟩,?_⟩
  ·unfold Instr.mapUpdate
   simp only [Sem.run_bind,run_underlying ht,Result.andThen_ok,MapKept.run_getObj_map hh,hchk,hfk,hrun]
   simp only [Array.getElem?_eq_getElem hlt,Option.map_some,Option.getD_some,hstay,Result.andThen_ok]
   exact MapKept.run_setObj_map _ hh
  ·have:=S.write hG hmem hg s1 s2 (o:=.mp kt' n get) ⟨g,_,clock,hg,s3,by simpa using hz,fun i hi'=>⟨(hd i hi').1,?_⟩⟩
   ·have hid : upd st.own r (.mp kt' n get) = st.own := by
     have hn:=S.nod
     apply List.ext_getElem (by simp [upd])
     intro q h1 h2
     simp only [upd,List.getElem_map]
     split
     ·rename_i hq
      have hq:st.own[q].1=r:=by simpa using hq
      have hin:(st.own[q]) ∈ st.own:=List.getElem_mem h2
      obtain ⟨q2,hq2,e2⟩:=List.getElem_of_mem hmem
      have hp:=List.pairwise_iff_getElem.1 (List.pairwise_map.1 hn)
      have:q=q2:=by
       rcases Nat.lt_trichotomy q q2 with hlt | heq | hgt
       ·exact absurd (by rw [e2];exact hq) (hp q q2 h2 hq2 hlt)
       ·exact heq
       ·exact absurd (by rw [e2];exact hq.symm) (hp q2 q hq2 h2 hgt)
      subst this
      exact e2.symm
     ·rfl
    rw [hid] at this
    exact ⟨env,M,X,this⟩
   ·have hi2:i<es.size:=by omega
    rw [Array.getD_eq_getD_getElem?,Array.getElem?_modify]
    by_cases hij:j=i
    ·subst hij
     simp only [if_true,Array.getElem?_eq_getElem hlt,Option.map_some,Option.getD_some]
     rw [<- hcs,<- hsame];exact hkey'.still
    ·simp only [if_neg hij]
     have:=(hd i hi').2
     rw [Array.getD_eq_getD_getElem?] at this
     exact this.still
 ·obtain ⟨s1,s2,s3⟩:=same_set (w:=w) (g:=g) (o':=.map (es.push { key:=.agg us.toArray,val:=vv,born:=clock }) (clock+1)) hh
  refine ⟨{ w with heap:=w.heap.setIfInBounds g (.map (es.push { key:=.agg us.toArray,val:=vv,born:=clock }) (clock+1)) },_,?_,hnew (fun i hi'=>hno i (Nat.zero_le _) (by simp;omega)),env,M,X,S.write hG hmem hg s1 s2 ⟨g,_,clock+1,hg,s3,by simp [hz],fun i hi'=>?_⟩⟩
  ·unfold Instr.mapUpdate
   simp only [Sem.run_bind,run_underlying ht,Result.andThen_ok,MapKept.run_getObj_map hh,hchk,hfk,hrun]
   exact MapKept.run_setObj_map _ hh
  ·unfold appGet
   have hnm:∀ {l:List SV},intCells l=true->noMem.noMems l=true:=fun {l} h=>by
    induction l with
    | nil=>rfl
    | cons s l ih=>cases s <;> simp_all [intCells,noMem.noMems,noMem]
   split
   ·rename_i hlt
    refine ⟨(hd i hlt).1,?_⟩
    have:=(hd i hlt).2
    rw [Array.getD_eq_getD_getElem?,Array.getElem?_push_lt (by omega)]
    rw [Array.getD_eq_getD_getElem?,Array.getElem?_eq_getElem (by omega)] at this
    exact this.still
   ·have:i=es.size:=by omega
    subst this
    refine ⟨hnm hi,?_⟩
    rw [Array.getD_eq_getD_getElem?,Array.getElem?_push_size]
    exact noMem_ok hk (by simpa [noMem] using hnm hi)
theorem newMap_ok (hG:Stable G) (S:SatC P G st a w env M X) {d:Nat} (hdn:d<st.nt) (hn:(st.forget d).noName d=true) (q:Option (Int->SV)) (q2:Option (Int->Int->Prop)) (kt vt:TypeId) :
  Sat P G ({ st.forget d with own:=(d,newMp q q2 kt vt) :: (st.forget d).own }.put (some d) ⟨none,.mapv d⟩) (a.put (some d) (.map (some w.heap.size))) (w.alloc (.map #[] 0)):=by
 have hs:=same_alloc w (.map #[] 0)
 obtain ⟨X',h⟩:=(S.forget d).newOwn hG hdn hn (fun s e h=>forget_T h) hs (env':=env.set d w.heap.size undef) (Env.set_other env d _ _) rfl
  (fun g hg=>by rw [Env.set_at] at hg;cases hg;simp) (M':=M) (fun b h=>h) (fun b h=>.inl h) (fun b h=>by have:=S.mlt b h;simp;omega)
  (o:=newMp q q2 kt vt) (by
   cases q2 with
   | some ok=>exact ⟨w.heap.size,#[],0,Env.set_at _ _ _ _,Array.getElem?_push_size,fun i hi=>absurd hi (Nat.not_lt_zero _)⟩
   | none =>
   cases q with
   | none=>exact ⟨w.heap.size,#[],0,Env.set_at _ _ _ _,Array.getElem?_push_size,rfl,fun i hi=>by omega⟩
   | some val=>exact ⟨w.heap.size,#[],0,Env.set_at _ _ _ _,Array.getElem?_push_size,(fun key h=>by cases h),fun i hi=>absurd hi (Nat.not_lt_zero _)⟩)
 exact ⟨_,M,X',h.put0 (fun t ht=>by cases ht;exact hdn) (.mapv (Env.set_at _ _ _ _))⟩
theorem cutOf_spec {C:Cfg} {o:Oper} {gd:Option (Nat × Bool × Bool)} {d:Nat} {t:TypeId} {x hi:Operand} (h:cutOf C o gd=some (d,t,x,hi)):o.op=.slice t x none (some hi) none/\o.dst=some d/\gd=none:=by
 unfold cutOf at h
 split at h
 ·rename_i h1 h2
  split at h
  ·cases h;exact ⟨h1,h2,rfl⟩
  ·cases h
 ·cases h
theorem stepCut_ok (hG:Stable G) (S:SatC P G st a w env M X) {d:Nat} {t:TypeId} {x hi:Operand} {K:St->Prop} (h:stepCut P st d t x hi K) (hd:d<st.nt) :
  ∃ v st',(Instr.sliceAt t (a.eval x) none (some (a.eval hi)) none).run P w=.ok v w/\K st'/\Sat P G st' (a.put (some d) v) w:=by
 have hρ:∀ x e,st.rho none x=some e->DenE P M w env e (a.eval x):=fun x e hx=>rho_ok S (gd:=none) (fun _ _ _ h=>by cases h) trivial hx
 unfold stepCut at h
 split at h
 rotate_left
 ·exact h.elim
 rename_i e r z hu hx hz
 split at h
 rotate_left
 ·exact h.elim
 rename_i e' sz n get y hl hy
 split at h
 rotate_left
 ·exact h.elim
 rename_i hrn
 obtain ⟨hp,hk⟩:=conj_spec h
 obtain ⟨h1,h2⟩:=all_one hp
 have hb:lohi none (some hi) (st.rho none) n=some (0,z):=by simp [lohi,hz]
 have hmem:=lookupO_mem hl
 obtain ⟨hm,hgl,hO⟩:=S.own _ _ hmem
 have hmem':∃ o,(r,o) ∈ (st.scrub r).own:=⟨.row e' sz n get,List.mem_map.2 ⟨(r,.row e' sz n get),List.mem_filter.2 ⟨hmem,rfl⟩,rfl⟩⟩
 obtain ⟨o0,ho0⟩:=hmem'
 have e1:=hρ _ _ hx
 generalize hev:a.eval x=q at e1
 cases e1 with
 | @row _ A' n' c hrow =>
 have hsame:Same (fun b=>env.at_ r=some b) w w:=⟨rfl,rfl,rfl,Nat.le_refl _,Nat.le_refl _,fun _ _ _=>rfl⟩
 rcases hO with ⟨hat,hrv,hn0⟩ | ⟨g,cap,cur,hg,hrv,hh,hnc,hcm,hcs,hd'⟩
 ·subst hn0
  rw [hrv] at hrow
  cases hrow
  have hz0:z.toNat=0:=by omega
  have hrun:=run_slice_lohi (P:=P) (w:=w) hρ hu hy hb none 0 (Nat.le_refl _) (Int.le_refl _) h1 h2
  simp only [Option.map_none,Option.map_some,Int.toNat_zero,Nat.sub_zero,if_true,hz0] at hrun
  obtain ⟨X',S'⟩:=(scrub_ok S r).rerow hG hrn ho0 (fun s e h=>scrub_noT h) (fun k' o' h=>scrub_noO h) hsame (env':=env) (fun j hj=>⟨rfl,rfl⟩) rfl
   (fun g hg=>⟨.inl hg,(S.oat _ _ hmem g hg).2.2⟩) (o:=.row e' sz z.toNat get) ⟨by omega,fun i hi=>by omega,.inl ⟨hat,hrv,hz0⟩⟩
  refine ⟨_,_,hrun,hk,env,M,X',S'.put0 (fun t ht=>by cases ht;exact hd) ?_⟩
  exact .row hrv
 ·rw [hrv] at hrow
  cases hrow
  have hrun:=run_slice_lohi (P:=P) (w:=w) hρ hu hy hb (some ⟨g,0,none⟩) c hnc (Int.le_refl _) h1 h2
  have hA:(if c=(0:Int).toNat then some (⟨g,0,none⟩:Addr) else (some (⟨g,0,none⟩:Addr)).map (·.add ((0:Int).toNat * y.size)))=some ⟨g,0,none⟩:=by
   split
   ·rfl
   ·simp [Addr.add]
  rw [hA] at hrun
  simp only [Option.map_none,Option.map_some,Int.toNat_zero,Nat.sub_zero] at hrun
  let env2:Env:={ env with rv:=fun j=>if j=r then .slice (some ⟨g,0,none⟩) z.toNat c else env.rv j }
  have e2:env2.rv r=.slice (some ⟨g,0,none⟩) z.toNat c:=by simp [env2]
  obtain ⟨X',S'⟩:=(scrub_ok S r).rerow hG hrn ho0 (fun s e h=>scrub_noT h) (fun k' o' h=>scrub_noO h) hsame (env':=env2) (fun j hj=>⟨rfl,by simp [env2,hj]⟩) rfl
   (fun g hg=>⟨.inl hg,(S.oat _ _ hmem g hg).2.2⟩) (o:=.row e' sz z.toNat get) ⟨by omega,fun i hi=>hgl i (by omega),.inr ⟨g,c,cur,hg,e2,hh,by omega,hcm,hcs,fun i hi j hj=>hd' i (by omega) j hj⟩⟩
  exact ⟨_,_,hrun,hk,env2,M,X',S'.put0 (fun t ht=>by cases ht;exact hd) (.row e2)⟩
end Go.SE
namespace Go.SE
open Go.RowKit
variable {P:Program} {M:Nat->Prop} {w:World} {env:Env}
theorem mq_keys {es:Array MapEntry} {dom:Int->Bool} {val:Int->SV} (hd:∀ i,i<es.size -> ∃ key,(es.getD i default).key=.int .i64 key/\dom key=true/\DenP M w (val key) (es.getD i default).val):∀ x ∈ es.toList,MapKept.IsKey (.int .i64) x.key:=by
 intro x hx
 obtain ⟨i,hi,rfl⟩:=List.getElem_of_mem hx
 have hi:i<es.size:=by simpa using hi
 obtain ⟨key,h1,_,_⟩:=hd i hi
 rw [Array.getD_eq_getD_getElem?,Array.getElem?_eq_getElem hi] at h1
 simp only [Option.getD_some] at h1
 rw [Array.getElem_toList,h1]
 exact (rfl:IntKind.i64=IntKind.i64)
theorem lookup_mq {t kt vt kt' vt':TypeId} (ht:P.underlying t=some (.map kt vt)) (hk:P.underlying kt=some (.int .i64)) {r g:Nat} {dom:Int->Bool} {val:Int->SV} (ho:OwnOk P M w env r (.mq kt' vt' dom val)) (hg:env.at_ r=some g) (key:Int) :
  (dom key=true -> ∃ v,DenP M w (val key) v /\ ∀ co,(Instr.lookup t (.map (some g)) (.int .i64 key) co).run P w=.ok (if co then .tuple #[v,.bool true] else v) w) /\
  (dom key=false -> ∀ z,(zeroValue vt).run P w=.ok z w -> ∀ co,(Instr.lookup t (.map (some g)) (.int .i64 key) co).run P w=.ok (if co then .tuple #[z,.bool false] else z) w):=by
 obtain ⟨g',es,clock,ha,hh,hin,hd⟩:=ho
 rw [hg] at ha
 cases ha
 have hkeys:=mq_keys hd
 have hck:∀ e,(Instr.checkKey e 10000 kt (.int .i64 key)).run P w=.ok () w:=fun e=>MapKept.run_checkKey hk (show MapKept.IsKey (.int .i64) (.int .i64 key) from rfl) e 9999
 rcases MapKept.findNow_spec (d:=.int .i64) (k:=.int .i64 key) (show MapKept.IsKey (.int .i64) (.int .i64 key) from rfl) es.toList 0 hkeys with ⟨h1,h2⟩ | ⟨j,e,h1,h2,h3⟩
 ·have hf:=MapKept.run_findKey (w:=w) hk h1
  refine ⟨fun h=>?_,fun _ z hz co=>?_⟩
  ·obtain ⟨i,hi,h4⟩:=hin key h
   rw [Array.getD_eq_getD_getElem?,Array.getElem?_eq_getElem hi] at h4
   exact absurd h4 (h2 _ (by simp))
  ·unfold Instr.lookup
   simp only [Sem.run_bind,run_underlying ht,Result.andThen_ok,MapKept.run_getObj_map hh,Sem.run_pure,hck,hf,hz]
   try (cases co <;> rfl)
 ·have hf:=MapKept.run_findKey (w:=w) hk h1
  have hj:j<es.size:=by have:=(List.getElem?_eq_some_iff.1 h2).1;simpa using this
  have he:es.getD j default=e:=by
   rw [Array.getElem?_toList] at h2
   rw [Array.getD_eq_getD_getElem?,h2];rfl
  obtain ⟨key',q1,q2,q3⟩:=hd j hj
  rw [he] at q1 q3
  have:key'=key:=by rw [h3] at q1;cases q1;rfl
  subst this
  refine ⟨fun _=>⟨e.val,q3,fun co=>?_⟩,fun h=>?_⟩
  ·unfold Instr.lookup
   simp only [Sem.run_bind,run_underlying ht,Result.andThen_ok,MapKept.run_getObj_map hh,Sem.run_pure,hck,hf]
   try (cases co <;> rfl)
  ·rw [q2] at h;cases h
theorem update_mq {t kt vt kt' vt':TypeId} (ht:P.underlying t=some (.map kt vt)) (hk:P.underlying kt=some (.int .i64)) {r g:Nat} {dom:Int->Bool} {val:Int->SV} (ho:OwnOk P M w env r (.mq kt' vt' dom val)) (hg:env.at_ r=some g) (hM:¬ M g) (hlt:∀ b,M b->b<w.heap.size) (key:Int) {v:Value} (hv:DenP M w (val key) v) :
  ∃ w',(Instr.mapUpdate t (.map (some g)) (.int .i64 key) v).run P w=.ok () w'/\Same (fun b=>b=g) w w'/\w'.heap.size=w.heap.size/\OwnOk P M w' env r (.mq kt' vt' (fun x=>decide (x=key) || dom x) val):=by
 obtain ⟨g',es,clock,ha,hh,hin,hd⟩:=ho
 rw [hg] at ha
 cases ha
 have hkeys:=mq_keys hd
 have hck:∀ e,(Instr.checkKey e 10000 kt (.int .i64 key)).run P w=.ok () w:=fun e=>MapKept.run_checkKey hk (show MapKept.IsKey (.int .i64) (.int .i64 key) from rfl) e 9999
 have lat:∀ {o':Obj},Later M M w { w with heap:=w.heap.setIfInBounds g o' }:=fun {o'}=>by
  obtain ⟨s1,s2,s3⟩:=same_set (w:=w) (g:=g) (o':=o') hh
  exact ⟨s1.size,fun b hb=>s1.block b (hlt b hb) (fun e=>hM (e ▸ hb)),fun b hb=>hb⟩
 rcases MapKept.findNow_spec (d:=.int .i64) (k:=.int .i64 key) (show MapKept.IsKey (.int .i64) (.int .i64 key) from rfl) es.toList 0 hkeys with ⟨h1,h2⟩ | ⟨j,e,h1,h2,h3⟩
 ·have hf:=MapKept.run_findKey (w:=w) hk h1
  obtain ⟨s1,s2,s3⟩:=same_set (w:=w) (g:=g) (o':=.map (es.push { key:=.int .i64 key,val:=v,born:=clock }) (clock+1)) hh
  refine ⟨_,?_,s1,s2,g,_,_,hg,s3,fun x hx=>?_,fun i hi=>?_⟩
  ·unfold Instr.mapUpdate
   simp only [Sem.run_bind,run_underlying ht,Result.andThen_ok,MapKept.run_getObj_map hh,hck,hf]
   exact MapKept.run_setObj_map _ hh
  ·by_cases e:x=key
   ·refine ⟨es.size,by simp,?_⟩
    rw [Array.getD_eq_getD_getElem?,Array.getElem?_push_size,e];rfl
   ·have hx:dom x=true:=by simpa [e] using hx
    obtain ⟨i,hi,h4⟩:=hin x hx
    refine ⟨i,by simp;omega,?_⟩
    rw [Array.getD_eq_getD_getElem?] at h4 ⊢
    rw [Array.getElem?_push_lt hi]
    rwa [Array.getElem?_eq_getElem hi] at h4
  ·have hi:i<es.size+1:=by simpa using hi
   rcases Nat.lt_succ_iff_lt_or_eq.1 hi with h' | rfl
   ·obtain ⟨key',q1,q2,q3⟩:=hd i h'
    rw [Array.getD_eq_getD_getElem?,Array.getElem?_eq_getElem h'] at q1 q3
    refine ⟨key',?_,by simp [q2],?_⟩
    ·rw [Array.getD_eq_getD_getElem?,Array.getElem?_push_lt h'];exact q1
    ·rw [Array.getD_eq_getD_getElem?,Array.getElem?_push_lt h'];exact q3.later lat
   ·refine ⟨key,?_,by simp,?_⟩
    ·rw [Array.getD_eq_getD_getElem?,Array.getElem?_push_size];rfl
    ·rw [Array.getD_eq_getD_getElem?,Array.getElem?_push_size];exact hv.later lat
 ·have hf:=MapKept.run_findKey (w:=w) hk h1
  have hj:j<es.size:=by have:=(List.getElem?_eq_some_iff.1 h2).1;simpa using this
  have he:es[j]=e:=by
   rw [Array.getElem?_toList,Array.getElem?_eq_getElem hj] at h2
   exact Option.some.inj h2
  have hstay:∀ w',(Instr.keyThatStays (es[j]).key (.int .i64 key)).run P w'=.ok (.int .i64 key) w':=fun w'=>by
   rw [he,h3]
   unfold Instr.keyThatStays
   rw [if_pos (show Instr.sameBits (9999+1) (.int .i64 key) (.int .i64 key)=true by simp [Instr.sameBits])];rfl
  obtain ⟨s1,s2,s3⟩:=same_set (w:=w) (g:=g) (o':=.map (es.modify j fun e=>{ e with key:=.int .i64 key,val:=v }) clock) hh
  refine ⟨_,?_,s1,s2,g,_,_,hg,s3,fun x hx=>?_,fun i hi=>?_⟩
  ·unfold Instr.mapUpdate
   simp only [Sem.run_bind,run_underlying ht,Result.andThen_ok,MapKept.run_getObj_map hh,hck,hf]
   simp only [Nat.zero_add,Array.getElem?_eq_getElem hj,Option.map_some,Option.getD_some,hstay,Result.andThen_ok]
   exact MapKept.run_setObj_map _ hh
  ·by_cases e':x=key
   ·refine ⟨j,by simpa using hj,?_⟩
    rw [Array.getD_eq_getD_getElem?,Array.getElem?_modify,Array.getElem?_eq_getElem hj,e']
    simp
   ·have hx:dom x=true:=by simpa [e'] using hx
    obtain ⟨i,hi,h4⟩:=hin x hx
    refine ⟨i,by simpa using hi,?_⟩
    rw [Array.getD_eq_getD_getElem?,Array.getElem?_eq_getElem hi] at h4
    rw [Array.getD_eq_getD_getElem?,Array.getElem?_modify,Array.getElem?_eq_getElem hi]
    by_cases hij:j=i
    ·subst hij
     simp only [Option.getD_some] at h4
     rw [he,h3] at h4
     cases h4
     exact absurd rfl e'
    ·simpa [hij] using h4
  ·have hi:i<es.size:=by simpa using hi
   rw [Array.getD_eq_getD_getElem?,Array.getElem?_modify,Array.getElem?_eq_getElem hi]
   by_cases hij:j=i
   ·subst hij
    exact ⟨key,by simp,by simp,by simpa using hv.later lat⟩
   ·obtain ⟨key',q1,q2,q3⟩:=hd i hi
    rw [Array.getD_eq_getD_getElem?,Array.getElem?_eq_getElem hi] at q1 q3
    exact ⟨key',by simpa [hij] using q1,by simp [q2],by simpa [hij] using q3.later lat⟩
theorem stepMapQ_ok {G:Ctx} {st:St} {a:Act} {X:Nat->Prop} (hG:Stable G) (S:SatC P G st a w env M X) {t:TypeId} {m k v:EV} {K:St->Prop} (h:stepMapQ P st t m k v K) {vm vk vv:Value} (hm:DenE P M w env m vm) (hk:DenE P M w env k vk) (hv:DenE P M w env v vv) :
  ∃ w' st',(Instr.mapUpdate t vm vk vv).run P w=.ok () w'/\K st'/\Sat P G st' a w':=by
 unfold stepMapQ at h
 split at h
 rotate_left
 ·exact h.elim
 rename_i kt vt r key ht
 split at h
 rotate_left
 ·exact h.elim
 rename_i kt' vt' dom val hl hkt
 obtain ⟨h1,h2⟩:=conj_spec h
 rcases hk with ⟨hk⟩
 cases hk
 cases hm with
 | @mapv _ g hg =>
 have hmem:=lookupO_mem hl
 obtain ⟨q1,q2,q3⟩:=S.oat _ _ hmem g hg
 rcases fitE_ok h1 hv with ⟨hv⟩
 obtain ⟨w',hr,hs,hz,ho⟩:=update_mq ht hkt (S.own _ _ hmem) hg q2 S.mlt key hv
 exact ⟨w',_,hr,h2,env,M,X,S.write hG hmem hg hs hz ho⟩
theorem stepLookup_ok {G:Ctx} {st:St} {a:Act} {X:Nat->Prop} (S:SatC P G st a w env M X) {t:TypeId} {d:Nat} {m k:EV} {co:Bool} {K:St->Prop} (h:stepLookup P st t d m k co K) {vm vk:Value} (hm:DenE P M w env m vm) (hk:DenE P M w env k vk) :
  ∃ s v,(Instr.lookup t vm vk co).run P w=.ok v w/\DenP M w s v/\K (st.put (some d) ⟨none,.p s⟩):=by
 unfold stepLookup at h
 split at h
 rotate_left
 ·exact h.elim
 rename_i kt vt r key ht
 split at h
 rotate_left
 ·exact h.elim
 rename_i kt' vt' dom val y hl hkt hy
 obtain ⟨h1,h2⟩:=h
 rcases hk with ⟨hk⟩
 cases hk
 cases hm with
 | @mapv _ g hg =>
 have hmem:=lookupO_mem hl
 obtain ⟨l1,l2⟩:=lookup_mq ht hkt (S.own _ _ hmem) hg key
 have two:∀ {s:SV} {v:Value} (b:Bool),DenP M w s v->DenP M w (.tup [s,.bool b]) (.tuple #[v,.bool b]):=fun {s v} b hs =>
  .tup [s,.bool b] [v,.bool b] rfl (fun i hi=>by
   match i,hi with
   | 0,_=>exact hs
   | 1,_=>exact .bool _)
 cases hd:dom key with
 | true =>
   obtain ⟨v,hv,hr⟩:=l1 hd
   cases co with
   | true=>exact ⟨_,_,hr true,two true hv,h1 hd⟩
   | false=>exact ⟨_,_,hr false,hv,h1 hd⟩
 | false =>
   obtain ⟨i,hi,hz,_⟩:=tyOf_spec hy
   have hr:=l2 hd y.zero (by simp [zeroValue,typeInfo,hi,hz])
   cases co with
   | true=>exact ⟨_,_,hr true,two false (den_svOf _),h2 hd⟩
   | false=>exact ⟨_,_,hr false,den_svOf _,h2 hd⟩
theorem DenE.reenvs {M':Nat->Prop} {w':World} {env':Env} {keys:List Nat} (hl:Later M M' w w') (he:∀ j,j ∉ keys->env'.at_ j=env.at_ j/\env'.rv j=env.rv j) (hy:env'.yl=env.yl) {e:EV} {v:Value}
  (hn:∀ k,k ∈ keys->e.names k=false) (h:DenE P M w env e v):DenE P M' w' env' e v :=
 h.mono hl (fun j hj=>he j (fun e'=>by rw [hn j e'] at hj;cases hj)) hy
end Go.SE
namespace Go.SE
open Go.RowKit
variable {P:Program}
mutual
theorem within_names {ks:List Nat}:∀ (e:EV),e.within ks=true -> ∀ k,e.names k=true->k ∈ ks
 | .loc b _,h,k,hk=>by simp only [EV.within,EV.names,beq_iff_eq] at h hk;subst hk;simpa using h
 | .row b,h,k,hk=>by simp only [EV.within,EV.names,beq_iff_eq] at h hk;subst hk;simpa using h
 | .rsub b _ _ _,h,k,hk=>by simp only [EV.within,EV.names,beq_iff_eq] at h hk;subst hk;simpa using h
 | .rptr b _ _ _,h,k,hk=>by simp only [EV.within,EV.names,beq_iff_eq] at h hk;subst hk;simpa using h
 | .mapv b,h,k,hk=>by simp only [EV.within,EV.names,beq_iff_eq] at h hk;subst hk;simpa using h
 | .rpre b _,h,k,hk=>by simp only [EV.within,EV.names,beq_iff_eq] at h hk;subst hk;simpa using h
 | .fptr bs _,h,k,hk=>by
   simp only [EV.within,EV.names,List.all_eq_true,List.contains_iff_mem] at h hk
   exact h k hk
 | .cl _ cs,h,k,hk=>withinL_names cs h k hk
 | .ag cs,h,k,hk=>withinL_names cs h k hk
 | .p _,_,_,hk | .fn _,_,_,hk | .yield _,_,_,hk | .any,_,_,hk | .full ..,_,_,hk=>by cases hk
theorem withinL_names {ks:List Nat}:∀ (l:List EV),EV.within.withinL ks l=true -> ∀ k,EV.names.namesL k l=true->k ∈ ks
 | [],_,_,hk=>by cases hk
 | e :: l,h,k,hk=>by
   simp only [EV.within.withinL,EV.names.namesL,Bool.and_eq_true,Bool.or_eq_true] at h hk
   rcases hk with hk | hk
   ·exact within_names e h.1 k hk
   ·exact withinL_names l h.2 k hk
end
theorem own_names {ks:List Nat} {o:Own} (h:o.within ks=true):∀ k,o.names k=true->k ∈ ks:=fun k hk=>by
 cases o with
 | blk t cs=>exact withinL_names cs h k hk
 | oblk b t cs=>exact withinL_names cs h k hk
 | prow e n bs =>
   simp only [Own.within,Own.names,List.all_eq_true,List.contains_iff_mem] at h hk
   exact h k hk
 | _=>cases hk
theorem DenE.turn {M M':Nat->Prop} {w w':World} {env env':Env} {ks:List Nat} (hl:Later M M' w w') (he:∀ k,k ∈ ks->env'.at_ k=env.at_ k/\env'.rv k=env.rv k)
 {e:EV} {v:Value} (h:DenE P M w env e v) (hw:e.within ks=true):DenE P M' w' env' e v:=h.go hl (fun k hk=>he k (within_names e hw k hk))
def Env.adopt (env env':Env) (f:Nat->Nat) (keys:List Nat):Env :=
 { at_:=fun j=>match keys.find? (fun k=>f k == j) with | some k=>env'.at_ k | none=>env.at_ j
   rv:=fun j=>match keys.find? (fun k=>f k == j) with | some k=>env'.rv k | none=>env.rv j
   yl:=env.yl }
theorem adopt_old {env env':Env} {f:Nat->Nat} {keys:List Nat} {j:Nat} (h:j ∉ keys.map f):(env.adopt env' f keys).at_ j=env.at_ j/\(env.adopt env' f keys).rv j=env.rv j:=by
 have:keys.find? (fun k=>f k == j)=none:=by
  rw [List.find?_eq_none]
  intro k hk e
  exact h (List.mem_map.2 ⟨k,hk,by simpa using e⟩)
 unfold Env.adopt
 simp only [this]
 exact ⟨trivial,trivial⟩
theorem adopt_new {env env':Env} {f:Nat->Nat} {keys:List Nat} (hnd:(keys.map f).Nodup) {k:Nat} (hk:k ∈ keys):(env.adopt env' f keys).at_ (f k)=env'.at_ k/\(env.adopt env' f keys).rv (f k)=env'.rv k:=by
 have:keys.find? (fun q=>f q == f k)=some k:=by
  induction keys with
  | nil=>cases hk
  | cons q l ih =>
    rw [List.map_cons,List.nodup_cons] at hnd
    by_cases e:f q=f k
    ·rcases List.mem_cons.1 hk with rfl | h
     ·simp
     ·exact absurd (List.mem_map.2 ⟨k,h,e.symm⟩) hnd.1
    ·rcases List.mem_cons.1 hk with rfl | h
     ·exact absurd rfl e
     ·rw [List.find?_cons_of_neg (by simpa using e)]
      exact ih hnd.2 h
 unfold Env.adopt
 simp only [this]
 exact ⟨trivial,trivial⟩
theorem SatC.newOwnsAt {G:Ctx} {st:St} {a:Act} {w:World} {env:Env} {M X:Nat->Prop} (S:SatC P G st a w env M X) {L:List (Nat × Own)} (hnd:(keysO L).Nodup) (hkn:∀ k,k ∈ keysO L->k<st.nt) (hk:∀ k,k ∈ keysO L->st.noName k=true)
  (hT:∀ k,k ∈ keysO L -> ∀ s e,(s,e) ∈ st.T->e.v.names k=false) {env':Env} (he:∀ j,j ∉ keysO L->env'.at_ j=env.at_ j/\env'.rv j=env.rv j) (hy:env'.yl=env.yl) {n0:Nat}
  (hlo:∀ k o,(k,o) ∈ st.own -> ∀ g,env.at_ k=some g->g<n0) (hdl:∀ d,d ∈ a.defers -> ∀ D,d = { target:=.collected D,args:=#[] } -> D<n0)
  (hg:∀ k,k ∈ keysO L -> ∀ g,env'.at_ k=some g->n0 <= g/\X g/\¬ M g/\g<w.heap.size)
  (hinj:∀ k1 k2,k1 ∈ keysO L->k2 ∈ keysO L->k1 ≠ k2 -> ∀ g,env'.at_ k1=some g->env'.at_ k2 ≠ some g)
  (ho:∀ k o,(k,o) ∈ L->OwnOk P M w env' k o):SatC P G { st with own:=L ++ st.own } a w env' M X:=by
 have hl:Later M M w w:=⟨Nat.le_refl _,fun _ _=>rfl,fun _ h=>h⟩
 have key:∀ {k o},(k,o) ∈ L->k ∈ keysO L:=fun {k o} h=>List.mem_map.2 ⟨(k,o),h,rfl⟩
 have hold:∀ {k' o'},(k',o') ∈ st.own->k' ∉ keysO L /\ ∀ k,k ∈ keysO L->o'.names k=false:=fun {k' o'} h =>
  ⟨fun hm=>(noName_own (hk _ hm) h).1 rfl,fun k hm=>(noName_own (hk _ hm) h).2⟩
 have hpin:PinOk G env' st.nt:=fun j hj=>by
  obtain ⟨h1,h2,h3⟩:=S.gam.2 j hj
  obtain ⟨e1,e2⟩:=he j (fun hm=>by have:=hkn j hm;omega)
  exact ⟨h1,e1.trans h2,e2.trans h3⟩
 refine ⟨⟨S.gam.1,hpin⟩,S.mx,?_,?_,?_,?_,S.mlt,S.xlt,S.siz,?_,S.grd,?_,S.dno⟩
 ·intro k' o' h
  rcases List.mem_append.1 h with h | h
  ·exact ho _ _ h
  ·obtain ⟨hne,hnn⟩:=hold h
   have h1:=S.own _ _ h
   exact h1.move hl (he _ hne).1 (he _ hne).2 (fun _ _=>rfl) (fun j hj=>he j (fun e=>by rw [hnn j e] at hj;cases hj))
 ·intro k' o' h g hg'
  rcases List.mem_append.1 h with h | h
  ·exact (hg _ (key h) g hg').2
  ·rw [(he _ (hold h).1).1] at hg'
   exact S.oat _ _ h g hg'
 ·intro k1 o1 k2 o2 h1 h2 hne g hg1
  rcases List.mem_append.1 h1 with h1 | h1 <;> rcases List.mem_append.1 h2 with h2 | h2
  ·exact hinj _ _ (key h1) (key h2) hne g hg1
  ·rw [(he _ (hold h2).1).1]
   intro hc
   have:=hlo _ _ h2 g hc
   have:=(hg _ (key h1) g hg1).1
   omega
  ·rw [(he _ (hold h1).1).1] at hg1
   intro hc
   have:=hlo _ _ h1 g hg1
   have:=(hg _ (key h2) g hc).1
   omega
  ·rw [(he _ (hold h1).1).1] at hg1
   rw [(he _ (hold h2).1).1]
   exact S.inj _ _ _ _ h1 h2 hne g hg1
 ·rw [List.map_append,List.nodup_append]
  refine ⟨hnd,S.nod,fun x hx y hy' e=>?_⟩
  obtain ⟨z,hz,rfl⟩:=List.mem_map.1 hy'
  exact (hold (k':=z.1) (o':=z.2) hz).1 (e ▸ hx)
 ·intro s e h
  obtain ⟨h1,h2,h3⟩:=S.tmp s e h
  exact ⟨h1,fun ho'=>DenE.reenvs hl he hy (fun k hm=>hT k hm s e h) (h2 ho'),h3⟩
 ·intro d hd
  obtain ⟨D,e,h1,h2,h3,h4⟩:=S.dfr d hd
  have hD:=hdl d hd D e
  refine ⟨D,e,h1,h2,h3,?_⟩
  intro k' o' h
  rcases List.mem_append.1 h with h | h
  ·intro hc
   have:=(hg _ (key h) D hc).1
   omega
  ·rw [(he _ (hold h).1).1]
   exact h4 _ _ h
theorem mvk_one {mv:Option (Nat × Nat)} {i j:Nat} (h:i ∈ mvk mv) (h':j ∈ mvk mv):i=j:=by
 cases mv with
 | none=>cases h
 | some x =>
   obtain ⟨k,s⟩:=x
   simp only [mvk,List.mem_singleton] at h h'
   rw [h,h']
theorem mvd_ok {G:Ctx} {st:St} {a:Act} {w:World} {env:Env} {M X:Nat->Prop} (S:SatC P G st a w env M X) {f:Nat->Nat} {mv:Option (Nat × Nat)} {ks:List Nat} (hk:∀ k,k ∈ ks -> ∃ o,(k,o) ∈ st.own) (h:mvOk (st.mvd f mv) f mv ks=true) :
  SatC P G (st.mvd f mv) a w env M X/\(st.mvd f mv).nt=st.nt/\(∀ k,k ∈ ks -> ∃ o,(k,o) ∈ (st.mvd f mv).own) /\
   ∀ k,k ∈ mvk mv->f k<st.nt/\(∀ s e,(s,e) ∈ (st.mvd f mv).T->e.v.names (f k)=false) /\ ∀ k' o,(k',o) ∈ (st.mvd f mv).own->o.names (f k)=false:=by
 cases mv with
 | none=>exact ⟨S,rfl,hk,fun k hk=>by cases hk⟩
 | some x =>
   obtain ⟨k0,s0⟩:=x
   simp only [mvOk,Bool.and_eq_true,decide_eq_true_eq,List.all_eq_true] at h
   refine ⟨scrub_ok S _,rfl,fun k hk=>?_,fun k hk=>?_⟩
   ·obtain ⟨o,ho⟩:=Option.isSome_iff_exists.1 (h.2 k hk)
    exact ⟨o,lookupO_mem ho⟩
   ·simp only [mvk,List.mem_singleton] at hk
    subst hk
    exact ⟨h.1,fun s e h=>scrub_noT h,fun k' o h=>scrub_noO h⟩
theorem callMk_ok {G:Ctx} {st:St} {a:Act} {w:World} {env:Env} {M X:Nat->Prop} (hG:Stable G) (S:SatC P G st a w env M X) {C:Cfg} {dst:Option Nat} (hd:∀ t,dst=some t->t<st.nt) {as:List EV} {vals:List Value} (hv1:vals.length=as.length) (hv2:∀ i,i<as.length->DenE P M w env (EV.at as i) (vals.getD i undef))
  {g:Nat} {mk:Mk} (hT:MkOk P g mk) {K:St->Prop} (h:callMk C st dst as mk K) {N:Act->World->Prop} (hN:∀ st' a' w',K st'->Sat P G st' a' w'->N a' w') :
  CallsIn Fence.wide 0 P g vals.toArray w (fun e w'=>∃ v,e=.returned v/\N (a.put dst v) w'):=by
 obtain ⟨t,h⟩:=h
 split at h
 rotate_left
 ·exact h.elim
 rename_i hc
 obtain ⟨hndl,hnd⟩:=Bool.and_eq_true_iff.1 hc
 have hnd:=nodupB_ok hnd
 have hndl:=nodupB_ok hndl
 obtain ⟨h1,hpre,hpost⟩:=conj_spec h
 obtain ⟨hA,hO⟩:=all_append h1
 obtain ⟨⟨hk,hk',hkn,hin,hmv,hmvl⟩,hT⟩:=hT
 obtain ⟨l1,l2⟩:=fitL_ok hA
 rw [renL_len] at l1 l2
 have hO':=fitO_ok S hO
 have inj:=ren_inj hndl
 refine callsIn_mono (hT t hpre M w (env.via C.ren) vals S.mlt (fun k o h=>own_ren (hO' _ _ (renO_mem h)).2) (fun k o h g hg=>?_) (fun k o k' o' h h' hne g hg=>?_) (by omega) (fun i hi=>?_)) ?_
 ·obtain ⟨⟨o',h'⟩,_⟩:=hO' _ _ (renO_mem (f:=C.ren) h)
  obtain ⟨_,q2,q3⟩:=S.oat _ _ h' g hg
  exact ⟨q2,q3⟩
 ·obtain ⟨⟨o1,h1⟩,_⟩:=hO' _ _ (renO_mem (f:=C.ren) h)
  obtain ⟨⟨o2,h2⟩,_⟩:=hO' _ _ (renO_mem (f:=C.ren) h')
  exact S.inj _ _ _ _ h1 h2 (inj k o k' o' h h' hne) g hg
 ·have:=l2 i hi
  rw [renL_at _ _ _ hi] at this
  exact den_ren _ _ (fitE_ok this (hv2 i (by omega)))
 rintro e w' ⟨u,v,env',M',hp,rfl,hs,hM,hM',hMl,hpin,hg,hmg,hinj,ho,hon,hr⟩
 have hK:=hpost u hp
 split at hK
 rotate_left
 ·exact hK.elim
 rename_i hfree
 obtain ⟨hmvo,hfree⟩:=Bool.and_eq_true_iff.1 hfree
 refine ⟨v,rfl,hN _ _ _ hK ?_⟩
 -- the lent ones,by their names
 have lk:∀ k,k ∈ mk.lkeys -> ∃ o,(k,o) ∈ mk.lent t:=fun k hm=>by
  rw [<- hk t] at hm
  obtain ⟨⟨k2,o2⟩,h2,e2⟩:=List.mem_map.1 hm
  cases e2;exact ⟨o2,h2⟩
 have lkS:∀ k,k ∈ mk.lkeys -> ∃ o,(C.ren k,o) ∈ st.own:=fun k hm=>by
  obtain ⟨o,h2⟩:=lk k hm
  exact (hO' _ _ (renO_mem h2)).1
 obtain ⟨S0,hnt0,lk0,F⟩:=mvd_ok S (fun k hm=>by
  obtain ⟨q,hq,rfl⟩:=List.mem_map.1 hm
  exact lkS q hq) hmvo
 have hd0:∀ t,dst=some t->t<(st.mvd C.ren mk.mv).nt:=fun t h=>by rw [hnt0];exact hd t h
 rw [<- hnt0] at F
 generalize st.mvd C.ren mk.mv=st0 at *
 have ndm:((mvk mk.mv).map C.ren).Nodup:=by cases mk.mv <;> simp [mvk]
 have injL:∀ q k,q ∈ mk.lkeys->k ∈ mk.lkeys->C.ren q=C.ren k->q=k:=fun q k hq hk2 e=>by
  obtain ⟨o1,h1⟩:=lk q hq
  obtain ⟨o2,h2⟩:=lk k hk2
  exact Decidable.byContradiction fun hne=>inj q o1 k o2 h1 h2 hne e
 have hlat:Later M' M' w' w':=⟨Nat.le_refl _,fun _ _=>rfl,fun _ h=>h⟩
 have hnm:∀ k,k ∈ mvk mk.mv->((env.adopt env' C.ren (mvk mk.mv)).at_ (C.ren k)=env'.at_ k):=fun k hm=>(adopt_new ndm hm).1
 have hag1:∀ k,k ∈ mk.lkeys->((env.adopt env' C.ren (mvk mk.mv)).via C.ren).at_ k=env'.at_ k/\((env.adopt env' C.ren (mvk mk.mv)).via C.ren).rv k=env'.rv k:=fun k hm=>by
  by_cases hmm:k ∈ mvk mk.mv
  ·exact adopt_new ndm hmm
  ·have hno : C.ren k ∉ (mvk mk.mv).map C.ren := fun hc => by
    obtain ⟨q,hq,e⟩:=List.mem_map.1 hc
    exact hmm (injL q k (hmvl q hq) hm e ▸ hq)
   obtain ⟨p1,p2⟩:=hpin k hm hmm
   obtain ⟨q1,q2⟩:=adopt_old (env:=env) (env':=env') hno
   exact ⟨q1.trans p1.symm,q2.trans p2.symm⟩
 have hl:∀ b,lentB (env.via C.ren) (mk.lent t) b->lentB env (renO C.ren (mk.lent t)) b:=fun b ⟨k,o,h,hg⟩=>⟨_,_,renO_mem h,hg⟩
 have S1:=S0.lentV hG (L:=renO C.ren (mk.lent t)) (L':=renO C.ren (mk.lent' t u)) (env1:=env.adopt env' C.ren (mvk mk.mv)) (mvs:=fun j=>j ∈ (mvk mk.mv).map C.ren) (M':=M') (w':=w')
  (fun k o h=>by
   obtain ⟨k',o',h',rfl,rfl⟩:=mem_renO h
   exact lk0 _ (List.mem_map.2 ⟨k',by rw [<- hk t];exact List.mem_map.2 ⟨_,h',rfl⟩,rfl⟩))
  (by rw [keysO_renO,keysO_renO,hk,hk']) ⟨hs.os,hs.tape,hs.output,hs.drawn,hs.size,fun b hb hn=>hs.block b hb (fun e=>hn (hl b e))⟩ hM
  (fun b hb=>by
   rcases hM' b hb with h | ⟨h,h2⟩ | ⟨k,h,h2,h3⟩
   ·exact .inl h
   ·refine .inr (.inl ⟨h,fun j hj=>?_⟩)
    obtain ⟨k,hk2,rfl⟩:=List.mem_map.1 hj
    rw [hnm k hk2]
    exact h2 k (List.mem_append_right _ hk2)
   ·exact .inr (.inr ⟨C.ren k,List.mem_map.2 ⟨k,h,rfl⟩,h2,by rw [hnm k h];exact h3⟩)) hMl
  (fun j hj=>adopt_old hj) rfl (fun i j hi hj=>by
   obtain ⟨p,hp,rfl⟩:=List.mem_map.1 hi
   obtain ⟨q,hq,rfl⟩:=List.mem_map.1 hj
   rw [mvk_one hp hq])
  (fun j hj=>by
   obtain ⟨k,hk2,rfl⟩:=List.mem_map.1 hj
   obtain ⟨o,h2⟩:=lk k (hmvl k hk2)
   exact ⟨(F k hk2).1,_,renO_mem h2⟩)
  (fun j hj g hg'=>by
   obtain ⟨k,hk2,rfl⟩:=List.mem_map.1 hj
   rw [hnm k hk2] at hg'
   exact hmg k hk2 g hg')
  (fun j hj=>by
   obtain ⟨k,hk2,rfl⟩:=List.mem_map.1 hj
   exact (F k hk2).2.1)
  (fun j hj k' o h _=>by
   obtain ⟨k,hk2,rfl⟩:=List.mem_map.1 hj
   exact (F k hk2).2.2 k' o h)
  (fun k o h=>by
   obtain ⟨k',o',h',rfl,rfl⟩:=mem_renO h
   have hkk:k' ∈ mk.lkeys:=by rw [<- hk' t u];exact List.mem_map.2 ⟨_,h',rfl⟩
   have hw:=List.all_eq_true.1 (hin t u).1 _ h'
   obtain ⟨p1,p2⟩:=hag1 k' hkk
   exact ren_own ((ho k' o' h').move hlat p1 p2 (fun _ _=>rfl) (fun j hj=>hag1 j (own_names hw j hj))))
 generalize henv1:env.adopt env' C.ren (mvk mk.mv)=env1 at *
 have hkeys:keysO (renO C.ren (mk.own t u))=mk.keys.map C.ren:=by rw [keysO_renO,hkn]
 have fr2:∀ k,k ∈ mk.keys.map C.ren->({ st0 with own:=updAll st0.own (renO C.ren (mk.lent' t u)) }:St).noName k=true/\(∀ s e,(s,e) ∈ st0.T->e.v.names k=false)/\k<st0.nt:=fun k hm=>by
  have:=List.all_eq_true.1 hfree k hm
  unfold freeK at this
  simp only [Bool.and_eq_true,decide_eq_true_eq] at this
  refine ⟨this.1.1,fun s e he=>?_,this.2⟩
  have:=List.all_eq_true.1 this.1.2 _ he
  simpa using this
 have hnew:∀ k,k ∈ mk.keys->((env1.adopt env' C.ren mk.keys).via C.ren).at_ k=env'.at_ k/\((env1.adopt env' C.ren mk.keys).via C.ren).rv k=env'.rv k:=fun k hm=>adopt_new hnd hm
 have hag:∀ k,k ∈ mk.lkeys ++ mk.keys->((env1.adopt env' C.ren mk.keys).via C.ren).at_ k=env'.at_ k/\((env1.adopt env' C.ren mk.keys).via C.ren).rv k=env'.rv k:=fun k hm=>by
  rcases List.mem_append.1 hm with hm | hm
  ·have hno : C.ren k ∉ mk.keys.map C.ren := fun hc => by
    obtain ⟨o,h6⟩:=lk0 _ (List.mem_map.2 ⟨k,hm,rfl⟩)
    have h7:C.ren k ∈ (updAll st0.own (renO C.ren (mk.lent' t u))).map (·.1):=by
     rw [updAll_keys];exact List.mem_map.2 ⟨_,h6,rfl⟩
    obtain ⟨⟨k8,o8⟩,h8,e8⟩:=List.mem_map.1 h7
    exact (noName_own (fr2 _ hc).1 h8).1 e8
   obtain ⟨p1,p2⟩:=hag1 k hm
   obtain ⟨q1,q2⟩:=adopt_old (env:=env1) (env':=env') hno
   exact ⟨q1.trans p1,q2.trans p2⟩
  ·exact hnew k hm
 have hownE:∀ k o,(k,o) ∈ mk.own t u->OwnOk P M' w' ((env1.adopt env' C.ren mk.keys).via C.ren) k o:=fun k o hm=>by
  have hkk:k ∈ mk.keys:=by rw [<- hkn t u];exact List.mem_map.2 ⟨_,hm,rfl⟩
  have hw:=List.all_eq_true.1 (hin t u).2.1 _ hm
  obtain ⟨p1,p2⟩:=hnew k hkk
  exact (hon k o hm).move hlat p1 p2 (fun _ _=>rfl) (fun j hj=>hag j (own_names hw j hj))
 have inv:∀ j,j ∈ keysO (renO C.ren (mk.own t u)) -> ∃ k,k ∈ mk.keys/\C.ren k=j/\(env1.adopt env' C.ren mk.keys).at_ j=env'.at_ k:=fun j hj=>by
  rw [hkeys] at hj
  obtain ⟨k,hm,rfl⟩:=List.mem_map.1 hj
  exact ⟨k,hm,rfl,(adopt_new hnd hm).1⟩
 obtain ⟨n0,hlo,hdl,hg0⟩:∃ n0,(∀ k o,(k,o) ∈ updAll st0.own (renO C.ren (mk.lent' t u)) -> ∀ g,env1.at_ k=some g->g<n0)/\(∀ d,d ∈ a.defers -> ∀ D,d = { target:=.collected D,args:=#[] } -> D<n0) /\ ∀ k,k ∈ mk.keys -> ∀ g,env'.at_ k=some g->n0 <= g:=by
  have hdl:∀ d,d ∈ a.defers -> ∀ D,d = { target:=.collected D,args:=#[] } -> D<w.heap.size:=fun d hd D e=>by
   obtain ⟨D',e',_,h2,_⟩:=S0.dfr d hd
   rw [e'] at e
   cases e
   exact S0.xlt _ h2
  rcases hmv with hmv | hkz
  ·refine ⟨w.heap.size,fun k o h g hg'=>?_,hdl,fun k hm g hg'=>(hg k hm g hg').1⟩
   obtain ⟨⟨o',h'⟩,_⟩:=mem_updAll _ _ h
   rw [<- henv1,hmv,(adopt_old (keys:=mvk none) (by simp [mvk])).1] at hg'
   exact (S0.oat k o' h' g hg').2.2
  ·exact ⟨w'.heap.size,fun k o h g hg'=>(S1.oat k o h g hg').2.2,fun d hd D e=>Nat.lt_of_lt_of_le (hdl d hd D e) hs.size,fun k hm=>by rw [hkz] at hm;cases hm⟩
 have S2:=S1.newOwnsAt (L:=renO C.ren (mk.own t u)) (by rw [hkeys];exact hnd) (fun k hm=>(fr2 k (hkeys ▸ hm)).2.2) (fun k hm=>(fr2 k (hkeys ▸ hm)).1) (fun k hm=>(fr2 k (hkeys ▸ hm)).2.1) (env':=env1.adopt env' C.ren mk.keys)
  (fun j hj=>adopt_old (by rw [<- hkeys];exact hj)) rfl (n0:=n0) hlo hdl
  (fun k hm g hg'=>by
   obtain ⟨q,q1,rfl,q3⟩:=inv k hm
   rw [q3] at hg'
   obtain ⟨r1,r2⟩:=hg q q1 g hg'
   refine ⟨hg0 q q1 g hg',.inr ⟨r1,r2⟩,fun hm'=>?_,r2⟩
   rcases hM' g hm' with h | h | ⟨k,h,h2,h3⟩
   ·have:=S.mlt g h;omega
   ·exact h.2 q (List.mem_append_left _ q1) hg'
   ·rcases hmv with hmv | hkz
    ·rw [hmv] at h;cases h
    ·rw [hkz] at q1;cases q1)
  (fun k1 k2 h1 h2 hne g hg'=>by
   obtain ⟨q1,a1,rfl,a3⟩:=inv k1 h1
   obtain ⟨q2,b1,rfl,b3⟩:=inv k2 h2
   rw [a3] at hg'
   rw [b3]
   exact hinj q1 q2 a1 b1 (fun e=>hne (by rw [e])) g hg')
  (fun k o hm=>by
   obtain ⟨k',o',h',rfl,rfl⟩:=mem_renO hm
   exact ren_own (hownE k' o' h'))
 exact ⟨_,M',_,S2.put0 hd0 (ren_den (hr.turn hlat hag (hin t u).2.2))⟩
section
variable {M:Nat->Prop} {w:World} {G:Ctx} {st:St} {a:Act} {env:Env} {X:Nat->Prop}
theorem frzL_at (k:Nat) (o:Own):∀ (l:List EV) (i:Nat),i<l.length->EV.at (EV.frz.frzL k o l) i=(EV.at l i).frz k o
 | [],i,hi=>by simp at hi
 | e :: l,0,_=>rfl
 | e :: l,i+1,hi=>frzL_at k o l i (by simpa using hi)
theorem frzL_len (k:Nat) (o:Own):∀ (l:List EV),(EV.frz.frzL k o l).length=l.length
 | []=>rfl
 | e :: l=>by simp [EV.frz.frzL,frzL_len k o l]
theorem frz_den (S:SatC P G st a w env M X) {k:Nat} {o:Own} (hk:(k,o) ∈ st.own) (hf:frzOk o=true) {M':Nat->Prop} (hM:∀ b,M b->M' b) (hg:∀ g,env.at_ k=some g->M' g)
  {e:EV} {v:Value} (h:DenE P M w env e v):DenE P M' w env (e.frz k o) v:=by
 have hl:Later M M' w w:=⟨Nat.le_refl _,fun _ _=>rfl,hM⟩
 induction h with
 | p h=>exact .p (h.weak hM)
 | @loc b off g h =>
   unfold EV.frz
   split
   ·rename_i hb
    have hb:b=k:=by simpa using hb
    subst hb
    cases o with
    | blk t cs =>
      simp only
      split
      ·rename_i ss hss
       obtain ⟨g',vs,hg',hh,hz,hd⟩:=S.own _ _ hk
       rw [h] at hg';cases hg'
       have:=allP_spec hss
       subst this
       simp only [List.length_map] at hz hd
       have hp:=DenP.ref (M:=M') (w:=w) ss off (fun j=>vs.getD j undef) ⟨g,0,none⟩ (hg g h) (fun j hj=>by rw [add_mk,Nat.zero_add];exact cell_blk_lt hh (by omega)) (fun j hj=>(hd j hj).1) (fun j hj=>by
        have:=(hd j hj).2
        rw [evat_p _ _ hj] at this
        rcases this with ⟨this⟩;exact this.weak hM)
       rw [add_mk,Nat.zero_add] at hp
       exact .p hp
      ·exact .any
    | _=>exact .any
   ·exact .loc h
 | @mapv r g h =>
   unfold EV.frz
   split
   ·exact .any
   ·exact .mapv h
 | @row r A n c h =>
   unfold EV.frz
   split
   ·rename_i hb
    have hb:r=k:=by simpa using hb
    subst hb
    cases o with
    | row e sz n' get =>
      have:=row_den S hk hM hg
      rw [h] at this
      exact .p this
    | _=>exact .any
   ·exact .row h
 | @rsub r sz lo n A cap hc hm hA =>
   unfold EV.frz;split
   ·exact .any
   ·exact .rsub A cap hc hm hA
 | @rpre r n N cap g h hn =>
   unfold EV.frz;split
   ·exact .any
   ·exact .rpre h hn
 | @fptr bs i v hi h=>exact .fptr hi h
 | @rptr r sz i off g h =>
   unfold EV.frz;split
   ·exact .any
   ·exact .rptr h
 | cl f cs vs hlen _ ih =>
   have hc:∀ i,i<(EV.frz.frzL k o cs).length->DenE P M' w env (EV.at (EV.frz.frzL k o cs) i) (vs.getD i undef):=fun i hi=>by
    rw [frzL_len] at hi
    rw [frzL_at _ _ _ _ hi];exact ih i hi
   unfold EV.frz
   split
   ·rename_i ss hss
    have:=denL_of_allP hss (by rw [frzL_len];exact hlen) hc
    exact .p (.clo f ss _ this.1 this.2)
   ·exact .cl f _ _ (by rw [frzL_len];exact hlen) hc
 | ag cs vs hlen _ ih =>
   unfold EV.frz
   exact .ag _ _ (by rw [frzL_len];exact hlen) (fun i hi=>by
    rw [frzL_len] at hi
    rw [frzL_at _ _ _ _ hi];exact ih i hi)
 | fn h=>exact .fn (h.later hl)
 | yield=>exact .yield
 | any=>exact .any
 | full h hq=>exact .full (h.later hl) hq
theorem SatC.frz (S:SatC P G st a w env M X) (k:Nat):∃ M',SatC P G (st.frz k) a w env M' X:=by
 unfold St.frz
 split
 ·rename_i o hl
  split
  ·rename_i hf
   have hk:=lookupO_mem hl
   have hM:∀ b,M b->M b\/env.at_ k=some b:=fun b h=>.inl h
   have hg:∀ g,env.at_ k=some g->M g\/env.at_ k=some g:=fun g h=>.inr h
   have hmem:∀ {k' o'},(k',o') ∈ ((st.own.filter fun x=>!(x.1 == k)).map fun x=>(x.1,Own.frz k o x.2)) -> ∃ o'',(k',o'') ∈ st.own/\k' ≠ k/\o'=Own.frz k o o'':=by
    intro k' o' h
    obtain ⟨⟨k2,o2⟩,hm,he⟩:=List.mem_map.1 h
    obtain ⟨h1,h2⟩:=List.mem_filter.1 hm
    cases he
    exact ⟨o2,h1,by simpa using h2,rfl⟩
   have hl':Later M (fun b=>M b\/env.at_ k=some b) w w:=⟨Nat.le_refl _,fun _ _=>rfl,hM⟩
   refine ⟨fun b=>M b\/env.at_ k=some b,S.gam,fun b hb=>by rcases hb with hb | hb;exact S.mx b hb;exact .inr (S.oat _ _ hk b hb).1,?_,?_,?_,?_,?_,S.xlt,S.siz,?_,?_,?_,S.dno⟩
   ·intro k' o' h
    obtain ⟨o'',ho,hne,rfl⟩:=hmem h
    have h1:=S.own _ _ ho
    have hmv:=h1.move hl' rfl rfl (fun _ _=>rfl) (fun _ _=>⟨rfl,rfl⟩)
    have hblk:∀ {t cs},BlkOk P M w env k' t cs->BlkOk P (fun b=>M b\/env.at_ k=some b) w env k' t (cs.map (EV.frz k o)):=fun {t cs} ⟨g,vs,ha,hh,hz,hd⟩=>by
     refine ⟨g,vs,ha,hh,by simpa using hz,fun i hi=>?_⟩
     simp only [List.length_map] at hi
     refine ⟨(hd i hi).1,?_⟩
     have:EV.at (cs.map (EV.frz k o)) i=(EV.at cs i).frz k o:=by simp [EV.at,List.getD_eq_getElem?_getD,hi]
     rw [this]
     exact frz_den S hk hf hM hg (hd i hi).2
    cases o'' with
    | blk t cs=>exact hblk h1
    | oblk b t cs=>exact ⟨fun e=>hblk (h1.1 e),h1.2⟩
    | _=>exact hmv
   ·intro k' o' h g hg'
    obtain ⟨o'',ho,hne,rfl⟩:=hmem h
    obtain ⟨h1,h2,h3⟩:=S.oat _ _ ho g hg'
    refine ⟨h1,fun hm=>?_,h3⟩
    rcases hm with hm | hm
    ·exact h2 hm
    ·exact S.inj _ _ _ _ ho hk hne g hg' hm
   ·intro k1 o1 k2 o2 h1 h2
    obtain ⟨_,e1,_⟩:=hmem h1
    obtain ⟨_,e2,_⟩:=hmem h2
    exact S.inj _ _ _ _ e1 e2
   ·have : ((st.own.filter fun x => !(x.1 == k)).map fun x => (x.1, Own.frz k o x.2)).map (·.1) = (st.own.filter fun x => !(x.1 == k)).map (·.1) := by
     rw [List.map_map];rfl
    simp only [this]
    exact S.nod.sublist (List.Sublist.map _ List.filter_sublist)
   ·intro b hb
    rcases hb with hb | hb
    ·exact S.mlt b hb
    ·exact (S.oat _ _ hk b hb).2.2
   ·intro s e h
    obtain ⟨⟨s',e'⟩,hm,he⟩:=List.mem_map.1 h
    cases he
    obtain ⟨h1,h2,h3⟩:=S.tmp _ _ hm
    exact ⟨h1,fun ho=>frz_den S hk hf hM hg (h2 ho),h3⟩
   ·intro s e h q c v hq
    obtain ⟨⟨s',e'⟩,hm,he⟩:=List.mem_map.1 h
    cases he
    exact S.grd _ _ hm q c v hq
   ·intro d hd
    obtain ⟨D,e,h1,h2,h3,h4⟩:=S.dfr d hd
    refine ⟨D,e,h1,h2,fun hm=>?_,fun k' o' h=>?_⟩
    ·rcases hm with hm | hm
     ·exact h3 hm
     ·exact h4 _ _ hk hm
    ·obtain ⟨_,e1,_⟩:=hmem h
     exact h4 _ _ e1
  ·exact ⟨M,S⟩
 ·exact ⟨M,S⟩
theorem Sat.frzs {st:St} {a:Act} {w:World} (h:Sat P G st a w):∀ ks,Sat P G (st.frzs ks) a w:=fun ks=>by
 induction ks generalizing st with
 | nil=>exact h
 | cons k ks ih =>
   obtain ⟨env,M,X,S⟩:=h
   obtain ⟨M',S'⟩:=S.frz k
   exact ih ⟨_,_,_,S'⟩
theorem frzRow_ok (S:SatC P G st a w env M X) (e:EV):∃ M',SatC P G (frzRow st e) a w env M' X:=by
 cases e with
 | row r=>exact S.frz r
 | _=>exact ⟨M,S⟩
end
def Env.rek (env:Env) (a b:Nat):Env:={ at_:=fun k=>if k=b then env.at_ a else env.at_ k,rv:=fun k=>if k=b then env.rv a else env.rv k,yl:=env.yl }
theorem rek_via {env:Env} {a b k:Nat} (h:k ≠ b):((env.rek a b).via (rekF a b)).at_ k=env.at_ k/\((env.rek a b).via (rekF a b)).rv k=env.rv k:=by
 show (if rekF a b k=b then env.at_ a else env.at_ (rekF a b k))=env.at_ k/\(if rekF a b k=b then env.rv a else env.rv (rekF a b k))=env.rv k
 unfold rekF
 by_cases e:k=a
 ·rw [if_pos e,if_pos rfl,if_pos rfl,e];exact ⟨rfl,rfl⟩
 ·rw [if_neg e,if_neg h,if_neg h];exact ⟨rfl,rfl⟩
section
variable {M:Nat->Prop} {w:World} {G:Ctx} {st:St} {a:Act} {env:Env} {X:Nat->Prop}
theorem SatC.rekey (S:SatC P G st a w env M X) (p q:Nat):∃ env',SatC P G (st.rekey p q) a w env' M X:=by
 unfold St.rekey
 split
 rotate_left
 ·exact ⟨env,S⟩
 rename_i hf
 unfold freeK at hf
 simp only [Bool.and_eq_true,decide_eq_true_eq] at hf
 obtain ⟨⟨hn,hT⟩,hq⟩:=hf
 have hT:∀ x,x ∈ st.T->x.2.v.names q=false:=fun x hx=>by simpa using List.all_eq_true.1 hT x hx
 have den:∀ {e:EV} {v:Value},e.names q=false->DenE P M w env e v->DenE P M w (env.rek p q) (e.ren (rekF p q)) v:=fun {e v} hne h =>
  ren_den (h.mono (Later.refl M w) (fun k hk=>rek_via (fun e'=>by rw [e',hne] at hk;cases hk)) rfl)
 have okey:∀ {k o},(k,o) ∈ st.own->k ≠ q/\o.names q=false:=fun {k o} h=>noName_own hn h
 refine ⟨env.rek p q,⟨⟨S.gam.1,fun j hj=>?_⟩,S.mx,fun k o h=>?_,fun k o h g hg=>?_,fun k1 o1 k2 o2 h1 h2 hne g hg=>?_,?_,S.mlt,S.xlt,S.siz,fun s e h=>?_,fun s e h=>?_,fun d hd=>?_,S.dno⟩⟩
 ·obtain ⟨h1,h2,h3⟩:=S.gam.2 j hj
  have:j ≠ q:=by omega
  refine ⟨h1,?_,?_⟩
  ·show (if j=q then env.at_ p else env.at_ j)=_
   rw [if_neg this];exact h2
  ·show (if j=q then env.rv p else env.rv j)=_
   rw [if_neg this];exact h3
 ·obtain ⟨k',o',h',rfl,rfl⟩:=mem_renO h
  obtain ⟨hk,ho⟩:=okey h'
  refine ren_own ?_
  have h1:=S.own k' o' h'
  obtain ⟨p1,p2⟩:=rek_via (env:=env) (a:=p) hk
  exact h1.move (Later.refl M w) p1 p2 (fun _ _=>rfl) (fun j hj=>rek_via (fun e=>by rw [e,ho] at hj;cases hj))
 ·obtain ⟨k',o',h',rfl,rfl⟩:=mem_renO h
  have hg:((env.rek p q).via (rekF p q)).at_ k'=some g:=hg
  rw [(rek_via (okey h').1).1] at hg
  exact S.oat k' o' h' g hg
 ·obtain ⟨k1',o1',h1',rfl,rfl⟩:=mem_renO h1
  obtain ⟨k2',o2',h2',rfl,rfl⟩:=mem_renO h2
  have hg:((env.rek p q).via (rekF p q)).at_ k1'=some g:=hg
  rw [(rek_via (okey h1').1).1] at hg
  show ((env.rek p q).via (rekF p q)).at_ k2' ≠ some g
  rw [(rek_via (okey h2').1).1]
  exact S.inj k1' o1' k2' o2' h1' h2' (fun e=>hne (by rw [e])) g hg
 ·show (keysO (renO (rekF p q) st.own)).Nodup
  rw [keysO_renO]
  refine List.pairwise_map.2 ((List.pairwise_map.1 S.nod |> fun h=>List.pairwise_map.2 h).imp_of_mem ?_)
  intro x y hx hy hne e
  obtain ⟨⟨k1,o1⟩,m1,rfl⟩:=List.mem_map.1 hx
  obtain ⟨⟨k2,o2⟩,m2,rfl⟩:=List.mem_map.1 hy
  have q1:=(okey m1).1
  have q2:=(okey m2).1
  simp only at hne e q1 q2
  unfold rekF at e
  split at e <;> split at e <;> omega
 ·obtain ⟨x,hx,he⟩:=List.mem_map.1 h
  obtain ⟨s',e'⟩:=x
  simp only [Prod.mk.injEq] at he
  obtain ⟨rfl,rfl⟩:=he
  obtain ⟨h1,h2,h3⟩:=S.tmp s' e' hx
  exact ⟨h1,fun ho=>den (hT _ hx) (h2 ho),h3⟩
 ·obtain ⟨x,hx,he⟩:=List.mem_map.1 h
  obtain ⟨s',e'⟩:=x
  simp only [Prod.mk.injEq] at he
  obtain ⟨rfl,rfl⟩:=he
  exact S.grd s' e' hx
 ·obtain ⟨D,e,h1,h2,h3,h4⟩:=S.dfr d hd
  refine ⟨D,e,h1,h2,h3,fun k o h hc=>?_⟩
  obtain ⟨k',o',h',rfl,rfl⟩:=mem_renO h
  have hc:((env.rek p q).via (rekF p q)).at_ k'=some D:=hc
  rw [(rek_via (okey h').1).1] at hc
  exact h4 k' o' h' hc
theorem Sat.rekeys {st:St} {a:Act} {w:World} (h:Sat P G st a w):∀ l,Sat P G (st.rekeys l) a w:=fun l=>by
 induction l generalizing st with
 | nil=>exact h
 | cons x l ih =>
   obtain ⟨env,M,X,S⟩:=h
   obtain ⟨env',S'⟩:=S.rekey x.1 x.2
   exact ih ⟨_,_,_,S'⟩
end
end Go.SE
namespace Go.SE
open Go.RowKit
variable {P:Program} {M:Nat->Prop} {w:World} {G:Ctx} {st:St} {a:Act} {env:Env} {X:Nat->Prop}
theorem lookupO_nodup {k:Nat} {o:Own}:∀ {l:List (Nat × Own)},(l.map (·.1)).Nodup->(k,o) ∈ l->lookupO l k=some o
 | [],_,h=>by cases h
 | (k',o') :: l,hn,h=>by
   simp only [List.map_cons,List.nodup_cons] at hn
   simp only [lookupO]
   rcases List.mem_cons.1 h with h | h
   ·cases h;simp
   ·have:k' ≠ k:=fun e=>hn.1 (by rw [e];exact List.mem_map.2 ⟨(k,o),h,rfl⟩)
    rw [if_neg (by simpa using this)]
    exact lookupO_nodup hn.2 h
theorem mem_upd_self {l:List (Nat × Own)} {k:Nat} {o o0:Own} (h:(k,o0) ∈ l):(k,o) ∈ upd l k o:=List.mem_map.2 ⟨(k,o0),h,by simp⟩
theorem lastMap_spec:∀ {cs:List EV} {b:Nat} {hs:List SV},lastMap cs=some (b,hs)->cs=hs.map .p ++ [.mapv b]
 | [.mapv b'],b,hs,h=>by simp [lastMap] at h;obtain ⟨rfl,rfl⟩:=h;rfl
 | .p s :: l,b,hs,h=>by
   simp only [lastMap,Option.map_eq_some_iff] at h
   obtain ⟨⟨b',hs'⟩,h1,h2⟩:=h
   simp only [Prod.mk.injEq] at h2
   obtain ⟨rfl,rfl⟩:=h2
   rw [lastMap_spec h1];rfl
 | [],_,_,h=>by simp [lastMap] at h
 | .mapv _ :: _ :: _,_,_,h=>by simp [lastMap] at h
 | .loc _ _ :: _,_,_,h | .row _ :: _,_,_,h | .rsub .. :: _,_,_,h | .rptr .. :: _,_,_,h | .rpre .. :: _,_,_,h | .fptr .. :: _,_,_,h | .cl .. :: _,_,_,h | .ag _ :: _,_,_,h | .fn _ :: _,_,_,h | .yield _ :: _,_,_,h | .any :: _,_,_,h | .full .. :: _,_,_,h=>by simp [lastMap] at h
theorem allL_all:∀ {ps:List Prop},allL ps->all ps
 | [],_=>all_nil
 | [p],h=>fun q hq=>by rw [List.mem_singleton.1 hq];exact h
 | p :: q :: ps,h=>fun r hr=>by
   rcases List.mem_cons.1 hr with rfl | hr
   ·exact h.1
   ·exact allL_all h.2 r hr
theorem fitSL_ok:∀ {l m:List SV},all (fitSL l m)->l.length=m.length /\ ∀ i,i<m.length -> ∀ {M:Nat->Prop} {w:World} {v:Value},DenP M w (SV.at l i) v->DenP M w (SV.at m i) v
 | [],[],_=>⟨rfl,fun i hi=>absurd hi (Nat.not_lt_zero _)⟩
 | s :: l,t :: m,h=>by
   simp only [fitSL] at h
   obtain ⟨h1,h2⟩:=all_append h
   obtain ⟨h3,h4⟩:=fitSL_ok h2
   refine ⟨by simp [h3],fun i hi=>?_⟩
   cases i with
   | zero=>exact fun hd=>fitS_ok h1 hd
   | succ i=>exact h4 i (by simpa using hi)
 | [],_ :: _,h=>(all_one h).elim
 | _ :: _,[],h=>(all_one h).elim
theorem famL_spec {own:List (Nat × Own)}:∀ {bs:List Nat} {fs:List Fam1},famL own bs=some fs->bs.length=2 * fs.length /\ ∀ j f,fs[j]? = some f->bs.getD (2 * j) 0=f.a/\bs.getD (2 * j+1) 0=f.b/\(f.a,Own.oblk f.x f.t f.cs) ∈ own/\(f.b,Own.omq f.y f.kt f.vt f.val) ∈ own
 | [],fs,h=>by simp [famL] at h;subst h;exact ⟨rfl,fun j f hj=>by simp at hj⟩
 | [_],_,h=>by simp [famL] at h
 | p :: q :: l,fs,h=>by
   simp only [famL] at h
   split at h
   ·rename_i x t cs y kt vt val fs' h1 h2 h3
    cases h
    obtain ⟨e1,e2⟩:=famL_spec h3
    refine ⟨by simp [e1];omega,fun j f hj=>?_⟩
    cases j with
    | zero =>
      simp at hj;subst hj
      exact ⟨rfl,rfl,lookupO_mem h1,lookupO_mem h2⟩
    | succ j =>
      obtain ⟨g1,g2,g3⟩:=e2 j f (by simpa using hj)
      refine ⟨?_,?_,g3⟩
      ·rw [show 2 * (j+1)=2 * j+1+1 by omega];simpa using g1
      ·rw [show 2 * (j+1)+1=2 * j+1+1+1 by omega];simpa using g2
   ·cases h
theorem famBlk {M M':Nat->Prop} {w w':World} {env env':Env} {k k' b b':Nat} {t:TypeId} {hs hs':List SV} (h:BlkOk P M w env k t (hs.map .p ++ [.mapv b])) (hl:Later M M' w w') (hk:env'.at_ k'=env.at_ k) (hb:env'.at_ b'=env.at_ b)
  (hh:∀ g,env.at_ k=some g->w'.heap[g]? = w.heap[g]?) (hs1:hs.length=hs'.length) (hs2:∀ i,i<hs'.length -> ∀ {v:Value},DenP M w (SV.at hs i) v->DenP M w (SV.at hs' i) v):BlkOk P M' w' env' k' t (hs'.map .p ++ [.mapv b']):=by
 obtain ⟨g,vs,h1,h2,h3,h4⟩:=h
 simp only [List.length_append,List.length_map,List.length_singleton] at h3 h4
 refine ⟨g,vs,hk.trans h1,(hh g h1).trans h2,by simp;omega,fun i hi=>?_⟩
 simp only [List.length_append,List.length_map,List.length_singleton] at hi
 obtain ⟨e1,e2⟩:=h4 i (by omega)
 refine ⟨e1,?_⟩
 by_cases hlt:i<hs'.length
 ·have q1:EV.at (hs.map .p ++ [.mapv b]) i=.p (SV.at hs i):=by simp [EV.at,SV.at,List.getD_eq_getElem?_getD,List.getElem?_append_left,show i<hs.length by omega]
  have q2:EV.at (hs'.map .p ++ [.mapv b']) i=.p (SV.at hs' i):=by simp [EV.at,SV.at,List.getD_eq_getElem?_getD,List.getElem?_append_left,hlt]
  rw [q1] at e2
  rw [q2]
  rcases e2 with ⟨e2⟩
  exact .p ((hs2 i hlt e2).later hl)
 ·have q1 : EV.at (hs.map .p ++ [.mapv b]) i = .mapv b := by
   simp only [EV.at,List.getD_eq_getElem?_getD]
   rw [List.getElem?_append_right (by simp;omega)]
   simp [show i - hs.length=0 by omega]
  have q2:EV.at (hs'.map .p ++ [.mapv b']) i=.mapv b':=by
   simp only [EV.at,List.getD_eq_getElem?_getD]
   rw [List.getElem?_append_right (by simp;omega)]
   simp [show i - hs'.length=0 by omega]
  rw [q1] at e2
  rw [q2]
  generalize vs.getD i undef=v at e2
  cases e2 with
  | mapv e2=>exact .mapv (hb.trans e2)
theorem famMq {M M':Nat->Prop} {w w':World} {env env':Env} {k k':Nat} {dom:Int->Bool} {val val':Int->SV} (h:MqOk M w env k dom val) (hl:Later M M' w w') (hk:env'.at_ k'=env.at_ k)
  (hh:∀ g,env.at_ k=some g->w'.heap[g]? = w.heap[g]?) (hv:∀ x,dom x=true->val x=val' x):MqOk M' w' env' k' dom val':=by
 obtain ⟨g,es,clock,h1,h2,h3,h4⟩:=h
 exact ⟨g,es,clock,hk.trans h1,(hh g h1).trans h2,h3,fun i hi=>by
  obtain ⟨key,q1,q2,q3⟩:=h4 i hi
  exact ⟨key,q1,q2,by rw [<- hv key q2];exact q3.later hl⟩⟩
theorem famCond_at {c:FamC} {t:c.T} {i:Nat}:∀ {fs:List Fam1} {j:Nat},all (famCond c t i j fs) -> ∀ k f,fs[k]? = some f -> ∃ hs,lastMap f.cs=some (f.b,hs)/\f.t=c.t/\f.kt=c.kt/\f.vt=c.vt/\(i=j+k->f.x=true/\f.y=true/\hs=c.head t /\ ∀ x,f.val x=c.val t x)
 | [],_,_,_,_,h=>by simp at h
 | f0 :: l,j,h,k,f,hk=>by
   simp only [famCond] at h
   obtain ⟨h1,h2⟩:=all_append h
   cases k with
   | zero =>
     simp at hk;subst hk
     split at h1
     ·rename_i b' hs hlm
      split at h1
      ·rename_i hc
       simp only [Bool.and_eq_true,beq_iff_eq] at hc
       obtain ⟨⟨⟨rfl,c1⟩,c2⟩,c3⟩:=hc
       exact ⟨hs,hlm,c1,c2,c3,all_one h1⟩
      ·exact (all_one h1).elim
     ·exact (all_one h1).elim
   | succ k =>
     obtain ⟨hs,e1,e2,e3,e4,e5⟩:=famCond_at h2 k f (by simpa using hk)
     exact ⟨hs,e1,e2,e3,e4,fun e=>e5 (by omega)⟩
theorem callFam_ok (hG:Stable G) (S:SatC P G st a w env M X) {gd:Option (Nat × Bool × Bool)} (hgd:GdOk a gd) (hh:holdsG gd) {dst:Option Nat} (hd:∀ t,dst=some t->t<st.nt) (hq:∀ q c x,gd=some (q,c,x)->dst ≠ some q)
  {bs:List Nat} {i:Nat} {as:List EV} {c:FamC} {g:Nat} (hT:FamCOk P g c) {K:St->Prop} (h:callFam st gd dst bs i as c K) {v0:Value} (hv0:DenE P M w env (.fptr bs i) v0) {vals:List Value} (hl:vals.length=as.length) (hv:∀ j,j<as.length->DenE P M w env (EV.at as j) (vals.getD j undef))
  {N:Act->World->Prop} (hN:∀ st' a' w',K st'->Sat P G st' a' w'->N a' w'):CallsIn Fence.wide 0 P g (v0 :: vals).toArray w (fun e w'=>∃ v,e=.returned v/\N (a.put dst v) w'):=by
 unfold callFam at h
 split at h
 rotate_left
 ·exact h.elim
 rename_i fs hfs
 obtain ⟨t,h⟩:=h
 obtain ⟨h1,hK⟩:=conj_spec h
 obtain ⟨h1,hpre⟩:=all_append (wrapG_all h1 hh)
 obtain ⟨h1,hA⟩:=all_append h1
 obtain ⟨h1,hF⟩:=all_append h1
 have hi:i<fs.length:=all_one h1
 have hpre:c.pre t:=all_one hpre
 obtain ⟨e1,e2⟩:=famL_spec hfs
 obtain ⟨f,hf⟩:∃ f,fs[i]? = some f:=⟨fs[i],List.getElem?_eq_getElem hi⟩
 obtain ⟨ba,bb,ma,mb⟩:=e2 i f hf
 obtain ⟨hs,hlm,ht,hkt,hvt,hcc⟩:=famCond_at hF i f hf
 obtain ⟨hx,hy,hhs,hval⟩:=hcc (by omega)
 have oa:=S.own _ _ ma
 have ob:=S.own _ _ mb
 rw [hx] at oa
 rw [hy] at ob
 have oa:=oa.1 rfl
 obtain ⟨dom,ob⟩:=ob.1 rfl
 have hcs:=lastMap_spec hlm
 rw [hcs] at oa
 have oa0:=oa
 have ob0:=ob
 obtain ⟨ga,va,ha1,ha2,_⟩:=oa0
 obtain ⟨gb,es,clock,hb1,hb2,_⟩:=ob0
 have hab:f.a ≠ f.b:=fun e=>by
  have h3:=lookupO_nodup S.nod ma
  have h4:=lookupO_nodup S.nod mb
  rw [e,h4] at h3
  cases h3
 have hne:ga ≠ gb:=fun e=>S.inj _ _ _ _ ma mb hab ga ha1 (e ▸ hb1)
 obtain ⟨xa,na,la⟩:=S.oat _ _ ma ga ha1
 obtain ⟨xb,nb,lb⟩:=S.oat _ _ mb gb hb1
 let envF:Env:={ at_:=fun k=>if k=0 then some ga else some gb,rv:=fun _=>undef,yl:=0 }
 have hlat:Later M M w w:=Later.refl M w
 have bF:BlkOk P M w envF 0 c.t ((c.head t).map .p ++ [.mapv 1]):=by
  rw [<- ht,<- hhs]
  exact famBlk oa hlat (by simp [envF,ha1]) (by simp [envF,hb1]) (fun _ _=>rfl) rfl (fun i _ _ hd=>hd)
 have mF:MqOk M w envF 1 dom (c.val t):=famMq ob hlat (by simp [envF,hb1]) (fun _ _=>rfl) (fun x _=>hval x)
 cases hv0 with
 | fptr hi2 hv0 =>
 rw [ba,ha1] at hv0
 subst hv0
 obtain ⟨l1,l2⟩:=fitL_ok hA
 have hdl:DenL M w (c.args t) vals:=by
  refine ⟨by rw [hl,l1];simp,fun j hj=>?_⟩
  have:=fitE_ok (l2 j (by simpa using hj)) (hv j (by rw [l1];simpa using hj))
  rw [evat_p _ _ hj] at this
  rcases this with ⟨this⟩;exact this
 refine callsIn_mono (hT t hpre M w envF ga gb vals S.mlt (by simp [envF]) (by simp [envF]) hne na nb lb bF ⟨dom,mF⟩ hdl) ?_
 rintro e w' ⟨v,M',rfl,hs',hM,hM',hMl,bF',⟨dom',mF'⟩,hr⟩
 refine ⟨v,rfl,hN _ _ _ hK ?_⟩
 have hlat':Later M' M' w' w':=Later.refl M' w'
 have S' := S.lentX hG (L := [(f.a, .oblk f.x f.t f.cs), (f.b, .omq f.y f.kt f.vt f.val)]) (L' := [(f.a, .oblk f.x f.t f.cs), (f.b, .omq f.y f.kt f.vt f.val)]) (w' := w') (M' := M') (fun k o h => by
  simp only [List.mem_cons,List.not_mem_nil,or_false,Prod.mk.injEq] at h
  rcases h with ⟨rfl,rfl⟩ | ⟨rfl,rfl⟩
  ·exact ⟨_,ma⟩
  ·exact ⟨_,mb⟩) rfl ⟨hs'.os,hs'.tape,hs'.output,hs'.drawn,hs'.size,fun b hb hn=>hs'.block b hb (fun e=>hn (by
  rcases e with rfl | rfl
  ·exact ⟨_,_,List.mem_cons_self ..,ha1⟩
  ·exact ⟨_,_,List.mem_cons_of_mem _ (List.mem_cons_self ..),hb1⟩))⟩ hM hM' hMl (fun k o h=>by
  simp only [List.mem_cons,List.not_mem_nil,or_false,Prod.mk.injEq] at h
  rcases h with ⟨rfl,rfl⟩ | ⟨rfl,rfl⟩
  ·rw [hx]
   refine ⟨fun _=>?_,fun e=>by cases e⟩
   rw [hcs,ht]
   rw [hhs]
   exact famBlk bF' hlat' (by simp [envF,ha1]) (by simp [envF,hb1]) (fun _ _=>rfl) rfl (fun i _ _ hd=>hd)
  ·rw [hy]
   exact ⟨fun _=>⟨dom',famMq mF' hlat' (by simp [envF,hb1]) (fun _ _=>rfl) (fun x _=>(hval x).symm)⟩,fun e=>by cases e⟩)
 have hown:updAll st.own [(f.a,.oblk f.x f.t f.cs),(f.b,.omq f.y f.kt f.vt f.val)]=st.own:=by
  have up:∀ {k:Nat} {o:Own},(k,o) ∈ st.own->upd st.own k o=st.own:=fun {k o} hm=>by
   unfold upd
   conv=>rhs;rw [<- List.map_id st.own]
   apply List.map_congr_left
   rintro ⟨k',o'⟩ hm'
   by_cases e:k'=k
   ·subst e
    have h3:=lookupO_nodup S.nod hm
    rw [lookupO_nodup S.nod hm'] at h3
    cases h3
    simp
   ·simp [e]
  show upd (upd st.own f.a _) f.b _=st.own
  rw [up ma,up mb]
 rw [hown] at S'
 exact ⟨_,_,_,S'.putG hgd hd hq (fun _=>.p hr) (fun hn=>absurd hh hn)⟩
theorem callFam_skip (S:SatC P G st a w env M X) {gd:Option (Nat × Bool × Bool)} (hgd:GdOk a gd) (hh:¬ holdsG gd) {dst:Option Nat} (hd:∀ t,dst=some t->t<st.nt) (hq:∀ q c x,gd=some (q,c,x)->dst ≠ some q)
  {bs:List Nat} {i:Nat} {as:List EV} {c:FamC} {K:St->Prop} (h:callFam st gd dst bs i as c K):∃ st',K st'/\Sat P G st' (a.put dst undef) w:=by
 unfold callFam at h
 split at h
 ·obtain ⟨t,h⟩:=h
  exact ⟨_,(conj_spec h).2,_,_,_,S.putG hgd hd hq (fun h=>absurd h hh) (fun _=>rfl)⟩
 ·exact h.elim
theorem famNew_mem {F:FamN}:∀ {bs:List Nat} {j:Nat} {k:Nat} {o:Own},(k,o) ∈ famNew F j bs->k ∈ bs /\ ∀ q,o.names q=true->q ∈ bs
 | [],_,_,_,h=>by simp [famNew] at h
 | [_],_,_,_,h=>by simp [famNew] at h
 | p :: q :: l,j,k,o,h=>by
   simp only [famNew,List.mem_cons,Prod.mk.injEq] at h
   rcases h with ⟨rfl,rfl⟩ | ⟨rfl,rfl⟩ | h
   ·refine ⟨List.mem_cons_self ..,fun x hx=>?_⟩
    have nl:∀ (hs:List SV),EV.names.namesL x (hs.map .p ++ [.mapv q])=(q == x):=fun hs=>by
     induction hs with
     | nil=>simp [EV.names.namesL,EV.names]
     | cons s l ih=>simpa [EV.names.namesL,EV.names] using ih
    have hx:EV.names.namesL x ((F.head j).map .p ++ [.mapv q])=true:=hx
    rw [nl] at hx
    simp at hx;subst hx
    exact List.mem_cons_of_mem _ (List.mem_cons_self ..)
   ·exact ⟨List.mem_cons_of_mem _ (List.mem_cons_self ..),fun x hx=>by cases hx⟩
   ·obtain ⟨h1,h2⟩:=famNew_mem h
    exact ⟨List.mem_cons_of_mem _ (List.mem_cons_of_mem _ h1),fun x hx=>List.mem_cons_of_mem _ (List.mem_cons_of_mem _ (h2 x hx))⟩
theorem noName_app {l:List (Nat × Own)} {k:Nat} (h:st.noName k=true) (hl:∀ k' o,(k',o) ∈ l->k' ≠ k/\o.names k=false):({ st with own:=l ++ st.own }:St).noName k=true:=by
 unfold St.noName
 rw [List.all_append,Bool.and_eq_true]
 refine ⟨List.all_eq_true.2 fun x hx=>?_,h⟩
 obtain ⟨h1,h2⟩:=hl x.1 x.2 hx
 simp [h1,h2]
theorem famNew_ok (hG:Stable G) {F:FamN}:∀ (bs:List Nat) (j:Nat) {env:Env} {X:Nat->Prop},SatC P G st a w env M X->bs.Nodup->(∀ k,k ∈ bs->k<st.nt/\st.noName k=true /\ ∀ s e,(s,e) ∈ st.T->e.v.names k=false) ->
  ∃ env' X',SatC P G { st with own:=famNew F j bs ++ st.own } a w env' M X'/\(∀ k,k ∉ bs->env'.at_ k=env.at_ k/\env'.rv k=env.rv k) /\ ∀ i,2 * i+1<bs.length->env'.at_ (bs.getD (2 * i) 0)=none
 | [],j,env,X,S,_,_=>⟨env,X,S,fun _ _=>⟨rfl,rfl⟩,fun i hi=>by simp at hi⟩
 | [p],j,env,X,S,_,_=>⟨env,X,S,fun _ _=>⟨rfl,rfl⟩,fun i hi=>by simp at hi⟩
 | p :: q :: l,j,env,X,S,hnd,hk=>by
   rw [List.nodup_cons,List.nodup_cons] at hnd
   obtain ⟨hp,hq,hnd⟩:=hnd
   obtain ⟨e1,X1,S1,k1,k2⟩:=famNew_ok hG l (j+1) S hnd (fun k hm=>hk k (List.mem_cons_of_mem _ (List.mem_cons_of_mem _ hm)))
   have hpq:p ≠ q:=fun e=>hp (e ▸ List.mem_cons_self ..)
   have hpl:p ∉ l:=fun e=>hp (List.mem_cons_of_mem _ e)
   obtain ⟨a1,a2,a3⟩:=hk q (List.mem_cons_of_mem _ (List.mem_cons_self ..))
   obtain ⟨b1,b2,b3⟩:=hk p (List.mem_cons_self ..)
   have nn:∀ {k},k ∉ l -> ∀ k' o,(k',o) ∈ famNew F (j+1) l->k' ≠ k/\o.names k=false:=fun {k} hkl k' o hm=>by
    obtain ⟨h1,h2⟩:=famNew_mem hm
    refine ⟨fun e=>hkl (e ▸ h1),?_⟩
    cases hx:o.names k with
    | false=>rfl
    | true=>exact absurd (h2 k hx) hkl
   have hsame:Same (fun _=>False) w w:=⟨rfl,rfl,rfl,Nat.le_refl _,Nat.le_refl _,fun _ _ _=>rfl⟩
   let e2:Env:={ e1 with at_:=fun k=>if k=q then none else e1.at_ k }
   obtain ⟨X2,S2⟩:=S1.newOwn hG (k:=q) a1 (noName_app a2 (nn hq)) a3 hsame (env':=e2) (fun k hne=>by simp [e2,hne]) rfl (fun g hg=>by simp [e2] at hg) (M':=M) (fun _ h=>h) (fun _ h=>.inl h) S.mlt (o:=.omq false F.kt F.vt (F.val j)) ⟨fun e=>(by cases e),fun _=>(by simp [e2])⟩
   let e3:Env:={ e2 with at_:=fun k=>if k=p then none else e2.at_ k }
   have np:({ st with own:=(q,Own.omq false F.kt F.vt (F.val j)) :: (famNew F (j+1) l ++ st.own) }:St).noName p=true:=by
    have:=noName_app b2 (nn hpl)
    unfold St.noName at this ⊢
    rw [List.all_cons,this]
    simp [Own.names,Ne.symm hpq]
   obtain ⟨X3,S3⟩:=S2.newOwn hG (k:=p) b1 np b3 hsame (env':=e3) (fun k hne=>by simp [e3,hne]) rfl (fun g hg=>by simp [e3] at hg) (M':=M) (fun _ h=>h) (fun _ h=>.inl h) S.mlt (o:=.oblk false F.t ((F.head j).map .p ++ [.mapv q])) ⟨fun e=>(by cases e),fun _=>(by simp [e3])⟩
   refine ⟨e3,X3,S3,fun k hm=>?_,fun i hi=>?_⟩
   ·simp only [List.mem_cons,not_or] at hm
    obtain ⟨h1,h2⟩:=k1 k hm.2.2
    exact ⟨by simp [e3,e2,hm.1,hm.2.1,h1],by simp [e3,e2,h2]⟩
   ·cases i with
    | zero=>simp [e3]
    | succ i =>
      have e:(p :: q :: l).getD (2 * (i+1)) 0=l.getD (2 * i) 0:=by rw [show 2 * (i+1)=2 * i+1+1 by omega];simp
      have hi':2 * i+1<l.length:=by simp at hi;omega
      have hm:=getD_mem (bs:=l) (j:=2 * i) (by omega)
      rw [e]
      have n1:l.getD (2 * i) 0 ≠ p:=fun e=>hpl (e ▸ hm)
      have n2:l.getD (2 * i) 0 ≠ q:=fun e=>hq (e ▸ hm)
      simp only [e3,e2,n1,n2,if_false]
      exact k2 i hi'
theorem madeCells_at {z:Array Value} {sz n k:Nat} (hz:z.size=sz) (hsz:0<sz) (hk:k<n):(madeCells z n).getD k undef=z.getD (k % sz) undef:=by
 have hmod:k % sz<z.size:=by rw [hz];exact Nat.mod_lt _ hsz
 simp only [madeCells,Array.getD_eq_getD_getElem?]
 simp [hk,hz,getElem!_pos z (k % sz) hmod]
 rw [Array.getElem?_eq_getElem hmod];rfl
theorem stepNew_ok (hG:Stable G) (S:SatC P G st a w env M X) {C:Cfg} {d:Nat} (hd:d<st.nt) {t:TypeId} {l c:Operand} {K:St->Prop} (h:stepNew P C st d t l c K) :
  ∃ v w',(Instr.makeSlice t (a.eval l) (a.eval c)).run P w=.ok v w' /\ ∃ st',K st'/\Sat P G st' (a.put (some d) v) w':=by
 have hgd:GdOk a none:=fun q c x h=>by cases h
 unfold stepNew at h
 split at h
 ·rename_i e k1 n k2 m hu hl hc
  split at h
  ·rename_i y hy
   split at h
   ·rename_i hcd
    obtain ⟨hsz,hzs,hb,hone,hn⟩:=hcd
    obtain ⟨i,hi,hz,hs,hby,_⟩:=tyOf_spec hy
    have el:=rho_ok S hgd trivial hl
    have ec:=rho_ok S hgd trivial hc
    rcases el with ⟨el⟩
    rcases ec with ⟨ec⟩
    generalize hel:a.eval l=vl at el
    generalize hec:a.eval c=vc at ec
    cases el;cases ec
    have hrun:0 <= n->n <= m->m * (y.bytes:Int) <= 140737488355328->(Instr.makeSlice t (.int k1 n) (.int k2 m)).run P w=.ok (.slice (some ⟨w.heap.size,0,none⟩) n.toNat m.toNat) (w.alloc (.cells (madeCells y.zero.cells (m.toNat * y.size)) e))/\m.toNat <= maxLen:=fun p1 p2 p3=>by
     have hmb:m <= 140737488355328:=by
      have:m * 1 <= m * (y.bytes:Int):=Int.mul_le_mul_of_nonneg_left (by omega) (by omega)
      omega
     have hrun:=run_make (P:=P) w t e i y.zero hu hi hz k1 k2 n m p1 p2 (by rw [hby,Int.mul_comm];omega) (by omega)
     rw [hs] at hrun
     exact ⟨hrun,by unfold maxLen;omega⟩
    split at h
    ·obtain ⟨h1,h2⟩:=conj_spec h
     obtain ⟨p1,p2,p3⟩:=all_one h1
     obtain ⟨r1,r2⟩:=hrun p1 p2 p3
     obtain ⟨env',X',S',hrv⟩:=newRow_ok hG S hd hn (e:=e) (cur:=madeCells y.zero.cells (m.toNat * y.size)) (n:=m.toNat) (cap:=m.toNat) (sz:=y.size) (get:=fun _=>y.zero.cells.toList.map svOf) (size_madeCells _ _) (Nat.le_refl _) r2 (fun i hi=>by simpa using hzs) (fun i hi j hj=>by
      have:=idx_lt (sz:=y.size) (len:=m.toNat) (i:=i) hi hj
      rw [madeCells_at hzs hsz this]
      have hmod:(i * y.size+j) % y.size=j:=by rw [Nat.mul_comm,Nat.mul_add_mod,Nat.mod_eq_of_lt hj]
      rw [hmod]
      have hj':j<y.zero.cells.size:=by omega
      have hd':=(denL_svOf (M:=M) (w:=w) y.zero.cells.toList).2 j (by simpa using hj')
      rw [Array.getD_eq_getD_getElem?,Array.getElem?_eq_getElem hj']
      rw [List.getD_eq_getElem?_getD,List.getElem?_eq_getElem (by simpa using hj')] at hd'
      simp only [Option.getD_some,Array.getElem_toList] at hd' ⊢
      exact ⟨by have:=Array.all_eq_true.1 hone j hj';simpa using this,hd'⟩)
     exact ⟨_,_,r1,_,h2,_,_,_,S'.put0 (by intro t' ht;cases ht;exact hd) (.rpre hrv (by omega))⟩
    ·rename_i F hF
     split at h
     rotate_left
     ·exact h.elim
     rename_i hzp
     split at h
     rotate_left
     ·exact h.elim
     rename_i hfr
     simp only [Bool.and_eq_true,Bool.not_eq_true',List.all_eq_true] at hfr
     obtain ⟨⟨f1,f2⟩,f3⟩:=hfr
     obtain ⟨h1,h2⟩:=conj_spec h
     obtain ⟨p1,p2,p3⟩:=h1 _ (List.mem_cons_self ..)
     have p4:=h1 _ (List.mem_cons_of_mem _ (List.mem_cons_self ..))
     obtain ⟨r1,r2⟩:=hrun p1 p2 p3
     have hsz1:y.size=1:=by
      have:=congrArg List.length hzp
      simp at this;omega
     have hdn:d ∉ F.bs:=by
      intro hm
      rw [<- List.contains_iff_mem,f2] at hm
      cases hm
     have hfree:∀ k,k ∈ F.bs->k<(st.forget d).nt/\(st.forget d).noName k=true /\ ∀ s e,(s,e) ∈ (st.forget d).T->e.v.names k=false:=fun k hm=>by
      have:=f3 k hm
      unfold freeK at this
      simp only [Bool.and_eq_true,decide_eq_true_eq] at this
      refine ⟨this.2,this.1.1,fun s e he=>?_⟩
      have:=List.all_eq_true.1 this.1.2 _ he
      simpa using this
     obtain ⟨e1,X1,S1,k1',k2'⟩:=famNew_ok hG F.bs 0 (F:=F) (S.forget d) (nodupB_ok f1) hfree
     have hnd:({ st.forget d with own:=famNew F 0 F.bs ++ (st.forget d).own }:St).noName d=true:=noName_app hn (fun k' o hm=>by
      obtain ⟨q1,q2⟩:=famNew_mem hm
      refine ⟨fun e=>hdn (e ▸ q1),?_⟩
      cases hx:o.names d with
      | false=>rfl
      | true=>exact absurd (q2 d hx) hdn)
     have hsm:=same_alloc w (.cells (madeCells y.zero.cells (m.toNat * y.size)) e)
     let e2:=e1.set d w.heap.size (.slice (some ⟨w.heap.size,0,none⟩) n.toNat m.toNat)
     have hne:∀ j,j ≠ d->e2.at_ j=e1.at_ j/\e2.rv j=e1.rv j:=Env.set_other e1 d _ _
     obtain ⟨X',S'⟩:=S1.newOwn hG (k:=d) hd hnd (fun s e h=>forget_T h) hsm (env':=e2) hne rfl (fun g hg=>by rw [Env.set_at] at hg;cases hg;simp) (M':=M) (fun b h=>h) (fun b h=>.inl h) (fun b h=>by have:=S.mlt b h;simp;omega)
      (o:=.prow e n.toNat F.bs) ⟨by omega,p4,w.heap.size,m.toNat,_,Env.set_at _ _ _ _,Env.set_rv _ _ _ _,Array.getElem?_push_size,by omega,r2,by rw [size_madeCells,hsz1,Nat.mul_one],fun i hi=>by
       have hm:=getD_mem (bs:=F.bs) (j:=2 * i) (by omega)
       rw [(hne _ (fun e=>hdn (e ▸ hm))).1,k2' i (by omega),madeCells_at hzs hsz (by rw [hsz1];omega),hsz1,Nat.mod_one,Array.getD_eq_getD_getElem?]
       have:y.zero.cells = #[.pointer none]:=by apply Array.ext';rw [hzp]
       rw [this];rfl⟩
     exact ⟨_,_,r1,_,h2,_,_,_,S'.put0 (by intro t' ht;cases ht;exact hd) (.row (Env.set_rv _ _ _ _))⟩
   ·exact h.elim
  ·exact h.elim
 ·exact h.elim
theorem SatC.reowned (S:SatC P G st a w env M X) {T':List (Nat × Ent)} {own':List (Nat × Own)} {env':Env} (φ:Nat->Nat) (hT:∀ x,x ∈ T'->x ∈ st.T /\ ∀ k,x.2.v.names k=true->env'.at_ k=env.at_ k/\env'.rv k=env.rv k)
  (hnod:(own'.map (·.1)).Nodup) (hφ:∀ k o,(k,o) ∈ own'->(∃ o0,(φ k,o0) ∈ st.own)/\env'.at_ k=env.at_ (φ k)) (hinj:∀ k1 o1 k2 o2,(k1,o1) ∈ own'->(k2,o2) ∈ own'->k1 ≠ k2->φ k1 ≠ φ k2)
  (hown:∀ k o,(k,o) ∈ own'->OwnOk P M w env' k o) (hpin:PinOk G env' st.nt):SatC P G { st with T:=T',own:=own' } a w env' M X:=by
 refine ⟨⟨S.gam.1,hpin⟩,S.mx,hown,fun k o h g hg=>?_,fun k1 o1 k2 o2 h1 h2 hne g hg1=>?_,hnod,S.mlt,S.xlt,S.siz,fun s e h=>?_,fun s e h=>S.grd s e (hT _ h).1,fun d hd=>?_,S.dno⟩
 ·obtain ⟨⟨o0,q1⟩,q2⟩:=hφ k o h
  exact S.oat _ _ q1 g (q2 ▸ hg)
 ·obtain ⟨⟨p0,q1⟩,q2⟩:=hφ k1 o1 h1
  obtain ⟨⟨p1,q3⟩,q4⟩:=hφ k2 o2 h2
  rw [q4]
  exact S.inj _ _ _ _ q1 q3 (hinj _ _ _ _ h1 h2 hne) g (q2 ▸ hg1)
 ·obtain ⟨q1,q2⟩:=hT _ h
  obtain ⟨h1,h2,h3⟩:=S.tmp s e q1
  exact ⟨h1,fun ho=>(h2 ho).go (Later.refl M w) q2,h3⟩
 ·obtain ⟨D,e,h1,h2,h3,h4⟩:=S.dfr d hd
  refine ⟨D,e,h1,h2,h3,fun k o h=>?_⟩
  obtain ⟨⟨o0,q1⟩,q2⟩:=hφ k o h
  rw [q2]
  exact h4 _ _ q1
theorem famSet_keys (i:Nat):∀ (fs:List Fam1) (j:Nat) (own:List (Nat × Own)),(famSet i j fs own).map (·.1)=own.map (·.1)
 | [],_,_=>rfl
 | f :: l,j,own=>by simp only [famSet];rw [famSet_keys i l,upd_keys,upd_keys]
theorem famSet_mem {i:Nat}:∀ (fs:List Fam1) (j:Nat) (own:List (Nat × Own)) {k:Nat} {o:Own},(k,o) ∈ famSet i j fs own ->
  (∃ (q:Nat) (f:Fam1),fs[q]? = some f/\((k=f.a/\o=.oblk (f.x || decide (i=j+q)) f.t f.cs)\/(k=f.b/\o=.omq (f.y || decide (i=j+q)) f.kt f.vt f.val)))\/((k,o) ∈ own /\ ∀ (q:Nat) (f:Fam1),fs[q]? = some f->k ≠ f.a/\k ≠ f.b)
 | [],_,_,_,_,h=>.inr ⟨h,fun q f hq=>by simp at hq⟩
 | f0 :: l,j,own,k,o,h=>by
   simp only [famSet] at h
   rcases famSet_mem l (j+1) _ h with ⟨q,f,h1,h2⟩ | ⟨h1,h2⟩
   ·refine .inl ⟨q+1,f,by simpa using h1,?_⟩
    rw [show j+(q+1)=j+1+q by omega]
    exact h2
   ·rcases mem_upd h1 with ⟨e1,e2,_⟩ | ⟨hb,h1⟩
    ·exact .inl ⟨0,f0,rfl,.inr ⟨e1,e2⟩⟩
    ·rcases mem_upd h1 with ⟨e1,e2,_⟩ | ⟨ha,h1⟩
     ·exact .inl ⟨0,f0,rfl,.inl ⟨e1,e2⟩⟩
     ·refine .inr ⟨h1,fun q f hq=>?_⟩
      cases q with
      | zero=>simp at hq;subst hq;exact ⟨ha,hb⟩
      | succ q=>exact h2 q f (by simpa using hq)
theorem putCond_at {i:Nat} {tA kt vt:TypeId} {hs:List SV} {dom:Int->Bool} {val:Int->SV}:∀ {fs:List Fam1} {j:Nat},all (putCond i tA kt vt hs dom val j fs) -> ∀ k f,fs[k]? = some f ->
  ∃ hs',lastMap f.cs=some (f.b,hs')/\f.t=tA/\f.kt=kt/\f.vt=vt/\(i=j+k->f.x=false/\f.y=false/\(∀ x,dom x=true->val x=f.val x)/\all (fitSL hs hs'))
 | [],_,_,_,_,h=>by simp at h
 | f0 :: l,j,h,k,f,hk=>by
   simp only [putCond] at h
   obtain ⟨h1,h2⟩:=all_append h
   cases k with
   | zero =>
     simp at hk;subst hk
     split at h1
     ·rename_i b' hs' hlm
      split at h1
      ·rename_i hc
       simp only [Bool.and_eq_true,beq_iff_eq] at hc
       obtain ⟨⟨⟨rfl,c1⟩,c2⟩,c3⟩:=hc
       refine ⟨hs',hlm,c1,c2,c3,fun e=>?_⟩
       obtain ⟨q1,q2,q3,q4⟩:=all_one h1 e
       exact ⟨q1,q2,q3,allL_all q4⟩
      ·exact (all_one h1).elim
     ·exact (all_one h1).elim
   | succ k =>
     obtain ⟨hs',e1,e2,e3,e4,e5⟩:=putCond_at h2 k f (by simpa using hk)
     exact ⟨hs',e1,e2,e3,e4,fun e=>e5 (by omega)⟩
theorem getD_inj {bs:List Nat} (h:bs.Nodup) {i j:Nat} (hi:i<bs.length) (hj:j<bs.length) (e:bs.getD i 0=bs.getD j 0):i=j:=by
 have hp:=List.pairwise_iff_getElem.1 h
 rw [List.getD_eq_getElem?_getD,List.getD_eq_getElem?_getD,List.getElem?_eq_getElem hi,List.getElem?_eq_getElem hj] at e
 have e:bs[i]=bs[j]:=e
 rcases Nat.lt_trichotomy i j with h1 | h1 | h1
 ·exact absurd e (hp i j hi hj h1)
 ·exact h1
 ·exact absurd e.symm (hp j i hj hi h1)
theorem names_last {x b:Nat}:∀ (hs:List SV),EV.names.namesL x (hs.map .p ++ [.mapv b])=(b == x)
 | []=>by simp [EV.names.namesL,EV.names]
 | s :: l=>by simpa [EV.names.namesL,EV.names] using names_last l
theorem stepPut_ok (hG:Stable G) (S:SatC P G st a w env M X) {t:TypeId} {r i A:Nat} {K:St->Prop} (h:stepPut P st t r i A K) {vp vx:Value} (hp:DenE P M w env (.rptr r 1 i 0) vp) (hx:DenE P M w env (.loc A 0) vx) :
  ∃ w',(Instr.storeAt t vp vx).run P w=.ok () w' /\ ∃ st',K st'/\Sat P G st' a w':=by
 unfold stepPut at h
 split at h
 rotate_left
 ·exact h.elim
 rename_i e n bs tA csA hr hA
 split at h
 rotate_left
 ·exact h.elim
 rename_i fs B hs hfs hlm
 split at h
 rotate_left
 ·exact h.elim
 rename_i kt vt dom val y hB hy
 split at h
 rotate_left
 ·exact h.elim
 rename_i hc
 obtain ⟨⟨hys,hrA,hrB,hAB⟩,hc⟩:=hc
 simp only [Bool.and_eq_true,Bool.not_eq_true',List.all_eq_true,Bool.or_eq_true,beq_iff_eq,decide_eq_true_eq] at hc
 obtain ⟨⟨⟨⟨⟨⟨c1,c2⟩,c3⟩,c4⟩,c5⟩,c6⟩,c7⟩:=hc
 have c1:=nodupB_ok c1
 have nin:∀ {k},bs.contains k=false->k ∉ bs:=fun {k} h hm=>by rw [<- List.contains_iff_mem,h] at hm;cases hm
 have c3:=nin c3
 have c4:=nin c4
 have c5:=nin c5
 obtain ⟨h1,hK⟩:=conj_spec h
 obtain ⟨h1,hC⟩:=all_append h1
 have hin:i<n:=all_one h1
 obtain ⟨e1,e2⟩:=famL_spec hfs
 have mr:=lookupO_mem hr
 have mA:=lookupO_mem hA
 have mB:=lookupO_mem hB
 obtain ⟨hm0,hbs,g,cap,cur,hg,hrv,hh,hnc,hcm,hcs,hd⟩:=S.own _ _ mr
 have hifs:i<fs.length:=by omega
 obtain ⟨f,hf⟩:∃ f,fs[i]? = some f:=⟨fs[i],List.getElem?_eq_getElem hifs⟩
 obtain ⟨ba,bb,ma,mb⟩:=e2 i f hf
 obtain ⟨hs',hlm',ht,hkt,hvt,hcc⟩:=putCond_at hC i f hf
 obtain ⟨hxf,hyf,hval,hfit⟩:=hcc (by omega)
 cases hp with
 | @rptr _ _ _ _ g' hg' =>
 rw [hg] at hg';cases hg'
 cases hx with
 | @loc _ _ gA hgA =>
 -- the write
 have hrun:=run_storeAt (P:=P) (w:=w) hy (g:=g) (o:=i * 1+0) hh (v:=.pointer (some ⟨gA,0,none⟩)) (by rw [hys];rfl) (by omega) (fun u hu=>by simp [Value.cells] at hu;subst hu;rfl)
 obtain ⟨hsm,hss⟩:=same_setRow (w:=w) (g:=g) (cur.toList.take (i * 1+0) ++ (Value.pointer (some ⟨gA,0,none⟩)).cells.toList ++ cur.toList.drop (i * 1+0+(Value.pointer (some ⟨gA,0,none⟩)).cells.toList.length)).toArray
 have hheap:=setRow_heap w g cur (cur.toList.take (i * 1+0) ++ (Value.pointer (some ⟨gA,0,none⟩)).cells.toList ++ cur.toList.drop (i * 1+0+(Value.pointer (some ⟨gA,0,none⟩)).cells.toList.length)).toArray e _ hh
 have hcell:∀ j,j<n->(cur.toList.take (i * 1+0) ++ (Value.pointer (some ⟨gA,0,none⟩)).cells.toList ++ cur.toList.drop (i * 1+0+(Value.pointer (some ⟨gA,0,none⟩)).cells.toList.length)).toArray.getD j undef=if j=i then Value.pointer (some ⟨gA,0,none⟩) else cur.getD j undef:=fun j hj=>by
  rw [getD_stored cur (i * 1+0) (Value.pointer (some ⟨gA,0,none⟩)).cells.toList (by simp [Value.cells];omega) j (by omega)]
  have e:(Value.pointer (some ⟨gA,0,none⟩)).cells.toList = [Value.pointer (some ⟨gA,0,none⟩)]:=rfl
  rw [e]
  by_cases hji:j=i
  ·subst hji
   rw [if_pos rfl,if_pos ⟨by omega,by simp⟩]
   simp
  ·rw [if_neg hji,if_neg (by simp;omega)]
 have hsz':(cur.toList.take (i * 1+0) ++ (Value.pointer (some ⟨gA,0,none⟩)).cells.toList ++ cur.toList.drop (i * 1+0+(Value.pointer (some ⟨gA,0,none⟩)).cells.toList.length)).toArray.size=cap:=by simp [Value.cells];omega
 generalize (cur.toList.take (i * 1+0) ++ (Value.pointer (some ⟨gA,0,none⟩)).cells.toList ++ cur.toList.drop (i * 1+0+(Value.pointer (some ⟨gA,0,none⟩)).cells.toList.length)).toArray=cur' at *
 have S1:=S.write hG mr hg hsm hss (o:=.row e 1 n (fun j=>[.raw (cur'.getD j undef)])) ⟨hm0,fun _ _=>rfl,.inr ⟨g,cap,cur',hg,hrv,hheap,hnc,hcm,by omega,fun j hj k hk=>by
  obtain rfl:k=0:=by omega
  rw [show j * 1+0=j by omega]
  refine ⟨?_,.raw _⟩
  rw [hcell j hj]
  split
  ·rfl
  ·rw [hd j hj];rfl⟩⟩
 generalize w.setRow g cur'=w' at *
 let env':Env:={ env with at_:=fun k=>if k=f.a then env.at_ A else if k=f.b then env.at_ B else env.at_ k }
 have hfb:∀ (q:Nat) (fq:Fam1),fs[q]? = some fq->2 * q+1<bs.length/\fq.a ∈ bs/\fq.b ∈ bs:=fun q fq hq=>by
  have hlt:q<fs.length:=(List.getElem?_eq_some_iff.1 hq).1
  obtain ⟨q1,q2,_⟩:=e2 q fq hq
  exact ⟨by omega,q1 ▸ getD_mem (by omega),q2 ▸ getD_mem (by omega)⟩
 have hab:f.a ≠ f.b:=fun e=>by
  have:=getD_inj c1 (i:=2 * i) (j:=2 * i+1) (by omega) (by omega) (by rw [ba,bb,e])
  omega
 have hdis:∀ (q:Nat) (fq:Fam1),fs[q]? = some fq->q ≠ i->fq.a ≠ f.a/\fq.a ≠ f.b/\fq.b ≠ f.a/\fq.b ≠ f.b:=fun q fq hq hne=>by
  obtain ⟨q1,q2,_⟩:=e2 q fq hq
  obtain ⟨q3,_⟩:=hfb q fq hq
  refine ⟨fun e=>?_,fun e=>?_,fun e=>?_,fun e=>?_⟩
  ·have:=getD_inj c1 (i:=2 * q) (j:=2 * i) (by omega) (by omega) (by rw [q1,ba,e]);omega
  ·have:=getD_inj c1 (i:=2 * q) (j:=2 * i+1) (by omega) (by omega) (by rw [q1,bb,e]);omega
  ·have:=getD_inj c1 (i:=2 * q+1) (j:=2 * i) (by omega) (by omega) (by rw [q2,ba,e]);omega
  ·have:=getD_inj c1 (i:=2 * q+1) (j:=2 * i+1) (by omega) (by omega) (by rw [q2,bb,e]);omega
 have envA:env'.at_ f.a=env.at_ A:=by simp [env']
 have envB:env'.at_ f.b=env.at_ B:=by simp [env',Ne.symm hab]
 have envO:∀ k,k ≠ f.a->k ≠ f.b->env'.at_ k=env.at_ k/\env'.rv k=env.rv k:=fun k h1 h2=>by simp [env',h1,h2]
 have nbs:∀ k,k ∉ bs->k ≠ f.a/\k ≠ f.b:=fun k hk=>⟨fun e=>hk (e ▸ (hfb i f hf).2.1),fun e=>hk (e ▸ (hfb i f hf).2.2)⟩
 have hlat:Later M M w' w':=Later.refl M w'
 have mem1:∀ {k o},(k,o) ∈ st.own->k ≠ r->(k,o) ∈ upd st.own r (.row e 1 n (fun j=>[.raw (cur'.getD j undef)])):=fun {k o} hm hne=>List.mem_map.2 ⟨(k,o),hm,by simp [hne]⟩
 have hkr:∀ {k},k ∈ bs->k ≠ r:=fun hm e=>c5 (e ▸ hm)
 refine ⟨w',hrun,_,hK,env',M,X,?_⟩
 have own1:∀ k o,(k,o) ∈ famSet i 0 fs (st.own.filter fun x=>!(x.1 == A) && !(x.1 == B))->(∃ (q:Nat) (fq:Fam1),fs[q]? = some fq/\((k=fq.a/\o=.oblk (fq.x || decide (i=0+q)) fq.t fq.cs)\/(k=fq.b/\o=.omq (fq.y || decide (i=0+q)) fq.kt fq.vt fq.val)))\/((k,o) ∈ st.own/\k ≠ A/\k ≠ B /\ ∀ (q:Nat) (fq:Fam1),fs[q]? = some fq->k ≠ fq.a/\k ≠ fq.b):=fun k o hm=>by
  rcases famSet_mem _ _ _ hm with h | ⟨h1,h2⟩
  ·exact .inl h
  ·obtain ⟨q1,q2⟩:=List.mem_filter.1 h1
   simp only [Bool.and_eq_true,Bool.not_eq_true',beq_eq_false_iff_ne,ne_eq] at q2
   exact .inr ⟨q1,q2.1,q2.2,h2⟩
 refine S1.reowned (fun k=>if k=f.a then A else if k=f.b then B else k) (fun x hx=>?_) ?_ (fun k o hm=>?_) (fun k1 o1 k2 o2 h1 h2 hne=>?_) (fun k o hm=>?_) (fun k hk=>?_)
 ·refine ⟨(List.mem_filter.1 (List.mem_filter.1 hx).1).1,fun k hk=>?_⟩
  have:=c6 x hx
  refine envO k (fun e=>?_) (fun e=>?_)
  ·have:=this _ (hfb i f hf).2.1;rw [e,this] at hk;cases hk
  ·have:=this _ (hfb i f hf).2.2;rw [e,this] at hk;cases hk
 ·rw [famSet_keys]
  exact S.nod.sublist (List.filter_sublist.map _)
 ·simp only
  by_cases q1:k=f.a
  ·rw [if_pos q1,q1];exact ⟨⟨_,mem1 mA (Ne.symm hrA)⟩,envA⟩
  ·by_cases q2:k=f.b
   ·rw [if_neg q1,if_pos q2,q2];exact ⟨⟨_,mem1 mB (Ne.symm hrB)⟩,envB⟩
   ·rw [if_neg q1,if_neg q2]
    refine ⟨?_,(envO k q1 q2).1⟩
    rcases own1 k o hm with ⟨q,fq,hq,⟨rfl,_⟩ | ⟨rfl,_⟩⟩ | ⟨h1,_⟩
    ·exact ⟨_,mem1 (e2 q fq hq).2.2.1 (hkr (hfb q fq hq).2.1)⟩
    ·exact ⟨_,mem1 (e2 q fq hq).2.2.2 (hkr (hfb q fq hq).2.2)⟩
    ·by_cases hk:k=r
     ·subst hk;exact ⟨_,mem_upd_self h1⟩
     ·exact ⟨_,mem1 h1 hk⟩
 ·have hk : ∀ k o, (k, o) ∈ famSet i 0 fs (st.own.filter fun x => !(x.1 == A) && !(x.1 == B)) -> k ≠ A /\ k ≠ B := fun k o hm => by
   rcases own1 k o hm with ⟨q,fq,hq,⟨rfl,_⟩ | ⟨rfl,_⟩⟩ | ⟨_,h1,h2,_⟩
   ·exact ⟨fun e=>c3 (e ▸ (hfb q fq hq).2.1),fun e=>c4 (e ▸ (hfb q fq hq).2.1)⟩
   ·exact ⟨fun e=>c3 (e ▸ (hfb q fq hq).2.2),fun e=>c4 (e ▸ (hfb q fq hq).2.2)⟩
   ·exact ⟨h1,h2⟩
  have:=hk _ _ h1
  have:=hk _ _ h2
  have ph:∀ k,(k=f.a/\(if k=f.a then A else if k=f.b then B else k)=A)\/(k=f.b/\(if k=f.a then A else if k=f.b then B else k)=B)\/(if k=f.a then A else if k=f.b then B else k)=k:=fun k=>by
   by_cases p1:k=f.a
   ·exact .inl ⟨p1,if_pos p1⟩
   ·by_cases p2:k=f.b
    ·exact .inr (.inl ⟨p2,by rw [if_neg p1,if_pos p2]⟩)
    ·exact .inr (.inr (by rw [if_neg p1,if_neg p2]))
  intro e
  have e:(if k1=f.a then A else if k1=f.b then B else k1)=(if k2=f.a then A else if k2=f.b then B else k2):=e
  rcases ph k1 with ⟨x1,x2⟩ | ⟨x1,x2⟩ | x2 <;> rcases ph k2 with ⟨y1,y2⟩ | ⟨y1,y2⟩ | y2 <;> rw [x2,y2] at e <;> omega
 ·rcases own1 k o hm with ⟨q,fq,hq,hko⟩ | ⟨h1,h2,h3,h4⟩
  ·obtain ⟨hsq,hlq,_⟩:=putCond_at hC q fq hq
   obtain ⟨_,_,mqa,mqb⟩:=e2 q fq hq
   rw [Nat.zero_add] at hko
   by_cases hqi:q=i
   ·subst hqi
    rw [hf] at hq;cases hq
    rcases hko with ⟨rfl,rfl⟩ | ⟨rfl,rfl⟩
    ·refine ⟨fun _=>?_,fun e=>by simp at e⟩
     have oA:=S1.own _ _ (mem1 mA (Ne.symm hrA))
     have oA:BlkOk P M w' env A tA csA:=oA
     rw [lastMap_spec hlm] at oA
     rw [lastMap_spec hlm',ht]
     obtain ⟨l1,l2⟩:=fitSL_ok hfit
     exact famBlk oA hlat envA envB (fun _ _=>rfl) l1 (fun i hi _ hd=>l2 i hi hd)
    ·refine ⟨fun _=>⟨dom,?_⟩,fun e=>by simp at e⟩
     have oB:MqOk M w' env B dom val:=S1.own _ _ (mem1 mB (Ne.symm hrB))
     exact famMq oB hlat envB (fun _ _=>rfl) hval
   ·obtain ⟨d1,d2,d3,d4⟩:=hdis q fq hq hqi
    have hdec:decide (i=q)=false:=decide_eq_false (fun e=>hqi e.symm)
    rcases hko with ⟨rfl,rfl⟩ | ⟨rfl,rfl⟩
    ·rw [hdec,Bool.or_false]
     refine (S1.own _ _ (mem1 mqa (hkr (hfb q fq hq).2.1))).move hlat (envO _ d1 d2).1 (envO _ d1 d2).2 (fun _ _=>rfl) (fun j hj=>?_)
     have hj:EV.names.namesL j fq.cs=true:=hj
     rw [lastMap_spec hlq,names_last] at hj
     obtain rfl:fq.b=j:=by simpa using hj
     exact envO _ d3 d4
    ·rw [hdec,Bool.or_false]
     exact (S1.own _ _ (mem1 mqb (hkr (hfb q fq hq).2.2))).move hlat (envO _ d3 d4).1 (envO _ d3 d4).2 (fun _ _=>rfl) (fun j hj=>by cases hj)
  ·by_cases hk:k=r
   ·subst hk
    have:=lookupO_nodup S.nod h1
    rw [hr] at this;cases this
    obtain ⟨n1,n2⟩:=nbs k c5
    refine ⟨hm0,hbs,g,cap,cur',(envO k n1 n2).1.trans hg,(envO k n1 n2).2.trans hrv,hheap,hnc,hcm,hsz',fun j hj=>?_⟩
    rw [hcell j hj]
    obtain ⟨fj,hfj⟩:∃ fj,fs[j]? = some fj:=⟨fs[j]'(by omega),List.getElem?_eq_getElem (by omega)⟩
    have hbj:=(e2 j fj hfj).1
    by_cases hji:j=i
    ·subst hji
     rw [if_pos rfl,ba,envA,hgA];rfl
    ·obtain ⟨d1,d2,_⟩:=hdis j fj hfj hji
     rw [if_neg hji,hbj,(envO _ d1 d2).1,<- hbj]
     exact hd j hj
   ·have hkn : k ∉ bs := fun hm => by
     have hi2:∃ q,q<bs.length/\bs.getD q 0=k:=by
      obtain ⟨q,hq,e⟩:=List.getElem_of_mem hm
      exact ⟨q,hq,by rw [List.getD_eq_getElem?_getD,List.getElem?_eq_getElem hq];exact e⟩
     obtain ⟨q,hq,e⟩:=hi2
     obtain ⟨fq,hfq⟩:∃ fq,fs[q / 2]? = some fq:=⟨fs[q / 2]'(by omega),List.getElem?_eq_getElem (by omega)⟩
     obtain ⟨x1,x2,_⟩:=e2 _ _ hfq
     obtain ⟨y1,y2⟩:=h4 _ _ hfq
     rcases Nat.mod_two_eq_zero_or_one q with hz | hz
     ·exact y1 (by rw [<- x1,<- e];congr 1;omega)
     ·exact y2 (by rw [<- x2,<- e];congr 1;omega)
    have hnn:=c7 (k,o) h1
    rcases hnn with (h5 | h5) | h5
    ·exact absurd h5 hk
    ·exact absurd (List.contains_iff_mem.1 h5) hkn
    obtain ⟨n1,n2⟩:=nbs k hkn
    refine (S1.own _ _ (mem1 h1 hk)).move hlat (envO k n1 n2).1 (envO k n1 n2).2 (fun _ _=>rfl) (fun j hj=>envO j (fun e=>?_) (fun e=>?_))
    ·have:=h5 _ (hfb i f hf).2.1;rw [e,this] at hj;cases hj
    ·have:=h5 _ (hfb i f hf).2.2;rw [e,this] at hj;cases hj
 ·obtain ⟨p1,p2,p3⟩:=S.gam.2 k hk
  have q1:=c2 _ (hfb i f hf).2.1
  have q2:=c2 _ (hfb i f hf).2.2
  obtain ⟨z1,z2⟩:=envO k (by omega) (by omega)
  exact ⟨p1,z1.trans p2,z2.trans p3⟩
end Go.SE
namespace Go.SE
open Go.RowKit
variable {P:Program} {M:Nat->Prop} {w:World} {G:Ctx} {st:St} {a:Act} {env:Env} {X:Nat->Prop}
theorem isPair_spec {kt:TypeId} (h:isPair P kt=true):∃ el y,P.underlying kt=some (.array 2 el)/\P.underlying el=some (.int .i64)/\tyOf P el=some y/\y.size=1:=by
 unfold isPair at h
 split at h
 ·rename_i el hk
  split at h
  ·rename_i y h1 h2
   exact ⟨el,y,hk,h1,h2,of_decide_eq_true h⟩
  ·cases h
 ·cases h
theorem part_pair {el:TypeId} {y:Ty} (h1:P.underlying el=some (.int .i64)) (hy:tyOf P el=some y) (i j:Int) (w:World) :
  (part el #[.int .i64 i,.int .i64 j] 0).run P w=.ok (.int .i64 i) w/\(part el #[.int .i64 i,.int .i64 j] 1).run P w=.ok (.int .i64 j) w:=by
 obtain ⟨_,hi,_,_,_,hu⟩:=tyOf_spec hy
 have hd:y.desc=.int .i64:=by rw [h1] at hu;exact (Option.some.inj hu).symm
 have ha:(isAgg el).run P w=.ok false w:=by rw [run_isAgg hu,hd];rfl
 constructor <;> simp [part,ha]
theorem run_eq_pair {kt:TypeId} (h:isPair P kt=true) (i j k l:Int) (w:World):(Op.equal kt (.agg #[.int .i64 i,.int .i64 j]) (.agg #[.int .i64 k,.int .i64 l])).run P w=.ok (decide (i=k) && decide (j=l)) w:=by
 obtain ⟨el,y,hk,h1,hy,hz⟩:=isPair_spec h
 obtain ⟨inf,hi,_,hs,_,hu⟩:=tyOf_spec hy
 have hsz:(sizeOf el).run P w=.ok 1 w:=by rw [run_sizeOf hi,hs,hz]
 obtain ⟨a1,a2⟩:=part_pair h1 hy i j w
 obtain ⟨b1,b2⟩:=part_pair h1 hy k l w
 have he:∀ p q:Int,(Op.equalIn 9999 el (.int .i64 p) (.int .i64 q)).run P w=.ok (decide (p=q)) w:=fun p q=>by
  show (Op.equalIn (9998+1) el (.int .i64 p) (.int .i64 q)).run P w=_
  unfold Op.equalIn
  simp only [Sem.run_bind,run_underlying h1,Result.andThen_ok,if_true,Sem.run_pure]
  by_cases e:p=q <;> simp [e]
 show (Op.equalIn (9999+1) kt (.agg #[.int .i64 i,.int .i64 j]) (.agg #[.int .i64 k,.int .i64 l])).run P w=_
 unfold Op.equalIn
 simp only [Sem.run_bind,run_underlying hk,Result.andThen_ok,hsz]
 by_cases e1:i=k
 ·subst e1
  by_cases e2:j=l
  ·subst e2
   simp [List.range',a1,a2,he]
  ·simp [List.range',a1,a2,b1,b2,he,e2]
 ·simp [List.range',a1,b1,he,e1]
theorem run_chk_pair {kt:TypeId} (h:isPair P kt=true) (em:Bool) (i j:Int) (w:World):(Instr.checkKey em 10000 kt (.agg #[.int .i64 i,.int .i64 j])).run P w=.ok () w:=by
 obtain ⟨el,y,hk,h1,hy,hz⟩:=isPair_spec h
 obtain ⟨inf,hi,_,hs,_,hu⟩:=tyOf_spec hy
 have hsz:(sizeOf el).run P w=.ok 1 w:=by rw [run_sizeOf hi,hs,hz]
 obtain ⟨a1,a2⟩:=part_pair h1 hy i j w
 have hc:∀ p:Int,(Instr.checkKey em 9999 el (.int .i64 p)).run P w=.ok () w:=fun p=>run_checkKey_int (.inl ⟨_,h1⟩) (.inl ⟨_,_,rfl⟩) em 9998 w
 show (Instr.checkKey em (9999+1) kt (.agg #[.int .i64 i,.int .i64 j])).run P w=_
 unfold Instr.checkKey
 simp only [Sem.run_bind,run_underlying hk,Result.andThen_ok]
 simp [List.range',a1,a2,hc,hsz]
theorem find_pair {kt:TypeId} (h:isPair P kt=true) (i j:Int) (w:World):∀ (es:List MapEntry) (o:Nat),(∀ e,e ∈ es -> ∃ a b,e.key=.agg #[.int .i64 a,.int .i64 b]) ->
  (∃ q e,es[q]? = some e/\e.key=.agg #[.int .i64 i,.int .i64 j]/\(Instr.findAsking kt (.agg #[.int .i64 i,.int .i64 j]) es o).run P w=.ok (some (o+q,e.val)) w) \/
  (Instr.findAsking kt (.agg #[.int .i64 i,.int .i64 j]) es o).run P w=.ok none w
 | [],o,_=>.inr rfl
 | e :: es,o,hk=>by
   obtain ⟨a,b,hab⟩:=hk e (by simp)
   have hrun:=run_eq_pair h i j a b w
   rw [<- hab] at hrun
   unfold Instr.findAsking
   simp only [Sem.run_bind,hrun,Result.andThen_ok]
   by_cases e1:i=a/\j=b
   ·obtain ⟨rfl,rfl⟩:=e1
    exact .inl ⟨0,e,rfl,hab,by simp⟩
   ·have hf : (decide (i = a) && decide (j = b)) = false := by
     rw [Bool.and_eq_false_iff]
     by_cases h1:i=a
     ·exact .inr (decide_eq_false fun h2=>e1 ⟨h1,h2⟩)
     ·exact .inl (decide_eq_false h1)
    rw [hf]
    simp only [Bool.false_eq_true,if_false]
    rcases find_pair h i j w es (o+1) (fun e he=>hk e (List.mem_cons_of_mem _ he)) with ⟨q,e',q1,q2,q3⟩ | q1
    ·exact .inl ⟨q+1,e',by simpa using q1,q2,by rw [q3];congr 3;omega⟩
    ·exact .inr q1
theorem findKey_pair {kt:TypeId} (h:isPair P kt=true) (i j:Int) (w:World) (es:List MapEntry):(Instr.findKey kt (.agg #[.int .i64 i,.int .i64 j]) es).run P w=(Instr.findAsking kt (.agg #[.int .i64 i,.int .i64 j]) es 0).run P w:=by
 obtain ⟨el,y,hk,_⟩:=isPair_spec h
 cases es with
 | nil=>simp [Instr.findKey,run_underlying hk,Instr.findNow,Instr.findAsking]
 | cons x l=>simp [Instr.findKey,run_underlying hk,Instr.findNow,Instr.sameNow]
theorem upd_id {own:List (Nat × Own)} (hn:(own.map (·.1)).Nodup) {r:Nat} {o:Own} (hm:(r,o) ∈ own):upd own r o=own:=by
 induction own with
 | nil=>rfl
 | cons x l ih =>
   simp only [List.map_cons,List.nodup_cons] at hn
   unfold upd
   rw [List.map_cons]
   rcases List.mem_cons.1 hm with rfl | hm
   ·simp only [beq_self_eq_true,if_true]
    congr 1
    have:∀ y,y ∈ l->(if y.1 == r then (r,o) else y)=y:=fun y hy=>by
     have:y.1 ≠ r:=fun e=>hn.1 (List.mem_map.2 ⟨y,hy,e⟩)
     simp [this]
    exact (List.map_congr_left this).trans (List.map_id' l)
   ·have hx:x.1 ≠ r:=fun e=>hn.1 (e ▸ List.mem_map.2 ⟨(r,o),hm,rfl⟩)
    have:=ih hn.2 hm
    unfold upd at this
    rw [this]
    simp [hx]
theorem arr_mem {es:Array MapEntry} {p:MapEntry->Prop} (h:∀ i,i<es.size->p (es.getD i default)):∀ e,e ∈ es.toList->p e:=fun e he=>by
 obtain ⟨i,hi,rfl⟩:=List.getElem_of_mem he
 have hi:i<es.size:=by simpa using hi
 have:=h i hi
 rw [Array.getD_eq_getD_getElem?,Array.getElem?_eq_getElem hi] at this
 simpa using this
theorem stepLookupS_ok (S:SatC P G st a w env M X) {t:TypeId} {d:Nat} {m k:EV} {co:Bool} {K:St->Prop} (h:stepLookupS P st t d m k co K) {vm vk:Value} (hm:DenE P M w env m vm) (hk:DenE P M w env k vk) :
  ∃ s v,(Instr.lookup t vm vk co).run P w=.ok v w/\DenP M w s v/\K (st.put (some d) ⟨none,.p s⟩):=by
 unfold stepLookupS at h
 split at h
 rotate_left
 ·exact h.elim
 rename_i kt vt r i j ht
 split at h
 rotate_left
 ·exact h.elim
 rename_i kt' vt' ok y hl hy
 split at h
 rotate_left
 ·exact h.elim
 rename_i hp
 obtain ⟨h1,h2⟩:=h
 have hvk:vk=.agg #[.int .i64 i,.int .i64 j]:=by
  cases hk with
  | p hk =>
  cases hk with
  | agg _ vs hl hd =>
    match vs,hl,hd with
    | [u,v],_,hd =>
      have q1:DenP M w (.int .i64 i) u:=hd 0 (by simp)
      have q2:DenP M w (.int .i64 j) v:=hd 1 (by simp)
      cases q1;cases q2;rfl
 subst hvk
 cases hm with
 | @mapv _ g hg =>
 have hmem:=lookupO_mem hl
 obtain ⟨g',es,clock,ha,hh,hd⟩:=S.own _ _ hmem
 rw [hg] at ha
 cases ha
 have two:∀ {s:SV} {v:Value} (b:Bool),DenP M w s v->DenP M w (.tup [s,.bool b]) (.tuple #[v,.bool b]):=fun {s v} b hs =>
  .tup [s,.bool b] [v,.bool b] rfl (fun i hi=>by
   match i,hi with
   | 0,_=>exact hs
   | 1,_=>exact .bool _)
 have hall:=arr_mem (p:=fun e=>∃ a b,e.key=.agg #[.int .i64 a,.int .i64 b]/\ok a b/\e.val=.bool true) hd
 have hfk:=findKey_pair hp i j w es.toList
 rcases find_pair hp i j w es.toList 0 (fun e he=>by obtain ⟨a,b,q,_⟩:=hall e he;exact ⟨a,b,q⟩) with ⟨q,e,q1,q2,q3⟩ | q1
 ·obtain ⟨a',b',r1,r2,r3⟩:=hall e (List.mem_of_getElem? q1)
  rw [q2] at r1
  have e12:i=a'/\j=b':=by injection r1 with r1;simpa using r1
  obtain ⟨rfl,rfl⟩:=e12
  have hr:∀ co,(Instr.lookup t (.map (some g)) (.agg #[.int .i64 i,.int .i64 j]) co).run P w=.ok (if co then .tuple #[.bool true,.bool true] else .bool true) w:=fun co=>by
   unfold Instr.lookup
   simp only [Sem.run_bind,run_underlying ht,Result.andThen_ok,MapKept.run_getObj_map hh,Sem.run_pure,run_chk_pair hp,hfk,q3,r3]
   try (cases co <;> rfl)
  cases co with
  | true=>exact ⟨_,_,hr true,two true (.bool true),h1 r2⟩
  | false=>exact ⟨_,_,hr false,.bool true,h1 r2⟩
 ·obtain ⟨inf,hi,hz,_⟩:=tyOf_spec hy
  have hz:(zeroValue vt).run P w=.ok y.zero w:=by simp [zeroValue,typeInfo,hi,hz]
  have hr:∀ co,(Instr.lookup t (.map (some g)) (.agg #[.int .i64 i,.int .i64 j]) co).run P w=.ok (if co then .tuple #[y.zero,.bool false] else y.zero) w:=fun co=>by
   unfold Instr.lookup
   simp only [Sem.run_bind,run_underlying ht,Result.andThen_ok,MapKept.run_getObj_map hh,Sem.run_pure,run_chk_pair hp,hfk,q1,hz]
   try (cases co <;> rfl)
  cases co with
  | true=>exact ⟨_,_,hr true,two false (den_svOf _),h2⟩
  | false=>exact ⟨_,_,hr false,den_svOf _,h2⟩
theorem stepMapS_ok (hG:Stable G) (S:SatC P G st a w env M X) {t:TypeId} {m k v:EV} {K:St->Prop} (h:stepMapS P st t m k v K) {vm vk vv:Value} (hm:DenE P M w env m vm) (hk:DenE P M w env k vk) (hv:DenE P M w env v vv) :
  ∃ w' st',(Instr.mapUpdate t vm vk vv).run P w=.ok () w'/\K st'/\Sat P G st' a w':=by
 unfold stepMapS at h
 split at h
 rotate_left
 ·exact h.elim
 rename_i kt vt r i j ht
 split at h
 rotate_left
 ·exact h.elim
 rename_i kt' vt' ok x hl
 split at h
 rotate_left
 ·exact h.elim
 rename_i hp
 obtain ⟨h1,h2⟩:=conj_spec h
 have hx:x=true:=h1 _ (List.mem_cons_self ..)
 have hok:ok i j:=h1 _ (List.mem_cons_of_mem _ (List.mem_cons_self ..))
 have hvv:vv=.bool true:=by
  cases hv with
  | p hv=>cases hv;rw [hx]
 subst hvv
 have hvk:vk=.agg #[.int .i64 i,.int .i64 j]:=by
  cases hk with
  | p hk =>
  cases hk with
  | agg _ vs hl hd =>
    match vs,hl,hd with
    | [u,v],_,hd =>
      have q1:DenP M w (.int .i64 i) u:=hd 0 (by simp)
      have q2:DenP M w (.int .i64 j) v:=hd 1 (by simp)
      cases q1;cases q2;rfl
 subst hvk
 cases hm with
 | @mapv _ g hg =>
 have hmem:=lookupO_mem hl
 obtain ⟨g',es,clock,ha,hh,hd⟩:=S.own _ _ hmem
 rw [hg] at ha
 cases ha
 have hall:=arr_mem (p:=fun e=>∃ a b,e.key=.agg #[.int .i64 a,.int .i64 b]/\ok a b/\e.val=.bool true) hd
 have hfk:=findKey_pair hp i j w es.toList
 have fin:∀ w',Same (fun b=>b=g) w w'->w'.heap.size=w.heap.size->OwnOk P M w' env r (.ms kt' vt' ok)->Sat P G st a w':=fun w' s1 s2 s3=>by
  have:=S.write hG hmem hg s1 s2 s3
  rw [upd_id S.nod hmem] at this
  exact ⟨env,M,X,this⟩
 rcases find_pair hp i j w es.toList 0 (fun e he=>by obtain ⟨a,b,q,_⟩:=hall e he;exact ⟨a,b,q⟩) with ⟨q,e,q1,q2,q3⟩ | q1
 ·rw [Nat.zero_add] at q3
  have hq:q<es.size:=by have:=(List.getElem?_eq_some_iff.1 q1).1;simpa using this
  have he:es[q]=e:=by
   rw [Array.getElem?_toList,Array.getElem?_eq_getElem hq] at q1
   exact Option.some.inj q1
  have hstay:∀ w',(Instr.keyThatStays (es[q]).key (.agg #[.int .i64 i,.int .i64 j])).run P w'=.ok (.agg #[.int .i64 i,.int .i64 j]) w':=fun w'=>by
   rw [he,q2]
   unfold Instr.keyThatStays
   rw [if_pos (show Instr.sameBits (9999+1) (.agg #[.int .i64 i,.int .i64 j]) (.agg #[.int .i64 i,.int .i64 j])=true by simp [Instr.sameBits])];rfl
  obtain ⟨s1,s2,s3⟩:=same_set (w:=w) (g:=g) (o':=.map (es.modify q fun e=>{ e with key:=.agg #[.int .i64 i,.int .i64 j],val:=.bool true }) clock) hh
  refine ⟨_,st,?_,h2,fin _ s1 s2 ⟨g,_,clock,hg,s3,fun i' hi'=>?_⟩⟩
  ·unfold Instr.mapUpdate
   simp only [Sem.run_bind,run_underlying ht,Result.andThen_ok,MapKept.run_getObj_map hh,run_chk_pair hp,hfk,q3]
   simp only [Array.getElem?_eq_getElem hq,Option.map_some,Option.getD_some,hstay,Result.andThen_ok]
   exact MapKept.run_setObj_map _ hh
  ·have hi':i'<es.size:=by simpa using hi'
   rw [Array.getD_eq_getD_getElem?,Array.getElem?_modify,Array.getElem?_eq_getElem hi']
   by_cases hij:q=i'
   ·subst hij
    exact ⟨i,j,by simp,hok,by simp⟩
   ·obtain ⟨a',b',r1,r2,r3⟩:=hd i' hi'
    rw [Array.getD_eq_getD_getElem?,Array.getElem?_eq_getElem hi'] at r1 r3
    exact ⟨a',b',by simpa [hij] using r1,r2,by simpa [hij] using r3⟩
 ·obtain ⟨s1,s2,s3⟩:=same_set (w:=w) (g:=g) (o':=.map (es.push { key:=.agg #[.int .i64 i,.int .i64 j],val:=.bool true,born:=clock }) (clock+1)) hh
  refine ⟨_,st,?_,h2,fin _ s1 s2 ⟨g,_,clock+1,hg,s3,fun i' hi'=>?_⟩⟩
  ·unfold Instr.mapUpdate
   simp only [Sem.run_bind,run_underlying ht,Result.andThen_ok,MapKept.run_getObj_map hh,run_chk_pair hp,hfk,q1]
   exact MapKept.run_setObj_map _ hh
  ·have hi':i'<es.size+1:=by simpa using hi'
   rw [Array.getD_eq_getD_getElem?]
   rcases Nat.lt_succ_iff_lt_or_eq.1 hi' with h' | rfl
   ·obtain ⟨a',b',r1,r2,r3⟩:=hd i' h'
    rw [Array.getD_eq_getD_getElem?,Array.getElem?_eq_getElem h'] at r1 r3
    rw [Array.getElem?_push_lt h']
    exact ⟨a',b',r1,r2,r3⟩
   ·rw [Array.getElem?_push_size]
    exact ⟨i,j,rfl,hok,rfl⟩
end Go.SE
