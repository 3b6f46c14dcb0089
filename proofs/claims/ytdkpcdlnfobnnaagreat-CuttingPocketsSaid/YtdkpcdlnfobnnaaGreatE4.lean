/- Parts of the proof that the text of the row joins: a symbolic walk over the model. -/
import Derived.Test.YtdkpcdlnfobnnaaGreatE3
import Derived.RangeFuncIn
import Derived.RangeFuncRecord
import Derived.Sort.LoopGhostIn
import Derived.RangeFuncLeaves
open List renaming getD_eq_getElem?_getD->AS,mem_filter->rK,mem_map->Ah2,mem_cons->Ah4,range->Ah5,mem_singleton->Ah9,contains_iff_mem->AhA,mem_range->AhB,all_eq_true->AhC,mem_cons_self->AhF,mem_append->AhG,mem_cons_of_mem->AhL,getElem_of_mem->AhR,mem_append_right->Aif,mem_append_left->Aip,nodup_cons->Aiv,pairwise_cons->Ai8,getElem?_eq_some_iff->AiC,map_cons->AiJ,length_filter_le->AiO,getD_cons_zero->Ajf
open Array renaming getD_eq_getD_getElem?->LS,getElem?_eq_getElem->Ah1,getElem?_eq_some_iff->AhE,replicate->AhZ,mapM_eq_mapM_toList->Aik,size_setIfInBounds->Ai4,getElem?_append_left->Ai9,all_eq_true_iff_forall_mem->AiK
open Bool renaming and_eq_true->pR,not_eq_true'->Aib,or_eq_true->Aie,and_eq_true_iff->Ain
open Nat renaming zero_le->rH,le_refl->Ah0,lt_of_lt_of_le->Ah3,le_trans->Aig,lt_or_ge->Aio
open Option renaming map_eq_some_iff->Ah8,none->AhH,isSome_iff_exists->AiM,isNone_iff_eq_none->AiT
namespace Go.SE
open Go.RowKit
section
variable {P:Program} {M:Nat->Prop} {w:World} {G:Bw} {st:St} {a:Act} {env:Ar} {X:Nat->Prop}
def PT (f:Nat->Prop):List Nat->Prop
 |[]=>True
 |i::l=>match l with
   |[]=>f i
   |_::_=>f i/\PT f l
def PU (f:List Nat->Prop):List (List Nat)->Prop
 |[]=>True
 |i::l=>match l with
   |[]=>f i
   |_::_=>f i/\PU f l
def sF:Op->Bool
 | .box ..=>false
 | .buildSlice ..=>false
 | .call { callee:=.value _,.. }=>false
 | .call { callee:=.builtin .append,.. }=>false
 |_=>true
def Kt (P:Program) (C:Aj) (fl:Bool) (ops:Array Oper) (st:St) (o:Oper):Option (List Prop×AK):=
 if (fl||sF o.op)&&(FA o).isNone&&(C7 P o).isEmpty then GQ P C ops [] st o else none
theorem TU {C:Aj} {fl:Bool} {ops:Array Oper} {o:Oper} {ps:List Prop} {e:AK} (h:Kt P C fl ops st o=some (ps,e)):FA o=none/\C7 P o = []/\GQ P C ops [] st o=some (ps,e):=by
 unfold Kt at h;split at h
 ·rename_i hc;simp only[pR,AiT,List.isEmpty_iff]at hc;grind
 ·cases h
def sG:Op->Bool
 | .call _=>false
 |_=>true
def St.scal (st:St) (L:List Nat):St:={ st with T:=st.T.filter fun x=>L.contains x.1&&(match x.2.v with | .p (.int ..)=>true | .p (.bool _)=>true|_=>false),own:=[] }
def LW (P:Program) (ops:Array Oper) (st:St) (o:Oper):Option (List Prop×AK):=if sG o.op then(match Im ops (st.scal (CK ops o)) o with
 |some gd=>if EA st o.dst gd then(match Gb P (st.scal (CK ops o)) gd o.op with
   |some (ps,.p (.int k n))=>some (wrapG gd ps,⟨gd,.p (.int k n)⟩)
   |some (ps,.p (.bool b))=>some (wrapG gd ps,⟨gd,.p (.bool b)⟩)
   |_=>none)else none
 |none=>none)else none
def I3 (P:Program) (ops:Array Oper) (st:St) (listed:Array Bool):List Nat->Option (Nat×Option (List Prop×AK))
 |[]=>none
 |i::l=>match ops.toList[i]? with
   |some o=>if Region.free .any ops listed i then(if (Gi o).isSome then some (i,none)else match LW P ops st o with
     |some r=>some (i,some r)
     |none=>I3 P ops st listed l)else I3 P ops st listed l
   |none=>I3 P ops st listed l
def Jv (listed:Array Bool) (D:List Nat) (o:Oper):Bool:=o.after.all fun e=>!Region.binds .any e||listed.getD e.on false||D.contains e.on
def HO (P:Program) (C:Aj) (fl:Bool) (ops:Array Oper) (listed:Array Bool):Nat->List Oper->St->List Nat->List Prop×List (Nat×Oper×AK)
 |_,[],_,_=>([],[])
 |i,o::rest,st,D=>if listed.getD i false || !(Jv listed D o)then HO P C fl ops listed (i+1) rest st D else match Kt P C fl ops st o with
   |some (ps,e)=>match HO P C fl ops listed (i+1) rest (st.put o.dst e) (i::D)with
     |(qs,tab)=>(ps++qs,(i,o,e)::tab)
   |none=>HO P C fl ops listed (i+1) rest st D
def CL:List (Nat×Oper×AK)->List Nat->St->St
 |[],_,st=>st
 |(i,o,e)::l,L,st=>CL l L (if L.contains i then st.put o.dst e else st)
def Jw (listed:Array Bool) (F:List Nat):List (Nat×Oper×AK)->List Nat->List (List Nat)
 |[],L=>[L]
 |(i,o,_)::l,L=>(if Jv listed L o then Jw listed F l (i::L)else [])++(if F.contains i then []else Jw listed F l L)
def N3 (ops:Array Oper) (listed:Array Bool) (D:List Nat):List Nat:=(Ah5 ops.size).filter fun j=>!(listed.getD j false) && !(D.contains j)&&(match ops.toList[j]? with|some o=>Jv listed D o|none=>false)
def PV (o:Oper):List Nat:=(o.after.toList.filter fun e=>Region.binds .any e).map (·.on)
def HP (listed:Array Bool):List Nat->Array Bool
 |[]=>listed
 |i::l=>HP (listed.setIfInBounds i true) l
def Hy (P:Program) (C:Aj) (fl:Bool) (ops:Array Oper):Nat->Array Bool->St->(St->Prop)->Prop
 |0,listed,st,K=>match Region.ready .any ops listed with
   |[]=>K st
   |_::_=>False
 |fuel+1,listed,st,K=>match Region.ready .any ops listed with
   |[]=>K st
   |i::l=>match (if Iy ops then I3 P ops st listed (i::l)else none)with
     |some (i,r)=>(match ops.toList[i]?,r with
       |some o,some (ps,e)=>BC ps (Hy P C fl ops fuel (listed.setIfInBounds i true) (st.put o.dst e) K)
       |some o,none=>Fa P C ops [o] st (fun st'=>Hy P C fl ops fuel (listed.setIfInBounds i true) st' K)
       |none,_=>False)
     |none=>if LQ ops.toList ops 0 ops.toList then(match HO P C fl ops listed 0 ops.toList (st.noGuards ops.toList) []with
       |(ps,tab)=>BC ps (match N3 ops listed (tab.map (·.1))with
         |[]=>if (Ah5 ops.size).all (fun j=>listed.getD j false||(tab.map (·.1)).contains j)then K (CL tab (tab.map (·.1)) (st.noGuards ops.toList))else False
         |j::l=>PT (fun j=>match ops.toList[j]? with
           |some o=>PU (fun L=>Fa P C ops [o] (CL tab L (st.noGuards ops.toList)) (fun st'=>Hy P C fl ops fuel (HP listed (j::L)) st' K)) (Jw listed (PV o) tab [])
           |none=>False) (j::l)))else False
theorem TV {f:Nat->Prop}:∀{l:List Nat},PT f l->∀i,i∈l->f i
 |[],_,i,h=>by cases h
 |[j],h,i,hi=>by
   rcases Ah4.1 hi with rfl|hi
   ·exact h
   ·cases hi
 |j::k::l,h,i,hi=>by
   rcases Ah4.1 hi with rfl|hi
   ·exact h.1
   ·exact TV h.2 i hi
theorem TW {f:List Nat->Prop}:∀{l:List (List Nat)},PU f l->∀i,i∈l->f i
 |[],_,i,h=>by cases h
 |[j],h,i,hi=>by
   rcases Ah4.1 hi with rfl|hi
   ·exact h
   ·cases hi
 |j::k::l,h,i,hi=>by
   rcases Ah4.1 hi with rfl|hi
   ·exact h.1
   ·exact TW h.2 i hi
theorem sH {L:List Nat} (S:Al P G st a w env M X) (w2:World):Al P { g:=fun _ _ _=>True,m0:=fun _=>False } (st.scal L) { a with defers:=[] } w2 env (fun _=>False) (fun _=>False):=by
 refine⟨⟨trivial,fun k hk=>hk.elim⟩,fun b h=>h.elim,fun k o h=>(by cases h),fun k o h=>(by cases h),fun k o k' o' h=>(by cases h),List.nodup_nil,fun b h=>h.elim,fun b h=>h.elim,S.siz,fun s e h=>?_,fun s e h=>S.grd s e (rK.1 h).1,fun d h=>(by cases h),List.nodup_nil⟩;obtain⟨h1,h2⟩:=rK.1 h;obtain⟨q1,q2,q3⟩:=S.tmp s e h1;refine⟨q1,fun ho=>?_,q3⟩;have hd:=q2 ho;have:({ a with defers:=[] }:Act).eval (.tmp s)=a.eval (.tmp s):=rfl;rw[this];simp only[pR]at h2;obtain⟨g,v⟩:=e;cases v with
 |p s =>
   rcases hd with ⟨hd⟩;cases s with
   |int k n=>generalize a.eval (.tmp _)=v at *;cases hd;exact .p (.int _ _)
   |bool b=>generalize a.eval (.tmp _)=v at *;cases hd;exact .p (.bool _)
   |_=>grind
 |_=>grind
theorem sI (S:Al P G st a w env M X) {ops:Array Oper} {o:Oper} {ps:List Prop} {e:AK} (h:LW P ops st o=some (ps,e)) (hp:all ps) :
  ∃v,Yields P ops o v a/\Al P G (st.put o.dst e) (a.put o.dst v) w env M X:=by
 unfold LW at h;split at h;rotate_left
 ·cases h
 rename_i hnc;split at h;rotate_left
 ·cases h
 rename_i gd hg;split at h;rotate_left
 ·cases h
 rename_i hck;have S0:=sH (L:=CK ops o) S;obtain⟨hgd,hwant⟩:=L4 (S0 w) hg;have hgd':EL a gd:=hgd;have hw':Region.wanted o (yielded ops a.tmps)=true↔CB gd:=hwant;have hd:∀t,o.dst=some t->t<st.nt:=fun t ht=>by
  rw[ht]at hck;cases gd with
  |none=>simpa[EA]using hck
  |some g=>obtain⟨q,c,x⟩:=g;simp[EA]at hck;exact hck.1
 have hq:∀q c x,gd=some (q,c,x)->o.dst≠some q:=fun q c x hg ht=>by
  rw[ht,hg]at hck;simp[EA]at hck
 have fin : ∀(qs : List Prop) (s : SV) (v : Value), Gb P (st.scal (CK ops o)) gd o.op = some (qs, .p s)->all (wrapG gd qs)->(∀(M : Nat->Prop) (w : World) (u : Value), Ax M w s u->u = v)->(∀(M : Nat->Prop) (w : World), Ax M w s v) ->
   ∃v,Yields P ops o v a/\Al P G (st.put o.dst ⟨gd,.p s⟩) (a.put o.dst v) w env M X:=fun qs s v hs hp hu hv=>by
  by_cases hh:CB gd
  ·refine⟨v,.inl ⟨hw'.2 hh,fun w2=>?_⟩,S.putG hgd' hd hq (fun _=>.p (hv _ _)) (by grind)⟩;obtain⟨u,h1,h2⟩:=L5 (S0 w2) hgd hh hs (Ge hp hh) o rfl;rcases h2 with ⟨h2⟩;rw[hu _ _ _ h2]at h1;exact h1
  ·refine⟨undef,.inr ⟨?_,rfl⟩,S.putG hgd' hd hq (by grind) (fun _=>rfl)⟩;grind
 split at h
 ·rename_i qs k n hs;cases h;exact fin qs _ (.int k n) hs hp (fun _ _ u hd=>by cases hd;rfl) (fun _ _=>.int _ _)
 ·rename_i qs b hs;cases h;exact fin qs _ (.bool b) hs hp (fun _ _ u hd=>by cases hd;rfl) (fun _ _=>.bool _)
 ·cases h
theorem TX {ops:Array Oper} {listed:Array Bool}:∀{l:List Nat} {i:Nat} {r:Option (List Prop×AK)},I3 P ops st listed l=some (i,r)->i∈l/\∃o,ops.toList[i]? = some o/\Region.free .any ops listed i=true/\((r=none/\(Gi o).isSome=true)\/∃x,r=some x/\LW P ops st o=some x)
 |[],_,_,h=>by simp[I3]at h
 |k::l,i,r,h=>by
   simp only[I3]at h;have nxt:I3 P ops st listed l=some (i,r)->i∈k::l/\∃o,ops.toList[i]? = some o/\Region.free .any ops listed i=true/\((r=none/\(Gi o).isSome=true)\/∃x,r=some x/\LW P ops st o=some x):=fun h=>by
    obtain⟨h1,h2⟩:=TX h;grind
   grind
theorem TY {C:Aj} {fl:Bool} {ops:Array Oper} {o:Oper} {ps:List Prop} {e:AK} (h:Kt P C fl ops st o=some (ps,e)):∀d,e.by d=true->d∈Ht ops o:=TM (TU h).2.2
structure TZ (P:Program) (C:Aj) (fl:Bool) (ops:Array Oper) (listed:Array Bool) (st:St) (tab:List (Nat×Oper×AK)) (pps:List Prop):Prop where
 at_:∀i o e,(i,o,e)∈tab->ops[i]? = some o/\listed.getD i false=false/\(∀f,f∈o.after->Region.binds .any f=true->listed.getD f.on false=true\/f.on∈tab.map (·.1)) /\
  ∃stX ps,Kt P C fl ops stX o=some (ps,e)/\(∀p,p∈ps->p∈pps)/\El st stX/\∀x,x∈stX.T->(x∈st.T/\∀k ok ek,(k,ok,ek)∈tab->k<i->ok.dst≠some x.1)\/∃k ok ek,(k,ok,ek)∈tab/\k<i/\ok.dst=some x.1/\x.2=ek
 inc:(tab.map (·.1)).Pairwise (· < ·)
theorem El.trans {a b c:St} (h:El a b) (k:El b c):El a c:=⟨k.1.trans h.1,k.2.1.trans h.2.1,k.2.2.1.trans h.2.2.1,k.2.2.2.trans h.2.2.2⟩
theorem PW {C:Aj} {fl:Bool} {ops:Array Oper} {listed:Array Bool} {st:St}:∀(rest:List Oper) (n:Nat) (st1:St) (D:List Nat) (pre:List (Nat×Oper×AK)) (ps:List Prop) (tab:List (Nat×Oper×AK)),HO P C fl ops listed n rest st1 D=(ps,tab) ->
  (∀k o,rest[k]? = some o->ops[n+k]? = some o)->(∀k,k∈D↔k∈pre.map (·.1))->(∀k ok ek,(k,ok,ek)∈pre->k<n)->El st st1->(∀x,x∈st1.T->(x∈st.T/\∀k ok ek,(k,ok,ek)∈pre->ok.dst≠some x.1)\/∃k ok ek,(k,ok,ek)∈pre/\ok.dst=some x.1/\x.2=ek) ->
  (∀i o e,(i,o,e)∈tab->n<=i/\ops[i]? = some o/\listed.getD i false=false/\(∀f,f∈o.after->Region.binds .any f=true->listed.getD f.on false=true\/f.on∈(pre++tab).map (·.1)) /\
   ∃stX qs,Kt P C fl ops stX o=some (qs,e)/\(∀p,p∈qs->p∈ps)/\El st stX/\∀x,x∈stX.T->(x∈st.T/\∀k ok ek,(k,ok,ek)∈pre++tab->k<i->ok.dst≠some x.1)\/∃k ok ek,(k,ok,ek)∈pre++tab/\k<i/\ok.dst=some x.1/\x.2=ek)/\(tab.map (·.1)).Pairwise (· < ·)
 |[],n,st1,D,pre,ps,tab,h,_,_,_,_,_=>by
   simp[HO]at h;obtain⟨_,rfl⟩:=h;exact⟨fun i o e h=>by simp at h,List.Pairwise.nil⟩
 |o::rest,n,st1,D,pre,ps,tab,h,ho,hD,hpre,tw,hT=>by
   have skip:HO P C fl ops listed (n+1) rest st1 D=(ps,tab)->_:=fun h=>PW rest (n+1) st1 D pre ps tab h (fun k o' hk=>by rw[show n+1+k=n+(k+1)by omega];exact ho (k+1) o' (by simpa using hk)) hD (fun k ok ek hm=>by have:=hpre k ok ek hm;omega) tw hT;have skip':=fun h=>(fun q:_/\_=>(⟨fun i o e hm=>⟨by have:=(q.1 i o e hm).1;omega,(q.1 i o e hm).2⟩,q.2⟩:(∀i o e,(i,o,e)∈tab->n<=i/\_)/\_)) (skip h);simp only[HO]at h;split at h
   ·exact skip' h
   ·rename_i hc;split at h
    ·rename_i qs e hdr;generalize hrec:HO P C fl ops listed (n+1) rest (st1.put o.dst e) (n::D)=r at h;obtain⟨qs',tab'⟩:=r;cases h;simp only[Aie,not_or,Bool.not_eq_true,Aib]at hc;obtain⟨hl,haf⟩:=hc;have haf:Jv listed D o=true:=by grind
     obtain⟨h1,h2⟩:=PW rest (n+1) (st1.put o.dst e) (n::D) (pre ++ [(n,o,e)]) qs' tab' hrec (fun k o' hk=>by rw[show n+1+k=n+(k+1)by omega];exact ho (k+1) o' (by simpa using hk))
      (fun k=>by simp only[Ah4,List.map_append,AhG,hD,AiJ,List.map_nil,List.not_mem_nil,or_false];exact Or.comm)
      (fun k ok ek hm=>by
       rcases AhG.1 hm with hm|hm
       ·have:=hpre k ok ek hm;omega
       ·simp only[Ah9,Prod.mk.injEq]at hm;omega) (tw.trans (El.put _ _ _))
      (fun x hx=>by
       rcases LV hx with ⟨q1,q2⟩|⟨q1,q2⟩
       ·rcases hT x q1 with ⟨q3,q4⟩|⟨k,ok,ek,q3,q4,q5⟩
        ·refine .inl ⟨q3,fun k ok ek hm=>?_⟩;rcases AhG.1 hm with hm|hm
         ·exact q4 k ok ek hm
         ·simp only[Ah9,Prod.mk.injEq]at hm;obtain⟨_,rfl,_⟩:=hm;exact q2
        ·exact .inr ⟨k,ok,ek,Aip _ q3,q4,q5⟩
       ·exact .inr ⟨n,o,e,Aif _ (Ah9.2 rfl),q1,q2⟩)
     have eqp:pre ++ [(n,o,e)]++tab'=pre++(n,o,e)::tab':=by simp
     rw[eqp]at h1;refine⟨fun i oi ei hm=>?_,?_⟩
     ·rcases Ah4.1 hm with hm|hm
      ·cases hm;refine⟨Ah0 _,by have:=ho 0 o (by simp);grind,hl,fun f hf hb=>?_,st1,qs,hdr,fun p hp=>Aip _ hp,tw,fun x hx=>?_⟩
       ·have:=AiK.1 haf f hf;grind
       ·have hge : ∀k ok ek, (k, ok, ek)∈pre++(n, o, e)::tab'->k<n->(k, ok, ek)∈pre :=fun k ok ek hm hlt =>by
         rcases AhG.1 hm with hm|hm
         ·exact hm
         ·rcases Ah4.1 hm with hm|hm
          ·simp only[Prod.mk.injEq]at hm;omega
          ·have:=(h1 k ok ek hm).1;omega
        rcases hT x hx with ⟨q3,q4⟩|⟨k,ok,ek,q3,q4,q5⟩
        ·exact .inl ⟨q3,fun k ok ek hm hlt=>q4 k ok ek (hge k ok ek hm hlt)⟩
        ·exact .inr ⟨k,ok,ek,Aip _ q3,hpre k ok ek q3,q4,q5⟩
      ·obtain⟨q1,q2,q3,q4,stX,qq,q5,q6,q7⟩:=h1 i oi ei hm;exact⟨by omega,q2,q3,q4,stX,qq,q5,fun p hp=>Aif _ (q6 p hp),q7⟩
     grind
    grind
theorem PX:∀(tab:List (Nat×Oper×AK)) (L:List Nat) (st:St),El st (CL tab L st)
 |[],_,st=>⟨rfl,rfl,rfl,rfl⟩
 |(i,o,e)::l,L,st=>by
   simp only[CL];refine El.trans ?_ (PX l L _);split
   ·exact El.put _ _ _
   ·exact⟨rfl,rfl,rfl,rfl⟩
theorem Ua {x:Nat×AK}:∀{tab:List (Nat×Oper×AK)} {L:List Nat} {st:St},x∈(CL tab L st).T->(x∈st.T/\∀k ok ek,(k,ok,ek)∈tab->k∈L->ok.dst≠some x.1)\/∃k ok ek,(k,ok,ek)∈tab/\k∈L/\ok.dst=some x.1/\x.2=ek
 |[],_,_,h=>.inl ⟨h,(by grind)⟩
 |(i,o,e)::l,L,st,h=>by
   simp only[CL]at h;rcases Ua h with ⟨h1,h2⟩|⟨k,ok,ek,h1,h2,h3⟩
   ·grind [LV,AhF,AhA]
   grind
theorem N4 {x:Nat×AK}:∀{tab:List (Nat×Oper×AK)} {L:List Nat} {st:St},x∈st.T->(∀k ok ek,(k,ok,ek)∈tab->k∈L->ok.dst≠some x.1/\∀d,ok.dst=some d->x.2.by d=false)->x∈(CL tab L st).T
 |[],_,_,h,_=>h
 |(i,o,e)::l,L,st,h,hk=>by
   simp only[CL];refine N4 ?_ (by grind);grind [AhF,AhA,I1]
theorem Ub {k:Nat} {ok:Oper} {ek:AK} {d:Nat}:∀{tab:List (Nat×Oper×AK)} {L:List Nat} {st:St},(k,ok,ek)∈tab->k∈L->ok.dst=some d->(tab.map (·.1)).Pairwise (· < ·)->(∀j oj ej,(j,oj,ej)∈tab->k<j->oj.dst≠some d/\∀d',oj.dst=some d'->ek.by d'=false)->(d,ek)∈(CL tab L st).T
 |[],_,_,h,_,_,_,_=>by simp at h
 |(i,o,e)::l,L,st,h,hL,hd,hp,hk=>by
   simp only[CL];rw[AiJ,Ai8]at hp;rcases Ah4.1 h with h|h
   ·cases h;refine N4 ?_ (by grind);rw[if_pos (AhA.2 hL),hd];exact Kp
   ·exact Ub h hL hd hp.2 (by grind)
theorem PY {listed:Array Bool} {F:List Nat} {q:Nat->Bool}:∀(tab:List (Nat×Oper×AK)) (L:List Nat),(∀i o e,(i,o,e)∈tab->q i=true->∀f,f∈o.after->Region.binds .any f=true->listed.getD f.on false=true\/f.on∈L\/(∃k ok ek,(k,ok,ek)∈tab/\k<i/\k=f.on/\q k=true)) ->
  (∀i o e,(i,o,e)∈tab->i∈F->q i=true)->(tab.map (·.1)).Pairwise (· < ·)->∃L',L'∈Jw listed F tab L/\∀k,k∈L'↔k∈L\/(k∈tab.map (·.1)/\q k=true)
 |[],L,_,_,_=>⟨L,by simp[Jw],fun k=>by simp⟩
 |(i,o,e)::l,L,h1,h2,hp=>by
   rw[AiJ,Ai8]at hp;have nl:∀k ok ek,(k,ok,ek)∈l->i<k:=fun k ok ek hm=>hp.1 k (by grind);cases hq:q i with
   |true =>
     have ha:Jv listed L o=true:=by
      unfold Jv;grind
     obtain⟨L',q1,q2⟩:=PY (listed:=listed) (F:=F) (q:=q) l (i::L) (by grind) (by grind) hp.2;refine⟨L',?_,fun k=>?_⟩
     ·simp only[Jw];grind
     grind
   |false =>
     have hF:i ∉ F:=(by grind);obtain⟨L',q1,q2⟩:=PY (listed:=listed) (F:=F) (q:=q) l L (by grind) (by grind) hp.2;refine⟨L',?_,fun k=>?_⟩
     ·simp only[Jw];grind
     grind
theorem N5:∀{tab:List (Nat×Oper×AK)} {L L':List Nat} {st:St},(∀k,k∈tab.map (·.1)->(k∈L↔k∈L'))->CL tab L st=CL tab L' st
 |[],_,_,_,_=>rfl
 |(i,o,e)::l,L,L',st,h=>by
   simp only[CL];have e1:L.contains i=L'.contains i:=by
    grind
   rw[e1];exact N5 (by grind)
theorem Uc:∀(l:List Nat) (listed:Array Bool),(HP listed l).size=listed.size
 |[],_=>rfl
 |i::l,listed=>by rw[HP,Uc l,Ai4]
theorem Ud:∀(l:List Nat) (listed:Array Bool) (j:Nat),j<listed.size->(HP listed l).getD j false=(listed.getD j false||l.contains j)
 |[],listed,j,_=>by simp[HP]
 |i::l,listed,j,hj=>by
   rw[HP,Ud l _ j (by grind)]
   by_cases h:i=j
   ·grind [Hx]
   ·rw[HN (Ne.symm h)];grind
section
variable {ro:Option Nat} {n:Nat} {ops:Array Oper} {Q:Exit->Act->World->Prop} {S:World->Prop}
def Gj (ro:Option Nat) (n:Nat) (P:Program) (ops:Array Oper) (Q:Exit->Act->World->Prop) (S:World->Prop):Nat->Array Bool->Act->World->Prop
 |0,listed,a,w=>Region.ready .any ops listed = []/\Q .normal a w
 |fuel+1,listed,a,w=>(Region.ready .any ops listed = []->Q .normal a w)/\∀i,i∈Region.ready .any ops listed->wpOpIn (W ro) n P ops Q i (fun a' w'=>S w'/\Gj ro n P ops Q S fuel (listed.setIfInBounds i true) a' w') a w
theorem PZ:∀(fuel:Nat) (listed:Array Bool) (a:Act) (w:World),Gj ro n P ops Q S fuel listed a w->wpAnyIn (W ro) n P .any ops Q fuel listed a w
 |0,_,_,_,h=>h
 |fuel+1,_,_,_,h=>⟨h.1,fun i hi=>wpOpIn_mono (fun a' w' h'=>PZ fuel _ a' w' h'.2) (h.2 i hi)⟩
theorem Qa {listed:Array Bool} {a:Act} {w:World} (hr:Region.ready .any ops listed = []) (h:Q .normal a w):∀fuel,Gj ro n P ops Q S fuel listed a w
 |0=>⟨hr,h⟩
 |_+1=>⟨fun _=>h,by rw[hr];simp⟩
def G2 (P:Program) (ops:Array Oper) (S:World->Prop) (o:Oper) (v:Value) (a:Act):Prop :=
 (Region.wanted o (yielded ops a.tmps)=true/\∀w,S w->(execOp a.eval o).run P w=.ok (.value v) w)\/(Region.wanted o (yielded ops a.tmps)=false/\v=undef)
theorem Ue {o:Oper} {v:Value} {a:Act} (h:Yields P ops o v a):G2 P ops S o v a:=h.imp (by grind) id
theorem G2.of_same {o:Oper} {v:Value} {a a':Act} (hy:G2 P ops S o v a) (he:execOp a'.eval o=execOp a.eval o)
  (hw:Region.wanted o (yielded ops a'.tmps)=Region.wanted o (yielded ops a.tmps)):G2 P ops S o v a':=by
 unfold G2 at *;grind
theorem sJ {j:Nat} {oi oj:Oper} {v:Value} (hj:ops[j]? = some oj) (hap:oi.apart ops oj=true) (hsi:∀cs b,oi.op ≠ .select cs b) (h4:∀c,oj.op ≠ .defer c) (h5:∀cs b,oj.op ≠ .select cs b)
  (hQ:∀c a w,¬ Q (.panic c) a w) {K:Act->World->Prop} {a:Act} {w:World} (hy:G2 P ops S oi v a) (h:wpOpIn (W ro) n P ops Q j K (a.put oi.dst v) w) :
  wpOpIn (W ro) n P ops Q j (fun a' w'=>G2 P ops S oi v a'/\K (a'.put oi.dst v) w') a w:=by
 obtain⟨h1,h2,h3⟩:=Oper.apart_spec hap;have keep:∀(a:Act),G2 P ops S oi v a->∀u,G2 P ops S oi v (a.put oj.dst u):=fun a hy u=>hy.of_same (execOp_put oi hsi a oj.dst u h3) (wanted_put oi a oj.dst u h3);unfold wpOpIn at *;simp only[hj]at *;rw[wanted_put oj a oi.dst v h1,about_put oj w a oi.dst v h1]at h;split
 ·rename_i hw;simp only[hw,if_true]at h;unfold Oper.wpIn at *;rw[about_put oj w a oi.dst v h1]at h;refine⟨h.1,?_⟩;have h:=h.2;rw[Oper.semAt_eq _ _ _ h4,execOp_put oj h5 a oi.dst v h1]at h;rw[Oper.semAt_eq _ _ _ h4];generalize (execOp a.eval oj).run P w=r at *;cases r with
  |ok x w' =>
    cases x<;>simp only[Oper.uponIn]at h ⊢
    case value u=>grind [Act.put_comm]
    case skip=>grind [Act.put_comm]
    case defer q =>
     refine⟨keep { a with defers:=q::a.defers } (hy.of_same rfl rfl) _,?_⟩;grind [Act.put_comm,Act.put_defers]
    case enter f args =>
     grind [CallsIn.mono,Act.put_comm]
    case row row args=>grind [RowsIn.mono,Act.put_comm]
    grind [RoundIn.mono,Act.put_comm]
  |halt x w' =>
    cases x<;>simp only[Oper.uponIn]at h ⊢;grind
 grind [Act.put_comm]
theorem Uf {i:Nat} {oi:Oper} {v:Value} (hi:ops[i]? = some oi) (hdf:∀c,oi.op ≠ .defer c) {K:Act->World->Prop} {a:Act} {w:World} (hS:S w) (hy:G2 P ops S oi v a) (h:K (a.put oi.dst v) w):wpOpIn (W ro) n P ops Q i K a w:=by
 unfold wpOpIn;simp only[hi];rcases hy with ⟨hw,hv⟩|⟨hw,rfl⟩
 ·simp only[hw,if_true];refine⟨fun _ _=>trivial,?_⟩;rw[Oper.semAt_eq _ _ _ hdf,hv w hS];exact h
 ·simp only[hw,Bool.false_eq_true,if_false];exact⟨fun _ _=>trivial,h⟩
theorem Qb {i:Nat} {oi:Oper} {v:Value} (hi:ops[i]? = some oi) (hp:Iy ops=true) (hQ:∀c a w,¬ Q (.panic c) a w) :
  ∀(fuel:Nat) (listed:Array Bool) (a:Act) (w:World),(∀j oj,ops[j]? = some oj->j≠i->listed.getD j true=false->(∀e,e∈oj.after->Region.binds .any e=true->e.on≠i)->oi.apart ops oj=true) ->
    i∈Region.ready .any ops listed->G2 P ops S oi v a->S w->Gj ro n P ops Q S fuel (listed.setIfInBounds i true) (a.put oi.dst v) w->Gj ro n P ops Q S (fuel+1) listed a w:=by
 obtain⟨pd,ps⟩:=PR hp hi;intro fuel
 induction fuel with
 |zero =>
   intro listed a w _ hr hy hS H;refine⟨(by grind),fun j hj=>?_⟩
   by_cases hji:j=i
   ·grind [Uf]
   ·have:=ready_mono hj hji;rw[H.1]at this;cases this
 |succ fuel ih =>
   intro listed a w hfree hr hy hS H;refine⟨(by grind),fun j hj=>?_⟩
   by_cases hji:j=i
   ·grind [Uf]
   ·have h1:=H.2 j (ready_mono hj hji);obtain⟨hjun,oj,hoj,hall⟩:=mem_ready.1 hj;have hnot:∀e,e∈oj.after->Region.binds .any e=true->e.on≠i:=fun e he hb heq=>by
     grind [mem_ready,Aio,Array.getElem?_eq_none]
    obtain⟨p4,p5⟩:=PR hp hoj;have h2:=sJ hoj (by grind) ps p4 p5 hQ hy h1;refine wpOpIn_mono (fun a' w' h3=>⟨h3.2.1,ih (listed.setIfInBounds j true) a' w' (fun k ok hk hki hun hno=>?_) (ready_mono hr (Ne.symm hji)) h3.1 h3.2.1 ?_⟩) h2
    ·refine hfree k ok hk hki ?_ hno
     by_cases hjk:j=k
     ·grind
     ·rw[getD_set_ne true hjk]at hun;exact hun
    grind [Array.setIfInBounds_comm]
end
theorem sK (hG:Br G) {C:Aj} (hC:EB P G C) {fl:Bool} {ops:Array Oper} {listed:Array Bool} {st1:St} {tab:List (Nat×Oper×AK)} {pps:List Prop} (hT:TZ P C fl ops listed st1 tab pps) (hps:all pps)
  (hchk:∀i o,ops[i]? = some o->(∀e,e∈o.after->Region.binds .any e=true->e.on<i)/\∀j oj d,j≠i->ops[j]? = some oj->oj.dst=some d->o.dst≠some d/\(d∈CK ops o->if j<i then Hw o j=true else Hw oj i=true)/\(d∈Ht ops o->j<i))
  (noG:∀x,x∈st1.T->∀(j:Nat) (oj:Oper) d,ops[j]? = some oj->oj.dst=some d->x.2.by d=false) {L:List Nat} (S:Al P G (CL tab L st1) a w env M X)
  (hcl:∀k ok ek,(k,ok,ek)∈tab->k∈L->∀f,f∈ok.after->Region.binds .any f=true->listed.getD f.on false=true\/f.on∈L) {j:Nat} {o:Oper} {e:AK} (hm:(j,o,e)∈tab) (hj:j ∉ L)
  (haf:∀f,f∈o.after->Region.binds .any f=true->listed.getD f.on false=true\/f.on∈L) :
  (Region.wanted o (yielded ops a.tmps)=true->GN P a o w (fun a' w'=>AO P G (CL tab (j::L) st1) a' w'))/\(¬ Region.wanted o (yielded ops a.tmps)=true->AO P G (CL tab (j::L) st1) (a.put o.dst undef) w):=by
 obtain⟨ho,hun,haft,stX,ps,hdr,hpp,tw,hX⟩:=hT.at_ j o e hm;obtain⟨hc1,hc2⟩:=hchk j o ho;have twM:=PX tab L st1;have same:∀k ok ek,(k,ok,ek)∈tab->∀ok' ek',(k,ok',ek')∈tab->ok=ok':=fun k ok ek h1 ok' ek' h2=>by
  have e1:=(hT.at_ k ok ek h1).1;have e2:=(hT.at_ k ok' ek' h2).1;rw[e1]at e2;exact Option.some.inj e2
 -- entries of operations that are done
 have done:∀k ok ek d,(k,ok,ek)∈tab->k∈L->ok.dst=some d->(d,ek)∈(CL tab L st1).T:=fun k ok ek d h1 h2 h3 =>
  Ub h1 h2 h3 hT.inc (fun j' oj' ej' h4 hlt=>by
   obtain⟨p1,p2⟩:=hchk k ok (hT.at_ _ _ _ h1).1;refine⟨fun h5=>?_,fun d' h5=>?_⟩
   ·exact(p2 j' oj' d (by omega) (hT.at_ _ _ _ h4).1 h5).1 h3
   ·cases hb:ek.by d' with
    |false=>rfl
    |true =>
      obtain⟨_,_,_,sx,qs,hd',_⟩:=hT.at_ _ _ _ h1;have hg:=TY hd' d' hb;have:=(p2 j' oj' d' (by omega) (hT.at_ _ _ _ h4).1 h5).2.2 hg;omega)
 have hsub:∀x,x∈(stX.only (CK ops o)).T->x∈(CL tab L st1).T:=fun x hx=>by
  obtain⟨h1,h2⟩:=rK.1 hx;have hsl:x.1∈CK ops o:=AhA.1 h2;rcases hX x h1 with ⟨q1,q2⟩|⟨k,ok,ek,q1,q2,q3,q4⟩
  ·refine N4 q1 (fun k ok ek hk hkL=>⟨fun hd=>?_,fun d hd=>noG x q1 k ok d (hT.at_ _ _ _ hk).1 hd⟩);have hne:k≠j:=fun e=>hj (e ▸ hkL);have h3:=(hc2 k ok x.1 hne (hT.at_ _ _ _ hk).1 hd).2.1 hsl;split at h3
   ·rename_i hlt;exact q2 k ok ek hk hlt hd
   ·obtain⟨f,f1,f2,f3⟩:=Jt h3;rcases hcl k ok ek hk hkL f f1 f2 with h4|h4
    ·rw[f3,hun]at h4;cases h4
    ·rw[f3]at h4;exact hj h4
  ·obtain⟨x1,x2⟩:=x;have q3:ok.dst=some x1:=q3;have q4:x2=ek:=q4;subst q4;have h3:=(hc2 k ok x1 (by omega) (hT.at_ _ _ _ q1).1 q3).2.1 hsl;rw[if_pos q2]at h3;obtain⟨f,f1,f2,f3⟩:=Jt h3;have hkL:k∈L:=by
    rcases haf f f1 f2 with h4|h4
    ·rw[f3,(hT.at_ _ _ _ q1).2.1]at h4;cases h4
    grind
   exact done k ok x2 x1 q1 hkL q3
 have hown:(stX.only (CK ops o)).own=(CL tab L st1).own:=tw.1.trans twM.1.symm;have S0:Al P G (stX.only (CK ops o)) a w env M X:=S.sub hsub (fun x hx=>by rw[hown]at hx;exact hx) (by rw[hown];exact S.nod) (tw.2.1.trans twM.2.1.symm) (tw.2.2.2.trans twM.2.2.2.symm);have hnt:stX.nt=(CL tab L st1).nt:=tw.2.2.2.trans twM.2.2.2.symm
 -- the next state
 have fin:∀a' w',AO P G ((CL tab L st1).put o.dst e) a' w'->AO P G (CL tab (j::L) st1) a' w':=fun a' w' ⟨env',M',X',S'⟩=>by
  have twJ:=PX tab (j::L) st1;have twP:=El.put (CL tab L st1) o.dst e;have eo:(CL tab (j::L) st1).own=((CL tab L st1).put o.dst e).own:=twJ.1.trans ((twM.trans twP).1).symm;refine⟨env',M',X',S'.sub (fun x hx=>?_) (fun x hx=>by rw[eo]at hx;exact hx) (by rw[eo];exact S'.nod) (twJ.2.1.trans ((twM.trans twP).2.1).symm) (twJ.2.2.2.trans ((twM.trans twP).2.2.2).symm)⟩;rcases Ua hx with ⟨h1,h2⟩|⟨k,ok,ek,h1,h2,h3,h4⟩
  ·refine I1 (N4 h1 (fun k ok ek hk hkL=>⟨h2 k ok ek hk (AhL _ hkL),fun d hd=>noG x h1 k ok d (hT.at_ _ _ _ hk).1 hd⟩)) (h2 j o e hm (AhF ..)) (by grind)
  ·obtain⟨x1,x2⟩:=x;have h3:ok.dst=some x1:=h3;have h4:x2=ek:=h4;subst h4;rcases Ah4.1 h2 with rfl|h2
   ·obtain rfl:=same _ _ _ hm _ _ h1;have:e=x2:=by
     have:=hT.inc;obtain⟨i1,hi1,e1⟩:=AhR hm;obtain⟨i2,hi2,e2⟩:=AhR h1;have hpw:=List.pairwise_iff_getElem.1 this;rcases Nat.lt_trichotomy i1 i2 with hlt|rfl|hlt
     ·have:=hpw i1 i2 (by simpa using hi1) (by simpa using hi2) hlt;simp[e1,e2]at this
     ·rw[e1]at e2;simp at e2;exact e2
     ·have:=hpw i2 i1 (by simpa using hi2) (by simpa using hi1) hlt;simp[e1,e2]at this
    grind [Kp]
   ·refine I1 (by grind) ?_ (fun d hd=>?_)
    ·have hne:k≠j:=fun e=>hj (e ▸ h2);exact(hc2 k ok x1 hne (hT.at_ _ _ _ h1).1 h3).1
    ·cases hb:x2.by d with
     |false=>rfl
     |true =>
       obtain⟨p1,p2⟩:=hchk k ok (hT.at_ _ _ _ h1).1;obtain⟨_,_,_,sx,qs,hd',_⟩:=hT.at_ _ _ _ h1;have hg:=TY hd' d hb;have hne:j≠k:=fun e=>hj (e ▸ h2);obtain⟨_,g1,g2⟩:=p2 j o d hne ho hd;have hlt:=g2 hg;have h5:=g1 (by unfold CK;grind);rw[if_pos hlt]at h5;obtain⟨f,f1,f2,f3⟩:=Jt h5;rcases hcl k ok x2 h1 h2 f f1 f2 with h6|h6
       ·rw[f3,hun]at h6;cases h6
       grind
 obtain⟨s1,s2,s3⟩:=TU hdr;obtain⟨k1,k2⟩:=TJ hG hC s3 s1 (fun p hp=>hps p (hpp p hp)) (st2:=CL tab L st1) hnt.symm S0 S (by grind);grind [Nu,N0]
theorem Ug:∀(tab:List (Nat×Oper×AK)) (st:St),CL tab [] st=st
 |[],_=>rfl
 |(i,o,e)::l,st=>by simp only[CL];exact Ug l st
theorem Uh {ops:Array Oper} {listed:Array Bool} (hsz:listed.size=ops.size) (hlt:∀i o,ops[i]? = some o->∀e,e∈o.after->Region.binds .any e=true->e.on<i) (h:Region.ready .any ops listed = []):∀i,i<ops.size->listed.getD i false=true:=by
 intro i
 induction i using Nat.strongRecOn with
 |_ i ih =>
   intro hi;cases hx:listed.getD i false with
   |true=>rfl
   |false =>
     exfalso;have ho:ops[i]? = some ops[i]:=(by grind);have:i∈Region.ready .any ops listed:=mem_ready.2 (by grind);grind
theorem LX {l:Array Bool} {i:Nat} (h:i<l.size):l.getD i true=l.getD i false:=by
 grind
theorem Ui (hG:Br G) {C:Aj} (hC:EB P G C) {fl:Bool} {ro:Option Nat} {n:Nat} {ops:Array Oper} {Q:Exit->Act->World->Prop} {K:St->Prop} (hK:∀st a w,K st->AO P G st a w->Q .normal a w) (hQ:∀c a w,¬ Q (.panic c) a w) {S:World->Prop} (hS:∀st a w,AO P G st a w->S w) :
  ∀(fuel:Nat) (listed:Array Bool) (st:St) (a:Act) (w:World),Hy P C fl ops fuel listed st K->AO P G st a w->listed.size=ops.size->∀f,Em ops.size listed<=f->Gj ro n P ops Q S f listed a w:=by
 intro fuel
 induction fuel with
 |zero =>
   intro listed st a w h hs _ f _;unfold Hy at h;split at h
   ·rename_i hr;exact Qa hr (hK _ _ _ h hs) f
   ·exact h.elim
 |succ fuel ih =>
   intro listed st a w h hs hsz f hf;unfold Hy at h;split at h
   ·rename_i hr;exact Qa hr (hK _ _ _ h hs) f
   rename_i i0 l0 hr;have hlow:∀{i},i∈Region.ready .any ops listed->i<ops.size/\listed.getD i false=false:=fun {i} hi=>by
    obtain⟨h1,o,h2,_⟩:=mem_ready.1 hi;have hlt:=(AhE.1 h2).1;exact⟨hlt,by rw[<- LX (by omega)];exact h1⟩
   have hstep:∀{i},i∈Region.ready .any ops listed->Em ops.size (listed.setIfInBounds i true)<Em ops.size listed:=fun {i} hi=>by
    obtain⟨h1,h2⟩:=hlow hi;exact I2 h1 (by omega) h2
   obtain⟨f,rfl⟩:∃f',f=f'+1:=⟨f-1,by have:=hstep (i:=i0) (by rw[hr];exact AhF ..);omega⟩;split at h
   ·-- something that may as well be done first
    rename_i i r hfw;split at hfw;rotate_left
    ·cases hfw
    rename_i hpl;obtain⟨him,o,ho,hfree,hr2⟩:=TX hfw;rw[<- hr]at him;have ho':ops[i]? = some o:=by simpa using ho
    have hsz':(listed.setIfInBounds i true).size=ops.size:=by rw[Ai4];exact hsz
    have hun:Em ops.size (listed.setIfInBounds i true)<=f:=by have:=hstep him;omega
    have hfs:=Region.free_spec ho' hfree;have hsat:=hs;rcases hr2 with ⟨rfl,hm⟩|⟨⟨ps,e⟩,rfl,hd⟩
    ·simp only[ho]at h;obtain⟨⟨d,s⟩,hm⟩:=AiM.1 hm;obtain⟨env,M,X,S⟩:=hs;obtain⟨k1,_⟩:=PO hG hC h S;have hw:=PP (ops:=ops) (a:=a) hm;obtain⟨u,hu,st',hk,hs'⟩:=TQ (k1 hw) hm;obtain⟨_,hdst,_⟩:=Kr hm;exact Qb ho' hpl hQ f listed a w hfs him (v:=u) (Ue (.inl ⟨hw,hu⟩)) (hS _ _ _ hsat) (by rw[hdst];exact ih _ _ _ _ hk hs' hsz' f hun)
    ·simp only[ho]at h;obtain⟨hps,h⟩:=BD h;obtain⟨env,M,X,S⟩:=hs;obtain⟨v,hy,S'⟩:=sI S hd hps;exact Qb ho' hpl hQ f listed a w hfs him (Ue hy) (hS _ _ _ hsat) (ih _ _ _ _ h ⟨env,M,X,S'⟩ hsz' f hun)
   ·-- those that read and compute,those that do more
    split at h;rotate_left
    ·exact h.elim
    rename_i hchk0;have hchk:=fun i o (hi:ops[i]? = some o)=>PM ops.toList 0 hchk0 i o (by simpa using hi);simp only[Nat.zero_add]at hchk;have hchk:∀i o,ops[i]? = some o->(∀e,e∈o.after->Region.binds .any e=true->e.on<i)/\∀j oj d,j≠i->ops[j]? = some oj->oj.dst=some d->o.dst≠some d/\(d∈CK ops o->if j<i then Hw o j=true else Hw oj i=true)/\(d∈Ht ops o->j<i):=
     fun i o hi=>⟨(hchk i o hi).1,fun j oj d hne hj hd=>(hchk i o hi).2 j oj d hne (by simpa using hj) hd⟩
    split at h;rename_i ps tab hgo;obtain⟨hps,h⟩:=BD h;generalize hst1:st.noGuards ops.toList=st1 at *;have hs1:AO P G st1 a w:=by
     obtain⟨env,M,X,S⟩:=hs;rw[<- hst1];exact⟨env,M,X,S.sub (fun x hx=>(rK.1 hx).1) (fun _ hx=>hx) S.nod rfl rfl⟩
    have noG:∀x,x∈st1.T->∀(j:Nat) (oj:Oper) d,ops[j]? = some oj->oj.dst=some d->x.2.by d=false:=fun x hx j oj d hj hd=>by
     rw[<- hst1]at hx;have h1:=(rK.1 hx).2;simp only[Aib,List.any_eq_false]at h1;have:=h1 oj (List.mem_of_getElem? (by simpa using hj));rw[hd]at this;simpa using this
    obtain⟨t1,t2⟩:=PW (P:=P) (C:=C) (fl:=fl) (ops:=ops) (listed:=listed) (st:=st1) ops.toList 0 st1 [] [] ps tab hgo (fun k o hk=>by rw[Nat.zero_add];simpa using hk) (fun k=>by simp) (fun k ok ek hm=>by simp at hm) ⟨rfl,rfl,rfl,rfl⟩ (fun x hx=>.inl ⟨hx,fun k ok ek hm=>by simp at hm⟩);have hT:TZ P C fl ops listed st1 tab ps:=⟨fun i o e hm=>by
     obtain⟨_,q1,q2,q3,q4⟩:=t1 i o e hm;exact⟨q1,q2,by simpa using q3,by simpa using q4⟩,t2⟩
    obtain⟨env,M,X,S1⟩:=hs1
    -- the invariant: L is done
    have key : ∀(m:Nat) (L : List Nat) (lc : Array Bool) (a : Act) (w : World) (env : Ar) (M X : Nat->Prop) (f:Nat), Em ops.size lc<=m->Al P G (CL tab L st1) a w env M X->(∀k, k∈L->k∈tab.map (·.1)) ->
      (∀k ok ek,(k,ok,ek)∈tab->k∈L->∀f,f∈ok.after->Region.binds .any f=true->listed.getD f.on false=true\/f.on∈L)->lc.size=ops.size->(∀j,j<ops.size->lc.getD j false=(listed.getD j false||L.contains j))->Em ops.size lc<=f->Em ops.size lc<=Em ops.size listed ->
      Gj ro n P ops Q S f lc a w:=by
     intro m
     induction m with
     |zero =>
       intro L lc a w env M X f hm SL hLD hcl hlsz hlc hf hle;have hr0:Region.ready .any ops lc = []:=by
        cases hx:Region.ready .any ops lc with
        |nil=>rfl
        |cons j l =>
          obtain⟨q1,o,q2,_⟩:=mem_ready.1 (show j∈Region.ready .any ops lc by rw[hx];exact AhF ..);have hlt:=(AhE.1 q2).1;have:=I2 (listed:=lc) hlt (by omega) (by rw[<- LX (by omega)];exact q1);omega
       exact Qa hr0 (by
        have hall:=Uh hlsz (fun i o hi=>(hchk i o hi).1) hr0;have hin:∀j,j<ops.size->listed.getD j false=true\/j∈L:=fun j hj=>by
         have:=hall j hj;rw[hlc j hj,Aie]at this;exact this.imp id AhA.1
        split at h
        ·split at h
         ·refine hK _ _ _ h ⟨env,M,X,?_⟩;rw[N5 (L':=L) (fun k hk=>⟨fun _=>?_,fun hk'=>hLD k hk'⟩)]
          ·exact SL
          ·obtain⟨⟨k',o,e⟩,hm',rfl⟩:=Ah2.1 hk;have:=hT.at_ _ _ _ hm';rcases hin k' (AhE.1 this.1).1 with h5|h5
           ·rw[this.2.1]at h5;cases h5
           ·exact h5
         ·exact h.elim
        ·rename_i j l hoth;exfalso;have hj:j∈N3 ops listed (tab.map (·.1)):=by rw[hoth];exact AhF ..
         obtain⟨h5,h6⟩:=rK.1 hj;simp only[pR,Aib]at h6;rcases hin j (AhB.1 h5)with h7|h7
         ·rw[h6.1.1]at h7;cases h7
         ·have:=AhA.2 (hLD j h7);rw[h6.1.2]at this;cases this) f
     |succ m ihm =>
       intro L lc a w env M X f hm SL hLD hcl hlsz hlc hf hle;have fin:Region.ready .any ops lc = []->Q .normal a w:=fun hr0=>by
        have hall:=Uh hlsz (fun i o hi=>(hchk i o hi).1) hr0;have hin:∀j,j<ops.size->listed.getD j false=true\/j∈L:=fun j hj=>by
         have:=hall j hj;rw[hlc j hj,Aie]at this;exact this.imp id AhA.1
        split at h
        ·split at h
         ·refine hK _ _ _ h ⟨env,M,X,?_⟩;rw[N5 (L':=L) (fun k hk=>⟨fun _=>?_,fun hk'=>hLD k hk'⟩)]
          ·exact SL
          ·obtain⟨⟨k',o,e⟩,hm',rfl⟩:=Ah2.1 hk;have:=hT.at_ _ _ _ hm';rcases hin k' (AhE.1 this.1).1 with h5|h5
           ·rw[this.2.1]at h5;cases h5
           ·exact h5
         ·exact h.elim
        ·rename_i j l hoth;exfalso;have hj:j∈N3 ops listed (tab.map (·.1)):=by rw[hoth];exact AhF ..
         obtain⟨h5,h6⟩:=rK.1 hj;simp only[pR,Aib]at h6;rcases hin j (AhB.1 h5)with h7|h7
         ·rw[h6.1.1]at h7;cases h7
         ·have:=AhA.2 (hLD j h7);rw[h6.1.2]at this;cases this
       cases f with
       |zero =>
         have hr0:Region.ready .any ops lc = []:=by
          cases hx:Region.ready .any ops lc with
          |nil=>rfl
          |cons j l =>
            obtain⟨q1,o,q2,_⟩:=mem_ready.1 (show j∈Region.ready .any ops lc by rw[hx];exact AhF ..);have hlt:=(AhE.1 q2).1;have:=I2 (listed:=lc) hlt (by omega) (by rw[<- LX (by omega)];exact q1);omega
         exact⟨hr0,fin hr0⟩
       |succ f =>
         refine⟨fin,fun j hj=>?_⟩;obtain⟨q1,o,ho,haf⟩:=mem_ready.1 hj;have hjs:=(AhE.1 ho).1;have hjf:lc.getD j false=false:=by rw[<- LX (by omega)];exact q1
         have hdec:=I2 hjs (by omega) hjf;have hjn:=hjf;rw[hlc j hjs,Bool.or_eq_false_iff]at hjn;have hjL:j ∉ L:=fun hx=>by rw[AhA.2 hx]at hjn;exact absurd hjn.2 (by decide)
         have haf':∀f,f∈o.after->Region.binds .any f=true->listed.getD f.on false=true\/f.on∈L:=fun f hf hb=>by
          have h5:=haf f hf hb;have h6:=(hchk j o ho).1 f hf hb;rw[hlc _ (by omega),Aie]at h5;exact h5.imp id AhA.1
         have hsz2:(lc.setIfInBounds j true).size=ops.size:=by rw[Ai4];exact hlsz
         have hlc2:∀k,k<ops.size->(lc.setIfInBounds j true).getD k false=(listed.getD k false||(j::L).contains k):=fun k hk=>by
          by_cases hkj:k=j
          ·subst hkj;rw[Hx (by omega)];simp
          ·rw[HN hkj,hlc k hk];have:(j::L).contains k=L.contains k:=by simp[hkj]
           rw[this]
         unfold wpOpIn;rw[ho];simp only
         by_cases hjD:j∈tab.map (·.1)
         ·obtain⟨⟨j',o',e⟩,hm',rfl⟩:=Ah2.1 hjD;have hoo:=(hT.at_ _ _ _ hm').1;simp only at ho hoo hjL hjs hdec hsz2 hlc2 ⊢;rw[ho]at hoo;obtain rfl:=Option.some.inj hoo;obtain⟨m1,m2⟩:=sK hG hC hT hps hchk noG SL hcl hm' hjL haf';have next:∀a' w',AO P G (CL tab (j'::L) st1) a' w'->S w'/\Gj ro n P ops Q S f (lc.setIfInBounds j' true) a' w':=fun a' w' ⟨env',M',X',S'⟩=>
           ⟨hS _ _ _ ⟨env',M',X',S'⟩,ihm (j'::L) _ a' w' env' M' X' f (by omega) S' (fun k hk=>by
            rcases Ah4.1 hk with rfl|hk
            ·exact hjD
            ·exact hLD k hk) (fun k ok ek hk hkL f hf hb=>by
            rcases Ah4.1 hkL with rfl|hkL
            ·have h5:=(hT.at_ _ _ _ hk).1;rw[ho]at h5;obtain rfl:=Option.some.inj h5;exact(haf' f hf hb).imp id (AhL _)
            ·exact(hcl k ok ek hk hkL f hf hb).imp id (AhL _)) hsz2 hlc2 (by omega) (by omega)⟩
          split
          ·rename_i hw;exact Nx (N:=fun a' w'=>S w'/\Gj ro n P ops Q S f (lc.setIfInBounds j' true) a' w') (N0 (m1 hw) next)
          ·rename_i hw;exact⟨fun _ _=>trivial,next _ _ (m2 hw)⟩
         ·have hoth : j∈N3 ops listed (tab.map (·.1)):=by
           refine rK.2 ⟨AhB.2 hjs,?_⟩;have h5:ops.toList[j]? = some o:=by simpa using ho
           rw[h5,hjn.1];simp only[Bool.not_false,Bool.true_and,pR,Aib];refine⟨?_,?_⟩
           ·cases hx:(tab.map (·.1)).contains j with
            |false=>rfl
            |true=>exact absurd (AhA.1 hx) hjD
           ·unfold Jv;rw[AiK];intro f hf;cases hb:Region.binds .any f with
            |false=>rfl
            |true =>
              simp only[Bool.not_true,Bool.false_or,Aie];exact(haf' f hf hb).imp id (fun h6=>AhA.2 (hLD _ h6))
          split at h
          ·rename_i hx;rw[hx]at hoth;cases hoth
          rename_i j1 l1 hx;rw[hx]at hoth;have hE:=TV h j hoth;have h5:ops.toList[j]? = some o:=by simpa using ho
          rw[h5]at hE;simp only at hE;obtain⟨L', hL1, hL2⟩:=PY (listed :=listed) (F :=PV o) (q :=fun k =>L.contains k) tab [] (fun i oi ei hi hqi f hf hb =>by
            rcases hcl i oi ei hi (AhA.1 hqi) f hf hb with h6|h6
            ·exact .inl h6
            ·obtain⟨⟨k,ok,ek⟩,hk,hke⟩:=Ah2.1 (hLD _ h6);exact .inr (.inr ⟨k,ok,ek,hk,by have:=(hchk i oi (hT.at_ _ _ _ hi).1).1 f hf hb;have hke:k=f.on:=hke;omega,hke,AhA.2 (by have hke:k=f.on:=hke;rw[hke];exact h6)⟩))
           (fun i oi ei hi hF=>by
            unfold PV at hF;obtain⟨f,hf,rfl⟩:=Ah2.1 hF;obtain⟨hf1,hf2⟩:=rK.1 hf;rcases haf' f (by simpa using hf1) hf2 with h6|h6
            ·rw[(hT.at_ _ _ _ hi).2.1]at h6;cases h6
            ·exact AhA.2 h6) hT.inc
          have hE:=TW hE L' hL1;have hLL:∀k,k∈L'↔k∈L:=fun k=>by
           rw[hL2];constructor
           ·rintro(h6|⟨_,h6⟩)
            ·cases h6
            ·exact AhA.1 h6
           ·exact fun h6=>.inr ⟨hLD k h6,AhA.2 h6⟩
          rw[N5 (L':=L) (fun k _=>hLL k)]at hE;obtain⟨k1,k2⟩:=PO hG hC hE SL;have hset:HP listed (j::L')=lc.setIfInBounds j true:=by
           apply Array.ext
           ·rw[Uc,hsz2,hsz]
           ·intro k hk1 hk2;have hk:k<ops.size:=by omega
            have e1:=Ud (j::L') listed k (by omega);have e2:=hlc2 k hk;rw[LS,Ah1 hk1]at e1;rw[LS,Ah1 hk2]at e2;have e3:(j::L').contains k=(j::L).contains k:=by
             cases h6:(j::L').contains k<;>cases h7:(j::L).contains k<;>first|rfl|skip
             ·have:=AhA.1 h7;rw[Ah4,<- hLL,<- Ah4,<- AhA,h6]at this;cases this
             ·have:=AhA.1 h6;rw[Ah4,hLL,<- Ah4,<- AhA,h7]at this;cases this
            rw[e3]at e1;exact e1.trans e2.symm
          have next:∀a' w',(∃st',Fa P C ops [] st' (fun st'=>Hy P C fl ops fuel (HP listed (j::L')) st' K)/\AO P G st' a' w')->S w'/\Gj ro n P ops Q S f (lc.setIfInBounds j true) a' w':=fun a' w' ⟨st',hk,hs'⟩=>by
           rw[hset]at hk;exact⟨hS _ _ _ hs',ih _ st' a' w' hk hs' hsz2 f (by omega)⟩
          split
          ·rename_i hw;have:=k1 hw;refine Nx (N:=fun a' w'=>S w'/\Gj ro n P ops Q S f (lc.setIfInBounds j true) a' w') ?_;exact N0 this next
          ·rename_i hw;exact⟨fun _ _=>trivial,next _ _ (k2 hw)⟩
    have h0:CL tab [] st1=st1:=Ug tab st1;exact key _ [] listed a w env M X (f+1) (Ah0 _) (by rw[h0];exact S1) (fun k hk=>by cases hk) (fun k ok ek _ hk=>by cases hk) hsz (fun j _=>by simp) hf (Ah0 _)
theorem sL (hG:Br G) {C:Aj} (hC:EB P G C) {fl:Bool} {ro:Option Nat} {n:Nat} {ops:Array Oper} {Q:Exit->Act->World->Prop} {K:St->Prop} (hK:∀st a w,K st->AO P G st a w->Q .normal a w)
  (st:St) (a:Act) (w:World) (h:Hy P C fl ops ops.size (AhZ ops.size false) st K) (hs:AO P G st a w):wpAnyIn (W ro) n P .any ops Q ops.size (AhZ ops.size false) a w :=
 N2 (Q':=fun e a w=>(∀c,e ≠ .panic c)/\Q e a w) (fun e a w h=>h.2) _ _ _ _
  (PZ _ _ _ _ (Ui (S:=fun _=>True) hG hC (fun st a w h hs=>⟨fun c h=>(by cases h),hK st a w h hs⟩) (fun c a w h=>h.1 c rfl) (fun _ _ _ _=>trivial) _ _ st a w h hs (by simp) _ (by
   unfold Em;have:=AiO (fun i=>!(AhZ ops.size false).getD i false) (Ah5 ops.size);simpa using this)))
def I4 (M:Nat->Prop) (env:Ar) (F:List Nat) (w0 w:World):Prop:=∀b,(M b\/∃k,k∈F/\env.at_ k=some b)->w.heap[b]? = w0.heap[b]?
def Uj (P:Program) (own:List (Nat×Ah)) (ρ:Operand->Option EV):Op->Ii
 | .load t x=>match Bg P t,ρ x with
   |some y,some (.loc b off)=>FZ own y (.loc b off)
   |some y,some (.p (.ref cs off))=>FZ own y (.p (.ref cs off))
   |_,_=>none
 | .fieldAddr t x i=>match P.underlying t,ρ x with
   |some (.struct fs),some e=>match fs.toList[i]? with
     |some f=>match Bg P f.type with
       |some y=>if y.size=0 then none else Gu f.offset e
       |none=>none
     |none=>none
   |_,_=>none
 |_=>none
def LY (P:Program) (ops:Array Oper) (F:List Nat) (st:St) (o:Oper):Option (List Prop×AK):=match Im ops st o with
 |some gd=>if EA st o.dst gd then(match Uj P (st.own.filter fun x=>F.contains x.1) (st.rho gd) o.op with
   |some (ps,e)=>some (wrapG gd ps,⟨gd,e⟩)
   |none=>none)else none
 |none=>none
theorem sM {w w2:World} {ad:Addr} {j:Nat} (h:w2.heap[ad.block]? = w.heap[ad.block]?):w2.cell? (ad.add j)=w.cell? (ad.add j):=by
 have e:(ad.add j).block=ad.block:=by unfold Addr.add;split<;>rfl
 unfold World.cell?;rw[e,h]
theorem sN {P:Program} {y:Ty} {t:TypeId} (hy:Bg P t=some y) {cs:List SV} {off:Nat} {s:SV} (h:Fm y cs off=some s) {v:Value} (hv:Ax M w (.ref cs off) v) :
  ∃u,Ax M w s u/\∀w2:World,(∀b,M b->w2.heap[b]? = w.heap[b]?)->(Instr.loadAt t v).run P w2=.ok u w2:=by
 cases hv with
 |ref _ _ vs ad hM hc ho hd =>
   have hc2:∀w2:World,(∀b,M b->w2.heap[b]? = w.heap[b]?)->∀j,j<cs.length->w2.cell? (ad.add j)=some (vs j):=fun w2 h2 j hj=>(sM (h2 _ hM)).trans (hc j hj);unfold Fm at h
   by_cases ha:Eb y.desc=true
   ·rw[if_pos ha]at h;split at h
    ·rename_i hle;cases h;refine⟨.agg ((Ah5 y.size).map fun j=>vs (off+j)).toArray,?_,fun w2 h2=>?_⟩;rotate_left
     ·have:=FI (P:=P) (w:=w2) hy (ad.add off) (fun j=>vs (off+j)) (by rw[if_pos ha];intro j hj;rw[Hk];exact hc2 w2 h2 _ (by omega));rw[if_pos ha]at this;exact FJ this
     ·refine .agg _ _ ?_ ?_
      ·rw[Ij _ _ _ hle];simp
      ·rw[Ij _ _ _ hle];intro j hj;rw[Ll _ _ _ _ hj,JR _ _ _ hj];exact hd _ (by omega)
    ·cases h
   ·rw[if_neg ha]at h;have hlt:off<cs.length:=(AiC.1 h).1;refine⟨vs (off+0),?_,fun w2 h2=>?_⟩;rotate_left
    ·have:=FI (P:=P) (w:=w2) hy (ad.add off) (fun j=>vs (off+j)) (by rw[if_neg ha];intro j hj;rw[Hk];exact hc2 w2 h2 _ (by omega));rw[if_neg ha]at this;exact FJ this
    ·have:=hd off hlt;rwa[show SV.at cs off=s by simp[SV.at,AS,h]]at this
theorem Uk (S:Al P G st a w env M X) {F:List Nat} {y:Ty} {t:TypeId} (hy:Bg P t=some y) {e r:EV} {ps:List Prop} (he:(∃b off,e=.loc b off)\/∃cs off,e=.p (.ref cs off))
  (h:FZ (st.own.filter fun x=>F.contains x.1) y e=some (ps,r)) {v:Value} (hv:Ap P M w env e v):∃u,Ap P M w env r u/\∀w2,I4 M env F w w2->(Instr.loadAt t v).run P w2=.ok u w2:=by
 rcases he with ⟨b,off,rfl⟩|⟨cs,off,rfl⟩
 ·cases hv with
  |@loc _ _ g hg =>
  simp only[FZ]at h;split at h
  ·rename_i t' cs hl;obtain⟨hm,hF⟩:=rK.1 (Bp hl);have hF:b∈F:=AhA.1 hF;obtain⟨g',vs,hg',hh,hz,hd⟩:=S.own _ _ hm;rw[hg]at hg';cases hg';have hh2:∀w2,I4 M env F w w2->w2.heap[g]? = some (.cells vs t' (0,0)):=fun w2 h2=>(h2 g (.inr ⟨b,hF,hg⟩)).trans hh
   by_cases ha:Eb y.desc=true
   ·rw[if_pos ha]at h;split at h
    ·rename_i hle;simp only[Ah8]at h;obtain⟨l,hl',he⟩:=h;cases he;have hl':=HF hl';have hll:l.length=y.size:=by have:=congrArg List.length hl';rw[Ij _ _ _ hle]at this;simpa using this.symm
     refine⟨_,Ap.p (Ax.agg _ ((Ah5 y.size).map fun j=>vs.getD (off+j) undef) (by simp[hll]) ?_),fun w2 h2=>?_⟩;rotate_left
     ·have:=FI (P:=P) (w:=w2) hy (⟨g,off,none⟩) (fun j=>vs.getD (off+j) undef) (by rw[if_pos ha];intro j hj;rw[Cw];exact Ec (hh2 w2 h2) (by omega));rw[if_pos ha]at this;exact FJ this
     intro j hj;rw[hll]at hj;rw[JR _ _ _ hj];have h1:=(hd (off+j) (by omega)).2;have h2:EV.at cs (off+j)=.p (SV.at l j):=by
      rw[<- Gv l j (by omega),<- hl'];simp only[EV.at,AS];rw[List.getElem?_take_of_lt hj,List.getElem?_drop]
     rw[h2]at h1;cases h1 with|p h1=>exact h1
    ·cases h
   ·rw[if_neg ha]at h;simp only[Ah8]at h;obtain⟨e,he,h'⟩:=h;obtain⟨rfl,rfl⟩:ps = []/\e=r:=by simpa[eq_comm]using h'
    have hlt:off<cs.length:=(AiC.1 he).1;refine⟨vs.getD (off+0) undef,?_,fun w2 h2=>?_⟩;rotate_left
    ·have:=FI (P:=P) (w:=w2) hy (⟨g,off,none⟩) (fun j=>vs.getD (off+j) undef) (by rw[if_neg ha];intro j hj;rw[Cw];exact Ec (hh2 w2 h2) (by omega));rw[if_neg ha]at this;exact FJ this
    have:=(hd off hlt).2;rwa[show EV.at cs off=e by simp[EV.at,AS,he]]at this
  ·cases h
 ·simp only[FZ,Ah8]at h;obtain⟨s,hs,he⟩:=h;cases he;cases hv with
  |p hv =>
    obtain⟨u,h1,h2⟩:=sN hy hs hv;exact⟨u,.p h1,fun w2 h3=>h2 w2 fun b hb=>h3 b (.inl hb)⟩
theorem sO {t:TypeId} {fs:Array Field} {f:Field} {y:Ty} {i:Nat} (hu:P.underlying t=some (.struct fs)) (hf:fs.toList[i]? = some f) (hy:Bg P f.type=some y) (hz:¬ y.size=0)
  {e r:EV} {ps:List Prop} (h:Gu f.offset e=some (ps,r)) {v:Value} (hv:Ap P M w env e v):∃u,Ap P M w env r u/\∀w2,(Instr.fieldAt t v i).run P w2=.ok u w2:=by
 obtain⟨j,hi,_,hs,_,_⟩:=CV hy;have hf':fs[i]? = some f:=by simpa using hf
 have key:∀(ad:Addr) (w:World),(Instr.fieldAt t (.pointer (some ad)) i).run P w=.ok (.pointer (some (ad.add f.offset))) w:=fun ad w=>by
  have hj:¬ j.size=0:=by rw[hs];exact hz
  simp[Instr.fieldAt,run_underlying hu,hf',Instr.sureAddr,fieldPlace,EY hi,hj]
 cases e with
 |p s =>
   cases s<;>simp only[Gu,reduceCtorEq]at h;cases h;cases hv with
   |p hv =>
   cases hv with
   |ref cs off vs ad hM hc ho hd =>
     exact⟨_,by rw[Hk];exact .p (.ref _ _ vs ad hM hc ho hd),key _⟩
 |loc b off =>
   simp only[Gu]at h;cases h;cases hv with
   |loc hg=>exact⟨_,by rw[Cw];exact .loc hg,key _⟩
 |rptr r' sz i' off =>
   simp only[Gu]at h;cases h;cases hv with
   |rptr hg=>exact⟨_,by rw[Cw,Nat.add_assoc];exact .rptr hg,key _⟩
 |_=>simp[Gu]at h
theorem sP (S:Al P G st a w env M X) {ops:Array Oper} {F:List Nat} {o:Oper} {ps:List Prop} {e:AK} (h:LY P ops F st o=some (ps,e)) :
  ∃v,G2 P ops (I4 M env F w) o v a/\Al P G (st.put o.dst e) (a.put o.dst v) w env M X:=by
 unfold LY at h;split at h;rotate_left
 ·cases h
 rename_i gd hg;split at h;rotate_left
 ·cases h
 rename_i hck;obtain⟨hgd,hwant⟩:=L4 S hg;have hd:∀t,o.dst=some t->t<st.nt:=fun t ht=>by
  rw[ht]at hck;cases gd with
  |none=>simpa[EA]using hck
  |some g=>obtain⟨q,c,x⟩:=g;simp[EA]at hck;exact hck.1
 have hq:∀q c x,gd=some (q,c,x)->o.dst≠some q:=fun q c x hg ht=>by
  rw[ht,hg]at hck;simp[EA]at hck
 split at h;rotate_left
 ·cases h
 rename_i qs r hs;cases h
 by_cases hh:CB gd
 ·have : ∃v, Ap P M w env r v/\∀w2, I4 M env F w w2->(execOp a.eval o).run P w2 = .ok (.value v) w2 :=by
   unfold Uj at hs;split at hs
   ·rename_i t x ho;have run:∀u w2,(Instr.loadAt t (a.eval x)).run P w2=.ok u w2->(execOp a.eval o).run P w2=.ok (.value u) w2:=fun u w2 h=>by simp[execOp,ho,h]
    split at hs
    ·rename_i y b off hy hx;obtain⟨u,h1,h2⟩:=Uk S hy (.inl ⟨b,off,rfl⟩) hs (Bc S hgd hh hx);exact⟨u,h1,fun w2 h=>run _ _ (h2 w2 h)⟩
    ·rename_i y cs off hy hx;obtain⟨u,h1,h2⟩:=Uk S hy (.inr ⟨cs,off,rfl⟩) hs (Bc S hgd hh hx);exact⟨u,h1,fun w2 h=>run _ _ (h2 w2 h)⟩
    ·cases hs
   ·rename_i t x i ho;split at hs
    ·rename_i fs e hu hx;split at hs
     ·rename_i f hf;split at hs
      ·rename_i y hy;split at hs
       ·cases hs
       ·rename_i hz;obtain⟨u,h1,h2⟩:=sO hu hf hy hz hs (Bc S hgd hh hx);exact⟨u,h1,fun w2 _=>by simp[execOp,ho,h2 w2]⟩
      ·cases hs
     ·cases hs
    ·cases hs
   ·cases hs
  obtain⟨v,h1,h2⟩:=this;exact⟨v,.inl ⟨hwant.2 hh,h2⟩,S.putG hgd hd hq (fun _=>h1) (fun hn=>absurd hh hn)⟩
 ·refine⟨undef,.inr ⟨?_,rfl⟩,S.putG hgd hd hq (fun hx=>absurd hx hh) (fun _=>rfl)⟩;cases hx:Region.wanted o (yielded ops a.tmps)with
  |false=>rfl
  |true=>exact absurd (hwant.1 hx) hh
theorem Qc {α:Type} {k:Nat} {x y:α}:∀{l:List (Nat×α)},(l.map (·.1)).Nodup->(k,x)∈l->(k,y)∈l->x=y
 |[],_,h,_=>by cases h
 |(j,z)::l,hn,hx,hy=>by
   obtain⟨h1,h2⟩:=Aiv.1 hn;rcases Ah4.1 hx with hx1|hx1<;>rcases Ah4.1 hy with hy1|hy1
   ·cases hx1;cases hy1;rfl
   ·cases hx1;exact(h1 (Ah2.2 ⟨(k,y),hy1,rfl⟩)).elim
   ·cases hy1;exact(h1 (Ah2.2 ⟨(k,x),hx1,rfl⟩)).elim
   ·exact Qc h2 hx1 hy1
theorem Ul (j:Nat):∀l:List SV,EV.names.namesL j (l.map .p)=false
 |[]=>rfl
 |s::l=>by simp[EV.names.namesL,EV.names,Ul j l]
def LZ (st:St):List Nat:=(st.own.filter fun x=>match x.2 with
 | .blk _ cs=>decide (st.nt<=x.1)&&(Dc cs).isSome
 |_=>false).map (·.1)
def St.held (st:St) (F:List Nat):St:={ st with own:=st.own.filter fun x=>!F.contains x.1 }
def St.unheld (st:St) (own0:List (Nat×Ah)) (F:List Nat):St:={ st with own:=(own0.filter fun x=>F.contains x.1)++st.own }
def I5 (P:Program) (ops:Array Oper) (F:List Nat) (st:St) (listed:Array Bool):List Nat->Option (Nat×List Prop×AK)
 |[]=>none
 |i::l=>match ops.toList[i]? with
   |some o=>if Region.free .any ops listed i then(match LY P ops F st o with
     |some (ps,e)=>some (i,ps,e)
     |none=>I5 P ops F st listed l)else I5 P ops F st listed l
   |none=>I5 P ops F st listed l
def N6 (P:Program) (ops:Array Oper) (F:List Nat):Nat->Array Bool->St->(Array Bool->St->Prop)->Prop
 |0,listed,st,K=>K listed st
 |fuel+1,listed,st,K=>match I5 P ops F st listed (Region.ready .any ops listed)with
   |some (i,ps,e)=>(match ops.toList[i]? with
     |some o=>BC ps (N6 P ops F fuel (listed.setIfInBounds i true) (st.put o.dst e) K)
     |none=>False)
   |none=>K listed st
def Qd (P:Program) (C:Aj) (fl:Bool) (ops:Array Oper) (st:St) (K:St->Prop):Prop :=
 if Iy ops&&C.yld.isNone then N6 P ops (LZ st) ops.size (AhZ ops.size false) st (fun listed st1 =>
  Hy P C fl ops ops.size listed (st1.held (LZ st)) fun st'=>if Dk ((st'.unheld st.own (LZ st)).own.map (·.1))then K (st'.unheld st.own (LZ st))else False)else False
theorem Um {ops:Array Oper} {F:List Nat} {listed:Array Bool}:∀{l:List Nat} {i:Nat} {ps:List Prop} {e:AK},I5 P ops F st listed l=some (i,ps,e)->i∈l/\∃o,ops.toList[i]? = some o/\Region.free .any ops listed i=true/\LY P ops F st o=some (ps,e)
 |[],_,_,_,h=>by simp[I5]at h
 |k::l,i,ps,e,h=>by
   simp only[I5]at h;have nxt:I5 P ops F st listed l=some (i,ps,e)->i∈k::l/\∃o,ops.toList[i]? = some o/\Region.free .any ops listed i=true/\LY P ops F st o=some (ps,e):=fun h=>by
    obtain⟨h1,h2⟩:=Um h;exact⟨AhL _ h1,h2⟩
   split at h
   ·rename_i o ho;split at h
    ·rename_i hf;split at h
     ·rename_i ps' e' hd;cases h;exact⟨AhF ..,o,ho,hf,hd⟩
     ·exact nxt h
    ·exact nxt h
   ·exact nxt h
theorem Un {ro:Option Nat} {n:Nat} {ops:Array Oper} {Q:Exit->Act->World->Prop} (hp:Iy ops=true) (hQ:∀c a w,¬ Q (.panic c) a w) {F:List Nat} {own0:List (Nat×Ah)} {yk nt:Nat} {K:Array Bool->St->Prop}
  (hK:∀(listed:Array Bool) (st:St) (a:Act),K listed st->Al P G st a w env M X->st.own=own0->st.yk=yk->st.nt=nt->listed.size=ops.size->∀f,Em ops.size listed<=f->Gj ro n P ops Q (I4 M env F w) f listed a w) :
  ∀(fuel:Nat) (listed:Array Bool) (st:St) (a:Act),N6 P ops F fuel listed st K->Al P G st a w env M X->st.own=own0->st.yk=yk->st.nt=nt->listed.size=ops.size->∀f,Em ops.size listed<=f->Gj ro n P ops Q (I4 M env F w) f listed a w
 |0,listed,st,a,h,S,e1,e2,e3,hsz,f,hf=>hK listed st a h S e1 e2 e3 hsz f hf
 |fuel+1,listed,st,a,h,S,e1,e2,e3,hsz,f,hf=>by
   simp only[N6]at h;split at h
   ·rename_i i ps e hfi;obtain⟨him,o,ho,hfree,hd⟩:=Um hfi;rw[ho]at h;obtain⟨hps,h⟩:=BD h;have ho':ops[i]? = some o:=by simpa using ho
    obtain⟨v,hy,S'⟩:=sP S hd;obtain⟨h1,o',h2,_⟩:=mem_ready.1 him;have hlt:=(AhE.1 h2).1;have hil:i<listed.size:=by rw[hsz];exact hlt
    have hun:=I2 hlt hil (by rw[<- LX hil];exact h1);obtain⟨f,rfl⟩:∃f',f=f'+1:=⟨f-1,by omega⟩;have tw:=El.put st o.dst e;exact Qb ho' hp hQ f listed a w (Region.free_spec ho' hfree) him hy (fun b _=>rfl) (Un hp hQ hK fuel _ _ _ h S' (tw.1.trans e1) (tw.2.1.trans e2) (tw.2.2.2.trans e3) (by rw[Ai4];exact hsz) f (by omega))
   ·exact hK listed st a h S e1 e2 e3 hsz f hf
def Qe (G:Bw) (w0:World) (env:Ar) (M X:Nat->Prop) (F:List Nat):Bw where
 g:=fun k Y w=>G.g k (fun b=>Y b\/(X b/\(M b\/∃k,k∈F/\env.at_ k=some b))) w/\w0.heap.size<=w.heap.size/\I4 M env F w0 w/\∀b,Y b->¬ (M b\/∃k,k∈F/\env.at_ k=some b)
 m0:=M
 pin:=fun k=>G.pin k\/k∈F
 pe:=env
theorem sQ (hG:Br G) {w0:World} {F:List Nat} (hlt:∀b,(M b\/∃k,k∈F/\env.at_ k=some b)->b<w0.heap.size):Br (Qe G w0 env M X F):=by
 rintro k Y w1 Y' w2 ⟨h1,h2,h3,h4⟩ hs hY hY';refine⟨hG _ _ _ _ _ h1 ⟨hs.os,hs.tape,hs.output,hs.drawn,hs.size,fun b hb hn=>hs.block b hb fun h=>hn (.inl h)⟩ (fun b h=>h.imp (hY b) id) (fun b h=>?_),Aig h2 hs.size,fun b hb=>?_,fun b hb hh=>?_⟩
 ·rcases h with h|h
  ·exact(hY' b h).imp .inl id
  ·exact .inl (.inr h)
 ·exact(hs.block b (Ah3 (hlt b hb) h2) fun h=>h4 b h hb).trans (h3 b hb)
 ·rcases hY' b hb with h|h
  ·exact h4 b h hh
  ·have:=hlt b hh;omega
theorem sR (hG:Br G) {C:Aj} (hC:EB P G C) {fl:Bool} {ro:Option Nat} {n:Nat} {ops:Array Oper} {Q:Exit->Act->World->Prop} {K:St->Prop} (hK:∀st a w,K st->AO P G st a w->Q .normal a w)
  (st:St) (a:Act) (w:World) (h:Qd P C fl ops st K) (hs:AO P G st a w):wpAnyIn (W ro) n P .any ops Q ops.size (AhZ ops.size false) a w:=by
 unfold Qd at h;split at h;rotate_left
 ·exact h.elim
 rename_i hc;simp only[pR,AiT]at hc;obtain⟨hp,hy⟩:=hc;obtain⟨env,M,X,S⟩:=hs;generalize hF:LZ st=F at h;have hFs:∀k,k∈F->st.nt<=k/\∃t cs,(k,Ah.blk t cs)∈st.own/\∃l,Dc cs=some l:=fun k hk=>by
  rw[<- hF]at hk;obtain⟨⟨k',o⟩,hm,rfl⟩:=Ah2.1 hk;obtain⟨h1,h2⟩:=rK.1 hm;cases o with
  |blk t cs =>
    simp only[pR,decide_eq_true_eq]at h2;exact⟨h2.1,t,cs,h1,AiM.1 h2.2⟩
  |_=>simp at h2
 have hFb:∀k,k∈F->∀b,env.at_ k=some b->X b/\¬ M b/\b<w.heap.size:=fun k hk b hb=>by
  obtain⟨_,t,cs,hm,_⟩:=hFs k hk;exact S.oat _ _ hm b (.inl hb)
 have plF:∀{k o},(k,o)∈st.own->k∈F->∀{e:Ar} {g:Nat},o.has e k g->e.at_ k=some g:=fun {k o} hm hk {e g} hg=>by
  obtain⟨_,t,cs,m3,_⟩:=hFs k hk;have h1:=S.nod;have:o=.blk t cs:=Qc h1 hm m3;subst this;exact hg.elim id (fun h=>h.elim)
 have hlt:∀b,(M b\/∃k,k∈F/\env.at_ k=some b)->b<w.heap.size:=fun b hb=>by
  rcases hb with hb|⟨k,hk,hb⟩
  ·exact S.mlt b hb
  ·exact(hFb k hk b hb).2.2
 have hG':=sQ (X:=X) hG hlt;have hC':EB P (Qe G w env M X F) C:=⟨hC.1,fun y h=>(by rw[hy]at h;cases h),hC.2.2⟩;refine N2 (Q':=fun e a w=>(∀c,e ≠ .panic c)/\Q e a w) (fun e a w h=>h.2) _ _ _ _ (PZ (S:=I4 M env F w) _ _ _ _ ?_);refine Un hp (fun c a w h =>h.1 c rfl) (own0 :=st.own) (yk :=st.yk) (nt :=st.nt) (fun listed st1 a1 h1 S1 e1 e2 e3 hsz f hf => ?_) _ _ st a h S rfl rfl rfl (by simp) _ (by
  unfold Em;have:=AiO (fun i=>!(AhZ ops.size false).getD i false) (Ah5 ops.size);simpa using this)
 have mem1:∀k o,(k,o)∈(st1.held F).own->(k,o)∈st.own/\k ∉ F:=fun k o hm=>by
  obtain⟨m1,m2⟩:=rK.1 hm;rw[e1]at m1;exact⟨m1,fun hk=>by rw[AhA.2 hk]at m2;cases m2⟩
 have off:∀k o,(k,o)∈(st1.held F).own->∀b,o.has env k b->¬ (M b\/∃k,k∈F/\env.at_ k=some b):=fun k o hm b hb hx=>by
  obtain⟨m1,m2⟩:=mem1 k o hm;rcases hx with hx|⟨k',hk',hx⟩
  ·exact(S.oat _ _ m1 b hb).2.1 hx
  ·obtain⟨_,t,cs,hm',_⟩:=hFs k' hk';exact S.inj _ _ _ _ m1 hm' (fun e=>m2 (e ▸ hk')) b hb (.inl hx)
 have Sh:Al P (Qe G w env M X F) (st1.held F) a1 w env M (fun b=>X b/\¬ (M b\/∃k,k∈F/\env.at_ k=some b)):=by
  refine⟨⟨⟨hG _ _ _ _ _ S1.gam.1 ⟨rfl,rfl,rfl,Ah0 _,Ah0 _,fun _ _ _=>rfl⟩ (fun b hb=>?_) (fun b hb=>?_),Ah0 _,fun _ _=>rfl,fun b hb=>hb.2⟩,fun k hk=>?_⟩,fun b hb=>.inl hb,fun k o hm=>S1.own k o (rK.1 hm).1,fun k o hm g hg=>?_,fun k o k' o' hm hm'=>S1.inj k o k' o' (rK.1 hm).1 (rK.1 hm').1,?_,S1.mlt,fun b hb=>S1.xlt b hb.1,S1.siz,S1.tmp,S1.grd,fun d hd=>?_,S1.dno⟩
  ·by_cases hx:M b\/∃k,k∈F/\env.at_ k=some b
   ·exact .inr ⟨hb,hx⟩
   ·exact .inl ⟨hb,hx⟩
  ·rcases hb with hb|hb<;>exact .inl hb.1
  ·rcases hk with hk|hk
   ·exact⟨(S1.gam.2 k hk).1,rfl,rfl⟩
   ·exact⟨by show st1.nt<=k;rw[e3];exact(hFs k hk).1,rfl,rfl⟩
  ·obtain⟨q1,q2,q3⟩:=S1.oat k o (rK.1 hm).1 g hg;exact⟨⟨q1,off k o hm g hg⟩,q2,q3⟩
  ·exact(S1.nod.sublist (List.Sublist.map _ (List.filter_sublist ..)))
  ·obtain⟨D,e,q1,q2,q3,q4⟩:=S1.dfr d hd;refine⟨D,e,q1,⟨q2,fun hx=>?_⟩,q3,fun k o hm=>q4 k o (rK.1 hm).1⟩;rcases hx with hx|⟨k,hk,hx⟩
   ·exact q3 hx
   ·obtain⟨_,t,cs,hm,_⟩:=hFs k hk;exact q4 k _ (by rw[e1];exact hm) (.inl hx)
 refine Ui hG' hC' (K:=fun st'=>if Dk ((st'.unheld st.own F).own.map (·.1))then K (st'.unheld st.own F)else False) (fun st' a' w' hk hs'=>⟨fun c h=>(by cases h),?_⟩) (fun c a w h=>h.1 c rfl) (fun st' a' w' hs'=>?_) _ _ _ _ _ h1 ⟨env,M,_,Sh⟩ hsz f hf
 ·obtain⟨env',M',Y,S'⟩:=hs';exact S'.gam.1.2.2.1
 split at hk;rotate_left
 ·exact hk.elim
 rename_i hnd;refine hK _ _ _ hk ?_;obtain⟨env',M',Y,S'⟩:=hs';obtain⟨⟨g1,g2,g3,g4⟩,hpin⟩:=S'.gam;have pe:∀k,G.pin k\/k∈F->st'.nt<=k/\env'.at_ k=env.at_ k/\env'.rv k=env.rv k:=hpin;have mY:∀b,M' b->M b\/Y b:=S'.mx;have hl:Be M (fun b=>M' b\/M b) w w':=⟨g2,fun b hb=>g3 b (.inl hb),fun b hb=>.inr hb⟩;have hl2:Be M' (fun b=>M' b\/M b) w' w':=⟨Ah0 _,fun _ _=>rfl,fun b hb=>.inl hb⟩;have memF:∀k o,(k,o)∈(st'.unheld st.own F).own->((k,o)∈st.own/\k∈F)\/(k,o)∈st'.own:=fun k o hm=>by
  rcases AhG.1 hm with hm|hm
  ·obtain⟨m1,m2⟩:=rK.1 hm;exact .inl ⟨m1,AhA.1 m2⟩
  ·exact .inr hm
 have sep:∀b,Y b->∀k,k∈F->env'.at_ k≠some b:=fun b hb k hk hx=>g4 b hb (.inr ⟨k,hk,by rw[<- (pe k (.inr hk)).2.1];exact hx⟩);refine⟨env',fun b=>M' b\/M b,fun b=>Y b\/(X b/\(M b\/∃k,k∈F/\env.at_ k=some b)),⟨g1,fun k hk=>?_⟩,fun b hb=>?_,fun k o hm=>?_,fun k o hm g hg=>?_,fun k o k' o' hm hm' hne g hg hg'=>?_,F8 hnd,fun b hb=>?_,fun b hb=>?_,S'.siz,fun s e hse=>?_,S'.grd,fun d hd=>?_,S'.dno⟩
 ·obtain⟨p1,p2,p3⟩:=pe k (.inl hk);obtain⟨_,q2,q3⟩:=S.gam.2 k hk;exact⟨p1,p2.trans q2,p3.trans q3⟩
 ·have hm : M b->G.m0 b\/(Y b\/(X b/\(M b\/∃k, k∈F/\env.at_ k = some b))):=fun hb =>by
   rcases S.mx b hb with h|h
   ·exact .inl h
   ·exact .inr (.inr ⟨h,.inl hb⟩)
  rcases hb with hb|hb
  ·rcases mY b hb with h|h
   ·exact hm h
   ·exact .inr (.inl h)
  ·exact hm hb
 ·rcases memF k o hm with ⟨m1,m2⟩|m1
  ·obtain⟨_,p2,p3⟩:=pe k (.inr m2);obtain⟨_,t,cs,m3,l,hcs⟩:=hFs k m2;have:o=.blk t cs:=by
    have h1:=S.nod;exact Qc h1 m1 m3
   subst this;refine(S.own k _ m1).move hl p2 p3 (fun g hg=>g3 g (.inr ⟨k,m2,hg.elim id (fun h=>h.elim)⟩)) (fun j hj=>?_);have hj:EV.names.namesL j cs=true:=hj;rw[HF hcs,Ul]at hj;cases hj
  ·exact(S'.own k o m1).move hl2 rfl rfl (fun _ _=>rfl) (fun _ _=>⟨rfl,rfl⟩)
 ·rcases memF k o hm with ⟨m1,m2⟩|m1
  ·have hg:env.at_ k=some g:=by rw[<- (pe k (.inr m2)).2.1];exact plF m1 m2 hg
   obtain⟨q1,q2,q3⟩:=hFb k m2 g hg;refine⟨.inr ⟨q1,.inr ⟨k,m2,hg⟩⟩,fun hx=>?_,Ah3 q3 g2⟩;rcases hx with hx|hx
   ·rcases mY g hx with h|h
    ·exact q2 h
    ·exact g4 g h (.inr ⟨k,m2,hg⟩)
   ·exact q2 hx
  ·obtain⟨q1,q2,q3⟩:=S'.oat k o m1 g hg;exact⟨.inl q1,fun hx=>hx.elim q2 fun hx=>g4 g q1 (.inl hx),q3⟩
 ·rcases memF k o hm with ⟨m1,m2⟩|m1
  ·rcases memF k' o' hm' with ⟨m1',m2'⟩|m1'
   ·rw[Ah.has_env (pe k (.inr m2)).2.1]at hg;rw[Ah.has_env (pe k' (.inr m2')).2.1]at hg';exact S.inj _ _ _ _ m1 m1' hne g hg hg'
   ·exact sep g (S'.oat k' o' m1' g hg').1 k m2 (plF m1 m2 hg)
  ·rcases memF k' o' hm' with ⟨m1',m2'⟩|m1'
   ·exact sep g (S'.oat k o m1 g hg).1 k' m2' (plF m1' m2' hg')
   ·exact S'.inj _ _ _ _ m1 m1' hne g hg hg'
 ·rcases hb with hb|hb
  ·exact S'.mlt b hb
  ·exact Ah3 (S.mlt b hb) g2
 ·rcases hb with hb|hb
  ·exact S'.xlt b hb
  ·exact Ah3 (S.xlt b hb.1) g2
 ·obtain⟨q1,q2,q3⟩:=S'.tmp s e hse;exact⟨q1,fun he=>(q2 he).later hl2,q3⟩
 ·obtain⟨D,e,q1,q2,q3,q4⟩:=S'.dfr d hd;refine⟨D,e,q1,.inl q2,fun hx=>hx.elim q3 fun hx=>g4 D q2 (.inl hx),fun k o hm=>?_⟩;rcases memF k o hm with ⟨m1,m2⟩|m1
  ·exact fun hc=>sep D q2 k m2 (plF m1 m2 hc)
  ·exact q4 k o m1
end
def Uo:EV->Bool
 | .p (.raw (.slice none 0 0))=>true
 |_=>false
def I6 (r:Nat) (e:EV):EV:=if Uo e then .row r else e
def St.nilRow (st:St) (s r:Nat) (e:TypeId) (sz:Nat):St:=if decide (r<st.nt)&&(st.T.all fun x=>!(x.2.v.names r))&&st.noName r then
 { st with T:=st.T.map (fun x=>if x.1 == s then(x.1,{ x.2 with v:=I6 r x.2.v })else x),own:=(r,.row e sz 0 (fun _=>[]))::st.own.map (fun x=>if x.1 == s then(match x.2 with | .blk t cs=>(x.1,.blk t (cs.map (I6 r)))|o=>(x.1,o))else x) }else st
def St.nilRows (st:St):List (Nat×Nat×TypeId×Nat)->St
 |[]=>st
 |(s,r,e,sz)::l=>(st.nilRow s r e sz).nilRows l
def Gk:Code->Nat
 | .region id _ _=>id
 | .seq a b=>match a with
   | .skip=>Gk b
   |_=>Gk a
 | .block _ b=>Gk b
 | .loop b=>Gk b
 | .scope b=>Gk b
 | .cond _ a _=>Gk a
 | .rangeFunc _ _ a _=>Gk a
 |_=>0
def Ku:List (Nat×AK)->Nat->Nat->Option AK
 |[],_,_=>none
 |(s,e)::l,t,j=>if s == t then(match j with|0=>some e|j+1=>Ku l t j)else Ku l t j
def N7 (T:List (Nat×AK)):List Nat->List (Nat×AK)->List Prop
 |_,[]=>[]
 |seen,(s,e)::l=>(match e.g,Ku T s (seen.count s)with
   |none,some ⟨none,v⟩=>fitE v e.v
   |_,_=>[False])++N7 T (s::seen) l
def Jx (T l:List (Nat×AK)):List Prop:=N7 T [] l
def AK.plain (e:AK):Bool:=e.g.isNone
def N8:List Prop->Prop
 |[]=>True
 |[p]=>p
 |p::ps=>p/\N8 ps
def EZ.keptT (I:EZ) (st:St):List (Nat×AK):=st.T.filter fun x=>I.keep.contains x.1&&x.2.plain
def EZ.keptO (I:EZ) (st:St):List (Nat×Ah):=st.own.filter fun x=>I.keepO.contains x.1
def Qf (T:List (Nat×AK)):List (Nat×SV)->List Prop
 |[]=>[]
 |(s,v)::l=>(match GG T s with
   |some ⟨none,.p u⟩=>HH u v
   |_=>[False])++Qf T l
def EZ.tied (I:EZ) (st:St):EZ:={ I with inv:=fun g=>BC (Qf (I.keptT st) (I.tie g)) (I.inv g) }
def Dz.tied (I:Dz) (st:St):Dz:={ I with inv:=fun k g=>BC (Qf (st.T.filter fun x=>I.keep.contains x.1&&x.2.plain) (I.tie g)) (I.inv k g) }
def EZ.head (I:EZ) (st:St) (g:I.T):St:={ st with T:=(I.chg g).map (fun x=>(x.1,⟨none,x.2⟩))++I.keptT st,own:=I.own g++I.keptO st,yk:=match I.yk with|none=>st.yk|some f=>f g }
def EZ.fitY (I:EZ) (st st':St) (g:I.T):List Prop:=(if st'.nt == st.nt then []else [False])++match I.yk with
 |none=>if st'.yk == st.yk&&st'.stop == st.stop then []else [False]
 |some f=>[st'.yk=f g,st'.stop=st.stop]
def Dz.keptT (I:Dz) (st:St):List (Nat×AK):=st.T.filter fun x=>I.keep.contains x.1&&x.2.plain
def Dz.keptO (I:Dz) (st:St):List (Nat×Ah):=st.own.filter fun x=>I.keepO.contains x.1
def Dz.head (I:Dz) (st:St) (k:Nat) (g:I.T):St:={ st with T:=I.keptT st,own:=I.own k g++I.keptO st }
def sS (vk:Nat->Value) (T:List (Nat×AK)):List (Nat×AK):=T.map fun x=>(x.1,⟨none,.p (.raw (vk x.1))⟩)
def Kv:List Nat->List SV->List (Nat×AK)
 |p::ps,s::ss=>(p,⟨none,.p s⟩)::Kv ps ss
 |_,_=>[]
def Dz.round (I:Dz) (st:St) (ps:List Nat) (ss:List SV) (k:Nat) (g:I.T) (vk:Nat->Value):St:={ I.head st k g with T:=Kv ps ss++I.keptT st++sS vk (I.keptT st) }
def Up (e:AK):Bool:=match e with
 |⟨none,.p (.raw _)⟩=>true
 |_=>false
def Kw (T:List (Nat×AK)) (vk:Nat->Value):List (Nat×AK)->List Prop
 |[]=>[]
 |(s,_)::l=>(match T.reverse.find? (fun x=>x.1 == s&&Up x.2)with
   |some (_,⟨_,.p (.raw v)⟩)=>[v=vk s]
   |_=>[False])++Kw T vk l
def Uq (st st':St):List Prop:=if st'.nt == st.nt&&st'.yk == st.yk&&st'.stop == st.stop then []else [False]
def Dz.fitK (I:Dz) (st st':St) (vk:Nat->Value):List Prop:=Uq st st'++Jx st'.T (I.keptT st)++Kw st'.T vk (I.keptT st)
def Dz.left (I:Dz) (st st':St) (ks:List Nat):St:={ st with T:=I.keptT st,own:=st'.own.filter fun x=>ks.contains x.1 }
def vc (P:Program) (C:Aj):Code->St->(Exit->St->Prop)->Prop
 | .skip,st,K=>K .normal st
 | .label _,st,K=>K .normal st
 | .exit id,st,K=>K (.exit id) st
 | .goto l,st,K=>K (.goto l) st
 | .ret,st,K=>K .ret st
 | .region id ops draw,st,K=>LN (C.cast id) (((st.rekeys (C.rek id)).frzs (C.frz id)).nilRows (C.nils id)) fun st=>if draw then(if C.anys.contains (id+2000)then Qd P C true ops st (K .normal)else if C.anys.contains id||C.anys.contains (id+1000)then Hy P C (C.anys.contains (id+1000)) ops ops.size (AhZ ops.size false) st (K .normal)else Nt P C ops st (K .normal))else Fa P C ops ops.toList st (K .normal)
 | .seq x y,st,K=>match C.joins (Gk y)with
   |none=>vc P C x st fun e st'=>match e with
     | .normal=>vc P C y st' K
     |e=>K e st'
   |some I0=>(fun I=>(vc P C x st fun e st'=>match e with
     | .normal=>∃g:I.T,BC (I.fitY st st' g++Jx st'.T (I.head st g).T++Eu st'.own (I.head st g).own) (I.inv g)
     |e=>K e st')/\∀g:I.T,I.inv g->if Dk ((I.own g++I.keptO st).map (·.1))then vc P C y (I.head st g) K else False) (I0.tied st)
 | .cond c x y,st,K=>match st.rho none c with
   |some (.p (.bool b))=>(b=true->vc P C x st K)/\(b=false->vc P C y st K)
   |_=>False
 | .block id c,st,K=>vc P C c st fun e st'=>match e with
   | .exit id'=>if id'=id then K .normal st' else K (.exit id') st'
   |e=>K e st'
 | .loop c,st,K=>match C.loops (Gk c)with
   |none=>False
   |some I0 =>LN (C.castL (Gk c)) (st.nilRows (C.nilsL (Gk c))) fun st =>(fun I =>(∃g : I.T, BC (I.fitY st st g++Jx st.T ((I.chg g).map fun x =>(x.1, ⟨none, x.2⟩))++Eu st.own (I.own g)) (I.inv g)) /\
    ∀g:I.T,I.inv g->if Dk ((I.own g++I.keptO st).map (·.1))then(vc P C c (I.head st g) fun e st'=>match e with
      | .normal=>∃g':I.T,BC (I.fitY st st' g'++Jx st'.T (I.head st g').T++Eu st'.own (I.head st g').own) (I.inv g'/\I.mu g'<I.mu g)
      |e=>K e st')else False) (I0.tied st)
 | .rangeFunc f ps a b,st,K=>match st.rho none f with
   |some (.p (.clo g caps))=>match C.iters g,C.rfs (Gk a)with
     |some it, some I0 =>(fun I =>if C.yld.isNone&&(I.keptT st).all (fun x => !(ps.toList.contains x.1))&&Dk ps.toList&&ps.toList.all (fun p =>decide (p<st.nt))then
       (it.pre caps/\∃t:I.T,BC (Eu st.own (I.own 0 t++I.keptO st)) (I.inv 0 t)) /\
       (∀(k:Nat) (t:I.T) (vk:Nat->Value),k<it.cnt caps->I.inv k t->if Dk (Bq (I.own k t++I.keptO st))&&(it.item caps k).length == ps.size&&D6.noMems (it.item caps k)then
        vc P C a (I.round st ps.toList (it.item caps k) k t vk) (fun e st1=>match e with
         | .normal=>vc P C b st1 (fun e st'=>match e with
           | .normal=>∃t':I.T,BC (I.fitK st st' vk++Eu st'.own (I.own (k+1) t'++I.keptO st)) (I.inv (k+1) t')
           | .ret=>BC (I.fitK st st' vk) (K .ret (I.left st st' (Bq (I.own k t++I.keptO st))))
           | .exit id=>BC (I.fitK st st' vk) (K (.exit id) (I.left st st' (Bq (I.own k t++I.keptO st))))
           | .goto l=>BC (I.fitK st st' vk) (K (.goto l) (I.left st st' (Bq (I.own k t++I.keptO st))))
           |_=>False)
         |_=>False)else False) /\
       (∀t:I.T,I.inv (it.cnt caps) t->if Dk (Bq (I.own (it.cnt caps) t++I.keptO st))then K .normal (I.head st (it.cnt caps) t)else False)
      else False) (I0.tied st)
     |_,_=>False
   |_=>False
 |_,_,_=>False
section
variable {P:Program} {M:Nat->Prop} {w:World} {G:Bw} {st:St} {a:Act} {env:Ar} {X:Nat->Prop}
theorem Qg {e:AK} {t:Nat}:∀{l:List (Nat×AK)} {j:Nat},Ku l t j=some e->(t,e)∈l
 |[],_,h=>by simp[Ku]at h
 |(s,e')::l,j,h=>by
   simp only[Ku]at h;split at h
   ·rename_i hs;simp at hs;subst hs;cases j with
    |zero=>cases h;simp
    |succ j=>exact AhL _ (Qg h)
   ·exact AhL _ (Qg h)
theorem Ur (S:Al P G st a w env M X):∀{l:List (Nat×AK)} {seen:List Nat},all (N7 st.T seen l)->∀s e,(s,e)∈l->e.g=none/\s<st.nt/\Ap P M w env e.v (a.eval (.tmp s))
 |[],_,_,s,e,hm=>by cases hm
 |(s0,e0)::l,seen,h,s,e,hm=>by
   simp only[N7]at h;obtain⟨h1,h2⟩:=all_append h;rcases Ah4.1 hm with hm|hm
   ·cases hm;split at h1
    ·rename_i v hg hl;obtain⟨a1,a2,_⟩:=S.tmp _ _ (Qg hl);exact⟨hg,a1,Hs h1 (a2 trivial)⟩
    grind [AC]
   ·exact Ur S h2 s e hm
theorem N9 (S:Al P G st a w env M X) {l:List (Nat×AK)} (h:all (Jx st.T l)):∀s e,(s,e)∈l->e.g=none/\s<st.nt/\Ap P M w env e.v (a.eval (.tmp s)):=Ur S h
theorem Al.refit (S:Al P G st a w env M X) {st2:St} (hT:∀s e,(s,e)∈st2.T->e.g=none/\s<st.nt/\Ap P M w env e.v (a.eval (.tmp s))) (hO:∀k o,(k,o)∈st2.own->(∃o',(k,o')∈st.own)/\B8 P M w env k o)
  (hS:∀k o,(k,o)∈st2.own->∃o',(k,o')∈st.own/\∀g,o.sub g->o'.sub g) (hn:(st2.own.map (·.1)).Nodup) (hy:st2.yk=st.yk) (hnt:st2.nt=st.nt):Al P G st2 a w env M X:=by
 refine⟨by rw[hy,hnt];exact S.gam,S.mx,(by grind),?_,?_,hn,S.mlt,S.xlt,by rw[hnt];exact S.siz,?_,?_,?_,S.dno⟩
 ·intro k o h g hg;obtain⟨o',h',hs⟩:=hS k o h;exact S.oat _ _ h' g (hg.imp id (hs g))
 ·intro k o k' o' h h' hne g hg hc;obtain⟨_,e1,f1⟩:=hS k o h;obtain⟨_,e2,f2⟩:=hS k' o' h';exact S.inj _ _ _ _ e1 e2 hne g (hg.imp id (f1 g)) (hc.imp id (f2 g))
 ·intro s e h;obtain⟨h1,h2,h3⟩:=hT s e h;rw[hnt];exact⟨h2,fun _=>h3,fun hn=>absurd (Hp (by rw[h1];trivial)) hn⟩
 ·grind
 ·intro d hd;obtain⟨D,e,h1,h2,h3,h4⟩:=S.dfr d hd;refine⟨D,e,h1,h2,h3,fun k o h=>?_⟩;obtain⟨_,e1,f1⟩:=hS k o h;exact fun hc=>h4 _ _ e1 (hc.imp id (f1 D))
theorem Us {r:Nat} {e:EV} {v:Value} {env':Ar} (hr:env'.rv r=.slice none 0 0) (h:Ap P M w env' e v):Ap P M w env' (I6 r e) v:=by
 unfold I6;split
 ·rename_i hn;unfold Uo at hn;split at hn
  ·cases h with
   |p h=>cases h;exact .row hr
  ·cases hn
 ·exact h
theorem Al.nilRow (S:Al P G st a w env M X) (s r:Nat) (e:TypeId) (sz:Nat):∃env',Al P G (st.nilRow s r e sz) a w env' M X:=by
 unfold St.nilRow;split;rotate_left
 ·exact⟨env,S⟩
 rename_i hc;simp only[pR,AhC,Aib,decide_eq_true_eq]at hc;obtain⟨⟨hrn,hT⟩,hO⟩:=hc;have hO':∀k o,(k,o)∈st.own->k≠r/\o.names r=false:=fun k o h=>by
  have:=AhC.1 hO (k,o) h;simpa using this
 let env':Ar:={ env with at_:=fun k=>if k=r then none else env.at_ k,rv:=fun k=>if k=r then .slice none 0 0 else env.rv k };have hat:∀k,k≠r->env'.at_ k=env.at_ k:=fun k h=>by simp[env',h]
 have hrv:∀k,k≠r->env'.rv k=env.rv k:=fun k h=>by simp[env',h]
 have hrr:env'.rv r=.slice none 0 0:=by simp[env']
 have har:env'.at_ r=none:=by simp[env']
 have den:∀{e v},e.names r=false->Ap P M w env e v->Ap P M w env' e v:=fun {e v} hn h=>h.mono (Be.refl M w) (fun k hk=>by
  have:k≠r:=fun e'=>by rw[e',hn]at hk;cases hk
  exact⟨hat k this,hrv k this⟩) rfl
 -- an own thing,as it was
 have own1:∀k o,(k,o)∈st.own->B8 P M w env' k o:=fun k o h=>by
  obtain⟨hk,hn⟩:=hO' k o h;have h1:=S.own k o h;exact h1.move (Be.refl M w) (hat k hk) (hrv k hk) (fun _ _=>rfl) (fun j hj=>by
   have:j≠r:=fun e=>by rw[e,hn]at hj;cases hj
   exact⟨hat j this,hrv j this⟩)
 have mem:∀k o,(k,o)∈st.own.map (fun x=>if x.1 == s then(match x.2 with | .blk t cs=>(x.1,Ah.blk t (cs.map (I6 r)))|o=>(x.1,o))else x)->(∃o',(k,o')∈st.own/\∀g,o.sub g->o'.sub g)/\B8 P M w env' k o:=fun k o h=>by
  obtain⟨⟨k',o'⟩,hm,he⟩:=Ah2.1 h;have h1:=own1 k' o' hm;simp only at he;split at he
  ·cases o' with
   |blk t cs =>
     simp only[Prod.mk.injEq]at he;obtain⟨rfl,rfl⟩:=he;refine⟨⟨_,hm,fun _ h=>h⟩,?_⟩;obtain⟨g,vs,ha,hh,hz,hd⟩:=h1;refine⟨g,vs,ha,hh,by simpa using hz,fun i hi=>?_⟩;have hi':i<cs.length:=by simpa using hi
     refine⟨(hd i hi').1,?_⟩;have e1:EV.at (cs.map (I6 r)) i=I6 r (EV.at cs i):=by simp[EV.at,AS,hi']
     rw[e1];exact Us hrr (hd i hi').2
   |_ =>
     simp only[Prod.mk.injEq]at he;obtain⟨rfl,rfl⟩:=he;exact⟨⟨_,hm,fun _ h=>h⟩,h1⟩
  ·simp only[Prod.mk.injEq]at he;obtain⟨rfl,rfl⟩:=he;exact⟨⟨_,hm,fun _ h=>h⟩,h1⟩
 have keys:(st.own.map (fun x=>if x.1 == s then(match x.2 with | .blk t cs=>(x.1,Ah.blk t (cs.map (I6 r)))|o=>(x.1,o))else x)).map (·.1)=st.own.map (·.1):=by
  rw[List.map_map];apply List.map_congr_left;rintro⟨k,o⟩ _;simp only[Function.comp];split
  ·cases o<;>rfl
  ·rfl
 refine⟨env',⟨S.gam.1,S.gam.2.but hrn (fun j hj=>⟨hat j hj,hrv j hj⟩)⟩,S.mx,?_,?_,?_,?_,S.mlt,S.xlt,S.siz,?_,?_,?_,S.dno⟩
 ·intro k o h;rcases Ah4.1 h with h|h
  ·cases h;exact⟨rH _,fun i hi=>by omega,.inl ⟨har,hrr,rfl⟩⟩
  ·exact(mem k o h).2
 ·intro k o h g hg;rcases Ah4.1 h with h|h
  ·cases h;exact hg.elim (fun hg=>by rw[har]at hg;cases hg) (fun h=>h.elim)
  ·obtain⟨o',ho',hs⟩:=(mem k o h).1;rw[Ah.has_env (hat k (hO' k o' ho').1)]at hg;exact S.oat k o' ho' g (hg.imp id (hs g))
 ·intro k o k' o' h h' hne g hg;rcases Ah4.1 h with h|h
  ·cases h;exact hg.elim (fun hg=>by rw[har]at hg;cases hg) (fun h=>h.elim)
  ·rcases Ah4.1 h' with h'|h'
   ·cases h';exact fun hc=>hc.elim (fun hg=>by rw[har]at hg;cases hg) (fun h=>h.elim)
   ·obtain⟨q,hq,f1⟩:=(mem k o h).1;obtain⟨q',hq',f2⟩:=(mem k' o' h').1;rw[Ah.has_env (hat k (hO' k q hq).1)]at hg;rw[Ah.has_env (hat k' (hO' k' q' hq').1)];exact fun hc=>S.inj k q k' q' hq hq' hne g (hg.imp id (f1 g)) (hc.imp id (f2 g))
 ·simp only[AiJ];refine Aiv.2 ⟨fun hm=>?_,by have:=S.nod;rw[<- keys]at this;exact this⟩;obtain⟨⟨k,o⟩,hm',he⟩:=Ah2.1 hm;obtain⟨o',ho',_⟩:=(mem k o hm').1;exact(hO' k o' ho').1 he
 ·intro s' e' h;obtain⟨⟨s0,e0⟩,hm,he⟩:=Ah2.1 h;obtain⟨h1,h2,h3⟩:=S.tmp s0 e0 hm;have hn:=hT _ hm;simp only at he;split at he
  ·simp only[Prod.mk.injEq]at he;obtain⟨rfl,rfl⟩:=he;exact⟨h1,fun ho=>Us hrr (den hn (h2 ho)),h3⟩
  ·simp only[Prod.mk.injEq]at he;obtain⟨rfl,rfl⟩:=he;exact⟨h1,fun ho=>den hn (h2 ho),h3⟩
 ·intro s' e' h q c v hq;obtain⟨⟨s0,e0⟩,hm,he⟩:=Ah2.1 h;simp only at he;split at he
  ·simp only[Prod.mk.injEq]at he;obtain⟨rfl,rfl⟩:=he;exact S.grd s0 e0 hm q c v hq
  ·simp only[Prod.mk.injEq]at he;obtain⟨rfl,rfl⟩:=he;exact S.grd s0 e0 hm q c v hq
 ·intro d hd;obtain⟨D,e0,q1,q2,q3,q4⟩:=S.dfr d hd;refine⟨D,e0,q1,q2,q3,fun k o h hg=>?_⟩;rcases Ah4.1 h with h|h
  ·cases h;exact hg.elim (fun hg=>by rw[har]at hg;cases hg) (fun h=>h.elim)
  ·obtain⟨o',ho',hs⟩:=(mem k o h).1;rw[Ah.has_env (hat k (hO' k o' ho').1)]at hg;have hg:=hg.imp id (hs D);exact q4 k o' ho' hg
theorem AO.nilRows:∀(l:List (Nat×Nat×TypeId×Nat)) {st:St},AO P G st a w->AO P G (st.nilRows l) a w
 |[],_,h=>h
 |(s,r,e,sz)::l,st,⟨env,M,X,S⟩=>by
   obtain⟨env',S'⟩:=S.nilRow s r e sz;exact AO.nilRows l ⟨env',M,X,S'⟩
end
section
variable {P:Program} {G G':Bw} {M:Nat->Prop} {w:World} {st:St} {a:Act} {env:Ar} {X:Nat->Prop}
theorem Al.recast (S:Al P G st a w env M X) {w':World} {Y X':Nat->Prop} (hgam:G'.g st.yk X' w'/\Ih G' env st.nt) (hm0:∀b,G.m0 b->G'.m0 b\/X' b) (hsz:w.heap.size<=w'.heap.size) (hblk:∀b,b<w.heap.size->¬ Y b->w'.heap[b]? = w.heap[b]?)
  (hYM:∀b,Y b->¬ M b) (hYO:∀k o,(k,o)∈st.own->∀g,o.has env k g->¬ Y g) (hYD:∀D,({ target:=.collected D,args:=#[] }:Deferred)∈a.defers->¬ Y D) (hX:∀b,X b->X' b) (hXl:∀b,X' b->b<w'.heap.size) :
  Al P G' st a w' env M X':=by
 have hl:Be M M w w':=⟨hsz,fun b hb=>hblk b (S.mlt b hb) (fun e=>hYM b e hb),fun _ h=>h⟩;refine⟨hgam,fun b h=>?_,?_,?_,S.inj,S.nod,fun b h=>Ah3 (S.mlt b h) hsz,hXl,S.siz,?_,S.grd,?_,S.dno⟩
 ·rcases S.mx b h with h|h
  ·exact hm0 b h
  grind
 ·intro k o h;have h1:=S.own k o h;have h2:=S.oat k o h;exact h1.move hl rfl rfl (by grind) (by grind)
 ·intro k o h g hg;obtain⟨q1,q2,q3⟩:=S.oat k o h g hg;grind
 ·intro s e h;obtain⟨h1,h2,h3⟩:=S.tmp s e h;exact⟨h1,fun ho=>(h2 ho).later hl,h3⟩
 ·intro d h;obtain⟨D,e,q1,q2,q3,q4⟩:=S.dfr d h;grind
structure RF where
 G:Bw
 a0:Act
 M0:Nat->Prop
 X0:Nat->Prop
 n0:Nat
 lp:Nat
 o:Bool
 rc:LoopState->Option Code->Loop
def RF.xp (R:RF) (w:World) (b:Nat):Prop:=R.X0 b\/(R.n0<=b/\b<w.heap.size)
def RF.Rec (R:RF) (s:LoopState) (p:Option Code) (w:World):Prop:=w.heap[R.lp]? = some (.loop (R.rc s p))/\(R.o=true->w.heap[R.n0]? = some (.deferred (some [])))
def RF.Core (P:Program) (R:RF) (stX:St) (s:LoopState) (p:Option Code) (Xit:Nat->Prop) (w:World):Prop :=
 ∃env M,Al P R.G stX R.a0 w env M (R.xp w)/\R.Rec s p w/\(∀b,Xit b->R.lp+1<=b/\¬ M b)/\¬ M R.n0/\¬ M (R.lp) /\
   (∀k o g,(k,o)∈stX.own->o.has env k g->¬ R.M0 g/\¬ Xit g/\g≠R.n0/\g≠R.lp)
structure RF.Ok (R:RF):Prop where
 st:Br R.G
 m0:∀b,R.M0 b->b<R.n0
 x0:∀b,R.X0 b->b<R.n0
 lp0:R.n0<=R.lp
 lpo:R.o=true->R.lp=R.n0+1
 df:∀D,({ target:=.collected D,args:=#[] }:Deferred)∈R.a0.defers->R.X0 D
theorem RF.Ok.dlt {R:RF} (h:R.Ok) (D:Nat) (hD:({ target:=.collected D,args:=#[] }:Deferred)∈R.a0.defers):D<R.n0:=h.x0 D (h.df D hD)
theorem Kx {w:World} {b:Nat} {o:Obj} (h:w.heap[b]? = some o):b<w.heap.size:=(by grind)
theorem RF.gstep {R:RF} (h:R.Ok) {k:Nat} {w w':World} (hg:R.G.g k (R.xp w) w) (_:R.n0<=w.heap.size) (hs:Same (R.xp w) w w'):R.G.g k (R.xp w') w' :=
 h.st k _ w _ w' hg hs (fun b hb=>hb.imp id (fun q=>⟨q.1,Ah3 q.2 hs.size⟩)) (fun b hb=>by
  rcases hb with hb|hb
  ·exact .inl (.inl hb)
  ·rcases Aio b w.heap.size with hlt|hge
   ·exact .inl (.inr ⟨hb.1,hlt⟩)
   grind)
theorem RF.core_stable {R:RF} (h:R.Ok) {stX:St} {s:LoopState} {p:Option Code} {Xit Xit':Nat->Prop} {w w':World} (hc:R.Core P stX s p Xit w) (hs:Same Xit w w') (_:∀b,Xit b->Xit' b) (h2:∀b,Xit' b->Xit b\/w.heap.size<=b) :
  R.Core P stX s p Xit' w':=by
 obtain⟨env,M,S,⟨hr1,hr2⟩,hx,hd,hl,ho⟩:=hc;have hn1:=Kx hr1;have hlp:=h.lp0;have hsame:Same (R.xp w) w w':=⟨hs.os,hs.tape,hs.output,hs.drawn,hs.size,fun b hb hnx=>hs.block b hb (fun e=>hnx (.inr ⟨by have:=(hx b e).1;omega,hb⟩))⟩;refine⟨env,M,S.recast (Y:=fun b=>Xit b) ⟨RF.gstep h S.gam.1 (by omega) hsame,S.gam.2⟩ (fun b hb=>.inl hb) hs.size (fun b hb hn=>hs.block b hb hn) (by grind) (by grind) (fun D hD hX=>by have:=h.dlt D hD;grind)
  (fun b hb=>hb.imp id (fun q=>⟨q.1,Ah3 q.2 hs.size⟩)) (fun b hb=>?_),⟨(hs.block _ hn1 (by grind)).trans hr1,fun q=>(hs.block _ (by omega) (by grind)).trans (hr2 q)⟩,fun b hb=>?_,hd,hl,fun k o g hk hg=>?_⟩
 ·rcases hb with hb|hb
  ·have:=h.x0 b hb;have:=hs.size;omega
  ·exact hb.2
 ·rcases h2 b hb with hb|hb
  ·exact hx b hb
  ·exact⟨by omega,fun hm=>by have:=S.mlt b hm;omega⟩
 ·obtain⟨q1,q2,q3,q4⟩:=ho k o g hk hg;refine⟨q1,fun e=>?_,q3,q4⟩;rcases h2 g e with e|e
  ·exact q2 e
  ·have:=(S.oat k o hk g hg).2.2;omega
def Ut:Exit->Code->Prop
 | .ret,c=>c=.ret
 | .exit id,c=>c=.exit id
 | .goto l,c=>c=.goto l
 |_,_=>False
def RF.J (P:Program) (R:RF) (I:Dz) (st:St) (cnt:Nat) (K:Exit->St->Prop):Bw :=
 { m0:=R.M0,g:=fun k Xit w=>(k<=cnt/\∃t,I.inv k t/\Dk (Bq (I.own k t++I.keptO st))=true/\R.Core P (I.head st k t) .ready none Xit w)\/(k=cnt+1/\∃e c stJ,Ut e c/\K e stJ/\R.Core P stJ .done (some c) Xit w) }
theorem RF.J_stable {R:RF} (h:R.Ok) (I:Dz) (st:St) (cnt:Nat) (K:Exit->St->Prop):Br (R.J P I st cnt K):=by
 intro k X w X' w' hg hs h1 h2;rcases hg with ⟨hk,t,hi,hn,hc⟩|⟨hk,e,c,stJ,hj,hK,hc⟩
 ·exact .inl ⟨hk,t,hi,hn,RF.core_stable h hc hs h1 h2⟩
 ·exact .inr ⟨hk,e,c,stJ,hj,hK,RF.core_stable h hc hs h1 h2⟩
def RF.B (R:RF) (s:LoopState) (M1 Xit:Nat->Prop) (wS:World):Bw :=
 { m0 :=M1, pin :=R.G.pin, pe :=R.G.pe, g :=fun yk X w =>R.G.g yk (R.xp w) w/\R.Rec s none w /\
  (∀b,X b->(R.X0 b\/R.n0<=b)/\¬ R.M0 b/\¬ Xit b/\b≠R.n0/\b≠R.lp/\(∀D,({ target:=.collected D,args:=#[] }:Deferred)∈R.a0.defers->b≠D)) /\
  (∀b,b<wS.heap.size->(R.M0 b\/Xit b)->w.heap[b]? = wS.heap[b]?)/\wS.heap.size<=w.heap.size /\
  (∀d,d∈R.a0.defers->∃D,d = { target:=.collected D,args:=#[] }/\w.heap[D]? = some (.deferred (some [])))/\(∀b,Xit b->b<wS.heap.size) }
theorem RF.B_stable {R:RF} (h:R.Ok) (s:LoopState) (M1 Xit:Nat->Prop) (wS:World):Br (R.B s M1 Xit wS):=by
 intro k X w X' w' ⟨g1,⟨r1,r2⟩,g3,g4,g5,g6,g7⟩ hs h1 h2;have hn1:=Kx r1;have hlp:=h.lp0;have hsame:∀b,b<w.heap.size->¬ R.xp w b->w'.heap[b]? = w.heap[b]?:=fun b hb hnx=>hs.block b hb (fun e=>hnx (by
  rcases(g3 b e).1 with q|q
  ·exact .inl q
  ·exact .inr ⟨q,hb⟩))
 refine⟨RF.gstep h g1 (by omega) ⟨hs.os,hs.tape,hs.output,hs.drawn,hs.size,hsame⟩,⟨(hs.block _ hn1 (by grind)).trans r1,fun q=>(hs.block _ (by omega) (by grind)).trans (r2 q)⟩,fun b hb=>?_,fun b hb hm=>?_,Aig g5 hs.size,fun d hd=>?_,g7⟩
 ·rcases h2 b hb with hb|hb
  ·exact g3 b hb
  ·refine⟨.inr (by omega),fun e=>by have:=h.m0 b e;omega,(by grind),by omega,by omega,fun D hD=>?_⟩;grind
 ·exact(hs.block b (by omega) (by grind)).trans (g4 b hb hm)
 ·obtain⟨D,rfl,hD⟩:=g6 d hd;exact⟨D,rfl,(hs.block D (Kx hD) (by grind)).trans hD⟩
end
section
variable {P:Program} {G:Bw} {M:Nat->Prop} {w:World} {st:St} {a:Act} {env:Ar} {X:Nat->Prop}
def G3 (l:List (Nat×Value)) (t:Array Value):Array Value:=l.foldl (fun t x=>t.setIfInBounds x.1 x.2) t
theorem Uu:∀(l:List (Nat×Value)) (t:Array Value),(G3 l t).size=t.size
 |[],t=>rfl
 |x::l,t=>(Uu l _).trans (by simp)
theorem Qh:∀(ps:List Nat) (vs:List Value) (t:Array Value) (s:Nat),s ∉ ps->(G3 (ps.zip vs) t).getD s undef=t.getD s undef
 |[],vs,t,s,_=>by simp[G3]
 |p::ps,[],t,s,_=>by simp[G3]
 |p::ps,v::vs,t,s,h=>by
   have h1:s≠p:=fun e=>h (by simp[e]);have:=Qh ps vs (t.setIfInBounds p v) s (fun e=>h (by simp[e]));simp only[G3,List.zip_cons_cons,List.foldl_cons]at this ⊢;rw[this];simp only[LS,Array.getElem?_setIfInBounds,if_neg (fun e=>h1 e.symm:¬ p=s)]
theorem sT (ps:Array Nat) (vs:List Value) (t:Array Value):(ps.zip vs.toArray).foldl (fun t (p,v)=>t.setIfInBounds p v) t=G3 (ps.toList.zip vs) t:=by
 rw[<- Array.foldl_toList];simp only[Array.toList_zip,G3]
theorem Uv:∀(ps:List Nat) (ss:List SV) (vs:List Value) (t:Array Value),ss.length=ps.length->By (fun _=>False) w ss vs->Dk ps=true->(∀p,p∈ps->p<t.size) ->
  ∀s e,(s,e)∈Kv ps ss->e.g=none/\s∈ps/\Ap P M w env e.v ((G3 (ps.zip vs) t).getD s undef)
 |[],_,_,_,_,_,_,_,s,e,h=>by simp[Kv]at h
 |p::ps,[],_,_,_,_,_,_,s,e,h=>by simp[Kv]at h
 |p::ps,x::ss,[],_,_,hd,_,_,s,e,h=>by simp[By]at hd
 |p::ps,x::ss,v::vs,t,hl,hd,hn,hp,s,e,h=>by
   simp only[Dk,pR,Aib,List.contains_eq_mem,decide_eq_false_iff_not]at hn;simp only[Kv,Ah4,Prod.mk.injEq]at h;have hd':By (fun _=>False) w ss vs:=⟨by simpa using hd.1,fun i hi=>by simpa[SV.at]using hd.2 (i+1) (by simpa using hi)⟩;rcases h with ⟨rfl,rfl⟩|h
   ·refine⟨rfl,by simp,?_⟩;have e1:(G3 ((s::ps).zip (v::vs)) t)=G3 (ps.zip vs) (t.setIfInBounds s v):=rfl;rw[e1,Qh _ _ _ _ hn.1];have hlt:=hp s (by simp);have:(t.setIfInBounds s v).getD s undef=v:=by simp[LS,hlt]
    rw[this];have:=hd.2 0 (by simp);simp only[SV.at,Ajf]at this;exact .p (this.weak (fun _ h=>h.elim))
   ·obtain⟨q1,q2,q3⟩:=Uv ps ss vs (t.setIfInBounds p v) (by simpa using hl) hd' hn.2 (fun q hq=>by simpa using hp q (by simp[hq])) s e h;exact⟨q1,by simp[q2],q3⟩
theorem RF.start {R:RF} (_:R.Ok) {I:Dz} {k:Nat} {t:I.T} {st:St} (_:∀d,d∈R.a0.defers->∃D,d = { target:=.collected D,args:=#[] }) {s:LoopState} {Xit:Nat->Prop} (hXl:∀b,Xit b->b<w.heap.size)
  {env:Ar} {M:Nat->Prop} (S:Al P R.G (I.head st k t) R.a0 w env M (R.xp w)) (hrec:R.Rec s none w) (ho:∀k' o g,(k',o)∈(I.head st k t).own->o.has env k' g->¬ R.M0 g/\¬ Xit g/\g≠R.n0/\g≠R.lp)
  {ps:Array Nat} {ss:List SV} {vs:List Value} (hl:ss.length=ps.toList.length) (hd:By (fun _=>False) w ss vs) (hn:Dk ps.toList=true) (hp:∀p,p∈ps.toList->p<st.nt) (hk:∀x,x∈I.keptT st->x.1 ∉ ps.toList) :
  AO P (R.B s M Xit w) (I.round st ps.toList ss k t (fun s=>R.a0.eval (.tmp s))) { tmps:=(ps.zip vs.toArray).foldl (fun t (p,v)=>t.setIfInBounds p v) R.a0.tmps,defers:=[] } w:=by
 rw[sT];have hsz:R.a0.tmps.size=st.nt:=S.siz;have plain:∀x,x∈I.keptT st->x.2.g=none:=fun x hx=>by
  have:=(rK.1 hx).2;simp only[pR,AK.plain]at this;simpa using this.2
 have hev:∀s',s' ∉ ps.toList->({ tmps:=G3 (ps.toList.zip vs) R.a0.tmps,defers:=[] }:Act).eval (.tmp s')=R.a0.eval (.tmp s'):=fun s' h=>Qh _ _ _ _ h
 -- every entry
 have all3:∀s' e,(s',e)∈(I.round st ps.toList ss k t (fun s=>R.a0.eval (.tmp s))).T->e.g=none/\s'<st.nt/\Ap P M w env e.v (({ tmps:=G3 (ps.toList.zip vs) R.a0.tmps,defers:=[] }:Act).eval (.tmp s')):=by
  intro s' e h;rcases AhG.1 h with h|h
  ·rcases AhG.1 h with h|h
   ·obtain⟨q1,q2,q3⟩:=Uv (P:=P) (M:=M) (env:=env) ps.toList ss vs R.a0.tmps hl hd hn (fun p hp'=>by rw[hsz];exact hp p hp') s' e h;exact⟨q1,hp _ q2,q3⟩
   ·have hg:=plain _ h;obtain⟨q1,q2,_⟩:=S.tmp s' e h;rw[hev s' (hk _ h)];exact⟨hg,q1,q2 (Hp (by rw[hg];trivial))⟩
  ·obtain⟨⟨s0,e0⟩,hm,he⟩:=Ah2.1 h;simp only[Prod.mk.injEq]at he;obtain⟨rfl,rfl⟩:=he;obtain⟨q1,_,_⟩:=S.tmp s0 e0 hm;rw[hev s0 (hk _ hm)];exact⟨rfl,q1,.p (.raw _)⟩
 refine⟨env,M,fun g=>∃k' o,(k',o)∈(I.head st k t).own/\o.has env k' g,?_⟩;refine⟨⟨⟨S.gam.1,hrec,?_,fun b _ _=>rfl,Ah0 _,?_,hXl⟩,S.gam.2⟩,fun b h=>.inl h,S.own,fun k' o h g hg=>⟨⟨k',o,h,hg⟩,(S.oat k' o h g hg).2⟩,S.inj,S.nod,S.mlt,?_,(Uu _ _).trans hsz,?_,?_,fun d h=>by simp at h,by simp⟩
 ·rintro b ⟨k',o,h,hg⟩;obtain⟨q1,q2,q3,q4⟩:=ho k' o b h hg;refine⟨(S.oat k' o h b hg).1.imp id (fun q=>q.1),q1,q2,q3,q4,fun D hD e=>?_⟩;obtain⟨D',e',_,_,_,q⟩:=S.dfr _ hD;have:D=D':=by simpa using e'
  subst this;exact q k' o h (e ▸ hg)
 ·intro d hd';obtain⟨D,e,q,_⟩:=S.dfr d hd';exact⟨D,e,q⟩
 ·rintro b ⟨k',o,h,hg⟩;exact(S.oat k' o h b hg).2.2
 ·intro s' e h;obtain⟨q1,q2,q3⟩:=all3 s' e h;exact⟨q2,fun _=>q3,fun hn'=>absurd (Hp (by rw[q1];trivial)) hn'⟩
 ·intro s' e h q c v hq;rw[(all3 s' e h).1]at hq;cases hq
theorem Uw (S:Al P G st a w env M X) {vk:Nat->Value}:∀{l:List (Nat×AK)},all (Kw st.T vk l)->∀s e,(s,e)∈l->a.eval (.tmp s)=vk s
 |[],_,s,e,hm=>by cases hm
 |(s0,e0)::l,h,s,e,hm=>by
   simp only[Kw]at h;obtain⟨h1,h2⟩:=all_append h;rcases Ah4.1 hm with hm|hm
   ·cases hm;split at h1
    ·rename_i s1 g v hf;have hmem:=List.mem_of_find?_eq_some hf;have hprop:=List.find?_some hf;simp only[pR,beq_iff_eq]at hprop;obtain⟨rfl,hraw⟩:=hprop;have hg:g=none:=by cases g with|none=>rfl|some g=>simp[Up]at hraw
     subst hg;have:=(S.tmp _ _ (List.mem_reverse.1 hmem)).2.1 trivial;have hv:=AC h1;rcases this with ⟨this⟩;rw[<- hv];generalize a.eval (.tmp s1)=u at this;cases this;rfl
    ·exact(AC h1).elim
   ·exact Uw S h2 s e hm
theorem RF.finish {R:RF} (hR:R.Ok) {s s':LoopState} {p:Option Code} {M1 Xit:Nat->Prop} {wS:World} (hXit:∀b,Xit b->R.lp+1<=b/\¬ M1 b) (hMd:¬ M1 R.n0) (hMl:¬ M1 (R.lp)) (hMf:∀D,({ target:=.collected D,args:=#[] }:Deferred)∈R.a0.defers->¬ M1 D) (hM1:∀b,M1 b->R.G.m0 b\/R.xp wS b) (hdn:R.a0.defers.Nodup)
  {st st' stX:St} (hsiz:R.a0.tmps.size=st.nt) (S:Al P (R.B s M1 Xit wS) st' a w env M X) {L:List (Nat×AK)} (hTL:stX.T=L) (_:∀x,x∈L->x.2.g=none)
  (hT:all (Jx st'.T L)) (hP:all (Kw st'.T (fun s=>R.a0.eval (.tmp s)) L)) (hO:∀k o,(k,o)∈stX.own->(∃o',(k,o')∈st'.own/\∀g,o.sub g->o'.sub g)/\B8 P M w env k o) (hn:(stX.own.map (·.1)).Nodup) (hy:stX.yk=st'.yk) (hnt:stX.nt=st'.nt) (hnt':stX.nt=st.nt) :
  R.Core P stX s' p Xit (w.putObj (R.lp) (.loop (R.rc s' p))):=by
 obtain⟨⟨g1,⟨r1,r2⟩,g3,g4,g5,g6,g7⟩,gpin⟩:=S.gam;have hn1:=Kx r1;have hlp:=hR.lp0;have hMx:∀b,M b->b≠R.n0/\b≠R.lp/\¬ Xit b:=fun b hb=>by
  rcases S.mx b hb with h|h
  ·exact⟨fun e=>hMd (e ▸ h),fun e=>hMl (e ▸ h),fun e=>(hXit b e).2 h⟩
  ·exact⟨(g3 b h).2.2.2.1,(g3 b h).2.2.2.2.1,(g3 b h).2.2.1⟩
 have hblk:∀b,b≠R.lp->(w.putObj (R.lp) (.loop (R.rc s' p))).heap[b]? = w.heap[b]?:=fun b h=>World.putObj_heap_other h;have hsz:(w.putObj (R.lp) (.loop (R.rc s' p))).heap.size=w.heap.size:=by simp
 have hlater:Be M M w (w.putObj (R.lp) (.loop (R.rc s' p))):=⟨by omega,fun b hb=>hblk b (hMx b hb).2.1,fun _ h=>h⟩;have hg2:R.G.g st'.yk (R.xp (w.putObj (R.lp) (.loop (R.rc s' p)))) (w.putObj (R.lp) (.loop (R.rc s' p))):=
  RF.gstep hR g1 (by omega) ⟨rfl,rfl,rfl,Ah0 _,by omega,fun b hb hx=>hblk b (fun e=>hx (.inr ⟨by omega,hb⟩))⟩
 have hown:∀k o,(k,o)∈stX.own->∀g,o.has env k g->(R.X0 g\/R.n0<=g)/\¬ M g/\g<w.heap.size/\¬ R.M0 g/\¬ Xit g/\g≠R.n0/\g≠R.lp/\∀D,({ target:=.collected D,args:=#[] }:Deferred)∈R.a0.defers->g≠D:=fun k o h g hg=>by
  obtain⟨o',ho',hs⟩:=(hO k o h).1;obtain⟨q1,q2,q3⟩:=S.oat k o' ho' g (hg.imp id (hs g));obtain⟨c1,c2,c3,c4,c5,c6⟩:=g3 g q1;exact⟨c1,q2,q3,c2,c3,c4,c5,c6⟩
 have tmpok:∀s0 e,(s0,e)∈stX.T->e.g=none/\s0<st'.nt/\Ap P M w env e.v (R.a0.eval (.tmp s0)):=fun s0 e h=>by
  rw[hTL]at h;obtain⟨q1,q2,q3⟩:=N9 S hT s0 e h;rw[Uw S hP s0 e h]at q3;exact⟨q1,q2,q3⟩
 refine⟨env,M,⟨⟨by rw[hy];exact hg2,by rw[hnt];exact gpin⟩,fun b hb=>?_,?_,?_,?_,hn,fun b hb=>by rw[hsz];exact S.mlt b hb,fun b hb=>?_,by rw[hnt',hsiz],?_,?_,?_,hdn⟩,⟨World.putObj_heap_same hn1,fun q=>(hblk _ (by have:=hR.lpo q;omega)).trans (r2 q)⟩,fun b hb=>⟨(hXit b hb).1,fun hm=>(hMx b hm).2.2 hb⟩,fun hm=>(hMx _ hm).1 rfl,fun hm=>(hMx _ hm).2.1 rfl,fun k o g hk hg=>?_⟩
 ·rcases S.mx b hb with h|h
  ·rcases hM1 b h with h|h
   ·exact .inl h
   ·refine .inr (h.imp id (fun q=>⟨q.1,?_⟩));rw[hsz];omega
  ·have hlt:=S.xlt b h;exact .inr ((g3 b h).1.imp id (fun q=>⟨q,by rw[hsz];exact hlt⟩))
 ·intro k o h;have h1:=(hO k o h).2;have h2:=hown k o h;exact h1.move hlater rfl rfl (fun g' ha=>hblk g' (h2 g' ha).2.2.2.2.2.2.1) (fun _ _=>⟨rfl,rfl⟩)
 ·intro k o h g hg;obtain⟨c1,c2,c3,_⟩:=hown k o h g hg;exact⟨c1.imp id (fun q=>⟨q,by rw[hsz];exact c3⟩),c2,by rw[hsz];exact c3⟩
 ·intro k o k' o' h h' hne g hg hc;obtain⟨_,e1,f1⟩:=(hO k o h).1;obtain⟨_,e2,f2⟩:=(hO k' o' h').1;exact S.inj _ _ _ _ e1 e2 hne g (hg.imp id (f1 g)) (hc.imp id (f2 g))
 ·rcases hb with hb|hb
  ·have:=hR.x0 b hb;rw[hsz];omega
  ·exact hb.2
 ·intro s0 e h;obtain⟨q1,q2,q3⟩:=tmpok s0 e h;exact⟨by rw[hnt];exact q2,fun _=>q3.later hlater,fun hn'=>absurd (Hp (by rw[q1];trivial)) hn'⟩
 ·intro s0 e h q c v hq;rw[(tmpok s0 e h).1]at hq;cases hq
 ·intro d hd;obtain⟨D,rfl,hD⟩:=g6 d hd;have hDn:=hR.dlt D hd;refine⟨D,rfl,(hblk D (by omega)).trans hD,?_,fun hm=>?_,fun k o h e=>(hown k o h D e).2.2.2.2.2.2.2 D hd rfl⟩
  ·exact .inl (hR.df D hd)
  ·rcases S.mx D hm with h|h
   ·exact hMf D hd h
   ·exact(g3 D h).2.2.2.2.2 D hd rfl
 ·obtain⟨_,_,_,c4,c5,c6,c7,_⟩:=hown k o hk g hg;exact⟨c4,c5,c6,c7⟩
end
section
variable {P:Program} {M:Nat->Prop} {w:World} {st:St} {env:Ar} {X:Nat->Prop}
def Ma (G:Bw) (ro:Option Nat):Prop:=∀l,ro=some l->∀k X w,G.g k X w->∃rc,w.heap[l]? = some (.loop rc)
theorem sU {G:Bw}:Ma G none:=fun l h=>by cases h
theorem RF.knows {R:RF} {s:LoopState} {M1 Xit:Nat->Prop} {wS:World}:Ma (R.B s M1 Xit wS) (some R.lp):=fun l h k X w g=>by
 cases h;exact⟨_,g.2.1.1⟩
def Ky (P:Program) (C:Aj) (c:Code):Prop:=∀(G:Bw),Br G->EB P G C->∀(ro:Option Nat) (n:Nat) (st:St) (K:Exit->St->Prop) (Q:Exit->Act->World->Prop),ro≠none->Ma G ro->vc P C c st K ->
 (∀e st' a' w',K e st'->AO P G st' a' w'->Q e a' w')->∀a w,AO P G st a w->c.wpIn (W ro) n P Q a w
def Ux (P:Program) (C:Aj) (I:Dz) (st:St) (ps:Array Nat) (cnt:Nat) (item:Nat->List SV) (a b:Code) (K:Exit->St->Prop) (k:Nat):Prop :=
 ∀(t:I.T) (vk:Nat->Value),k<cnt->I.inv k t->if Dk (Bq (I.own k t++I.keptO st))&&(item k).length == ps.size&&D6.noMems (item k)then
   vc P C a (I.round st ps.toList (item k) k t vk) (fun e st1=>match e with
    | .normal=>vc P C b st1 (fun e st'=>match e with
      | .normal=>∃t':I.T,BC (I.fitK st st' vk++Eu st'.own (I.own (k+1) t'++I.keptO st)) (I.inv (k+1) t')
      | .ret=>BC (I.fitK st st' vk) (K .ret (I.left st st' (Bq (I.own k t++I.keptO st))))
      | .exit id=>BC (I.fitK st st' vk) (K (.exit id) (I.left st st' (Bq (I.own k t++I.keptO st))))
      | .goto l=>BC (I.fitK st st' vk) (K (.goto l) (I.left st st' (Bq (I.own k t++I.keptO st))))
      |_=>False)
    |_=>False)else False
def sV (P:Program) (C:Aj) (I:Dz) (st:St) (ps:Array Nat) (cnt:Nat) (item:Nat->List SV) (a b:Code) (K:Exit->St->Prop):Prop:=∀k,Ux P C I st ps cnt item a b K k
theorem sW {I:Dz} {st st':St} {vk:Nat->Value} (h:all (I.fitK st st' vk)):st'.nt=st.nt/\st'.yk=st.yk/\all (Jx st'.T (I.keptT st))/\all (Kw st'.T vk (I.keptT st)):=by
 obtain⟨h12,h3⟩:=all_append h;obtain⟨h1,h2⟩:=all_append h12;unfold Uq at h1;grind [AC]
theorem RF.round_at {R:RF} (hR:R.Ok) {C:Aj} (hsp:∀f sp,C.specs f=some sp->Az P f sp/\An P f) (hcy:C.yld=none) (hit:Kd P C) {I:Dz} {ps:Array Nat} {cnt:Nat} {item:Nat->List SV} {a b:Code} {K:Exit->St->Prop} {fn dd:Nat}
  (hrc:R.rc=fun s p=>{ state:=s,pending:=p,fn:=fn,tmps:=R.a0.tmps,params:=ps,assign:=a,body:=b,defers:=dd }) (ha:Ky P C a) (hb:Ky P C b) {k:Nat} (hv:Ux P C I st ps cnt item a b K k)
  (hnd:∀k t,k<=cnt->I.inv k t->Dk (Bq (I.own k t++I.keptO st))=true) (hn:Dk ps.toList=true) (hp:∀p,p∈ps.toList->p<st.nt) (hk:∀x,x∈I.keptT st->x.1 ∉ ps.toList) (hdn:R.a0.defers.Nodup) (hsiz:R.a0.tmps.size=st.nt)
  {Xit:Nat->Prop} {w:World} {vals:List Value} (hlt:k<cnt) {t:I.T} (hinv:I.inv k t) (hco:R.Core P (I.head st k t) .ready none Xit w) (hXl:∀b,Xit b->b<w.heap.size) (hd:By (fun _=>False) w (item k) vals) :
  ∃fn tmps assign body,(Instr.yield (R.lp) vals.toArray).run P w=.ok (.round (R.lp) fn tmps assign body) w /\
    RoundIn Fence.wide 0 P (R.lp) fn tmps assign body w (fun e w'=>∃b,e=.returned (.bool b)/\w.heap.size<=w'.heap.size/\(∀c,c<w.heap.size->((b=true/\R.M0 c)\/Xit c)->w'.heap[c]? = w.heap[c]?)/\(R.J P I st cnt K).g (if b then k+1 else cnt+1) Xit w'):=by
 obtain⟨env,M,S,hrec,hx,hMd,hMl,ho⟩:=hco;have hlp:=hR.lp0;have hv':=hv t (fun s=>R.a0.eval (.tmp s)) hlt hinv;split at hv';rotate_left
 ·exact hv'.elim
 rename_i hc;simp only[pR,beq_iff_eq]at hc;obtain⟨⟨_,hlen⟩,_⟩:=hc;have hdf:∀d,d∈R.a0.defers->∃D,d = { target:=.collected D,args:=#[] }:=fun d h=>by
  obtain⟨D,e,_⟩:=S.dfr d h;exact⟨D,e⟩
 have hMf:∀D,({ target:=.collected D,args:=#[] }:Deferred)∈R.a0.defers->¬ M D:=fun D h=>by
  obtain⟨D',e,_,_,q,_⟩:=S.dfr _ h;have:D=D':=by simpa using e
  subst this;exact q
 have hysz:vals.toArray.size=(R.rc .ready none).params.size:=by
  rw[hrc];have:=hd.1;simp only[List.size_toArray];omega
 have hyield:=run_yield (P:=P) hrec.1 hysz;have hplain:∀x,x∈I.keptT st->x.2.g=none:=fun x hx'=>by
  have:=(rK.1 hx').2;simp only[pR,AK.plain]at this;simpa using this.2
 rw[hrc]at hyield;refine⟨_,_,_,_,hyield,roundIn_of_wpIn trivial ?_⟩;have hs0:AO P (R.B .ready M Xit w) (I.round st ps.toList (item k) k t (fun s=>R.a0.eval (.tmp s))) { tmps:=(ps.zip vals.toArray).foldl (fun t (p,v)=>t.setIfInBounds p v) R.a0.tmps,defers:=[] } w :=
  RF.start hR hdf hXl S hrec ho (by simpa using hlen) hd hn hp hk
 have sp:∀G,EB P G C:=fun G=>⟨hsp,fun y hy=>by rw[hcy]at hy;(cases hy),hit⟩;refine ha _ (RF.B_stable hR .ready M Xit w) (sp _) (some R.lp) 0 _ _ _ (by simp) RF.knows hv' (fun e st1 a1 w1 hk1 hs1=>?_) _ _ hs0;cases e with
 |normal =>
   obtain⟨env1,M1,X1,S1⟩:=hs1;obtain⟨⟨g1,⟨r1,r2⟩,g3,g4,g5,g6,g7⟩,gpin⟩:=S1.gam;have hn1:=Kx r1;have hM1x:∀b,M1 b->b≠R.lp:=fun b hb e=>by
    rcases S1.mx b hb with h|h
    ·exact hMl (e ▸ h)
    ·exact(g3 b h).2.2.2.2.1 e
   refine⟨_,run_beginRound r1 (by rw[hrc]),?_⟩;have hbusy:({ (R.rc .ready none)with state:=.busy }:Loop)=R.rc .busy none:=by rw[hrc]
   rw[hbusy];have hblk:∀b,b≠R.lp->(w1.putObj (R.lp) (.loop (R.rc .busy none))).heap[b]? = w1.heap[b]?:=fun b h=>World.putObj_heap_other h;have hsz:(w1.putObj (R.lp) (.loop (R.rc .busy none))).heap.size=w1.heap.size:=by simp
   have S2:Al P (R.B .busy M Xit w) st1 a1 (w1.putObj (R.lp) (.loop (R.rc .busy none))) env1 M1 X1:=by
    refine S1.recast (Y:=fun b=>b=R.lp) ⟨⟨?_,⟨World.putObj_heap_same hn1,(by grind)⟩,g3,fun b hb hm=>?_,by omega,fun d hd'=>?_,g7⟩,gpin⟩ (fun b hb=>.inl hb) (by omega) (fun b _ h=>hblk b h) (by grind)
     (fun k' o h g hg e=>(g3 g (S1.oat k' o h g hg).1).2.2.2.2.1 e) (fun D hD e=>?_) (fun b h=>h) (fun b h=>by rw[hsz];exact S1.xlt b h)
    ·exact RF.gstep hR g1 (by omega) ⟨rfl,rfl,rfl,Ah0 _,by omega,fun b hb hx'=>hblk b (fun e=>hx' (.inr ⟨by omega,hb⟩))⟩
    ·refine(hblk b (fun e=>?_)).trans (g4 b hb hm);rcases hm with hm|hm
     ·have:=hR.m0 b hm;omega
     grind
    ·grind
    ·obtain⟨D',e',q1,q2,_⟩:=S1.dfr _ hD;grind
   refine hb _ (RF.B_stable hR .busy M Xit w) (sp _) (some R.lp) 0 _ _ _ (by simp) RF.knows hk1 (fun e st' a' w' hk2 hs2=>?_) _ _ ⟨env1,M1,X1,S2⟩;obtain⟨env3,M3,X3,S3⟩:=hs2;have r3:=S3.gam.1.2.1.1;have g43:=S3.gam.1.2.2.2.1;have g53:=S3.gam.1.2.2.2.2.1;have keep:∀o,w.heap.size<=(w'.putObj (R.lp) o).heap.size/\∀c,c<w.heap.size->(R.M0 c\/Xit c)->(w'.putObj (R.lp) o).heap[c]? = w.heap[c]?:=fun o=>by
    refine⟨by simpa using g53,fun c hc hm=>?_⟩;refine(World.putObj_heap_other (fun e=>?_)).trans (g43 c hc hm);rcases hm with hm|hm
    ·have:=hR.m0 c hm;omega
    ·have:=(hx c hm).1;omega
   have fin : ∀(p : Option Code) (s' : LoopState) (stX : St), stX.T = I.keptT st->all (I.fitK st st' (fun s =>R.a0.eval (.tmp s)))->(∀k o, (k, o)∈stX.own->(∃o', (k, o')∈st'.own/\∀g, o.sub g->o'.sub g)/\B8 P M3 w' env3 k o)->(stX.own.map (·.1)).Nodup->stX.yk = st.yk->stX.nt = st.nt ->
     R.Core P stX s' p Xit (w'.putObj (R.lp) (.loop (R.rc s' p))):=fun p s' stX hT hf hO hnn hyk hnt=>by
    obtain⟨q1,q2,q3,q4⟩:=sW hf;exact RF.finish hR hx hMd hMl hMf S.mx hdn hsiz S3 hT hplain q3 q4 hO hnn (hyk.trans q2.symm) (hnt.trans q1.symm) hnt
   have jump : ∀(e : Exit) (c : Code), Ut e c->BC (I.fitK st st' (fun s =>R.a0.eval (.tmp s))) (K e (I.left st st' (Bq (I.own k t++I.keptO st)))) ->
     ∃v w4,(Instr.endRound (R.lp) (some c)).run P w'=.ok v w4/\∃b,Ending.returned v=.returned (.bool b)/\w.heap.size<=w4.heap.size/\(∀c,c<w.heap.size->((b=true/\R.M0 c)\/Xit c)->w4.heap[c]? = w.heap[c]?)/\(R.J P I st cnt K).g (if b then k+1 else cnt+1) Xit w4:=fun e c hj hc=>by
    obtain⟨hf,hK⟩:=BD hc;have hcore:=fin (some c) .done (I.left st st' (Bq (I.own k t++I.keptO st))) rfl hf (fun k' o h=>⟨⟨o,(rK.1 h).1,fun _ h=>h⟩,S3.own _ _ (rK.1 h).1⟩) (S3.nod.sublist (List.Sublist.map _ List.filter_sublist)) rfl rfl;have hend:=run_endRound (P:=P) (some c) r3;have e1:({ (R.rc .busy none)with state:=if (some c).isNone then .ready else .done,pending:=some c }:Loop)=R.rc .done (some c):=by rw[hrc];rfl
    rw[e1]at hend;exact⟨_,_,hend,false,rfl,(keep _).1,fun c hc h=>(keep _).2 c hc (h.imp (·.2) id),.inr ⟨rfl,e,c,_,hj,hK,hcore⟩⟩
   cases e with
   |normal =>
     obtain⟨t',hc⟩:=hk2;obtain⟨h12,hinv'⟩:=BD hc;obtain⟨hf,hO⟩:=all_append h12;have hnd':=hnd (k+1) t' (by omega) hinv';have hcore:=fin none .ready (I.head st (k+1) t') rfl hf (fun k' o h=>qM S3 hO k' o h) (F8 hnd') rfl rfl;have hend:=run_endRound (P:=P) none r3;have e1:({ (R.rc .busy none)with state:=if (none:Option Code).isNone then .ready else .done,pending:=none }:Loop)=R.rc .ready none:=by rw[hrc];rfl
     rw[e1]at hend;exact⟨_,_,hend,true,rfl,(keep _).1,(by grind),.inl ⟨(show k+1<=cnt by omega),t',hinv',hnd',hcore⟩⟩
   |ret=>exact jump .ret .ret rfl hk2
   |exit id=>exact jump (.exit id) (.exit id) rfl hk2
   |goto l=>exact jump (.goto l) (.goto l) rfl hk2
   |panic _=>grind
   |outgrown=>grind
 |_=>grind
theorem RF.round_ok {R:RF} (hR:R.Ok) {C C':Aj} (hsp:∀f sp,C.specs f=some sp->Az P f sp/\An P f) (hcy:C.yld=none) (hit:Kd P C) {I:Dz} {ps:Array Nat} {cnt:Nat} {item:Nat->List SV} {a b:Code} {K:Exit->St->Prop} {fn dd:Nat}
  (hrc:R.rc=fun s p=>{ state:=s,pending:=p,fn:=fn,tmps:=R.a0.tmps,params:=ps,assign:=a,body:=b,defers:=dd }) (ha:Ky P C a) (hb:Ky P C b) (hv:sV P C I st ps cnt item a b K)
  (hnd:∀k t,k<=cnt->I.inv k t->Dk (Bq (I.own k t++I.keptO st))=true) (hn:Dk ps.toList=true) (hp:∀p,p∈ps.toList->p<st.nt) (hk:∀x,x∈I.keptT st->x.1 ∉ ps.toList) (hdn:R.a0.defers.Nodup) (hsiz:R.a0.tmps.size=st.nt)
  (hy:C'.yld=some ⟨R.lp,cnt,item⟩):LF P (R.J P I st cnt K) C':=by
 intro y hy' k Xit w vals hlt hg hXl hd;rw[hy]at hy';cases hy';simp only at hlt hd;rcases hg with ⟨_,t,hinv,_,hco⟩|⟨he,_⟩
 ·exact RF.round_at hR hsp hcy hit hrc ha hb (hv k) hnd hn hp hk hdn hsiz hlt hinv hco hXl hd
 ·omega
theorem sX {G:Bw} (hG:Br G) {C:Aj} (hC:EB P G C) {ro:Option Nat} (hkn:Ma G ro) {n:Nat} {f:Operand} {ps:Array Nat} {a b:Code} {K:Exit->St->Prop} {Q:Exit->Act->World->Prop} {ac:Act} (ha:Ky P C a) (hb:Ky P C b)
  (h:vc P C (.rangeFunc f ps a b) st K) (hq:∀e st' a' w',K e st'->AO P G st' a' w'->Q e a' w') (hs:AO P G st ac w):(Code.rangeFunc f ps a b).wpIn (W ro) n P Q ac w:=by
 simp only[vc]at h;split at h;rotate_left
 ·exact h.elim
 rename_i g caps hf;split at h;rotate_left
 ·exact h.elim
 rename_i it I0 hitg hI;generalize I0.tied st=I at h;split at h;rotate_left
 ·exact h.elim
 rename_i hc;simp only[pR,AhC,decide_eq_true_eq,Aib,List.contains_eq_mem,decide_eq_false_iff_not,AiT]at hc;obtain⟨⟨⟨hcy,hk⟩,hnp⟩,hp⟩:=hc;obtain⟨⟨hpre,t0,h0⟩,hv,hdone⟩:=h;obtain⟨hO0,hinv0⟩:=BD h0;obtain⟨env,M,X,S⟩:=hs;obtain⟨hitok,hen⟩:=hC.2.2.1 g it hitg;have hfd:=Bc S (gd:=none) (fun q c v hq=>by cases hq) trivial hf;rcases hfd with ⟨hfd⟩;generalize hev:ac.eval f=vf at hfd;cases hfd with
 |clo _ _ cvs hcl hcd =>
 have hnd:∀k t,k<=it.cnt caps->I.inv k t->Dk (Bq (I.own k t++I.keptO st))=true:=fun k t hkc hinv=>by
  rcases Aio k (it.cnt caps)with hlt|hge
  ·have:=hv k t (fun _=>undef) hlt hinv;split at this
   ·rename_i hc;simp only[pR]at hc;exact hc.1.1
   ·exact this.elim
  ·obtain rfl:k=it.cnt caps:=by omega
   have:=hdone t hinv;split at this
   ·rename_i hc;exact hc
   ·exact this.elim
 refine wpIn_rangeFunc ?_;intro fn hfn
 -- the record is laid;at an outermost loop also the block for the deferred calls
 obtain⟨lp, mark, o, dd, W1, hent, hlp, hlpo, hsz1, hL1, hK1, hbel, hdr, hmk⟩: ∃lp mark o dd W1, (Instr.enterLoop fn ac.tmps ps a b (W ro).round).run P w = .ok (lp, mark) W1/\w.heap.size<=lp/\(o = true->lp = w.heap.size+1)/\W1.heap.size = lp+1 /\
   W1.heap[lp]? = some (.loop { state:=.ready,pending:=none,fn:=fn,tmps:=ac.tmps,params:=ps,assign:=a,body:=b,defers:=dd })/\(o=true->W1.heap[w.heap.size]? = some (.deferred (some [])))/\Below w.heap.size w W1/\w.drawn<=W1.drawn /\
   ((o=true/\mark = [{ target:=.collected w.heap.size,args:=#[] }])\/mark = []):=by
  cases ro with
  |none =>
    refine⟨w.heap.size+1,_,true,w.heap.size,_,run_enterLoop_outer (P:=P) (w:=w) fn ac.tmps ps a b,by omega,fun _=>rfl,by simp[World.size_alloc],?_,fun _=>?_,?_,Ah0 _,.inl ⟨rfl,rfl⟩⟩
    ·have:=World.alloc_heap_new (w.alloc (.deferred (some []))) (.loop { state:=.ready,pending:=none,fn:=fn,tmps:=ac.tmps,params:=ps,assign:=a,body:=b,defers:=w.heap.size });rwa[World.size_alloc]at this
    ·exact(Below.heap_alloc _ _ _ (by simp)).trans (World.alloc_heap_new w _)
    ·exact(((Below.refl _ w).alloc (Ah0 _) _).alloc (by simp) _)
  |some l =>
    obtain⟨rc,hrc⟩:=hkn l rfl _ _ _ S.gam.1;refine⟨w.heap.size,[],false,rc.defers,w.alloc (.loop { state:=.ready,pending:=none,fn:=fn,tmps:=ac.tmps,params:=ps,assign:=a,body:=b,defers:=rc.defers }),?_,Ah0 _,(fun h=>by cases h),by simp[World.size_alloc],World.alloc_heap_new w _,(fun h=>by cases h),(Below.refl _ w).alloc (Ah0 _) _,Ah0 _,.inr rfl⟩;show(Instr.enterLoop fn ac.tmps ps a b (some l)).run P w=_;unfold Instr.enterLoop;simp[Sem.run_bind,run_getLoop hrc,Result.andThen]
 obtain⟨R,hRd⟩:∃R:RF,R = { G:=G,a0:=ac,M0:=M,X0:=X,n0:=w.heap.size,lp:=lp,o:=o,rc:=fun s p=>{ state:=s,pending:=p,fn:=fn,tmps:=ac.tmps,params:=ps,assign:=a,body:=b,defers:=dd } }:=⟨_,rfl⟩;have hR:R.Ok:=by
  subst hRd;refine⟨hG,S.mlt,S.xlt,hlp,hlpo,fun D hD=>?_⟩;obtain⟨D',e,_,q,_⟩:=S.dfr _ hD;have:D=D':=by simpa using e
  subst this;exact q
 have hn0:R.n0=w.heap.size:=by rw[hRd]
 have hl0:R.lp=lp:=by rw[hRd]
 have ho0:R.o=o:=by rw[hRd]
 have hsame:Same (fun _=>False) w W1:=⟨hbel.os,hbel.tape,hbel.output,hdr,hbel.size,fun b hb _=>hbel.block b hb⟩
 -- the caller's state,the record laid
 have S1:Al P G st ac W1 env M (R.xp W1):=by
  refine S.step hG hsame (M':=M) (fun b h=>h) (fun b h=>.inl h) (fun b h=>by have:=S.mlt b h;omega) (fun b h=>.inl h) (fun b h=>by rw[hRd];exact .inl h) (fun b h=>?_) (fun b h=>?_)
  ·rw[hRd]at h;rcases h with h|h
   ·exact .inl h
   ·exact .inr h.1
  ·rw[hRd]at h;rcases h with h|h
   ·have:=S.xlt b h;omega
   ·exact h.2
 have hcore0:R.Core P (I.head st 0 t0) .ready none (fun _=>False) W1:=by
  have hgx:R.G=G:=by rw[hRd]
  have ha0:R.a0=ac:=by rw[hRd]
  have hm0:R.M0=M:=by rw[hRd]
  refine⟨env,M,?_,⟨by rw[hl0,hRd];exact hL1,fun q=>by rw[hn0];exact hK1 (ho0 ▸ q)⟩,fun b h=>h.elim,fun h=>by have:=S.mlt _ h;omega,fun h=>by have:=S.mlt _ h;omega,fun k o g' hk' hg'=>?_⟩
  ·rw[hgx,ha0];refine S1.refit (fun s e hm=>?_) (fun k o hm=>?_) (Jn hO0) (F8 (hnd 0 t0 (rH _) hinv0)) rfl rfl
   ·obtain⟨m1,m2⟩:=rK.1 hm;simp only[pR]at m2;obtain⟨q1,q2,_⟩:=S1.tmp _ _ m1;have hgn:e.g=none:=by simpa[AK.plain]using m2.2
    exact⟨hgn,q1,q2 (Hp (by rw[hgn];trivial))⟩
   ·exact GO S1 hO0 k o hm
  ·obtain⟨o',ho',hs⟩:=Jn hO0 k o hk';obtain⟨q1,q2,q3⟩:=S.oat k o' ho' g' (hg'.imp id (hs g'));exact⟨by rw[hm0];exact q2,fun h=>h,by omega,by omega⟩
 have hyo:∀C':Aj,C'.yld=some ⟨lp,it.cnt caps,it.item caps⟩->LF P (R.J P I st (it.cnt caps) K) C':=fun C' hy=>by
  refine RF.round_ok hR hC.1 hcy hC.2.2 (fn:=fn) (by rw[hRd]) ha hb hv hnd hnp (fun p h=>hp p h) (fun x h=>hk x h) (by rw[hRd];exact S.dno) (by rw[hRd];exact S.siz) (by rw[hl0];exact hy)
 have hcall:=hitok (R.J P I st (it.cnt caps) K) (RF.J_stable hR I st (it.cnt caps) K) lp W1 caps cvs hpre (fun b h=>by rw[show(R.J P I st (it.cnt caps) K).m0=M by rw[hRd];rfl]at h;have:=S.mlt b h;omega)
  ⟨hcl,fun i hi=>by rw[show(R.J P I st (it.cnt caps) K).m0=M by rw[hRd];rfl];exact(hcd i hi).later ⟨hsame.size,fun b hb=>hsame.block b (S.mlt b hb) (fun h=>h),fun _ h=>h⟩⟩
  (.inl ⟨rH _,t0,hinv0,hnd 0 t0 (rH _) hinv0,hcore0⟩) hyo
 -- what the caller holds behind the loop
 have fin : ∀{stX : St} {s : LoopState} {p : Option Code} {Xit : Nat->Prop} {w2 : World}, R.Core P stX s p Xit w2->s ≠ .busy->∃w3, (Instr.endLoop lp).run P w2 = .ok p w3 /\
   AO P G stX { ac with defers:=mark++ac.defers } w3:=by
  intro stX s p Xit w2 ⟨env2,M2,S2,⟨r1,r2⟩,hx,hMd,hMl,ho⟩ hsb;rw[hl0]at r1 hMl;rw[hn0]at r2 hMd;rw[ho0]at r2;have hend:=run_endLoop (P:=P) r1 (by rw[hRd];exact hsb);have hpend:(R.rc s p).pending=p:=by rw[hRd]
  rw[hpend]at hend;obtain⟨o2,hend⟩:∃o2,(Instr.endLoop lp).run P w2=.ok p (w2.putObj lp o2):=⟨_,hend⟩;refine⟨_,hend,?_⟩;have hgx:R.G=G:=by rw[hRd]
  have ha0:R.a0=ac:=by rw[hRd]
  rw[hgx,ha0]at S2;have hblk:∀b,b≠lp->(w2.putObj (lp) o2).heap[b]? = w2.heap[b]?:=fun b h=>World.putObj_heap_other h;have hsz:(w2.putObj (lp) o2).heap.size=w2.heap.size:=by simp
  have hn1:=Kx r1;have hxL:R.xp w2 (lp):=.inr ⟨by omega,hn1⟩;have S3:Al P G stX ac (w2.putObj (lp) o2) env2 M2 (R.xp w2):=by
   refine S2.recast (Y:=fun b=>b=lp) ⟨hG _ _ w2 _ _ S2.gam.1 ⟨rfl,rfl,rfl,Ah0 _,by omega,fun b hb hx'=>hblk b (fun e=>hx' (e ▸ hxL))⟩ (fun b h=>h) (fun b h=>.inl h),S2.gam.2⟩ (fun b h=>.inl h) (by omega) (fun b _ h=>hblk b h) (fun b e hm=>hMl (e ▸ hm))
    (fun k o hk' g' hg' e=>(ho k o g' hk' hg').2.2.2 (by rw[hl0];exact e)) (fun D hD e=>?_) (fun b h=>h) (fun b h=>by rw[hsz];exact S2.xlt b h)
   have:=hR.dlt D (by rw[ha0];exact hD);omega
  rcases hmk with ⟨hoo,hmk⟩|hmk;rotate_left
  ·exact⟨env2,M2,R.xp w2,hmk ▸ S3⟩
  have hlpe:=hlpo hoo;have hxD:R.xp w2 (w.heap.size):=.inr ⟨by omega,by omega⟩;rw[hmk];refine⟨env2,M2,R.xp w2,S3.gam,S3.mx,S3.own,S3.oat,S3.inj,S3.nod,S3.mlt,S3.xlt,S3.siz,fun s' e h=>S3.tmp s' e h,fun s' e h=>S3.grd s' e h,fun d hd=>?_,?_⟩
  ·rcases AhG.1 hd with hd|hd
   ·simp only[Ah9]at hd;exact⟨w.heap.size,hd,(hblk _ (by omega)).trans (r2 hoo),hxD,hMd,fun k o hk' e=>(ho k o _ hk' e).2.2.1 hn0.symm⟩
   ·exact S3.dfr d hd
  ·refine Aiv.2 ⟨fun hm=>?_,S3.dno⟩;have:=hR.dlt _ (by rw[ha0];exact hm);omega
 refine⟨lp,mark,W1,{ target:=.fn (.func g) cvs.toArray,args:=#[.func (.yield lp) #[] #[]] },W1,g,#[.func (.yield lp) #[] #[]]++cvs.toArray,W1,hent,?_,fun _ _=>trivial,?_,fun hx=>by simp[W,Fence.wide]at hx,?_⟩
 ·simp only[resolve,hev];simp[go_sem]
 ·simp only[invoke,go_sem];simp;exact hen _ W1
 ·refine Ps (Gg hcall ?_);rintro e w2 ⟨v,Xit,rfl,hg|hg⟩
  ·rcases hg with ⟨_,t,hinv,hn',hcore⟩|⟨he,_⟩;rotate_left
   ·omega
   obtain⟨w3,hend,hs3⟩:=fin hcore (by simp);have:=hdone t hinv;rw[if_pos hn']at this;exact⟨none,w3,hend,hq _ _ _ _ this hs3⟩
  ·rcases hg with ⟨he,_⟩|⟨_,e,c,stJ,hj,hK,hcore⟩
   ·omega
   obtain⟨w3,hend,hs3⟩:=fin hcore (by simp);refine⟨some c,w3,hend,?_⟩;cases e with
   |ret=>subst hj;exact wpIn_ret (hq _ _ _ _ hK hs3)
   |exit id=>subst hj;exact wpIn_exit (hq _ _ _ _ hK hs3)
   |goto l=>subst hj;exact wpIn_goto (hq _ _ _ _ hK hs3)
   |normal=>exact hj.elim
   |panic _=>exact hj.elim
   |outgrown=>exact hj.elim
end
section
variable {P:Program} {G:Bw}
theorem Uy {I:EZ} {st st':St} {g:I.T} (h:all (I.fitY st st' g)):(I.head st g).yk=st'.yk/\st'.nt=st.nt/\st'.stop=st.stop:=by
 obtain⟨ha,hb⟩:=all_append h;have hnt:st'.nt=st.nt:=by
  grind [AC]
 unfold EZ.head;grind [AC,all_cons]
theorem sY {C:Aj} (hm:P.follows .mixedOrders=true):∀(c:Code) (G:Bw),Br G->EB P G C->∀(ro:Option Nat) (n:Nat),Ma G ro->∀(st:St) (K:Exit->St->Prop) (Q:Exit->Act->World->Prop),vc P C c st K ->
  (∀e st' a' w',K e st'->AO P G st' a' w'->Q e a' w')->∀a w,AO P G st a w->c.wpIn (W ro) n P Q a w:=by
 intro c
 induction c with
 |skip=>exact fun G hG hC ro n hro st K Q h hq a w hs=>wpIn_skip (hq _ _ _ _ h hs)
 |label l=>exact fun G hG hC ro n hro st K Q h hq a w hs=>wpIn_label (hq _ _ _ _ h hs)
 |exit id=>exact fun G hG hC ro n hro st K Q h hq a w hs=>wpIn_exit (hq _ _ _ _ h hs)
 |goto l=>exact fun G hG hC ro n hro st K Q h hq a w hs=>wpIn_goto (hq _ _ _ _ h hs)
 |ret=>exact fun G hG hC ro n hro st K Q h hq a w hs=>wpIn_ret (hq _ _ _ _ h hs)
 |region id ops draw =>
   intro G hG hC ro n hro st K Q h hq a w hs;simp only[vc]at h;obtain⟨st1,h,hs'⟩:=PE _ h (AO.nilRows (C.nils id) ((hs.rekeys (C.rek id)).frzs (C.frz id)));cases draw with
   |false =>
     simp only[Bool.false_eq_true,if_false]at h;grind [wpIn_region_list,Iv]
   |true =>
     simp only[if_true]at h;have hs2:AO P G st1 a w.drew:=by
      obtain⟨env,M,X,S⟩:=hs';exact⟨env,M,_,S.grow hG (SJ w) (M':=M) (fun b h=>h) (fun b h=>.inl h) (fun b h=>S.mlt b h)⟩
     split at h
     ·exact wpIn_region_any hm (sR hG hC (fun st a w hk hs=>hq .normal st a w hk hs) _ _ _ h hs2)
     split at h
     ·exact wpIn_region_any hm (sL hG hC (by grind) _ _ _ h hs2)
     ·exact wpIn_region_any hm (sE hG hC (by grind) h hs2)
 |seq x y ihx ihy =>
   intro G hG hC ro n hro st K Q h hq a w hs;simp only[vc]at h;split at h
   ·refine wpIn_seq (ihx G hG hC ro n hro st _ _ h (fun e st' a' w' hk hs'=>?_) a w hs);cases e with
    |normal=>exact ihy G hG hC ro n hro st' K Q hk hq a' w' hs'
    |_=>exact hq _ _ _ _ hk hs'
   ·rename_i I0 hI;generalize I0.tied st=I at h;obtain⟨h,hr⟩:=h;refine wpIn_seq (ihx G hG hC ro n hro st _ _ h (fun e st' a' w' hk hs'=>?_) a w hs);cases e with
    |normal =>
      obtain⟨g',hg'⟩:=hk;obtain⟨h1,hinv'⟩:=BD hg';obtain⟨h12,h3⟩:=all_append h1;obtain⟨h1',h2⟩:=all_append h12;obtain⟨hy1,hy2,_⟩:=Uy h1';have hr2:=hr g' hinv';split at hr2
      ·rename_i hnd';obtain⟨env,M,X,S⟩:=hs';exact ihy G hG hC ro n hro _ K Q hr2 hq a' w' ⟨env,M,X,S.refit (fun s e hm=>N9 S h2 s e hm) (fun k o hm=>GO S h3 k o hm) (Jn h3) (F8 hnd') hy1 hy2.symm⟩
      grind
    |_=>exact hq _ _ _ _ hk hs'
 |cond c x y ihx ihy =>
   intro G hG hC ro n hro st K Q h hq a w hs;simp only[vc]at h;split at h
   ·rename_i b hb;obtain⟨env,M,X,S⟩:=hs;have hd:=Bc S (gd:=none) (fun q c v hq=>by cases hq) trivial hb;rcases hd with ⟨hd⟩;generalize hev:a.eval c=q at hd;cases hd;exact wpIn_cond_split hev (fun ht=>ihx G hG hC ro n hro st K Q (h.1 ht) hq a w ⟨env,M,X,S⟩) (fun hf=>ihy G hG hC ro n hro st K Q (h.2 hf) hq a w ⟨env,M,X,S⟩)
   grind
 |block id c ih =>
   intro G hG hC ro n hro st K Q h hq a w hs;simp only[vc]at h;refine wpIn_block (ih G hG hC ro n hro st _ _ h (fun e st' a' w' hk hs'=>?_) a w hs);cases e with
   |exit id' =>
     simp only[Exit.inBlock];grind
   |_=>exact hq _ _ _ _ hk hs'
 |loop c ih =>
   intro G hG hC ro n hro st K Q h hq a w hs;simp only[vc]at h;split at h
   ·exact h.elim
   ·rename_i I0 hI;obtain⟨st,h,hs⟩:=PE _ h (AO.nilRows (C.nilsL (Gk c)) hs);generalize I0.tied st=I at h;obtain⟨⟨g0,h0⟩,hr⟩:=h;obtain⟨h1,hinv0⟩:=BD h0;have fitYnt:∀(st':St) (g:I.T),all (I.fitY st st' g)->(I.head st g).yk=st'.yk/\st'.nt=st.nt/\st'.stop=st.stop:=fun st' g h=>Uy h;refine wpIn_loop_ghost (fun m a w=>∃g:I.T,I.mu g=m/\I.inv g/\AO P G (I.head st g) a w) (I.mu g0) ⟨g0,rfl,hinv0,?_⟩ ?_
    ·obtain⟨h12,h3⟩:=all_append h1;obtain⟨h1',h2⟩:=all_append h12;obtain⟨hy1,hy2,_⟩:=fitYnt st g0 h1';have hr0:=hr g0 hinv0;split at hr0
     ·rename_i hnd;obtain⟨env,M,X,S⟩:=hs;refine⟨env,M,X,S.refit ?_ ?_ ?_ (F8 hnd) hy1 rfl⟩
      ·intro s e hm;rcases AhG.1 hm with hm|hm
       ·exact N9 S h2 s e hm
       ·obtain⟨m1,m2⟩:=rK.1 hm;simp only[pR]at m2;obtain⟨t1,t2,_⟩:=S.tmp _ _ m1;have hgn:e.g=none:=by simpa[AK.plain]using m2.2
        exact⟨hgn,t1,t2 (Hp (by rw[hgn];trivial))⟩
      ·intro k o hm;rcases AhG.1 hm with hm|hm
       ·grind [GO]
       ·have m1:=(rK.1 hm).1;exact⟨⟨_,m1⟩,S.own _ _ m1⟩
      ·intro k o hm;rcases AhG.1 hm with hm|hm
       ·grind [Jn]
       ·exact⟨_,(rK.1 hm).1,fun _ h=>h⟩
     grind
    ·rintro m a w ⟨g,rfl,hinv,hs⟩;have hr1:=hr g hinv;split at hr1
     ·rename_i hnd;refine ih G hG hC ro n hro _ _ _ hr1 (fun e st' a' w' hk hs'=>?_) a w hs;cases e with
      |normal =>
        obtain⟨g',hg'⟩:=hk;obtain⟨h1,hinv',hmu⟩:=BD hg';obtain⟨h12,h3⟩:=all_append h1;obtain⟨h1',h2⟩:=all_append h12;obtain⟨hy1,hy2,_⟩:=fitYnt st' g' h1';have hr2:=hr g' hinv';split at hr2
        ·rename_i hnd';refine⟨I.mu g',hmu,g',rfl,hinv',?_⟩;obtain⟨env,M,X,S⟩:=hs';exact⟨env,M,X,S.refit (fun s e hm=>N9 S h2 s e hm) (fun k o hm=>GO S h3 k o hm) (Jn h3) (F8 hnd') hy1 hy2.symm⟩
        grind
      |_=>exact hq _ _ _ _ hk hs'
     grind
 |rangeFunc f ps a b iha ihb =>
   intro G hG hC ro n hro st K Q h hq ac w hs;exact sX hG hC hro (fun G' hG' hC' ro' n' st' K' Q' _ hkn h' hq'=>iha G' hG' hC' ro' n' hkn st' K' Q' h' hq') (fun G' hG' hC' ro' n' st' K' Q' _ hkn h' hq'=>ihb G' hG' hC' ro' n' hkn st' K' Q' h' hq') h hq hs
 |scope c _=>intro G hG hC ro n hro st K Q h;exact h.elim
 |refuse s=>intro G hG hC ro n hro st K Q h;exact h.elim
theorem NA (hG:Br G) {C:Aj} (hC:EB P G C) (hm:P.follows .mixedOrders=true) {n:Nat} (c:Code) (st:St) (K:Exit->St->Prop) (Q:Exit->Act->World->Prop) (h:vc P C c st K)
 (hq:∀e st' a' w',K e st'->AO P G st' a' w'->Q e a' w'):∀a w,AO P G st a w->c.wpIn (W none) n P Q a w:=sY hm c G hG hC none n sU st K Q h hq
def Ao (fn:Func) (args:List EV):St:={ T:=args.zipIdx.map fun x=>(x.2,⟨none,x.1⟩),own:=[],yk:=0,stop:=false,nt:=args.length+(fn.ntmps-args.length) }
def I7 (P:Program) (st:St):ResultVar->Ii
 | .tmp t=>match GG st.T t with
   |some ⟨none,e⟩=>some ([],e)
   |_=>none
 | .cell t ty=>match GG st.T t,Bg P ty with
   |some ⟨none,e⟩,some y=>FZ st.own y e
   |_,_=>none
def NB (st:St):EV->Option (List Prop×SV)
 | .p s=>some ([],s)
 | .full _ sz n get=>some ([],.sl sz n get)
 | .row r=>match BL st.own r with
   |some (.row _ sz n get)=>some ([],.sl sz n get)
   |_=>none
 | .rsub r sz lo n=>match BL st.own r with
   |some (.row _ sz' n' get)=>if sz=sz' then some ([lo+n<=n'],.sl sz n (fun i=>get (lo+i)))else none
   |_=>none
 |_=>none
def Jy (P:Program) (st:St):List ResultVar->Option (List Prop×List SV)
 |[]=>some ([],[])
 |r::rs=>match I7 P st r with
   |some (ps,e)=>match NB st e,Jy P st rs with
     |some (rs,s),some (qs,ss)=>some (ps++(rs++qs),s::ss)
     |_,_=>none
   |none=>none
def I8 (P:Program) (st:St) (l:List ResultVar):Option (List Prop×SV):=match Jy P st l with
 |some (ps,[s])=>some (ps,s)
 |some (ps,ss)=>some (ps,.tup ss)
 |none=>none
def SV.isSl:SV->Bool
 | .sl ..=>true
 |_=>false
def NC:List SV->List SV->List Prop
 |[],[]=>[]
 |s::ss,t::ts=>HH s t++NC ss ts
 |_,_=>[False]
def Mb:SV->SV->List Prop
 | .agg cs,.agg ds=>if ds.any SV.isSl then NC cs ds else [SV.agg cs=.agg ds]
 |s,t=>HH s t
def GR:SV->SV->List Prop
 | .tup ss,.tup ts=>fitSs ss ts
 |s,t=>Mb s t
where fitSs:List SV->List SV->List Prop
 |[],[]=>[]
 |s::ss,t::ts=>Mb s t++fitSs ss ts
 |_,_=>[False]
def AL (P:Program) (fn:Func) (r:SV):Exit->St->Prop:=fun e st=>match e with
 | .normal | .ret=>match I8 P st fn.results.toList with
   |some (ps,s)=>N8 (ps++GR s r)
   |none=>False
 |_=>False
def Qi (P:Program) (fn:Func) (T:Type) (post:T->Prop) (r:T->SV):Exit->St->Prop:=fun e st=>match e with
 | .normal | .ret=>match I8 P st fn.results.toList with
   |some (ps,s)=>∃t:T,BC (ps++GR s (r t)) (post t)
   |none=>False
 |_=>False
end
section
variable {P:Program} {G:Bw} {M:Nat->Prop} {w:World} {st:St} {a:Act} {env:Ar} {X:Nat->Prop}
theorem Al.turn (hG:Br G) (S:Al P G st a w env M X) {D:Nat} {w':World} (hX:X D) (hM:¬ M D) (hO:∀k o,(k,o)∈st.own->¬ o.has env k D) (hs:Same (fun b=>b=D) w w') (hsz:w'.heap.size=w.heap.size)
  {a':Act} (ht:a'.tmps=a.tmps) (hd:∀d,d∈a'.defers->d∈a.defers/\d ≠ { target:=.collected D,args:=#[] }) (hdn:a'.defers.Nodup):Al P G st a' w' env M X:=by
 have hl:Be M M w w':=⟨hs.size,fun b hb=>hs.block b (S.mlt b hb) (fun e=>hM (e ▸ hb)),fun b hb=>hb⟩;have hev:∀x,a'.eval x=a.eval x:=fun x=>by cases x<;>simp[Act.eval,ht]
 refine⟨⟨hG _ _ _ _ _ S.gam.1 ⟨hs.os,hs.tape,hs.output,hs.drawn,hs.size,fun b hb hx=>hs.block b hb (fun e=>hx (e ▸ hX))⟩ (fun b h=>h) (fun b h=>.inl h),S.gam.2⟩,S.mx,?_,?_,S.inj,S.nod,by rw[hsz];exact S.mlt,by rw[hsz];exact S.xlt,by rw[ht];exact S.siz,?_,?_,?_,hdn⟩
 ·intro k o h;have h1:=S.own _ _ h;have h2:=S.oat _ _ h;have hng:∀g',o.has env k g'->g'≠D:=fun g' hg' e=>hO _ _ h (e ▸ hg');exact h1.move hl rfl rfl (fun g' ha=>hs.block g' (h2 g' ha).2.2 (hng g' ha)) (fun _ _=>⟨rfl,rfl⟩)
 ·intro k o h g hg;rw[hsz];exact S.oat _ _ h g hg
 ·intro s e h;obtain⟨h1,h2,h3⟩:=S.tmp s e h;exact⟨h1,fun ho=>by rw[hev];exact(h2 ho).later hl,fun ho=>by rw[hev];exact h3 ho⟩
 ·intro s e h q c v hq;rw[hev];exact S.grd s e h q c v hq
 ·intro d hd';obtain⟨h0,hne⟩:=hd d hd';obtain⟨D',e,h1,h2,h3,h4⟩:=S.dfr d h0;have hDD:D'≠D:=fun he=>hne (by rw[e,he]);exact⟨D',e,(hs.block D' (S.xlt D' h2) hDD).trans h1,h2,h3,h4⟩
theorem Mc (hG:Br G) {fn:Func} {n:Nat} {R:Ending->World->Prop}:∀(ds:List Deferred) (a:Act) (w:World),a.defers=ds->AO P G st a w->(∀a' w',a'.tmps=a.tmps->AO P G st a' w'->∃v,(results fn a.tmps).run P w'=.ok v w'/\R (.returned v) w') ->
  LeavesInM Fence.wide n P fn a.tmps R ds .returning w
 |[],a,w,hd,hs,h=>h a w rfl hs
 |d::ds,a,w,hd,⟨env,M,X,S⟩,h=>by
   obtain⟨D,e,h1,h2,h3,h4⟩:=S.dfr d (by rw[hd];simp);have hDlt:=S.xlt D h2;have hnd:=S.dno;rw[hd]at hnd;obtain⟨hn1,hn2⟩:=Aiv.1 hnd;have hsame:Same (fun b=>b=D) w (w.putObj D (.deferred none)):=⟨rfl,rfl,rfl,Ah0 _,by simp[World.putObj],fun b hb hne=>World.putObj_heap_other (w:=w) hne⟩;have S':Al P G st { a with defers:=ds } (w.putObj D (.deferred none)) env M X:=S.turn hG h2 h3 h4 hsame (by simp[World.putObj]) rfl (fun d' hd'=>⟨by rw[hd];exact AhL _ hd',fun he=>hn1 (by rw[e,<- he];exact hd')⟩) hn2;refine⟨by simp,.inl ⟨D,_,by rw[e],run_takeDeferred h1,?_⟩⟩;exact Mc hG ds { a with defers:=ds } _ rfl ⟨env,M,X,S'⟩ (fun a' w' ha hs'=>h a' w' ha hs')
def ND (M:Nat->Prop) (W:World):Bw:={ g:=fun _ X w=>Bl W.heap.size W w/\∀b,X b->W.heap.size<=b,m0:=M }
theorem sZ (M:Nat->Prop) (W:World):Br (ND M W):=by
 intro k X w X' w' ⟨hb,hx⟩ hs h1 h2;refine⟨hb.trans ⟨hs.os,hs.tape,hs.output,hs.drawn,hs.size,fun b hlt=>hs.block b (Ah3 hlt hb.size) (fun hX=>by have:=hx b hX;omega)⟩,fun b hb'=>?_⟩;rcases h2 b hb' with h|h
 ·exact hx b h
 ·exact Aig hb.size h
def G4 (tmps:Array Value):ResultVar->Sem Value
 | .tmp t=>pure (tmps.getD t undef)
 | .cell c t=>do loadVar t (<- asAddr (tmps.getD c undef))
theorem Jz (fn:Func) (tmps:Array Value):results fn tmps=(do let vs <- fn.results.mapM (G4 tmps);pure (if h:vs.size=1 then vs[0]else .tuple vs)):=by
 unfold results;congr 2
theorem Md (S:Al P G st a w env M X) {r:ResultVar} {ps1:List Prop} {e:EV} (he:I7 P st r=some (ps1,e)) (hp1:all ps1):∃v,(G4 a.tmps r).run P w=.ok v w/\Ap P M w env e v:=by
 unfold I7 at he;cases r with
 |tmp t =>
   simp only at he;split at he
   ·rename_i e' hl;cases he;exact⟨_,rfl,(S.tmp _ _ (HE hl)).2.1 trivial⟩
   ·cases he
 |cell c t =>
   simp only at he;split at he
   ·rename_i e' y hl hy;have hden:=(S.tmp _ _ (HE hl)).2.1 trivial;obtain⟨u,h1,h2⟩:=OO S hy he hp1 hden;refine⟨u,?_,h2⟩;have hev:a.tmps.getD c undef=a.eval (.tmp c):=rfl;simp only[G4,hev];generalize a.eval (.tmp c)=q at h1;unfold Instr.loadAt at h1;cases q with
    |pointer ad =>
      cases ad with
      |none=>simp[Instr.sureAddr,stuck,Sem.run]at h1
      |some ad=>simpa[Instr.sureAddr,asAddr]using h1
    |_=>simp[Instr.sureAddr,stuck,Sem.run]at h1
   ·cases he
theorem Me (S:Al P G st a w env M X):∀(l:List ResultVar) (ps:List Prop) (ss:List SV),Jy P st l=some (ps,ss)->all ps->(∀g k o,(k,o)∈st.own->env.at_ k=some g->True) ->
  ∃vs,(l.mapM (G4 a.tmps)).run P w=.ok vs w/\By (fun b=>M b\/X b) w ss vs
 |[],ps,ss,h,hp,_=>by
   simp only[Jy,Option.some.injEq,Prod.mk.injEq]at h;obtain⟨_,rfl⟩:=h;exact⟨[],rfl,⟨rfl,fun i hi=>by simp at hi⟩⟩
 |r::l,ps,ss,h,hp,_=>by
   simp only[Jy]at h;split at h
   ·rename_i ps1 e he;split at h
    ·rename_i rs s qs ss' hes hrest;simp only[Option.some.injEq,Prod.mk.injEq]at h;obtain⟨rfl,rfl⟩:=h;obtain⟨hp1,hp23⟩:=all_append hp;obtain⟨hp3,hp2⟩:=all_append hp23;obtain⟨vs,hr,hd⟩:=Me S l _ _ hrest hp2 (fun _ _ _ _ _=>trivial);have key:=Md S he hp1;obtain⟨v,hv,hden⟩:=key;have hsp:Ax (fun b=>M b\/X b) w s v:=by
      unfold NB at hes;split at hes
      ·cases hes;rcases hden with ⟨hden⟩;exact hden.weak (fun b hb=>.inl hb)
      ·cases hes;cases hden with
       |full hden _=>exact hden.weak (fun b hb=>.inl hb)
      ·rename_i r';split at hes
       ·rename_i e' sz n get hl;cases hes;cases hden with
        |row hrv =>
        have:=Nb S (Bp hl) (M':=fun b=>M b\/X b) (fun b hb=>.inl hb) (fun g hg=>.inr (S.oat _ _ (Bp hl) g (.inl hg)).1);rw[hrv]at this;exact this
       ·cases hes
      ·rename_i r' sz lo n;split at hes
       ·rename_i e' sz' n' get hl;split at hes
        ·rename_i hsz;subst hsz;cases hes;exact Py S (Bp hl) (M':=fun b=>M b\/X b) (fun b hb=>.inl hb) (fun g hg=>.inr (S.oat _ _ (Bp hl) g (.inl hg)).1) (AC hp3) hden
        ·cases hes
       ·cases hes
      ·cases hes
     exact⟨v::vs,by simp[List.mapM_cons,hv,hr],Hl hsp hd⟩
    ·cases h
   ·cases h
theorem tB:∀(ss ts:List SV),all (NC ss ts)->ss.length=ts.length/\∀i,i<ts.length->all (HH (SV.at ss i) (SV.at ts i)):=by
 intro ss
 induction ss with
 |nil=>intro ts h;cases ts with
   |nil=>exact⟨rfl,fun i hi=>by simp at hi⟩
   |cons t ts=>exact(AC h).elim
 |cons s ss ih=>intro ts h;cases ts with
   |nil=>exact(AC h).elim
   |cons t ts =>
     simp only[NC]at h;obtain⟨h1,h2⟩:=all_append h;obtain⟨h3,h4⟩:=ih ts h2;refine⟨by simp[h3],fun i hi=>?_⟩;cases i with
     |zero=>exact h1
     |succ i=>exact h4 i (by simpa using hi)
theorem Uz {s r:SV} (h:all (Mb s r)) {v:Value} (hd:Ax M w s v):Ax M w r v:=by
 unfold Mb at h;split at h
 ·split at h
  ·cases hd with
   |agg _ vs hl hdd =>
   obtain⟨h1,h2⟩:=tB _ _ h;exact .agg _ vs (hl.trans h1) (fun i hi=>LH (h2 i hi) (hdd i (by omega)))
  ·have:=AC h;rw[<- this];exact hd
 ·exact LH h hd
theorem Mf {s r:SV} (h:all (GR s r)) {v:Value} (hd:Ax M w s v):Ax M w r v:=by
 unfold GR at h;split at h
 ·rename_i ss ts;cases hd with
  |tup _ vs hl hdd =>
  have:∀(ss ts:List SV),all (GR.fitSs ss ts)->ss.length=ts.length/\∀i,i<ts.length->all (Mb (SV.at ss i) (SV.at ts i)):=by
   intro ss
   induction ss with
   |nil=>intro ts h;cases ts with
     |nil=>exact⟨rfl,fun i hi=>by simp at hi⟩
     |cons t ts=>exact(AC h).elim
   |cons s ss ih=>intro ts h;cases ts with
     |nil=>exact(AC h).elim
     |cons t ts =>
       simp only[GR.fitSs]at h;obtain⟨h1,h2⟩:=all_append h;obtain⟨h3,h4⟩:=ih ts h2;refine⟨by simp[h3],fun i hi=>?_⟩;cases i with
       |zero=>exact h1
       |succ i=>exact h4 i (by simpa using hi)
  obtain⟨h1,h2⟩:=this _ _ h;exact .tup _ vs (hl.trans h1) (fun i hi=>Uz (h2 i hi) (hdd i (by omega)))
 ·exact Uz h hd
theorem U0:∀{ps:List Prop},N8 ps->all ps
 |[],_=>Lh
 |[p],h=>fun q hq=>by rw[Ah9.1 hq];exact h
 |p::p'::ps,h=>fun q hq=>by
   rcases Ah4.1 hq with rfl|hq
   ·exact h.1
   ·exact U0 (ps:=p'::ps) h.2 q hq
theorem NE {fn:Func} (S:Al P G st a w env M X) {ps:List Prop} {s:SV} (h:I8 P st fn.results.toList=some (ps,s)) (hp:all ps) {tmps:Array Value} (ht:tmps=a.tmps):∃v,(results fn tmps).run P w=.ok v w/\Ax (fun b=>M b\/X b) w s v:=by
 subst ht;unfold I8 at h;have fin : ∀vs : List Value, (fn.results.toList.mapM (G4 a.tmps)).run P w = .ok vs w ->
   (results fn a.tmps).run P w=.ok (if h:vs.toArray.size=1 then vs.toArray[0]else .tuple vs.toArray) w:=fun vs hv=>by
  rw[Jz];simp[Aik,hv]
 split at h
 ·rename_i ps' s' hr;cases h;obtain⟨vs,h1,h2⟩:=Me S _ _ _ hr hp (fun _ _ _ _ _=>trivial);obtain⟨hl,hd⟩:=h2
  match vs,hl with
  |[v],_ =>
    refine⟨v,by rw[fin _ h1];simp,?_⟩;simpa[SV.at]using hd 0 (by simp)
 ·rename_i ps' ss hne hr;cases h;obtain⟨vs,h1,h2⟩:=Me S _ _ _ hr hp (fun _ _ _ _ _=>trivial);refine⟨.tuple vs.toArray,?_,.tup _ _ h2.1 h2.2⟩;rw[fin _ h1];have hno:¬ vs.length=1:=by
   intro hc;have hl:=h2.1;rw[hc]at hl
   match ss,hl with
   |[s0],_=>exact hne s0 rfl
  simp[hno]
 ·cases h
end
section
variable {P:Program}
abbrev GS (P:Program) (C:Aj):Prop:=(∀f sp,C.specs f=some sp->Az P f sp/\An P f)/\C.yld=none/\Kd P C
theorem GS.any {P:Program} {C:Aj} (h:GS P C) (G:Bw):EB P G C:=⟨h.1,fun y hy=>(by rw[h.2.1]at hy;cases hy),h.2.2⟩
theorem tC {fn:Func} {args:List EV} {vals:List Value} {M:Nat->Prop} {w:World} (hlt:∀b,M b->b<w.heap.size) (hargs:FL P M w args vals) :
  AO P (ND M w) (Ao fn args) { tmps:=vals.toArray++AhZ (fn.ntmps-vals.toArray.size) undef,defers:=[] } w:=by
 have hl:=hargs.1;refine⟨GJ,M,fun _=>False,⟨⟨Bl.refl _ _,fun b h=>h.elim⟩,fun k h=>h.elim⟩,fun b h=>.inl h,fun k o h=>by simp[Ao]at h,fun k o h=>by simp[Ao]at h,fun k o k' o' h=>by simp[Ao]at h,by simp[Ao],hlt,fun b h=>h.elim,?_,?_,?_,fun d h=>by simp at h,by simp⟩
 ·simp[Ao,hl]
 ·intro s e h;simp only[Ao,Ah2]at h;obtain⟨⟨ev,i⟩,hm,he⟩:=h;simp only[Prod.mk.injEq]at he;obtain⟨rfl,rfl⟩:=he;obtain⟨hi,hev⟩:=List.mem_zipIdx hm |> fun h=>(⟨by omega,by simpa using h.2.2⟩:i<args.length/\ev=args[i]'(by omega));refine⟨by simp[Ao];omega,fun _=>?_,fun hn=>absurd trivial hn⟩;have:=(hargs.2 i hi).2;have e1:EV.at args i=ev:=by rw[hev];simp[EV.at,AS,hi]
  rw[e1]at this;have e2:({ tmps:=vals.toArray++AhZ (fn.ntmps-vals.toArray.size) undef,defers:=[] }:Act).eval (.tmp i)=vals.getD i undef:=by
   simp only[Act.eval,LS,AS];rw[Ai9 (by simp;omega)];simp
  rw[e2];exact this
 ·intro s e h q c v hq;simp only[Ao,Ah2]at h;obtain⟨⟨ev,i⟩,hm,he⟩:=h;simp only[Prod.mk.injEq]at he;obtain⟨rfl,rfl⟩:=he;cases hq
theorem U1 {M:Nat->Prop} {w:World} {st:St} {a:Act} {w':World} {env:Ar} {M' X:Nat->Prop} (hlt:∀b,M b->b<w.heap.size) (S:Al P (ND M w) st a w' env M' X) {r:SV} {v:Value} (hd:Ax (fun b=>M' b\/X b) w' r v):Ig M w r (.returned v) w':=by
 obtain⟨⟨hb,hx⟩,_⟩:=S.gam;refine⟨v,fun b=>M' b\/X b\/M b,rfl,hb,fun b h=>.inr (.inr h),fun b h=>?_,fun b h=>?_,hd.weak (fun b h=>h.imp id .inl)⟩
 ·rcases h with h|h|h
  ·rcases S.mx b h with h|h
   ·exact .inl h
   ·exact .inr (hx b h)
  ·exact .inr (hx b h)
  ·exact .inl h
 ·rcases h with h|h|h
  ·exact S.mlt b h
  ·exact S.xlt b h
  ·exact Ah3 (hlt b h) hb.size
theorem Qj {f:Nat} {fn:Func} {c:Code} (hf:P.funcs[f]? = some fn) (hb:fn.body=some c) {C:Aj} (hC:GS P C) (hm:P.follows .mixedOrders=true) {K:Exit->St->Prop} {args:List EV} (h:vc P C c (Ao fn args) K)
  {M:Nat->Prop} {w:World} {vals:List Value} (hlt:∀b,M b->b<w.heap.size) (hargs:FL P M w args vals) {R:Ending->World->Prop} (hK:∀e st,K e st->e=.normal\/e=.ret)
  (hR:∀e st a w' tmps,K e st->tmps=a.tmps->AO P (ND M w) st a w'->∃v,(results fn tmps).run P w'=.ok v w'/\R (.returned v) w'):CallsIn Fence.wide 0 P f vals.toArray w R:=by
 have hG:=sZ M w;refine callsIn_of_wp_marks hf hb trivial ?_ rfl;refine NA hG (hC.any _) hm c (Ao fn args) K _ h (fun e st' a' w' hk hs=>?_) _ _ (tC hlt hargs);have fin:LeavesInM Fence.wide 0 P fn a'.tmps R a'.defers .returning w':=Mc hG a'.defers a' w' rfl hs (fun a2 w2 ha hs2=>hR e st' a2 w2 _ hk ha.symm hs2);rcases hK e st' hk with rfl|rfl<;>exact fin
theorem tD {f:Nat} {fn:Func} {c:Code} (hf:P.funcs[f]? = some fn) (hb:fn.body=some c) {C:Aj} (hC:GS P C) (hm:P.follows .mixedOrders=true) {pre:List EV->Prop} {res:List EV->SV}
  (h:∀args,pre args->vc P C c (Ao fn args) (AL P fn (res args))):Az P f (.fn pre res):=by
 intro M w args vals hlt hargs hp;refine Qj hf hb hC hm (h args hp) hlt hargs (fun e st hk=>?_) (fun e st a w' tmps hk ht hs=>?_)
 ·cases e<;>first|exact .inl rfl|exact .inr rfl|exact hk.elim
 ·obtain⟨env,M',X,S⟩:=hs;have key:(match I8 P st fn.results.toList with|some (ps,s)=>N8 (ps++GR s (res args))|none=>False)->∃v,(results fn tmps).run P w'=.ok v w'/\Ig M w (res args) (.returned v) w':=by
   intro hz;split at hz
   ·rename_i ps s hr;obtain⟨h1,h2⟩:=all_append (U0 hz);obtain⟨v,hv,hd⟩:=NE S hr h1 ht;exact⟨v,hv,U1 hlt S (Mf h2 hd)⟩
   ·exact hz.elim
  cases e<;>first|exact key hk|exact hk.elim
theorem tE {f:Nat} {fn:Func} {c:Code} (hf:P.funcs[f]? = some fn) (hb:fn.body=some c) {C:Aj} (hC:GS P C) (hm:P.follows .mixedOrders=true) {T:Type} {t0:T} {pre:List EV->Prop} {post:List EV->T->Prop} {res:List EV->T->SV}
  (h:∀args,pre args->vc P C c (Ao fn args) (Qi P fn T (post args) (res args))):Az P f (.rel T t0 pre post res):=by
 intro M w args vals hlt hargs hp;refine Qj hf hb hC hm (h args hp) hlt hargs (fun e st hk=>?_) (fun e st a w' tmps hk ht hs=>?_)
 ·cases e<;>first|exact .inl rfl|exact .inr rfl|exact hk.elim
 ·obtain⟨env,M',X,S⟩:=hs;have key : (match I8 P st fn.results.toList with|some (ps, s)=>∃t : T, BC (ps++GR s (res args t)) (post args t)|none =>False) ->
    ∃v,(results fn tmps).run P w'=.ok v w'/\∃t:T,post args t/\Ig M w (res args t) (.returned v) w':=by
   intro hz;split at hz
   ·rename_i ps s hr;obtain⟨t,ht'⟩:=hz;obtain⟨h12,h3⟩:=BD ht';obtain⟨h1,h2⟩:=all_append h12;obtain⟨v,hv,hd⟩:=NE S hr h1 ht;exact⟨v,hv,t,h3,U1 hlt S (Mf h2 hd)⟩
   ·exact hz.elim
  cases e<;>first|exact key hk|exact hk.elim
def Fp (P:Program) (fn:Func) (T:Type) (post:T->Prop) (e:TypeId) (sz:Nat) (n:T->Nat) (get:T->Nat->List SV):Exit->St->Prop:=fun ex st=>match ex with
 | .normal | .ret=>match fn.results.toList with
   |[r]=>match I7 P st r with
     |some (ps,.row k)=>match BL st.own k with
       |some (.row e' sz' n' get')=>if e' == e&&sz' == sz then ∃t:T,BC (ps ++ [n'=n t/\∀i,i<n'->get' i=get t i]) (post t)else False
       |_=>False
     |some (ps,.p (.raw (.slice none 0 0)))=>∃t:T,BC (ps ++ [n t=0]) (post t)
     |_=>False
   |_=>False
 |_=>False
theorem tF {f:Nat} {fn:Func} {c:Code} (hf:P.funcs[f]? = some fn) (hb:fn.body=some c) {C:Aj} (hC:GS P C) (hm:P.follows .mixedOrders=true) {T:Type} {t0:T} {pre:List EV->Prop} {post:List EV->T->Prop} {el:TypeId} {sz:Nat} {n:List EV->T->Nat} {get:List EV->T->Nat->List SV}
  (h:∀args,pre args->vc P C c (Ao fn args) (Fp P fn T (post args) el sz (n args) (get args))):Az P f (.fresh T t0 pre post el sz n get):=by
 intro M w args vals hlt hargs hp;refine Qj hf hb hC hm (h args hp) hlt hargs (fun e st hk=>?_) (fun e st a w' tmps hk ht hs=>?_)
 ·cases e<;>first|exact .inl rfl|exact .inr rfl|exact hk.elim
 ·obtain⟨env,M',X,S⟩:=hs;have key : Fp P fn T (post args) el sz (n args) (get args) .ret st->∃v, (results fn tmps).run P w' = .ok v w'/\∃t : T, post args t/\∃env v', Ending.returned v = .returned v'/\Bl w.heap.size w w' /\
    B8 P (fun b=>M b\/(w.heap.size<=b/\b<w'.heap.size/\env.at_ 0≠some b)) w' env 0 (.row el sz (n args t) (get args t))/\env.rv 0=v'/\(∀g,env.at_ 0=some g->w.heap.size<=g/\g<w'.heap.size):=by
   intro hz;obtain⟨⟨hb',hx⟩,_⟩:=S.gam;simp only[Fp]at hz;split at hz
   ·rename_i r hres;have hrun:∀v,(G4 tmps r).run P w'=.ok v w'->(results fn tmps).run P w'=.ok v w':=fun v hv=>by
     rw[Jz];simp[Aik,hres,hv]
    split at hz
    ·rename_i ps k hre;split at hz
     ·rename_i e' sz' n' get' hl;split at hz
      ·rename_i hc;simp only[pR,beq_iff_eq]at hc;obtain⟨rfl,rfl⟩:=hc;obtain⟨t,hz⟩:=hz;obtain⟨h12,h3⟩:=BD hz;obtain⟨h1,h2⟩:=all_append h12;obtain⟨hn,hg⟩:=AC h2;obtain⟨vs,hr,hd⟩:=Me S [r] ps [.sl sz' n' get'] (by simp[Jy,hre,NB,hl]) h1 (fun _ _ _ _ _=>trivial);rw[<- ht]at hr;have hrow:=S.own _ _ (Bp hl);have hat:=S.oat _ _ (Bp hl)
       -- the value that is read is the row's
       have hval:∃v,(G4 tmps r).run P w'=.ok v w'/\v=env.rv k:=by
        subst ht;unfold I7 at hre;cases r with
        |tmp t' =>
          simp only at hre;split at hre
          ·rename_i e'' hlt';cases hre;have:=(S.tmp _ _ (HE hlt')).2.1 trivial;refine⟨_,rfl,?_⟩;have hev:a.tmps.getD t' undef=a.eval (.tmp t'):=rfl;rw[hev];generalize a.eval (.tmp t')=q at this;cases this with
           |row hrv=>exact hrv.symm
          ·cases hre
        |cell c' t' =>
          simp only at hre;split at hre
          ·rename_i e'' y hl' hy;have hden:=(S.tmp _ _ (HE hl')).2.1 trivial;obtain⟨u,q1,q2⟩:=OO S hy hre h1 hden;refine⟨u,?_,by cases q2 with|row hrv=>exact hrv.symm⟩;have hev:a.tmps.getD c' undef=a.eval (.tmp c'):=rfl;simp only[G4,hev];generalize a.eval (.tmp c')=q at q1;unfold Instr.loadAt at q1;cases q with
           |pointer ad =>
             cases ad with
             |none=>simp[Instr.sureAddr,stuck,Sem.run]at q1
             |some ad=>simpa[Instr.sureAddr,asAddr]using q1
           |_=>simp[Instr.sureAddr,stuck,Sem.run]at q1
          ·cases hre
       obtain⟨v,hv,rfl⟩:=hval;refine⟨_,hrun _ hv,t,h3,{ env with at_:=fun _=>env.at_ k,rv:=fun _=>env.rv k },_,rfl,hb',?_,rfl,fun g hg'=>⟨hx g (hat g (.inl hg')).1,(hat g (.inl hg')).2.2⟩⟩;obtain⟨hm',hgl,hO⟩:=hrow;rw[<- hn];refine⟨hm',fun i hi=>by rw[<- hg i hi];exact hgl i hi,?_⟩;rcases hO with hO|⟨g,cap,cur,ha,hr',hh,q3,q4,q5,q6⟩
       ·exact .inl hO
       ·refine .inr ⟨g,cap,cur,ha,hr',hh,q3,q4,q5,fun i hi j hj=>⟨(q6 i hi j hj).1,?_⟩⟩;rw[<- hg i hi];refine(q6 i hi j hj).2.weak fun b hb=>?_;rcases S.mx b hb with h|h
        ·exact .inl h
        ·exact .inr ⟨hx b h,S.mlt b hb,fun e=>(hat b (.inl e)).2.1 hb⟩
      ·exact hz.elim
     ·exact hz.elim
    ·rename_i ps hre;obtain⟨t,hz⟩:=hz;obtain⟨h12,h3⟩:=BD hz;obtain⟨h1,h2⟩:=all_append h12;have hn:=AC h2;obtain⟨vs,hr,hd⟩:=Me S [r] ps [.raw (.slice none 0 0)] (by simp[Jy,hre,NB]) h1 (fun _ _ _ _ _=>trivial);rw[<- ht]at hr;obtain⟨hlen,hden⟩:=hd
     match vs,hlen with
     |[v],_ =>
       have hv:v=.slice none 0 0:=by
        have:=hden 0 (by simp);simp[SV.at]at this;cases this;rfl
       have hv':(G4 tmps r).run P w'=.ok v w':=by
        simp only[List.mapM_cons,List.mapM_nil,Sem.run_bind]at hr;generalize (G4 tmps r).run P w'=q at hr ⊢;cases q with
        |ok x w2 =>
          simp at hr;obtain⟨rfl,rfl⟩:=hr;rfl
        |halt x w2=>simp[Result.andThen]at hr
       subst hv;refine⟨_,hrun _ hv',t,h3,{ GJ with rv:=fun _=>.slice none 0 0 },_,rfl,hb',⟨by omega,fun i hi=>by omega,.inl ⟨rfl,rfl,hn⟩⟩,rfl,fun g hg=>by simp[GJ]at hg⟩
    ·exact hz.elim
   ·exact hz.elim
  cases e<;>first|exact key hk|exact hk.elim
def DA (s:List EV->Option (Prop×SV)) (xs0:List EV):Prop:=match s xs0 with|some (p,_)=>p|none=>False
def En (s:List EV->Option (Prop×SV)) (xs0:List EV):SV:=match s xs0 with|some (_,r)=>r|none=>.raw undef
def AM (s:List EV->Option (Prop×SV)):Spec:=.fn (DA s) (En s)
def U2 (T:Type) (t0:T) (s:List EV->Option (Prop×(T->Prop)×(T->SV))):Spec:=.rel T t0 (fun xs0=>match s xs0 with|some (p,_)=>p|none=>False) (fun xs0=>match s xs0 with|some (_,q,_)=>q|none=>fun _=>False) (fun xs0=>match s xs0 with|some (_,_,r)=>r|none=>fun _=>.raw undef)
def Gl (T:Type) (t0:T) (e:TypeId) (sz:Nat) (s:List EV->Option (Prop×(T->Prop)×(T->Nat)×(T->Nat->List SV))):Spec :=
 .fresh T t0 (fun xs0=>match s xs0 with|some (p,_)=>p|none=>False) (fun xs0=>match s xs0 with|some (_,q,_)=>q|none=>fun _=>False) e sz (fun xs0=>match s xs0 with|some (_,_,n,_)=>n|none=>fun _=>0) (fun xs0=>match s xs0 with|some (_,_,_,g)=>g|none=>fun _ _=>[])
def AE:List (Nat×Spec)->Nat->Option Spec
 |[],_=>none
 |(f,s)::l,g=>if f == g then some s else AE l g
def Aa (P:Program) (L:List (Nat×Spec)):Prop:=∀f sp,AE L f=some sp->Az P f sp/\An P f
theorem Aa.nil:Aa P []:=fun f sp h=>by simp[AE]at h
theorem Aa.cons {f:Nat} {s:Spec} {L:List (Nat×Spec)} (h:Az P f s) (he:An P f) (k:Aa P L):Aa P ((f,s)::L):=fun g sp h'=>by
 simp only[AE]at h';split at h'
 ·rename_i hfg;simp at hfg;subst hfg;cases h';exact⟨h,he⟩
 ·exact k g sp h'
end
section
variable {P:Program}
inductive GT:List SV->List SV->Prop
 |nil:GT [] []
 |cons {s s' l l'} (h:Ba s s') (k:GT l l'):GT (s::l) (s'::l')
theorem GT.len {l l':List SV} (h:GT l l'):l'.length=l.length:=by induction h<;>simp_all
theorem GT.at {l l':List SV} (h:GT l l'):∀i,i<l.length->Ba (SV.at l i) (SV.at l' i):=by
 induction h with
 |nil=>intro i hi;simp at hi
 |@cons s s' l l' hs _ ih =>
   intro i hi;cases i with
   |zero=>exact hs
   |succ i=>exact ih i (by simpa using hi)
theorem GT.den {M:Nat->Prop} {w:World} {l l':List SV} {vs:List Value} (h:GT l l') (hd:By M w l vs):By M w l' vs :=
 ⟨hd.1.trans h.len.symm,fun i hi=>(h.at i (h.len ▸ hi)).den (hd.2 i (h.len ▸ hi))⟩
inductive Fq:List EV->List EV->Prop
 |nil:Fq [] []
 |p {s s' l l'} (h:Ba s s') (k:Fq l l'):Fq (.p s::l) (.p s'::l')
 |same (e) {l l'} (k:Fq l l'):Fq (e::l) (e::l')
 |fn {f f':BN} {l l'} (h:∀xs0,f'.pre xs0->f.pre xs0/\f'.res xs0=f.res xs0) (k:Fq l l'):Fq (.fn f::l) (.fn f'::l')
theorem Fq.len {l l':List EV} (h:Fq l l'):l'.length=l.length:=by induction h<;>simp_all
theorem Fq.at {M:Nat->Prop} {w:World} {l l':List EV} (h:Fq l l'):∀i v,i<l.length->(Lr (EV.at l i)=true/\Ap P M w GJ (EV.at l i) v)->Lr (EV.at l' i)=true/\Ap P M w GJ (EV.at l' i) v:=by
 induction h with
 |nil=>intro i v hi;simp at hi
 |@p s s' l l' hs _ ih =>
   intro i v hi hd;cases i with
   |zero =>
     simp only[EV.at,Ajf]at hd ⊢;obtain⟨_,hd⟩:=hd;cases hd with|p hd=>exact⟨rfl,.p (hs.den hd)⟩
   |succ i=>simpa[EV.at]using ih i v (by simpa using hi) (by simpa[EV.at]using hd)
 |@fn f f' l l' hf _ ih =>
   intro i v hi hd;cases i with
   |zero =>
     simp only[EV.at,Ajf]at hd ⊢;obtain⟨_,hd⟩:=hd;cases hd with
     |fn hd =>
       obtain⟨g,first,caps,e,hn,hc⟩:=hd;exact⟨rfl,.fn ⟨g,first,caps,e,hn,fun M' w' hl hlt args vals hdl hp=>by rw[(hf args hp).2];exact hc M' w' hl hlt args vals hdl (hf args hp).1⟩⟩
   |succ i=>simpa[EV.at]using ih i v (by simpa using hi) (by simpa[EV.at]using hd)
 |@same e l l' _ ih =>
   intro i v hi hd;cases i with
   |zero=>simpa[EV.at]using hd
   |succ i=>simpa[EV.at]using ih i v (by simpa using hi) (by simpa[EV.at]using hd)
theorem Fq.args {M:Nat->Prop} {w:World} {l l':List EV} {vals:List Value} (h:Fq l l') (ha:FL P M w l vals):FL P M w l' vals :=
 ⟨ha.1.trans h.len.symm,fun i hi=>h.at i _ (h.len ▸ hi) (ha.2 i (h.len ▸ hi))⟩
def B9:List (Nat×List Nat)->Nat->List Nat
 |[],_=>[]
 |(k,v)::l,n=>if k == n then v else B9 l n
def U3:List (Nat×(Int->SV))->Nat->Option (Int->SV)
 |[],_=>none
 |(k,v)::l,n=>if k == n then some v else U3 l n
def B3:List (Nat×List (Nat×Nat×TypeId×Nat))->Nat->List (Nat×Nat×TypeId×Nat)
 |[],_=>[]
 |(k,v)::l,n=>if k == n then v else B3 l n
def AT:List (Nat×EZ)->Nat->Option EZ
 |[],_=>none
 |(k,v)::l,n=>if k == n then some v else AT l n
def Ae (f:Func):Code:=match f.body with|some c=>c|none=>.skip
def BG:List (Nat×Ga)->Nat->Option Ga
 |[],_=>none
 |(f,s)::l,g=>if f == g then some s else BG l g
def AQ:List (Nat×Dz)->Nat->Option Dz
 |[],_=>none
 |(f,s)::l,g=>if f == g then some s else AQ l g
def Ac (P:Program) (L:List (Nat×Ga)):Prop:=∀f sp,BG L f=some sp->HJ P f sp/\An P f
theorem Ac.nil:Ac P []:=fun f sp h=>by simp[BG]at h
theorem Ac.cons {f:Nat} {s:Ga} {L:List (Nat×Ga)} (h:HJ P f s) (he:An P f) (k:Ac P L):Ac P ((f,s)::L):=fun g sp h'=>by
 simp only[BG]at h';split at h'
 ·rename_i hfg;simp at hfg;subst hfg;cases h';exact⟨h,he⟩
 ·exact k g sp h'
def Fr (f:BN):Prop:=∀xs0,f.pre xs0->∃b,f.res xs0=.bool b
theorem Mg {s:List EV->Option (Prop×SV)} (h:∀args p r,s args=some (p,r)->∃b,r=.bool b) (g:List SV->List EV):Fr ⟨fun xs0=>DA s (g xs0),fun xs0=>En s (g xs0)⟩:=fun xs0 hp=>by
 simp only[DA,En]at hp ⊢;cases hs:s (g xs0)with
 |none=>simp[hs]at hp
 |some q =>
   obtain⟨p,r⟩:=q;obtain⟨b,hb⟩:=h _ p r hs;exact⟨b,hb⟩
theorem AN {f:Nat} {fn:Func} {c:Code} (hf:P.funcs[f]? = some fn) (hb:fn.body=some c) (hm:P.follows .mixedOrders=true) {s:List EV->Option (Prop×SV)}
  (h:∀args p r,s args=some (p,r)->p->∃args' C,vc P C c (Ao fn args') (AL P fn r)/\Fq args args'/\GS P C):Az P f (AM s):=by
 intro M w args vals hlt ha hp;cases hs:s args with
 |none=>simp[DA,hs]at hp
 |some q =>
   obtain⟨p,r⟩:=q;simp only[DA,En,hs]at hp ⊢;obtain⟨args',C,hv,hx,hC⟩:=h args p r hs hp;exact tD hf hb hC hm (pre:=fun a=>a=args') (res:=fun _=>r) (fun a e=>e ▸ hv) M w args' vals hlt (hx.args ha) rfl
theorem tG {f:Nat} {fn:Func} {c:Code} (hf:P.funcs[f]? = some fn) (hb:fn.body=some c) (hm:P.follows .mixedOrders=true) {T:Type} {t0:T} {s:List EV->Option (Prop×(T->Prop)×(T->SV))}
  (h:∀args p q r,s args=some (p,q,r)->p->∃args' C,vc P C c (Ao fn args') (Qi P fn T q r)/\Fq args args'/\GS P C):Az P f (U2 T t0 s):=by
 intro M w args vals hlt ha hp;cases hs:s args with
 |none=>simp[hs]at hp
 |some q =>
   obtain⟨p,q,r⟩:=q;simp only[hs]at hp ⊢;obtain⟨args',C,hv,hx,hC⟩:=h args p q r hs hp;exact tE hf hb hC hm (T:=T) (t0:=t0) (pre:=fun a=>a=args') (post:=fun _=>q) (res:=fun _=>r) (fun a e=>e ▸ hv) M w args' vals hlt (hx.args ha) rfl
theorem G5 {f:Nat} {fn:Func} {c:Code} (hf:P.funcs[f]? = some fn) (hb:fn.body=some c) (hm:P.follows .mixedOrders=true) {T:Type} {t0:T} {e:TypeId} {sz:Nat} {s:List EV->Option (Prop×(T->Prop)×(T->Nat)×(T->Nat->List SV))}
  (h:∀args p q n g,s args=some (p,q,n,g)->p->∃args' C,vc P C c (Ao fn args') (Fp P fn T q e sz n g)/\Fq args args'/\GS P C):Az P f (Gl T t0 e sz s):=by
 intro M w args vals hlt ha hp;cases hs:s args with
 |none=>simp[hs]at hp
 |some q =>
   obtain⟨p,q,n,g⟩:=q;simp only[hs]at hp ⊢;obtain⟨args',C,hv,hx,hC⟩:=h args p q n g hs hp;exact tF hf hb hC hm (T:=T) (t0:=t0) (pre:=fun a=>a=args') (post:=fun _=>q) (n:=fun _=>n) (get:=fun _=>g) (fun a e=>e ▸ hv) M w args' vals hlt (hx.args ha) rfl
def Kz (_:Program) (fn:Func) (cnt:Nat):Exit->St->Prop:=fun e st=>match e with
 | .normal | .ret=>if fn.results.toList.isEmpty then(st.yk=cnt\/st.yk=cnt+1)else False
 |_=>False
theorem tH {G:Bw} {fn:Func} {caps:List SV} {vals:List Value} {l:Nat} {w:World} (hpin:∀nt,Ih G GJ nt) (hg:G.g 0 (fun _=>False) w) (hlt:∀b,G.m0 b->b<w.heap.size) (hd:By G.m0 w caps vals) :
  AO P G (Ao fn (.yield l::caps.map .p)) { tmps:=(#[Value.func (.yield l) #[] #[]]++vals.toArray)++AhZ (fn.ntmps-(#[Value.func (.yield l) #[] #[]]++vals.toArray).size) undef,defers:=[] } w:=by
 have hl:=hd.1;have hsz:(#[Value.func (.yield l) #[] #[]]++vals.toArray:Array Value).size=caps.length+1:=by simp;omega
 refine⟨GJ,G.m0,fun _=>False,⟨hg,hpin _⟩,fun b h=>.inl h,fun k o h=>by simp[Ao]at h,fun k o h=>by simp[Ao]at h,fun k o k' o' h=>by simp[Ao]at h,by simp[Ao],hlt,fun b h=>h.elim,?_,?_,?_,fun d h=>by simp at h,by simp⟩
 ·simp only[Ao,Array.size_append,Array.size_replicate];simp;omega
 ·intro s e h;simp only[Ao,Ah2]at h;obtain⟨⟨ev,i⟩,hm,he⟩:=h;simp only[Prod.mk.injEq]at he;obtain⟨rfl,rfl⟩:=he;obtain⟨hi,hev⟩:=List.mem_zipIdx hm |> fun h=>(⟨by omega,by simpa using h.2.2⟩:i<(EV.yield l::caps.map EV.p).length/\ev=(EV.yield l::caps.map EV.p)[i]'(by omega));have hi':i<caps.length+1:=by simpa using hi
  refine⟨by simp[Ao];omega,fun _=>?_,fun hn=>absurd trivial hn⟩;have e2:({ tmps:=(#[Value.func (.yield l) #[] #[]]++vals.toArray)++AhZ (fn.ntmps-(#[Value.func (.yield l) #[] #[]]++vals.toArray).size) undef,defers:=[] }:Act).eval (.tmp i)=(Value.func (.yield l) #[] #[]::vals).getD i undef:=by
   simp only[Act.eval,LS,AS];rw[Ai9 (by omega)];congr 1;have:(#[Value.func (.yield l) #[] #[]]++vals.toArray:Array Value)=(Value.func (.yield l) #[] #[]::vals).toArray:=by simp
   rw[this];simp
  rw[e2];cases i with
  |zero=>simp at hev;subst hev;exact .yield
  |succ i =>
    have hev2:ev=EV.p (caps[i]'(by omega)):=by simpa using hev
    rw[hev2];have:=hd.2 i (by omega);simp only[SV.at]at this;have e3:caps.getD i (.raw undef)=caps[i]'(by omega):=by simp[AS,show i<caps.length by omega]
    rw[e3]at this;simpa using Ap.p this
 ·intro s e h q c v hq;simp only[Ao,Ah2]at h;obtain⟨⟨ev,i⟩,hm,he⟩:=h;simp only[Prod.mk.injEq]at he;obtain⟨rfl,rfl⟩:=he;cases hq
theorem tI {f:Nat} {fn:Func} {c:Code} (hf:P.funcs[f]? = some fn) (hb:fn.body=some c) (hm:P.follows .mixedOrders=true) {it:Ga}
  (h:∀(caps:List SV) (l:Nat),it.pre caps->∃caps' C,vc P C c (Ao fn (.yield l::caps'.map .p)) (Kz P fn (it.cnt caps))/\GT caps caps'/\C.yld=some ⟨l,it.cnt caps,it.item caps⟩/\(∀f sp,C.specs f=some sp->Az P f sp/\An P f)/\Kd P C):HJ P f it:=by
 intro G hG l w caps vals hpre hlt hd hg hy;obtain⟨caps',C,hv,hx,hcy,hsp,hit⟩:=h caps l hpre;refine callsIn_of_wp_marks hf hb trivial ?_ rfl;have hG0:Br { g:=G.g,m0:=G.m0 }:=hG;have hy0:LF P { g:=G.g,m0:=G.m0 } C:=hy C hcy;refine NA hG0 ⟨hsp,hy0,hit⟩ hm c _ _ _ hv (fun e st' a' w' hk hs=>?_) _ _ ?_;rotate_left
 ·have:=tH (P:=P) (G:={ g:=G.g,m0:=G.m0 }) (fn:=fn) (l:=l) (fun nt k h=>h.elim) hg hlt (hx.den hd);exact this
 have fin:(if fn.results.toList.isEmpty then(st'.yk=it.cnt caps\/st'.yk=it.cnt caps+1)else False)->LeavesInM Fence.wide 0 P fn a'.tmps (fun e w'=>∃v X,e=.returned v/\(G.g (it.cnt caps) X w'\/G.g (it.cnt caps+1) X w')) a'.defers .returning w':=fun hk=>by
  split at hk;rotate_left
  ·exact hk.elim
  rename_i hre;exact Mc hG0 a'.defers a' w' rfl hs (fun a2 w2 _ ⟨_,_,X,S⟩=>by
   have hr:fn.results = #[]:=by apply Array.ext';simpa using hre
   refine⟨.tuple #[],by rw[Jz,hr];simp[Sem.run_pure],?_⟩;refine⟨_,X,rfl,?_⟩;have:=S.gam.1;rcases hk with h|h
   ·rw[h]at this;exact .inl this
   ·rw[h]at this;exact .inr this)
 cases e<;>first|exact fin hk|exact hk.elim
def K0 (s:List SV->Option (Prop×Nat×(Nat->List SV))):Ga :=
 { pre:=fun c=>match s c with|some (p,_)=>p|none=>False,cnt:=fun c=>match s c with|some (_,n,_)=>n|none=>0,item:=fun c=>match s c with|some (_,_,g)=>g|none=>fun _=>[] }
theorem NF {f:Nat} {fn:Func} {c:Code} (hf:P.funcs[f]? = some fn) (hb:fn.body=some c) (hm:P.follows .mixedOrders=true) {s:List SV->Option (Prop×Nat×(Nat->List SV))}
  (h:∀(caps:List SV) (l:Nat) p n g,s caps=some (p,n,g)->p->∃caps' C,vc P C c (Ao fn (.yield l::caps'.map .p)) (Kz P fn n)/\GT caps caps'/\C.yld=some ⟨l,n,g⟩/\(∀f sp,C.specs f=some sp->Az P f sp/\An P f)/\Kd P C):HJ P f (K0 s):=by
 refine tI hf hb hm (fun caps l hp=>?_);simp only[K0]at hp ⊢;cases hs:s caps with
 |none=>simp[hs]at hp
 |some q =>
   obtain⟨p,n,g⟩:=q;simp only[hs]at hp ⊢;exact h caps l p n g hs hp
end
section
variable {P:Program}
def DH (fn:Func) (args:List EV) (own:List (Nat×Ah)):St:={ T:=args.zipIdx.map fun x=>(x.2,⟨none,x.1⟩),own:=own,yk:=0,stop:=false,nt:=args.length+(fn.ntmps-args.length) }
def Qk (env:Ar) (own:List (Nat×Ah)) (M:Nat->Prop) (W:World):Bw :=
 { g:=fun _ X w=>Same (Fb env own) W w/\∀b,X b->Fb env own b\/W.heap.size<=b,m0:=M,pin:=fun k=>k∈Bq own,pe:=env }
theorem U4 (env:Ar) (own:List (Nat×Ah)) (M:Nat->Prop) (W:World):Br (Qk env own M W):=by
 intro k X w X' w' ⟨h0,hx⟩ hs h1 h2;refine⟨⟨hs.os.trans h0.os,hs.tape.trans h0.tape,hs.output.trans h0.output,Aig h0.drawn hs.drawn,Aig h0.size hs.size,fun b hb hn=>?_⟩,fun b hb=>?_⟩
 ·refine(hs.block b (Ah3 hb h0.size) (fun hX=>?_)).trans (h0.block b hb hn);grind
 ·rcases h2 b hb with h|h
  ·exact hx b h
  ·exact .inr (Aig h0.size h)
theorem U5 {fn:Func} {args:List EV} {own:List (Nat×Ah)} {vals:List Value} {M:Nat->Prop} {w:World} {env:Ar} (hlt:∀b,M b->b<w.heap.size) (hown:∀k o,(k,o)∈own->B8 P M w env k o)
  (hat:∀k o,(k,o)∈own->∀g,env.at_ k=some g->¬ M g/\g<w.heap.size) (hinj:∀k o k' o',(k,o)∈own->(k',o')∈own->k≠k'->∀g,env.at_ k=some g->env.at_ k'≠some g) (hpl:GL own=true) (hnod:(Bq own).Nodup)
  (hnt:∀k,k∈Bq own->args.length+(fn.ntmps-args.length)<=k) (hl:vals.length=args.length) (hd:∀i,i<args.length->Ap P M w env (EV.at args i) (vals.getD i undef)) :
  AO P (Qk env own M w) (DH fn args own) { tmps:=vals.toArray++AhZ (fn.ntmps-vals.toArray.size) undef,defers:=[] } w:=by
 have atO:∀{k o g},(k,o)∈own->o.has env k g->env.at_ k=some g:=fun {k o g} h hg=>hg.elim id (fun q=>(LI hpl h g q).elim);refine⟨env,M,Fb env own,⟨⟨⟨rfl,rfl,rfl,Ah0 _,Ah0 _,fun _ _ _=>rfl⟩,fun b h=>.inl h⟩,fun k hk=>⟨hnt k hk,rfl,rfl⟩⟩,fun b h=>.inl h,hown,fun k o h g hg=>⟨⟨k,o,h,atO h hg⟩,hat k o h g (atO h hg)⟩,fun k o k' o' h h' hne g hg hc=>hinj k o k' o' h h' hne g (atO h hg) (atO h' hc),hnod,hlt,fun b ⟨k,o,h,hg⟩=>(hat k o h b hg).2,?_,?_,?_,fun d h=>by simp at h,by simp⟩
 ·simp[DH,hl]
 ·intro s e h;simp only[DH,Ah2]at h;obtain⟨⟨ev,i⟩,hm,he⟩:=h;simp only[Prod.mk.injEq]at he;obtain⟨rfl,rfl⟩:=he;obtain⟨hi,hev⟩:=List.mem_zipIdx hm |> fun h=>(⟨by omega,by simpa using h.2.2⟩:i<args.length/\ev=args[i]'(by omega));refine⟨by simp[DH];omega,fun _=>?_,fun hn=>absurd trivial hn⟩;have:=hd i hi;have e1:EV.at args i=ev:=by rw[hev];simp[EV.at,AS,hi]
  rw[e1]at this;have e2:({ tmps:=vals.toArray++AhZ (fn.ntmps-vals.toArray.size) undef,defers:=[] }:Act).eval (.tmp i)=vals.getD i undef:=by
   simp only[Act.eval,LS,AS];grind
  grind
 ·intro s e h q c v hq;simp only[DH,Ah2]at h;grind
def Mh (P:Program) (st:St) (rs:List ResultVar):EV->List Prop
 | .p r=>match I8 P st rs with
   |some (ps,s)=>ps++GR s r
   |none=>[False]
 | .rsub k sz lo n=>match rs with
   |[r]=>match I7 P st r with
     |some (ps,.row k')=>if k'=k then(match BL st.own k with
       |some (.row _ sz' n' _)=>if sz'=sz then ps ++ [lo=0/\n=n']else [False]
       |_=>[False])else [False]
     |some (ps,e)=>ps++fitE e (.rsub k sz lo n)
     |none=>[False]
   |_=>[False]
 |_=>[False]
def NG (P:Program) (fn:Func) (tr:Tr) (t:tr.T):Exit->St->Prop:=fun e st=>match e with
 | .normal | .ret=>∃u:tr.U,BC (Mh P st fn.results.toList (tr.res t u)++Eu st.own (tr.own' t u)) (tr.post t u)
 |_=>False
def NH (ks:List Nat):EV->Bool
 | .p s=>D6 s
 | .rsub k _ _ _=>ks.contains k
 |_=>false
theorem tJ {fn:Func} {M:Nat->Prop} {w:World} {G:Bw} {st:St} {a:Act} {env:Ar} {X:Nat->Prop} (S:Al P G st a w env M X) {r:EV} (h:all (Mh P st fn.results.toList r)) {tmps:Array Value} (ht:tmps=a.tmps) {ks:List Nat} (hr:NH ks r=true) {env':Ar} (he:∀k,k∈ks->env'.at_ k=env.at_ k) {M':Nat->Prop} :
  ∃v,(results fn tmps).run P w=.ok v w/\Ap P M' w env' r v:=by
 cases r with
 |p s =>
   simp only[Mh]at h;split at h
   ·rename_i ps s' hrs;obtain⟨h1,h2⟩:=all_append h;obtain⟨v,hv,hd⟩:=NE S hrs h1 ht;exact⟨v,hv,.p (Hr (Mf h2 hd) hr)⟩
   grind [AC]
 |rsub k sz lo n =>
   simp only[Mh]at h;split at h
   ·rename_i r hres;split at h
    ·rename_i ps k' hre;split at h
     ·rename_i hk;subst hk;split at h
      ·rename_i e' sz' n' get' hl;split at h
       ·rename_i hsz;subst hsz;obtain⟨h1,h2⟩:=all_append h;obtain⟨rfl,rfl⟩:=AC h2;obtain⟨v,hv,hd⟩:=Md S hre h1;subst ht;refine⟨v,by rw[Jz];simp[Aik,hres,hv],?_⟩;obtain⟨hm,hgl,hO⟩:=S.own _ _ (Bp hl);cases hd with
        |row hrv =>
        rcases hO with ⟨_,hrv',hn⟩|⟨g,cap,cur,hg,hrv',_,hnc,_,_,_⟩
        ·rw[hrv']at hrv;subst hn;cases hrv;exact .rsub none 0 (Ah0 _) hm (by grind)
        ·rw[hrv']at hrv;cases hrv;exact .rsub _ _ hnc hm (fun _=>⟨g,(he k' (by simpa[NH]using hr)).trans hg,by grind⟩)
       grind [AC]
      grind [AC]
     grind [AC]
    ·rename_i ps e _ hre;obtain⟨h1,h2⟩:=all_append h;obtain⟨v,hv,hd⟩:=Md S hre h1;subst ht;refine⟨v,by rw[Jz];simp[Aik,hres,hv],?_⟩;have hd:=Hs h2 hd;cases hd with
     |rsub A cap hc hm hA =>exact .rsub A cap hc hm (fun hn =>by
      obtain⟨g,hg,e⟩:=hA hn;exact⟨g,(he k (by simpa[NH]using hr)).trans hg,e⟩)
    grind [AC]
   grind [AC]
 |_=>exact(AC h).elim
structure tK (tr:Tr) (fn:Func) (ks:List Nat) (n:Nat):Prop where
 len:∀t,(tr.args t).length=n
 k1:∀t,Bq (tr.own t)=ks
 k2:∀t u,Bq (tr.own' t u)=ks
 res:∀t u,NH ks (tr.res t u)=true
 inn:∀t u,(tr.own' t u).all (fun x=>x.2.within ks)=true
 chk:(Dk ks&&ks.all fun k=>decide (n+(fn.ntmps-n)<=k))=true
theorem Ql {f:Nat} {fn:Func} {c:Code} (hf:P.funcs[f]? = some fn) (hb:fn.body=some c) (hm:P.follows .mixedOrders=true) {tr:Tr} {ks:List Nat} {n:Nat} (F:tK tr fn ks n)
  (h:∀t,tr.pre t->∃C,vc P C c (DH fn (tr.args t) (tr.own t)) (NG P fn tr t)/\GS P C):Gf P f tr:=by
 obtain⟨hnod,hnt⟩:=Ain.1 F.chk;have hnod:=F8 hnod;refine⟨fun t u=>(F.k2 t u).trans (F.k1 t).symm,fun t hpre hpl M w env vals hlt hown hat hinj hl hd=>?_⟩;obtain⟨C,hv,hC⟩:=h t hpre;have hG:=U4 env (tr.own t) M w;refine callsIn_of_wp_marks hf hb trivial ?_ rfl;refine NA hG (hC.any _) hm c _ _ _ hv (fun e st' a' w' hk hs=>?_) _ _ (U5 hlt hown hat hinj hpl (by rw[F.k1];exact hnod) (fun k hk=>by
  rw[F.k1]at hk;have:=AhC.1 hnt k hk;rw[F.len];grind) hl hd)
 have key : (∃u : tr.U, BC (Mh P st' fn.results.toList (tr.res t u)++Eu st'.own (tr.own' t u)) (tr.post t u)) ->
   LeavesInM Fence.wide 0 P fn a'.tmps (Tb P tr t M w env) a'.defers .returning w':=fun hz=>by
  obtain⟨u,hz⟩:=hz;obtain⟨h12,hpost⟩:=BD hz;obtain⟨h12,hO⟩:=all_append h12;exact Mc hG a'.defers a' w' rfl hs (fun a2 w2 ha ⟨env2,M2,X2,S⟩=>by
   obtain⟨⟨hsame,hx⟩,hpin⟩:=S.gam;have hO':=GO S hO;have pin:∀k,k∈ks->env.at_ k=env2.at_ k/\env.rv k=env2.rv k:=fun k hk=>by
    obtain⟨_,e1,e2⟩:=hpin k (by show k∈Bq (tr.own t);rw[F.k1];exact hk);exact⟨e1.symm,e2.symm⟩
   obtain⟨v,hv,hden⟩:=tJ S h12 (tmps:=a'.tmps) ha.symm (F.res t u) (env':=env) (by grind) (M':=fun b=>M b\/M2 b);have hMl:∀b,(M b\/M2 b)->b<w2.heap.size:=fun b hb=>by
    rcases hb with hb|hb
    ·exact Ah3 (hlt b hb) hsame.size
    ·exact S.mlt b hb
   have hlat:Be M2 (fun b=>M b\/M2 b) w2 w2:=⟨Ah0 _,fun _ _=>rfl,fun _ h=>.inr h⟩;have hown2:∀k o,(k,o)∈tr.own' t u->B8 P (fun b=>M b\/M2 b) w2 env k o:=fun k o hk=>by
    have hkk:k∈ks:=by rw[<- F.k2 t u];exact Ah2.2 ⟨_,hk,rfl⟩
    have hin:=AhC.1 (F.inn t u) _ hk;obtain⟨p1,p2⟩:=pin k hkk;exact(hO' k o hk).2.move hlat p1 p2 (fun _ _=>rfl) (fun j hj=>pin j (P2 hin j hj))
   refine⟨v,hv,u,v,fun b=>M b\/M2 b,hpost,rfl,hsame,fun b hb=>.inl hb,fun b hb=>?_,hMl,hown2,hden⟩;rcases hb with hb|hb
   ·exact .inl hb
   ·rcases S.mx b hb with h|h
    ·exact .inl h
    ·rcases hx b h with ⟨k,o,hk,hg⟩|h
     ·exfalso;have hkk:k∈ks:=by rw[<- F.k1 t];exact Ah2.2 ⟨_,hk,rfl⟩
      have hkk':k∈Bq (tr.own' t u):=by rw[F.k2];exact hkk
      obtain⟨⟨k2,o2⟩,hm2,e2⟩:=Ah2.1 hkk';simp only at e2;subst e2;obtain⟨o3,h3⟩:=(hO' k2 o2 hm2).1;exact(S.oat k2 o3 h3 b (.inl ((pin k2 hkk).1 ▸ hg))).2.1 hb
     grind)
 cases e<;>first|exact key hk|exact hk.elim
def Tr.lt (tr:Tr) (mu:tr.T->Nat) (n:Nat):Tr:={ tr with pre:=fun t=>tr.pre t/\mu t<n }
def Hz:List (Nat×Tr)->Nat->Option Tr
 |[],_=>none
 |(f,s)::l,g=>if f == g then some s else Hz l g
def DT (P:Program) (L:List (Nat×Tr)):Prop:=∀f tr,Hz L f=some tr->Gf P f tr/\An P f
theorem DT.nil:DT P []:=fun f sp h=>by simp[Hz]at h
theorem DT.cons {f:Nat} {s:Tr} {L:List (Nat×Tr)} (h:Gf P f s) (he:An P f) (k:DT P L):DT P ((f,s)::L):=fun g sp h'=>by
 simp only[Hz]at h';split at h'
 ·grind
 ·exact k g sp h'
theorem FamsOk.none {C:Aj} (h:∀g,C.fams g=AhH):∀g c,C.fams g=some c->Jl P g c/\An P g:=(by grind)
theorem Gy.no1 {C:Aj} (h:∀g,C.mks g=AhH):∀g mk,C.mks g=some mk->D9 P g mk/\An P g:=(by grind)
theorem Gy.none {C:Aj} (h:∀g,C.mks g=AhH) (h2:∀g,C.fams g=AhH:=by intro _;rfl):Gy P C:=⟨Gy.no1 h,FamsOk.none h2⟩
theorem AB.no1 {C:Aj} (h:∀g,C.trs g=AhH):∀g tr,C.trs g=some tr->Gf P g tr/\An P g:=(by grind)
theorem AB.none {C:Aj} (h:∀g,C.trs g=AhH) (h2:∀g,C.mks g=AhH:=by intro _;rfl) (h3:∀g,C.fams g=AhH:=by intro _;rfl):AB P C:=⟨(by grind),Gy.none h2 h3⟩
def Mi (P:Program) (st:St):List ResultVar->Option (List Prop×List EV)
 |[]=>some ([],[])
 |r::l=>match I7 P st r,Mi P st l with
   |some (ps,e),some (qs,es)=>some (ps++qs,e::es)
   |_,_=>none
def NI (P:Program) (st:St) (rs:List ResultVar) (e:EV):List Prop:=match rs with
 |[r]=>match I7 P st r with
   |some (ps,e')=>ps++fitE e' e
   |none=>[False]
 |rs=>match e with
   | .p s=>if D6 s then(match I8 P st rs with
     |some (ps,s')=>ps++GR s' s
     |none=>[False])else(match Mi P st rs with
     |some (ps,es)=>match Dc es with
       |some ss=>ps++GR (.tup ss) s
       |none=>[False]
     |none=>[False])
   | .ag true cs=>match Mi P st rs with
     |some (ps,es)=>ps++HI es cs
     |none=>[False]
   |_=>[False]
def FB (P:Program) (fn:Func) (mk:Mk) (t:mk.T):Exit->St->Prop:=fun e st=>match e with
 | .normal | .ret=>∃u:mk.U,BC (NI P (st.nilRows mk.nilr) fn.results.toList ((mk.res t u).ren (E8 mk.mv))++(Eu (st.nilRows mk.nilr).own (Cy (E8 mk.mv) (mk.lent' t u))++Eu (st.nilRows mk.nilr).own (Cy (E8 mk.mv) (mk.own t u)))) (mk.post t u)
 |_=>False
structure tL (mk:Mk) (fn:Func) (n:Nat):Prop where
 len:∀t,(mk.args t).length=n
 k1:∀t,Bq (mk.lent t)=mk.lkeys
 k2:∀t u,Bq (mk.lent' t u)=mk.lkeys
 k3:∀t u,Bq (mk.own t u)=mk.keys
 inl:∀t u,(mk.lent' t u).all (fun x=>x.2.within mk.lkeys)=true
 inn:∀t u,(mk.own t u).all (fun x=>x.2.within (mk.lkeys++mk.keys))=true/\(mk.res t u).within (mk.lkeys++mk.keys)=true
 chk:(Dk (mk.lkeys++mk.keys)&&mk.lkeys.all fun k=>decide (n+(fn.ntmps-n)<=k))=true
 mvc:(match mk.mv with|some (k,s)=>mk.keys.isEmpty&&(mk.lkeys.contains k&&decide (s<n+(fn.ntmps-n)))|none=>true)=true:=by rfl
theorem Qm {M:Nat->Prop} {w:World} {G:Bw} {st:St} {a:Act} {env:Ar} {X:Nat->Prop} (S:Al P G st a w env M X):∀{l:List ResultVar} {ps:List Prop} {ss:List EV},Mi P st l=some (ps,ss)->all ps ->
  ∃vs:List Value,(l.mapM (G4 a.tmps)).run P w=.ok vs w/\vs.length=l.length/\vs.length=ss.length/\∀i,i<ss.length->Ap P M w env (EV.at ss i) (vs.getD i undef)
 |[],ps,ss,h,_=>by
   cases h;exact⟨[],by simp,rfl,rfl,(by grind)⟩
 |r::l,ps,ss,h,hp=>by
   unfold Mi at h;split at h
   ·rename_i ps1 s1 qs ss1 h1 h2;cases h;obtain⟨q1,q2⟩:=all_append hp;obtain⟨v,hv,hd⟩:=Md S h1 q1;obtain⟨vs,r1,r2,r3,r4⟩:=Qm S h2 q2;refine⟨v::vs,by simp[hv,r1],by simp[r2],by simp[r3],fun i hi=>?_⟩;cases i with
    |zero=>simpa[EV.at]using hd
    |succ i=>simpa[EV.at]using r4 i (by grind)
   ·cases h
theorem tM {fn:Func} {M:Nat->Prop} {w:World} {G:Bw} {st:St} {a:Act} {env:Ar} {X:Nat->Prop} (S:Al P G st a w env M X) {r:EV} (h:all (NI P st fn.results.toList r)) {tmps:Array Value} (ht:tmps=a.tmps) :
  ∃v,(results fn tmps).run P w=.ok v w/\Ap P M w env r v:=by
 unfold NI at h;split at h
 ·rename_i r0 hres;split at h
  ·rename_i ps e hre;obtain⟨h1,h2⟩:=all_append h;obtain⟨v,hv,hd⟩:=Md S hre h1;subst ht;exact⟨v,by rw[Jz];simp[Aik,hres,hv],Hs h2 hd⟩
  ·exact(AC h).elim
 ·rename_i hne;have tup:∀vs:List Value,vs.length=fn.results.toList.length->(fn.results.toList.mapM (G4 a.tmps)).run P w=.ok vs w->(results fn a.tmps).run P w=.ok (.tuple vs.toArray) w:=fun vs r2 r1=>by
   have hno:¬ vs.length=1:=fun hc=>by
    rw[hc]at r2
    match hq:fn.results.toList,r2 with
    |[r0],_=>exact hne r0 hq
   rw[Jz];simp[Aik,r1,hno]
  split at h
  ·split at h
   ·rename_i hn;split at h
    ·rename_i hrs;obtain⟨h1,h2⟩:=all_append h;obtain⟨v,hv,hd⟩:=NE S hrs h1 ht;exact⟨v,hv,.p (Hr (Mf h2 hd) hn)⟩
    ·exact(AC h).elim
   ·split at h
    ·rename_i hrs;split at h
     ·rename_i ss hss;obtain⟨h1,h2⟩:=all_append h;subst ht;obtain⟨vs,r1,r2,r3,r4⟩:=Qm S hrs h1;have q:=Jd hss r3 r4;exact⟨.tuple vs.toArray,tup vs r2 r1,.p (Mf h2 (.tup _ vs q.1 q.2))⟩
     ·exact(AC h).elim
    ·exact(AC h).elim
  ·split at h
   ·rename_i cs _ _ _ hrs;obtain⟨h1,h2⟩:=all_append h;subst ht;obtain⟨vs,r1,r2,r3,r4⟩:=Qm S hrs h1;obtain⟨f1,f2⟩:=Jm h2;exact⟨.tuple vs.toArray,tup vs r2 r1,.ag true cs vs (r3.trans f1) (fun i hi=>Hs (f2 i hi) (r4 i (by omega)))⟩
   ·exact(AC h).elim
  ·exact(AC h).elim
theorem FO {f:Nat} {fn:Func} {c:Code} (hf:P.funcs[f]? = some fn) (hb:fn.body=some c) (hm:P.follows .mixedOrders=true) {mk:Mk} {n:Nat} (F:tL mk fn n)
  (h:∀t,mk.pre t->∃C,vc P C c (DH fn (mk.args t) (mk.lent t)) (FB P fn mk t)/\GS P C):D9 P f mk:=by
 obtain⟨hnod,hnt⟩:=Ain.1 F.chk;obtain⟨hnodl,_,hdis⟩:=List.nodup_append.1 (F8 hnod);have mvI:(mk.mv=none\/mk.keys = [])/\(∀k,k∈C5 mk.mv->k∈mk.lkeys)/\(∀k,k ∉ C5 mk.mv->E8 mk.mv k=k)/\∀k,k∈C5 mk.mv->∀q,q∈mk.lkeys->E8 mk.mv k≠q:=by
  have h1:=F.mvc;cases hmv:mk.mv with
  |none=>exact⟨.inl rfl,fun k h=>(by cases h),fun _ _=>rfl,fun k h=>(by cases h)⟩
  |some x =>
    obtain⟨k0,s0⟩:=x;rw[hmv]at h1;simp only[pR,List.isEmpty_iff,AhA,decide_eq_true_eq]at h1;refine⟨.inr h1.1,fun k h=>?_,fun k h=>?_,fun k h q hq=>?_⟩
    ·simp only[C5,Ah9]at h;rw[h];exact h1.2.1
    ·simp only[C5,Ah9]at h;simp only[E8];exact if_neg h
    ·simp only[C5,Ah9]at h;have:=AhC.1 hnt q hq;simp only[decide_eq_true_eq]at this;simp only[E8,if_pos h];omega
 obtain⟨mv1,mv2,mv3,mv4⟩:=mvI;refine⟨⟨F.k1,F.k2,F.k3,fun t u=>⟨F.inl t u,F.inn t u⟩,mv1,mv2⟩,fun t hpre hpl M w env vals hlt hown hat hinj hl hd=>?_⟩;obtain⟨C,hv,hC⟩:=h t hpre;have hG:=U4 env (mk.lent t) M w;refine callsIn_of_wp_marks hf hb trivial ?_ rfl;refine NA hG (hC.any _) hm c _ _ _ hv (fun e st' a' w' hk hs=>?_) _ _ (U5 hlt hown hat hinj hpl (by rw[F.k1];exact hnodl) (fun k hk=>by
  rw[F.k1]at hk;have:=AhC.1 hnt k hk;rw[F.len];simpa using this) hl hd)
 have hs2:=AO.nilRows mk.nilr hs;have key:∀st',AO P (Qk env (mk.lent t) M w) st' a' w'->(∃u:mk.U,BC (NI P st' fn.results.toList ((mk.res t u).ren (E8 mk.mv))++(Eu st'.own (Cy (E8 mk.mv) (mk.lent' t u))++Eu st'.own (Cy (E8 mk.mv) (mk.own t u)))) (mk.post t u))->LeavesInM Fence.wide 0 P fn a'.tmps (Tc P mk t M w env) a'.defers .returning w':=fun st' hs hz=>by
  obtain⟨u,hz⟩:=hz;obtain⟨h12,hpost⟩:=BD hz;obtain⟨h12,hOO⟩:=all_append h12;obtain⟨hOl,hO⟩:=all_append hOO;exact Mc hG a'.defers a' w' rfl hs (fun a2 w2 ha ⟨env2,M2,X2,S⟩=>by
   obtain⟨⟨hsame,hx⟩,hpin⟩:=S.gam;have hOl':=GO S hOl;have hO':=GO S hO;obtain⟨v,hv,hden⟩:=tM S h12 (tmps:=a'.tmps) ha.symm;have hlat:Be M2 (fun b=>M b\/M2 b) w2 w2:=⟨Ah0 _,fun _ _=>rfl,fun _ h=>.inr h⟩;have pin:∀k,k∈mk.lkeys->env2.at_ k=env.at_ k/\env2.rv k=env.rv k:=fun k hk=>by
    obtain⟨_,e1,e2⟩:=hpin k (by show k∈Bq (mk.lent t);rw[F.k1];exact hk);exact⟨e1,e2⟩
   have keyL:∀k,k∈mk.lkeys->∃o,(E8 mk.mv k,o)∈st'.own:=fun k hk=>by
    rw[<- F.k2 t u]at hk;obtain⟨⟨k2,o2⟩,hm2,e2⟩:=Ah2.1 hk;cases e2;exact(hOl' _ _ (Fc hm2)).1
   have keyN:∀k,k∈mk.keys->k ∉ C5 mk.mv:=fun k hk hm=>hdis k (mv2 k hm) k hk rfl;have keyO:∀k,k∈mk.keys->∃o,(k,o)∈st'.own:=fun k hk=>by
    have hk2:=hk;rw[<- F.k3 t u]at hk2;obtain⟨⟨k2,o2⟩,hm2,e2⟩:=Ah2.1 hk2;have e2:k2=k:=e2;subst e2;have:=(hO' _ _ (Fc hm2)).1;rwa[mv3 _ (keyN _ hk)]at this
   -- a lent block that the state still holds under its name,or that of the row that may have moved
   have notL:∀b,Fb env (mk.lent t) b->(∃k o,(k,o)∈st'.own/\k∈mk.lkeys/\env2.at_ k=some b)\/∃k,k∈C5 mk.mv/\env.at_ k=some b:=fun b ⟨k,o,h1,h2⟩=>by
    have hkk:k∈mk.lkeys:=by rw[<- F.k1 t];exact Ah2.2 ⟨_,h1,rfl⟩
    by_cases hm:k∈C5 mk.mv
    ·exact .inr ⟨k,hm,h2⟩
    ·obtain⟨o',ho'⟩:=keyL k hkk;rw[mv3 k hm]at ho';exact .inl ⟨k,o',ho',hkk,(pin k hkk).1.trans h2⟩
   refine⟨v,hv,u,v,env2.via (E8 mk.mv),fun b=>M b\/M2 b,hpost,rfl,hsame,fun b hb=>.inl hb,fun b hb=>?_,fun b hb=>?_,fun k hk hm=>?_,fun k hk g hg=>?_,fun k hk g hg=>?_,fun k1 k2 h1 h2 hne g hg=>?_,fun k o hk=>?_,fun k o hk=>?_,(Kf _ _ hden).later hlat⟩
   ·rcases hb with hb|hb
    ·exact .inl hb
    ·rcases S.mx b hb with h|h
     ·exact .inl h
     ·rcases hx b h with h|h
      ·rcases notL b h with ⟨k,o,h3,_,h4⟩|⟨k,h3,h4⟩
       ·exact absurd hb (S.oat k o h3 b (.inl h4)).2.1
       ·refine .inr (.inr ⟨k,h3,h4,fun e=>?_⟩);obtain⟨o,ho⟩:=keyL k (mv2 k h3);exact(S.oat _ o ho b (.inl e)).2.1 hb
      ·refine .inr (.inl ⟨h,fun k hk e=>?_⟩);rcases AhG.1 hk with hk|hk
       ·obtain⟨o,ho⟩:=keyO k hk;have e:env2.at_ (E8 mk.mv k)=some b:=e;rw[mv3 k (keyN k hk)]at e;exact(S.oat k o ho b (.inl e)).2.1 hb
       ·obtain⟨o,ho⟩:=keyL k (mv2 k hk);exact(S.oat _ o ho b (.inl e)).2.1 hb
   ·rcases hb with hb|hb
    ·exact Ah3 (hlt b hb) hsame.size
    ·exact S.mlt b hb
   ·show env2.at_ (E8 mk.mv k)=_/\env2.rv (E8 mk.mv k)=_;rw[mv3 k hm];exact pin k hk
   ·obtain⟨o,ho⟩:=keyO k hk;have hg:env2.at_ (E8 mk.mv k)=some g:=hg;rw[mv3 k (keyN k hk)]at hg;obtain⟨q1,_,q3⟩:=S.oat k o ho g (.inl hg);refine⟨?_,q3⟩;rcases hx g q1 with h|h
    ·rcases notL g h with ⟨k2,o2,h3,h4,h5⟩|⟨k2,h3,h4⟩
     ·exact absurd (.inl h5) (S.inj k o k2 o2 ho h3 (fun e=>hdis k2 h4 k hk e.symm) g (.inl hg))
     ·rcases mv1 with h6|h6
      ·rw[h6]at h3;cases h3
      ·rw[h6]at hk;cases hk
    ·exact h
   ·obtain⟨o,ho⟩:=keyL k (mv2 k hk);have hg:env2.at_ (E8 mk.mv k)=some g:=hg;obtain⟨q1,_,q3⟩:=S.oat _ o ho g (.inl hg);rcases hx g q1 with h|h
    ·rcases notL g h with ⟨k2,o2,h3,h4,h5⟩|⟨k2,h3,h4⟩
     ·exact absurd (.inl h5) (S.inj _ o k2 o2 ho h3 (mv4 k hk k2 h4) g (.inl hg))
     ·rw[Ts hk h3];exact .inl h4
    ·exact .inr ⟨h,q3⟩
   ·obtain⟨o1,ho1⟩:=keyO k1 h1;obtain⟨o2,ho2⟩:=keyO k2 h2;have hg:env2.at_ (E8 mk.mv k1)=some g:=hg;show env2.at_ (E8 mk.mv k2)≠some g;rw[mv3 k1 (keyN k1 h1)]at hg;rw[mv3 k2 (keyN k2 h2)];exact fun hc=>S.inj k1 o1 k2 o2 ho1 ho2 hne g (.inl hg) (.inl hc)
   ·exact(Kh (hOl' _ _ (Fc hk)).2).move hlat rfl rfl (fun _ _=>rfl) (fun _ _=>⟨rfl,rfl⟩)
   ·exact(Kh (hO' _ _ (Fc hk)).2).move hlat rfl rfl (fun _ _=>rfl) (fun _ _=>⟨rfl,rfl⟩))
 cases e<;>first|exact key _ hs2 hk|exact hk.elim
def Mk.lt (mk:Mk) (mu:mk.T->Nat) (n:Nat):Mk:={ mk with pre:=fun t=>mk.pre t/\mu t<n }
theorem Mj {f:Nat} {mk:Mk} (mu:mk.T->Nat) (hk:(∀t,Bq (mk.lent t)=mk.lkeys)/\(∀t u,Bq (mk.lent' t u)=mk.lkeys)/\(∀t u,Bq (mk.own t u)=mk.keys) /\
  (∀t u,(mk.lent' t u).all (fun x=>x.2.within mk.lkeys)=true/\(mk.own t u).all (fun x=>x.2.within (mk.lkeys++mk.keys))=true/\(mk.res t u).within (mk.lkeys++mk.keys)=true)/\(mk.mv=none\/mk.keys = [])/\∀k,k∈C5 mk.mv->k∈mk.lkeys) (h:∀n,D9 P f (mk.lt mu n)->D9 P f (mk.lt mu (n+1))):D9 P f mk:=by
 have all:∀n,D9 P f (mk.lt mu n):=fun n=>by
  induction n with
  |zero=>exact⟨hk,fun t hp=>absurd hp.2 (Nat.not_lt_zero _)⟩
  |succ n ih=>exact h n ih
 exact⟨hk,fun t hp=>(all (mu t+1)).2 t ⟨hp,Nat.lt_succ_self _⟩⟩
def Ev:List (Nat×Mk)->Nat->Option Mk
 |[],_=>none
 |(f,s)::l,g=>if f == g then some s else Ev l g
def Ml:List (Nat×FM)->Nat->Option FM
 |[],_=>none
 |(f,s)::l,g=>if f == g then some s else Ml l g
def U6:List (Nat×JW)->Nat->Option JW
 |[],_=>none
 |(f,s)::l,g=>if f == g then some s else U6 l g
def I9 (P:Program) (L:List (Nat×FM)):Prop:=∀f c,Ml L f=some c->Jl P f c/\An P f
theorem I9.nil:I9 P []:=fun f sp h=>by simp[Ml]at h
theorem I9.cons {f:Nat} {s:FM} {L:List (Nat×FM)} (h:Jl P f s) (he:An P f) (k:I9 P L):I9 P ((f,s)::L):=fun g sp h'=>by
 simp only[Ml]at h';split at h'
 ·rename_i hfg;simp at hfg;subst hfg;cases h';exact⟨h,he⟩
 ·exact k g sp h'
def Bx (P:Program) (L:List (Nat×Mk)):Prop:=∀f mk,Ev L f=some mk->D9 P f mk/\An P f
theorem Bx.nil:Bx P []:=fun f sp h=>by simp[Ev]at h
theorem Bx.cons {f:Nat} {s:Mk} {L:List (Nat×Mk)} (h:D9 P f s) (he:An P f) (k:Bx P L):Bx P ((f,s)::L):=fun g sp h'=>by
 simp only[Ev]at h';split at h'
 ·rename_i hfg;simp at hfg;subst hfg;cases h';exact⟨h,he⟩
 ·exact k g sp h'
end
end Go.SE
