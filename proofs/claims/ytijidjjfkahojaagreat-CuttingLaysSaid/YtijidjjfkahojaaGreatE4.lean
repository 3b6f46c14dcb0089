/- A symbolic walk over the model, and what it shows of functions of the program: parts of the proof that the text of the row joins. -/
import Derived.Test.YtijidjjfkahojaaGreatE3
import Derived.RangeFuncIn
import Derived.RangeFuncRecord
import Derived.Sort.LoopGhostIn
import Derived.RangeFuncLeaves
import Derived.ProofKit
open List renaming getD_eq_getElem?_getD->AS,getElem?_eq_getElem->oE,mem_filter->Afh,mem_map->Afi,all_eq_true->Afj,mem_cons->Afk,mem_range->Afl,range->Afm,mem_cons_of_mem->Afn,contains_iff_mem->Afq,mem_singleton->Afr,mem_cons_self->Afs,mem_append->Afz,getElem?_append_left->Af2,getElem?_append_right->Af6,getElem_of_mem->Af9,mem_append_right->AfL,mem_append_left->AfQ,map_cons->AfU,pairwise_cons->Agd,nodup_cons->Agk,map_append->Ag4,getD_cons_zero->AgV
open Array renaming getD_eq_getD_getElem?->LS,getElem?_eq_getElem->rN,getElem?_eq_some_iff->Afv,replicate->AfR,mapM_eq_mapM_toList->AfW,getElem?_append_left->Agc,all_eq_true_iff_forall_mem->Agl,getElem?_eq_none->Ag6,size_setIfInBounds->AgG
open Nat renaming not_lt_zero->Rc,zero_le->Afg,le_refl->Afo,lt_of_lt_of_le->Afp,zero_add->AfD,le_trans->AfI,lt_or_ge->AfP
open Bool renaming and_eq_true->nT,not_eq_true'->AfA,or_eq_true->AfE,false_eq_true->AgA,and_eq_true_iff->AgK
open Prod.mk renaming injEq->Afx
open Option renaming none->Af5
open Option.some renaming injEq->Agf,inj->AgF
namespace Go.SE
open Go.RowKit
section
variable {P:Program} {M:Nat->Prop} {w:World} {G:Bn} {st:St} {a:Act} {env:As} {X:Nat->Prop}
def Pa (f:Nat->Prop):List Nat->Prop
 |[]=>True
 |i::l=>match l with
   |[]=>f i
   |_::_=>f i/\Pa f l
def Pb (f:List Nat->Prop):List (List Nat)->Prop
 |[]=>True
 |i::l=>match l with
   |[]=>f i
   |_::_=>f i/\Pb f l
def nK:Op->Bool
 | .box ..=>false
 | .buildSlice ..=>false
 | .call { callee:=.value _,.. }=>false
 | .call { callee:=.builtin .append,.. }=>false
 |_=>true
def JR (P:Program) (C:Ak) (fl:Bool) (ops:Array Oper) (st:St) (o:Oper):Option (List Prop×AG):=
 if (fl||nK o.op)&&(Fu o).isNone&&(Cv P o).isEmpty then GF P C ops [] st o else none
theorem SP {C:Ak} {fl:Bool} {ops:Array Oper} {o:Oper} {ps:List Prop} {e:AG} (h:JR P C fl ops st o=some (ps,e)):Fu o=none/\Cv P o = []/\GF P C ops [] st o=some (ps,e):=by
 unfold JR at h;split at h
 ·rename_i hc;simp only[nT,Option.isNone_iff_eq_none,List.isEmpty_iff]at hc;exact⟨hc.1.2,hc.2,h⟩
 ·cases h
def nL:Op->Bool
 | .call _=>false
 |_=>true
def St.scal (st:St) (L:List Nat):St:={ st with T:=st.T.filter fun x=>L.contains x.1&&(match x.2.v with | .p (.int ..)=>true | .p (.bool _)=>true|_=>false),own:=[] }
def Ll (P:Program) (ops:Array Oper) (st:St) (o:Oper):Option (List Prop×AG):=if nL o.op then(match IH ops (st.scal (C7 ops o)) o with
 |some gd=>if Fr st o.dst gd then(match FS P (st.scal (C7 ops o)) gd o.op with
   |some (ps,.p (.int k n))=>some (FR gd ps,⟨gd,.p (.int k n)⟩)
   |some (ps,.p (.bool b))=>some (FR gd ps,⟨gd,.p (.bool b)⟩)
   |_=>none)else none
 |none=>none)else none
def Ih (P:Program) (ops:Array Oper) (st:St) (listed:Array Bool):List Nat->Option (Nat×Option (List Prop×AG))
 |[]=>none
 |i::l=>match ops.toList[i]? with
   |some o=>if Region.free .any ops listed i then(if (FX o).isSome then some (i,none)else match Ll P ops st o with
     |some r=>some (i,some r)
     |none=>Ih P ops st listed l)else Ih P ops st listed l
   |none=>Ih P ops st listed l
def Ja (listed:Array Bool) (D:List Nat) (o:Oper):Bool:=o.after.all fun e=>!Region.binds .any e||listed.getD e.on false||D.contains e.on
def HC (P:Program) (C:Ak) (fl:Bool) (ops:Array Oper) (listed:Array Bool):Nat->List Oper->St->List Nat->List Prop×List (Nat×Oper×AG)
 |_,[],_,_=>([],[])
 |i,o::rest,st,D=>if listed.getD i false || !(Ja listed D o)then HC P C fl ops listed (i+1) rest st D else match JR P C fl ops st o with
   |some (ps,e)=>match HC P C fl ops listed (i+1) rest (st.put o.dst e) (i::D)with
     |(qs,tab)=>(ps++qs,(i,o,e)::tab)
   |none=>HC P C fl ops listed (i+1) rest st D
def C8:List (Nat×Oper×AG)->List Nat->St->St
 |[],_,st=>st
 |(i,o,e)::l,L,st=>C8 l L (if L.contains i then st.put o.dst e else st)
def Jb (listed:Array Bool) (F:List Nat):List (Nat×Oper×AG)->List Nat->List (List Nat)
 |[],L=>[L]
 |(i,o,_)::l,L=>(if Ja listed L o then Jb listed F l (i::L)else [])++(if F.contains i then []else Jb listed F l L)
def MO (ops:Array Oper) (listed:Array Bool) (D:List Nat):List Nat:=(Afm ops.size).filter fun j=>!(listed.getD j false) && !(D.contains j)&&(match ops.toList[j]? with|some o=>Ja listed D o|none=>false)
def Pc (o:Oper):List Nat:=(o.after.toList.filter fun e=>Region.binds .any e).map (·.on)
def HD (listed:Array Bool):List Nat->Array Bool
 |[]=>listed
 |i::l=>HD (listed.setIfInBounds i true) l
def HE (P:Program) (C:Ak) (fl:Bool) (ops:Array Oper):Nat->Array Bool->St->(St->Prop)->Prop
 |0,listed,st,K=>match Region.ready .any ops listed with
   |[]=>K st
   |_::_=>False
 |fuel+1,listed,st,K=>match Region.ready .any ops listed with
   |[]=>K st
   |i::l=>match (if JM ops then Ih P ops st listed (i::l)else none)with
     |some (i,r)=>(match ops.toList[i]?,r with
       |some o,some (ps,e)=>By ps (HE P C fl ops fuel (listed.setIfInBounds i true) (st.put o.dst e) K)
       |some o,none=>EI P C ops [o] st (fun st'=>HE P C fl ops fuel (listed.setIfInBounds i true) st' K)
       |none,_=>False)
     |none=>if Lh ops.toList ops 0 ops.toList then(match HC P C fl ops listed 0 ops.toList (st.noGuards ops.toList) []with
       |(ps,tab)=>By ps (match MO ops listed (tab.map (·.1))with
         |[]=>if (Afm ops.size).all (fun j=>listed.getD j false||(tab.map (·.1)).contains j)then K (C8 tab (tab.map (·.1)) (st.noGuards ops.toList))else False
         |j::l=>Pa (fun j=>match ops.toList[j]? with
           |some o=>Pb (fun L=>EI P C ops [o] (C8 tab L (st.noGuards ops.toList)) (fun st'=>HE P C fl ops fuel (HD listed (j::L)) st' K)) (Jb listed (Pc o) tab [])
           |none=>False) (j::l)))else False
theorem SQ {f:Nat->Prop}:∀{l:List Nat},Pa f l->∀i,i∈l->f i
 |[],_,i,h=>by cases h
 |[j],h,i,hi=>by
   rcases Afk.1 hi with rfl|hi
   ·exact h
   ·cases hi
 |j::k::l,h,i,hi=>by
   rcases Afk.1 hi with rfl|hi
   ·exact h.1
   ·exact SQ h.2 i hi
theorem SR {f:List Nat->Prop}:∀{l:List (List Nat)},Pb f l->∀i,i∈l->f i
 |[],_,i,h=>by cases h
 |[j],h,i,hi=>by
   rcases Afk.1 hi with rfl|hi
   ·exact h
   ·cases hi
 |j::k::l,h,i,hi=>by
   rcases Afk.1 hi with rfl|hi
   ·exact h.1
   ·exact SR h.2 i hi
theorem nM {L:List Nat} (S:Am P G st a w env M X) (w2:World):Am P { g:=fun _ _ _=>True,m0:=fun _=>False } (st.scal L) { a with defers:=[] } w2 env (fun _=>False) (fun _=>False):=by
 refine⟨⟨trivial,fun k hk=>hk.elim⟩,fun b h=>h.elim,fun k o h=>(by cases h),fun k o h=>(by cases h),fun k o k' o' h=>(by cases h),List.nodup_nil,fun b h=>h.elim,fun b h=>h.elim,S.siz,fun s e h=>?_,fun s e h=>S.grd s e (Afh.1 h).1,fun d h=>(by cases h),List.nodup_nil⟩;obtain⟨h1,h2⟩:=Afh.1 h;obtain⟨q1,q2,q3⟩:=S.tmp s e h1;refine⟨q1,fun ho=>?_,q3⟩;have hd:=q2 ho;have:({ a with defers:=[] }:Act).eval (.tmp s)=a.eval (.tmp s):=rfl;rw[this];simp only[nT]at h2;obtain⟨g,v⟩:=e;cases v with
 |p s =>
   rcases hd with ⟨hd⟩;cases s with
   |int k n=>generalize a.eval (.tmp _)=v at *;cases hd;exact .p (.int _ _)
   |bool b=>generalize a.eval (.tmp _)=v at *;cases hd;exact .p (.bool _)
   |_=>exact absurd h2.2 (by simp)
 |_=>exact absurd h2.2 (by simp)
theorem nN (S:Am P G st a w env M X) {ops:Array Oper} {o:Oper} {ps:List Prop} {e:AG} (h:Ll P ops st o=some (ps,e)) (hp:all ps) :
  ∃v,Yields P ops o v a/\Am P G (st.put o.dst e) (a.put o.dst v) w env M X:=by
 unfold Ll at h;split at h;rotate_left
 ·cases h
 rename_i hnc;split at h;rotate_left
 ·cases h
 rename_i gd hg;split at h;rotate_left
 ·cases h
 rename_i hck;have S0:=nM (L:=C7 ops o) S;obtain⟨hgd,hwant⟩:=Mn (S0 w) hg;have hgd':Ex a gd:=hgd;have hw':Region.wanted o (yielded ops a.tmps)=true↔C6 gd:=hwant;have hd:∀t,o.dst=some t->t<st.nt:=fun t ht=>by
  rw[ht]at hck;cases gd with
  |none=>simpa[Fr]using hck
  |some g=>obtain⟨q,c,x⟩:=g;simp[Fr]at hck;exact hck.1
 have hq:∀q c x,gd=some (q,c,x)->o.dst≠some q:=fun q c x hg ht=>by
  rw[ht,hg]at hck;simp[Fr]at hck
 have fin : ∀(qs : List Prop) (s : SV) (v : Value), FS P (st.scal (C7 ops o)) gd o.op = some (qs, .p s)->all (FR gd qs)->(∀(M : Nat->Prop) (w : World) (u : Value), Au M w s u->u = v)->(∀(M : Nat->Prop) (w : World), Au M w s v) ->
   ∃v,Yields P ops o v a/\Am P G (st.put o.dst ⟨gd,.p s⟩) (a.put o.dst v) w env M X:=fun qs s v hs hp hu hv=>by
  by_cases hh:C6 gd
  ·refine⟨v,.inl ⟨hw'.2 hh,fun w2=>?_⟩,S.putG hgd' hd hq (fun _=>.p (hv _ _)) (fun hn=>absurd hh hn)⟩;obtain⟨u,h1,h2⟩:=KS (S0 w2) hgd hh hs (FV hp hh) o rfl;rcases h2 with ⟨h2⟩;rw[hu _ _ _ h2]at h1;exact h1
  ·refine⟨undef,.inr ⟨?_,rfl⟩,S.putG hgd' hd hq (fun hx=>absurd hx hh) (fun _=>rfl)⟩;cases hx:Region.wanted o (yielded ops a.tmps)with
   |false=>rfl
   |true=>exact absurd (hw'.1 hx) hh
 split at h
 ·rename_i qs k n hs;cases h;exact fin qs _ (.int k n) hs hp (fun _ _ u hd=>by cases hd;rfl) (fun _ _=>.int _ _)
 ·rename_i qs b hs;cases h;exact fin qs _ (.bool b) hs hp (fun _ _ u hd=>by cases hd;rfl) (fun _ _=>.bool _)
 ·cases h
theorem SS {ops:Array Oper} {listed:Array Bool}:∀{l:List Nat} {i:Nat} {r:Option (List Prop×AG)},Ih P ops st listed l=some (i,r)->i∈l/\∃o,ops.toList[i]? = some o/\Region.free .any ops listed i=true/\((r=none/\(FX o).isSome=true)\/∃x,r=some x/\Ll P ops st o=some x)
 |[],_,_,h=>by simp[Ih]at h
 |k::l,i,r,h=>by
   simp only[Ih]at h;have nxt:Ih P ops st listed l=some (i,r)->i∈k::l/\∃o,ops.toList[i]? = some o/\Region.free .any ops listed i=true/\((r=none/\(FX o).isSome=true)\/∃x,r=some x/\Ll P ops st o=some x):=fun h=>by
    obtain⟨h1,h2⟩:=SS h;exact⟨Afn _ h1,h2⟩
   split at h
   ·rename_i o ho;split at h
    ·rename_i hf;split at h
     ·rename_i hm;cases h;exact⟨Afs ..,o,ho,hf,.inl ⟨rfl,hm⟩⟩
     ·split at h
      ·rename_i x hx;cases h;exact⟨Afs ..,o,ho,hf,.inr ⟨x,rfl,hx⟩⟩
      ·exact nxt h
    ·exact nxt h
   ·exact nxt h
theorem SU {C:Ak} {fl:Bool} {ops:Array Oper} {o:Oper} {ps:List Prop} {e:AG} (h:JR P C fl ops st o=some (ps,e)):∀d,e.by d=true->d∈Ho ops o:=SG (SP h).2.2
structure SX (P:Program) (C:Ak) (fl:Bool) (ops:Array Oper) (listed:Array Bool) (st:St) (tab:List (Nat×Oper×AG)) (pps:List Prop):Prop where
 at_:∀i o e,(i,o,e)∈tab->ops[i]? = some o/\listed.getD i false=false/\(∀f,f∈o.after->Region.binds .any f=true->listed.getD f.on false=true\/f.on∈tab.map (·.1)) /\
  ∃stX ps,JR P C fl ops stX o=some (ps,e)/\(∀p,p∈ps->p∈pps)/\DQ st stX/\∀x,x∈stX.T->(x∈st.T/\∀k ok ek,(k,ok,ek)∈tab->k<i->ok.dst≠some x.1)\/∃k ok ek,(k,ok,ek)∈tab/\k<i/\ok.dst=some x.1/\x.2=ek
 inc:(tab.map (·.1)).Pairwise (· < ·)
theorem DQ.trans {a b c:St} (h:DQ a b) (k:DQ b c):DQ a c:=⟨k.1.trans h.1,k.2.1.trans h.2.1,k.2.2.1.trans h.2.2.1,k.2.2.2.trans h.2.2.2⟩
theorem Pd {C:Ak} {fl:Bool} {ops:Array Oper} {listed:Array Bool} {st:St}:∀(rest:List Oper) (n:Nat) (st1:St) (D:List Nat) (pre:List (Nat×Oper×AG)) (ps:List Prop) (tab:List (Nat×Oper×AG)),HC P C fl ops listed n rest st1 D=(ps,tab) ->
  (∀k o,rest[k]? = some o->ops[n+k]? = some o)->(∀k,k∈D↔k∈pre.map (·.1))->(∀k ok ek,(k,ok,ek)∈pre->k<n)->DQ st st1->(∀x,x∈st1.T->(x∈st.T/\∀k ok ek,(k,ok,ek)∈pre->ok.dst≠some x.1)\/∃k ok ek,(k,ok,ek)∈pre/\ok.dst=some x.1/\x.2=ek) ->
  (∀i o e,(i,o,e)∈tab->n<=i/\ops[i]? = some o/\listed.getD i false=false/\(∀f,f∈o.after->Region.binds .any f=true->listed.getD f.on false=true\/f.on∈(pre++tab).map (·.1)) /\
   ∃stX qs,JR P C fl ops stX o=some (qs,e)/\(∀p,p∈qs->p∈ps)/\DQ st stX/\∀x,x∈stX.T->(x∈st.T/\∀k ok ek,(k,ok,ek)∈pre++tab->k<i->ok.dst≠some x.1)\/∃k ok ek,(k,ok,ek)∈pre++tab/\k<i/\ok.dst=some x.1/\x.2=ek)/\(tab.map (·.1)).Pairwise (· < ·)
 |[],n,st1,D,pre,ps,tab,h,_,_,_,_,_=>by
   simp[HC]at h;obtain⟨_,rfl⟩:=h;exact⟨fun i o e h=>by simp at h,List.Pairwise.nil⟩
 |o::rest,n,st1,D,pre,ps,tab,h,ho,hD,hpre,tw,hT=>by
   have skip:HC P C fl ops listed (n+1) rest st1 D=(ps,tab)->_:=fun h=>Pd rest (n+1) st1 D pre ps tab h (fun k o' hk=>by rw[show n+1+k=n+(k+1)by omega];exact ho (k+1) o' (by simpa using hk)) hD (fun k ok ek hm=>by have:=hpre k ok ek hm;omega) tw hT;have skip':=fun h=>(fun q:_/\_=>(⟨fun i o e hm=>⟨by have:=(q.1 i o e hm).1;omega,(q.1 i o e hm).2⟩,q.2⟩:(∀i o e,(i,o,e)∈tab->n<=i/\_)/\_)) (skip h);simp only[HC]at h;split at h
   ·exact skip' h
   ·rename_i hc;split at h
    ·rename_i qs e hdr;generalize hrec:HC P C fl ops listed (n+1) rest (st1.put o.dst e) (n::D)=r at h;obtain⟨qs',tab'⟩:=r;cases h;simp only[AfE,not_or,Bool.not_eq_true,AfA]at hc;obtain⟨hl,haf⟩:=hc;have haf:Ja listed D o=true:=by simpa using haf
     obtain⟨h1,h2⟩:=Pd rest (n+1) (st1.put o.dst e) (n::D) (pre ++ [(n,o,e)]) qs' tab' hrec (fun k o' hk=>by rw[show n+1+k=n+(k+1)by omega];exact ho (k+1) o' (by simpa using hk))
      (fun k=>by simp only[Afk,Ag4,Afz,hD,AfU,List.map_nil,List.not_mem_nil,or_false];exact Or.comm)
      (fun k ok ek hm=>by
       rcases Afz.1 hm with hm|hm
       ·have:=hpre k ok ek hm;omega
       ·simp only[Afr,Afx]at hm;omega) (tw.trans (DQ.put _ _ _))
      (fun x hx=>by
       rcases Lk hx with ⟨q1,q2⟩|⟨q1,q2⟩
       ·rcases hT x q1 with ⟨q3,q4⟩|⟨k,ok,ek,q3,q4,q5⟩
        ·refine .inl ⟨q3,fun k ok ek hm=>?_⟩;rcases Afz.1 hm with hm|hm
         ·exact q4 k ok ek hm
         ·simp only[Afr,Afx]at hm;obtain⟨_,rfl,_⟩:=hm;exact q2
        ·exact .inr ⟨k,ok,ek,AfQ _ q3,q4,q5⟩
       ·exact .inr ⟨n,o,e,AfL _ (Afr.2 rfl),q1,q2⟩)
     have eqp:pre ++ [(n,o,e)]++tab'=pre++(n,o,e)::tab':=by simp
     rw[eqp]at h1;refine⟨fun i oi ei hm=>?_,?_⟩
     ·rcases Afk.1 hm with hm|hm
      ·cases hm;refine⟨Afo _,by have:=ho 0 o (by simp);simpa using this,hl,fun f hf hb=>?_,st1,qs,hdr,fun p hp=>AfQ _ hp,tw,fun x hx=>?_⟩
       ·have:=Agl.1 haf f hf;simp only[hb,Bool.not_true,Bool.false_or,AfE]at this;rcases this with this|this
        ·exact .inl this
        ·refine .inr ?_;rw[Ag4];exact AfQ _ ((hD _).1 (Afq.1 this))
       ·have hge : ∀k ok ek, (k, ok, ek)∈pre++(n, o, e)::tab'->k<n->(k, ok, ek)∈pre :=fun k ok ek hm hlt =>by
         rcases Afz.1 hm with hm|hm
         ·exact hm
         ·rcases Afk.1 hm with hm|hm
          ·simp only[Afx]at hm;omega
          ·have:=(h1 k ok ek hm).1;omega
        rcases hT x hx with ⟨q3,q4⟩|⟨k,ok,ek,q3,q4,q5⟩
        ·exact .inl ⟨q3,fun k ok ek hm hlt=>q4 k ok ek (hge k ok ek hm hlt)⟩
        ·exact .inr ⟨k,ok,ek,AfQ _ q3,hpre k ok ek q3,q4,q5⟩
      ·obtain⟨q1,q2,q3,q4,stX,qq,q5,q6,q7⟩:=h1 i oi ei hm;exact⟨by omega,q2,q3,q4,stX,qq,q5,fun p hp=>AfL _ (q6 p hp),q7⟩
     ·rw[AfU,Agd];refine⟨fun k hk=>?_,h2⟩;obtain⟨⟨k',ok,ek⟩,hm,rfl⟩:=Afi.1 hk;have:=(h1 k' ok ek hm).1;show n<k';omega
    ·exact skip' h
theorem Pe:∀(tab:List (Nat×Oper×AG)) (L:List Nat) (st:St),DQ st (C8 tab L st)
 |[],_,st=>⟨rfl,rfl,rfl,rfl⟩
 |(i,o,e)::l,L,st=>by
   simp only[C8];refine DQ.trans ?_ (Pe l L _);split
   ·exact DQ.put _ _ _
   ·exact⟨rfl,rfl,rfl,rfl⟩
theorem SY {x:Nat×AG}:∀{tab:List (Nat×Oper×AG)} {L:List Nat} {st:St},x∈(C8 tab L st).T->(x∈st.T/\∀k ok ek,(k,ok,ek)∈tab->k∈L->ok.dst≠some x.1)\/∃k ok ek,(k,ok,ek)∈tab/\k∈L/\ok.dst=some x.1/\x.2=ek
 |[],_,_,h=>.inl ⟨h,fun k ok ek hm=>by simp at hm⟩
 |(i,o,e)::l,L,st,h=>by
   simp only[C8]at h;rcases SY h with ⟨h1,h2⟩|⟨k,ok,ek,h1,h2,h3⟩
   ·split at h1
    ·rename_i hi;rcases Lk h1 with ⟨q1,q2⟩|⟨q1,q2⟩
     ·refine .inl ⟨q1,fun k ok ek hm hk=>?_⟩;rcases Afk.1 hm with hm|hm
      ·cases hm;exact q2
      ·exact h2 k ok ek hm hk
     ·exact .inr ⟨i,o,e,Afs ..,Afq.1 hi,q1,q2⟩
    ·rename_i hi;refine .inl ⟨h1,fun k ok ek hm hk=>?_⟩;rcases Afk.1 hm with hm|hm
     ·cases hm;exact absurd (Afq.2 hk) hi
     ·exact h2 k ok ek hm hk
   ·exact .inr ⟨k,ok,ek,Afn _ h1,h2,h3⟩
theorem MP {x:Nat×AG}:∀{tab:List (Nat×Oper×AG)} {L:List Nat} {st:St},x∈st.T->(∀k ok ek,(k,ok,ek)∈tab->k∈L->ok.dst≠some x.1/\∀d,ok.dst=some d->x.2.by d=false)->x∈(C8 tab L st).T
 |[],_,_,h,_=>h
 |(i,o,e)::l,L,st,h,hk=>by
   simp only[C8];refine MP ?_ (fun k ok ek hm=>hk k ok ek (Afn _ hm));split
   ·rename_i hi;obtain⟨q1,q2⟩:=hk i o e (Afs ..) (Afq.1 hi);exact Ig h q1 q2
   ·exact h
theorem SZ {k:Nat} {ok:Oper} {ek:AG} {d:Nat}:∀{tab:List (Nat×Oper×AG)} {L:List Nat} {st:St},(k,ok,ek)∈tab->k∈L->ok.dst=some d->(tab.map (·.1)).Pairwise (· < ·)->(∀j oj ej,(j,oj,ej)∈tab->k<j->oj.dst≠some d/\∀d',oj.dst=some d'->ek.by d'=false)->(d,ek)∈(C8 tab L st).T
 |[],_,_,h,_,_,_,_=>by simp at h
 |(i,o,e)::l,L,st,h,hL,hd,hp,hk=>by
   simp only[C8];rw[AfU,Agd]at hp;rcases Afk.1 h with h|h
   ·cases h;refine MP ?_ (fun j oj ej hm _=>hk j oj ej (Afn _ hm) (hp.1 j (Afi.2 ⟨_,hm,rfl⟩)));rw[if_pos (Afq.2 hL),hd];exact JN
   ·exact SZ h hL hd hp.2 (fun j oj ej hm=>hk j oj ej (Afn _ hm))
theorem Pf {listed:Array Bool} {F:List Nat} {q:Nat->Bool}:∀(tab:List (Nat×Oper×AG)) (L:List Nat),(∀i o e,(i,o,e)∈tab->q i=true->∀f,f∈o.after->Region.binds .any f=true->listed.getD f.on false=true\/f.on∈L\/(∃k ok ek,(k,ok,ek)∈tab/\k<i/\k=f.on/\q k=true)) ->
  (∀i o e,(i,o,e)∈tab->i∈F->q i=true)->(tab.map (·.1)).Pairwise (· < ·)->∃L',L'∈Jb listed F tab L/\∀k,k∈L'↔k∈L\/(k∈tab.map (·.1)/\q k=true)
 |[],L,_,_,_=>⟨L,by simp[Jb],fun k=>by simp⟩
 |(i,o,e)::l,L,h1,h2,hp=>by
   rw[AfU,Agd]at hp;have nl:∀k ok ek,(k,ok,ek)∈l->i<k:=fun k ok ek hm=>hp.1 k (Afi.2 ⟨_,hm,rfl⟩);cases hq:q i with
   |true =>
     have ha:Ja listed L o=true:=by
      unfold Ja;rw[Agl];intro f hf;cases hb:Region.binds .any f with
      |false=>rfl
      |true =>
        simp only[Bool.not_true,Bool.false_or,AfE];rcases h1 i o e (Afs ..) hq f hf hb with h|h|⟨k,ok,ek,hm,hlt,rfl,_⟩
        ·exact .inl h
        ·exact .inr (Afq.2 h)
        ·rcases Afk.1 hm with hm|hm
         ·simp only[Afx]at hm;omega
         ·have:=nl _ _ _ hm;omega
     obtain⟨L', q1, q2⟩:=Pf (listed :=listed) (F :=F) (q :=q) l (i::L) (fun k ok ek hm hqk f hf hb =>by
      rcases h1 k ok ek (Afn _ hm) hqk f hf hb with h|h|⟨k2,ok2,ek2,hm2,hlt,e2,hq2⟩
      ·exact .inl h
      ·exact .inr (.inl (Afn _ h))
      ·rcases Afk.1 hm2 with hm2|hm2
       ·simp only[Afx]at hm2;exact .inr (.inl (by rw[<- e2,hm2.1];exact Afs ..))
       ·exact .inr (.inr ⟨k2,ok2,ek2,hm2,hlt,e2,hq2⟩)) (fun k ok ek hm=>h2 k ok ek (Afn _ hm)) hp.2
     refine⟨L',?_,fun k=>?_⟩
     ·simp only[Jb];rw[if_pos ha];exact AfQ _ q1
     ·rw[q2,AfU,Afk,Afk];constructor
      ·rintro((rfl|h)|⟨h,hq'⟩)
       ·exact .inr ⟨.inl rfl,hq⟩
       ·exact .inl h
       ·exact .inr ⟨.inr h,hq'⟩
      ·rintro(h|⟨rfl|h,hq'⟩)
       ·exact .inl (.inr h)
       ·exact .inl (.inl rfl)
       ·exact .inr ⟨h,hq'⟩
   |false =>
     have hF:i ∉ F:=fun hF=>by rw[h2 i o e (Afs ..) hF]at hq;cases hq
     obtain⟨L', q1, q2⟩:=Pf (listed :=listed) (F :=F) (q :=q) l L (fun k ok ek hm hqk f hf hb =>by
      rcases h1 k ok ek (Afn _ hm) hqk f hf hb with h|h|⟨k2,ok2,ek2,hm2,hlt,e2,hq2⟩
      ·exact .inl h
      ·exact .inr (.inl h)
      ·rcases Afk.1 hm2 with hm2|hm2
       ·simp only[Afx]at hm2;rw[hm2.1]at hq2;rw[hq2]at hq;cases hq
       ·exact .inr (.inr ⟨k2,ok2,ek2,hm2,hlt,e2,hq2⟩)) (fun k ok ek hm=>h2 k ok ek (Afn _ hm)) hp.2
     refine⟨L',?_,fun k=>?_⟩
     ·simp only[Jb];refine AfL _ ?_;rw[if_neg (fun h=>hF (Afq.1 h))];exact q1
     ·rw[q2,AfU,Afk];constructor
      ·rintro(h|⟨h,hq'⟩)
       ·exact .inl h
       ·exact .inr ⟨.inr h,hq'⟩
      ·rintro(h|⟨rfl|h,hq'⟩)
       ·exact .inl h
       ·rw[hq']at hq;cases hq
       ·exact .inr ⟨h,hq'⟩
theorem MQ:∀{tab:List (Nat×Oper×AG)} {L L':List Nat} {st:St},(∀k,k∈tab.map (·.1)->(k∈L↔k∈L'))->C8 tab L st=C8 tab L' st
 |[],_,_,_,_=>rfl
 |(i,o,e)::l,L,L',st,h=>by
   simp only[C8];have e1:L.contains i=L'.contains i:=by
    have:=h i (by simp);cases h1:L.contains i<;>cases h2:L'.contains i<;>simp_all
   rw[e1];exact MQ (fun k hk=>h k (by rw[AfU];exact Afn _ hk))
theorem Ta:∀(l:List Nat) (listed:Array Bool),(HD listed l).size=listed.size
 |[],_=>rfl
 |i::l,listed=>by rw[HD,Ta l,AgG]
theorem Tb:∀(l:List Nat) (listed:Array Bool) (j:Nat),j<listed.size->(HD listed l).getD j false=(listed.getD j false||l.contains j)
 |[],listed,j,_=>by simp[HD]
 |i::l,listed,j,hj=>by
   rw[HD,Tb l _ j (by simpa using hj)]
   by_cases h:i=j
   ·subst h;rw[Hs hj];simp
   ·rw[HB (Ne.symm h)];have:(i::l).contains j=l.contains j:=by simp[Ne.symm h]
    rw[this]
section
variable {ro:Option Nat} {n:Nat} {ops:Array Oper} {Q:Exit->Act->World->Prop}
theorem nO {j:Nat} {oi oj:Oper} {v:Value} (hj:ops[j]? = some oj) (hap:oi.apart ops oj=true) (hsi:∀cs b,oi.op ≠ .select cs b) (h4:∀c,oj.op ≠ .defer c) (h5:∀cs b,oj.op ≠ .select cs b)
  (hQ:∀c a w,¬ Q (.panic c) a w) {K:Act->World->Prop} {a:Act} {w:World} (hy:Yields P ops oi v a) (h:wpOpIn (W ro) n P ops Q j K (a.put oi.dst v) w) :
  wpOpIn (W ro) n P ops Q j (fun a' w'=>Yields P ops oi v a'/\K (a'.put oi.dst v) w') a w:=by
 obtain⟨h1,h2,h3⟩:=Oper.apart_spec hap;have keep:∀(a:Act),Yields P ops oi v a->∀u,Yields P ops oi v (a.put oj.dst u):=fun a hy u=>hy.of_same (execOp_put oi hsi a oj.dst u h3) (wanted_put oi a oj.dst u h3);unfold wpOpIn at *;simp only[hj]at *;rw[wanted_put oj a oi.dst v h1,about_put oj w a oi.dst v h1]at h;split
 ·rename_i hw;simp only[hw,if_true]at h;unfold Oper.wpIn at *;rw[about_put oj w a oi.dst v h1]at h;refine⟨h.1,?_⟩;have h:=h.2;rw[Oper.semAt_eq _ _ _ h4,execOp_put oj h5 a oi.dst v h1]at h;rw[Oper.semAt_eq _ _ _ h4];generalize (execOp a.eval oj).run P w=r at *;cases r with
  |ok x w' =>
    cases x<;>simp only[Oper.uponIn]at h ⊢
    case value u=>exact⟨keep a hy u,by rw[<- Act.put_comm a v u h2];exact h⟩
    case skip=>exact⟨keep a hy _,by rw[<- Act.put_comm a v undef h2];exact h⟩
    case defer q =>
     refine⟨keep { a with defers:=q::a.defers } (hy.of_same rfl rfl) _,?_⟩;rw[<- Act.put_comm _ v undef h2,<- Act.put_defers];exact h
    case enter f args =>
     refine⟨h.1,CallsIn.mono h.2 fun e w'' he=>?_⟩;cases e with
     |returned u=>exact⟨keep a hy u,by rw[<- Act.put_comm a v u h2];exact he⟩
     |panicked c=>exact(hQ _ _ _ he).elim
     |outgrown=>exact he
    case row row args=>exact⟨h.1,RowsIn.mono h.2 fun u w'' he=>⟨keep a hy u,by rw[<- Act.put_comm a v u h2];exact he⟩⟩
    case round l f tmps assign body =>
     refine⟨h.1,RoundIn.mono h.2 fun e w'' he=>?_⟩;cases e with
     |returned u=>exact⟨keep a hy u,by rw[<- Act.put_comm a v u h2];exact he⟩
     |panicked c=>exact(hQ _ _ _ he).elim
     |outgrown=>exact he
  |halt x w' =>
    cases x<;>simp only[Oper.uponIn]at h ⊢
    case panic u=>exact(hQ _ _ _ h).elim
 ·rename_i hw;simp only[hw]at h;exact⟨h.1,keep a hy _,by rw[<- Act.put_comm a v undef h2];exact h.2⟩
theorem Tc {i:Nat} {oi:Oper} {v:Value} (hi:ops[i]? = some oi) (hdf:∀c,oi.op ≠ .defer c) {K:Act->World->Prop} {a:Act} {w:World} (hy:Yields P ops oi v a) (h:K (a.put oi.dst v) w):wpOpIn (W ro) n P ops Q i K a w:=by
 unfold wpOpIn;simp only[hi];rcases hy with ⟨hw,hv⟩|⟨hw,rfl⟩
 ·simp only[hw,if_true];refine⟨fun _ _=>trivial,?_⟩;rw[Oper.semAt_eq _ _ _ hdf,hv];exact h
 ·simp only[hw,AgA,if_false];exact⟨fun _ _=>trivial,h⟩
theorem Td {i:Nat} {oi:Oper} {v:Value} (hi:ops[i]? = some oi) (hp:JM ops=true) (hQ:∀c a w,¬ Q (.panic c) a w) :
  ∀(fuel:Nat) (listed:Array Bool) (a:Act) (w:World),(∀j oj,ops[j]? = some oj->j≠i->listed.getD j true=false->(∀e,e∈oj.after->Region.binds .any e=true->e.on≠i)->oi.apart ops oj=true) ->
    i∈Region.ready .any ops listed->Yields P ops oi v a->wpAnyIn (W ro) n P .any ops Q fuel (listed.setIfInBounds i true) (a.put oi.dst v) w->wpAnyIn (W ro) n P .any ops Q (fuel+1) listed a w:=by
 obtain⟨pd,ps⟩:=OZ hp hi;intro fuel
 induction fuel with
 |zero =>
   intro listed a w _ hr hy H;refine⟨fun h=>(by rw[h]at hr;cases hr),fun j hj=>?_⟩
   by_cases hji:j=i
   ·subst hji;exact Tc hi pd hy H
   ·have:=ready_mono hj hji;rw[H.1]at this;cases this
 |succ fuel ih =>
   intro listed a w hfree hr hy H;refine⟨fun h=>(by rw[h]at hr;cases hr),fun j hj=>?_⟩
   by_cases hji:j=i
   ·subst hji;exact Tc hi pd hy H
   ·have h1:=H.2 j (ready_mono hj hji);obtain⟨hjun,oj,hoj,hall⟩:=mem_ready.1 hj;have hnot:∀e,e∈oj.after->Region.binds .any e=true->e.on≠i:=fun e he hb heq=>by
     have h1:=hall e he hb;have h0:=(mem_ready.1 hr).1;rw[heq]at h1;rcases AfP i listed.size with h'|h'
     ·simp[h']at h0 h1;rw[h0]at h1;cases h1
     ·simp[Ag6 h']at h1
    obtain⟨p4,p5⟩:=OZ hp hoj;have h2:=nO hoj (hfree j oj hoj hji hjun hnot) ps p4 p5 hQ hy h1;refine wpOpIn_mono (fun a' w' h3=>ih (listed.setIfInBounds j true) a' w' (fun k ok hk hki hun hno=>?_) (ready_mono hr (Ne.symm hji)) h3.1 ?_) h2
    ·refine hfree k ok hk hki ?_ hno
     by_cases hjk:j=k
     ·subst hjk;exact hjun
     ·rw[getD_set_ne true hjk]at hun;exact hun
    ·rw[Array.setIfInBounds_comm _ _ hji];exact h3.2
end
theorem nQ (hG:Bq G) {C:Ak} (hC:EK P G C) {fl:Bool} {ops:Array Oper} {listed:Array Bool} {st1:St} {tab:List (Nat×Oper×AG)} {pps:List Prop} (hT:SX P C fl ops listed st1 tab pps) (hps:all pps)
  (hchk:∀i o,ops[i]? = some o->(∀e,e∈o.after->Region.binds .any e=true->e.on<i)/\∀j oj d,j≠i->ops[j]? = some oj->oj.dst=some d->o.dst≠some d/\(d∈C7 ops o->if j<i then Hr o j=true else Hr oj i=true)/\(d∈Ho ops o->j<i))
  (noG:∀x,x∈st1.T->∀(j:Nat) (oj:Oper) d,ops[j]? = some oj->oj.dst=some d->x.2.by d=false) {L:List Nat} (S:Am P G (C8 tab L st1) a w env M X)
  (hcl:∀k ok ek,(k,ok,ek)∈tab->k∈L->∀f,f∈ok.after->Region.binds .any f=true->listed.getD f.on false=true\/f.on∈L) {j:Nat} {o:Oper} {e:AG} (hm:(j,o,e)∈tab) (hj:j ∉ L)
  (haf:∀f,f∈o.after->Region.binds .any f=true->listed.getD f.on false=true\/f.on∈L) :
  (Region.wanted o (yielded ops a.tmps)=true->GD P a o w (fun a' w'=>AQ P G (C8 tab (j::L) st1) a' w'))/\(¬ Region.wanted o (yielded ops a.tmps)=true->AQ P G (C8 tab (j::L) st1) (a.put o.dst undef) w):=by
 obtain⟨ho,hun,haft,stX,ps,hdr,hpp,tw,hX⟩:=hT.at_ j o e hm;obtain⟨hc1,hc2⟩:=hchk j o ho;have twM:=Pe tab L st1;have same:∀k ok ek,(k,ok,ek)∈tab->∀ok' ek',(k,ok',ek')∈tab->ok=ok':=fun k ok ek h1 ok' ek' h2=>by
  have e1:=(hT.at_ k ok ek h1).1;have e2:=(hT.at_ k ok' ek' h2).1;rw[e1]at e2;exact AgF e2
 -- entries of operations that are done
 have done:∀k ok ek d,(k,ok,ek)∈tab->k∈L->ok.dst=some d->(d,ek)∈(C8 tab L st1).T:=fun k ok ek d h1 h2 h3 =>
  SZ h1 h2 h3 hT.inc (fun j' oj' ej' h4 hlt=>by
   obtain⟨p1,p2⟩:=hchk k ok (hT.at_ _ _ _ h1).1;refine⟨fun h5=>?_,fun d' h5=>?_⟩
   ·exact(p2 j' oj' d (by omega) (hT.at_ _ _ _ h4).1 h5).1 h3
   ·cases hb:ek.by d' with
    |false=>rfl
    |true =>
      obtain⟨_,_,_,sx,qs,hd',_⟩:=hT.at_ _ _ _ h1;have hg:=SU hd' d' hb;have:=(p2 j' oj' d' (by omega) (hT.at_ _ _ _ h4).1 h5).2.2 hg;omega)
 have hsub:∀x,x∈(stX.only (C7 ops o)).T->x∈(C8 tab L st1).T:=fun x hx=>by
  obtain⟨h1,h2⟩:=Afh.1 hx;have hsl:x.1∈C7 ops o:=Afq.1 h2;rcases hX x h1 with ⟨q1,q2⟩|⟨k,ok,ek,q1,q2,q3,q4⟩
  ·refine MP q1 (fun k ok ek hk hkL=>⟨fun hd=>?_,fun d hd=>noG x q1 k ok d (hT.at_ _ _ _ hk).1 hd⟩);have hne:k≠j:=fun e=>hj (e ▸ hkL);have h3:=(hc2 k ok x.1 hne (hT.at_ _ _ _ hk).1 hd).2.1 hsl;split at h3
   ·rename_i hlt;exact q2 k ok ek hk hlt hd
   ·obtain⟨f,f1,f2,f3⟩:=IX h3;rcases hcl k ok ek hk hkL f f1 f2 with h4|h4
    ·rw[f3,hun]at h4;cases h4
    ·rw[f3]at h4;exact hj h4
  ·obtain⟨x1,x2⟩:=x;have q3:ok.dst=some x1:=q3;have q4:x2=ek:=q4;subst q4;have h3:=(hc2 k ok x1 (by omega) (hT.at_ _ _ _ q1).1 q3).2.1 hsl;rw[if_pos q2]at h3;obtain⟨f,f1,f2,f3⟩:=IX h3;have hkL:k∈L:=by
    rcases haf f f1 f2 with h4|h4
    ·rw[f3,(hT.at_ _ _ _ q1).2.1]at h4;cases h4
    ·rw[f3]at h4;exact h4
   exact done k ok x2 x1 q1 hkL q3
 have hown:(stX.only (C7 ops o)).own=(C8 tab L st1).own:=tw.1.trans twM.1.symm;have S0:Am P G (stX.only (C7 ops o)) a w env M X:=S.sub hsub (fun x hx=>by rw[hown]at hx;exact hx) (by rw[hown];exact S.nod) (tw.2.1.trans twM.2.1.symm) (tw.2.2.2.trans twM.2.2.2.symm);have hnt:stX.nt=(C8 tab L st1).nt:=tw.2.2.2.trans twM.2.2.2.symm
 -- the next state
 have fin:∀a' w',AQ P G ((C8 tab L st1).put o.dst e) a' w'->AQ P G (C8 tab (j::L) st1) a' w':=fun a' w' ⟨env',M',X',S'⟩=>by
  have twJ:=Pe tab (j::L) st1;have twP:=DQ.put (C8 tab L st1) o.dst e;have eo:(C8 tab (j::L) st1).own=((C8 tab L st1).put o.dst e).own:=twJ.1.trans ((twM.trans twP).1).symm;refine⟨env',M',X',S'.sub (fun x hx=>?_) (fun x hx=>by rw[eo]at hx;exact hx) (by rw[eo];exact S'.nod) (twJ.2.1.trans ((twM.trans twP).2.1).symm) (twJ.2.2.2.trans ((twM.trans twP).2.2.2).symm)⟩;rcases SY hx with ⟨h1,h2⟩|⟨k,ok,ek,h1,h2,h3,h4⟩
  ·refine Ig (MP h1 (fun k ok ek hk hkL=>⟨h2 k ok ek hk (Afn _ hkL),fun d hd=>noG x h1 k ok d (hT.at_ _ _ _ hk).1 hd⟩)) (h2 j o e hm (Afs ..)) (fun d hd=>noG x h1 j o d ho hd)
  ·obtain⟨x1,x2⟩:=x;have h3:ok.dst=some x1:=h3;have h4:x2=ek:=h4;subst h4;rcases Afk.1 h2 with rfl|h2
   ·obtain rfl:=same _ _ _ hm _ _ h1;have:e=x2:=by
     have:=hT.inc;obtain⟨i1,hi1,e1⟩:=Af9 hm;obtain⟨i2,hi2,e2⟩:=Af9 h1;have hpw:=List.pairwise_iff_getElem.1 this;rcases Nat.lt_trichotomy i1 i2 with hlt|rfl|hlt
     ·have:=hpw i1 i2 (by simpa using hi1) (by simpa using hi2) hlt;simp[e1,e2]at this
     ·rw[e1]at e2;simp at e2;exact e2
     ·have:=hpw i2 i1 (by simpa using hi2) (by simpa using hi1) hlt;simp[e1,e2]at this
    subst this;rw[h3];exact JN
   ·refine Ig (done k ok x2 x1 h1 h2 h3) ?_ (fun d hd=>?_)
    ·have hne:k≠j:=fun e=>hj (e ▸ h2);exact(hc2 k ok x1 hne (hT.at_ _ _ _ h1).1 h3).1
    ·cases hb:x2.by d with
     |false=>rfl
     |true =>
       obtain⟨p1,p2⟩:=hchk k ok (hT.at_ _ _ _ h1).1;obtain⟨_,_,_,sx,qs,hd',_⟩:=hT.at_ _ _ _ h1;have hg:=SU hd' d hb;have hne:j≠k:=fun e=>hj (e ▸ h2);obtain⟨_,g1,g2⟩:=p2 j o d hne ho hd;have hlt:=g2 hg;have h5:=g1 (by unfold C7;exact AfL _ hg);rw[if_pos hlt]at h5;obtain⟨f,f1,f2,f3⟩:=IX h5;rcases hcl k ok x2 h1 h2 f f1 f2 with h6|h6
       ·rw[f3,hun]at h6;cases h6
       ·rw[f3]at h6;exact absurd h6 hj
 obtain⟨s1,s2,s3⟩:=SP hdr;obtain⟨k1,k2⟩:=SC hG hC s3 s1 (fun p hp=>hps p (hpp p hp)) (st2:=C8 tab L st1) hnt.symm S0 S (fun d o' h=>by rw[s2]at h;cases h);rw[s2,MG]at k1 k2;exact⟨fun hw=>MM (k1 hw) fin,fun hw=>fin _ _ (k2 hw)⟩
theorem Te:∀(tab:List (Nat×Oper×AG)) (st:St),C8 tab [] st=st
 |[],_=>rfl
 |(i,o,e)::l,st=>by simp only[C8];exact Te l st
theorem Tf {ops:Array Oper} {listed:Array Bool} (hsz:listed.size=ops.size) (hlt:∀i o,ops[i]? = some o->∀e,e∈o.after->Region.binds .any e=true->e.on<i) (h:Region.ready .any ops listed = []):∀i,i<ops.size->listed.getD i false=true:=by
 intro i
 induction i using Nat.strongRecOn with
 |_ i ih =>
   intro hi;cases hx:listed.getD i false with
   |true=>rfl
   |false =>
     exfalso;have ho:ops[i]? = some ops[i]:=rN hi;have:i∈Region.ready .any ops listed:=mem_ready.2 ⟨by
      rw[LS,rN (by omega)]at hx ⊢;exact hx,ops[i],ho,fun e he hb=>ih e.on (hlt i _ ho e he hb) (by have:=hlt i _ ho e he hb;omega)⟩
     rw[h]at this;cases this
theorem MR {l:Array Bool} {i:Nat} (h:i<l.size):l.getD i true=l.getD i false:=by
 rw[LS,LS,rN h];rfl
theorem nR (hG:Bq G) {C:Ak} (hC:EK P G C) {fl:Bool} {ro:Option Nat} {n:Nat} {ops:Array Oper} {Q:Exit->Act->World->Prop} {K:St->Prop} (hK:∀st a w,K st->AQ P G st a w->Q .normal a w) (hQ:∀c a w,¬ Q (.panic c) a w) :
  ∀(fuel:Nat) (listed:Array Bool) (st:St) (a:Act) (w:World),HE P C fl ops fuel listed st K->AQ P G st a w->listed.size=ops.size->∀f,Ey ops.size listed<=f->wpAnyIn (W ro) n P .any ops Q f listed a w:=by
 intro fuel
 induction fuel with
 |zero =>
   intro listed st a w h hs _ f _;unfold HE at h;split at h
   ·rename_i hr;exact wpAnyIn_done hr (hK _ _ _ h hs) f
   ·exact h.elim
 |succ fuel ih =>
   intro listed st a w h hs hsz f hf;unfold HE at h;split at h
   ·rename_i hr;exact wpAnyIn_done hr (hK _ _ _ h hs) f
   rename_i i0 l0 hr;have hlow:∀{i},i∈Region.ready .any ops listed->i<ops.size/\listed.getD i false=false:=fun {i} hi=>by
    obtain⟨h1,o,h2,_⟩:=mem_ready.1 hi;have hlt:=(Afv.1 h2).1;exact⟨hlt,by rw[<- MR (by omega)];exact h1⟩
   have hstep:∀{i},i∈Region.ready .any ops listed->Ey ops.size (listed.setIfInBounds i true)<Ey ops.size listed:=fun {i} hi=>by
    obtain⟨h1,h2⟩:=hlow hi;exact IZ h1 (by omega) h2
   obtain⟨f,rfl⟩:∃f',f=f'+1:=⟨f-1,by have:=hstep (i:=i0) (by rw[hr];exact Afs ..);omega⟩;split at h
   ·-- something that may as well be done first
    rename_i i r hfw;split at hfw;rotate_left
    ·cases hfw
    rename_i hpl;obtain⟨him,o,ho,hfree,hr2⟩:=SS hfw;rw[<- hr]at him;have ho':ops[i]? = some o:=by simpa using ho
    have hsz':(listed.setIfInBounds i true).size=ops.size:=by rw[AgG];exact hsz
    have hun:Ey ops.size (listed.setIfInBounds i true)<=f:=by have:=hstep him;omega
    have hfs:=Region.free_spec ho' hfree;rcases hr2 with ⟨rfl,hm⟩|⟨⟨ps,e⟩,rfl,hd⟩
    ·simp only[ho]at h;obtain⟨⟨d,s⟩,hm⟩:=Option.isSome_iff_exists.1 hm;obtain⟨env,M,X,S⟩:=hs;obtain⟨k1,_⟩:=OW hG hC h S;have hw:=OX (ops:=ops) (a:=a) hm;obtain⟨u,hu,st',hk,hs'⟩:=SK (k1 hw) hm;obtain⟨_,hdst,_⟩:=JP hm;exact Td ho' hpl hQ f listed a w hfs him (v:=u) (.inl ⟨hw,hu⟩) (by rw[hdst];exact ih _ _ _ _ hk hs' hsz' f hun)
    ·simp only[ho]at h;obtain⟨hps,h⟩:=Bz h;obtain⟨env,M,X,S⟩:=hs;obtain⟨v,hy,S'⟩:=nN S hd hps;exact Td ho' hpl hQ f listed a w hfs him hy (ih _ _ _ _ h ⟨env,M,X,S'⟩ hsz' f hun)
   ·-- those that read and compute,those that do more
    split at h;rotate_left
    ·exact h.elim
    rename_i hchk0;have hchk:=fun i o (hi:ops[i]? = some o)=>OU ops.toList 0 hchk0 i o (by simpa using hi);simp only[AfD]at hchk;have hchk:∀i o,ops[i]? = some o->(∀e,e∈o.after->Region.binds .any e=true->e.on<i)/\∀j oj d,j≠i->ops[j]? = some oj->oj.dst=some d->o.dst≠some d/\(d∈C7 ops o->if j<i then Hr o j=true else Hr oj i=true)/\(d∈Ho ops o->j<i):=
     fun i o hi=>⟨(hchk i o hi).1,fun j oj d hne hj hd=>(hchk i o hi).2 j oj d hne (by simpa using hj) hd⟩
    split at h;rename_i ps tab hgo;obtain⟨hps,h⟩:=Bz h;generalize hst1:st.noGuards ops.toList=st1 at *;have hs1:AQ P G st1 a w:=by
     obtain⟨env,M,X,S⟩:=hs;rw[<- hst1];exact⟨env,M,X,S.sub (fun x hx=>(Afh.1 hx).1) (fun _ hx=>hx) S.nod rfl rfl⟩
    have noG:∀x,x∈st1.T->∀(j:Nat) (oj:Oper) d,ops[j]? = some oj->oj.dst=some d->x.2.by d=false:=fun x hx j oj d hj hd=>by
     rw[<- hst1]at hx;have h1:=(Afh.1 hx).2;simp only[AfA,List.any_eq_false]at h1;have:=h1 oj (List.mem_of_getElem? (by simpa using hj));rw[hd]at this;simpa using this
    obtain⟨t1,t2⟩:=Pd (P:=P) (C:=C) (fl:=fl) (ops:=ops) (listed:=listed) (st:=st1) ops.toList 0 st1 [] [] ps tab hgo (fun k o hk=>by rw[AfD];simpa using hk) (fun k=>by simp) (fun k ok ek hm=>by simp at hm) ⟨rfl,rfl,rfl,rfl⟩ (fun x hx=>.inl ⟨hx,fun k ok ek hm=>by simp at hm⟩);have hT:SX P C fl ops listed st1 tab ps:=⟨fun i o e hm=>by
     obtain⟨_,q1,q2,q3,q4⟩:=t1 i o e hm;exact⟨q1,q2,by simpa using q3,by simpa using q4⟩,t2⟩
    obtain⟨env,M,X,S1⟩:=hs1
    -- the invariant: L is done
    have key : ∀(m:Nat) (L : List Nat) (lc : Array Bool) (a : Act) (w : World) (env : As) (M X : Nat->Prop) (f:Nat), Ey ops.size lc<=m->Am P G (C8 tab L st1) a w env M X->(∀k, k∈L->k∈tab.map (·.1)) ->
      (∀k ok ek,(k,ok,ek)∈tab->k∈L->∀f,f∈ok.after->Region.binds .any f=true->listed.getD f.on false=true\/f.on∈L)->lc.size=ops.size->(∀j,j<ops.size->lc.getD j false=(listed.getD j false||L.contains j))->Ey ops.size lc<=f->Ey ops.size lc<=Ey ops.size listed ->
      wpAnyIn (W ro) n P .any ops Q f lc a w:=by
     intro m
     induction m with
     |zero =>
       intro L lc a w env M X f hm SL hLD hcl hlsz hlc hf hle;have hr0:Region.ready .any ops lc = []:=by
        cases hx:Region.ready .any ops lc with
        |nil=>rfl
        |cons j l =>
          obtain⟨q1,o,q2,_⟩:=mem_ready.1 (show j∈Region.ready .any ops lc by rw[hx];exact Afs ..);have hlt:=(Afv.1 q2).1;have:=IZ (listed:=lc) hlt (by omega) (by rw[<- MR (by omega)];exact q1);omega
       exact wpAnyIn_done hr0 (by
        have hall:=Tf hlsz (fun i o hi=>(hchk i o hi).1) hr0;have hin:∀j,j<ops.size->listed.getD j false=true\/j∈L:=fun j hj=>by
         have:=hall j hj;rw[hlc j hj,AfE]at this;exact this.imp id Afq.1
        split at h
        ·split at h
         ·refine hK _ _ _ h ⟨env,M,X,?_⟩;rw[MQ (L':=L) (fun k hk=>⟨fun _=>?_,fun hk'=>hLD k hk'⟩)]
          ·exact SL
          ·obtain⟨⟨k',o,e⟩,hm',rfl⟩:=Afi.1 hk;have:=hT.at_ _ _ _ hm';rcases hin k' (Afv.1 this.1).1 with h5|h5
           ·rw[this.2.1]at h5;cases h5
           ·exact h5
         ·exact h.elim
        ·rename_i j l hoth;exfalso;have hj:j∈MO ops listed (tab.map (·.1)):=by rw[hoth];exact Afs ..
         obtain⟨h5,h6⟩:=Afh.1 hj;simp only[nT,AfA]at h6;rcases hin j (Afl.1 h5)with h7|h7
         ·rw[h6.1.1]at h7;cases h7
         ·have:=Afq.2 (hLD j h7);rw[h6.1.2]at this;cases this) f
     |succ m ihm =>
       intro L lc a w env M X f hm SL hLD hcl hlsz hlc hf hle;have fin:Region.ready .any ops lc = []->Q .normal a w:=fun hr0=>by
        have hall:=Tf hlsz (fun i o hi=>(hchk i o hi).1) hr0;have hin:∀j,j<ops.size->listed.getD j false=true\/j∈L:=fun j hj=>by
         have:=hall j hj;rw[hlc j hj,AfE]at this;exact this.imp id Afq.1
        split at h
        ·split at h
         ·refine hK _ _ _ h ⟨env,M,X,?_⟩;rw[MQ (L':=L) (fun k hk=>⟨fun _=>?_,fun hk'=>hLD k hk'⟩)]
          ·exact SL
          ·obtain⟨⟨k',o,e⟩,hm',rfl⟩:=Afi.1 hk;have:=hT.at_ _ _ _ hm';rcases hin k' (Afv.1 this.1).1 with h5|h5
           ·rw[this.2.1]at h5;cases h5
           ·exact h5
         ·exact h.elim
        ·rename_i j l hoth;exfalso;have hj:j∈MO ops listed (tab.map (·.1)):=by rw[hoth];exact Afs ..
         obtain⟨h5,h6⟩:=Afh.1 hj;simp only[nT,AfA]at h6;rcases hin j (Afl.1 h5)with h7|h7
         ·rw[h6.1.1]at h7;cases h7
         ·have:=Afq.2 (hLD j h7);rw[h6.1.2]at this;cases this
       cases f with
       |zero =>
         have hr0:Region.ready .any ops lc = []:=by
          cases hx:Region.ready .any ops lc with
          |nil=>rfl
          |cons j l =>
            obtain⟨q1,o,q2,_⟩:=mem_ready.1 (show j∈Region.ready .any ops lc by rw[hx];exact Afs ..);have hlt:=(Afv.1 q2).1;have:=IZ (listed:=lc) hlt (by omega) (by rw[<- MR (by omega)];exact q1);omega
         exact⟨hr0,fin hr0⟩
       |succ f =>
         refine⟨fin,fun j hj=>?_⟩;obtain⟨q1,o,ho,haf⟩:=mem_ready.1 hj;have hjs:=(Afv.1 ho).1;have hjf:lc.getD j false=false:=by rw[<- MR (by omega)];exact q1
         have hdec:=IZ hjs (by omega) hjf;have hjn:=hjf;rw[hlc j hjs,Bool.or_eq_false_iff]at hjn;have hjL:j ∉ L:=fun hx=>by rw[Afq.2 hx]at hjn;exact absurd hjn.2 (by decide)
         have haf':∀f,f∈o.after->Region.binds .any f=true->listed.getD f.on false=true\/f.on∈L:=fun f hf hb=>by
          have h5:=haf f hf hb;have h6:=(hchk j o ho).1 f hf hb;rw[hlc _ (by omega),AfE]at h5;exact h5.imp id Afq.1
         have hsz2:(lc.setIfInBounds j true).size=ops.size:=by rw[AgG];exact hlsz
         have hlc2:∀k,k<ops.size->(lc.setIfInBounds j true).getD k false=(listed.getD k false||(j::L).contains k):=fun k hk=>by
          by_cases hkj:k=j
          ·subst hkj;rw[Hs (by omega)];simp
          ·rw[HB hkj,hlc k hk];have:(j::L).contains k=L.contains k:=by simp[hkj]
           rw[this]
         unfold wpOpIn;rw[ho];simp only
         by_cases hjD:j∈tab.map (·.1)
         ·obtain⟨⟨j',o',e⟩,hm',rfl⟩:=Afi.1 hjD;have hoo:=(hT.at_ _ _ _ hm').1;simp only at ho hoo hjL hjs hdec hsz2 hlc2 ⊢;rw[ho]at hoo;obtain rfl:=AgF hoo;obtain⟨m1,m2⟩:=nQ hG hC hT hps hchk noG SL hcl hm' hjL haf';have next:∀a' w',AQ P G (C8 tab (j'::L) st1) a' w'->wpAnyIn (W ro) n P .any ops Q f (lc.setIfInBounds j' true) a' w':=fun a' w' ⟨env',M',X',S'⟩=>
           ihm (j'::L) _ a' w' env' M' X' f (by omega) S' (fun k hk=>by
            rcases Afk.1 hk with rfl|hk
            ·exact hjD
            ·exact hLD k hk) (fun k ok ek hk hkL f hf hb=>by
            rcases Afk.1 hkL with rfl|hkL
            ·have h5:=(hT.at_ _ _ _ hk).1;rw[ho]at h5;obtain rfl:=AgF h5;exact(haf' f hf hb).imp id (Afn _)
            ·exact(hcl k ok ek hk hkL f hf hb).imp id (Afn _)) hsz2 hlc2 (by omega) (by omega)
          split
          ·rename_i hw;exact MJ (N:=wpAnyIn (W ro) n P .any ops Q f (lc.setIfInBounds j' true)) (MM (m1 hw) next)
          ·rename_i hw;exact⟨fun _ _=>trivial,next _ _ (m2 hw)⟩
         ·have hoth : j∈MO ops listed (tab.map (·.1)):=by
           refine Afh.2 ⟨Afl.2 hjs,?_⟩;have h5:ops.toList[j]? = some o:=by simpa using ho
           rw[h5,hjn.1];simp only[Bool.not_false,Bool.true_and,nT,AfA];refine⟨?_,?_⟩
           ·cases hx:(tab.map (·.1)).contains j with
            |false=>rfl
            |true=>exact absurd (Afq.1 hx) hjD
           ·unfold Ja;rw[Agl];intro f hf;cases hb:Region.binds .any f with
            |false=>rfl
            |true =>
              simp only[Bool.not_true,Bool.false_or,AfE];exact(haf' f hf hb).imp id (fun h6=>Afq.2 (hLD _ h6))
          split at h
          ·rename_i hx;rw[hx]at hoth;cases hoth
          rename_i j1 l1 hx;rw[hx]at hoth;have hE:=SQ h j hoth;have h5:ops.toList[j]? = some o:=by simpa using ho
          rw[h5]at hE;simp only at hE;obtain⟨L', hL1, hL2⟩:=Pf (listed :=listed) (F :=Pc o) (q :=fun k =>L.contains k) tab [] (fun i oi ei hi hqi f hf hb =>by
            rcases hcl i oi ei hi (Afq.1 hqi) f hf hb with h6|h6
            ·exact .inl h6
            ·obtain⟨⟨k,ok,ek⟩,hk,hke⟩:=Afi.1 (hLD _ h6);exact .inr (.inr ⟨k,ok,ek,hk,by have:=(hchk i oi (hT.at_ _ _ _ hi).1).1 f hf hb;have hke:k=f.on:=hke;omega,hke,Afq.2 (by have hke:k=f.on:=hke;rw[hke];exact h6)⟩))
           (fun i oi ei hi hF=>by
            unfold Pc at hF;obtain⟨f,hf,rfl⟩:=Afi.1 hF;obtain⟨hf1,hf2⟩:=Afh.1 hf;rcases haf' f (by simpa using hf1) hf2 with h6|h6
            ·rw[(hT.at_ _ _ _ hi).2.1]at h6;cases h6
            ·exact Afq.2 h6) hT.inc
          have hE:=SR hE L' hL1;have hLL:∀k,k∈L'↔k∈L:=fun k=>by
           rw[hL2];constructor
           ·rintro(h6|⟨_,h6⟩)
            ·cases h6
            ·exact Afq.1 h6
           ·exact fun h6=>.inr ⟨hLD k h6,Afq.2 h6⟩
          rw[MQ (L':=L) (fun k _=>hLL k)]at hE;obtain⟨k1,k2⟩:=OW hG hC hE SL;have hset:HD listed (j::L')=lc.setIfInBounds j true:=by
           apply Array.ext
           ·rw[Ta,hsz2,hsz]
           ·intro k hk1 hk2;have hk:k<ops.size:=by omega
            have e1:=Tb (j::L') listed k (by omega);have e2:=hlc2 k hk;rw[LS,rN hk1]at e1;rw[LS,rN hk2]at e2;have e3:(j::L').contains k=(j::L).contains k:=by
             cases h6:(j::L').contains k<;>cases h7:(j::L).contains k<;>first|rfl|skip
             ·have:=Afq.1 h7;rw[Afk,<- hLL,<- Afk,<- Afq,h6]at this;cases this
             ·have:=Afq.1 h6;rw[Afk,hLL,<- Afk,<- Afq,h7]at this;cases this
            rw[e3]at e1;exact e1.trans e2.symm
          have next:∀a' w',(∃st',EI P C ops [] st' (fun st'=>HE P C fl ops fuel (HD listed (j::L')) st' K)/\AQ P G st' a' w')->wpAnyIn (W ro) n P .any ops Q f (lc.setIfInBounds j true) a' w':=fun a' w' ⟨st',hk,hs'⟩=>by
           rw[hset]at hk;exact ih _ st' a' w' hk hs' hsz2 f (by omega)
          split
          ·rename_i hw;have:=k1 hw;refine MJ (N:=wpAnyIn (W ro) n P .any ops Q f (lc.setIfInBounds j true)) ?_;exact MM this next
          ·rename_i hw;exact⟨fun _ _=>trivial,next _ _ (k2 hw)⟩
    have h0:C8 tab [] st1=st1:=Te tab st1;exact key _ [] listed a w env M X (f+1) (Afo _) (by rw[h0];exact S1) (fun k hk=>by cases hk) (fun k ok ek _ hk=>by cases hk) hsz (fun j _=>by simp) hf (Afo _)
theorem nS (hG:Bq G) {C:Ak} (hC:EK P G C) {fl:Bool} {ro:Option Nat} {n:Nat} {ops:Array Oper} {Q:Exit->Act->World->Prop} {K:St->Prop} (hK:∀st a w,K st->AQ P G st a w->Q .normal a w)
  (st:St) (a:Act) (w:World) (h:HE P C fl ops ops.size (AfR ops.size false) st K) (hs:AQ P G st a w):wpAnyIn (W ro) n P .any ops Q ops.size (AfR ops.size false) a w :=
 OY (Q':=fun e a w=>(∀c,e ≠ .panic c)/\Q e a w) (fun e a w h=>h.2) _ _ _ _
  (nR hG hC (fun st a w h hs=>⟨fun c h=>(by cases h),hK st a w h hs⟩) (fun c a w h=>h.1 c rfl) _ _ st a w h hs (by simp) _ (by
   unfold Ey;have:=List.length_filter_le (fun i=>!(AfR ops.size false).getD i false) (Afm ops.size);simpa using this))
end
def Tg:EV->Bool
 | .p (.raw (.slice none 0 0))=>true
 |_=>false
def Ii (r:Nat) (e:EV):EV:=if Tg e then .row r else e
def St.nilRow (st:St) (s r:Nat) (e:TypeId) (sz:Nat):St:=if decide (r<st.nt)&&(st.T.all fun x=>!(x.2.v.names r))&&st.noName r then
 { st with T:=st.T.map (fun x=>if x.1 == s then(x.1,{ x.2 with v:=Ii r x.2.v })else x),own:=(r,.row e sz 0 (fun _=>[]))::st.own.map (fun x=>if x.1 == s then(match x.2 with | .blk t cs=>(x.1,.blk t (cs.map (Ii r)))|o=>(x.1,o))else x) }else st
def St.nilRows (st:St):List (Nat×Nat×TypeId×Nat)->St
 |[]=>st
 |(s,r,e,sz)::l=>(st.nilRow s r e sz).nilRows l
def FY:Code->Nat
 | .region id _ _=>id
 | .seq a b=>match a with
   | .skip=>FY b
   |_=>FY a
 | .block _ b=>FY b
 | .loop b=>FY b
 | .scope b=>FY b
 | .cond _ a _=>FY a
 | .rangeFunc _ _ a _=>FY a
 |_=>0
def JS:List (Nat×AG)->Nat->Nat->Option AG
 |[],_,_=>none
 |(s,e)::l,t,j=>if s == t then(match j with|0=>some e|j+1=>JS l t j)else JS l t j
def MS (T:List (Nat×AG)):List Nat->List (Nat×AG)->List Prop
 |_,[]=>[]
 |seen,(s,e)::l=>(match e.g,JS T s (seen.count s)with
   |none,some ⟨none,v⟩=>fitE v e.v
   |_,_=>[False])++MS T (s::seen) l
def Jc (T l:List (Nat×AG)):List Prop:=MS T [] l
def AG.plain (e:AG):Bool:=e.g.isNone
def MT:List Prop->Prop
 |[]=>True
 |[p]=>p
 |p::ps=>p/\MT ps
def EG.keptT (I:EG) (st:St):List (Nat×AG):=st.T.filter fun x=>I.keep.contains x.1&&x.2.plain
def EG.keptO (I:EG) (st:St):List (Nat×Aq):=st.own.filter fun x=>I.keepO.contains x.1
def Pg (T:List (Nat×AG)):List (Nat×SV)->List Prop
 |[]=>[]
 |(s,v)::l=>(match Hf T s with
   |some ⟨none,.p u⟩=>H4 u v
   |_=>[False])++Pg T l
def EG.tied (I:EG) (st:St):EG:={ I with inv:=fun g=>By (Pg (I.keptT st) (I.tie g)) (I.inv g) }
def Dg.tied (I:Dg) (st:St):Dg:={ I with inv:=fun k g=>By (Pg (st.T.filter fun x=>I.keep.contains x.1&&x.2.plain) (I.tie g)) (I.inv k g) }
def EG.head (I:EG) (st:St) (g:I.T):St:={ st with T:=(I.chg g).map (fun x=>(x.1,⟨none,x.2⟩))++I.keptT st,own:=I.own g++I.keptO st,yk:=match I.yk with|none=>st.yk|some f=>f g }
def EG.fitY (I:EG) (st st':St) (g:I.T):List Prop:=(if st'.nt == st.nt then []else [False])++match I.yk with
 |none=>if st'.yk == st.yk&&st'.stop == st.stop then []else [False]
 |some f=>[st'.yk=f g,st'.stop=st.stop]
def Dg.keptT (I:Dg) (st:St):List (Nat×AG):=st.T.filter fun x=>I.keep.contains x.1&&x.2.plain
def Dg.keptO (I:Dg) (st:St):List (Nat×Aq):=st.own.filter fun x=>I.keepO.contains x.1
def Dg.head (I:Dg) (st:St) (k:Nat) (g:I.T):St:={ st with T:=I.keptT st,own:=I.own k g++I.keptO st }
def nU (vk:Nat->Value) (T:List (Nat×AG)):List (Nat×AG):=T.map fun x=>(x.1,⟨none,.p (.raw (vk x.1))⟩)
def JT:List Nat->List SV->List (Nat×AG)
 |p::ps,s::ss=>(p,⟨none,.p s⟩)::JT ps ss
 |_,_=>[]
def Dg.round (I:Dg) (st:St) (ps:List Nat) (ss:List SV) (k:Nat) (g:I.T) (vk:Nat->Value):St:={ I.head st k g with T:=JT ps ss++I.keptT st++nU vk (I.keptT st) }
def Th (e:AG):Bool:=match e with
 |⟨none,.p (.raw _)⟩=>true
 |_=>false
def JU (T:List (Nat×AG)) (vk:Nat->Value):List (Nat×AG)->List Prop
 |[]=>[]
 |(s,_)::l=>(match T.reverse.find? (fun x=>x.1 == s&&Th x.2)with
   |some (_,⟨_,.p (.raw v)⟩)=>[v=vk s]
   |_=>[False])++JU T vk l
def Ti (st st':St):List Prop:=if st'.nt == st.nt&&st'.yk == st.yk&&st'.stop == st.stop then []else [False]
def Dg.fitK (I:Dg) (st st':St) (vk:Nat->Value):List Prop:=Ti st st'++Jc st'.T (I.keptT st)++JU st'.T vk (I.keptT st)
def Dg.left (I:Dg) (st st':St) (ks:List Nat):St:={ st with T:=I.keptT st,own:=st'.own.filter fun x=>ks.contains x.1 }
def vc (P:Program) (C:Ak):Code->St->(Exit->St->Prop)->Prop
 | .skip,st,K=>K .normal st
 | .label _,st,K=>K .normal st
 | .exit id,st,K=>K (.exit id) st
 | .goto l,st,K=>K (.goto l) st
 | .ret,st,K=>K .ret st
 | .region id ops draw,st,K=>if draw then(if C.anys.contains id||C.anys.contains (id+1000)then HE P C (C.anys.contains (id+1000)) ops ops.size (AfR ops.size false) (((st.rekeys (C.rek id)).frzs (C.frz id)).nilRows (C.nils id)) (K .normal)else MF P C ops (((st.rekeys (C.rek id)).frzs (C.frz id)).nilRows (C.nils id)) (K .normal))else EI P C ops ops.toList (((st.rekeys (C.rek id)).frzs (C.frz id)).nilRows (C.nils id)) (K .normal)
 | .seq x y,st,K=>match C.joins (FY y)with
   |none=>vc P C x st fun e st'=>match e with
     | .normal=>vc P C y st' K
     |e=>K e st'
   |some I0=>(fun I=>(vc P C x st fun e st'=>match e with
     | .normal=>∃g:I.T,By (I.fitY st st' g++Jc st'.T (I.head st g).T++EH st'.own (I.head st g).own) (I.inv g)
     |e=>K e st')/\∀g:I.T,I.inv g->if Dh ((I.own g++I.keptO st).map (·.1))then vc P C y (I.head st g) K else False) (I0.tied st)
 | .cond c x y,st,K=>match st.rho none c with
   |some (.p (.bool b))=>(b=true->vc P C x st K)/\(b=false->vc P C y st K)
   |_=>False
 | .block id c,st,K=>vc P C c st fun e st'=>match e with
   | .exit id'=>if id'=id then K .normal st' else K (.exit id') st'
   |e=>K e st'
 | .loop c,st,K=>match C.loops (FY c)with
   |none=>False
   |some I0 =>(fun st =>(fun I =>(∃g : I.T, By (I.fitY st st g++Jc st.T ((I.chg g).map fun x =>(x.1, ⟨none, x.2⟩))++EH st.own (I.own g)) (I.inv g)) /\
    ∀g:I.T,I.inv g->if Dh ((I.own g++I.keptO st).map (·.1))then(vc P C c (I.head st g) fun e st'=>match e with
      | .normal=>∃g':I.T,By (I.fitY st st' g'++Jc st'.T (I.head st g').T++EH st'.own (I.head st g').own) (I.inv g'/\I.mu g'<I.mu g)
      |e=>K e st')else False) (I0.tied st)) (st.nilRows (C.nilsL (FY c)))
 | .rangeFunc f ps a b,st,K=>match st.rho none f with
   |some (.p (.clo g caps))=>match C.iters g,C.rfs (FY a)with
     |some it, some I0 =>(fun I =>if C.yld.isNone&&(I.keptT st).all (fun x => !(ps.toList.contains x.1))&&Dh ps.toList&&ps.toList.all (fun p =>decide (p<st.nt))then
       (it.pre caps/\∃t:I.T,By (EH st.own (I.own 0 t++I.keptO st)) (I.inv 0 t)) /\
       (∀(k:Nat) (t:I.T) (vk:Nat->Value),k<it.cnt caps->I.inv k t->if Dh (Be (I.own k t++I.keptO st))&&(it.item caps k).length == ps.size&&Dn.noMems (it.item caps k)then
        vc P C a (I.round st ps.toList (it.item caps k) k t vk) (fun e st1=>match e with
         | .normal=>vc P C b st1 (fun e st'=>match e with
           | .normal=>∃t':I.T,By (I.fitK st st' vk++EH st'.own (I.own (k+1) t'++I.keptO st)) (I.inv (k+1) t')
           | .ret=>By (I.fitK st st' vk) (K .ret (I.left st st' (Be (I.own k t++I.keptO st))))
           | .exit id=>By (I.fitK st st' vk) (K (.exit id) (I.left st st' (Be (I.own k t++I.keptO st))))
           | .goto l=>By (I.fitK st st' vk) (K (.goto l) (I.left st st' (Be (I.own k t++I.keptO st))))
           |_=>False)
         |_=>False)else False) /\
       (∀t:I.T,I.inv (it.cnt caps) t->if Dh (Be (I.own (it.cnt caps) t++I.keptO st))then K .normal (I.head st (it.cnt caps) t)else False)
      else False) (I0.tied st)
     |_,_=>False
   |_=>False
 |_,_,_=>False
section
variable {P:Program} {M:Nat->Prop} {w:World} {G:Bn} {st:St} {a:Act} {env:As} {X:Nat->Prop}
theorem Ph {e:AG} {t:Nat}:∀{l:List (Nat×AG)} {j:Nat},JS l t j=some e->(t,e)∈l
 |[],_,h=>by simp[JS]at h
 |(s,e')::l,j,h=>by
   simp only[JS]at h;split at h
   ·rename_i hs;simp at hs;subst hs;cases j with
    |zero=>cases h;simp
    |succ j=>exact Afn _ (Ph h)
   ·exact Afn _ (Ph h)
theorem Tj (S:Am P G st a w env M X):∀{l:List (Nat×AG)} {seen:List Nat},all (MS st.T seen l)->∀s e,(s,e)∈l->e.g=none/\s<st.nt/\Ar P M w env e.v (a.eval (.tmp s))
 |[],_,_,s,e,hm=>by cases hm
 |(s0,e0)::l,seen,h,s,e,hm=>by
   simp only[MS]at h;obtain⟨h1,h2⟩:=all_append h;rcases Afk.1 hm with hm|hm
   ·cases hm;split at h1
    ·rename_i v hg hl;obtain⟨a1,a2,_⟩:=S.tmp _ _ (Ph hl);exact⟨hg,a1,Hl h1 (a2 trivial)⟩
    ·exact(Ax h1).elim
   ·exact Tj S h2 s e hm
theorem MU (S:Am P G st a w env M X) {l:List (Nat×AG)} (h:all (Jc st.T l)):∀s e,(s,e)∈l->e.g=none/\s<st.nt/\Ar P M w env e.v (a.eval (.tmp s)):=Tj S h
theorem Am.refit (S:Am P G st a w env M X) {st2:St} (hT:∀s e,(s,e)∈st2.T->e.g=none/\s<st.nt/\Ar P M w env e.v (a.eval (.tmp s))) (hO:∀k o,(k,o)∈st2.own->(∃o',(k,o')∈st.own)/\B8 P M w env k o)
  (hn:(st2.own.map (·.1)).Nodup) (hy:st2.yk=st.yk) (hnt:st2.nt=st.nt):Am P G st2 a w env M X:=by
 refine⟨by rw[hy,hnt];exact S.gam,S.mx,fun k o h=>(hO k o h).2,?_,?_,hn,S.mlt,S.xlt,by rw[hnt];exact S.siz,?_,?_,?_,S.dno⟩
 ·intro k o h;obtain⟨o',h'⟩:=(hO k o h).1;exact S.oat _ _ h'
 ·intro k o k' o' h h';obtain⟨_,e1⟩:=(hO k o h).1;obtain⟨_,e2⟩:=(hO k' o' h').1;exact S.inj _ _ _ _ e1 e2
 ·intro s e h;obtain⟨h1,h2,h3⟩:=hT s e h;rw[hnt];exact⟨h2,fun _=>h3,fun hn=>absurd (Hj (by rw[h1];trivial)) hn⟩
 ·intro s e h q c v hq;rw[(hT s e h).1]at hq;cases hq
 ·intro d hd;obtain⟨D,e,h1,h2,h3,h4⟩:=S.dfr d hd;refine⟨D,e,h1,h2,h3,fun k o h=>?_⟩;obtain⟨_,e1⟩:=(hO k o h).1;exact h4 _ _ e1
theorem Tk {r:Nat} {e:EV} {v:Value} {env':As} (hr:env'.rv r=.slice none 0 0) (h:Ar P M w env' e v):Ar P M w env' (Ii r e) v:=by
 unfold Ii;split
 ·rename_i hn;unfold Tg at hn;split at hn
  ·cases h with
   |p h=>cases h;exact .row hr
  ·cases hn
 ·exact h
theorem Am.nilRow (S:Am P G st a w env M X) (s r:Nat) (e:TypeId) (sz:Nat):∃env',Am P G (st.nilRow s r e sz) a w env' M X:=by
 unfold St.nilRow;split;rotate_left
 ·exact⟨env,S⟩
 rename_i hc;simp only[nT,Afj,AfA,decide_eq_true_eq]at hc;obtain⟨⟨hrn,hT⟩,hO⟩:=hc;have hO':∀k o,(k,o)∈st.own->k≠r/\o.names r=false:=fun k o h=>by
  have:=Afj.1 hO (k,o) h;simpa using this
 let env':As:={ env with at_:=fun k=>if k=r then none else env.at_ k,rv:=fun k=>if k=r then .slice none 0 0 else env.rv k };have hat:∀k,k≠r->env'.at_ k=env.at_ k:=fun k h=>by simp[env',h]
 have hrv:∀k,k≠r->env'.rv k=env.rv k:=fun k h=>by simp[env',h]
 have hrr:env'.rv r=.slice none 0 0:=by simp[env']
 have har:env'.at_ r=none:=by simp[env']
 have den:∀{e v},e.names r=false->Ar P M w env e v->Ar P M w env' e v:=fun {e v} hn h=>h.mono (Bg.refl M w) (fun k hk=>by
  have:k≠r:=fun e'=>by rw[e',hn]at hk;cases hk
  exact⟨hat k this,hrv k this⟩) rfl
 -- an own thing,as it was
 have own1:∀k o,(k,o)∈st.own->B8 P M w env' k o:=fun k o h=>by
  obtain⟨hk,hn⟩:=hO' k o h;have h1:=S.own k o h;exact h1.move (Bg.refl M w) (hat k hk) (hrv k hk) (fun _ _=>rfl) (fun j hj=>by
   have:j≠r:=fun e=>by rw[e,hn]at hj;cases hj
   exact⟨hat j this,hrv j this⟩)
 have mem:∀k o,(k,o)∈st.own.map (fun x=>if x.1 == s then(match x.2 with | .blk t cs=>(x.1,Aq.blk t (cs.map (Ii r)))|o=>(x.1,o))else x)->(∃o',(k,o')∈st.own)/\B8 P M w env' k o:=fun k o h=>by
  obtain⟨⟨k',o'⟩,hm,he⟩:=Afi.1 h;have h1:=own1 k' o' hm;simp only at he;split at he
  ·cases o' with
   |blk t cs =>
     simp only[Afx]at he;obtain⟨rfl,rfl⟩:=he;refine⟨⟨_,hm⟩,?_⟩;obtain⟨g,vs,ha,hh,hz,hd⟩:=h1;refine⟨g,vs,ha,hh,by simpa using hz,fun i hi=>?_⟩;have hi':i<cs.length:=by simpa using hi
     refine⟨(hd i hi').1,?_⟩;have e1:EV.at (cs.map (Ii r)) i=Ii r (EV.at cs i):=by simp[EV.at,AS,hi']
     rw[e1];exact Tk hrr (hd i hi').2
   |_ =>
     simp only[Afx]at he;obtain⟨rfl,rfl⟩:=he;exact⟨⟨_,hm⟩,h1⟩
  ·simp only[Afx]at he;obtain⟨rfl,rfl⟩:=he;exact⟨⟨_,hm⟩,h1⟩
 have keys:(st.own.map (fun x=>if x.1 == s then(match x.2 with | .blk t cs=>(x.1,Aq.blk t (cs.map (Ii r)))|o=>(x.1,o))else x)).map (·.1)=st.own.map (·.1):=by
  rw[List.map_map];apply List.map_congr_left;rintro⟨k,o⟩ _;simp only[Function.comp];split
  ·cases o<;>rfl
  ·rfl
 refine⟨env',⟨S.gam.1,S.gam.2.but hrn (fun j hj=>⟨hat j hj,hrv j hj⟩)⟩,S.mx,?_,?_,?_,?_,S.mlt,S.xlt,S.siz,?_,?_,?_,S.dno⟩
 ·intro k o h;rcases Afk.1 h with h|h
  ·cases h;exact⟨Afg _,fun i hi=>by omega,.inl ⟨har,hrr,rfl⟩⟩
  ·exact(mem k o h).2
 ·intro k o h g hg;rcases Afk.1 h with h|h
  ·cases h;rw[har]at hg;cases hg
  ·obtain⟨o',ho'⟩:=(mem k o h).1;rw[hat k (hO' k o' ho').1]at hg;exact S.oat k o' ho' g hg
 ·intro k o k' o' h h' hne g hg;rcases Afk.1 h with h|h
  ·cases h;rw[har]at hg;cases hg
  ·rcases Afk.1 h' with h'|h'
   ·cases h';rw[har];simp
   ·obtain⟨q,hq⟩:=(mem k o h).1;obtain⟨q',hq'⟩:=(mem k' o' h').1;rw[hat k (hO' k q hq).1]at hg;rw[hat k' (hO' k' q' hq').1];exact S.inj k q k' q' hq hq' hne g hg
 ·simp only[AfU];refine Agk.2 ⟨fun hm=>?_,by have:=S.nod;rw[<- keys]at this;exact this⟩;obtain⟨⟨k,o⟩,hm',he⟩:=Afi.1 hm;obtain⟨o',ho'⟩:=(mem k o hm').1;exact(hO' k o' ho').1 he
 ·intro s' e' h;obtain⟨⟨s0,e0⟩,hm,he⟩:=Afi.1 h;obtain⟨h1,h2,h3⟩:=S.tmp s0 e0 hm;have hn:=hT _ hm;simp only at he;split at he
  ·simp only[Afx]at he;obtain⟨rfl,rfl⟩:=he;exact⟨h1,fun ho=>Tk hrr (den hn (h2 ho)),h3⟩
  ·simp only[Afx]at he;obtain⟨rfl,rfl⟩:=he;exact⟨h1,fun ho=>den hn (h2 ho),h3⟩
 ·intro s' e' h q c v hq;obtain⟨⟨s0,e0⟩,hm,he⟩:=Afi.1 h;simp only at he;split at he
  ·simp only[Afx]at he;obtain⟨rfl,rfl⟩:=he;exact S.grd s0 e0 hm q c v hq
  ·simp only[Afx]at he;obtain⟨rfl,rfl⟩:=he;exact S.grd s0 e0 hm q c v hq
 ·intro d hd;obtain⟨D,e0,q1,q2,q3,q4⟩:=S.dfr d hd;refine⟨D,e0,q1,q2,q3,fun k o h hg=>?_⟩;rcases Afk.1 h with h|h
  ·cases h;rw[har]at hg;cases hg
  ·obtain⟨o',ho'⟩:=(mem k o h).1;rw[hat k (hO' k o' ho').1]at hg;exact q4 k o' ho' hg
theorem AQ.nilRows:∀(l:List (Nat×Nat×TypeId×Nat)) {st:St},AQ P G st a w->AQ P G (st.nilRows l) a w
 |[],_,h=>h
 |(s,r,e,sz)::l,st,⟨env,M,X,S⟩=>by
   obtain⟨env',S'⟩:=S.nilRow s r e sz;exact AQ.nilRows l ⟨env',M,X,S'⟩
end
section
variable {P:Program} {G G':Bn} {M:Nat->Prop} {w:World} {st:St} {a:Act} {env:As} {X:Nat->Prop}
theorem Am.recast (S:Am P G st a w env M X) {w':World} {Y X':Nat->Prop} (hgam:G'.g st.yk X' w'/\HS G' env st.nt) (hm0:∀b,G.m0 b->G'.m0 b\/X' b) (hsz:w.heap.size<=w'.heap.size) (hblk:∀b,b<w.heap.size->¬ Y b->w'.heap[b]? = w.heap[b]?)
  (hYM:∀b,Y b->¬ M b) (hYO:∀k o,(k,o)∈st.own->∀g,env.at_ k=some g->¬ Y g) (hYD:∀D,({ target:=.collected D,args:=#[] }:Deferred)∈a.defers->¬ Y D) (hX:∀b,X b->X' b) (hXl:∀b,X' b->b<w'.heap.size) :
  Am P G' st a w' env M X':=by
 have hl:Bg M M w w':=⟨hsz,fun b hb=>hblk b (S.mlt b hb) (fun e=>hYM b e hb),fun _ h=>h⟩;refine⟨hgam,fun b h=>?_,?_,?_,S.inj,S.nod,fun b h=>Afp (S.mlt b h) hsz,hXl,S.siz,?_,S.grd,?_,S.dno⟩
 ·rcases S.mx b h with h|h
  ·exact hm0 b h
  ·exact .inr (hX b h)
 ·intro k o h;have h1:=S.own k o h;have h2:=S.oat k o h;exact h1.move hl rfl rfl (fun g' ha=>hblk g' (h2 g' ha).2.2 (hYO _ _ h g' ha)) (fun _ _=>⟨rfl,rfl⟩)
 ·intro k o h g hg;obtain⟨q1,q2,q3⟩:=S.oat k o h g hg;exact⟨hX g q1,q2,Afp q3 hsz⟩
 ·intro s e h;obtain⟨h1,h2,h3⟩:=S.tmp s e h;exact⟨h1,fun ho=>(h2 ho).later hl,h3⟩
 ·intro d h;obtain⟨D,e,q1,q2,q3,q4⟩:=S.dfr d h;exact⟨D,e,(hblk D (S.xlt D q2) (hYD D (e ▸ h))).trans q1,hX D q2,q3,q4⟩
structure RF where
 G:Bn
 a0:Act
 M0:Nat->Prop
 X0:Nat->Prop
 n0:Nat
 lp:Nat
 o:Bool
 rc:LoopState->Option Code->Loop
def RF.xp (R:RF) (w:World) (b:Nat):Prop:=R.X0 b\/(R.n0<=b/\b<w.heap.size)
def RF.Rec (R:RF) (s:LoopState) (p:Option Code) (w:World):Prop:=w.heap[R.lp]? = some (.loop (R.rc s p))/\(R.o=true->w.heap[R.n0]? = some (.deferred (some [])))
def RF.Core (P:Program) (R:RF) (stX:St) (s:LoopState) (p:Option Code) (Xit:Nat->Prop) (w:World):Prop :=
 ∃env M,Am P R.G stX R.a0 w env M (R.xp w)/\R.Rec s p w/\(∀b,Xit b->R.lp+1<=b/\¬ M b)/\¬ M R.n0/\¬ M (R.lp) /\
   (∀k o g,(k,o)∈stX.own->env.at_ k=some g->¬ R.M0 g/\¬ Xit g/\g≠R.n0/\g≠R.lp)
structure RF.Ok (R:RF):Prop where
 st:Bq R.G
 m0:∀b,R.M0 b->b<R.n0
 x0:∀b,R.X0 b->b<R.n0
 lp0:R.n0<=R.lp
 lpo:R.o=true->R.lp=R.n0+1
 df:∀D,({ target:=.collected D,args:=#[] }:Deferred)∈R.a0.defers->R.X0 D
theorem RF.Ok.dlt {R:RF} (h:R.Ok) (D:Nat) (hD:({ target:=.collected D,args:=#[] }:Deferred)∈R.a0.defers):D<R.n0:=h.x0 D (h.df D hD)
theorem JV {w:World} {b:Nat} {o:Obj} (h:w.heap[b]? = some o):b<w.heap.size:=(Afv.1 h).1
theorem RF.gstep {R:RF} (h:R.Ok) {k:Nat} {w w':World} (hg:R.G.g k (R.xp w) w) (_:R.n0<=w.heap.size) (hs:Same (R.xp w) w w'):R.G.g k (R.xp w') w' :=
 h.st k _ w _ w' hg hs (fun b hb=>hb.imp id (fun q=>⟨q.1,Afp q.2 hs.size⟩)) (fun b hb=>by
  rcases hb with hb|hb
  ·exact .inl (.inl hb)
  ·rcases AfP b w.heap.size with hlt|hge
   ·exact .inl (.inr ⟨hb.1,hlt⟩)
   ·exact .inr hge)
theorem RF.core_stable {R:RF} (h:R.Ok) {stX:St} {s:LoopState} {p:Option Code} {Xit Xit':Nat->Prop} {w w':World} (hc:R.Core P stX s p Xit w) (hs:Same Xit w w') (_:∀b,Xit b->Xit' b) (h2:∀b,Xit' b->Xit b\/w.heap.size<=b) :
  R.Core P stX s p Xit' w':=by
 obtain⟨env,M,S,⟨hr1,hr2⟩,hx,hd,hl,ho⟩:=hc;have hn1:=JV hr1;have hlp:=h.lp0;have hsame:Same (R.xp w) w w':=⟨hs.os,hs.tape,hs.output,hs.drawn,hs.size,fun b hb hnx=>hs.block b hb (fun e=>hnx (.inr ⟨by have:=(hx b e).1;omega,hb⟩))⟩;refine⟨env,M,S.recast (Y:=fun b=>Xit b) ⟨RF.gstep h S.gam.1 (by omega) hsame,S.gam.2⟩ (fun b hb=>.inl hb) hs.size (fun b hb hn=>hs.block b hb hn) (fun b hb=>(hx b hb).2) (fun k o hk g hg=>(ho k o g hk hg).2.1) (fun D hD hX=>by have:=h.dlt D hD;have:=(hx D hX).1;omega)
  (fun b hb=>hb.imp id (fun q=>⟨q.1,Afp q.2 hs.size⟩)) (fun b hb=>?_),⟨(hs.block _ hn1 (fun e=>by have:=(hx _ e).1;omega)).trans hr1,fun q=>(hs.block _ (by omega) (fun e=>by have:=(hx _ e).1;omega)).trans (hr2 q)⟩,fun b hb=>?_,hd,hl,fun k o g hk hg=>?_⟩
 ·rcases hb with hb|hb
  ·have:=h.x0 b hb;have:=hs.size;omega
  ·exact hb.2
 ·rcases h2 b hb with hb|hb
  ·exact hx b hb
  ·exact⟨by omega,fun hm=>by have:=S.mlt b hm;omega⟩
 ·obtain⟨q1,q2,q3,q4⟩:=ho k o g hk hg;refine⟨q1,fun e=>?_,q3,q4⟩;rcases h2 g e with e|e
  ·exact q2 e
  ·have:=(S.oat k o hk g hg).2.2;omega
def Tl:Exit->Code->Prop
 | .ret,c=>c=.ret
 | .exit id,c=>c=.exit id
 | .goto l,c=>c=.goto l
 |_,_=>False
def RF.J (P:Program) (R:RF) (I:Dg) (st:St) (cnt:Nat) (K:Exit->St->Prop):Bn :=
 { m0:=R.M0,g:=fun k Xit w=>(k<=cnt/\∃t,I.inv k t/\Dh (Be (I.own k t++I.keptO st))=true/\R.Core P (I.head st k t) .ready none Xit w)\/(k=cnt+1/\∃e c stJ,Tl e c/\K e stJ/\R.Core P stJ .done (some c) Xit w) }
theorem RF.J_stable {R:RF} (h:R.Ok) (I:Dg) (st:St) (cnt:Nat) (K:Exit->St->Prop):Bq (R.J P I st cnt K):=by
 intro k X w X' w' hg hs h1 h2;rcases hg with ⟨hk,t,hi,hn,hc⟩|⟨hk,e,c,stJ,hj,hK,hc⟩
 ·exact .inl ⟨hk,t,hi,hn,RF.core_stable h hc hs h1 h2⟩
 ·exact .inr ⟨hk,e,c,stJ,hj,hK,RF.core_stable h hc hs h1 h2⟩
def RF.B (R:RF) (s:LoopState) (M1 Xit:Nat->Prop) (wS:World):Bn :=
 { m0 :=M1, pin :=R.G.pin, pe :=R.G.pe, g :=fun yk X w =>R.G.g yk (R.xp w) w/\R.Rec s none w /\
  (∀b,X b->(R.X0 b\/R.n0<=b)/\¬ R.M0 b/\¬ Xit b/\b≠R.n0/\b≠R.lp/\(∀D,({ target:=.collected D,args:=#[] }:Deferred)∈R.a0.defers->b≠D)) /\
  (∀b,b<wS.heap.size->(R.M0 b\/Xit b)->w.heap[b]? = wS.heap[b]?)/\wS.heap.size<=w.heap.size /\
  (∀d,d∈R.a0.defers->∃D,d = { target:=.collected D,args:=#[] }/\w.heap[D]? = some (.deferred (some [])))/\(∀b,Xit b->b<wS.heap.size) }
theorem RF.B_stable {R:RF} (h:R.Ok) (s:LoopState) (M1 Xit:Nat->Prop) (wS:World):Bq (R.B s M1 Xit wS):=by
 intro k X w X' w' ⟨g1,⟨r1,r2⟩,g3,g4,g5,g6,g7⟩ hs h1 h2;have hn1:=JV r1;have hlp:=h.lp0;have hsame:∀b,b<w.heap.size->¬ R.xp w b->w'.heap[b]? = w.heap[b]?:=fun b hb hnx=>hs.block b hb (fun e=>hnx (by
  rcases(g3 b e).1 with q|q
  ·exact .inl q
  ·exact .inr ⟨q,hb⟩))
 refine⟨RF.gstep h g1 (by omega) ⟨hs.os,hs.tape,hs.output,hs.drawn,hs.size,hsame⟩,⟨(hs.block _ hn1 (fun e=>(g3 _ e).2.2.2.2.1 rfl)).trans r1,fun q=>(hs.block _ (by omega) (fun e=>(g3 _ e).2.2.2.1 rfl)).trans (r2 q)⟩,fun b hb=>?_,fun b hb hm=>?_,AfI g5 hs.size,fun d hd=>?_,g7⟩
 ·rcases h2 b hb with hb|hb
  ·exact g3 b hb
  ·refine⟨.inr (by omega),fun e=>by have:=h.m0 b e;omega,fun e=>by have:=g7 b e;omega,by omega,by omega,fun D hD=>?_⟩;have:=h.dlt D hD;omega
 ·exact(hs.block b (by omega) (fun e =>by
  rcases hm with hm|hm
  ·exact(g3 b e).2.1 hm
  ·exact(g3 b e).2.2.1 hm)).trans (g4 b hb hm)
 ·obtain⟨D,rfl,hD⟩:=g6 d hd;exact⟨D,rfl,(hs.block D (JV hD) (fun e=>(g3 D e).2.2.2.2.2 D hd rfl)).trans hD⟩
end
section
variable {P:Program} {G:Bn} {M:Nat->Prop} {w:World} {st:St} {a:Act} {env:As} {X:Nat->Prop}
def Gu (l:List (Nat×Value)) (t:Array Value):Array Value:=l.foldl (fun t x=>t.setIfInBounds x.1 x.2) t
theorem Tm:∀(l:List (Nat×Value)) (t:Array Value),(Gu l t).size=t.size
 |[],t=>rfl
 |x::l,t=>(Tm l _).trans (by simp)
theorem Pi:∀(ps:List Nat) (vs:List Value) (t:Array Value) (s:Nat),s ∉ ps->(Gu (ps.zip vs) t).getD s undef=t.getD s undef
 |[],vs,t,s,_=>by simp[Gu]
 |p::ps,[],t,s,_=>by simp[Gu]
 |p::ps,v::vs,t,s,h=>by
   have h1:s≠p:=fun e=>h (by simp[e]);have:=Pi ps vs (t.setIfInBounds p v) s (fun e=>h (by simp[e]));simp only[Gu,List.zip_cons_cons,List.foldl_cons]at this ⊢;rw[this];simp only[LS,Array.getElem?_setIfInBounds,if_neg (fun e=>h1 e.symm:¬ p=s)]
theorem nV (ps:Array Nat) (vs:List Value) (t:Array Value):(ps.zip vs.toArray).foldl (fun t (p,v)=>t.setIfInBounds p v) t=Gu (ps.toList.zip vs) t:=by
 rw[<- Array.foldl_toList];simp only[Array.toList_zip,Gu]
theorem Tn:∀(ps:List Nat) (ss:List SV) (vs:List Value) (t:Array Value),ss.length=ps.length->Bk (fun _=>False) w ss vs->Dh ps=true->(∀p,p∈ps->p<t.size) ->
  ∀s e,(s,e)∈JT ps ss->e.g=none/\s∈ps/\Ar P M w env e.v ((Gu (ps.zip vs) t).getD s undef)
 |[],_,_,_,_,_,_,_,s,e,h=>by simp[JT]at h
 |p::ps,[],_,_,_,_,_,_,s,e,h=>by simp[JT]at h
 |p::ps,x::ss,[],_,_,hd,_,_,s,e,h=>by simp[Bk]at hd
 |p::ps,x::ss,v::vs,t,hl,hd,hn,hp,s,e,h=>by
   simp only[Dh,nT,AfA,List.contains_eq_mem,decide_eq_false_iff_not]at hn;simp only[JT,Afk,Afx]at h;have hd':Bk (fun _=>False) w ss vs:=⟨by simpa using hd.1,fun i hi=>by simpa[SV.at]using hd.2 (i+1) (by simpa using hi)⟩;rcases h with ⟨rfl,rfl⟩|h
   ·refine⟨rfl,by simp,?_⟩;have e1:(Gu ((s::ps).zip (v::vs)) t)=Gu (ps.zip vs) (t.setIfInBounds s v):=rfl;rw[e1,Pi _ _ _ _ hn.1];have hlt:=hp s (by simp);have:(t.setIfInBounds s v).getD s undef=v:=by simp[LS,hlt]
    rw[this];have:=hd.2 0 (by simp);simp only[SV.at,AgV]at this;exact .p (this.weak (fun _ h=>h.elim))
   ·obtain⟨q1,q2,q3⟩:=Tn ps ss vs (t.setIfInBounds p v) (by simpa using hl) hd' hn.2 (fun q hq=>by simpa using hp q (by simp[hq])) s e h;exact⟨q1,by simp[q2],q3⟩
theorem RF.start {R:RF} (_:R.Ok) {I:Dg} {k:Nat} {t:I.T} {st:St} (_:∀d,d∈R.a0.defers->∃D,d = { target:=.collected D,args:=#[] }) {s:LoopState} {Xit:Nat->Prop} (hXl:∀b,Xit b->b<w.heap.size)
  {env:As} {M:Nat->Prop} (S:Am P R.G (I.head st k t) R.a0 w env M (R.xp w)) (hrec:R.Rec s none w) (ho:∀k' o g,(k',o)∈(I.head st k t).own->env.at_ k'=some g->¬ R.M0 g/\¬ Xit g/\g≠R.n0/\g≠R.lp)
  {ps:Array Nat} {ss:List SV} {vs:List Value} (hl:ss.length=ps.toList.length) (hd:Bk (fun _=>False) w ss vs) (hn:Dh ps.toList=true) (hp:∀p,p∈ps.toList->p<st.nt) (hk:∀x,x∈I.keptT st->x.1 ∉ ps.toList) :
  AQ P (R.B s M Xit w) (I.round st ps.toList ss k t (fun s=>R.a0.eval (.tmp s))) { tmps:=(ps.zip vs.toArray).foldl (fun t (p,v)=>t.setIfInBounds p v) R.a0.tmps,defers:=[] } w:=by
 rw[nV];have hsz:R.a0.tmps.size=st.nt:=S.siz;have plain:∀x,x∈I.keptT st->x.2.g=none:=fun x hx=>by
  have:=(Afh.1 hx).2;simp only[nT,AG.plain]at this;simpa using this.2
 have hev:∀s',s' ∉ ps.toList->({ tmps:=Gu (ps.toList.zip vs) R.a0.tmps,defers:=[] }:Act).eval (.tmp s')=R.a0.eval (.tmp s'):=fun s' h=>Pi _ _ _ _ h
 -- every entry
 have all3:∀s' e,(s',e)∈(I.round st ps.toList ss k t (fun s=>R.a0.eval (.tmp s))).T->e.g=none/\s'<st.nt/\Ar P M w env e.v (({ tmps:=Gu (ps.toList.zip vs) R.a0.tmps,defers:=[] }:Act).eval (.tmp s')):=by
  intro s' e h;rcases Afz.1 h with h|h
  ·rcases Afz.1 h with h|h
   ·obtain⟨q1,q2,q3⟩:=Tn (P:=P) (M:=M) (env:=env) ps.toList ss vs R.a0.tmps hl hd hn (fun p hp'=>by rw[hsz];exact hp p hp') s' e h;exact⟨q1,hp _ q2,q3⟩
   ·have hg:=plain _ h;obtain⟨q1,q2,_⟩:=S.tmp s' e h;rw[hev s' (hk _ h)];exact⟨hg,q1,q2 (Hj (by rw[hg];trivial))⟩
  ·obtain⟨⟨s0,e0⟩,hm,he⟩:=Afi.1 h;simp only[Afx]at he;obtain⟨rfl,rfl⟩:=he;obtain⟨q1,_,_⟩:=S.tmp s0 e0 hm;rw[hev s0 (hk _ hm)];exact⟨rfl,q1,.p (.raw _)⟩
 refine⟨env,M,fun g=>∃k' o,(k',o)∈(I.head st k t).own/\env.at_ k'=some g,?_⟩;refine⟨⟨⟨S.gam.1,hrec,?_,fun b _ _=>rfl,Afo _,?_,hXl⟩,S.gam.2⟩,fun b h=>.inl h,S.own,fun k' o h g hg=>⟨⟨k',o,h,hg⟩,(S.oat k' o h g hg).2⟩,S.inj,S.nod,S.mlt,?_,(Tm _ _).trans hsz,?_,?_,fun d h=>by simp at h,by simp⟩
 ·rintro b ⟨k',o,h,hg⟩;obtain⟨q1,q2,q3,q4⟩:=ho k' o b h hg;refine⟨(S.oat k' o h b hg).1.imp id (fun q=>q.1),q1,q2,q3,q4,fun D hD e=>?_⟩;obtain⟨D',e',_,_,_,q⟩:=S.dfr _ hD;have:D=D':=by simpa using e'
  subst this;exact q k' o h (e ▸ hg)
 ·intro d hd';obtain⟨D,e,q,_⟩:=S.dfr d hd';exact⟨D,e,q⟩
 ·rintro b ⟨k',o,h,hg⟩;exact(S.oat k' o h b hg).2.2
 ·intro s' e h;obtain⟨q1,q2,q3⟩:=all3 s' e h;exact⟨q2,fun _=>q3,fun hn'=>absurd (Hj (by rw[q1];trivial)) hn'⟩
 ·intro s' e h q c v hq;rw[(all3 s' e h).1]at hq;cases hq
theorem To (S:Am P G st a w env M X) {vk:Nat->Value}:∀{l:List (Nat×AG)},all (JU st.T vk l)->∀s e,(s,e)∈l->a.eval (.tmp s)=vk s
 |[],_,s,e,hm=>by cases hm
 |(s0,e0)::l,h,s,e,hm=>by
   simp only[JU]at h;obtain⟨h1,h2⟩:=all_append h;rcases Afk.1 hm with hm|hm
   ·cases hm;split at h1
    ·rename_i s1 g v hf;have hmem:=List.mem_of_find?_eq_some hf;have hprop:=List.find?_some hf;simp only[nT,beq_iff_eq]at hprop;obtain⟨rfl,hraw⟩:=hprop;have hg:g=none:=by cases g with|none=>rfl|some g=>simp[Th]at hraw
     subst hg;have:=(S.tmp _ _ (List.mem_reverse.1 hmem)).2.1 trivial;have hv:=Ax h1;rcases this with ⟨this⟩;rw[<- hv];generalize a.eval (.tmp s1)=u at this;cases this;rfl
    ·exact(Ax h1).elim
   ·exact To S h2 s e hm
theorem RF.finish {R:RF} (hR:R.Ok) {s s':LoopState} {p:Option Code} {M1 Xit:Nat->Prop} {wS:World} (hXit:∀b,Xit b->R.lp+1<=b/\¬ M1 b) (hMd:¬ M1 R.n0) (hMl:¬ M1 (R.lp)) (hMf:∀D,({ target:=.collected D,args:=#[] }:Deferred)∈R.a0.defers->¬ M1 D) (hM1:∀b,M1 b->R.G.m0 b\/R.xp wS b) (hdn:R.a0.defers.Nodup)
  {st st' stX:St} (hsiz:R.a0.tmps.size=st.nt) (S:Am P (R.B s M1 Xit wS) st' a w env M X) {L:List (Nat×AG)} (hTL:stX.T=L) (_:∀x,x∈L->x.2.g=none)
  (hT:all (Jc st'.T L)) (hP:all (JU st'.T (fun s=>R.a0.eval (.tmp s)) L)) (hO:∀k o,(k,o)∈stX.own->(∃o',(k,o')∈st'.own)/\B8 P M w env k o) (hn:(stX.own.map (·.1)).Nodup) (hy:stX.yk=st'.yk) (hnt:stX.nt=st'.nt) (hnt':stX.nt=st.nt) :
  R.Core P stX s' p Xit (w.putObj (R.lp) (.loop (R.rc s' p))):=by
 obtain⟨⟨g1,⟨r1,r2⟩,g3,g4,g5,g6,g7⟩,gpin⟩:=S.gam;have hn1:=JV r1;have hlp:=hR.lp0;have hMx:∀b,M b->b≠R.n0/\b≠R.lp/\¬ Xit b:=fun b hb=>by
  rcases S.mx b hb with h|h
  ·exact⟨fun e=>hMd (e ▸ h),fun e=>hMl (e ▸ h),fun e=>(hXit b e).2 h⟩
  ·exact⟨(g3 b h).2.2.2.1,(g3 b h).2.2.2.2.1,(g3 b h).2.2.1⟩
 have hblk:∀b,b≠R.lp->(w.putObj (R.lp) (.loop (R.rc s' p))).heap[b]? = w.heap[b]?:=fun b h=>World.putObj_heap_other h;have hsz:(w.putObj (R.lp) (.loop (R.rc s' p))).heap.size=w.heap.size:=by simp
 have hlater:Bg M M w (w.putObj (R.lp) (.loop (R.rc s' p))):=⟨by omega,fun b hb=>hblk b (hMx b hb).2.1,fun _ h=>h⟩;have hg2:R.G.g st'.yk (R.xp (w.putObj (R.lp) (.loop (R.rc s' p)))) (w.putObj (R.lp) (.loop (R.rc s' p))):=
  RF.gstep hR g1 (by omega) ⟨rfl,rfl,rfl,Afo _,by omega,fun b hb hx=>hblk b (fun e=>hx (.inr ⟨by omega,hb⟩))⟩
 have hown:∀k o,(k,o)∈stX.own->∀g,env.at_ k=some g->(R.X0 g\/R.n0<=g)/\¬ M g/\g<w.heap.size/\¬ R.M0 g/\¬ Xit g/\g≠R.n0/\g≠R.lp/\∀D,({ target:=.collected D,args:=#[] }:Deferred)∈R.a0.defers->g≠D:=fun k o h g hg=>by
  obtain⟨o',ho'⟩:=(hO k o h).1;obtain⟨q1,q2,q3⟩:=S.oat k o' ho' g hg;obtain⟨c1,c2,c3,c4,c5,c6⟩:=g3 g q1;exact⟨c1,q2,q3,c2,c3,c4,c5,c6⟩
 have tmpok:∀s0 e,(s0,e)∈stX.T->e.g=none/\s0<st'.nt/\Ar P M w env e.v (R.a0.eval (.tmp s0)):=fun s0 e h=>by
  rw[hTL]at h;obtain⟨q1,q2,q3⟩:=MU S hT s0 e h;rw[To S hP s0 e h]at q3;exact⟨q1,q2,q3⟩
 refine⟨env,M,⟨⟨by rw[hy];exact hg2,by rw[hnt];exact gpin⟩,fun b hb=>?_,?_,?_,?_,hn,fun b hb=>by rw[hsz];exact S.mlt b hb,fun b hb=>?_,by rw[hnt',hsiz],?_,?_,?_,hdn⟩,⟨World.putObj_heap_same hn1,fun q=>(hblk _ (by have:=hR.lpo q;omega)).trans (r2 q)⟩,fun b hb=>⟨(hXit b hb).1,fun hm=>(hMx b hm).2.2 hb⟩,fun hm=>(hMx _ hm).1 rfl,fun hm=>(hMx _ hm).2.1 rfl,fun k o g hk hg=>?_⟩
 ·rcases S.mx b hb with h|h
  ·rcases hM1 b h with h|h
   ·exact .inl h
   ·refine .inr (h.imp id (fun q=>⟨q.1,?_⟩));rw[hsz];omega
  ·have hlt:=S.xlt b h;exact .inr ((g3 b h).1.imp id (fun q=>⟨q,by rw[hsz];exact hlt⟩))
 ·intro k o h;have h1:=(hO k o h).2;have h2:=hown k o h;exact h1.move hlater rfl rfl (fun g' ha=>hblk g' (h2 g' ha).2.2.2.2.2.2.1) (fun _ _=>⟨rfl,rfl⟩)
 ·intro k o h g hg;obtain⟨c1,c2,c3,_⟩:=hown k o h g hg;exact⟨c1.imp id (fun q=>⟨q,by rw[hsz];exact c3⟩),c2,by rw[hsz];exact c3⟩
 ·intro k o k' o' h h';obtain⟨_,e1⟩:=(hO k o h).1;obtain⟨_,e2⟩:=(hO k' o' h').1;exact S.inj _ _ _ _ e1 e2
 ·rcases hb with hb|hb
  ·have:=hR.x0 b hb;rw[hsz];omega
  ·exact hb.2
 ·intro s0 e h;obtain⟨q1,q2,q3⟩:=tmpok s0 e h;exact⟨by rw[hnt];exact q2,fun _=>q3.later hlater,fun hn'=>absurd (Hj (by rw[q1];trivial)) hn'⟩
 ·intro s0 e h q c v hq;rw[(tmpok s0 e h).1]at hq;cases hq
 ·intro d hd;obtain⟨D,rfl,hD⟩:=g6 d hd;have hDn:=hR.dlt D hd;refine⟨D,rfl,(hblk D (by omega)).trans hD,?_,fun hm=>?_,fun k o h e=>(hown k o h D e).2.2.2.2.2.2.2 D hd rfl⟩
  ·exact .inl (hR.df D hd)
  ·rcases S.mx D hm with h|h
   ·exact hMf D hd h
   ·exact(g3 D h).2.2.2.2.2 D hd rfl
 ·obtain⟨_,_,_,c4,c5,c6,c7,_⟩:=hown k o hk g hg;exact⟨c4,c5,c6,c7⟩
end
section
variable {P:Program} {M:Nat->Prop} {w:World} {st:St} {env:As} {X:Nat->Prop}
def Lm (G:Bn) (ro:Option Nat):Prop:=∀l,ro=some l->∀k X w,G.g k X w->∃rc,w.heap[l]? = some (.loop rc)
theorem nW {G:Bn}:Lm G none:=fun l h=>by cases h
theorem RF.knows {R:RF} {s:LoopState} {M1 Xit:Nat->Prop} {wS:World}:Lm (R.B s M1 Xit wS) (some R.lp):=fun l h k X w g=>by
 cases h;exact⟨_,g.2.1.1⟩
def JW (P:Program) (C:Ak) (c:Code):Prop:=∀(G:Bn),Bq G->EK P G C->∀(ro:Option Nat) (n:Nat) (st:St) (K:Exit->St->Prop) (Q:Exit->Act->World->Prop),ro≠none->Lm G ro->vc P C c st K ->
 (∀e st' a' w',K e st'->AQ P G st' a' w'->Q e a' w')->∀a w,AQ P G st a w->c.wpIn (W ro) n P Q a w
def Tp (P:Program) (C:Ak) (I:Dg) (st:St) (ps:Array Nat) (cnt:Nat) (item:Nat->List SV) (a b:Code) (K:Exit->St->Prop) (k:Nat):Prop :=
 ∀(t:I.T) (vk:Nat->Value),k<cnt->I.inv k t->if Dh (Be (I.own k t++I.keptO st))&&(item k).length == ps.size&&Dn.noMems (item k)then
   vc P C a (I.round st ps.toList (item k) k t vk) (fun e st1=>match e with
    | .normal=>vc P C b st1 (fun e st'=>match e with
      | .normal=>∃t':I.T,By (I.fitK st st' vk++EH st'.own (I.own (k+1) t'++I.keptO st)) (I.inv (k+1) t')
      | .ret=>By (I.fitK st st' vk) (K .ret (I.left st st' (Be (I.own k t++I.keptO st))))
      | .exit id=>By (I.fitK st st' vk) (K (.exit id) (I.left st st' (Be (I.own k t++I.keptO st))))
      | .goto l=>By (I.fitK st st' vk) (K (.goto l) (I.left st st' (Be (I.own k t++I.keptO st))))
      |_=>False)
    |_=>False)else False
def nX (P:Program) (C:Ak) (I:Dg) (st:St) (ps:Array Nat) (cnt:Nat) (item:Nat->List SV) (a b:Code) (K:Exit->St->Prop):Prop:=∀k,Tp P C I st ps cnt item a b K k
theorem nY {I:Dg} {st st':St} {vk:Nat->Value} (h:all (I.fitK st st' vk)):st'.nt=st.nt/\st'.yk=st.yk/\all (Jc st'.T (I.keptT st))/\all (JU st'.T vk (I.keptT st)):=by
 obtain⟨h12,h3⟩:=all_append h;obtain⟨h1,h2⟩:=all_append h12;unfold Ti at h1;split at h1
 ·rename_i he;simp at he;exact⟨he.1.1,he.1.2,h2,h3⟩
 ·exact(Ax h1).elim
theorem RF.round_at {R:RF} (hR:R.Ok) {C:Ak} (hsp:∀f sp,C.specs f=some sp->Av P f sp/\Ao P f) (hcy:C.yld=none) (hit:J9 P C) {I:Dg} {ps:Array Nat} {cnt:Nat} {item:Nat->List SV} {a b:Code} {K:Exit->St->Prop} {fn dd:Nat}
  (hrc:R.rc=fun s p=>{ state:=s,pending:=p,fn:=fn,tmps:=R.a0.tmps,params:=ps,assign:=a,body:=b,defers:=dd }) (ha:JW P C a) (hb:JW P C b) {k:Nat} (hv:Tp P C I st ps cnt item a b K k)
  (hnd:∀k t,k<=cnt->I.inv k t->Dh (Be (I.own k t++I.keptO st))=true) (hn:Dh ps.toList=true) (hp:∀p,p∈ps.toList->p<st.nt) (hk:∀x,x∈I.keptT st->x.1 ∉ ps.toList) (hdn:R.a0.defers.Nodup) (hsiz:R.a0.tmps.size=st.nt)
  {Xit:Nat->Prop} {w:World} {vals:List Value} (hlt:k<cnt) {t:I.T} (hinv:I.inv k t) (hco:R.Core P (I.head st k t) .ready none Xit w) (hXl:∀b,Xit b->b<w.heap.size) (hd:Bk (fun _=>False) w (item k) vals) :
  ∃fn tmps assign body,(Instr.yield (R.lp) vals.toArray).run P w=.ok (.round (R.lp) fn tmps assign body) w /\
    RoundIn Fence.wide 0 P (R.lp) fn tmps assign body w (fun e w'=>∃b,e=.returned (.bool b)/\w.heap.size<=w'.heap.size/\(∀c,c<w.heap.size->((b=true/\R.M0 c)\/Xit c)->w'.heap[c]? = w.heap[c]?)/\(R.J P I st cnt K).g (if b then k+1 else cnt+1) Xit w'):=by
 obtain⟨env,M,S,hrec,hx,hMd,hMl,ho⟩:=hco;have hlp:=hR.lp0;have hv':=hv t (fun s=>R.a0.eval (.tmp s)) hlt hinv;split at hv';rotate_left
 ·exact hv'.elim
 rename_i hc;simp only[nT,beq_iff_eq]at hc;obtain⟨⟨_,hlen⟩,_⟩:=hc;have hdf:∀d,d∈R.a0.defers->∃D,d = { target:=.collected D,args:=#[] }:=fun d h=>by
  obtain⟨D,e,_⟩:=S.dfr d h;exact⟨D,e⟩
 have hMf:∀D,({ target:=.collected D,args:=#[] }:Deferred)∈R.a0.defers->¬ M D:=fun D h=>by
  obtain⟨D',e,_,_,q,_⟩:=S.dfr _ h;have:D=D':=by simpa using e
  subst this;exact q
 have hysz:vals.toArray.size=(R.rc .ready none).params.size:=by
  rw[hrc];have:=hd.1;simp only[List.size_toArray];omega
 have hyield:=run_yield (P:=P) hrec.1 hysz;have hplain:∀x,x∈I.keptT st->x.2.g=none:=fun x hx'=>by
  have:=(Afh.1 hx').2;simp only[nT,AG.plain]at this;simpa using this.2
 rw[hrc]at hyield;refine⟨_,_,_,_,hyield,roundIn_of_wpIn trivial ?_⟩;have hs0:AQ P (R.B .ready M Xit w) (I.round st ps.toList (item k) k t (fun s=>R.a0.eval (.tmp s))) { tmps:=(ps.zip vals.toArray).foldl (fun t (p,v)=>t.setIfInBounds p v) R.a0.tmps,defers:=[] } w :=
  RF.start hR hdf hXl S hrec ho (by simpa using hlen) hd hn hp hk
 have sp:∀G,EK P G C:=fun G=>⟨hsp,fun y hy=>by rw[hcy]at hy;(cases hy),hit⟩;refine ha _ (RF.B_stable hR .ready M Xit w) (sp _) (some R.lp) 0 _ _ _ (by simp) RF.knows hv' (fun e st1 a1 w1 hk1 hs1=>?_) _ _ hs0;cases e with
 |normal =>
   obtain⟨env1,M1,X1,S1⟩:=hs1;obtain⟨⟨g1,⟨r1,r2⟩,g3,g4,g5,g6,g7⟩,gpin⟩:=S1.gam;have hn1:=JV r1;have hM1x:∀b,M1 b->b≠R.lp:=fun b hb e=>by
    rcases S1.mx b hb with h|h
    ·exact hMl (e ▸ h)
    ·exact(g3 b h).2.2.2.2.1 e
   refine⟨_,run_beginRound r1 (by rw[hrc]),?_⟩;have hbusy:({ (R.rc .ready none)with state:=.busy }:Loop)=R.rc .busy none:=by rw[hrc]
   rw[hbusy];have hblk:∀b,b≠R.lp->(w1.putObj (R.lp) (.loop (R.rc .busy none))).heap[b]? = w1.heap[b]?:=fun b h=>World.putObj_heap_other h;have hsz:(w1.putObj (R.lp) (.loop (R.rc .busy none))).heap.size=w1.heap.size:=by simp
   have S2:Am P (R.B .busy M Xit w) st1 a1 (w1.putObj (R.lp) (.loop (R.rc .busy none))) env1 M1 X1:=by
    refine S1.recast (Y:=fun b=>b=R.lp) ⟨⟨?_,⟨World.putObj_heap_same hn1,fun q=>(hblk _ (by have:=hR.lpo q;omega)).trans (r2 q)⟩,g3,fun b hb hm=>?_,by omega,fun d hd'=>?_,g7⟩,gpin⟩ (fun b hb=>.inl hb) (by omega) (fun b _ h=>hblk b h) (fun b e hm=>hM1x b hm e)
     (fun k' o h g hg e=>(g3 g (S1.oat k' o h g hg).1).2.2.2.2.1 e) (fun D hD e=>?_) (fun b h=>h) (fun b h=>by rw[hsz];exact S1.xlt b h)
    ·exact RF.gstep hR g1 (by omega) ⟨rfl,rfl,rfl,Afo _,by omega,fun b hb hx'=>hblk b (fun e=>hx' (.inr ⟨by omega,hb⟩))⟩
    ·refine(hblk b (fun e=>?_)).trans (g4 b hb hm);rcases hm with hm|hm
     ·have:=hR.m0 b hm;omega
     ·have:=(hx b hm).1;omega
    ·obtain⟨D,rfl,hD⟩:=g6 d hd';exact⟨D,rfl,(hblk D (by have:=hR.dlt D hd';omega)).trans hD⟩
    ·obtain⟨D',e',q1,q2,_⟩:=S1.dfr _ hD;have:D=D':=by simpa using e'
     subst this;exact(g3 D q2).2.2.2.2.1 e
   refine hb _ (RF.B_stable hR .busy M Xit w) (sp _) (some R.lp) 0 _ _ _ (by simp) RF.knows hk1 (fun e st' a' w' hk2 hs2=>?_) _ _ ⟨env1,M1,X1,S2⟩;obtain⟨env3,M3,X3,S3⟩:=hs2;have r3:=S3.gam.1.2.1.1;have g43:=S3.gam.1.2.2.2.1;have g53:=S3.gam.1.2.2.2.2.1;have keep:∀o,w.heap.size<=(w'.putObj (R.lp) o).heap.size/\∀c,c<w.heap.size->(R.M0 c\/Xit c)->(w'.putObj (R.lp) o).heap[c]? = w.heap[c]?:=fun o=>by
    refine⟨by simpa using g53,fun c hc hm=>?_⟩;refine(World.putObj_heap_other (fun e=>?_)).trans (g43 c hc hm);rcases hm with hm|hm
    ·have:=hR.m0 c hm;omega
    ·have:=(hx c hm).1;omega
   have fin : ∀(p : Option Code) (s' : LoopState) (stX : St), stX.T = I.keptT st->all (I.fitK st st' (fun s =>R.a0.eval (.tmp s)))->(∀k o, (k, o)∈stX.own->(∃o', (k, o')∈st'.own)/\B8 P M3 w' env3 k o)->(stX.own.map (·.1)).Nodup->stX.yk = st.yk->stX.nt = st.nt ->
     R.Core P stX s' p Xit (w'.putObj (R.lp) (.loop (R.rc s' p))):=fun p s' stX hT hf hO hnn hyk hnt=>by
    obtain⟨q1,q2,q3,q4⟩:=nY hf;exact RF.finish hR hx hMd hMl hMf S.mx hdn hsiz S3 hT hplain q3 q4 hO hnn (hyk.trans q2.symm) (hnt.trans q1.symm) hnt
   have jump : ∀(e : Exit) (c : Code), Tl e c->By (I.fitK st st' (fun s =>R.a0.eval (.tmp s))) (K e (I.left st st' (Be (I.own k t++I.keptO st)))) ->
     ∃v w4,(Instr.endRound (R.lp) (some c)).run P w'=.ok v w4/\∃b,Ending.returned v=.returned (.bool b)/\w.heap.size<=w4.heap.size/\(∀c,c<w.heap.size->((b=true/\R.M0 c)\/Xit c)->w4.heap[c]? = w.heap[c]?)/\(R.J P I st cnt K).g (if b then k+1 else cnt+1) Xit w4:=fun e c hj hc=>by
    obtain⟨hf,hK⟩:=Bz hc;have hcore:=fin (some c) .done (I.left st st' (Be (I.own k t++I.keptO st))) rfl hf (fun k' o h=>⟨⟨o,(Afh.1 h).1⟩,S3.own _ _ (Afh.1 h).1⟩) (S3.nod.sublist (List.Sublist.map _ List.filter_sublist)) rfl rfl;have hend:=run_endRound (P:=P) (some c) r3;have e1:({ (R.rc .busy none)with state:=if (some c).isNone then .ready else .done,pending:=some c }:Loop)=R.rc .done (some c):=by rw[hrc];rfl
    rw[e1]at hend;exact⟨_,_,hend,false,rfl,(keep _).1,fun c hc h=>(keep _).2 c hc (h.imp (·.2) id),.inr ⟨rfl,e,c,_,hj,hK,hcore⟩⟩
   cases e with
   |normal =>
     obtain⟨t',hc⟩:=hk2;obtain⟨h12,hinv'⟩:=Bz hc;obtain⟨hf,hO⟩:=all_append h12;have hnd':=hnd (k+1) t' (by omega) hinv';have hcore:=fin none .ready (I.head st (k+1) t') rfl hf (fun k' o h=>Gp S3 hO k' o h) (FC hnd') rfl rfl;have hend:=run_endRound (P:=P) none r3;have e1:({ (R.rc .busy none)with state:=if (none:Option Code).isNone then .ready else .done,pending:=none }:Loop)=R.rc .ready none:=by rw[hrc];rfl
     rw[e1]at hend;exact⟨_,_,hend,true,rfl,(keep _).1,fun c hc h=>(keep _).2 c hc (h.imp (·.2) id),.inl ⟨(show k+1<=cnt by omega),t',hinv',hnd',hcore⟩⟩
   |ret=>exact jump .ret .ret rfl hk2
   |exit id=>exact jump (.exit id) (.exit id) rfl hk2
   |goto l=>exact jump (.goto l) (.goto l) rfl hk2
   |panic _=>exact hk2.elim
   |outgrown=>exact hk2.elim
 |_=>exact hk1.elim
theorem RF.round_ok {R:RF} (hR:R.Ok) {C C':Ak} (hsp:∀f sp,C.specs f=some sp->Av P f sp/\Ao P f) (hcy:C.yld=none) (hit:J9 P C) {I:Dg} {ps:Array Nat} {cnt:Nat} {item:Nat->List SV} {a b:Code} {K:Exit->St->Prop} {fn dd:Nat}
  (hrc:R.rc=fun s p=>{ state:=s,pending:=p,fn:=fn,tmps:=R.a0.tmps,params:=ps,assign:=a,body:=b,defers:=dd }) (ha:JW P C a) (hb:JW P C b) (hv:nX P C I st ps cnt item a b K)
  (hnd:∀k t,k<=cnt->I.inv k t->Dh (Be (I.own k t++I.keptO st))=true) (hn:Dh ps.toList=true) (hp:∀p,p∈ps.toList->p<st.nt) (hk:∀x,x∈I.keptT st->x.1 ∉ ps.toList) (hdn:R.a0.defers.Nodup) (hsiz:R.a0.tmps.size=st.nt)
  (hy:C'.yld=some ⟨R.lp,cnt,item⟩):KY P (R.J P I st cnt K) C':=by
 intro y hy' k Xit w vals hlt hg hXl hd;rw[hy]at hy';cases hy';simp only at hlt hd;rcases hg with ⟨_,t,hinv,_,hco⟩|⟨he,_⟩
 ·exact RF.round_at hR hsp hcy hit hrc ha hb (hv k) hnd hn hp hk hdn hsiz hlt hinv hco hXl hd
 ·omega
theorem nZ {G:Bn} (hG:Bq G) {C:Ak} (hC:EK P G C) {ro:Option Nat} (hkn:Lm G ro) {n:Nat} {f:Operand} {ps:Array Nat} {a b:Code} {K:Exit->St->Prop} {Q:Exit->Act->World->Prop} {ac:Act} (ha:JW P C a) (hb:JW P C b)
  (h:vc P C (.rangeFunc f ps a b) st K) (hq:∀e st' a' w',K e st'->AQ P G st' a' w'->Q e a' w') (hs:AQ P G st ac w):(Code.rangeFunc f ps a b).wpIn (W ro) n P Q ac w:=by
 simp only[vc]at h;split at h;rotate_left
 ·exact h.elim
 rename_i g caps hf;split at h;rotate_left
 ·exact h.elim
 rename_i it I0 hitg hI;generalize I0.tied st=I at h;split at h;rotate_left
 ·exact h.elim
 rename_i hc;simp only[nT,Afj,decide_eq_true_eq,AfA,List.contains_eq_mem,decide_eq_false_iff_not,Option.isNone_iff_eq_none]at hc;obtain⟨⟨⟨hcy,hk⟩,hnp⟩,hp⟩:=hc;obtain⟨⟨hpre,t0,h0⟩,hv,hdone⟩:=h;obtain⟨hO0,hinv0⟩:=Bz h0;obtain⟨env,M,X,S⟩:=hs;obtain⟨hitok,hen⟩:=hC.2.2.1 g it hitg;have hfd:=Bf S (gd:=none) (fun q c v hq=>by cases hq) trivial hf;rcases hfd with ⟨hfd⟩;generalize hev:ac.eval f=vf at hfd;cases hfd with
 |clo _ _ cvs hcl hcd =>
 have hnd:∀k t,k<=it.cnt caps->I.inv k t->Dh (Be (I.own k t++I.keptO st))=true:=fun k t hkc hinv=>by
  rcases AfP k (it.cnt caps)with hlt|hge
  ·have:=hv k t (fun _=>undef) hlt hinv;split at this
   ·rename_i hc;simp only[nT]at hc;exact hc.1.1
   ·exact this.elim
  ·obtain rfl:k=it.cnt caps:=by omega
   have:=hdone t hinv;split at this
   ·rename_i hc;exact hc
   ·exact this.elim
 refine wpIn_rangeFunc ?_;intro fn hfn
 -- the record is laid;at an outermost loop also the block for the deferred calls
 obtain⟨lp, mark, o, dd, W1, hent, hlp, hlpo, hsz1, hL1, hK1, hbel, hdr, hmk⟩: ∃lp mark o dd W1, (Instr.enterLoop fn ac.tmps ps a b (W ro).round).run P w = .ok (lp, mark) W1/\w.heap.size<=lp/\(o = true->lp = w.heap.size+1)/\W1.heap.size = lp+1 /\
   W1.heap[lp]? = some (.loop { state:=.ready,pending:=none,fn:=fn,tmps:=ac.tmps,params:=ps,assign:=a,body:=b,defers:=dd })/\(o=true->W1.heap[w.heap.size]? = some (.deferred (some [])))/\Below w.heap.size w W1/\w.drawn<=W1.drawn /\
   ((o=true/\mark = [{ target:=.collected w.heap.size,args:=#[] }])\/mark = []):=by
  cases ro with
  |none =>
    refine⟨w.heap.size+1,_,true,w.heap.size,_,run_enterLoop_outer (P:=P) (w:=w) fn ac.tmps ps a b,by omega,fun _=>rfl,by simp[World.size_alloc],?_,fun _=>?_,?_,Afo _,.inl ⟨rfl,rfl⟩⟩
    ·have:=World.alloc_heap_new (w.alloc (.deferred (some []))) (.loop { state:=.ready,pending:=none,fn:=fn,tmps:=ac.tmps,params:=ps,assign:=a,body:=b,defers:=w.heap.size });rwa[World.size_alloc]at this
    ·exact(Below.heap_alloc _ _ _ (by simp)).trans (World.alloc_heap_new w _)
    ·exact(((Below.refl _ w).alloc (Afo _) _).alloc (by simp) _)
  |some l =>
    obtain⟨rc,hrc⟩:=hkn l rfl _ _ _ S.gam.1;refine⟨w.heap.size,[],false,rc.defers,w.alloc (.loop { state:=.ready,pending:=none,fn:=fn,tmps:=ac.tmps,params:=ps,assign:=a,body:=b,defers:=rc.defers }),?_,Afo _,(fun h=>by cases h),by simp[World.size_alloc],World.alloc_heap_new w _,(fun h=>by cases h),(Below.refl _ w).alloc (Afo _) _,Afo _,.inr rfl⟩;show(Instr.enterLoop fn ac.tmps ps a b (some l)).run P w=_;unfold Instr.enterLoop;simp[Sem.run_bind,run_getLoop hrc,Result.andThen]
 obtain⟨R,hRd⟩:∃R:RF,R = { G:=G,a0:=ac,M0:=M,X0:=X,n0:=w.heap.size,lp:=lp,o:=o,rc:=fun s p=>{ state:=s,pending:=p,fn:=fn,tmps:=ac.tmps,params:=ps,assign:=a,body:=b,defers:=dd } }:=⟨_,rfl⟩;have hR:R.Ok:=by
  subst hRd;refine⟨hG,S.mlt,S.xlt,hlp,hlpo,fun D hD=>?_⟩;obtain⟨D',e,_,q,_⟩:=S.dfr _ hD;have:D=D':=by simpa using e
  subst this;exact q
 have hn0:R.n0=w.heap.size:=by rw[hRd]
 have hl0:R.lp=lp:=by rw[hRd]
 have ho0:R.o=o:=by rw[hRd]
 have hsame:Same (fun _=>False) w W1:=⟨hbel.os,hbel.tape,hbel.output,hdr,hbel.size,fun b hb _=>hbel.block b hb⟩
 -- the caller's state,the record laid
 have S1:Am P G st ac W1 env M (R.xp W1):=by
  refine S.step hG hsame (M':=M) (fun b h=>h) (fun b h=>.inl h) (fun b h=>by have:=S.mlt b h;omega) (fun b h=>.inl h) (fun b h=>by rw[hRd];exact .inl h) (fun b h=>?_) (fun b h=>?_)
  ·rw[hRd]at h;rcases h with h|h
   ·exact .inl h
   ·exact .inr h.1
  ·rw[hRd]at h;rcases h with h|h
   ·have:=S.xlt b h;omega
   ·exact h.2
 have hcore0:R.Core P (I.head st 0 t0) .ready none (fun _=>False) W1:=by
  have hgx:R.G=G:=by rw[hRd]
  have ha0:R.a0=ac:=by rw[hRd]
  have hm0:R.M0=M:=by rw[hRd]
  refine⟨env,M,?_,⟨by rw[hl0,hRd];exact hL1,fun q=>by rw[hn0];exact hK1 (ho0 ▸ q)⟩,fun b h=>h.elim,fun h=>by have:=S.mlt _ h;omega,fun h=>by have:=S.mlt _ h;omega,fun k o g' hk' hg'=>?_⟩
  ·rw[hgx,ha0];refine S1.refit (fun s e hm=>?_) (fun k o hm=>?_) (FC (hnd 0 t0 (Afg _) hinv0)) rfl rfl
   ·obtain⟨m1,m2⟩:=Afh.1 hm;simp only[nT]at m2;obtain⟨q1,q2,_⟩:=S1.tmp _ _ m1;have hgn:e.g=none:=by simpa[AG.plain]using m2.2
    exact⟨hgn,q1,q2 (Hj (by rw[hgn];trivial))⟩
   ·exact Gp S1 hO0 k o hm
  ·obtain⟨o',ho'⟩:=(Gp S hO0 k o hk').1;obtain⟨q1,q2,q3⟩:=S.oat k o' ho' g' hg';exact⟨by rw[hm0];exact q2,fun h=>h,by omega,by omega⟩
 have hyo:∀C':Ak,C'.yld=some ⟨lp,it.cnt caps,it.item caps⟩->KY P (R.J P I st (it.cnt caps) K) C':=fun C' hy=>by
  refine RF.round_ok hR hC.1 hcy hC.2.2 (fn:=fn) (by rw[hRd]) ha hb hv hnd hnp (fun p h=>hp p h) (fun x h=>hk x h) (by rw[hRd];exact S.dno) (by rw[hRd];exact S.siz) (by rw[hl0];exact hy)
 have hcall:=hitok (R.J P I st (it.cnt caps) K) (RF.J_stable hR I st (it.cnt caps) K) lp W1 caps cvs hpre (fun b h=>by rw[show(R.J P I st (it.cnt caps) K).m0=M by rw[hRd];rfl]at h;have:=S.mlt b h;omega)
  ⟨hcl,fun i hi=>by rw[show(R.J P I st (it.cnt caps) K).m0=M by rw[hRd];rfl];exact(hcd i hi).later ⟨hsame.size,fun b hb=>hsame.block b (S.mlt b hb) (fun h=>h),fun _ h=>h⟩⟩
  (.inl ⟨Afg _,t0,hinv0,hnd 0 t0 (Afg _) hinv0,hcore0⟩) hyo
 -- what the caller holds behind the loop
 have fin : ∀{stX : St} {s : LoopState} {p : Option Code} {Xit : Nat->Prop} {w2 : World}, R.Core P stX s p Xit w2->s ≠ .busy->∃w3, (Instr.endLoop lp).run P w2 = .ok p w3 /\
   AQ P G stX { ac with defers:=mark++ac.defers } w3:=by
  intro stX s p Xit w2 ⟨env2,M2,S2,⟨r1,r2⟩,hx,hMd,hMl,ho⟩ hsb;rw[hl0]at r1 hMl;rw[hn0]at r2 hMd;rw[ho0]at r2;have hend:=run_endLoop (P:=P) r1 (by rw[hRd];exact hsb);have hpend:(R.rc s p).pending=p:=by rw[hRd]
  rw[hpend]at hend;obtain⟨o2,hend⟩:∃o2,(Instr.endLoop lp).run P w2=.ok p (w2.putObj lp o2):=⟨_,hend⟩;refine⟨_,hend,?_⟩;have hgx:R.G=G:=by rw[hRd]
  have ha0:R.a0=ac:=by rw[hRd]
  rw[hgx,ha0]at S2;have hblk:∀b,b≠lp->(w2.putObj (lp) o2).heap[b]? = w2.heap[b]?:=fun b h=>World.putObj_heap_other h;have hsz:(w2.putObj (lp) o2).heap.size=w2.heap.size:=by simp
  have hn1:=JV r1;have hxL:R.xp w2 (lp):=.inr ⟨by omega,hn1⟩;have S3:Am P G stX ac (w2.putObj (lp) o2) env2 M2 (R.xp w2):=by
   refine S2.recast (Y:=fun b=>b=lp) ⟨hG _ _ w2 _ _ S2.gam.1 ⟨rfl,rfl,rfl,Afo _,by omega,fun b hb hx'=>hblk b (fun e=>hx' (e ▸ hxL))⟩ (fun b h=>h) (fun b h=>.inl h),S2.gam.2⟩ (fun b h=>.inl h) (by omega) (fun b _ h=>hblk b h) (fun b e hm=>hMl (e ▸ hm))
    (fun k o hk' g' hg' e=>(ho k o g' hk' hg').2.2.2 (by rw[hl0];exact e)) (fun D hD e=>?_) (fun b h=>h) (fun b h=>by rw[hsz];exact S2.xlt b h)
   have:=hR.dlt D (by rw[ha0];exact hD);omega
  rcases hmk with ⟨hoo,hmk⟩|hmk;rotate_left
  ·exact⟨env2,M2,R.xp w2,hmk ▸ S3⟩
  have hlpe:=hlpo hoo;have hxD:R.xp w2 (w.heap.size):=.inr ⟨by omega,by omega⟩;rw[hmk];refine⟨env2,M2,R.xp w2,S3.gam,S3.mx,S3.own,S3.oat,S3.inj,S3.nod,S3.mlt,S3.xlt,S3.siz,fun s' e h=>S3.tmp s' e h,fun s' e h=>S3.grd s' e h,fun d hd=>?_,?_⟩
  ·rcases Afz.1 hd with hd|hd
   ·simp only[Afr]at hd;exact⟨w.heap.size,hd,(hblk _ (by omega)).trans (r2 hoo),hxD,hMd,fun k o hk' e=>(ho k o _ hk' e).2.2.1 hn0.symm⟩
   ·exact S3.dfr d hd
  ·refine Agk.2 ⟨fun hm=>?_,S3.dno⟩;have:=hR.dlt _ (by rw[ha0];exact hm);omega
 refine⟨lp,mark,W1,{ target:=.fn (.func g) cvs.toArray,args:=#[.func (.yield lp) #[] #[]] },W1,g,#[.func (.yield lp) #[] #[]]++cvs.toArray,W1,hent,?_,fun _ _=>trivial,?_,fun hx=>by simp[W,Fence.wide]at hx,?_⟩
 ·simp only[resolve,hev];simp[go_sem]
 ·simp only[invoke,go_sem];simp;exact hen _ W1
 ·refine O4 (FW hcall ?_);rintro e w2 ⟨v,Xit,rfl,hg|hg⟩
  ·rcases hg with ⟨_,t,hinv,hn',hcore⟩|⟨he,_⟩;rotate_left
   ·omega
   obtain⟨w3,hend,hs3⟩:=fin hcore (by simp);have:=hdone t hinv;rw[if_pos hn']at this;exact⟨none,w3,hend,hq _ _ _ _ this hs3⟩
  ·rcases hg with ⟨he,_⟩|⟨_,e,c,stJ,hj,hK,hcore⟩
   ·omega
   obtain⟨w3,hend,hs3⟩:=fin hcore (by simp);refine⟨some c,w3,hend,?_⟩;cases e with
   |ret=>subst hj;exact wpIn_ret (hq _ _ _ _ hK hs3)
   |exit id=>subst hj;exact wpIn_exit (hq _ _ _ _ hK hs3)
   |goto l=>subst hj;exact wpIn_goto (hq _ _ _ _ hK hs3)
   |normal=>exact hj.elim
   |panic _=>exact hj.elim
   |outgrown=>exact hj.elim
end
section
variable {P:Program} {G:Bn}
theorem Tq {I:EG} {st st':St} {g:I.T} (h:all (I.fitY st st' g)):(I.head st g).yk=st'.yk/\st'.nt=st.nt/\st'.stop=st.stop:=by
 obtain⟨ha,hb⟩:=all_append h;have hnt:st'.nt=st.nt:=by
  split at ha
  ·rename_i he;simpa using he
  ·exact(Ax ha).elim
 unfold EG.head;cases hy:I.yk with
 |none =>
   simp only[hy]at hb;split at hb
   ·rename_i he;simp at he;exact⟨he.1.symm,hnt,he.2⟩
   ·exact(Ax hb).elim
 |some f =>
   simp only[hy]at hb;obtain⟨h1,h2⟩:=all_cons hb;exact⟨h1.symm,hnt,Ax h2⟩
theorem oC {C:Ak} (hm:P.follows .mixedOrders=true):∀(c:Code) (G:Bn),Bq G->EK P G C->∀(ro:Option Nat) (n:Nat),Lm G ro->∀(st:St) (K:Exit->St->Prop) (Q:Exit->Act->World->Prop),vc P C c st K ->
  (∀e st' a' w',K e st'->AQ P G st' a' w'->Q e a' w')->∀a w,AQ P G st a w->c.wpIn (W ro) n P Q a w:=by
 intro c
 induction c with
 |skip=>exact fun G hG hC ro n hro st K Q h hq a w hs=>wpIn_skip (hq _ _ _ _ h hs)
 |label l=>exact fun G hG hC ro n hro st K Q h hq a w hs=>wpIn_label (hq _ _ _ _ h hs)
 |exit id=>exact fun G hG hC ro n hro st K Q h hq a w hs=>wpIn_exit (hq _ _ _ _ h hs)
 |goto l=>exact fun G hG hC ro n hro st K Q h hq a w hs=>wpIn_goto (hq _ _ _ _ h hs)
 |ret=>exact fun G hG hC ro n hro st K Q h hq a w hs=>wpIn_ret (hq _ _ _ _ h hs)
 |region id ops draw =>
   intro G hG hC ro n hro st K Q h hq a w hs;simp only[vc]at h;have hs':=AQ.nilRows (C.nils id) ((hs.rekeys (C.rek id)).frzs (C.frz id));cases draw with
   |false =>
     simp only[AgA,if_false]at h;exact wpIn_region_list (Ib hG hC (fun st a w hk hs=>hq .normal st a w hk hs) _ _ _ _ h hs')
   |true =>
     simp only[if_true]at h;have hs2:AQ P G (((st.rekeys (C.rek id)).frzs (C.frz id)).nilRows (C.nils id)) a w.drew:=by
      obtain⟨env,M,X,S⟩:=hs';exact⟨env,M,_,S.grow hG (R9 w) (M':=M) (fun b h=>h) (fun b h=>.inl h) (fun b h=>S.mlt b h)⟩
     split at h
     ·exact wpIn_region_any hm (nS hG hC (fun st a w hk hs=>hq .normal st a w hk hs) _ _ _ h hs2)
     ·exact wpIn_region_any hm (nJ hG hC (fun st a w hk hs=>hq .normal st a w hk hs) h hs2)
 |seq x y ihx ihy =>
   intro G hG hC ro n hro st K Q h hq a w hs;simp only[vc]at h;split at h
   ·refine wpIn_seq (ihx G hG hC ro n hro st _ _ h (fun e st' a' w' hk hs'=>?_) a w hs);cases e with
    |normal=>exact ihy G hG hC ro n hro st' K Q hk hq a' w' hs'
    |_=>exact hq _ _ _ _ hk hs'
   ·rename_i I0 hI;generalize I0.tied st=I at h;obtain⟨h,hr⟩:=h;refine wpIn_seq (ihx G hG hC ro n hro st _ _ h (fun e st' a' w' hk hs'=>?_) a w hs);cases e with
    |normal =>
      obtain⟨g',hg'⟩:=hk;obtain⟨h1,hinv'⟩:=Bz hg';obtain⟨h12,h3⟩:=all_append h1;obtain⟨h1',h2⟩:=all_append h12;obtain⟨hy1,hy2,_⟩:=Tq h1';have hr2:=hr g' hinv';split at hr2
      ·rename_i hnd';obtain⟨env,M,X,S⟩:=hs';exact ihy G hG hC ro n hro _ K Q hr2 hq a' w' ⟨env,M,X,S.refit (fun s e hm=>MU S h2 s e hm) (fun k o hm=>Gp S h3 k o hm) (FC hnd') hy1 hy2.symm⟩
      ·exact hr2.elim
    |_=>exact hq _ _ _ _ hk hs'
 |cond c x y ihx ihy =>
   intro G hG hC ro n hro st K Q h hq a w hs;simp only[vc]at h;split at h
   ·rename_i b hb;obtain⟨env,M,X,S⟩:=hs;have hd:=Bf S (gd:=none) (fun q c v hq=>by cases hq) trivial hb;rcases hd with ⟨hd⟩;generalize hev:a.eval c=q at hd;cases hd;exact wpIn_cond_split hev (fun ht=>ihx G hG hC ro n hro st K Q (h.1 ht) hq a w ⟨env,M,X,S⟩) (fun hf=>ihy G hG hC ro n hro st K Q (h.2 hf) hq a w ⟨env,M,X,S⟩)
   ·exact h.elim
 |block id c ih =>
   intro G hG hC ro n hro st K Q h hq a w hs;simp only[vc]at h;refine wpIn_block (ih G hG hC ro n hro st _ _ h (fun e st' a' w' hk hs'=>?_) a w hs);cases e with
   |exit id' =>
     simp only[Exit.inBlock];dsimp only at hk
     by_cases he:id'=id
     ·rw[if_pos he]at hk ⊢;exact hq _ _ _ _ hk hs'
     ·rw[if_neg he]at hk ⊢;exact hq _ _ _ _ hk hs'
   |_=>exact hq _ _ _ _ hk hs'
 |loop c ih =>
   intro G hG hC ro n hro st K Q h hq a w hs;simp only[vc]at h;split at h
   ·exact h.elim
   ·rename_i I0 hI;have hs:=AQ.nilRows (C.nilsL (FY c)) hs;revert h hs;generalize st.nilRows (C.nilsL (FY c))=st;intro h hs;generalize I0.tied st=I at h;obtain⟨⟨g0,h0⟩,hr⟩:=h;obtain⟨h1,hinv0⟩:=Bz h0;have fitYnt:∀(st':St) (g:I.T),all (I.fitY st st' g)->(I.head st g).yk=st'.yk/\st'.nt=st.nt/\st'.stop=st.stop:=fun st' g h=>Tq h;refine wpIn_loop_ghost (fun m a w=>∃g:I.T,I.mu g=m/\I.inv g/\AQ P G (I.head st g) a w) (I.mu g0) ⟨g0,rfl,hinv0,?_⟩ ?_
    ·obtain⟨h12,h3⟩:=all_append h1;obtain⟨h1',h2⟩:=all_append h12;obtain⟨hy1,hy2,_⟩:=fitYnt st g0 h1';have hr0:=hr g0 hinv0;split at hr0
     ·rename_i hnd;obtain⟨env,M,X,S⟩:=hs;refine⟨env,M,X,S.refit ?_ ?_ (FC hnd) hy1 rfl⟩
      ·intro s e hm;rcases Afz.1 hm with hm|hm
       ·exact MU S h2 s e hm
       ·obtain⟨m1,m2⟩:=Afh.1 hm;simp only[nT]at m2;obtain⟨t1,t2,_⟩:=S.tmp _ _ m1;have hgn:e.g=none:=by simpa[AG.plain]using m2.2
        exact⟨hgn,t1,t2 (Hj (by rw[hgn];trivial))⟩
      ·intro k o hm;rcases Afz.1 hm with hm|hm
       ·exact Gp S h3 k o hm
       ·have m1:=(Afh.1 hm).1;exact⟨⟨_,m1⟩,S.own _ _ m1⟩
     ·exact hr0.elim
    ·rintro m a w ⟨g,rfl,hinv,hs⟩;have hr1:=hr g hinv;split at hr1
     ·rename_i hnd;refine ih G hG hC ro n hro _ _ _ hr1 (fun e st' a' w' hk hs'=>?_) a w hs;cases e with
      |normal =>
        obtain⟨g',hg'⟩:=hk;obtain⟨h1,hinv',hmu⟩:=Bz hg';obtain⟨h12,h3⟩:=all_append h1;obtain⟨h1',h2⟩:=all_append h12;obtain⟨hy1,hy2,_⟩:=fitYnt st' g' h1';have hr2:=hr g' hinv';split at hr2
        ·rename_i hnd';refine⟨I.mu g',hmu,g',rfl,hinv',?_⟩;obtain⟨env,M,X,S⟩:=hs';exact⟨env,M,X,S.refit (fun s e hm=>MU S h2 s e hm) (fun k o hm=>Gp S h3 k o hm) (FC hnd') hy1 hy2.symm⟩
        ·exact hr2.elim
      |_=>exact hq _ _ _ _ hk hs'
     ·exact hr1.elim
 |rangeFunc f ps a b iha ihb =>
   intro G hG hC ro n hro st K Q h hq ac w hs;exact nZ hG hC hro (fun G' hG' hC' ro' n' st' K' Q' _ hkn h' hq'=>iha G' hG' hC' ro' n' hkn st' K' Q' h' hq') (fun G' hG' hC' ro' n' st' K' Q' _ hkn h' hq'=>ihb G' hG' hC' ro' n' hkn st' K' Q' h' hq') h hq hs
 |scope c _=>intro G hG hC ro n hro st K Q h;exact h.elim
 |refuse s=>intro G hG hC ro n hro st K Q h;exact h.elim
theorem MV (hG:Bq G) {C:Ak} (hC:EK P G C) (hm:P.follows .mixedOrders=true) {n:Nat} (c:Code) (st:St) (K:Exit->St->Prop) (Q:Exit->Act->World->Prop) (h:vc P C c st K)
 (hq:∀e st' a' w',K e st'->AQ P G st' a' w'->Q e a' w'):∀a w,AQ P G st a w->c.wpIn (W none) n P Q a w:=oC hm c G hG hC none n nW st K Q h hq
def Ap (fn:Func) (args:List EV):St:={ T:=args.zipIdx.map fun x=>(x.2,⟨none,x.1⟩),own:=[],yk:=0,stop:=false,nt:=args.length+(fn.ntmps-args.length) }
def Ij (P:Program) (st:St):ResultVar->I9
 | .tmp t=>match Hf st.T t with
   |some ⟨none,e⟩=>some ([],e)
   |_=>none
 | .cell t ty=>match Hf st.T t,Bh P ty with
   |some ⟨none,e⟩,some y=>IB st.own y e
   |_,_=>none
def MW (st:St):EV->Option (List Prop×SV)
 | .p s=>some ([],s)
 | .full _ sz n get=>some ([],.sl sz n get)
 | .row r=>match BF st.own r with
   |some (.row _ sz n get)=>some ([],.sl sz n get)
   |_=>none
 | .rsub r sz lo n=>match BF st.own r with
   |some (.row _ sz' n' get)=>if sz=sz' then some ([lo+n<=n'],.sl sz n (fun i=>get (lo+i)))else none
   |_=>none
 |_=>none
def Jd (P:Program) (st:St):List ResultVar->Option (List Prop×List SV)
 |[]=>some ([],[])
 |r::rs=>match Ij P st r with
   |some (ps,e)=>match MW st e,Jd P st rs with
     |some (rs,s),some (qs,ss)=>some (ps++(rs++qs),s::ss)
     |_,_=>none
   |none=>none
def Ik (P:Program) (st:St) (l:List ResultVar):Option (List Prop×SV):=match Jd P st l with
 |some (ps,[s])=>some (ps,s)
 |some (ps,ss)=>some (ps,.tup ss)
 |none=>none
def SV.isSl:SV->Bool
 | .sl ..=>true
 |_=>false
def MX:List SV->List SV->List Prop
 |[],[]=>[]
 |s::ss,t::ts=>H4 s t++MX ss ts
 |_,_=>[False]
def Ln:SV->SV->List Prop
 | .agg cs,.agg ds=>if ds.any SV.isSl then MX cs ds else [SV.agg cs=.agg ds]
 |s,t=>H4 s t
def GG:SV->SV->List Prop
 | .tup ss,.tup ts=>fitSs ss ts
 |s,t=>Ln s t
where fitSs:List SV->List SV->List Prop
 |[],[]=>[]
 |s::ss,t::ts=>Ln s t++fitSs ss ts
 |_,_=>[False]
def AJ (P:Program) (fn:Func) (r:SV):Exit->St->Prop:=fun e st=>match e with
 | .normal | .ret=>match Ik P st fn.results.toList with
   |some (ps,s)=>MT (ps++GG s r)
   |none=>False
 |_=>False
def Pj (P:Program) (fn:Func) (T:Type) (post:T->Prop) (r:T->SV):Exit->St->Prop:=fun e st=>match e with
 | .normal | .ret=>match Ik P st fn.results.toList with
   |some (ps,s)=>∃t:T,By (ps++GG s (r t)) (post t)
   |none=>False
 |_=>False
end
section
variable {P:Program} {G:Bn} {M:Nat->Prop} {w:World} {st:St} {a:Act} {env:As} {X:Nat->Prop}
theorem Am.turn (hG:Bq G) (S:Am P G st a w env M X) {D:Nat} {w':World} (hX:X D) (hM:¬ M D) (hO:∀k o,(k,o)∈st.own->env.at_ k≠some D) (hs:Same (fun b=>b=D) w w') (hsz:w'.heap.size=w.heap.size)
  {a':Act} (ht:a'.tmps=a.tmps) (hd:∀d,d∈a'.defers->d∈a.defers/\d ≠ { target:=.collected D,args:=#[] }) (hdn:a'.defers.Nodup):Am P G st a' w' env M X:=by
 have hl:Bg M M w w':=⟨hs.size,fun b hb=>hs.block b (S.mlt b hb) (fun e=>hM (e ▸ hb)),fun b hb=>hb⟩;have hev:∀x,a'.eval x=a.eval x:=fun x=>by cases x<;>simp[Act.eval,ht]
 refine⟨⟨hG _ _ _ _ _ S.gam.1 ⟨hs.os,hs.tape,hs.output,hs.drawn,hs.size,fun b hb hx=>hs.block b hb (fun e=>hx (e ▸ hX))⟩ (fun b h=>h) (fun b h=>.inl h),S.gam.2⟩,S.mx,?_,?_,S.inj,S.nod,by rw[hsz];exact S.mlt,by rw[hsz];exact S.xlt,by rw[ht];exact S.siz,?_,?_,?_,hdn⟩
 ·intro k o h;have h1:=S.own _ _ h;have h2:=S.oat _ _ h;have hng:∀g',env.at_ k=some g'->g'≠D:=fun g' hg' e=>hO _ _ h (e ▸ hg');exact h1.move hl rfl rfl (fun g' ha=>hs.block g' (h2 g' ha).2.2 (hng g' ha)) (fun _ _=>⟨rfl,rfl⟩)
 ·intro k o h g hg;rw[hsz];exact S.oat _ _ h g hg
 ·intro s e h;obtain⟨h1,h2,h3⟩:=S.tmp s e h;exact⟨h1,fun ho=>by rw[hev];exact(h2 ho).later hl,fun ho=>by rw[hev];exact h3 ho⟩
 ·intro s e h q c v hq;rw[hev];exact S.grd s e h q c v hq
 ·intro d hd';obtain⟨h0,hne⟩:=hd d hd';obtain⟨D',e,h1,h2,h3,h4⟩:=S.dfr d h0;have hDD:D'≠D:=fun he=>hne (by rw[e,he]);exact⟨D',e,(hs.block D' (S.xlt D' h2) hDD).trans h1,h2,h3,h4⟩
theorem Lo (hG:Bq G) {fn:Func} {n:Nat} {R:Ending->World->Prop}:∀(ds:List Deferred) (a:Act) (w:World),a.defers=ds->AQ P G st a w->(∀a' w',a'.tmps=a.tmps->AQ P G st a' w'->∃v,(results fn a.tmps).run P w'=.ok v w'/\R (.returned v) w') ->
  LeavesInM Fence.wide n P fn a.tmps R ds .returning w
 |[],a,w,hd,hs,h=>h a w rfl hs
 |d::ds,a,w,hd,⟨env,M,X,S⟩,h=>by
   obtain⟨D,e,h1,h2,h3,h4⟩:=S.dfr d (by rw[hd];simp);have hDlt:=S.xlt D h2;have hnd:=S.dno;rw[hd]at hnd;obtain⟨hn1,hn2⟩:=Agk.1 hnd;have hsame:Same (fun b=>b=D) w (w.putObj D (.deferred none)):=⟨rfl,rfl,rfl,Afo _,by simp[World.putObj],fun b hb hne=>World.putObj_heap_other (w:=w) hne⟩;have S':Am P G st { a with defers:=ds } (w.putObj D (.deferred none)) env M X:=S.turn hG h2 h3 h4 hsame (by simp[World.putObj]) rfl (fun d' hd'=>⟨by rw[hd];exact Afn _ hd',fun he=>hn1 (by rw[e,<- he];exact hd')⟩) hn2;refine⟨by simp,.inl ⟨D,_,by rw[e],run_takeDeferred h1,?_⟩⟩;exact Lo hG ds { a with defers:=ds } _ rfl ⟨env,M,X,S'⟩ (fun a' w' ha hs'=>h a' w' ha hs')
def MY (M:Nat->Prop) (W:World):Bn:={ g:=fun _ X w=>Bl W.heap.size W w/\∀b,X b->W.heap.size<=b,m0:=M }
theorem oD (M:Nat->Prop) (W:World):Bq (MY M W):=by
 intro k X w X' w' ⟨hb,hx⟩ hs h1 h2;refine⟨hb.trans ⟨hs.os,hs.tape,hs.output,hs.drawn,hs.size,fun b hlt=>hs.block b (Afp hlt hb.size) (fun hX=>by have:=hx b hX;omega)⟩,fun b hb'=>?_⟩;rcases h2 b hb' with h|h
 ·exact hx b h
 ·exact AfI hb.size h
def Gv (tmps:Array Value):ResultVar->Sem Value
 | .tmp t=>pure (tmps.getD t undef)
 | .cell c t=>do loadVar t (<- asAddr (tmps.getD c undef))
theorem Je (fn:Func) (tmps:Array Value):results fn tmps=(do let vs <- fn.results.mapM (Gv tmps);pure (if h:vs.size=1 then vs[0]else .tuple vs)):=by
 unfold results;congr 2
theorem Lp (S:Am P G st a w env M X) {r:ResultVar} {ps1:List Prop} {e:EV} (he:Ij P st r=some (ps1,e)) (hp1:all ps1):∃v,(Gv a.tmps r).run P w=.ok v w/\Ar P M w env e v:=by
 unfold Ij at he;cases r with
 |tmp t =>
   simp only at he;split at he
   ·rename_i e' hl;cases he;exact⟨_,rfl,(S.tmp _ _ (HR hl)).2.1 trivial⟩
   ·cases he
 |cell c t =>
   simp only at he;split at he
   ·rename_i e' y hl hy;have hden:=(S.tmp _ _ (HR hl)).2.1 trivial;obtain⟨u,h1,h2⟩:=NY S hy he hp1 hden;refine⟨u,?_,h2⟩;have hev:a.tmps.getD c undef=a.eval (.tmp c):=rfl;simp only[Gv,hev];generalize a.eval (.tmp c)=q at h1;unfold Instr.loadAt at h1;cases q with
    |pointer ad =>
      cases ad with
      |none=>simp[Instr.sureAddr,stuck,Sem.run]at h1
      |some ad=>simpa[Instr.sureAddr,asAddr]using h1
    |_=>simp[Instr.sureAddr,stuck,Sem.run]at h1
   ·cases he
theorem Lq (S:Am P G st a w env M X):∀(l:List ResultVar) (ps:List Prop) (ss:List SV),Jd P st l=some (ps,ss)->all ps->(∀g k o,(k,o)∈st.own->env.at_ k=some g->True) ->
  ∃vs,(l.mapM (Gv a.tmps)).run P w=.ok vs w/\Bk (fun b=>M b\/X b) w ss vs
 |[],ps,ss,h,hp,_=>by
   simp only[Jd,Agf,Afx]at h;obtain⟨_,rfl⟩:=h;exact⟨[],rfl,⟨rfl,fun i hi=>by simp at hi⟩⟩
 |r::l,ps,ss,h,hp,_=>by
   simp only[Jd]at h;split at h
   ·rename_i ps1 e he;split at h
    ·rename_i rs s qs ss' hes hrest;simp only[Agf,Afx]at h;obtain⟨rfl,rfl⟩:=h;obtain⟨hp1,hp23⟩:=all_append hp;obtain⟨hp3,hp2⟩:=all_append hp23;obtain⟨vs,hr,hd⟩:=Lq S l _ _ hrest hp2 (fun _ _ _ _ _=>trivial);have key:=Lp S he hp1;obtain⟨v,hv,hden⟩:=key;have hsp:Au (fun b=>M b\/X b) w s v:=by
      unfold MW at hes;split at hes
      ·cases hes;rcases hden with ⟨hden⟩;exact hden.weak (fun b hb=>.inl hb)
      ·cases hes;cases hden with
       |full hden _=>exact hden.weak (fun b hb=>.inl hb)
      ·rename_i r';split at hes
       ·rename_i e' sz n get hl;cases hes;cases hden with
        |row hrv =>
        have:=Mw S (Bp hl) (M':=fun b=>M b\/X b) (fun b hb=>.inl hb) (fun g hg=>.inr (S.oat _ _ (Bp hl) g hg).1);rw[hrv]at this;exact this
       ·cases hes
      ·rename_i r' sz lo n;split at hes
       ·rename_i e' sz' n' get hl;split at hes
        ·rename_i hsz;subst hsz;cases hes;exact O8 S (Bp hl) (M':=fun b=>M b\/X b) (fun b hb=>.inl hb) (fun g hg=>.inr (S.oat _ _ (Bp hl) g hg).1) (Ax hp3) hden
        ·cases hes
       ·cases hes
      ·cases hes
     exact⟨v::vs,by simp[List.mapM_cons,hv,hr],Hg hsp hd⟩
    ·cases h
   ·cases h
theorem oF:∀(ss ts:List SV),all (MX ss ts)->ss.length=ts.length/\∀i,i<ts.length->all (H4 (SV.at ss i) (SV.at ts i)):=by
 intro ss
 induction ss with
 |nil=>intro ts h;cases ts with
   |nil=>exact⟨rfl,fun i hi=>by simp at hi⟩
   |cons t ts=>exact(Ax h).elim
 |cons s ss ih=>intro ts h;cases ts with
   |nil=>exact(Ax h).elim
   |cons t ts =>
     simp only[MX]at h;obtain⟨h1,h2⟩:=all_append h;obtain⟨h3,h4⟩:=ih ts h2;refine⟨by simp[h3],fun i hi=>?_⟩;cases i with
     |zero=>exact h1
     |succ i=>exact h4 i (by simpa using hi)
theorem Ts {s r:SV} (h:all (Ln s r)) {v:Value} (hd:Au M w s v):Au M w r v:=by
 unfold Ln at h;split at h
 ·split at h
  ·cases hd with
   |agg _ vs hl hdd =>
   obtain⟨h1,h2⟩:=oF _ _ h;exact .agg _ vs (hl.trans h1) (fun i hi=>La (h2 i hi) (hdd i (by omega)))
  ·have:=Ax h;rw[<- this];exact hd
 ·exact La h hd
theorem Lr {s r:SV} (h:all (GG s r)) {v:Value} (hd:Au M w s v):Au M w r v:=by
 unfold GG at h;split at h
 ·rename_i ss ts;cases hd with
  |tup _ vs hl hdd =>
  have:∀(ss ts:List SV),all (GG.fitSs ss ts)->ss.length=ts.length/\∀i,i<ts.length->all (Ln (SV.at ss i) (SV.at ts i)):=by
   intro ss
   induction ss with
   |nil=>intro ts h;cases ts with
     |nil=>exact⟨rfl,fun i hi=>by simp at hi⟩
     |cons t ts=>exact(Ax h).elim
   |cons s ss ih=>intro ts h;cases ts with
     |nil=>exact(Ax h).elim
     |cons t ts =>
       simp only[GG.fitSs]at h;obtain⟨h1,h2⟩:=all_append h;obtain⟨h3,h4⟩:=ih ts h2;refine⟨by simp[h3],fun i hi=>?_⟩;cases i with
       |zero=>exact h1
       |succ i=>exact h4 i (by simpa using hi)
  obtain⟨h1,h2⟩:=this _ _ h;exact .tup _ vs (hl.trans h1) (fun i hi=>Ts (h2 i hi) (hdd i (by omega)))
 ·exact Ts h hd
theorem Tt:∀{ps:List Prop},MT ps->all ps
 |[],_=>K7
 |[p],h=>fun q hq=>by rw[Afr.1 hq];exact h
 |p::p'::ps,h=>fun q hq=>by
   rcases Afk.1 hq with rfl|hq
   ·exact h.1
   ·exact Tt (ps:=p'::ps) h.2 q hq
theorem MZ {fn:Func} (S:Am P G st a w env M X) {ps:List Prop} {s:SV} (h:Ik P st fn.results.toList=some (ps,s)) (hp:all ps) {tmps:Array Value} (ht:tmps=a.tmps):∃v,(results fn tmps).run P w=.ok v w/\Au (fun b=>M b\/X b) w s v:=by
 subst ht;unfold Ik at h;have fin : ∀vs : List Value, (fn.results.toList.mapM (Gv a.tmps)).run P w = .ok vs w ->
   (results fn a.tmps).run P w=.ok (if h:vs.toArray.size=1 then vs.toArray[0]else .tuple vs.toArray) w:=fun vs hv=>by
  rw[Je];simp[AfW,hv]
 split at h
 ·rename_i ps' s' hr;cases h;obtain⟨vs,h1,h2⟩:=Lq S _ _ _ hr hp (fun _ _ _ _ _=>trivial);obtain⟨hl,hd⟩:=h2
  match vs,hl with
  |[v],_ =>
    refine⟨v,by rw[fin _ h1];simp,?_⟩;simpa[SV.at]using hd 0 (by simp)
 ·rename_i ps' ss hne hr;cases h;obtain⟨vs,h1,h2⟩:=Lq S _ _ _ hr hp (fun _ _ _ _ _=>trivial);refine⟨.tuple vs.toArray,?_,.tup _ _ h2.1 h2.2⟩;rw[fin _ h1];have hno:¬ vs.length=1:=by
   intro hc;have hl:=h2.1;rw[hc]at hl
   match ss,hl with
   |[s0],_=>exact hne s0 rfl
  simp[hno]
 ·cases h
end
section
variable {P:Program}
abbrev GH (P:Program) (C:Ak):Prop:=(∀f sp,C.specs f=some sp->Av P f sp/\Ao P f)/\C.yld=none/\J9 P C
theorem GH.any {P:Program} {C:Ak} (h:GH P C) (G:Bn):EK P G C:=⟨h.1,fun y hy=>(by rw[h.2.1]at hy;cases hy),h.2.2⟩
theorem oG {fn:Func} {args:List EV} {vals:List Value} {M:Nat->Prop} {w:World} (hlt:∀b,M b->b<w.heap.size) (hargs:F8 P M w args vals) :
  AQ P (MY M w) (Ap fn args) { tmps:=vals.toArray++AfR (fn.ntmps-vals.toArray.size) undef,defers:=[] } w:=by
 have hl:=hargs.1;refine⟨GB,M,fun _=>False,⟨⟨Bl.refl _ _,fun b h=>h.elim⟩,fun k h=>h.elim⟩,fun b h=>.inl h,fun k o h=>by simp[Ap]at h,fun k o h=>by simp[Ap]at h,fun k o k' o' h=>by simp[Ap]at h,by simp[Ap],hlt,fun b h=>h.elim,?_,?_,?_,fun d h=>by simp at h,by simp⟩
 ·simp[Ap,hl]
 ·intro s e h;simp only[Ap,Afi]at h;obtain⟨⟨ev,i⟩,hm,he⟩:=h;simp only[Afx]at he;obtain⟨rfl,rfl⟩:=he;obtain⟨hi,hev⟩:=List.mem_zipIdx hm |> fun h=>(⟨by omega,by simpa using h.2.2⟩:i<args.length/\ev=args[i]'(by omega));refine⟨by simp[Ap];omega,fun _=>?_,fun hn=>absurd trivial hn⟩;have:=(hargs.2 i hi).2;have e1:EV.at args i=ev:=by rw[hev];simp[EV.at,AS,hi]
  rw[e1]at this;have e2:({ tmps:=vals.toArray++AfR (fn.ntmps-vals.toArray.size) undef,defers:=[] }:Act).eval (.tmp i)=vals.getD i undef:=by
   simp only[Act.eval,LS,AS];rw[Agc (by simp;omega)];simp
  rw[e2];exact this
 ·intro s e h q c v hq;simp only[Ap,Afi]at h;obtain⟨⟨ev,i⟩,hm,he⟩:=h;simp only[Afx]at he;obtain⟨rfl,rfl⟩:=he;cases hq
theorem Tu {M:Nat->Prop} {w:World} {st:St} {a:Act} {w':World} {env:As} {M' X:Nat->Prop} (hlt:∀b,M b->b<w.heap.size) (S:Am P (MY M w) st a w' env M' X) {r:SV} {v:Value} (hd:Au (fun b=>M' b\/X b) w' r v):HQ M w r (.returned v) w':=by
 obtain⟨⟨hb,hx⟩,_⟩:=S.gam;refine⟨v,fun b=>M' b\/X b\/M b,rfl,hb,fun b h=>.inr (.inr h),fun b h=>?_,fun b h=>?_,hd.weak (fun b h=>h.imp id .inl)⟩
 ·rcases h with h|h|h
  ·rcases S.mx b h with h|h
   ·exact .inl h
   ·exact .inr (hx b h)
  ·exact .inr (hx b h)
  ·exact .inl h
 ·rcases h with h|h|h
  ·exact S.mlt b h
  ·exact S.xlt b h
  ·exact Afp (hlt b h) hb.size
theorem Pk {f:Nat} {fn:Func} {c:Code} (hf:P.funcs[f]? = some fn) (hb:fn.body=some c) {C:Ak} (hC:GH P C) (hm:P.follows .mixedOrders=true) {K:Exit->St->Prop} {args:List EV} (h:vc P C c (Ap fn args) K)
  {M:Nat->Prop} {w:World} {vals:List Value} (hlt:∀b,M b->b<w.heap.size) (hargs:F8 P M w args vals) {R:Ending->World->Prop} (hK:∀e st,K e st->e=.normal\/e=.ret)
  (hR:∀e st a w' tmps,K e st->tmps=a.tmps->AQ P (MY M w) st a w'->∃v,(results fn tmps).run P w'=.ok v w'/\R (.returned v) w'):CallsIn Fence.wide 0 P f vals.toArray w R:=by
 have hG:=oD M w;refine callsIn_of_wp_marks hf hb trivial ?_ rfl;refine MV hG (hC.any _) hm c (Ap fn args) K _ h (fun e st' a' w' hk hs=>?_) _ _ (oG hlt hargs);have fin:LeavesInM Fence.wide 0 P fn a'.tmps R a'.defers .returning w':=Lo hG a'.defers a' w' rfl hs (fun a2 w2 ha hs2=>hR e st' a2 w2 _ hk ha.symm hs2);rcases hK e st' hk with rfl|rfl<;>exact fin
theorem oH {f:Nat} {fn:Func} {c:Code} (hf:P.funcs[f]? = some fn) (hb:fn.body=some c) {C:Ak} (hC:GH P C) (hm:P.follows .mixedOrders=true) {pre:List EV->Prop} {res:List EV->SV}
  (h:∀args,pre args->vc P C c (Ap fn args) (AJ P fn (res args))):Av P f (.fn pre res):=by
 intro M w args vals hlt hargs hp;refine Pk hf hb hC hm (h args hp) hlt hargs (fun e st hk=>?_) (fun e st a w' tmps hk ht hs=>?_)
 ·cases e<;>first|exact .inl rfl|exact .inr rfl|exact hk.elim
 ·obtain⟨env,M',X,S⟩:=hs;have key:(match Ik P st fn.results.toList with|some (ps,s)=>MT (ps++GG s (res args))|none=>False)->∃v,(results fn tmps).run P w'=.ok v w'/\HQ M w (res args) (.returned v) w':=by
   intro hz;split at hz
   ·rename_i ps s hr;obtain⟨h1,h2⟩:=all_append (Tt hz);obtain⟨v,hv,hd⟩:=MZ S hr h1 ht;exact⟨v,hv,Tu hlt S (Lr h2 hd)⟩
   ·exact hz.elim
  cases e<;>first|exact key hk|exact hk.elim
theorem oI {f:Nat} {fn:Func} {c:Code} (hf:P.funcs[f]? = some fn) (hb:fn.body=some c) {C:Ak} (hC:GH P C) (hm:P.follows .mixedOrders=true) {T:Type} {t0:T} {pre:List EV->Prop} {post:List EV->T->Prop} {res:List EV->T->SV}
  (h:∀args,pre args->vc P C c (Ap fn args) (Pj P fn T (post args) (res args))):Av P f (.rel T t0 pre post res):=by
 intro M w args vals hlt hargs hp;refine Pk hf hb hC hm (h args hp) hlt hargs (fun e st hk=>?_) (fun e st a w' tmps hk ht hs=>?_)
 ·cases e<;>first|exact .inl rfl|exact .inr rfl|exact hk.elim
 ·obtain⟨env,M',X,S⟩:=hs;have key : (match Ik P st fn.results.toList with|some (ps, s)=>∃t : T, By (ps++GG s (res args t)) (post args t)|none =>False) ->
    ∃v,(results fn tmps).run P w'=.ok v w'/\∃t:T,post args t/\HQ M w (res args t) (.returned v) w':=by
   intro hz;split at hz
   ·rename_i ps s hr;obtain⟨t,ht'⟩:=hz;obtain⟨h12,h3⟩:=Bz ht';obtain⟨h1,h2⟩:=all_append h12;obtain⟨v,hv,hd⟩:=MZ S hr h1 ht;exact⟨v,hv,t,h3,Tu hlt S (Lr h2 hd)⟩
   ·exact hz.elim
  cases e<;>first|exact key hk|exact hk.elim
def Fv (P:Program) (fn:Func) (T:Type) (post:T->Prop) (e:TypeId) (sz:Nat) (n:T->Nat) (get:T->Nat->List SV):Exit->St->Prop:=fun ex st=>match ex with
 | .normal | .ret=>match fn.results.toList with
   |[r]=>match Ij P st r with
     |some (ps,.row k)=>match BF st.own k with
       |some (.row e' sz' n' get')=>if e' == e&&sz' == sz then ∃t:T,By (ps ++ [n'=n t/\∀i,i<n'->get' i=get t i]) (post t)else False
       |_=>False
     |some (ps,.p (.raw (.slice none 0 0)))=>∃t:T,By (ps ++ [n t=0]) (post t)
     |_=>False
   |_=>False
 |_=>False
theorem oJ {f:Nat} {fn:Func} {c:Code} (hf:P.funcs[f]? = some fn) (hb:fn.body=some c) {C:Ak} (hC:GH P C) (hm:P.follows .mixedOrders=true) {T:Type} {t0:T} {pre:List EV->Prop} {post:List EV->T->Prop} {el:TypeId} {sz:Nat} {n:List EV->T->Nat} {get:List EV->T->Nat->List SV}
  (h:∀args,pre args->vc P C c (Ap fn args) (Fv P fn T (post args) el sz (n args) (get args))):Av P f (.fresh T t0 pre post el sz n get):=by
 intro M w args vals hlt hargs hp;refine Pk hf hb hC hm (h args hp) hlt hargs (fun e st hk=>?_) (fun e st a w' tmps hk ht hs=>?_)
 ·cases e<;>first|exact .inl rfl|exact .inr rfl|exact hk.elim
 ·obtain⟨env,M',X,S⟩:=hs;have key : Fv P fn T (post args) el sz (n args) (get args) .ret st->∃v, (results fn tmps).run P w' = .ok v w'/\∃t : T, post args t/\∃env v', Ending.returned v = .returned v'/\Bl w.heap.size w w' /\
    B8 P (fun b=>M b\/(w.heap.size<=b/\b<w'.heap.size/\env.at_ 0≠some b)) w' env 0 (.row el sz (n args t) (get args t))/\env.rv 0=v'/\(∀g,env.at_ 0=some g->w.heap.size<=g/\g<w'.heap.size):=by
   intro hz;obtain⟨⟨hb',hx⟩,_⟩:=S.gam;simp only[Fv]at hz;split at hz
   ·rename_i r hres;have hrun:∀v,(Gv tmps r).run P w'=.ok v w'->(results fn tmps).run P w'=.ok v w':=fun v hv=>by
     rw[Je];simp[AfW,hres,hv]
    split at hz
    ·rename_i ps k hre;split at hz
     ·rename_i e' sz' n' get' hl;split at hz
      ·rename_i hc;simp only[nT,beq_iff_eq]at hc;obtain⟨rfl,rfl⟩:=hc;obtain⟨t,hz⟩:=hz;obtain⟨h12,h3⟩:=Bz hz;obtain⟨h1,h2⟩:=all_append h12;obtain⟨hn,hg⟩:=Ax h2;obtain⟨vs,hr,hd⟩:=Lq S [r] ps [.sl sz' n' get'] (by simp[Jd,hre,MW,hl]) h1 (fun _ _ _ _ _=>trivial);rw[<- ht]at hr;have hrow:=S.own _ _ (Bp hl);have hat:=S.oat _ _ (Bp hl)
       -- the value that is read is the row's
       have hval:∃v,(Gv tmps r).run P w'=.ok v w'/\v=env.rv k:=by
        subst ht;unfold Ij at hre;cases r with
        |tmp t' =>
          simp only at hre;split at hre
          ·rename_i e'' hlt';cases hre;have:=(S.tmp _ _ (HR hlt')).2.1 trivial;refine⟨_,rfl,?_⟩;have hev:a.tmps.getD t' undef=a.eval (.tmp t'):=rfl;rw[hev];generalize a.eval (.tmp t')=q at this;cases this with
           |row hrv=>exact hrv.symm
          ·cases hre
        |cell c' t' =>
          simp only at hre;split at hre
          ·rename_i e'' y hl' hy;have hden:=(S.tmp _ _ (HR hl')).2.1 trivial;obtain⟨u,q1,q2⟩:=NY S hy hre h1 hden;refine⟨u,?_,by cases q2 with|row hrv=>exact hrv.symm⟩;have hev:a.tmps.getD c' undef=a.eval (.tmp c'):=rfl;simp only[Gv,hev];generalize a.eval (.tmp c')=q at q1;unfold Instr.loadAt at q1;cases q with
           |pointer ad =>
             cases ad with
             |none=>simp[Instr.sureAddr,stuck,Sem.run]at q1
             |some ad=>simpa[Instr.sureAddr,asAddr]using q1
           |_=>simp[Instr.sureAddr,stuck,Sem.run]at q1
          ·cases hre
       obtain⟨v,hv,rfl⟩:=hval;refine⟨_,hrun _ hv,t,h3,{ env with at_:=fun _=>env.at_ k,rv:=fun _=>env.rv k },_,rfl,hb',?_,rfl,fun g hg'=>⟨hx g (hat g hg').1,(hat g hg').2.2⟩⟩;obtain⟨hm',hgl,hO⟩:=hrow;rw[<- hn];refine⟨hm',fun i hi=>by rw[<- hg i hi];exact hgl i hi,?_⟩;rcases hO with hO|⟨g,cap,cur,ha,hr',hh,q3,q4,q5,q6⟩
       ·exact .inl hO
       ·refine .inr ⟨g,cap,cur,ha,hr',hh,q3,q4,q5,fun i hi j hj=>⟨(q6 i hi j hj).1,?_⟩⟩;rw[<- hg i hi];refine(q6 i hi j hj).2.weak fun b hb=>?_;rcases S.mx b hb with h|h
        ·exact .inl h
        ·exact .inr ⟨hx b h,S.mlt b hb,fun e=>(hat b e).2.1 hb⟩
      ·exact hz.elim
     ·exact hz.elim
    ·rename_i ps hre;obtain⟨t,hz⟩:=hz;obtain⟨h12,h3⟩:=Bz hz;obtain⟨h1,h2⟩:=all_append h12;have hn:=Ax h2;obtain⟨vs,hr,hd⟩:=Lq S [r] ps [.raw (.slice none 0 0)] (by simp[Jd,hre,MW]) h1 (fun _ _ _ _ _=>trivial);rw[<- ht]at hr;obtain⟨hlen,hden⟩:=hd
     match vs,hlen with
     |[v],_ =>
       have hv:v=.slice none 0 0:=by
        have:=hden 0 (by simp);simp[SV.at]at this;cases this;rfl
       have hv':(Gv tmps r).run P w'=.ok v w':=by
        simp only[List.mapM_cons,List.mapM_nil,Sem.run_bind]at hr;generalize (Gv tmps r).run P w'=q at hr ⊢;cases q with
        |ok x w2 =>
          simp at hr;obtain⟨rfl,rfl⟩:=hr;rfl
        |halt x w2=>simp[Result.andThen]at hr
       subst hv;refine⟨_,hrun _ hv',t,h3,{ GB with rv:=fun _=>.slice none 0 0 },_,rfl,hb',⟨by omega,fun i hi=>by omega,.inl ⟨rfl,rfl,hn⟩⟩,rfl,fun g hg=>by simp[GB]at hg⟩
    ·exact hz.elim
   ·exact hz.elim
  cases e<;>first|exact key hk|exact hk.elim
def Fw (s:List EV->Option (Prop×SV)) (xs0:List EV):Prop:=match s xs0 with|some (p,_)=>p|none=>False
def GI (s:List EV->Option (Prop×SV)) (xs0:List EV):SV:=match s xs0 with|some (_,r)=>r|none=>.raw undef
def AK (s:List EV->Option (Prop×SV)):Spec:=.fn (Fw s) (GI s)
def Tv (T:Type) (t0:T) (s:List EV->Option (Prop×(T->Prop)×(T->SV))):Spec:=.rel T t0 (fun xs0=>match s xs0 with|some (p,_)=>p|none=>False) (fun xs0=>match s xs0 with|some (_,q,_)=>q|none=>fun _=>False) (fun xs0=>match s xs0 with|some (_,_,r)=>r|none=>fun _=>.raw undef)
def Gw (T:Type) (t0:T) (e:TypeId) (sz:Nat) (s:List EV->Option (Prop×(T->Prop)×(T->Nat)×(T->Nat->List SV))):Spec :=
 .fresh T t0 (fun xs0=>match s xs0 with|some (p,_)=>p|none=>False) (fun xs0=>match s xs0 with|some (_,q,_)=>q|none=>fun _=>False) e sz (fun xs0=>match s xs0 with|some (_,_,n,_)=>n|none=>fun _=>0) (fun xs0=>match s xs0 with|some (_,_,_,g)=>g|none=>fun _ _=>[])
def AB:List (Nat×Spec)->Nat->Option Spec
 |[],_=>none
 |(f,s)::l,g=>if f == g then some s else AB l g
def Aa (P:Program) (L:List (Nat×Spec)):Prop:=∀f sp,AB L f=some sp->Av P f sp/\Ao P f
theorem Aa.nil:Aa P []:=fun f sp h=>by simp[AB]at h
theorem Aa.cons {f:Nat} {s:Spec} {L:List (Nat×Spec)} (h:Av P f s) (he:Ao P f) (k:Aa P L):Aa P ((f,s)::L):=fun g sp h'=>by
 simp only[AB]at h';split at h'
 ·rename_i hfg;simp at hfg;subst hfg;cases h';exact⟨h,he⟩
 ·exact k g sp h'
end
section
variable {P:Program}
inductive AX:SV->SV->Prop
 |refl (s):AX s s
 |sl {sz n get get'} (h:∀i,i<n->get i=get' i):AX (.sl sz n get) (.sl sz n get')
 |sl2 {sz n get get'} (hl:∀i,i<n->(get' i).length=(get i).length) (h:∀i,i<n->∀j,j<(get i).length->AX (SV.at (get i) j) (SV.at (get' i) j)):AX (.sl sz n get) (.sl sz n get')
 |agg {cs cs':List SV} (hl:cs'.length=cs.length) (h:∀i,i<cs.length->AX (SV.at cs i) (SV.at cs' i)):AX (.agg cs) (.agg cs')
 |clo {f:Nat} {cs cs':List SV} (hl:cs'.length=cs.length) (h:∀i,i<cs.length->AX (SV.at cs i) (SV.at cs' i)):AX (.clo f cs) (.clo f cs')
 |ref {cs cs':List SV} {off:Nat} (hl:cs'.length=cs.length) (h:∀i,i<cs.length->AX (SV.at cs i) (SV.at cs' i)):AX (.ref cs off) (.ref cs' off)
theorem AX.den {M:Nat->Prop} {w:World} {s s':SV} (h:AX s s'):∀{v:Value},Au M w s v->Au M w s' v:=by
 induction h with
 |refl s=>exact fun hd=>hd
 |@sl sz n get get' h =>
   intro v hd;cases hd with
   |sl _ _ _ A cap vs hcap hm hA hg ho hd =>
     exact .sl sz n get' A cap vs hcap hm hA (fun i hi=>by rw[<- h i hi];exact hg i hi) ho (fun i hi j hj=>by rw[<- h i hi];exact hd i hi j hj)
 |@sl2 sz n get get' hl h ih =>
   intro v hd;cases hd with
   |sl _ _ _ A cap vs hcap hm hA hg ho hd =>
     exact .sl sz n get' A cap vs hcap hm hA (fun i hi=>(hl i hi).trans (hg i hi)) ho (fun i hi j hj=>ih i hi j (by rw[hg i hi];exact hj) (hd i hi j hj))
 |@agg cs cs' hl h ih =>
   intro v hd;cases hd with
   |agg _ vs hl' hd=>exact .agg cs' vs (hl'.trans hl.symm) (fun i hi=>ih i (hl ▸ hi) (hd i (hl ▸ hi)))
 |@clo f cs cs' hl h ih =>
   intro v hd;cases hd with
   |clo _ _ vs hl' hd=>exact .clo f cs' vs (hl'.trans hl.symm) (fun i hi=>ih i (hl ▸ hi) (hd i (hl ▸ hi)))
 |@ref cs cs' off hl h ih =>
   intro v hd;cases hd with
   |ref _ _ vs ad hM hc ho hd=>exact .ref cs' off vs ad hM (fun j hj=>hc j (hl ▸ hj)) (fun j hj=>ho j (hl ▸ hj)) (fun j hj=>ih j (hl ▸ hj) (hd j (hl ▸ hj)))
inductive GJ:List SV->List SV->Prop
 |nil:GJ [] []
 |cons {s s' l l'} (h:AX s s') (k:GJ l l'):GJ (s::l) (s'::l')
theorem GJ.len {l l':List SV} (h:GJ l l'):l'.length=l.length:=by induction h<;>simp_all
theorem GJ.at {l l':List SV} (h:GJ l l'):∀i,i<l.length->AX (SV.at l i) (SV.at l' i):=by
 induction h with
 |nil=>intro i hi;simp at hi
 |@cons s s' l l' hs _ ih =>
   intro i hi;cases i with
   |zero=>exact hs
   |succ i=>exact ih i (by simpa using hi)
theorem GJ.den {M:Nat->Prop} {w:World} {l l':List SV} {vs:List Value} (h:GJ l l') (hd:Bk M w l vs):Bk M w l' vs :=
 ⟨hd.1.trans h.len.symm,fun i hi=>(h.at i (h.len ▸ hi)).den (hd.2 i (h.len ▸ hi))⟩
inductive Ek:List EV->List EV->Prop
 |nil:Ek [] []
 |p {s s' l l'} (h:AX s s') (k:Ek l l'):Ek (.p s::l) (.p s'::l')
 |same (e) {l l'} (k:Ek l l'):Ek (e::l) (e::l')
 |fn {f f':BV} {l l'} (h:∀xs0,f'.pre xs0->f.pre xs0/\f'.res xs0=f.res xs0) (k:Ek l l'):Ek (.fn f::l) (.fn f'::l')
theorem Ek.refl:∀l,Ek l l
 |[]=>.nil
 |e::l=>.same e (Ek.refl l)
theorem Ek.len {l l':List EV} (h:Ek l l'):l'.length=l.length:=by induction h<;>simp_all
theorem Ek.at {M:Nat->Prop} {w:World} {l l':List EV} (h:Ek l l'):∀i v,i<l.length->(KE (EV.at l i)=true/\Ar P M w GB (EV.at l i) v)->KE (EV.at l' i)=true/\Ar P M w GB (EV.at l' i) v:=by
 induction h with
 |nil=>intro i v hi;simp at hi
 |@p s s' l l' hs _ ih =>
   intro i v hi hd;cases i with
   |zero =>
     simp only[EV.at,AgV]at hd ⊢;obtain⟨_,hd⟩:=hd;cases hd with|p hd=>exact⟨rfl,.p (hs.den hd)⟩
   |succ i=>simpa[EV.at]using ih i v (by simpa using hi) (by simpa[EV.at]using hd)
 |@fn f f' l l' hf _ ih =>
   intro i v hi hd;cases i with
   |zero =>
     simp only[EV.at,AgV]at hd ⊢;obtain⟨_,hd⟩:=hd;cases hd with
     |fn hd =>
       obtain⟨g,first,caps,e,hn,hc⟩:=hd;exact⟨rfl,.fn ⟨g,first,caps,e,hn,fun M' w' hl hlt args vals hdl hp=>by rw[(hf args hp).2];exact hc M' w' hl hlt args vals hdl (hf args hp).1⟩⟩
   |succ i=>simpa[EV.at]using ih i v (by simpa using hi) (by simpa[EV.at]using hd)
 |@same e l l' _ ih =>
   intro i v hi hd;cases i with
   |zero=>simpa[EV.at]using hd
   |succ i=>simpa[EV.at]using ih i v (by simpa using hi) (by simpa[EV.at]using hd)
theorem Ek.args {M:Nat->Prop} {w:World} {l l':List EV} {vals:List Value} (h:Ek l l') (ha:F8 P M w l vals):F8 P M w l' vals :=
 ⟨ha.1.trans h.len.symm,fun i hi=>h.at i _ (h.len ▸ hi) (ha.2 i (h.len ▸ hi))⟩
def B2:List (Nat×List Nat)->Nat->List Nat
 |[],_=>[]
 |(k,v)::l,n=>if k == n then v else B2 l n
def Tw:List (Nat×(Int->SV))->Nat->Option (Int->SV)
 |[],_=>none
 |(k,v)::l,n=>if k == n then some v else Tw l n
def B3:List (Nat×List (Nat×Nat×TypeId×Nat))->Nat->List (Nat×Nat×TypeId×Nat)
 |[],_=>[]
 |(k,v)::l,n=>if k == n then v else B3 l n
def AV:List (Nat×EG)->Nat->Option EG
 |[],_=>none
 |(k,v)::l,n=>if k == n then some v else AV l n
def Ah (f:Func):Code:=match f.body with|some c=>c|none=>.skip
def Bw:List (Nat×FQ)->Nat->Option FQ
 |[],_=>none
 |(f,s)::l,g=>if f == g then some s else Bw l g
def AT:List (Nat×Dg)->Nat->Option Dg
 |[],_=>none
 |(f,s)::l,g=>if f == g then some s else AT l g
def Ag (P:Program) (L:List (Nat×FQ)):Prop:=∀f sp,Bw L f=some sp->H7 P f sp/\Ao P f
theorem Ag.nil:Ag P []:=fun f sp h=>by simp[Bw]at h
theorem Ag.cons {f:Nat} {s:FQ} {L:List (Nat×FQ)} (h:H7 P f s) (he:Ao P f) (k:Ag P L):Ag P ((f,s)::L):=fun g sp h'=>by
 simp only[Bw]at h';split at h'
 ·rename_i hfg;simp at hfg;subst hfg;cases h';exact⟨h,he⟩
 ·exact k g sp h'
def FD (f:BV):Prop:=∀xs0,f.pre xs0->∃b,f.res xs0=.bool b
theorem Pl {s:List EV->Option (Prop×SV)} (h:∀args p r,s args=some (p,r)->∃b,r=.bool b) (g:List SV->List EV):FD ⟨fun xs0=>Fw s (g xs0),fun xs0=>GI s (g xs0)⟩:=fun xs0 hp=>by
 simp only[Fw,GI]at hp ⊢;cases hs:s (g xs0)with
 |none=>simp[hs]at hp
 |some q =>
   obtain⟨p,r⟩:=q;obtain⟨b,hb⟩:=h _ p r hs;exact⟨b,hb⟩
theorem AM {f:Nat} {fn:Func} {c:Code} (hf:P.funcs[f]? = some fn) (hb:fn.body=some c) (hm:P.follows .mixedOrders=true) {s:List EV->Option (Prop×SV)}
  (h:∀args p r,s args=some (p,r)->p->∃args' C,vc P C c (Ap fn args') (AJ P fn r)/\Ek args args'/\GH P C):Av P f (AK s):=by
 intro M w args vals hlt ha hp;cases hs:s args with
 |none=>simp[Fw,hs]at hp
 |some q =>
   obtain⟨p,r⟩:=q;simp only[Fw,GI,hs]at hp ⊢;obtain⟨args',C,hv,hx,hC⟩:=h args p r hs hp;exact oH hf hb hC hm (pre:=fun a=>a=args') (res:=fun _=>r) (fun a e=>e ▸ hv) M w args' vals hlt (hx.args ha) rfl
theorem oK {f:Nat} {fn:Func} {c:Code} (hf:P.funcs[f]? = some fn) (hb:fn.body=some c) (hm:P.follows .mixedOrders=true) {T:Type} {t0:T} {s:List EV->Option (Prop×(T->Prop)×(T->SV))}
  (h:∀args p q r,s args=some (p,q,r)->p->∃args' C,vc P C c (Ap fn args') (Pj P fn T q r)/\Ek args args'/\GH P C):Av P f (Tv T t0 s):=by
 intro M w args vals hlt ha hp;cases hs:s args with
 |none=>simp[hs]at hp
 |some q =>
   obtain⟨p,q,r⟩:=q;simp only[hs]at hp ⊢;obtain⟨args',C,hv,hx,hC⟩:=h args p q r hs hp;exact oI hf hb hC hm (T:=T) (t0:=t0) (pre:=fun a=>a=args') (post:=fun _=>q) (res:=fun _=>r) (fun a e=>e ▸ hv) M w args' vals hlt (hx.args ha) rfl
theorem GK {f:Nat} {fn:Func} {c:Code} (hf:P.funcs[f]? = some fn) (hb:fn.body=some c) (hm:P.follows .mixedOrders=true) {T:Type} {t0:T} {e:TypeId} {sz:Nat} {s:List EV->Option (Prop×(T->Prop)×(T->Nat)×(T->Nat->List SV))}
  (h:∀args p q n g,s args=some (p,q,n,g)->p->∃args' C,vc P C c (Ap fn args') (Fv P fn T q e sz n g)/\Ek args args'/\GH P C):Av P f (Gw T t0 e sz s):=by
 intro M w args vals hlt ha hp;cases hs:s args with
 |none=>simp[hs]at hp
 |some q =>
   obtain⟨p,q,n,g⟩:=q;simp only[hs]at hp ⊢;obtain⟨args',C,hv,hx,hC⟩:=h args p q n g hs hp;exact oJ hf hb hC hm (T:=T) (t0:=t0) (pre:=fun a=>a=args') (post:=fun _=>q) (n:=fun _=>n) (get:=fun _=>g) (fun a e=>e ▸ hv) M w args' vals hlt (hx.args ha) rfl
def JX (_:Program) (fn:Func) (cnt:Nat):Exit->St->Prop:=fun e st=>match e with
 | .normal | .ret=>if fn.results.toList.isEmpty then(st.yk=cnt\/st.yk=cnt+1)else False
 |_=>False
theorem oL {G:Bn} {fn:Func} {caps:List SV} {vals:List Value} {l:Nat} {w:World} (hpin:∀nt,HS G GB nt) (hg:G.g 0 (fun _=>False) w) (hlt:∀b,G.m0 b->b<w.heap.size) (hd:Bk G.m0 w caps vals) :
  AQ P G (Ap fn (.yield l::caps.map .p)) { tmps:=(#[Value.func (.yield l) #[] #[]]++vals.toArray)++AfR (fn.ntmps-(#[Value.func (.yield l) #[] #[]]++vals.toArray).size) undef,defers:=[] } w:=by
 have hl:=hd.1;have hsz:(#[Value.func (.yield l) #[] #[]]++vals.toArray:Array Value).size=caps.length+1:=by simp;omega
 refine⟨GB,G.m0,fun _=>False,⟨hg,hpin _⟩,fun b h=>.inl h,fun k o h=>by simp[Ap]at h,fun k o h=>by simp[Ap]at h,fun k o k' o' h=>by simp[Ap]at h,by simp[Ap],hlt,fun b h=>h.elim,?_,?_,?_,fun d h=>by simp at h,by simp⟩
 ·simp only[Ap,Array.size_append,Array.size_replicate];simp;omega
 ·intro s e h;simp only[Ap,Afi]at h;obtain⟨⟨ev,i⟩,hm,he⟩:=h;simp only[Afx]at he;obtain⟨rfl,rfl⟩:=he;obtain⟨hi,hev⟩:=List.mem_zipIdx hm |> fun h=>(⟨by omega,by simpa using h.2.2⟩:i<(EV.yield l::caps.map EV.p).length/\ev=(EV.yield l::caps.map EV.p)[i]'(by omega));have hi':i<caps.length+1:=by simpa using hi
  refine⟨by simp[Ap];omega,fun _=>?_,fun hn=>absurd trivial hn⟩;have e2:({ tmps:=(#[Value.func (.yield l) #[] #[]]++vals.toArray)++AfR (fn.ntmps-(#[Value.func (.yield l) #[] #[]]++vals.toArray).size) undef,defers:=[] }:Act).eval (.tmp i)=(Value.func (.yield l) #[] #[]::vals).getD i undef:=by
   simp only[Act.eval,LS,AS];rw[Agc (by omega)];congr 1;have:(#[Value.func (.yield l) #[] #[]]++vals.toArray:Array Value)=(Value.func (.yield l) #[] #[]::vals).toArray:=by simp
   rw[this];simp
  rw[e2];cases i with
  |zero=>simp at hev;subst hev;exact .yield
  |succ i =>
    have hev2:ev=EV.p (caps[i]'(by omega)):=by simpa using hev
    rw[hev2];have:=hd.2 i (by omega);simp only[SV.at]at this;have e3:caps.getD i (.raw undef)=caps[i]'(by omega):=by simp[AS,show i<caps.length by omega]
    rw[e3]at this;simpa using Ar.p this
 ·intro s e h q c v hq;simp only[Ap,Afi]at h;obtain⟨⟨ev,i⟩,hm,he⟩:=h;simp only[Afx]at he;obtain⟨rfl,rfl⟩:=he;cases hq
theorem oM {f:Nat} {fn:Func} {c:Code} (hf:P.funcs[f]? = some fn) (hb:fn.body=some c) (hm:P.follows .mixedOrders=true) {it:FQ}
  (h:∀(caps:List SV) (l:Nat),it.pre caps->∃caps' C,vc P C c (Ap fn (.yield l::caps'.map .p)) (JX P fn (it.cnt caps))/\GJ caps caps'/\C.yld=some ⟨l,it.cnt caps,it.item caps⟩/\(∀f sp,C.specs f=some sp->Av P f sp/\Ao P f)/\J9 P C):H7 P f it:=by
 intro G hG l w caps vals hpre hlt hd hg hy;obtain⟨caps',C,hv,hx,hcy,hsp,hit⟩:=h caps l hpre;refine callsIn_of_wp_marks hf hb trivial ?_ rfl;have hG0:Bq { g:=G.g,m0:=G.m0 }:=hG;have hy0:KY P { g:=G.g,m0:=G.m0 } C:=hy C hcy;refine MV hG0 ⟨hsp,hy0,hit⟩ hm c _ _ _ hv (fun e st' a' w' hk hs=>?_) _ _ ?_;rotate_left
 ·have:=oL (P:=P) (G:={ g:=G.g,m0:=G.m0 }) (fn:=fn) (l:=l) (fun nt k h=>h.elim) hg hlt (hx.den hd);exact this
 have fin:(if fn.results.toList.isEmpty then(st'.yk=it.cnt caps\/st'.yk=it.cnt caps+1)else False)->LeavesInM Fence.wide 0 P fn a'.tmps (fun e w'=>∃v X,e=.returned v/\(G.g (it.cnt caps) X w'\/G.g (it.cnt caps+1) X w')) a'.defers .returning w':=fun hk=>by
  split at hk;rotate_left
  ·exact hk.elim
  rename_i hre;exact Lo hG0 a'.defers a' w' rfl hs (fun a2 w2 _ ⟨_,_,X,S⟩=>by
   have hr:fn.results = #[]:=by apply Array.ext';simpa using hre
   refine⟨.tuple #[],by rw[Je,hr];simp[Sem.run_pure],?_⟩;refine⟨_,X,rfl,?_⟩;have:=S.gam.1;rcases hk with h|h
   ·rw[h]at this;exact .inl this
   ·rw[h]at this;exact .inr this)
 cases e<;>first|exact fin hk|exact hk.elim
def JY (s:List SV->Option (Prop×Nat×(Nat->List SV))):FQ :=
 { pre:=fun c=>match s c with|some (p,_)=>p|none=>False,cnt:=fun c=>match s c with|some (_,n,_)=>n|none=>0,item:=fun c=>match s c with|some (_,_,g)=>g|none=>fun _=>[] }
theorem Na {f:Nat} {fn:Func} {c:Code} (hf:P.funcs[f]? = some fn) (hb:fn.body=some c) (hm:P.follows .mixedOrders=true) {s:List SV->Option (Prop×Nat×(Nat->List SV))}
  (h:∀(caps:List SV) (l:Nat) p n g,s caps=some (p,n,g)->p->∃caps' C,vc P C c (Ap fn (.yield l::caps'.map .p)) (JX P fn n)/\GJ caps caps'/\C.yld=some ⟨l,n,g⟩/\(∀f sp,C.specs f=some sp->Av P f sp/\Ao P f)/\J9 P C):H7 P f (JY s):=by
 refine oM hf hb hm (fun caps l hp=>?_);simp only[JY]at hp ⊢;cases hs:s caps with
 |none=>simp[hs]at hp
 |some q =>
   obtain⟨p,n,g⟩:=q;simp only[hs]at hp ⊢;exact h caps l p n g hs hp
end
section
variable {P:Program}
def D7 (fn:Func) (args:List EV) (own:List (Nat×Aq)):St:={ T:=args.zipIdx.map fun x=>(x.2,⟨none,x.1⟩),own:=own,yk:=0,stop:=false,nt:=args.length+(fn.ntmps-args.length) }
def Pm (env:As) (own:List (Nat×Aq)) (M:Nat->Prop) (W:World):Bn :=
 { g:=fun _ X w=>Same (EJ env own) W w/\∀b,X b->EJ env own b\/W.heap.size<=b,m0:=M,pin:=fun k=>k∈Be own,pe:=env }
theorem Tx (env:As) (own:List (Nat×Aq)) (M:Nat->Prop) (W:World):Bq (Pm env own M W):=by
 intro k X w X' w' ⟨h0,hx⟩ hs h1 h2;refine⟨⟨hs.os.trans h0.os,hs.tape.trans h0.tape,hs.output.trans h0.output,AfI h0.drawn hs.drawn,AfI h0.size hs.size,fun b hb hn=>?_⟩,fun b hb=>?_⟩
 ·refine(hs.block b (Afp hb h0.size) (fun hX=>?_)).trans (h0.block b hb hn);rcases hx b hX with h|h
  ·exact hn h
  ·omega
 ·rcases h2 b hb with h|h
  ·exact hx b h
  ·exact .inr (AfI h0.size h)
theorem Tz {fn:Func} {args:List EV} {own:List (Nat×Aq)} {vals:List Value} {M:Nat->Prop} {w:World} {env:As} (hlt:∀b,M b->b<w.heap.size) (hown:∀k o,(k,o)∈own->B8 P M w env k o)
  (hat:∀k o,(k,o)∈own->∀g,env.at_ k=some g->¬ M g/\g<w.heap.size) (hinj:∀k o k' o',(k,o)∈own->(k',o')∈own->k≠k'->∀g,env.at_ k=some g->env.at_ k'≠some g) (hnod:(Be own).Nodup)
  (hnt:∀k,k∈Be own->args.length+(fn.ntmps-args.length)<=k) (hl:vals.length=args.length) (hd:∀i,i<args.length->Ar P M w env (EV.at args i) (vals.getD i undef)) :
  AQ P (Pm env own M w) (D7 fn args own) { tmps:=vals.toArray++AfR (fn.ntmps-vals.toArray.size) undef,defers:=[] } w:=by
 refine⟨env,M,EJ env own,⟨⟨⟨rfl,rfl,rfl,Afo _,Afo _,fun _ _ _=>rfl⟩,fun b h=>.inl h⟩,fun k hk=>⟨hnt k hk,rfl,rfl⟩⟩,fun b h=>.inl h,hown,fun k o h g hg=>⟨⟨k,o,h,hg⟩,hat k o h g hg⟩,hinj,hnod,hlt,fun b ⟨k,o,h,hg⟩=>(hat k o h b hg).2,?_,?_,?_,fun d h=>by simp at h,by simp⟩
 ·simp[D7,hl]
 ·intro s e h;simp only[D7,Afi]at h;obtain⟨⟨ev,i⟩,hm,he⟩:=h;simp only[Afx]at he;obtain⟨rfl,rfl⟩:=he;obtain⟨hi,hev⟩:=List.mem_zipIdx hm |> fun h=>(⟨by omega,by simpa using h.2.2⟩:i<args.length/\ev=args[i]'(by omega));refine⟨by simp[D7];omega,fun _=>?_,fun hn=>absurd trivial hn⟩;have:=hd i hi;have e1:EV.at args i=ev:=by rw[hev];simp[EV.at,AS,hi]
  rw[e1]at this;have e2:({ tmps:=vals.toArray++AfR (fn.ntmps-vals.toArray.size) undef,defers:=[] }:Act).eval (.tmp i)=vals.getD i undef:=by
   simp only[Act.eval,LS,AS];rw[Agc (by simp;omega)];simp
  rw[e2];exact this
 ·intro s e h q c v hq;simp only[D7,Afi]at h;obtain⟨⟨ev,i⟩,hm,he⟩:=h;simp only[Afx]at he;obtain⟨rfl,rfl⟩:=he;cases hq
def Ls (P:Program) (st:St) (rs:List ResultVar):EV->List Prop
 | .p r=>match Ik P st rs with
   |some (ps,s)=>ps++GG s r
   |none=>[False]
 | .rsub k sz lo n=>match rs with
   |[r]=>match Ij P st r with
     |some (ps,.row k')=>if k'=k then(match BF st.own k with
       |some (.row _ sz' n' _)=>if sz'=sz then ps ++ [lo=0/\n=n']else [False]
       |_=>[False])else [False]
     |some (ps,e)=>ps++fitE e (.rsub k sz lo n)
     |none=>[False]
   |_=>[False]
 |_=>[False]
def Pn (P:Program) (fn:Func) (tr:Tr) (t:tr.T):Exit->St->Prop:=fun e st=>match e with
 | .normal | .ret=>∃u:tr.U,By (Ls P st fn.results.toList (tr.res t u)++EH st.own (tr.own' t u)) (tr.post t u)
 |_=>False
def Nb (ks:List Nat):EV->Bool
 | .p s=>Dn s
 | .rsub k _ _ _=>ks.contains k
 |_=>false
theorem oN {fn:Func} {M:Nat->Prop} {w:World} {G:Bn} {st:St} {a:Act} {env:As} {X:Nat->Prop} (S:Am P G st a w env M X) {r:EV} (h:all (Ls P st fn.results.toList r)) {tmps:Array Value} (ht:tmps=a.tmps) {ks:List Nat} (hr:Nb ks r=true) {env':As} (he:∀k,k∈ks->env'.at_ k=env.at_ k) {M':Nat->Prop} :
  ∃v,(results fn tmps).run P w=.ok v w/\Ar P M' w env' r v:=by
 cases r with
 |p s =>
   simp only[Ls]at h;split at h
   ·rename_i ps s' hrs;obtain⟨h1,h2⟩:=all_append h;obtain⟨v,hv,hd⟩:=MZ S hrs h1 ht;exact⟨v,hv,.p (Hk (Lr h2 hd) hr)⟩
   ·exact(Ax h).elim
 |rsub k sz lo n =>
   simp only[Ls]at h;split at h
   ·rename_i r hres;split at h
    ·rename_i ps k' hre;split at h
     ·rename_i hk;subst hk;split at h
      ·rename_i e' sz' n' get' hl;split at h
       ·rename_i hsz;subst hsz;obtain⟨h1,h2⟩:=all_append h;obtain⟨rfl,rfl⟩:=Ax h2;obtain⟨v,hv,hd⟩:=Lp S hre h1;subst ht;refine⟨v,by rw[Je];simp[AfW,hres,hv],?_⟩;obtain⟨hm,hgl,hO⟩:=S.own _ _ (Bp hl);cases hd with
        |row hrv =>
        rcases hO with ⟨_,hrv',hn⟩|⟨g,cap,cur,hg,hrv',_,hnc,_,_,_⟩
        ·rw[hrv']at hrv;subst hn;cases hrv;exact .rsub none 0 (Afo _) hm (fun h=>absurd h (Nat.lt_irrefl _))
        ·rw[hrv']at hrv;cases hrv;exact .rsub _ _ hnc hm (fun _=>⟨g,(he k' (by simpa[Nb]using hr)).trans hg,by rw[Nat.zero_mul]⟩)
       ·exact(Ax h).elim
      ·exact(Ax h).elim
     ·exact(Ax h).elim
    ·rename_i ps e _ hre;obtain⟨h1,h2⟩:=all_append h;obtain⟨v,hv,hd⟩:=Lp S hre h1;subst ht;refine⟨v,by rw[Je];simp[AfW,hres,hv],?_⟩;have hd:=Hl h2 hd;cases hd with
     |rsub A cap hc hm hA =>exact .rsub A cap hc hm (fun hn =>by
      obtain⟨g,hg,e⟩:=hA hn;exact⟨g,(he k (by simpa[Nb]using hr)).trans hg,e⟩)
    ·exact(Ax h).elim
   ·exact(Ax h).elim
 |_=>exact(Ax h).elim
structure oO (tr:Tr) (fn:Func) (ks:List Nat) (n:Nat):Prop where
 len:∀t,(tr.args t).length=n
 k1:∀t,Be (tr.own t)=ks
 k2:∀t u,Be (tr.own' t u)=ks
 res:∀t u,Nb ks (tr.res t u)=true
 inn:∀t u,(tr.own' t u).all (fun x=>x.2.within ks)=true
 chk:(Dh ks&&ks.all fun k=>decide (n+(fn.ntmps-n)<=k))=true
theorem T0 {f:Nat} {fn:Func} {c:Code} (hf:P.funcs[f]? = some fn) (hb:fn.body=some c) (hm:P.follows .mixedOrders=true) {tr:Tr} {ks:List Nat} {n:Nat} (F:oO tr fn ks n)
  (h:∀t,tr.pre t->∃C,vc P C c (D7 fn (tr.args t) (tr.own t)) (Pn P fn tr t)/\GH P C):Gn P f tr:=by
 obtain⟨hnod,hnt⟩:=AgK.1 F.chk;have hnod:=FC hnod;refine⟨fun t u=>(F.k2 t u).trans (F.k1 t).symm,fun t hpre M w env vals hlt hown hat hinj hl hd=>?_⟩;obtain⟨C,hv,hC⟩:=h t hpre;have hG:=Tx env (tr.own t) M w;refine callsIn_of_wp_marks hf hb trivial ?_ rfl;refine MV hG (hC.any _) hm c _ _ _ hv (fun e st' a' w' hk hs=>?_) _ _ (Tz hlt hown hat hinj (by rw[F.k1];exact hnod) (fun k hk=>by
  rw[F.k1]at hk;have:=Afj.1 hnt k hk;rw[F.len];simpa using this) hl hd)
 have key : (∃u : tr.U, By (Ls P st' fn.results.toList (tr.res t u)++EH st'.own (tr.own' t u)) (tr.post t u)) ->
   LeavesInM Fence.wide 0 P fn a'.tmps (RP P tr t M w env) a'.defers .returning w':=fun hz=>by
  obtain⟨u,hz⟩:=hz;obtain⟨h12,hpost⟩:=Bz hz;obtain⟨h12,hO⟩:=all_append h12;exact Lo hG a'.defers a' w' rfl hs (fun a2 w2 ha ⟨env2,M2,X2,S⟩=>by
   obtain⟨⟨hsame,hx⟩,hpin⟩:=S.gam;have hO':=Gp S hO;have pin:∀k,k∈ks->env.at_ k=env2.at_ k/\env.rv k=env2.rv k:=fun k hk=>by
    obtain⟨_,e1,e2⟩:=hpin k (by show k∈Be (tr.own t);rw[F.k1];exact hk);exact⟨e1.symm,e2.symm⟩
   obtain⟨v,hv,hden⟩:=oN S h12 (tmps:=a'.tmps) ha.symm (F.res t u) (env':=env) (fun k hk=>(pin k hk).1) (M':=fun b=>M b\/M2 b);have hMl:∀b,(M b\/M2 b)->b<w2.heap.size:=fun b hb=>by
    rcases hb with hb|hb
    ·exact Afp (hlt b hb) hsame.size
    ·exact S.mlt b hb
   have hlat:Bg M2 (fun b=>M b\/M2 b) w2 w2:=⟨Afo _,fun _ _=>rfl,fun _ h=>.inr h⟩;have hown2:∀k o,(k,o)∈tr.own' t u->B8 P (fun b=>M b\/M2 b) w2 env k o:=fun k o hk=>by
    have hkk:k∈ks:=by rw[<- F.k2 t u];exact Afi.2 ⟨_,hk,rfl⟩
    have hin:=Afj.1 (F.inn t u) _ hk;obtain⟨p1,p2⟩:=pin k hkk;exact(hO' k o hk).2.move hlat p1 p2 (fun _ _=>rfl) (fun j hj=>pin j (OB hin j hj))
   refine⟨v,hv,u,v,fun b=>M b\/M2 b,hpost,rfl,hsame,fun b hb=>.inl hb,fun b hb=>?_,hMl,hown2,hden⟩;rcases hb with hb|hb
   ·exact .inl hb
   ·rcases S.mx b hb with h|h
    ·exact .inl h
    ·rcases hx b h with ⟨k,o,hk,hg⟩|h
     ·exfalso;have hkk:k∈ks:=by rw[<- F.k1 t];exact Afi.2 ⟨_,hk,rfl⟩
      have hkk':k∈Be (tr.own' t u):=by rw[F.k2];exact hkk
      obtain⟨⟨k2,o2⟩,hm2,e2⟩:=Afi.1 hkk';simp only at e2;subst e2;obtain⟨o3,h3⟩:=(hO' k2 o2 hm2).1;exact(S.oat k2 o3 h3 b ((pin k2 hkk).1 ▸ hg)).2.1 hb
     ·exact .inr h)
 cases e<;>first|exact key hk|exact hk.elim
def Tr.lt (tr:Tr) (mu:tr.T->Nat) (n:Nat):Tr:={ tr with pre:=fun t=>tr.pre t/\mu t<n }
def HF:List (Nat×Tr)->Nat->Option Tr
 |[],_=>none
 |(f,s)::l,g=>if f == g then some s else HF l g
def DS (P:Program) (L:List (Nat×Tr)):Prop:=∀f tr,HF L f=some tr->Gn P f tr/\Ao P f
theorem DS.nil:DS P []:=fun f sp h=>by simp[HF]at h
theorem DS.cons {f:Nat} {s:Tr} {L:List (Nat×Tr)} (h:Gn P f s) (he:Ao P f) (k:DS P L):DS P ((f,s)::L):=fun g sp h'=>by
 simp only[HF]at h';split at h'
 ·rename_i hfg;simp at hfg;subst hfg;cases h';exact⟨h,he⟩
 ·exact k g sp h'
theorem FamsOk.none {C:Ak} (h:∀g,C.fams g=Af5):∀g c,C.fams g=some c->IQ P g c/\Ao P g:=fun g mk hg=>by rw[h g]at hg;cases hg
theorem GE.no1 {C:Ak} (h:∀g,C.mks g=Af5):∀g mk,C.mks g=some mk->Dq P g mk/\Ao P g:=fun g mk hg=>by rw[h g]at hg;cases hg
theorem GE.none {C:Ak} (h:∀g,C.mks g=Af5) (h2:∀g,C.fams g=Af5:=by intro _;rfl):GE P C:=⟨GE.no1 h,FamsOk.none h2⟩
theorem Aw.no1 {C:Ak} (h:∀g,C.trs g=Af5):∀g tr,C.trs g=some tr->Gn P g tr/\Ao P g:=fun g tr hg=>by rw[h g]at hg;cases hg
theorem Aw.none {C:Ak} (h:∀g,C.trs g=Af5) (h2:∀g,C.mks g=Af5:=by intro _;rfl) (h3:∀g,C.fams g=Af5:=by intro _;rfl):Aw P C:=⟨fun g tr hg=>(by rw[h g]at hg;cases hg),GE.none h2 h3⟩
def Lt (P:Program) (st:St):List ResultVar->Option (List Prop×List EV)
 |[]=>some ([],[])
 |r::l=>match Ij P st r,Lt P st l with
   |some (ps,e),some (qs,es)=>some (ps++qs,e::es)
   |_,_=>none
def Nc (P:Program) (st:St) (rs:List ResultVar) (e:EV):List Prop:=match rs with
 |[r]=>match Ij P st r with
   |some (ps,e')=>ps++fitE e' e
   |none=>[False]
 |rs=>match e with
   | .p s=>if Dn s then(match Ik P st rs with
     |some (ps,s')=>ps++GG s' s
     |none=>[False])else(match Lt P st rs with
     |some (ps,es)=>match Dc es with
       |some ss=>ps++GG (.tup ss) s
       |none=>[False]
     |none=>[False])
   | .ag true cs=>match Lt P st rs with
     |some (ps,es)=>ps++H5 es cs
     |none=>[False]
   |_=>[False]
def Fx (P:Program) (fn:Func) (mk:Mk) (t:mk.T):Exit->St->Prop:=fun e st=>match e with
 | .normal | .ret=>∃u:mk.U,By (Nc P (st.nilRows mk.nilr) fn.results.toList ((mk.res t u).ren (Ei mk.mv))++(EH (st.nilRows mk.nilr).own (Cp (Ei mk.mv) (mk.lent' t u))++EH (st.nilRows mk.nilr).own (Cp (Ei mk.mv) (mk.own t u)))) (mk.post t u)
 |_=>False
structure oP (mk:Mk) (fn:Func) (n:Nat):Prop where
 len:∀t,(mk.args t).length=n
 k1:∀t,Be (mk.lent t)=mk.lkeys
 k2:∀t u,Be (mk.lent' t u)=mk.lkeys
 k3:∀t u,Be (mk.own t u)=mk.keys
 inl:∀t u,(mk.lent' t u).all (fun x=>x.2.within mk.lkeys)=true
 inn:∀t u,(mk.own t u).all (fun x=>x.2.within (mk.lkeys++mk.keys))=true/\(mk.res t u).within (mk.lkeys++mk.keys)=true
 chk:(Dh (mk.lkeys++mk.keys)&&mk.lkeys.all fun k=>decide (n+(fn.ntmps-n)<=k))=true
 mvc:(match mk.mv with|some (k,s)=>mk.keys.isEmpty&&(mk.lkeys.contains k&&decide (s<n+(fn.ntmps-n)))|none=>true)=true:=by rfl
theorem Po {M:Nat->Prop} {w:World} {G:Bn} {st:St} {a:Act} {env:As} {X:Nat->Prop} (S:Am P G st a w env M X):∀{l:List ResultVar} {ps:List Prop} {ss:List EV},Lt P st l=some (ps,ss)->all ps ->
  ∃vs:List Value,(l.mapM (Gv a.tmps)).run P w=.ok vs w/\vs.length=l.length/\vs.length=ss.length/\∀i,i<ss.length->Ar P M w env (EV.at ss i) (vs.getD i undef)
 |[],ps,ss,h,_=>by
   cases h;exact⟨[],by simp,rfl,rfl,fun i hi=>absurd hi (Rc _)⟩
 |r::l,ps,ss,h,hp=>by
   unfold Lt at h;split at h
   ·rename_i ps1 s1 qs ss1 h1 h2;cases h;obtain⟨q1,q2⟩:=all_append hp;obtain⟨v,hv,hd⟩:=Lp S h1 q1;obtain⟨vs,r1,r2,r3,r4⟩:=Po S h2 q2;refine⟨v::vs,by simp[hv,r1],by simp[r2],by simp[r3],fun i hi=>?_⟩;cases i with
    |zero=>simpa[EV.at]using hd
    |succ i=>simpa[EV.at]using r4 i (by simpa using hi)
   ·cases h
theorem oQ {fn:Func} {M:Nat->Prop} {w:World} {G:Bn} {st:St} {a:Act} {env:As} {X:Nat->Prop} (S:Am P G st a w env M X) {r:EV} (h:all (Nc P st fn.results.toList r)) {tmps:Array Value} (ht:tmps=a.tmps) :
  ∃v,(results fn tmps).run P w=.ok v w/\Ar P M w env r v:=by
 unfold Nc at h;split at h
 ·rename_i r0 hres;split at h
  ·rename_i ps e hre;obtain⟨h1,h2⟩:=all_append h;obtain⟨v,hv,hd⟩:=Lp S hre h1;subst ht;exact⟨v,by rw[Je];simp[AfW,hres,hv],Hl h2 hd⟩
  ·exact(Ax h).elim
 ·rename_i hne;have tup:∀vs:List Value,vs.length=fn.results.toList.length->(fn.results.toList.mapM (Gv a.tmps)).run P w=.ok vs w->(results fn a.tmps).run P w=.ok (.tuple vs.toArray) w:=fun vs r2 r1=>by
   have hno:¬ vs.length=1:=fun hc=>by
    rw[hc]at r2
    match hq:fn.results.toList,r2 with
    |[r0],_=>exact hne r0 hq
   rw[Je];simp[AfW,r1,hno]
  split at h
  ·split at h
   ·rename_i hn;split at h
    ·rename_i hrs;obtain⟨h1,h2⟩:=all_append h;obtain⟨v,hv,hd⟩:=MZ S hrs h1 ht;exact⟨v,hv,.p (Hk (Lr h2 hd) hn)⟩
    ·exact(Ax h).elim
   ·split at h
    ·rename_i hrs;split at h
     ·rename_i ss hss;obtain⟨h1,h2⟩:=all_append h;subst ht;obtain⟨vs,r1,r2,r3,r4⟩:=Po S hrs h1;have q:=IF hss r3 r4;exact⟨.tuple vs.toArray,tup vs r2 r1,.p (Lr h2 (.tup _ vs q.1 q.2))⟩
     ·exact(Ax h).elim
    ·exact(Ax h).elim
  ·split at h
   ·rename_i cs _ _ _ hrs;obtain⟨h1,h2⟩:=all_append h;subst ht;obtain⟨vs,r1,r2,r3,r4⟩:=Po S hrs h1;obtain⟨f1,f2⟩:=IR h2;exact⟨.tuple vs.toArray,tup vs r2 r1,.ag true cs vs (r3.trans f1) (fun i hi=>Hl (f2 i hi) (r4 i (by omega)))⟩
   ·exact(Ax h).elim
  ·exact(Ax h).elim
theorem FE {f:Nat} {fn:Func} {c:Code} (hf:P.funcs[f]? = some fn) (hb:fn.body=some c) (hm:P.follows .mixedOrders=true) {mk:Mk} {n:Nat} (F:oP mk fn n)
  (h:∀t,mk.pre t->∃C,vc P C c (D7 fn (mk.args t) (mk.lent t)) (Fx P fn mk t)/\GH P C):Dq P f mk:=by
 obtain⟨hnod,hnt⟩:=AgK.1 F.chk;obtain⟨hnodl,_,hdis⟩:=List.nodup_append.1 (FC hnod);have mvI:(mk.mv=none\/mk.keys = [])/\(∀k,k∈Cs mk.mv->k∈mk.lkeys)/\(∀k,k ∉ Cs mk.mv->Ei mk.mv k=k)/\∀k,k∈Cs mk.mv->∀q,q∈mk.lkeys->Ei mk.mv k≠q:=by
  have h1:=F.mvc;cases hmv:mk.mv with
  |none=>exact⟨.inl rfl,fun k h=>(by cases h),fun _ _=>rfl,fun k h=>(by cases h)⟩
  |some x =>
    obtain⟨k0,s0⟩:=x;rw[hmv]at h1;simp only[nT,List.isEmpty_iff,Afq,decide_eq_true_eq]at h1;refine⟨.inr h1.1,fun k h=>?_,fun k h=>?_,fun k h q hq=>?_⟩
    ·simp only[Cs,Afr]at h;rw[h];exact h1.2.1
    ·simp only[Cs,Afr]at h;simp only[Ei];exact if_neg h
    ·simp only[Cs,Afr]at h;have:=Afj.1 hnt q hq;simp only[decide_eq_true_eq]at this;simp only[Ei,if_pos h];omega
 obtain⟨mv1,mv2,mv3,mv4⟩:=mvI;refine⟨⟨F.k1,F.k2,F.k3,fun t u=>⟨F.inl t u,F.inn t u⟩,mv1,mv2⟩,fun t hpre M w env vals hlt hown hat hinj hl hd=>?_⟩;obtain⟨C,hv,hC⟩:=h t hpre;have hG:=Tx env (mk.lent t) M w;refine callsIn_of_wp_marks hf hb trivial ?_ rfl;refine MV hG (hC.any _) hm c _ _ _ hv (fun e st' a' w' hk hs=>?_) _ _ (Tz hlt hown hat hinj (by rw[F.k1];exact hnodl) (fun k hk=>by
  rw[F.k1]at hk;have:=Afj.1 hnt k hk;rw[F.len];simpa using this) hl hd)
 have hs2:=AQ.nilRows mk.nilr hs;have key:∀st',AQ P (Pm env (mk.lent t) M w) st' a' w'->(∃u:mk.U,By (Nc P st' fn.results.toList ((mk.res t u).ren (Ei mk.mv))++(EH st'.own (Cp (Ei mk.mv) (mk.lent' t u))++EH st'.own (Cp (Ei mk.mv) (mk.own t u)))) (mk.post t u))->LeavesInM Fence.wide 0 P fn a'.tmps (RQ P mk t M w env) a'.defers .returning w':=fun st' hs hz=>by
  obtain⟨u,hz⟩:=hz;obtain⟨h12,hpost⟩:=Bz hz;obtain⟨h12,hOO⟩:=all_append h12;obtain⟨hOl,hO⟩:=all_append hOO;exact Lo hG a'.defers a' w' rfl hs (fun a2 w2 ha ⟨env2,M2,X2,S⟩=>by
   obtain⟨⟨hsame,hx⟩,hpin⟩:=S.gam;have hOl':=Gp S hOl;have hO':=Gp S hO;obtain⟨v,hv,hden⟩:=oQ S h12 (tmps:=a'.tmps) ha.symm;have hlat:Bg M2 (fun b=>M b\/M2 b) w2 w2:=⟨Afo _,fun _ _=>rfl,fun _ h=>.inr h⟩;have pin:∀k,k∈mk.lkeys->env2.at_ k=env.at_ k/\env2.rv k=env.rv k:=fun k hk=>by
    obtain⟨_,e1,e2⟩:=hpin k (by show k∈Be (mk.lent t);rw[F.k1];exact hk);exact⟨e1,e2⟩
   have keyL:∀k,k∈mk.lkeys->∃o,(Ei mk.mv k,o)∈st'.own:=fun k hk=>by
    rw[<- F.k2 t u]at hk;obtain⟨⟨k2,o2⟩,hm2,e2⟩:=Afi.1 hk;cases e2;exact(hOl' _ _ (EL hm2)).1
   have keyN:∀k,k∈mk.keys->k ∉ Cs mk.mv:=fun k hk hm=>hdis k (mv2 k hm) k hk rfl;have keyO:∀k,k∈mk.keys->∃o,(k,o)∈st'.own:=fun k hk=>by
    have hk2:=hk;rw[<- F.k3 t u]at hk2;obtain⟨⟨k2,o2⟩,hm2,e2⟩:=Afi.1 hk2;have e2:k2=k:=e2;subst e2;have:=(hO' _ _ (EL hm2)).1;rwa[mv3 _ (keyN _ hk)]at this
   -- a lent block that the state still holds under its name,or that of the row that may have moved
   have notL:∀b,EJ env (mk.lent t) b->(∃k o,(k,o)∈st'.own/\k∈mk.lkeys/\env2.at_ k=some b)\/∃k,k∈Cs mk.mv/\env.at_ k=some b:=fun b ⟨k,o,h1,h2⟩=>by
    have hkk:k∈mk.lkeys:=by rw[<- F.k1 t];exact Afi.2 ⟨_,h1,rfl⟩
    by_cases hm:k∈Cs mk.mv
    ·exact .inr ⟨k,hm,h2⟩
    ·obtain⟨o',ho'⟩:=keyL k hkk;rw[mv3 k hm]at ho';exact .inl ⟨k,o',ho',hkk,(pin k hkk).1.trans h2⟩
   refine⟨v,hv,u,v,env2.via (Ei mk.mv),fun b=>M b\/M2 b,hpost,rfl,hsame,fun b hb=>.inl hb,fun b hb=>?_,fun b hb=>?_,fun k hk hm=>?_,fun k hk g hg=>?_,fun k hk g hg=>?_,fun k1 k2 h1 h2 hne g hg=>?_,fun k o hk=>?_,fun k o hk=>?_,(JC _ _ hden).later hlat⟩
   ·rcases hb with hb|hb
    ·exact .inl hb
    ·rcases S.mx b hb with h|h
     ·exact .inl h
     ·rcases hx b h with h|h
      ·rcases notL b h with ⟨k,o,h3,_,h4⟩|⟨k,h3,h4⟩
       ·exact absurd hb (S.oat k o h3 b h4).2.1
       ·refine .inr (.inr ⟨k,h3,h4,fun e=>?_⟩);obtain⟨o,ho⟩:=keyL k (mv2 k h3);exact(S.oat _ o ho b e).2.1 hb
      ·refine .inr (.inl ⟨h,fun k hk e=>?_⟩);rcases Afz.1 hk with hk|hk
       ·obtain⟨o,ho⟩:=keyO k hk;have e:env2.at_ (Ei mk.mv k)=some b:=e;rw[mv3 k (keyN k hk)]at e;exact(S.oat k o ho b e).2.1 hb
       ·obtain⟨o,ho⟩:=keyL k (mv2 k hk);exact(S.oat _ o ho b e).2.1 hb
   ·rcases hb with hb|hb
    ·exact Afp (hlt b hb) hsame.size
    ·exact S.mlt b hb
   ·show env2.at_ (Ei mk.mv k)=_/\env2.rv (Ei mk.mv k)=_;rw[mv3 k hm];exact pin k hk
   ·obtain⟨o,ho⟩:=keyO k hk;have hg:env2.at_ (Ei mk.mv k)=some g:=hg;rw[mv3 k (keyN k hk)]at hg;obtain⟨q1,_,q3⟩:=S.oat k o ho g hg;refine⟨?_,q3⟩;rcases hx g q1 with h|h
    ·rcases notL g h with ⟨k2,o2,h3,h4,h5⟩|⟨k2,h3,h4⟩
     ·exact absurd h5 (S.inj k o k2 o2 ho h3 (fun e=>hdis k2 h4 k hk e.symm) g hg)
     ·rcases mv1 with h6|h6
      ·rw[h6]at h3;cases h3
      ·rw[h6]at hk;cases hk
    ·exact h
   ·obtain⟨o,ho⟩:=keyL k (mv2 k hk);have hg:env2.at_ (Ei mk.mv k)=some g:=hg;obtain⟨q1,_,q3⟩:=S.oat _ o ho g hg;rcases hx g q1 with h|h
    ·rcases notL g h with ⟨k2,o2,h3,h4,h5⟩|⟨k2,h3,h4⟩
     ·exact absurd h5 (S.inj _ o k2 o2 ho h3 (mv4 k hk k2 h4) g hg)
     ·rw[Sg hk h3];exact .inl h4
    ·exact .inr ⟨h,q3⟩
   ·obtain⟨o1,ho1⟩:=keyO k1 h1;obtain⟨o2,ho2⟩:=keyO k2 h2;have hg:env2.at_ (Ei mk.mv k1)=some g:=hg;show env2.at_ (Ei mk.mv k2)≠some g;rw[mv3 k1 (keyN k1 h1)]at hg;rw[mv3 k2 (keyN k2 h2)];exact S.inj k1 o1 k2 o2 ho1 ho2 hne g hg
   ·exact(JE (hOl' _ _ (EL hk)).2).move hlat rfl rfl (fun _ _=>rfl) (fun _ _=>⟨rfl,rfl⟩)
   ·exact(JE (hO' _ _ (EL hk)).2).move hlat rfl rfl (fun _ _=>rfl) (fun _ _=>⟨rfl,rfl⟩))
 cases e<;>first|exact key _ hs2 hk|exact hk.elim
def Mk.lt (mk:Mk) (mu:mk.T->Nat) (n:Nat):Mk:={ mk with pre:=fun t=>mk.pre t/\mu t<n }
theorem Lu {f:Nat} {mk:Mk} (mu:mk.T->Nat) (hk:(∀t,Be (mk.lent t)=mk.lkeys)/\(∀t u,Be (mk.lent' t u)=mk.lkeys)/\(∀t u,Be (mk.own t u)=mk.keys) /\
  (∀t u,(mk.lent' t u).all (fun x=>x.2.within mk.lkeys)=true/\(mk.own t u).all (fun x=>x.2.within (mk.lkeys++mk.keys))=true/\(mk.res t u).within (mk.lkeys++mk.keys)=true)/\(mk.mv=none\/mk.keys = [])/\∀k,k∈Cs mk.mv->k∈mk.lkeys) (h:∀n,Dq P f (mk.lt mu n)->Dq P f (mk.lt mu (n+1))):Dq P f mk:=by
 have all:∀n,Dq P f (mk.lt mu n):=fun n=>by
  induction n with
  |zero=>exact⟨hk,fun t hp=>absurd hp.2 (Rc _)⟩
  |succ n ih=>exact h n ih
 exact⟨hk,fun t hp=>(all (mu t+1)).2 t ⟨hp,Nat.lt_succ_self _⟩⟩
def El:List (Nat×Mk)->Nat->Option Mk
 |[],_=>none
 |(f,s)::l,g=>if f == g then some s else El l g
def Lv:List (Nat×F9)->Nat->Option F9
 |[],_=>none
 |(f,s)::l,g=>if f == g then some s else Lv l g
def T1:List (Nat×J3)->Nat->Option J3
 |[],_=>none
 |(f,s)::l,g=>if f == g then some s else T1 l g
def Il (P:Program) (L:List (Nat×F9)):Prop:=∀f c,Lv L f=some c->IQ P f c/\Ao P f
theorem Il.nil:Il P []:=fun f sp h=>by simp[Lv]at h
theorem Il.cons {f:Nat} {s:F9} {L:List (Nat×F9)} (h:IQ P f s) (he:Ao P f) (k:Il P L):Il P ((f,s)::L):=fun g sp h'=>by
 simp only[Lv]at h';split at h'
 ·rename_i hfg;simp at hfg;subst hfg;cases h';exact⟨h,he⟩
 ·exact k g sp h'
def Bm (P:Program) (L:List (Nat×Mk)):Prop:=∀f mk,El L f=some mk->Dq P f mk/\Ao P f
theorem Bm.nil:Bm P []:=fun f sp h=>by simp[El]at h
theorem Bm.cons {f:Nat} {s:Mk} {L:List (Nat×Mk)} (h:Dq P f s) (he:Ao P f) (k:Bm P L):Bm P ((f,s)::L):=fun g sp h'=>by
 simp only[El]at h';split at h'
 ·rename_i hfg;simp at hfg;subst hfg;cases h';exact⟨h,he⟩
 ·exact k g sp h'
end
section
open Go.RowKit Go.ChangeShapes Go.WideShapes
inductive Sh where
 |int
 |bool
 |st (l:List Sh)
 |sl (e:Sh)
def Sh.size:Sh->Nat
 | .int=>1
 | .bool=>1
 | .sl _=>1
 | .st l=>sizes l
where sizes:List Sh->Nat
 |[]=>0
 |s::l=>s.size+sizes l
def GL:Sh->List SV->Prop
 | .int,l=>∃n,l = [.int .i64 n]/\Ad .i64 n
 | .bool,l=>∃b,l = [.bool b]
 | .sl e,l=>∃n g,l = [.sl e.size n g]/\n<=maxLen/\∀i,i<n->GL e (g i)
 | .st ss,l=>fits ss l
where fits:List Sh->List SV->Prop
 |[],l=>l = []
 |s::ss,l=>∃a b,l=a++b/\GL s a/\fits ss b
def EM (P:Program):Sh->TypeId->Bool
 | .int,t=>match P.underlying t with|some (.int .i64)=>true|_=>false
 | .bool,t=>match P.underlying t with|some .bool=>true|_=>false
 | .sl e,t=>match P.underlying t with|some (.slice et)=>P.cellsOf et == e.size&&decide (0<e.size)&&EM P e et|_=>false
 | .st ss,t=>match P.underlying t with|some (.struct fs)=>P.cellsOf t == Sh.size.sizes ss&&fields P ss fs.toList 0|_=>false
where fields (P:Program):List Sh->List Field->Nat->Bool
 |[],[],_=>true
 |s::ss,f::fs,off=>f.offset == off&&P.cellsOf f.type == s.size&&EM P s f.type&&fields P ss fs (off+s.size)
 |_,_,_=>false
variable {H:Type} {enc:TypeId×Value->H} {P:Program} {w:World} {base:Nat} {spare:Nat->Bool} {held:Bool}
def Pp (w:World) (sh:Sh) (cs:List Value):Prop:=∃ss,GL sh ss/\ss.length=sh.size/\Bk (fun b=>b<w.heap.size) w ss cs/\∀v,v∈cs->v.oneCell'=true
theorem oR {M:Nat->Prop} {xs0 bs:List SV} {us vs:List Value} (h1:Bk M w xs0 us) (h2:Bk M w bs vs):Bk M w (xs0++bs) (us++vs):=by
 refine⟨by simp[h1.1,h2.1],fun i hi=>?_⟩;simp only[SV.at,AS]
 by_cases hlt:i<xs0.length
 ·rw[Af2 hlt,Af2 (by have:=h1.1;omega)];have:=h1.2 i hlt;simpa[SV.at,AS]using this
 ·have e:=h1.1;rw[Af6 (by omega),Af6 (by omega),e];have:=h2.2 (i-xs0.length) (by simp at hi;omega);simpa[SV.at,AS]using this
theorem oS {a:Addr} {v:Value} (h:w.cell? a=some v):a.block<w.heap.size:=by
 rcases AfP a.block w.heap.size with h'|h'
 ·exact h'
 ·simp[World.cell?,Ag6 h']at h
theorem oU {n:Int} (h:(Lit.int .i64 n).wf=true):Ad .i64 n:=by
 simp[Lit.wf]at h;have e1:IntKind.i64.min = -9223372036854775808:=rfl;have e2:IntKind.i64.max=9223372036854775807:=rfl;exact⟨by omega,by omega⟩
mutual
theorem Pq:∀(sh:Sh) {t:TypeId} {fuel:Nat} {cs:List Value} {x:DataW H×List MemPlace},EM P sh t=true->DataW.trod enc P w base spare held fuel t cs=some x->Pp w sh cs
 | .int,t,fuel,cs,x,hs,h=>by
   unfold EM at hs;split at hs
   ·rename_i ht;obtain⟨n,rfl,_,hw⟩:=DataW.trod_int ht h;exact⟨[.int .i64 n],⟨n,rfl,oU hw⟩,rfl,⟨rfl,fun i hi=>by
     obtain rfl:i=0:=by simpa using hi
     exact .int _ _⟩,fun v hv=>by simp at hv;subst hv;rfl⟩
   ·cases hs
 | .bool,t,fuel,cs,x,hs,h=>by
   unfold EM at hs;split at hs
   ·rename_i ht;obtain⟨b,rfl,_⟩:=DataW.trod_bool ht h;exact⟨[.bool b],⟨b,rfl⟩,rfl,⟨rfl,fun i hi=>by
     obtain rfl:i=0:=by simpa using hi
     exact .bool _⟩,fun v hv=>by simp at hv;subst hv;rfl⟩
   ·cases hs
 | .sl e,t,fuel,cs,x,hs,h=>by
   unfold EM at hs;split at hs;rotate_left
   ·cases hs
   rename_i et ht;simp only[nT,beq_iff_eq,decide_eq_true_eq]at hs;obtain⟨⟨hc,hpos⟩,hs⟩:=hs;rcases DataW.trod_slice ht h with ⟨rfl,_⟩|⟨a,len,cap,elems,rest,n,_,rfl,_,hb,hl,hm,hlen,hel,_,_⟩
   ·refine⟨[.sl e.size 0 (fun _=>[])],⟨0,_,rfl,Afg _,fun i hi=>absurd hi (Rc _)⟩,rfl,⟨rfl,fun i hi=>?_⟩,fun v hv=>by simp at hv;subst hv;rfl⟩;obtain rfl:i=0:=by simpa using hi
    exact .sl _ _ _ _ _ (fun _ _=>undef) (Afo _) (Afg _) (fun h=>absurd h (Nat.lt_irrefl _)) (fun i hi=>absurd hi (Rc _)) (fun i hi=>absurd hi (Rc _)) (fun i hi=>absurd hi (Rc _))
   ·have each : ∀i, i<len->∃ci, w.cells? base (a.add (i*e.size)) e.size = some ci/\Pp w e ci :=fun i hi =>by
     have h1:=hel i hi;rw[oE (by omega),hc,Option.bind_eq_some_iff]at h1;obtain⟨ci,h2,h3⟩:=h1;exact⟨ci,h2,Pq e hs h3⟩
    let ci:Nat->List Value:=fun i=>if h:i<len then Classical.choose (each i h)else [];have hci:∀i,i<len->w.cells? base (a.add (i*e.size)) e.size=some (ci i)/\Pp w e (ci i):=fun i hi=>by
     simp only[ci,hi,dif_pos];exact Classical.choose_spec (each i hi)
    let si:Nat->List SV:=fun i=>if h:i<len then Classical.choose (hci i h).2 else [];have hsi:∀i,i<len->GL e (si i)/\(si i).length=e.size/\Bk (fun b=>b<w.heap.size) w (si i) (ci i)/\∀v,v∈ci i->v.oneCell'=true:=fun i hi=>by
     simp only[si,hi,dif_pos];exact Classical.choose_spec (hci i hi).2
    refine⟨[.sl e.size len si],⟨len,si,rfl,by omega,fun i hi=>(hsi i hi).1⟩,rfl,⟨rfl,fun i hi=>?_⟩,fun v hv=>by simp at hv;subst hv;rfl⟩;obtain rfl:i=0:=by simpa using hi
    refine .sl _ _ _ _ _ (fun i j=>(ci i).getD j undef) hl (by omega) (fun hn=>⟨a,rfl,?_,fun i hi j hj=>?_⟩) (fun i hi=>(hsi i hi).2.1) (fun i hi j hj=>?_) (fun i hi j hj=>?_)
    ·obtain⟨_,h2,h3⟩:=World.cells?_some (hci 0 hn).1;have h4:=h3 0 hpos;rw[oE (by omega)]at h4;have:=oS h4;rw[Jv,Jv]at this;exact this
    ·obtain⟨_,h2,h3⟩:=World.cells?_some (hci i hi).1;have h4:=h3 j hj;rw[I8]at h4;rw[h4,AS,oE (by omega)];rfl
    ·obtain⟨_,h2,_⟩:=World.cells?_some (hci i hi).1;rw[AS,oE (by omega)];exact(hsi i hi).2.2.2 _ (List.getElem_mem _)
    ·exact(hsi i hi).2.2.1.2 j (by rw[(hsi i hi).2.1];exact hj)
 | .st ss,t,fuel,cs,x,hs,h=>by
   unfold EM at hs;split at hs;rotate_left
   ·cases hs
   rename_i fs ht;simp only[nT,beq_iff_eq]at hs;obtain⟨hc,hs⟩:=hs;obtain⟨xs,n,_,_,hlen,hxl,hf⟩:=DataW.trod_struct ht h;have:=T2 ss hs (cs:=cs) (by rw[hlen,hc,AfD]) (fun i f hi=>by
    have h1:=hf i f (by simpa using hi);have hlt:i<fs.size:=by
     have:=(List.getElem?_eq_some_iff.1 hi).1;simpa using this
    rw[oE (by omega)]at h1;exact⟨n,_,h1⟩)
   obtain⟨l,h1,h2,h3,h4⟩:=this;exact⟨l,by unfold GL;exact h1,by unfold Sh.size;exact h2,by simpa using h3,by simpa using h4⟩
theorem T2:∀(ss:List Sh) {fs:List Field} {off:Nat} {cs:List Value},EM.fields P ss fs off=true->cs.length=off+Sh.size.sizes ss ->
  (∀(i:Nat) (f:Field),fs[i]? = some f->∃n x,DataW.trod enc P w base spare held n f.type ((cs.drop f.offset).take (P.cellsOf f.type))=some x) ->
  ∃l,GL.fits ss l/\l.length=Sh.size.sizes ss/\Bk (fun b=>b<w.heap.size) w l (cs.drop off)/\∀v,v∈cs.drop off->v.oneCell'=true
 |[],fs,off,cs,hs,hl,hf=>by
   cases fs with
   |cons f fs=>simp[EM.fields]at hs
   |nil =>
     have e:cs.drop off = []:=List.drop_eq_nil_of_le (by simp[Sh.size.sizes]at hl;omega);exact⟨[],by simp[GL.fits],rfl,by rw[e];exact⟨rfl,fun i hi=>by simp at hi⟩,by rw[e];intro v hv;cases hv⟩
 |s::ss,fs,off,cs,hs,hl,hf=>by
   cases fs with
   |nil=>simp[EM.fields]at hs
   |cons f fs =>
     simp only[EM.fields,nT,beq_iff_eq]at hs;obtain⟨⟨⟨h1,h2⟩,h3⟩,h4⟩:=hs;obtain⟨n,x,hx⟩:=hf 0 f rfl;rw[h1,h2]at hx;obtain⟨a,ra,rl,rd,r1⟩:=Pq s h3 hx;simp only[Sh.size.sizes]at hl;obtain⟨b,qa,ql,qd,q1⟩:=T2 ss h4 (cs:=cs) (by omega) (fun i g hi=>hf (i+1) g (by simpa using hi));have e:cs.drop off=(cs.drop off).take s.size++cs.drop (off+s.size):=by
      rw[<- List.drop_drop];exact(List.take_append_drop s.size (cs.drop off)).symm
     refine⟨a++b,by simp only[GL.fits];exact⟨a,b,rfl,ra,qa⟩,by simp[rl,ql,Sh.size.sizes],?_,fun v hv=>?_⟩
     ·rw[e];exact oR rd qd
     ·rw[e]at hv;rcases Afz.1 hv with hv|hv
      ·exact r1 v hv
      ·exact q1 v hv
end
def Lw:Sh->List SV->EV
 | .st _,ss=>.p (.agg ss)
 |_,ss=>.p (SV.at ss 0)
theorem oV {sh:Sh} {r:Reach} {b0:Nat} {t:TypeId} {v:Value} {d:DataW H} {ps:List MemPlace} (hs:EM P sh t=true) (hval:Value.okWide P w r b0 t v) (hd:DataW.Trod enc P w base spare held t v d ps) :
  ∃ss,GL sh ss/\KE (Lw sh ss)=true/\Ar P (fun b=>b<w.heap.size) w GB (Lw sh ss) v:=by
 obtain⟨fuel,hf⟩:=hd;obtain⟨ss,h1,h2,h3,_⟩:=Pq sh hs hf;refine⟨ss,h1,?_,?_⟩
 ·cases sh<;>rfl
 ·have scalar : v.cells.toList = [v]->sh.size = 1->Ar P (fun b =>b<w.heap.size) w GB (.p (SV.at ss 0)) v :=fun e hsz =>by
   rw[e]at h3;have:=h3.2 0 (by omega);exact .p this
  cases sh with
  |int =>
    unfold EM at hs;split at hs
    ·rename_i ht;obtain⟨n,rfl⟩:=okWide_int ht hval;exact scalar rfl rfl
    ·cases hs
  |bool =>
    unfold EM at hs;split at hs
    ·rename_i ht;obtain⟨n,rfl⟩:=okWide_bool ht hval;exact scalar rfl rfl
    ·cases hs
  |sl e =>
    unfold EM at hs;split at hs
    ·rename_i et ht;obtain⟨a,n,c,rfl⟩:=okWide_slice ht hval;exact scalar rfl rfl
    ·cases hs
  |st l =>
    unfold EM at hs;split at hs
    ·rename_i fs ht;obtain⟨cs,rfl,_⟩:=okWide_struct ht hval;have e:(Value.agg cs).cells.toList=cs.toList:=rfl;rw[e]at h3;exact .p (.agg _ _ h3.1 h3.2)
    ·cases hs
def Lx:List Sh->List EV->Prop
 |[],es=>es = []
 |s::l,es=>∃ss es',es=Lw s ss::es'/\GL s ss/\Lx l es'
def JZ (P:Program):List Sh->List TypeId->Bool
 |[],[]=>true
 |s::l,t::ts=>EM P s t&&JZ P l ts
 |_,_=>false
theorem T3:∀(shs:List Sh) {ts:List TypeId} {vs:List Value} {ds:List (DataW H)} {ps:List MemPlace} {r:Reach} {b0:Nat},JZ P shs ts=true->(∀(j:Nat) t v,ts[j]? = some t->vs[j]? = some v->Value.okWide P w r b0 t v) ->
  DataW.TrodAll enc P w base spare held ts vs ds ps->∃es,Lx shs es/\F8 P (fun b=>b<w.heap.size) w es vs
 |[],ts,vs,ds,ps,r,b0,hs,hval,h=>by
   cases ts with
   |cons t ts=>simp[JZ]at hs
   |nil =>
     cases vs<;>cases ds<;>simp[DataW.TrodAll]at h;exact⟨[],rfl,rfl,fun i hi=>by simp at hi⟩
 |s::shs,ts,vs,ds,ps,r,b0,hs,hval,h=>by
   cases ts with
   |nil=>simp[JZ]at hs
   |cons t ts =>
     simp only[JZ,nT]at hs;obtain⟨v,vs',d,ds',p,q,rfl,rfl,_,h1,h2⟩:=trodAll_cons h;obtain⟨ss,a1,a2,a3⟩:=oV hs.1 (hval 0 t v rfl rfl) h1;obtain⟨es,b1,b2⟩:=T3 shs hs.2 (fun j t v ht hv=>hval (j+1) t v (by simpa using ht) (by simpa using hv)) h2;refine⟨Lw s ss::es,⟨ss,es,rfl,a1,b1⟩,by simp[b2.1],fun i hi=>?_⟩;cases i with
     |zero=>exact⟨a2,a3⟩
     |succ i=>exact b2.2 i (by simpa using hi)
theorem T4 (hl:laidOutB P=true) {W W':World} (hb:Below W.heap.size W W'):∀{ts:List TypeId} {vs:List Value} {ds:List (DataW H)} {ps:List MemPlace},(ts.all fun t=>P.readableRec t&&decide (t<P.types.size))=true ->
  DataW.TrodAll enc P W 0 (fun _=>true) true ts vs ds ps->(∀p∈ps,p.block<W.heap.size)->DataW.TrodAll enc P W' 0 (fun b=>decide (b<W.heap.size)) true ts vs ds ps
 |[],vs,ds,ps,_,h,_=>by
   cases vs<;>cases ds<;>simp[DataW.TrodAll]at h ⊢;exact h
 |t::ts,vs,ds,ps,ht,h,hlt=>by
   simp only[List.all_cons,nT,decide_eq_true_eq]at ht;obtain⟨v,vs',d,ds',p,q,rfl,rfl,rfl,h1,h2⟩:=trodAll_cons h;exact⟨p,q,Below.trod hl ht.1.1 ht.1.2 h1 hb (fun x hx=>hlt x (by simp[hx])),T4 hl hb (by simpa using ht.2) h2 (fun x hx=>hlt x (by simp[hx])),rfl⟩
theorem T5 {C:Checked} {f:Nat} {fn:Func} {s:ChangeSpec} {apart:Bool} {shs:List Sh} {sp:List EV->Option (Prop×SV)} (hspec:Av C.prog f (AK sp)) (hfit:∀es,Lx shs es->Fw sp es/\GI sp es=.bool true)
  (hl:laidOutB C.prog=true) (hvars:s.vars = []) (hsh:JZ C.prog shs fn.params.toList=true) (hrd:(fn.params.toList.all fun t=>C.prog.readableRec t&&decide (t<C.prog.types.size))=true)
  {bt:TypeId} (hres:fn.resultTypes = #[bt]) (hbt:C.prog.underlying bt=some .bool) (hsay:∀ds:List (DataW H),ds.length=fn.params.size->s.fn H (ds ++ [])= { results:=[.lit (.bool true)],args:=ds,vars:=[] })
  {W:World} {b0:Nat} {r:Reach} {args:Array Value} {ds gs:List (DataW H)} {before:List MemPlace} (hval:∀(j:Nat) t v,fn.params[j]? = some t->args[j]? = some v->Value.okWide C.prog W r b0 t v)
  (hW:DataW.Whole enc C.prog fn.params.toList s.vars apart W args.toList ds gs before) :
  Calls C.prog f args W fun e W'=>∃v,e=.returned v/\s.post enc C.prog fn apart true false false W args v W':=by
 have hW':=hW;obtain⟨p,q,hA,hV,hpq,hfz,hnd⟩:=hW;rw[hvars]at hV;obtain⟨rfl,rfl⟩:=trodVars_none hV;obtain⟨es,h1,h2⟩:=T3 (enc:=enc) (base:=0) (spare:=fun _=>true) (held:=true) shs hsh (fun j t v ht hv=>hval j t v (by simpa using ht) (by simpa using hv)) hA;obtain⟨k1,k2⟩:=hfit es h1;have hc:=hspec (fun b=>b<W.heap.size) W es args.toList (fun b h=>h) h2 k1;have:=callsIn_wide.1 hc;refine Calls.mono (by simpa using this) (fun e W' hg=>?_);obtain⟨v,M',rfl,hb,_,_,_,hd⟩:=hg;rw[k2]at hd;cases hd;have hdl:ds.length=fn.params.size:=by
  have:∀{ts:List TypeId} {vs:List Value} {ds:List (DataW H)} {ps:List MemPlace},DataW.TrodAll enc C.prog W 0 (fun _=>true) true ts vs ds ps->ds.length=ts.length:=by
   intro ts
   induction ts with
   |nil=>intro vs ds ps h;cases vs<;>cases ds<;>simp[DataW.TrodAll]at h<;>rfl
   |cons t ts ih =>
     intro vs ds ps h;obtain⟨v,vs',d,ds',p,q,rfl,rfl,_,_,h2⟩:=trodAll_cons h;simp[ih h2]
  have:=this hA;simpa using this
 have hlt:∀x∈p,x.block<W.heap.size:=fun x hx=>hW'.lt x (by rw[hpq];simp[hx]);refine⟨_,rfl,ds,[],p ++ [],[],p,[],?_,?_,?_,?_,hb.bel.frame _,fun h=>by cases h⟩
 ·rw[hpq]at hW';exact hW'
 ·rw[hsay ds hdl,hres];exact trodAll_mk1 (shut_bool hbt true)
 ·rw[hsay ds hdl];exact T4 hl hb.bel hrd hA hlt
 ·rw[hsay ds hdl,hvars];rfl
end
end Go.SE
