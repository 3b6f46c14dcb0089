/- A symbolic walk over the model, and what it shows of functions of the program: parts of the proof that the text of the row joins. -/
import Derived.Test.YtpgaejicfbpcmaaGreatE3
import Derived.RangeFuncIn
import Derived.RangeFuncRecord
import Derived.Sort.LoopGhostIn
import Derived.RangeFuncLeaves
import Derived.ProofKit
import Derived.Shelf.SlSortCmp.NoneTotal
namespace Go.SE
open Go.RowKit
variable {P:Program} {M:Nat->Prop} {w:World} {G:Ctx} {st:St} {a:Act} {env:Env} {X:Nat->Prop}
def forL (f:Nat->Prop):List Nat->Prop
 | []=>True
 | i :: l=>match l with
   | []=>f i
   | _ :: _=>f i/\forL f l
def forM (f:List Nat->Prop):List (List Nat)->Prop
 | []=>True
 | i :: l=>match l with
   | []=>f i
   | _ :: _=>f i/\forM f l
def rdOp:Op->Bool
 | .box ..=>false
 | .buildSlice ..=>false
 | .call { callee:=.value _,.. }=>false
 | .call { callee:=.builtin .append,.. }=>false
 | _=>true
def drawP (P:Program) (C:Cfg) (fl:Bool) (ops:Array Oper) (st:St) (o:Oper):Option (List Prop × Ent) :=
 if (fl || rdOp o.op) && (storeOf o).isNone && (newOwnOf P o).isEmpty then drawStep P C ops [] st o else none
theorem drawP_spec {C:Cfg} {fl:Bool} {ops:Array Oper} {o:Oper} {ps:List Prop} {e:Ent} (h:drawP P C fl ops st o=some (ps,e)):storeOf o=none/\newOwnOf P o = []/\drawStep P C ops [] st o=some (ps,e):=by
 unfold drawP at h
 split at h
 ·rename_i hc
  simp only [Bool.and_eq_true,Option.isNone_iff_eq_none,List.isEmpty_iff] at hc
  exact ⟨hc.1.2,hc.2,h⟩
 ·cases h
def notCall:Op->Bool
 | .call _=>false
 | _=>true
def St.scal (st:St) (L:List Nat):St:={ st with T:=st.T.filter fun x=>L.contains x.1 && (match x.2.v with | .p (.int ..)=>true | .p (.bool _)=>true | _=>false),own:=[] }
def drawW (P:Program) (ops:Array Oper) (st:St) (o:Oper):Option (List Prop × Ent):=if notCall o.op then (match guardOf ops (st.scal (slotsOf ops o)) o with
 | some gd=>if dstOk st o.dst gd then (match stepPure P (st.scal (slotsOf ops o)) gd o.op with
   | some (ps,.p (.int k n))=>some (wrapG gd ps,⟨gd,.p (.int k n)⟩)
   | some (ps,.p (.bool b))=>some (wrapG gd ps,⟨gd,.p (.bool b)⟩)
   | _=>none) else none
 | none=>none) else none
def firstW (P:Program) (ops:Array Oper) (st:St) (listed:Array Bool):List Nat->Option (Nat × Option (List Prop × Ent))
 | []=>none
 | i :: l=>match ops.toList[i]? with
   | some o=>if Region.free .any ops listed i then (if (moveOf o).isSome then some (i,none) else match drawW P ops st o with
     | some r=>some (i,some r)
     | none=>firstW P ops st listed l) else firstW P ops st listed l
   | none=>firstW P ops st listed l
def aftIn (listed:Array Bool) (D:List Nat) (o:Oper):Bool:=o.after.all fun e=>!Region.binds .any e || listed.getD e.on false || D.contains e.on
def mixGo (P:Program) (C:Cfg) (fl:Bool) (ops:Array Oper) (listed:Array Bool):Nat->List Oper->St->List Nat->List Prop × List (Nat × Oper × Ent)
 | _,[],_,_=>([],[])
 | i,o :: rest,st,D=>if listed.getD i false || !(aftIn listed D o) then mixGo P C fl ops listed (i+1) rest st D else match drawP P C fl ops st o with
   | some (ps,e)=>match mixGo P C fl ops listed (i+1) rest (st.put o.dst e) (i :: D) with
     | (qs,tab)=>(ps ++ qs,(i,o,e) :: tab)
   | none=>mixGo P C fl ops listed (i+1) rest st D
def stM:List (Nat × Oper × Ent)->List Nat->St->St
 | [],_,st=>st
 | (i,o,e) :: l,L,st=>stM l L (if L.contains i then st.put o.dst e else st)
def masks (listed:Array Bool) (F:List Nat):List (Nat × Oper × Ent)->List Nat->List (List Nat)
 | [],L=>[L]
 | (i,o,_) :: l,L=>(if aftIn listed L o then masks listed F l (i :: L) else []) ++ (if F.contains i then [] else masks listed F l L)
def others (ops:Array Oper) (listed:Array Bool) (D:List Nat):List Nat:=(List.range ops.size).filter fun j=>!(listed.getD j false) && !(D.contains j) && (match ops.toList[j]? with | some o=>aftIn listed D o | none=>false)
def aftL (o:Oper):List Nat:=(o.after.toList.filter fun e=>Region.binds .any e).map (·.on)
def setL (listed:Array Bool):List Nat->Array Bool
 | []=>listed
 | i :: l=>setL (listed.setIfInBounds i true) l
def execAny (P:Program) (C:Cfg) (fl:Bool) (ops:Array Oper):Nat->Array Bool->St->(St->Prop)->Prop
 | 0,listed,st,K=>match Region.ready .any ops listed with
   | []=>K st
   | _ :: _=>False
 | fuel+1,listed,st,K=>match Region.ready .any ops listed with
   | []=>K st
   | i :: l=>match (if plainOps ops then firstW P ops st listed (i :: l) else none) with
     | some (i,r)=>(match ops.toList[i]?,r with
       | some o,some (ps,e)=>conj ps (execAny P C fl ops fuel (listed.setIfInBounds i true) (st.put o.dst e) K)
       | some o,none=>execOps P C ops [o] st (fun st'=>execAny P C fl ops fuel (listed.setIfInBounds i true) st' K)
       | none,_=>False)
     | none=>if drawChk ops.toList ops 0 ops.toList then (match mixGo P C fl ops listed 0 ops.toList (st.noGuards ops.toList) [] with
       | (ps,tab)=>conj ps (match others ops listed (tab.map (·.1)) with
         | []=>if (List.range ops.size).all (fun j=>listed.getD j false || (tab.map (·.1)).contains j) then K (stM tab (tab.map (·.1)) (st.noGuards ops.toList)) else False
         | j :: l=>forL (fun j=>match ops.toList[j]? with
           | some o=>forM (fun L=>execOps P C ops [o] (stM tab L (st.noGuards ops.toList)) (fun st'=>execAny P C fl ops fuel (setL listed (j :: L)) st' K)) (masks listed (aftL o) tab [])
           | none=>False) (j :: l))) else False
theorem forL_mem {f:Nat->Prop}:∀ {l:List Nat},forL f l -> ∀ i,i ∈ l->f i
 | [],_,i,h=>by cases h
 | [j],h,i,hi=>by
   rcases List.mem_cons.1 hi with rfl | hi
   ·exact h
   ·cases hi
 | j :: k :: l,h,i,hi=>by
   rcases List.mem_cons.1 hi with rfl | hi
   ·exact h.1
   ·exact forL_mem h.2 i hi
theorem forM_mem {f:List Nat->Prop}:∀ {l:List (List Nat)},forM f l -> ∀ i,i ∈ l->f i
 | [],_,i,h=>by cases h
 | [j],h,i,hi=>by
   rcases List.mem_cons.1 hi with rfl | hi
   ·exact h
   ·cases hi
 | j :: k :: l,h,i,hi=>by
   rcases List.mem_cons.1 hi with rfl | hi
   ·exact h.1
   ·exact forM_mem h.2 i hi
theorem scal_any {L:List Nat} (S:SatC P G st a w env M X) (w2:World):SatC P { g:=fun _ _ _=>True,m0:=fun _=>False } (st.scal L) { a with defers:=[] } w2 env (fun _=>False) (fun _=>False):=by
 refine ⟨⟨trivial,fun k hk=>hk.elim⟩,fun b h=>h.elim,fun k o h=>(by cases h),fun k o h=>(by cases h),fun k o k' o' h=>(by cases h),List.nodup_nil,fun b h=>h.elim,fun b h=>h.elim,S.siz,fun s e h=>?_,fun s e h=>S.grd s e (List.mem_filter.1 h).1,fun d h=>(by cases h),List.nodup_nil⟩
 obtain ⟨h1,h2⟩:=List.mem_filter.1 h
 obtain ⟨q1,q2,q3⟩:=S.tmp s e h1
 refine ⟨q1,fun ho=>?_,q3⟩
 have hd:=q2 ho
 have:({ a with defers:=[] }:Act).eval (.tmp s)=a.eval (.tmp s):=rfl
 rw [this]
 simp only [Bool.and_eq_true] at h2
 obtain ⟨g,v⟩:=e
 cases v with
 | p s =>
   rcases hd with ⟨hd⟩
   cases s with
   | int k n=>generalize a.eval (.tmp _)=v at *;cases hd;exact .p (.int _ _)
   | bool b=>generalize a.eval (.tmp _)=v at *;cases hd;exact .p (.bool _)
   | _=>exact absurd h2.2 (by simp)
 | _=>exact absurd h2.2 (by simp)
theorem drawW_ok (S:SatC P G st a w env M X) {ops:Array Oper} {o:Oper} {ps:List Prop} {e:Ent} (h:drawW P ops st o=some (ps,e)) (hp:all ps) :
  ∃ v,Yields P ops o v a/\SatC P G (st.put o.dst e) (a.put o.dst v) w env M X:=by
 unfold drawW at h
 split at h
 rotate_left
 ·cases h
 rename_i hnc
 split at h
 rotate_left
 ·cases h
 rename_i gd hg
 split at h
 rotate_left
 ·cases h
 rename_i hck
 have S0:=scal_any (L:=slotsOf ops o) S
 obtain ⟨hgd,hwant⟩:=guardOf_ok (S0 w) hg
 have hgd':GdOk a gd:=hgd
 have hw':Region.wanted o (yielded ops a.tmps)=true ↔ holdsG gd:=hwant
 have hd:∀ t,o.dst=some t->t<st.nt:=fun t ht=>by
  rw [ht] at hck
  cases gd with
  | none=>simpa [dstOk] using hck
  | some g=>obtain ⟨q,c,x⟩:=g;simp [dstOk] at hck;exact hck.1
 have hq:∀ q c x,gd=some (q,c,x)->o.dst ≠ some q:=fun q c x hg ht=>by
  rw [ht,hg] at hck
  simp [dstOk] at hck
 have fin : ∀ (qs : List Prop) (s : SV) (v : Value), stepPure P (st.scal (slotsOf ops o)) gd o.op = some (qs, .p s) -> all (wrapG gd qs) -> (∀ (M : Nat -> Prop) (w : World) (u : Value), DenP M w s u -> u = v) -> (∀ (M : Nat -> Prop) (w : World), DenP M w s v) ->
   ∃ v,Yields P ops o v a/\SatC P G (st.put o.dst ⟨gd,.p s⟩) (a.put o.dst v) w env M X:=fun qs s v hs hp hu hv=>by
  by_cases hh:holdsG gd
  ·refine ⟨v,.inl ⟨hw'.2 hh,fun w2=>?_⟩,S.putG hgd' hd hq (fun _=>.p (hv _ _)) (fun hn=>absurd hh hn)⟩
   obtain ⟨u,h1,h2⟩:=stepPure_ok (S0 w2) hgd hh hs (wrapG_all hp hh) o rfl
   rcases h2 with ⟨h2⟩
   rw [hu _ _ _ h2] at h1
   exact h1
  ·refine ⟨undef,.inr ⟨?_,rfl⟩,S.putG hgd' hd hq (fun hx=>absurd hx hh) (fun _=>rfl)⟩
   cases hx:Region.wanted o (yielded ops a.tmps) with
   | false=>rfl
   | true=>exact absurd (hw'.1 hx) hh
 split at h
 ·rename_i qs k n hs
  cases h
  exact fin qs _ (.int k n) hs hp (fun _ _ u hd=>by cases hd;rfl) (fun _ _=>.int _ _)
 ·rename_i qs b hs
  cases h
  exact fin qs _ (.bool b) hs hp (fun _ _ u hd=>by cases hd;rfl) (fun _ _=>.bool _)
 ·cases h
theorem firstW_spec {ops:Array Oper} {listed:Array Bool}:∀ {l:List Nat} {i:Nat} {r:Option (List Prop × Ent)},firstW P ops st listed l=some (i,r)->i ∈ l /\ ∃ o,ops.toList[i]? = some o/\Region.free .any ops listed i=true/\((r=none/\(moveOf o).isSome=true) \/ ∃ x,r=some x/\drawW P ops st o=some x)
 | [],_,_,h=>by simp [firstW] at h
 | k :: l,i,r,h=>by
   simp only [firstW] at h
   have nxt:firstW P ops st listed l=some (i,r)->i ∈ k :: l /\ ∃ o,ops.toList[i]? = some o/\Region.free .any ops listed i=true/\((r=none/\(moveOf o).isSome=true) \/ ∃ x,r=some x/\drawW P ops st o=some x):=fun h=>by
    obtain ⟨h1,h2⟩:=firstW_spec h
    exact ⟨List.mem_cons_of_mem _ h1,h2⟩
   split at h
   ·rename_i o ho
    split at h
    ·rename_i hf
     split at h
     ·rename_i hm
      cases h
      exact ⟨List.mem_cons_self ..,o,ho,hf,.inl ⟨rfl,hm⟩⟩
     ·split at h
      ·rename_i x hx
       cases h
       exact ⟨List.mem_cons_self ..,o,ho,hf,.inr ⟨x,rfl,hx⟩⟩
      ·exact nxt h
    ·exact nxt h
   ·exact nxt h
theorem drawP_guard {C:Cfg} {fl:Bool} {ops:Array Oper} {o:Oper} {ps:List Prop} {e:Ent} (h:drawP P C fl ops st o=some (ps,e)):∀ d,e.by d=true->d ∈ guardSlot ops o:=drawStep_guard (drawP_spec h).2.2
structure TabAt (P:Program) (C:Cfg) (fl:Bool) (ops:Array Oper) (listed:Array Bool) (st:St) (tab:List (Nat × Oper × Ent)) (pps:List Prop):Prop where
 at_:∀ i o e,(i,o,e) ∈ tab->ops[i]? = some o/\listed.getD i false=false/\(∀ f,f ∈ o.after->Region.binds .any f=true->listed.getD f.on false=true\/f.on ∈ tab.map (·.1)) /\
  ∃ stX ps,drawP P C fl ops stX o=some (ps,e)/\(∀ p,p ∈ ps->p ∈ pps)/\Twin st stX /\ ∀ x,x ∈ stX.T->(x ∈ st.T /\ ∀ k ok ek,(k,ok,ek) ∈ tab->k<i->ok.dst ≠ some x.1) \/ ∃ k ok ek,(k,ok,ek) ∈ tab/\k<i/\ok.dst=some x.1/\x.2=ek
 inc:(tab.map (·.1)).Pairwise (· < ·)
theorem Twin.trans {a b c:St} (h:Twin a b) (k:Twin b c):Twin a c:=⟨k.1.trans h.1,k.2.1.trans h.2.1,k.2.2.1.trans h.2.2.1,k.2.2.2.trans h.2.2.2⟩
theorem mixGo_at {C:Cfg} {fl:Bool} {ops:Array Oper} {listed:Array Bool} {st:St}:∀ (rest:List Oper) (n:Nat) (st1:St) (D:List Nat) (pre:List (Nat × Oper × Ent)) (ps:List Prop) (tab:List (Nat × Oper × Ent)),mixGo P C fl ops listed n rest st1 D=(ps,tab) ->
  (∀ k o,rest[k]? = some o->ops[n+k]? = some o)->(∀ k,k ∈ D ↔ k ∈ pre.map (·.1))->(∀ k ok ek,(k,ok,ek) ∈ pre->k<n)->Twin st st1->(∀ x,x ∈ st1.T->(x ∈ st.T /\ ∀ k ok ek,(k,ok,ek) ∈ pre->ok.dst ≠ some x.1) \/ ∃ k ok ek,(k,ok,ek) ∈ pre/\ok.dst=some x.1/\x.2=ek) ->
  (∀ i o e,(i,o,e) ∈ tab->n <= i/\ops[i]? = some o/\listed.getD i false=false/\(∀ f,f ∈ o.after->Region.binds .any f=true->listed.getD f.on false=true\/f.on ∈ (pre ++ tab).map (·.1)) /\
   ∃ stX qs,drawP P C fl ops stX o=some (qs,e)/\(∀ p,p ∈ qs->p ∈ ps)/\Twin st stX /\ ∀ x,x ∈ stX.T->(x ∈ st.T /\ ∀ k ok ek,(k,ok,ek) ∈ pre ++ tab->k<i->ok.dst ≠ some x.1) \/ ∃ k ok ek,(k,ok,ek) ∈ pre ++ tab/\k<i/\ok.dst=some x.1/\x.2=ek)/\(tab.map (·.1)).Pairwise (· < ·)
 | [],n,st1,D,pre,ps,tab,h,_,_,_,_,_=>by
   simp [mixGo] at h
   obtain ⟨_,rfl⟩:=h
   exact ⟨fun i o e h=>by simp at h,List.Pairwise.nil⟩
 | o :: rest,n,st1,D,pre,ps,tab,h,ho,hD,hpre,tw,hT=>by
   have skip:mixGo P C fl ops listed (n+1) rest st1 D=(ps,tab)->_:=fun h=>mixGo_at rest (n+1) st1 D pre ps tab h (fun k o' hk=>by rw [show n+1+k=n+(k+1) by omega];exact ho (k+1) o' (by simpa using hk)) hD (fun k ok ek hm=>by have:=hpre k ok ek hm;omega) tw hT
   have skip':=fun h=>(fun q:_/\_=>(⟨fun i o e hm=>⟨by have:=(q.1 i o e hm).1;omega,(q.1 i o e hm).2⟩,q.2⟩:(∀ i o e,(i,o,e) ∈ tab->n <= i/\_)/\_)) (skip h)
   simp only [mixGo] at h
   split at h
   ·exact skip' h
   ·rename_i hc
    split at h
    ·rename_i qs e hdr
     generalize hrec:mixGo P C fl ops listed (n+1) rest (st1.put o.dst e) (n :: D)=r at h
     obtain ⟨qs',tab'⟩:=r
     cases h
     simp only [Bool.or_eq_true,not_or,Bool.not_eq_true,Bool.not_eq_true'] at hc
     obtain ⟨hl,haf⟩:=hc
     have haf:aftIn listed D o=true:=by simpa using haf
     obtain ⟨h1,h2⟩:=mixGo_at rest (n+1) (st1.put o.dst e) (n :: D) (pre ++ [(n,o,e)]) qs' tab' hrec (fun k o' hk=>by rw [show n+1+k=n+(k+1) by omega];exact ho (k+1) o' (by simpa using hk))
      (fun k=>by simp only [List.mem_cons,List.map_append,List.mem_append,hD,List.map_cons,List.map_nil,List.not_mem_nil,or_false];exact Or.comm)
      (fun k ok ek hm=>by
       rcases List.mem_append.1 hm with hm | hm
       ·have:=hpre k ok ek hm;omega
       ·simp only [List.mem_singleton,Prod.mk.injEq] at hm;omega) (tw.trans (Twin.put _ _ _))
      (fun x hx=>by
       rcases put_mem hx with ⟨q1,q2⟩ | ⟨q1,q2⟩
       ·rcases hT x q1 with ⟨q3,q4⟩ | ⟨k,ok,ek,q3,q4,q5⟩
        ·refine .inl ⟨q3,fun k ok ek hm=>?_⟩
         rcases List.mem_append.1 hm with hm | hm
         ·exact q4 k ok ek hm
         ·simp only [List.mem_singleton,Prod.mk.injEq] at hm
          obtain ⟨_,rfl,_⟩:=hm
          exact q2
        ·exact .inr ⟨k,ok,ek,List.mem_append_left _ q3,q4,q5⟩
       ·exact .inr ⟨n,o,e,List.mem_append_right _ (List.mem_singleton.2 rfl),q1,q2⟩)
     have eqp:pre ++ [(n,o,e)] ++ tab'=pre ++ (n,o,e) :: tab':=by simp
     rw [eqp] at h1
     refine ⟨fun i oi ei hm=>?_,?_⟩
     ·rcases List.mem_cons.1 hm with hm | hm
      ·cases hm
       refine ⟨Nat.le_refl _,by have:=ho 0 o (by simp);simpa using this,hl,fun f hf hb=>?_,st1,qs,hdr,fun p hp=>List.mem_append_left _ hp,tw,fun x hx=>?_⟩
       ·have:=Array.all_eq_true_iff_forall_mem.1 haf f hf
        simp only [hb,Bool.not_true,Bool.false_or,Bool.or_eq_true] at this
        rcases this with this | this
        ·exact .inl this
        ·refine .inr ?_
         rw [List.map_append]
         exact List.mem_append_left _ ((hD _).1 (List.contains_iff_mem.1 this))
       ·have hge : ∀ k ok ek, (k, ok, ek) ∈ pre ++ (n, o, e) :: tab' -> k < n -> (k, ok, ek) ∈ pre := fun k ok ek hm hlt => by
         rcases List.mem_append.1 hm with hm | hm
         ·exact hm
         ·rcases List.mem_cons.1 hm with hm | hm
          ·simp only [Prod.mk.injEq] at hm;omega
          ·have:=(h1 k ok ek hm).1;omega
        rcases hT x hx with ⟨q3,q4⟩ | ⟨k,ok,ek,q3,q4,q5⟩
        ·exact .inl ⟨q3,fun k ok ek hm hlt=>q4 k ok ek (hge k ok ek hm hlt)⟩
        ·exact .inr ⟨k,ok,ek,List.mem_append_left _ q3,hpre k ok ek q3,q4,q5⟩
      ·obtain ⟨q1,q2,q3,q4,stX,qq,q5,q6,q7⟩:=h1 i oi ei hm
       exact ⟨by omega,q2,q3,q4,stX,qq,q5,fun p hp=>List.mem_append_right _ (q6 p hp),q7⟩
     ·rw [List.map_cons,List.pairwise_cons]
      refine ⟨fun k hk=>?_,h2⟩
      obtain ⟨⟨k',ok,ek⟩,hm,rfl⟩:=List.mem_map.1 hk
      have:=(h1 k' ok ek hm).1
      show n<k'
      omega
    ·exact skip' h
theorem stM_twin:∀ (tab:List (Nat × Oper × Ent)) (L:List Nat) (st:St),Twin st (stM tab L st)
 | [],_,st=>⟨rfl,rfl,rfl,rfl⟩
 | (i,o,e) :: l,L,st=>by
   simp only [stM]
   refine Twin.trans ?_ (stM_twin l L _)
   split
   ·exact Twin.put _ _ _
   ·exact ⟨rfl,rfl,rfl,rfl⟩
theorem stM_mem {x:Nat × Ent}:∀ {tab:List (Nat × Oper × Ent)} {L:List Nat} {st:St},x ∈ (stM tab L st).T->(x ∈ st.T /\ ∀ k ok ek,(k,ok,ek) ∈ tab->k ∈ L->ok.dst ≠ some x.1) \/ ∃ k ok ek,(k,ok,ek) ∈ tab/\k ∈ L/\ok.dst=some x.1/\x.2=ek
 | [],_,_,h=>.inl ⟨h,fun k ok ek hm=>by simp at hm⟩
 | (i,o,e) :: l,L,st,h=>by
   simp only [stM] at h
   rcases stM_mem h with ⟨h1,h2⟩ | ⟨k,ok,ek,h1,h2,h3⟩
   ·split at h1
    ·rename_i hi
     rcases put_mem h1 with ⟨q1,q2⟩ | ⟨q1,q2⟩
     ·refine .inl ⟨q1,fun k ok ek hm hk=>?_⟩
      rcases List.mem_cons.1 hm with hm | hm
      ·cases hm;exact q2
      ·exact h2 k ok ek hm hk
     ·exact .inr ⟨i,o,e,List.mem_cons_self ..,List.contains_iff_mem.1 hi,q1,q2⟩
    ·rename_i hi
     refine .inl ⟨h1,fun k ok ek hm hk=>?_⟩
     rcases List.mem_cons.1 hm with hm | hm
     ·cases hm;exact absurd (List.contains_iff_mem.2 hk) hi
     ·exact h2 k ok ek hm hk
   ·exact .inr ⟨k,ok,ek,List.mem_cons_of_mem _ h1,h2,h3⟩
theorem stM_old {x:Nat × Ent}:∀ {tab:List (Nat × Oper × Ent)} {L:List Nat} {st:St},x ∈ st.T->(∀ k ok ek,(k,ok,ek) ∈ tab->k ∈ L->ok.dst ≠ some x.1 /\ ∀ d,ok.dst=some d->x.2.by d=false)->x ∈ (stM tab L st).T
 | [],_,_,h,_=>h
 | (i,o,e) :: l,L,st,h,hk=>by
   simp only [stM]
   refine stM_old ?_ (fun k ok ek hm=>hk k ok ek (List.mem_cons_of_mem _ hm))
   split
   ·rename_i hi
    obtain ⟨q1,q2⟩:=hk i o e (List.mem_cons_self ..) (List.contains_iff_mem.1 hi)
    exact put_has h q1 q2
   ·exact h
theorem stM_new {k:Nat} {ok:Oper} {ek:Ent} {d:Nat}:∀ {tab:List (Nat × Oper × Ent)} {L:List Nat} {st:St},(k,ok,ek) ∈ tab->k ∈ L->ok.dst=some d->(tab.map (·.1)).Pairwise (· < ·)->(∀ j oj ej,(j,oj,ej) ∈ tab->k<j->oj.dst ≠ some d /\ ∀ d',oj.dst=some d'->ek.by d'=false)->(d,ek) ∈ (stM tab L st).T
 | [],_,_,h,_,_,_,_=>by simp at h
 | (i,o,e) :: l,L,st,h,hL,hd,hp,hk=>by
   simp only [stM]
   rw [List.map_cons,List.pairwise_cons] at hp
   rcases List.mem_cons.1 h with h | h
   ·cases h
    refine stM_old ?_ (fun j oj ej hm _=>hk j oj ej (List.mem_cons_of_mem _ hm) (hp.1 j (List.mem_map.2 ⟨_,hm,rfl⟩)))
    rw [if_pos (List.contains_iff_mem.2 hL),hd]
    exact put_new
   ·exact stM_new h hL hd hp.2 (fun j oj ej hm=>hk j oj ej (List.mem_cons_of_mem _ hm))
theorem masks_mem {listed:Array Bool} {F:List Nat} {q:Nat->Bool}:∀ (tab:List (Nat × Oper × Ent)) (L:List Nat),(∀ i o e,(i,o,e) ∈ tab->q i=true -> ∀ f,f ∈ o.after->Region.binds .any f=true->listed.getD f.on false=true\/f.on ∈ L\/(∃ k ok ek,(k,ok,ek) ∈ tab/\k<i/\k=f.on/\q k=true)) ->
  (∀ i o e,(i,o,e) ∈ tab->i ∈ F->q i=true)->(tab.map (·.1)).Pairwise (· < ·) -> ∃ L',L' ∈ masks listed F tab L /\ ∀ k,k ∈ L' ↔ k ∈ L\/(k ∈ tab.map (·.1)/\q k=true)
 | [],L,_,_,_=>⟨L,by simp [masks],fun k=>by simp⟩
 | (i,o,e) :: l,L,h1,h2,hp=>by
   rw [List.map_cons,List.pairwise_cons] at hp
   have nl:∀ k ok ek,(k,ok,ek) ∈ l->i<k:=fun k ok ek hm=>hp.1 k (List.mem_map.2 ⟨_,hm,rfl⟩)
   cases hq:q i with
   | true =>
     have ha:aftIn listed L o=true:=by
      unfold aftIn
      rw [Array.all_eq_true_iff_forall_mem]
      intro f hf
      cases hb:Region.binds .any f with
      | false=>rfl
      | true =>
        simp only [Bool.not_true,Bool.false_or,Bool.or_eq_true]
        rcases h1 i o e (List.mem_cons_self ..) hq f hf hb with h | h | ⟨k,ok,ek,hm,hlt,rfl,_⟩
        ·exact .inl h
        ·exact .inr (List.contains_iff_mem.2 h)
        ·rcases List.mem_cons.1 hm with hm | hm
         ·simp only [Prod.mk.injEq] at hm;omega
         ·have:=nl _ _ _ hm;omega
     obtain ⟨L', q1, q2⟩ := masks_mem (listed := listed) (F := F) (q := q) l (i :: L) (fun k ok ek hm hqk f hf hb => by
      rcases h1 k ok ek (List.mem_cons_of_mem _ hm) hqk f hf hb with h | h | ⟨k2,ok2,ek2,hm2,hlt,e2,hq2⟩
      ·exact .inl h
      ·exact .inr (.inl (List.mem_cons_of_mem _ h))
      ·rcases List.mem_cons.1 hm2 with hm2 | hm2
       ·simp only [Prod.mk.injEq] at hm2
        exact .inr (.inl (by rw [<- e2,hm2.1];exact List.mem_cons_self ..))
       ·exact .inr (.inr ⟨k2,ok2,ek2,hm2,hlt,e2,hq2⟩)) (fun k ok ek hm=>h2 k ok ek (List.mem_cons_of_mem _ hm)) hp.2
     refine ⟨L',?_,fun k=>?_⟩
     ·simp only [masks]
      rw [if_pos ha]
      exact List.mem_append_left _ q1
     ·rw [q2,List.map_cons,List.mem_cons,List.mem_cons]
      constructor
      ·rintro ((rfl | h) | ⟨h,hq'⟩)
       ·exact .inr ⟨.inl rfl,hq⟩
       ·exact .inl h
       ·exact .inr ⟨.inr h,hq'⟩
      ·rintro (h | ⟨rfl | h,hq'⟩)
       ·exact .inl (.inr h)
       ·exact .inl (.inl rfl)
       ·exact .inr ⟨h,hq'⟩
   | false =>
     have hF:i ∉ F:=fun hF=>by rw [h2 i o e (List.mem_cons_self ..) hF] at hq;cases hq
     obtain ⟨L', q1, q2⟩ := masks_mem (listed := listed) (F := F) (q := q) l L (fun k ok ek hm hqk f hf hb => by
      rcases h1 k ok ek (List.mem_cons_of_mem _ hm) hqk f hf hb with h | h | ⟨k2,ok2,ek2,hm2,hlt,e2,hq2⟩
      ·exact .inl h
      ·exact .inr (.inl h)
      ·rcases List.mem_cons.1 hm2 with hm2 | hm2
       ·simp only [Prod.mk.injEq] at hm2
        rw [hm2.1] at hq2;rw [hq2] at hq;cases hq
       ·exact .inr (.inr ⟨k2,ok2,ek2,hm2,hlt,e2,hq2⟩)) (fun k ok ek hm=>h2 k ok ek (List.mem_cons_of_mem _ hm)) hp.2
     refine ⟨L',?_,fun k=>?_⟩
     ·simp only [masks]
      refine List.mem_append_right _ ?_
      rw [if_neg (fun h=>hF (List.contains_iff_mem.1 h))]
      exact q1
     ·rw [q2,List.map_cons,List.mem_cons]
      constructor
      ·rintro (h | ⟨h,hq'⟩)
       ·exact .inl h
       ·exact .inr ⟨.inr h,hq'⟩
      ·rintro (h | ⟨rfl | h,hq'⟩)
       ·exact .inl h
       ·rw [hq'] at hq;cases hq
       ·exact .inr ⟨h,hq'⟩
theorem stM_congr:∀ {tab:List (Nat × Oper × Ent)} {L L':List Nat} {st:St},(∀ k,k ∈ tab.map (·.1)->(k ∈ L ↔ k ∈ L'))->stM tab L st=stM tab L' st
 | [],_,_,_,_=>rfl
 | (i,o,e) :: l,L,L',st,h=>by
   simp only [stM]
   have e1:L.contains i=L'.contains i:=by
    have:=h i (by simp)
    cases h1:L.contains i <;> cases h2:L'.contains i <;> simp_all
   rw [e1]
   exact stM_congr (fun k hk=>h k (by rw [List.map_cons];exact List.mem_cons_of_mem _ hk))
theorem setL_size:∀ (l:List Nat) (listed:Array Bool),(setL listed l).size=listed.size
 | [],_=>rfl
 | i :: l,listed=>by rw [setL,setL_size l,Array.size_setIfInBounds]
theorem setL_getD:∀ (l:List Nat) (listed:Array Bool) (j:Nat),j<listed.size->(setL listed l).getD j false=(listed.getD j false || l.contains j)
 | [],listed,j,_=>by simp [setL]
 | i :: l,listed,j,hj=>by
   rw [setL,setL_getD l _ j (by simpa using hj)]
   by_cases h:i=j
   ·subst h
    rw [getD_set_self hj];simp
   ·rw [getD_set_other (Ne.symm h)]
    have:(i :: l).contains j=l.contains j:=by simp [Ne.symm h]
    rw [this]
section
variable {ro:Option Nat} {n:Nat} {ops:Array Oper} {Q:Exit->Act->World->Prop}
theorem lateY {j:Nat} {oi oj:Oper} {v:Value} (hj:ops[j]? = some oj) (hap:oi.apart ops oj=true) (hsi:∀ cs b,oi.op ≠ .select cs b) (h4:∀ c,oj.op ≠ .defer c) (h5:∀ cs b,oj.op ≠ .select cs b)
  (hQ:∀ c a w,¬ Q (.panic c) a w) {K:Act->World->Prop} {a:Act} {w:World} (hy:Yields P ops oi v a) (h:wpOpIn (W ro) n P ops Q j K (a.put oi.dst v) w) :
  wpOpIn (W ro) n P ops Q j (fun a' w'=>Yields P ops oi v a'/\K (a'.put oi.dst v) w') a w:=by
 obtain ⟨h1,h2,h3⟩:=Oper.apart_spec hap
 have keep:∀ (a:Act),Yields P ops oi v a -> ∀ u,Yields P ops oi v (a.put oj.dst u):=fun a hy u=>hy.of_same (execOp_put oi hsi a oj.dst u h3) (wanted_put oi a oj.dst u h3)
 unfold wpOpIn at *
 simp only [hj] at *
 rw [wanted_put oj a oi.dst v h1,about_put oj w a oi.dst v h1] at h
 split
 ·rename_i hw
  simp only [hw,if_true] at h
  unfold Oper.wpIn at *
  rw [about_put oj w a oi.dst v h1] at h
  refine ⟨h.1,?_⟩
  have h:=h.2
  rw [Oper.semAt_eq _ _ _ h4,execOp_put oj h5 a oi.dst v h1] at h
  rw [Oper.semAt_eq _ _ _ h4]
  generalize (execOp a.eval oj).run P w=r at *
  cases r with
  | ok x w' =>
    cases x <;> simp only [Oper.uponIn] at h ⊢
    case value u=>exact ⟨keep a hy u,by rw [<- Act.put_comm a v u h2];exact h⟩
    case skip=>exact ⟨keep a hy _,by rw [<- Act.put_comm a v undef h2];exact h⟩
    case defer q =>
     refine ⟨keep { a with defers:=q :: a.defers } (hy.of_same rfl rfl) _,?_⟩
     rw [<- Act.put_comm _ v undef h2,<- Act.put_defers]
     exact h
    case enter f args =>
     refine ⟨h.1,CallsIn.mono h.2 fun e w'' he=>?_⟩
     cases e with
     | returned u=>exact ⟨keep a hy u,by rw [<- Act.put_comm a v u h2];exact he⟩
     | panicked c=>exact (hQ _ _ _ he).elim
     | outgrown=>exact he
    case row row args=>exact ⟨h.1,RowsIn.mono h.2 fun u w'' he=>⟨keep a hy u,by rw [<- Act.put_comm a v u h2];exact he⟩⟩
    case round l f tmps assign body =>
     refine ⟨h.1,RoundIn.mono h.2 fun e w'' he=>?_⟩
     cases e with
     | returned u=>exact ⟨keep a hy u,by rw [<- Act.put_comm a v u h2];exact he⟩
     | panicked c=>exact (hQ _ _ _ he).elim
     | outgrown=>exact he
  | halt x w' =>
    cases x <;> simp only [Oper.uponIn] at h ⊢
    case panic u=>exact (hQ _ _ _ h).elim
 ·rename_i hw
  simp only [hw] at h
  exact ⟨h.1,keep a hy _,by rw [<- Act.put_comm a v undef h2];exact h.2⟩
theorem nowY {i:Nat} {oi:Oper} {v:Value} (hi:ops[i]? = some oi) (hdf:∀ c,oi.op ≠ .defer c) {K:Act->World->Prop} {a:Act} {w:World} (hy:Yields P ops oi v a) (h:K (a.put oi.dst v) w):wpOpIn (W ro) n P ops Q i K a w:=by
 unfold wpOpIn
 simp only [hi]
 rcases hy with ⟨hw,hv⟩ | ⟨hw,rfl⟩
 ·simp only [hw,if_true]
  refine ⟨fun _ _=>trivial,?_⟩
  rw [Oper.semAt_eq _ _ _ hdf,hv]
  exact h
 ·simp only [hw,Bool.false_eq_true,if_false]
  exact ⟨fun _ _=>trivial,h⟩
theorem earlyY {i:Nat} {oi:Oper} {v:Value} (hi:ops[i]? = some oi) (hp:plainOps ops=true) (hQ:∀ c a w,¬ Q (.panic c) a w) :
  ∀ (fuel:Nat) (listed:Array Bool) (a:Act) (w:World),(∀ j oj,ops[j]? = some oj->j ≠ i->listed.getD j true=false->(∀ e,e ∈ oj.after->Region.binds .any e=true->e.on ≠ i)->oi.apart ops oj=true) ->
    i ∈ Region.ready .any ops listed->Yields P ops oi v a->wpAnyIn (W ro) n P .any ops Q fuel (listed.setIfInBounds i true) (a.put oi.dst v) w->wpAnyIn (W ro) n P .any ops Q (fuel+1) listed a w:=by
 obtain ⟨pd,ps⟩:=plainOps_spec hp hi
 intro fuel
 induction fuel with
 | zero =>
   intro listed a w _ hr hy H
   refine ⟨fun h=>(by rw [h] at hr;cases hr),fun j hj=>?_⟩
   by_cases hji:j=i
   ·subst hji;exact nowY hi pd hy H
   ·have:=ready_mono hj hji
    rw [H.1] at this
    cases this
 | succ fuel ih =>
   intro listed a w hfree hr hy H
   refine ⟨fun h=>(by rw [h] at hr;cases hr),fun j hj=>?_⟩
   by_cases hji:j=i
   ·subst hji;exact nowY hi pd hy H
   ·have h1:=H.2 j (ready_mono hj hji)
    obtain ⟨hjun,oj,hoj,hall⟩:=mem_ready.1 hj
    have hnot:∀ e,e ∈ oj.after->Region.binds .any e=true->e.on ≠ i:=fun e he hb heq=>by
     have h1:=hall e he hb
     have h0:=(mem_ready.1 hr).1
     rw [heq] at h1
     rcases Nat.lt_or_ge i listed.size with h' | h'
     ·simp [h'] at h0 h1;rw [h0] at h1;cases h1
     ·simp [Array.getElem?_eq_none h'] at h1
    obtain ⟨p4,p5⟩:=plainOps_spec hp hoj
    have h2:=lateY hoj (hfree j oj hoj hji hjun hnot) ps p4 p5 hQ hy h1
    refine wpOpIn_mono (fun a' w' h3=>ih (listed.setIfInBounds j true) a' w' (fun k ok hk hki hun hno=>?_) (ready_mono hr (Ne.symm hji)) h3.1 ?_) h2
    ·refine hfree k ok hk hki ?_ hno
     by_cases hjk:j=k
     ·subst hjk;exact hjun
     ·rw [getD_set_ne true hjk] at hun;exact hun
    ·rw [Array.setIfInBounds_comm _ _ hji]
     exact h3.2
end
theorem mixD (hG:Stable G) {C:Cfg} (hC:SpecsOk P G C) {fl:Bool} {ops:Array Oper} {listed:Array Bool} {st1:St} {tab:List (Nat × Oper × Ent)} {pps:List Prop} (hT:TabAt P C fl ops listed st1 tab pps) (hps:all pps)
  (hchk:∀ i o,ops[i]? = some o->(∀ e,e ∈ o.after->Region.binds .any e=true->e.on<i) /\ ∀ j oj d,j ≠ i->ops[j]? = some oj->oj.dst=some d->o.dst ≠ some d/\(d ∈ slotsOf ops o->if j<i then aft o j=true else aft oj i=true)/\(d ∈ guardSlot ops o->j<i))
  (noG:∀ x,x ∈ st1.T -> ∀ (j:Nat) (oj:Oper) d,ops[j]? = some oj->oj.dst=some d->x.2.by d=false) {L:List Nat} (S:SatC P G (stM tab L st1) a w env M X)
  (hcl:∀ k ok ek,(k,ok,ek) ∈ tab->k ∈ L -> ∀ f,f ∈ ok.after->Region.binds .any f=true->listed.getD f.on false=true\/f.on ∈ L) {j:Nat} {o:Oper} {e:Ent} (hm:(j,o,e) ∈ tab) (hj:j ∉ L)
  (haf:∀ f,f ∈ o.after->Region.binds .any f=true->listed.getD f.on false=true\/f.on ∈ L) :
  (Region.wanted o (yielded ops a.tmps)=true->Leads P a o w (fun a' w'=>Sat P G (stM tab (j :: L) st1) a' w'))/\(¬ Region.wanted o (yielded ops a.tmps)=true->Sat P G (stM tab (j :: L) st1) (a.put o.dst undef) w):=by
 obtain ⟨ho,hun,haft,stX,ps,hdr,hpp,tw,hX⟩:=hT.at_ j o e hm
 obtain ⟨hc1,hc2⟩:=hchk j o ho
 have twM:=stM_twin tab L st1
 have same:∀ k ok ek,(k,ok,ek) ∈ tab -> ∀ ok' ek',(k,ok',ek') ∈ tab->ok=ok':=fun k ok ek h1 ok' ek' h2=>by
  have e1:=(hT.at_ k ok ek h1).1
  have e2:=(hT.at_ k ok' ek' h2).1
  rw [e1] at e2;exact Option.some.inj e2
 -- entries of operations that are done
 have done:∀ k ok ek d,(k,ok,ek) ∈ tab->k ∈ L->ok.dst=some d->(d,ek) ∈ (stM tab L st1).T:=fun k ok ek d h1 h2 h3 =>
  stM_new h1 h2 h3 hT.inc (fun j' oj' ej' h4 hlt=>by
   obtain ⟨p1,p2⟩:=hchk k ok (hT.at_ _ _ _ h1).1
   refine ⟨fun h5=>?_,fun d' h5=>?_⟩
   ·exact (p2 j' oj' d (by omega) (hT.at_ _ _ _ h4).1 h5).1 h3
   ·cases hb:ek.by d' with
    | false=>rfl
    | true =>
      obtain ⟨_,_,_,sx,qs,hd',_⟩:=hT.at_ _ _ _ h1
      have hg:=drawP_guard hd' d' hb
      have:=(p2 j' oj' d' (by omega) (hT.at_ _ _ _ h4).1 h5).2.2 hg
      omega)
 have hsub:∀ x,x ∈ (stX.only (slotsOf ops o)).T->x ∈ (stM tab L st1).T:=fun x hx=>by
  obtain ⟨h1,h2⟩:=List.mem_filter.1 hx
  have hsl:x.1 ∈ slotsOf ops o:=List.contains_iff_mem.1 h2
  rcases hX x h1 with ⟨q1,q2⟩ | ⟨k,ok,ek,q1,q2,q3,q4⟩
  ·refine stM_old q1 (fun k ok ek hk hkL=>⟨fun hd=>?_,fun d hd=>noG x q1 k ok d (hT.at_ _ _ _ hk).1 hd⟩)
   have hne:k ≠ j:=fun e=>hj (e ▸ hkL)
   have h3:=(hc2 k ok x.1 hne (hT.at_ _ _ _ hk).1 hd).2.1 hsl
   split at h3
   ·rename_i hlt;exact q2 k ok ek hk hlt hd
   ·obtain ⟨f,f1,f2,f3⟩:=aft_spec h3
    rcases hcl k ok ek hk hkL f f1 f2 with h4 | h4
    ·rw [f3,hun] at h4;cases h4
    ·rw [f3] at h4;exact hj h4
  ·obtain ⟨x1,x2⟩:=x
   have q3:ok.dst=some x1:=q3
   have q4:x2=ek:=q4
   subst q4
   have h3:=(hc2 k ok x1 (by omega) (hT.at_ _ _ _ q1).1 q3).2.1 hsl
   rw [if_pos q2] at h3
   obtain ⟨f,f1,f2,f3⟩:=aft_spec h3
   have hkL:k ∈ L:=by
    rcases haf f f1 f2 with h4 | h4
    ·rw [f3,(hT.at_ _ _ _ q1).2.1] at h4;cases h4
    ·rw [f3] at h4;exact h4
   exact done k ok x2 x1 q1 hkL q3
 have hown:(stX.only (slotsOf ops o)).own=(stM tab L st1).own:=tw.1.trans twM.1.symm
 have S0:SatC P G (stX.only (slotsOf ops o)) a w env M X:=S.sub hsub (fun x hx=>by rw [hown] at hx;exact hx) (by rw [hown];exact S.nod) (tw.2.1.trans twM.2.1.symm) (tw.2.2.2.trans twM.2.2.2.symm)
 have hnt:stX.nt=(stM tab L st1).nt:=tw.2.2.2.trans twM.2.2.2.symm
 -- the next state
 have fin:∀ a' w',Sat P G ((stM tab L st1).put o.dst e) a' w'->Sat P G (stM tab (j :: L) st1) a' w':=fun a' w' ⟨env',M',X',S'⟩=>by
  have twJ:=stM_twin tab (j :: L) st1
  have twP:=Twin.put (stM tab L st1) o.dst e
  have eo:(stM tab (j :: L) st1).own=((stM tab L st1).put o.dst e).own:=twJ.1.trans ((twM.trans twP).1).symm
  refine ⟨env',M',X',S'.sub (fun x hx=>?_) (fun x hx=>by rw [eo] at hx;exact hx) (by rw [eo];exact S'.nod) (twJ.2.1.trans ((twM.trans twP).2.1).symm) (twJ.2.2.2.trans ((twM.trans twP).2.2.2).symm)⟩
  rcases stM_mem hx with ⟨h1,h2⟩ | ⟨k,ok,ek,h1,h2,h3,h4⟩
  ·refine put_has (stM_old h1 (fun k ok ek hk hkL=>⟨h2 k ok ek hk (List.mem_cons_of_mem _ hkL),fun d hd=>noG x h1 k ok d (hT.at_ _ _ _ hk).1 hd⟩)) (h2 j o e hm (List.mem_cons_self ..)) (fun d hd=>noG x h1 j o d ho hd)
  ·obtain ⟨x1,x2⟩:=x
   have h3:ok.dst=some x1:=h3
   have h4:x2=ek:=h4
   subst h4
   rcases List.mem_cons.1 h2 with rfl | h2
   ·obtain rfl:=same _ _ _ hm _ _ h1
    have:e=x2:=by
     have:=hT.inc
     obtain ⟨i1,hi1,e1⟩:=List.getElem_of_mem hm
     obtain ⟨i2,hi2,e2⟩:=List.getElem_of_mem h1
     have hpw:=List.pairwise_iff_getElem.1 this
     rcases Nat.lt_trichotomy i1 i2 with hlt | rfl | hlt
     ·have:=hpw i1 i2 (by simpa using hi1) (by simpa using hi2) hlt;simp [e1,e2] at this
     ·rw [e1] at e2;simp at e2;exact e2
     ·have:=hpw i2 i1 (by simpa using hi2) (by simpa using hi1) hlt;simp [e1,e2] at this
    subst this
    rw [h3];exact put_new
   ·refine put_has (done k ok x2 x1 h1 h2 h3) ?_ (fun d hd=>?_)
    ·have hne:k ≠ j:=fun e=>hj (e ▸ h2)
     exact (hc2 k ok x1 hne (hT.at_ _ _ _ h1).1 h3).1
    ·cases hb:x2.by d with
     | false=>rfl
     | true =>
       obtain ⟨p1,p2⟩:=hchk k ok (hT.at_ _ _ _ h1).1
       obtain ⟨_,_,_,sx,qs,hd',_⟩:=hT.at_ _ _ _ h1
       have hg:=drawP_guard hd' d hb
       have hne:j ≠ k:=fun e=>hj (e ▸ h2)
       obtain ⟨_,g1,g2⟩:=p2 j o d hne ho hd
       have hlt:=g2 hg
       have h5:=g1 (by unfold slotsOf;exact List.mem_append_right _ hg)
       rw [if_pos hlt] at h5
       obtain ⟨f,f1,f2,f3⟩:=aft_spec h5
       rcases hcl k ok x2 h1 h2 f f1 f2 with h6 | h6
       ·rw [f3,hun] at h6;cases h6
       ·rw [f3] at h6;exact absurd h6 hj
 obtain ⟨s1,s2,s3⟩:=drawP_spec hdr
 obtain ⟨k1,k2⟩:=drawStep_ok hG hC s3 s1 (fun p hp=>hps p (hpp p hp)) (st2:=stM tab L st1) hnt.symm S0 S (fun d o' h=>by rw [s2] at h;cases h)
 rw [s2,add_nil] at k1 k2
 exact ⟨fun hw=>leads_mono (k1 hw) fin,fun hw=>fin _ _ (k2 hw)⟩
theorem stM_nil:∀ (tab:List (Nat × Oper × Ent)) (st:St),stM tab [] st=st
 | [],_=>rfl
 | (i,o,e) :: l,st=>by simp only [stM];exact stM_nil l st
theorem ready_of_unl {ops:Array Oper} {listed:Array Bool} (hsz:listed.size=ops.size) (hlt:∀ i o,ops[i]? = some o -> ∀ e,e ∈ o.after->Region.binds .any e=true->e.on<i) (h:Region.ready .any ops listed = []):∀ i,i<ops.size->listed.getD i false=true:=by
 intro i
 induction i using Nat.strongRecOn with
 | _ i ih =>
   intro hi
   cases hx:listed.getD i false with
   | true=>rfl
   | false =>
     exfalso
     have ho:ops[i]? = some ops[i]:=Array.getElem?_eq_getElem hi
     have:i ∈ Region.ready .any ops listed:=mem_ready.2 ⟨by
      rw [Array.getD_eq_getD_getElem?,Array.getElem?_eq_getElem (by omega)] at hx ⊢
      exact hx,ops[i],ho,fun e he hb=>ih e.on (hlt i _ ho e he hb) (by have:=hlt i _ ho e he hb;omega)⟩
     rw [h] at this;cases this
theorem getD_tf {l:Array Bool} {i:Nat} (h:i<l.size):l.getD i true=l.getD i false:=by
 rw [Array.getD_eq_getD_getElem?,Array.getD_eq_getD_getElem?,Array.getElem?_eq_getElem h];rfl
theorem execAny_ok0 (hG:Stable G) {C:Cfg} (hC:SpecsOk P G C) {fl:Bool} {ro:Option Nat} {n:Nat} {ops:Array Oper} {Q:Exit->Act->World->Prop} {K:St->Prop} (hK:∀ st a w,K st->Sat P G st a w->Q .normal a w) (hQ:∀ c a w,¬ Q (.panic c) a w) :
  ∀ (fuel:Nat) (listed:Array Bool) (st:St) (a:Act) (w:World),execAny P C fl ops fuel listed st K->Sat P G st a w->listed.size=ops.size -> ∀ f,unl ops.size listed <= f->wpAnyIn (W ro) n P .any ops Q f listed a w:=by
 intro fuel
 induction fuel with
 | zero =>
   intro listed st a w h hs _ f _
   unfold execAny at h
   split at h
   ·rename_i hr;exact wpAnyIn_done hr (hK _ _ _ h hs) f
   ·exact h.elim
 | succ fuel ih =>
   intro listed st a w h hs hsz f hf
   unfold execAny at h
   split at h
   ·rename_i hr;exact wpAnyIn_done hr (hK _ _ _ h hs) f
   rename_i i0 l0 hr
   have hlow:∀ {i},i ∈ Region.ready .any ops listed->i<ops.size/\listed.getD i false=false:=fun {i} hi=>by
    obtain ⟨h1,o,h2,_⟩:=mem_ready.1 hi
    have hlt:=(Array.getElem?_eq_some_iff.1 h2).1
    exact ⟨hlt,by rw [<- getD_tf (by omega)];exact h1⟩
   have hstep:∀ {i},i ∈ Region.ready .any ops listed->unl ops.size (listed.setIfInBounds i true)<unl ops.size listed:=fun {i} hi=>by
    obtain ⟨h1,h2⟩:=hlow hi
    exact unl_set h1 (by omega) h2
   obtain ⟨f,rfl⟩:∃ f',f=f'+1:=⟨f - 1,by have:=hstep (i:=i0) (by rw [hr];exact List.mem_cons_self ..);omega⟩
   split at h
   ·-- something that may as well be done first
    rename_i i r hfw
    split at hfw
    rotate_left
    ·cases hfw
    rename_i hpl
    obtain ⟨him,o,ho,hfree,hr2⟩:=firstW_spec hfw
    rw [<- hr] at him
    have ho':ops[i]? = some o:=by simpa using ho
    have hsz':(listed.setIfInBounds i true).size=ops.size:=by rw [Array.size_setIfInBounds];exact hsz
    have hun:unl ops.size (listed.setIfInBounds i true) <= f:=by have:=hstep him;omega
    have hfs:=Region.free_spec ho' hfree
    rcases hr2 with ⟨rfl,hm⟩ | ⟨⟨ps,e⟩,rfl,hd⟩
    ·simp only [ho] at h
     obtain ⟨⟨d,s⟩,hm⟩:=Option.isSome_iff_exists.1 hm
     obtain ⟨env,M,X,S⟩:=hs
     obtain ⟨k1,_⟩:=execOps_step hG hC h S
     have hw:=wanted_move (ops:=ops) (a:=a) hm
     obtain ⟨u,hu,st',hk,hs'⟩:=leads_move (k1 hw) hm
     obtain ⟨_,hdst,_⟩:=moveOf_spec hm
     exact earlyY ho' hpl hQ f listed a w hfs him (v:=u) (.inl ⟨hw,hu⟩) (by rw [hdst];exact ih _ _ _ _ hk hs' hsz' f hun)
    ·simp only [ho] at h
     obtain ⟨hps,h⟩:=conj_spec h
     obtain ⟨env,M,X,S⟩:=hs
     obtain ⟨v,hy,S'⟩:=drawW_ok S hd hps
     exact earlyY ho' hpl hQ f listed a w hfs him hy (ih _ _ _ _ h ⟨env,M,X,S'⟩ hsz' f hun)
   ·-- those that read and compute,those that do more
    split at h
    rotate_left
    ·exact h.elim
    rename_i hchk0
    have hchk:=fun i o (hi:ops[i]? = some o)=>drawChk_at ops.toList 0 hchk0 i o (by simpa using hi)
    simp only [Nat.zero_add] at hchk
    have hchk:∀ i o,ops[i]? = some o->(∀ e,e ∈ o.after->Region.binds .any e=true->e.on<i) /\ ∀ j oj d,j ≠ i->ops[j]? = some oj->oj.dst=some d->o.dst ≠ some d/\(d ∈ slotsOf ops o->if j<i then aft o j=true else aft oj i=true)/\(d ∈ guardSlot ops o->j<i) :=
     fun i o hi=>⟨(hchk i o hi).1,fun j oj d hne hj hd=>(hchk i o hi).2 j oj d hne (by simpa using hj) hd⟩
    split at h
    rename_i ps tab hgo
    obtain ⟨hps,h⟩:=conj_spec h
    generalize hst1:st.noGuards ops.toList=st1 at *
    have hs1:Sat P G st1 a w:=by
     obtain ⟨env,M,X,S⟩:=hs
     rw [<- hst1]
     exact ⟨env,M,X,S.sub (fun x hx=>(List.mem_filter.1 hx).1) (fun _ hx=>hx) S.nod rfl rfl⟩
    have noG:∀ x,x ∈ st1.T -> ∀ (j:Nat) (oj:Oper) d,ops[j]? = some oj->oj.dst=some d->x.2.by d=false:=fun x hx j oj d hj hd=>by
     rw [<- hst1] at hx
     have h1:=(List.mem_filter.1 hx).2
     simp only [Bool.not_eq_true',List.any_eq_false] at h1
     have:=h1 oj (List.mem_of_getElem? (by simpa using hj))
     rw [hd] at this
     simpa using this
    obtain ⟨t1,t2⟩:=mixGo_at (P:=P) (C:=C) (fl:=fl) (ops:=ops) (listed:=listed) (st:=st1) ops.toList 0 st1 [] [] ps tab hgo (fun k o hk=>by rw [Nat.zero_add];simpa using hk) (fun k=>by simp) (fun k ok ek hm=>by simp at hm) ⟨rfl,rfl,rfl,rfl⟩ (fun x hx=>.inl ⟨hx,fun k ok ek hm=>by simp at hm⟩)
    have hT:TabAt P C fl ops listed st1 tab ps:=⟨fun i o e hm=>by
     obtain ⟨_,q1,q2,q3,q4⟩:=t1 i o e hm
     exact ⟨q1,q2,by simpa using q3,by simpa using q4⟩,t2⟩
    obtain ⟨env,M,X,S1⟩:=hs1
    -- the invariant: L is done
    have key : ∀ (m:Nat) (L : List Nat) (lc : Array Bool) (a : Act) (w : World) (env : Env) (M X : Nat -> Prop) (f:Nat), unl ops.size lc <= m -> SatC P G (stM tab L st1) a w env M X -> (∀ k, k ∈ L -> k ∈ tab.map (·.1)) ->
      (∀ k ok ek,(k,ok,ek) ∈ tab->k ∈ L -> ∀ f,f ∈ ok.after->Region.binds .any f=true->listed.getD f.on false=true\/f.on ∈ L)->lc.size=ops.size->(∀ j,j<ops.size->lc.getD j false=(listed.getD j false || L.contains j))->unl ops.size lc <= f->unl ops.size lc <= unl ops.size listed ->
      wpAnyIn (W ro) n P .any ops Q f lc a w:=by
     intro m
     induction m with
     | zero =>
       intro L lc a w env M X f hm SL hLD hcl hlsz hlc hf hle
       have hr0:Region.ready .any ops lc = []:=by
        cases hx:Region.ready .any ops lc with
        | nil=>rfl
        | cons j l =>
          obtain ⟨q1,o,q2,_⟩:=mem_ready.1 (show j ∈ Region.ready .any ops lc by rw [hx];exact List.mem_cons_self ..)
          have hlt:=(Array.getElem?_eq_some_iff.1 q2).1
          have:=unl_set (listed:=lc) hlt (by omega) (by rw [<- getD_tf (by omega)];exact q1)
          omega
       exact wpAnyIn_done hr0 (by
        have hall:=ready_of_unl hlsz (fun i o hi=>(hchk i o hi).1) hr0
        have hin:∀ j,j<ops.size->listed.getD j false=true\/j ∈ L:=fun j hj=>by
         have:=hall j hj
         rw [hlc j hj,Bool.or_eq_true] at this
         exact this.imp id List.contains_iff_mem.1
        split at h
        ·split at h
         ·refine hK _ _ _ h ⟨env,M,X,?_⟩
          rw [stM_congr (L':=L) (fun k hk=>⟨fun _=>?_,fun hk'=>hLD k hk'⟩)]
          ·exact SL
          ·obtain ⟨⟨k',o,e⟩,hm',rfl⟩:=List.mem_map.1 hk
           have:=hT.at_ _ _ _ hm'
           rcases hin k' (Array.getElem?_eq_some_iff.1 this.1).1 with h5 | h5
           ·rw [this.2.1] at h5;cases h5
           ·exact h5
         ·exact h.elim
        ·rename_i j l hoth
         exfalso
         have hj:j ∈ others ops listed (tab.map (·.1)):=by rw [hoth];exact List.mem_cons_self ..
         obtain ⟨h5,h6⟩:=List.mem_filter.1 hj
         simp only [Bool.and_eq_true,Bool.not_eq_true'] at h6
         rcases hin j (List.mem_range.1 h5) with h7 | h7
         ·rw [h6.1.1] at h7;cases h7
         ·have:=List.contains_iff_mem.2 (hLD j h7)
          rw [h6.1.2] at this;cases this) f
     | succ m ihm =>
       intro L lc a w env M X f hm SL hLD hcl hlsz hlc hf hle
       have fin:Region.ready .any ops lc = []->Q .normal a w:=fun hr0=>by
        have hall:=ready_of_unl hlsz (fun i o hi=>(hchk i o hi).1) hr0
        have hin:∀ j,j<ops.size->listed.getD j false=true\/j ∈ L:=fun j hj=>by
         have:=hall j hj
         rw [hlc j hj,Bool.or_eq_true] at this
         exact this.imp id List.contains_iff_mem.1
        split at h
        ·split at h
         ·refine hK _ _ _ h ⟨env,M,X,?_⟩
          rw [stM_congr (L':=L) (fun k hk=>⟨fun _=>?_,fun hk'=>hLD k hk'⟩)]
          ·exact SL
          ·obtain ⟨⟨k',o,e⟩,hm',rfl⟩:=List.mem_map.1 hk
           have:=hT.at_ _ _ _ hm'
           rcases hin k' (Array.getElem?_eq_some_iff.1 this.1).1 with h5 | h5
           ·rw [this.2.1] at h5;cases h5
           ·exact h5
         ·exact h.elim
        ·rename_i j l hoth
         exfalso
         have hj:j ∈ others ops listed (tab.map (·.1)):=by rw [hoth];exact List.mem_cons_self ..
         obtain ⟨h5,h6⟩:=List.mem_filter.1 hj
         simp only [Bool.and_eq_true,Bool.not_eq_true'] at h6
         rcases hin j (List.mem_range.1 h5) with h7 | h7
         ·rw [h6.1.1] at h7;cases h7
         ·have:=List.contains_iff_mem.2 (hLD j h7)
          rw [h6.1.2] at this;cases this
       cases f with
       | zero =>
         have hr0:Region.ready .any ops lc = []:=by
          cases hx:Region.ready .any ops lc with
          | nil=>rfl
          | cons j l =>
            obtain ⟨q1,o,q2,_⟩:=mem_ready.1 (show j ∈ Region.ready .any ops lc by rw [hx];exact List.mem_cons_self ..)
            have hlt:=(Array.getElem?_eq_some_iff.1 q2).1
            have:=unl_set (listed:=lc) hlt (by omega) (by rw [<- getD_tf (by omega)];exact q1)
            omega
         exact ⟨hr0,fin hr0⟩
       | succ f =>
         refine ⟨fin,fun j hj=>?_⟩
         obtain ⟨q1,o,ho,haf⟩:=mem_ready.1 hj
         have hjs:=(Array.getElem?_eq_some_iff.1 ho).1
         have hjf:lc.getD j false=false:=by rw [<- getD_tf (by omega)];exact q1
         have hdec:=unl_set hjs (by omega) hjf
         have hjn:=hjf
         rw [hlc j hjs,Bool.or_eq_false_iff] at hjn
         have hjL:j ∉ L:=fun hx=>by rw [List.contains_iff_mem.2 hx] at hjn;exact absurd hjn.2 (by decide)
         have haf':∀ f,f ∈ o.after->Region.binds .any f=true->listed.getD f.on false=true\/f.on ∈ L:=fun f hf hb=>by
          have h5:=haf f hf hb
          have h6:=(hchk j o ho).1 f hf hb
          rw [hlc _ (by omega),Bool.or_eq_true] at h5
          exact h5.imp id List.contains_iff_mem.1
         have hsz2:(lc.setIfInBounds j true).size=ops.size:=by rw [Array.size_setIfInBounds];exact hlsz
         have hlc2:∀ k,k<ops.size->(lc.setIfInBounds j true).getD k false=(listed.getD k false || (j :: L).contains k):=fun k hk=>by
          by_cases hkj:k=j
          ·subst hkj
           rw [getD_set_self (by omega)];simp
          ·rw [getD_set_other hkj,hlc k hk]
           have:(j :: L).contains k=L.contains k:=by simp [hkj]
           rw [this]
         unfold wpOpIn
         rw [ho]
         simp only
         by_cases hjD:j ∈ tab.map (·.1)
         ·obtain ⟨⟨j',o',e⟩,hm',rfl⟩:=List.mem_map.1 hjD
          have hoo:=(hT.at_ _ _ _ hm').1
          simp only at ho hoo hjL hjs hdec hsz2 hlc2 ⊢
          rw [ho] at hoo
          obtain rfl:=Option.some.inj hoo
          obtain ⟨m1,m2⟩:=mixD hG hC hT hps hchk noG SL hcl hm' hjL haf'
          have next:∀ a' w',Sat P G (stM tab (j' :: L) st1) a' w'->wpAnyIn (W ro) n P .any ops Q f (lc.setIfInBounds j' true) a' w':=fun a' w' ⟨env',M',X',S'⟩ =>
           ihm (j' :: L) _ a' w' env' M' X' f (by omega) S' (fun k hk=>by
            rcases List.mem_cons.1 hk with rfl | hk
            ·exact hjD
            ·exact hLD k hk) (fun k ok ek hk hkL f hf hb=>by
            rcases List.mem_cons.1 hkL with rfl | hkL
            ·have h5:=(hT.at_ _ _ _ hk).1
             rw [ho] at h5
             obtain rfl:=Option.some.inj h5
             exact (haf' f hf hb).imp id (List.mem_cons_of_mem _)
            ·exact (hcl k ok ek hk hkL f hf hb).imp id (List.mem_cons_of_mem _)) hsz2 hlc2 (by omega) (by omega)
          split
          ·rename_i hw
           exact leads_wpIn (N:=wpAnyIn (W ro) n P .any ops Q f (lc.setIfInBounds j' true)) (leads_mono (m1 hw) next)
          ·rename_i hw
           exact ⟨fun _ _=>trivial,next _ _ (m2 hw)⟩
         ·have hoth : j ∈ others ops listed (tab.map (·.1)) := by
           refine List.mem_filter.2 ⟨List.mem_range.2 hjs,?_⟩
           have h5:ops.toList[j]? = some o:=by simpa using ho
           rw [h5,hjn.1]
           simp only [Bool.not_false,Bool.true_and,Bool.and_eq_true,Bool.not_eq_true']
           refine ⟨?_,?_⟩
           ·cases hx:(tab.map (·.1)).contains j with
            | false=>rfl
            | true=>exact absurd (List.contains_iff_mem.1 hx) hjD
           ·unfold aftIn
            rw [Array.all_eq_true_iff_forall_mem]
            intro f hf
            cases hb:Region.binds .any f with
            | false=>rfl
            | true =>
              simp only [Bool.not_true,Bool.false_or,Bool.or_eq_true]
              exact (haf' f hf hb).imp id (fun h6=>List.contains_iff_mem.2 (hLD _ h6))
          split at h
          ·rename_i hx;rw [hx] at hoth;cases hoth
          rename_i j1 l1 hx
          rw [hx] at hoth
          have hE:=forL_mem h j hoth
          have h5:ops.toList[j]? = some o:=by simpa using ho
          rw [h5] at hE
          simp only at hE
          obtain ⟨L', hL1, hL2⟩ := masks_mem (listed := listed) (F := aftL o) (q := fun k => L.contains k) tab [] (fun i oi ei hi hqi f hf hb => by
            rcases hcl i oi ei hi (List.contains_iff_mem.1 hqi) f hf hb with h6 | h6
            ·exact .inl h6
            ·obtain ⟨⟨k,ok,ek⟩,hk,hke⟩:=List.mem_map.1 (hLD _ h6)
             exact .inr (.inr ⟨k,ok,ek,hk,by have:=(hchk i oi (hT.at_ _ _ _ hi).1).1 f hf hb;have hke:k=f.on:=hke;omega,hke,List.contains_iff_mem.2 (by have hke:k=f.on:=hke;rw [hke];exact h6)⟩))
           (fun i oi ei hi hF=>by
            unfold aftL at hF
            obtain ⟨f,hf,rfl⟩:=List.mem_map.1 hF
            obtain ⟨hf1,hf2⟩:=List.mem_filter.1 hf
            rcases haf' f (by simpa using hf1) hf2 with h6 | h6
            ·rw [(hT.at_ _ _ _ hi).2.1] at h6;cases h6
            ·exact List.contains_iff_mem.2 h6) hT.inc
          have hE:=forM_mem hE L' hL1
          have hLL:∀ k,k ∈ L' ↔ k ∈ L:=fun k=>by
           rw [hL2]
           constructor
           ·rintro (h6 | ⟨_,h6⟩)
            ·cases h6
            ·exact List.contains_iff_mem.1 h6
           ·exact fun h6=>.inr ⟨hLD k h6,List.contains_iff_mem.2 h6⟩
          rw [stM_congr (L':=L) (fun k _=>hLL k)] at hE
          obtain ⟨k1,k2⟩:=execOps_step hG hC hE SL
          have hset:setL listed (j :: L')=lc.setIfInBounds j true:=by
           apply Array.ext
           ·rw [setL_size,hsz2,hsz]
           ·intro k hk1 hk2
            have hk:k<ops.size:=by omega
            have e1:=setL_getD (j :: L') listed k (by omega)
            have e2:=hlc2 k hk
            rw [Array.getD_eq_getD_getElem?,Array.getElem?_eq_getElem hk1] at e1
            rw [Array.getD_eq_getD_getElem?,Array.getElem?_eq_getElem hk2] at e2
            have e3:(j :: L').contains k=(j :: L).contains k:=by
             cases h6:(j :: L').contains k <;> cases h7:(j :: L).contains k <;> first | rfl | skip
             ·have:=List.contains_iff_mem.1 h7
              rw [List.mem_cons,<- hLL,<- List.mem_cons,<- List.contains_iff_mem,h6] at this;cases this
             ·have:=List.contains_iff_mem.1 h6
              rw [List.mem_cons,hLL,<- List.mem_cons,<- List.contains_iff_mem,h7] at this;cases this
            rw [e3] at e1
            exact e1.trans e2.symm
          have next:∀ a' w',(∃ st',execOps P C ops [] st' (fun st'=>execAny P C fl ops fuel (setL listed (j :: L')) st' K)/\Sat P G st' a' w')->wpAnyIn (W ro) n P .any ops Q f (lc.setIfInBounds j true) a' w':=fun a' w' ⟨st',hk,hs'⟩=>by
           rw [hset] at hk
           exact ih _ st' a' w' hk hs' hsz2 f (by omega)
          split
          ·rename_i hw
           have:=k1 hw
           refine leads_wpIn (N:=wpAnyIn (W ro) n P .any ops Q f (lc.setIfInBounds j true)) ?_
           exact leads_mono this next
          ·rename_i hw
           exact ⟨fun _ _=>trivial,next _ _ (k2 hw)⟩
    have h0:stM tab [] st1=st1:=stM_nil tab st1
    exact key _ [] listed a w env M X (f+1) (Nat.le_refl _) (by rw [h0];exact S1) (fun k hk=>by cases hk) (fun k ok ek _ hk=>by cases hk) hsz (fun j _=>by simp) hf (Nat.le_refl _)
theorem execAny_ok (hG:Stable G) {C:Cfg} (hC:SpecsOk P G C) {fl:Bool} {ro:Option Nat} {n:Nat} {ops:Array Oper} {Q:Exit->Act->World->Prop} {K:St->Prop} (hK:∀ st a w,K st->Sat P G st a w->Q .normal a w)
  (st:St) (a:Act) (w:World) (h:execAny P C fl ops ops.size (Array.replicate ops.size false) st K) (hs:Sat P G st a w):wpAnyIn (W ro) n P .any ops Q ops.size (Array.replicate ops.size false) a w :=
 wpAnyIn_weak (Q':=fun e a w=>(∀ c,e ≠ .panic c)/\Q e a w) (fun e a w h=>h.2) _ _ _ _
  (execAny_ok0 hG hC (fun st a w h hs=>⟨fun c h=>(by cases h),hK st a w h hs⟩) (fun c a w h=>h.1 c rfl) _ _ st a w h hs (by simp) _ (by
   unfold unl
   have:=List.length_filter_le (fun i=>!(Array.replicate ops.size false).getD i false) (List.range ops.size)
   simpa using this))
end Go.SE
namespace Go.SE
open Go.RowKit
def isNilE:EV->Bool
 | .p (.raw (.slice none 0 0))=>true
 | _=>false
def nilE (r:Nat) (e:EV):EV:=if isNilE e then .row r else e
def St.nilRow (st:St) (s r:Nat) (e:TypeId) (sz:Nat):St:=if decide (r<st.nt) && (st.T.all fun x=>!(x.2.v.names r)) && st.noName r then
 { st with T:=st.T.map (fun x=>if x.1 == s then (x.1,{ x.2 with v:=nilE r x.2.v }) else x),own:=(r,.row e sz 0 (fun _=>[])) :: st.own.map (fun x=>if x.1 == s then (match x.2 with | .blk t cs=>(x.1,.blk t (cs.map (nilE r))) | o=>(x.1,o)) else x) } else st
def St.nilRows (st:St):List (Nat × Nat × TypeId × Nat)->St
 | []=>st
 | (s,r,e,sz) :: l=>(st.nilRow s r e sz).nilRows l
def firstReg:Code->Nat
 | .region id _ _=>id
 | .seq a b=>match a with
   | .skip=>firstReg b
   | _=>firstReg a
 | .block _ b=>firstReg b
 | .loop b=>firstReg b
 | .scope b=>firstReg b
 | .cond _ a _=>firstReg a
 | .rangeFunc _ _ a _=>firstReg a
 | _=>0
def nthT:List (Nat × Ent)->Nat->Nat->Option Ent
 | [],_,_=>none
 | (s,e) :: l,t,j=>if s == t then (match j with | 0=>some e | j+1=>nthT l t j) else nthT l t j
def fitTs (T:List (Nat × Ent)):List Nat->List (Nat × Ent)->List Prop
 | _,[]=>[]
 | seen,(s,e) :: l=>(match e.g,nthT T s (seen.count s) with
   | none,some ⟨none,v⟩=>fitE v e.v
   | _,_=>[False]) ++ fitTs T (s :: seen) l
def fitT (T l:List (Nat × Ent)):List Prop:=fitTs T [] l
def Ent.plain (e:Ent):Bool:=e.g.isNone
def andL:List Prop->Prop
 | []=>True
 | [p]=>p
 | p :: ps=>p/\andL ps
def LoopInv.keptT (I:LoopInv) (st:St):List (Nat × Ent):=st.T.filter fun x=>I.keep.contains x.1 && x.2.plain
def LoopInv.keptO (I:LoopInv) (st:St):List (Nat × Own):=st.own.filter fun x=>I.keepO.contains x.1
def tieP (T:List (Nat × Ent)):List (Nat × SV)->List Prop
 | []=>[]
 | (s,v) :: l=>(match lookupT T s with
   | some ⟨none,.p u⟩=>fitS u v
   | _=>[False]) ++ tieP T l
def LoopInv.tied (I:LoopInv) (st:St):LoopInv:={ I with inv:=fun g=>conj (tieP (I.keptT st) (I.tie g)) (I.inv g) }
def RfInv.tied (I:RfInv) (st:St):RfInv:={ I with inv:=fun k g=>conj (tieP (st.T.filter fun x=>I.keep.contains x.1 && x.2.plain) (I.tie g)) (I.inv k g) }
def LoopInv.head (I:LoopInv) (st:St) (g:I.T):St:={ st with T:=(I.chg g).map (fun x=>(x.1,⟨none,x.2⟩)) ++ I.keptT st,own:=I.own g ++ I.keptO st,yk:=match I.yk with | none=>st.yk | some f=>f g }
def LoopInv.fitY (I:LoopInv) (st st':St) (g:I.T):List Prop:=(if st'.nt == st.nt then [] else [False]) ++ match I.yk with
 | none=>if st'.yk == st.yk && st'.stop == st.stop then [] else [False]
 | some f=>[st'.yk=f g,st'.stop=st.stop]
def RfInv.keptT (I:RfInv) (st:St):List (Nat × Ent):=st.T.filter fun x=>I.keep.contains x.1 && x.2.plain
def RfInv.keptO (I:RfInv) (st:St):List (Nat × Own):=st.own.filter fun x=>I.keepO.contains x.1
def RfInv.head (I:RfInv) (st:St) (k:Nat) (g:I.T):St:={ st with T:=I.keptT st,own:=I.own k g ++ I.keptO st }
def pins (vk:Nat->Value) (T:List (Nat × Ent)):List (Nat × Ent):=T.map fun x=>(x.1,⟨none,.p (.raw (vk x.1))⟩)
def rfParams:List Nat->List SV->List (Nat × Ent)
 | p :: ps,s :: ss=>(p,⟨none,.p s⟩) :: rfParams ps ss
 | _,_=>[]
def RfInv.round (I:RfInv) (st:St) (ps:List Nat) (ss:List SV) (k:Nat) (g:I.T) (vk:Nat->Value):St:={ I.head st k g with T:=rfParams ps ss ++ I.keptT st ++ pins vk (I.keptT st) }
def isRaw (e:Ent):Bool:=match e with
 | ⟨none,.p (.raw _)⟩=>true
 | _=>false
def fitPin (T:List (Nat × Ent)) (vk:Nat->Value):List (Nat × Ent)->List Prop
 | []=>[]
 | (s,_) :: l=>(match T.reverse.find? (fun x=>x.1 == s && isRaw x.2) with
   | some (_,⟨_,.p (.raw v)⟩)=>[v=vk s]
   | _=>[False]) ++ fitPin T vk l
def fitSt (st st':St):List Prop:=if st'.nt == st.nt && st'.yk == st.yk && st'.stop == st.stop then [] else [False]
def RfInv.fitK (I:RfInv) (st st':St) (vk:Nat->Value):List Prop:=fitSt st st' ++ fitT st'.T (I.keptT st) ++ fitPin st'.T vk (I.keptT st)
def RfInv.left (I:RfInv) (st st':St) (ks:List Nat):St:={ st with T:=I.keptT st,own:=st'.own.filter fun x=>ks.contains x.1 }
def vc (P:Program) (C:Cfg):Code->St->(Exit->St->Prop)->Prop
 | .skip,st,K=>K .normal st
 | .label _,st,K=>K .normal st
 | .exit id,st,K=>K (.exit id) st
 | .goto l,st,K=>K (.goto l) st
 | .ret,st,K=>K .ret st
 | .region id ops draw,st,K=>if draw then (if C.anys.contains id || C.anys.contains (id+1000) then execAny P C (C.anys.contains (id+1000)) ops ops.size (Array.replicate ops.size false) (((st.rekeys (C.rek id)).frzs (C.frz id)).nilRows (C.nils id)) (K .normal) else execDraw P C ops (((st.rekeys (C.rek id)).frzs (C.frz id)).nilRows (C.nils id)) (K .normal)) else execOps P C ops ops.toList (((st.rekeys (C.rek id)).frzs (C.frz id)).nilRows (C.nils id)) (K .normal)
 | .seq x y,st,K=>match C.joins (firstReg y) with
   | none=>vc P C x st fun e st'=>match e with
     | .normal=>vc P C y st' K
     | e=>K e st'
   | some I0=>(fun I=>(vc P C x st fun e st'=>match e with
     | .normal=>∃ g:I.T,conj (I.fitY st st' g ++ fitT st'.T (I.head st g).T ++ fitO st'.own (I.head st g).own) (I.inv g)
     | e=>K e st') /\ ∀ g:I.T,I.inv g->if nodupB ((I.own g ++ I.keptO st).map (·.1)) then vc P C y (I.head st g) K else False) (I0.tied st)
 | .cond c x y,st,K=>match st.rho none c with
   | some (.p (.bool b))=>(b=true->vc P C x st K)/\(b=false->vc P C y st K)
   | _=>False
 | .block id c,st,K=>vc P C c st fun e st'=>match e with
   | .exit id'=>if id'=id then K .normal st' else K (.exit id') st'
   | e=>K e st'
 | .loop c,st,K=>match C.loops (firstReg c) with
   | none=>False
   | some I0 => (fun st => (fun I => (∃ g : I.T, conj (I.fitY st st g ++ fitT st.T ((I.chg g).map fun x => (x.1, ⟨none, x.2⟩)) ++ fitO st.own (I.own g)) (I.inv g)) /\
    ∀ g:I.T,I.inv g->if nodupB ((I.own g ++ I.keptO st).map (·.1)) then (vc P C c (I.head st g) fun e st'=>match e with
      | .normal=>∃ g':I.T,conj (I.fitY st st' g' ++ fitT st'.T (I.head st g').T ++ fitO st'.own (I.head st g').own) (I.inv g'/\I.mu g'<I.mu g)
      | e=>K e st') else False) (I0.tied st)) (st.nilRows (C.nilsL (firstReg c)))
 | .rangeFunc f ps a b,st,K=>match st.rho none f with
   | some (.p (.clo g caps))=>match C.iters g,C.rfs (firstReg a) with
     | some it, some I0 => (fun I => if C.yld.isNone && (I.keptT st).all (fun x => !(ps.toList.contains x.1)) && nodupB ps.toList && ps.toList.all (fun p => decide (p < st.nt)) then
       (it.pre caps /\ ∃ t:I.T,conj (fitO st.own (I.own 0 t ++ I.keptO st)) (I.inv 0 t)) /\
       (∀ (k:Nat) (t:I.T) (vk:Nat->Value),k<it.cnt caps->I.inv k t->if nodupB (keysO (I.own k t ++ I.keptO st)) && (it.item caps k).length == ps.size && noMem.noMems (it.item caps k) then
        vc P C a (I.round st ps.toList (it.item caps k) k t vk) (fun e st1=>match e with
         | .normal=>vc P C b st1 (fun e st'=>match e with
           | .normal=>∃ t':I.T,conj (I.fitK st st' vk ++ fitO st'.own (I.own (k+1) t' ++ I.keptO st)) (I.inv (k+1) t')
           | .ret=>conj (I.fitK st st' vk) (K .ret (I.left st st' (keysO (I.own k t ++ I.keptO st))))
           | .exit id=>conj (I.fitK st st' vk) (K (.exit id) (I.left st st' (keysO (I.own k t ++ I.keptO st))))
           | .goto l=>conj (I.fitK st st' vk) (K (.goto l) (I.left st st' (keysO (I.own k t ++ I.keptO st))))
           | _=>False)
         | _=>False) else False) /\
       (∀ t:I.T,I.inv (it.cnt caps) t->if nodupB (keysO (I.own (it.cnt caps) t ++ I.keptO st)) then K .normal (I.head st (it.cnt caps) t) else False)
      else False) (I0.tied st)
     | _,_=>False
   | _=>False
 | _,_,_=>False
end Go.SE
namespace Go.SE
open Go.RowKit
variable {P:Program} {M:Nat->Prop} {w:World} {G:Ctx} {st:St} {a:Act} {env:Env} {X:Nat->Prop}
theorem nthT_mem {e:Ent} {t:Nat}:∀ {l:List (Nat × Ent)} {j:Nat},nthT l t j=some e->(t,e) ∈ l
 | [],_,h=>by simp [nthT] at h
 | (s,e') :: l,j,h=>by
   simp only [nthT] at h
   split at h
   ·rename_i hs
    simp at hs;subst hs
    cases j with
    | zero=>cases h;simp
    | succ j=>exact List.mem_cons_of_mem _ (nthT_mem h)
   ·exact List.mem_cons_of_mem _ (nthT_mem h)
theorem fitTs_ok (S:SatC P G st a w env M X):∀ {l:List (Nat × Ent)} {seen:List Nat},all (fitTs st.T seen l) -> ∀ s e,(s,e) ∈ l->e.g=none/\s<st.nt/\DenE P M w env e.v (a.eval (.tmp s))
 | [],_,_,s,e,hm=>by cases hm
 | (s0,e0) :: l,seen,h,s,e,hm=>by
   simp only [fitTs] at h
   obtain ⟨h1,h2⟩:=all_append h
   rcases List.mem_cons.1 hm with hm | hm
   ·cases hm
    split at h1
    ·rename_i v hg hl
     obtain ⟨a1,a2,_⟩:=S.tmp _ _ (nthT_mem hl)
     exact ⟨hg,a1,fitE_ok h1 (a2 trivial)⟩
    ·exact (all_one h1).elim
   ·exact fitTs_ok S h2 s e hm
theorem fitT_ok (S:SatC P G st a w env M X) {l:List (Nat × Ent)} (h:all (fitT st.T l)):∀ s e,(s,e) ∈ l->e.g=none/\s<st.nt/\DenE P M w env e.v (a.eval (.tmp s)):=fitTs_ok S h
theorem SatC.refit (S:SatC P G st a w env M X) {st2:St} (hT:∀ s e,(s,e) ∈ st2.T->e.g=none/\s<st.nt/\DenE P M w env e.v (a.eval (.tmp s))) (hO:∀ k o,(k,o) ∈ st2.own->(∃ o',(k,o') ∈ st.own)/\OwnOk P M w env k o)
  (hn:(st2.own.map (·.1)).Nodup) (hy:st2.yk=st.yk) (hnt:st2.nt=st.nt):SatC P G st2 a w env M X:=by
 refine ⟨by rw [hy,hnt];exact S.gam,S.mx,fun k o h=>(hO k o h).2,?_,?_,hn,S.mlt,S.xlt,by rw [hnt];exact S.siz,?_,?_,?_,S.dno⟩
 ·intro k o h
  obtain ⟨o',h'⟩:=(hO k o h).1
  exact S.oat _ _ h'
 ·intro k o k' o' h h'
  obtain ⟨_,e1⟩:=(hO k o h).1
  obtain ⟨_,e2⟩:=(hO k' o' h').1
  exact S.inj _ _ _ _ e1 e2
 ·intro s e h
  obtain ⟨h1,h2,h3⟩:=hT s e h
  rw [hnt]
  exact ⟨h2,fun _=>h3,fun hn=>absurd (ok_of_holds (by rw [h1];trivial)) hn⟩
 ·intro s e h q c v hq
  rw [(hT s e h).1] at hq;cases hq
 ·intro d hd
  obtain ⟨D,e,h1,h2,h3,h4⟩:=S.dfr d hd
  refine ⟨D,e,h1,h2,h3,fun k o h=>?_⟩
  obtain ⟨_,e1⟩:=(hO k o h).1
  exact h4 _ _ e1
theorem nilE_den {r:Nat} {e:EV} {v:Value} {env':Env} (hr:env'.rv r=.slice none 0 0) (h:DenE P M w env' e v):DenE P M w env' (nilE r e) v:=by
 unfold nilE
 split
 ·rename_i hn
  unfold isNilE at hn
  split at hn
  ·cases h with
   | p h=>cases h;exact .row hr
  ·cases hn
 ·exact h
theorem SatC.nilRow (S:SatC P G st a w env M X) (s r:Nat) (e:TypeId) (sz:Nat):∃ env',SatC P G (st.nilRow s r e sz) a w env' M X:=by
 unfold St.nilRow
 split
 rotate_left
 ·exact ⟨env,S⟩
 rename_i hc
 simp only [Bool.and_eq_true,List.all_eq_true,Bool.not_eq_true',decide_eq_true_eq] at hc
 obtain ⟨⟨hrn,hT⟩,hO⟩:=hc
 have hO':∀ k o,(k,o) ∈ st.own->k ≠ r/\o.names r=false:=fun k o h=>by
  have:=List.all_eq_true.1 hO (k,o) h
  simpa using this
 let env':Env:={ env with at_:=fun k=>if k=r then none else env.at_ k,rv:=fun k=>if k=r then .slice none 0 0 else env.rv k }
 have hat:∀ k,k ≠ r->env'.at_ k=env.at_ k:=fun k h=>by simp [env',h]
 have hrv:∀ k,k ≠ r->env'.rv k=env.rv k:=fun k h=>by simp [env',h]
 have hrr:env'.rv r=.slice none 0 0:=by simp [env']
 have har:env'.at_ r=none:=by simp [env']
 have den:∀ {e v},e.names r=false->DenE P M w env e v->DenE P M w env' e v:=fun {e v} hn h=>h.mono (Later.refl M w) (fun k hk=>by
  have:k ≠ r:=fun e'=>by rw [e',hn] at hk;cases hk
  exact ⟨hat k this,hrv k this⟩) rfl
 -- an own thing,as it was
 have own1:∀ k o,(k,o) ∈ st.own->OwnOk P M w env' k o:=fun k o h=>by
  obtain ⟨hk,hn⟩:=hO' k o h
  have h1:=S.own k o h
  exact h1.move (Later.refl M w) (hat k hk) (hrv k hk) (fun _ _=>rfl) (fun j hj=>by
   have:j ≠ r:=fun e=>by rw [e,hn] at hj;cases hj
   exact ⟨hat j this,hrv j this⟩)
 have mem:∀ k o,(k,o) ∈ st.own.map (fun x=>if x.1 == s then (match x.2 with | .blk t cs=>(x.1,Own.blk t (cs.map (nilE r))) | o=>(x.1,o)) else x)->(∃ o',(k,o') ∈ st.own)/\OwnOk P M w env' k o:=fun k o h=>by
  obtain ⟨⟨k',o'⟩,hm,he⟩:=List.mem_map.1 h
  have h1:=own1 k' o' hm
  simp only at he
  split at he
  ·cases o' with
   | blk t cs =>
     simp only [Prod.mk.injEq] at he
     obtain ⟨rfl,rfl⟩:=he
     refine ⟨⟨_,hm⟩,?_⟩
     obtain ⟨g,vs,ha,hh,hz,hd⟩:=h1
     refine ⟨g,vs,ha,hh,by simpa using hz,fun i hi=>?_⟩
     have hi':i<cs.length:=by simpa using hi
     refine ⟨(hd i hi').1,?_⟩
     have e1:EV.at (cs.map (nilE r)) i=nilE r (EV.at cs i):=by simp [EV.at,List.getD_eq_getElem?_getD,hi']
     rw [e1]
     exact nilE_den hrr (hd i hi').2
   | _ =>
     simp only [Prod.mk.injEq] at he
     obtain ⟨rfl,rfl⟩:=he
     exact ⟨⟨_,hm⟩,h1⟩
  ·simp only [Prod.mk.injEq] at he
   obtain ⟨rfl,rfl⟩:=he
   exact ⟨⟨_,hm⟩,h1⟩
 have keys:(st.own.map (fun x=>if x.1 == s then (match x.2 with | .blk t cs=>(x.1,Own.blk t (cs.map (nilE r))) | o=>(x.1,o)) else x)).map (·.1)=st.own.map (·.1):=by
  rw [List.map_map]
  apply List.map_congr_left
  rintro ⟨k,o⟩ _
  simp only [Function.comp]
  split
  ·cases o <;> rfl
  ·rfl
 refine ⟨env',⟨S.gam.1,S.gam.2.but hrn (fun j hj=>⟨hat j hj,hrv j hj⟩)⟩,S.mx,?_,?_,?_,?_,S.mlt,S.xlt,S.siz,?_,?_,?_,S.dno⟩
 ·intro k o h
  rcases List.mem_cons.1 h with h | h
  ·cases h
   exact ⟨Nat.zero_le _,fun i hi=>by omega,.inl ⟨har,hrr,rfl⟩⟩
  ·exact (mem k o h).2
 ·intro k o h g hg
  rcases List.mem_cons.1 h with h | h
  ·cases h;rw [har] at hg;cases hg
  ·obtain ⟨o',ho'⟩:=(mem k o h).1
   rw [hat k (hO' k o' ho').1] at hg
   exact S.oat k o' ho' g hg
 ·intro k o k' o' h h' hne g hg
  rcases List.mem_cons.1 h with h | h
  ·cases h;rw [har] at hg;cases hg
  ·rcases List.mem_cons.1 h' with h' | h'
   ·cases h';rw [har];simp
   ·obtain ⟨q,hq⟩:=(mem k o h).1
    obtain ⟨q',hq'⟩:=(mem k' o' h').1
    rw [hat k (hO' k q hq).1] at hg
    rw [hat k' (hO' k' q' hq').1]
    exact S.inj k q k' q' hq hq' hne g hg
 ·simp only [List.map_cons]
  refine List.nodup_cons.2 ⟨fun hm=>?_,by have:=S.nod;rw [<- keys] at this;exact this⟩
  obtain ⟨⟨k,o⟩,hm',he⟩:=List.mem_map.1 hm
  obtain ⟨o',ho'⟩:=(mem k o hm').1
  exact (hO' k o' ho').1 he
 ·intro s' e' h
  obtain ⟨⟨s0,e0⟩,hm,he⟩:=List.mem_map.1 h
  obtain ⟨h1,h2,h3⟩:=S.tmp s0 e0 hm
  have hn:=hT _ hm
  simp only at he
  split at he
  ·simp only [Prod.mk.injEq] at he
   obtain ⟨rfl,rfl⟩:=he
   exact ⟨h1,fun ho=>nilE_den hrr (den hn (h2 ho)),h3⟩
  ·simp only [Prod.mk.injEq] at he
   obtain ⟨rfl,rfl⟩:=he
   exact ⟨h1,fun ho=>den hn (h2 ho),h3⟩
 ·intro s' e' h q c v hq
  obtain ⟨⟨s0,e0⟩,hm,he⟩:=List.mem_map.1 h
  simp only at he
  split at he
  ·simp only [Prod.mk.injEq] at he
   obtain ⟨rfl,rfl⟩:=he
   exact S.grd s0 e0 hm q c v hq
  ·simp only [Prod.mk.injEq] at he
   obtain ⟨rfl,rfl⟩:=he
   exact S.grd s0 e0 hm q c v hq
 ·intro d hd
  obtain ⟨D,e0,q1,q2,q3,q4⟩:=S.dfr d hd
  refine ⟨D,e0,q1,q2,q3,fun k o h hg=>?_⟩
  rcases List.mem_cons.1 h with h | h
  ·cases h;rw [har] at hg;cases hg
  ·obtain ⟨o',ho'⟩:=(mem k o h).1
   rw [hat k (hO' k o' ho').1] at hg
   exact q4 k o' ho' hg
theorem Sat.nilRows:∀ (l:List (Nat × Nat × TypeId × Nat)) {st:St},Sat P G st a w->Sat P G (st.nilRows l) a w
 | [],_,h=>h
 | (s,r,e,sz) :: l,st,⟨env,M,X,S⟩=>by
   obtain ⟨env',S'⟩:=S.nilRow s r e sz
   exact Sat.nilRows l ⟨env',M,X,S'⟩
end Go.SE
namespace Go.SE
open Go.RowKit
variable {P:Program} {G G':Ctx} {M:Nat->Prop} {w:World} {st:St} {a:Act} {env:Env} {X:Nat->Prop}
theorem SatC.recast (S:SatC P G st a w env M X) {w':World} {Y X':Nat->Prop} (hgam:G'.g st.yk X' w'/\PinOk G' env st.nt) (hm0:∀ b,G.m0 b->G'.m0 b\/X' b) (hsz:w.heap.size <= w'.heap.size) (hblk:∀ b,b<w.heap.size->¬ Y b->w'.heap[b]? = w.heap[b]?)
  (hYM:∀ b,Y b->¬ M b) (hYO:∀ k o,(k,o) ∈ st.own -> ∀ g,env.at_ k=some g->¬ Y g) (hYD:∀ D,({ target:=.collected D,args:=#[] }:Deferred) ∈ a.defers->¬ Y D) (hX:∀ b,X b->X' b) (hXl:∀ b,X' b->b<w'.heap.size) :
  SatC P G' st a w' env M X':=by
 have hl:Later M M w w':=⟨hsz,fun b hb=>hblk b (S.mlt b hb) (fun e=>hYM b e hb),fun _ h=>h⟩
 refine ⟨hgam,fun b h=>?_,?_,?_,S.inj,S.nod,fun b h=>Nat.lt_of_lt_of_le (S.mlt b h) hsz,hXl,S.siz,?_,S.grd,?_,S.dno⟩
 ·rcases S.mx b h with h | h
  ·exact hm0 b h
  ·exact .inr (hX b h)
 ·intro k o h
  have h1:=S.own k o h
  have h2:=S.oat k o h
  exact h1.move hl rfl rfl (fun g' ha=>hblk g' (h2 g' ha).2.2 (hYO _ _ h g' ha)) (fun _ _=>⟨rfl,rfl⟩)
 ·intro k o h g hg
  obtain ⟨q1,q2,q3⟩:=S.oat k o h g hg
  exact ⟨hX g q1,q2,Nat.lt_of_lt_of_le q3 hsz⟩
 ·intro s e h
  obtain ⟨h1,h2,h3⟩:=S.tmp s e h
  exact ⟨h1,fun ho=>(h2 ho).later hl,h3⟩
 ·intro d h
  obtain ⟨D,e,q1,q2,q3,q4⟩:=S.dfr d h
  exact ⟨D,e,(hblk D (S.xlt D q2) (hYD D (e ▸ h))).trans q1,hX D q2,q3,q4⟩
structure RF where
 G:Ctx
 a0:Act
 M0:Nat->Prop
 X0:Nat->Prop
 n0:Nat
 lp:Nat
 o:Bool
 rc:LoopState->Option Code->Loop
def RF.xp (R:RF) (w:World) (b:Nat):Prop:=R.X0 b\/(R.n0 <= b/\b<w.heap.size)
def RF.Rec (R:RF) (s:LoopState) (p:Option Code) (w:World):Prop:=w.heap[R.lp]? = some (.loop (R.rc s p))/\(R.o=true->w.heap[R.n0]? = some (.deferred (some [])))
def RF.Core (P:Program) (R:RF) (stX:St) (s:LoopState) (p:Option Code) (Xit:Nat->Prop) (w:World):Prop :=
 ∃ env M,SatC P R.G stX R.a0 w env M (R.xp w)/\R.Rec s p w/\(∀ b,Xit b->R.lp+1 <= b/\¬ M b)/\¬ M R.n0/\¬ M (R.lp) /\
   (∀ k o g,(k,o) ∈ stX.own->env.at_ k=some g->¬ R.M0 g/\¬ Xit g/\g ≠ R.n0/\g ≠ R.lp)
structure RF.Ok (R:RF):Prop where
 st:Stable R.G
 m0:∀ b,R.M0 b->b<R.n0
 x0:∀ b,R.X0 b->b<R.n0
 lp0:R.n0 <= R.lp
 lpo:R.o=true->R.lp=R.n0+1
 df:∀ D,({ target:=.collected D,args:=#[] }:Deferred) ∈ R.a0.defers->R.X0 D
theorem RF.Ok.dlt {R:RF} (h:R.Ok) (D:Nat) (hD:({ target:=.collected D,args:=#[] }:Deferred) ∈ R.a0.defers):D<R.n0:=h.x0 D (h.df D hD)
theorem lt_of_some {w:World} {b:Nat} {o:Obj} (h:w.heap[b]? = some o):b<w.heap.size:=(Array.getElem?_eq_some_iff.1 h).1
theorem RF.gstep {R:RF} (h:R.Ok) {k:Nat} {w w':World} (hg:R.G.g k (R.xp w) w) (_:R.n0 <= w.heap.size) (hs:Same (R.xp w) w w'):R.G.g k (R.xp w') w' :=
 h.st k _ w _ w' hg hs (fun b hb=>hb.imp id (fun q=>⟨q.1,Nat.lt_of_lt_of_le q.2 hs.size⟩)) (fun b hb=>by
  rcases hb with hb | hb
  ·exact .inl (.inl hb)
  ·rcases Nat.lt_or_ge b w.heap.size with hlt | hge
   ·exact .inl (.inr ⟨hb.1,hlt⟩)
   ·exact .inr hge)
theorem RF.core_stable {R:RF} (h:R.Ok) {stX:St} {s:LoopState} {p:Option Code} {Xit Xit':Nat->Prop} {w w':World} (hc:R.Core P stX s p Xit w) (hs:Same Xit w w') (_:∀ b,Xit b->Xit' b) (h2:∀ b,Xit' b->Xit b\/w.heap.size <= b) :
  R.Core P stX s p Xit' w':=by
 obtain ⟨env,M,S,⟨hr1,hr2⟩,hx,hd,hl,ho⟩:=hc
 have hn1:=lt_of_some hr1
 have hlp:=h.lp0
 have hsame:Same (R.xp w) w w':=⟨hs.os,hs.tape,hs.output,hs.drawn,hs.size,fun b hb hnx=>hs.block b hb (fun e=>hnx (.inr ⟨by have:=(hx b e).1;omega,hb⟩))⟩
 refine ⟨env,M,S.recast (Y:=fun b=>Xit b) ⟨RF.gstep h S.gam.1 (by omega) hsame,S.gam.2⟩ (fun b hb=>.inl hb) hs.size (fun b hb hn=>hs.block b hb hn) (fun b hb=>(hx b hb).2) (fun k o hk g hg=>(ho k o g hk hg).2.1) (fun D hD hX=>by have:=h.dlt D hD;have:=(hx D hX).1;omega)
  (fun b hb=>hb.imp id (fun q=>⟨q.1,Nat.lt_of_lt_of_le q.2 hs.size⟩)) (fun b hb=>?_),⟨(hs.block _ hn1 (fun e=>by have:=(hx _ e).1;omega)).trans hr1,fun q=>(hs.block _ (by omega) (fun e=>by have:=(hx _ e).1;omega)).trans (hr2 q)⟩,fun b hb=>?_,hd,hl,fun k o g hk hg=>?_⟩
 ·rcases hb with hb | hb
  ·have:=h.x0 b hb;have:=hs.size;omega
  ·exact hb.2
 ·rcases h2 b hb with hb | hb
  ·exact hx b hb
  ·exact ⟨by omega,fun hm=>by have:=S.mlt b hm;omega⟩
 ·obtain ⟨q1,q2,q3,q4⟩:=ho k o g hk hg
  refine ⟨q1,fun e=>?_,q3,q4⟩
  rcases h2 g e with e | e
  ·exact q2 e
  ·have:=(S.oat k o hk g hg).2.2;omega
def jumps:Exit->Code->Prop
 | .ret,c=>c=.ret
 | .exit id,c=>c=.exit id
 | .goto l,c=>c=.goto l
 | _,_=>False
def RF.J (P:Program) (R:RF) (I:RfInv) (st:St) (cnt:Nat) (K:Exit->St->Prop):Ctx :=
 { m0:=R.M0,g:=fun k Xit w=>(k <= cnt /\ ∃ t,I.inv k t/\nodupB (keysO (I.own k t ++ I.keptO st))=true/\R.Core P (I.head st k t) .ready none Xit w)\/(k=cnt+1 /\ ∃ e c stJ,jumps e c/\K e stJ/\R.Core P stJ .done (some c) Xit w) }
theorem RF.J_stable {R:RF} (h:R.Ok) (I:RfInv) (st:St) (cnt:Nat) (K:Exit->St->Prop):Stable (R.J P I st cnt K):=by
 intro k X w X' w' hg hs h1 h2
 rcases hg with ⟨hk,t,hi,hn,hc⟩ | ⟨hk,e,c,stJ,hj,hK,hc⟩
 ·exact .inl ⟨hk,t,hi,hn,RF.core_stable h hc hs h1 h2⟩
 ·exact .inr ⟨hk,e,c,stJ,hj,hK,RF.core_stable h hc hs h1 h2⟩
def RF.B (R:RF) (s:LoopState) (M1 Xit:Nat->Prop) (wS:World):Ctx :=
 { m0 := M1, pin := R.G.pin, pe := R.G.pe, g := fun yk X w => R.G.g yk (R.xp w) w /\ R.Rec s none w /\
  (∀ b,X b->(R.X0 b\/R.n0 <= b)/\¬ R.M0 b/\¬ Xit b/\b ≠ R.n0/\b ≠ R.lp/\(∀ D,({ target:=.collected D,args:=#[] }:Deferred) ∈ R.a0.defers->b ≠ D)) /\
  (∀ b,b<wS.heap.size->(R.M0 b\/Xit b)->w.heap[b]? = wS.heap[b]?)/\wS.heap.size <= w.heap.size /\
  (∀ d,d ∈ R.a0.defers -> ∃ D,d = { target:=.collected D,args:=#[] } /\ w.heap[D]? = some (.deferred (some [])))/\(∀ b,Xit b->b<wS.heap.size) }
theorem RF.B_stable {R:RF} (h:R.Ok) (s:LoopState) (M1 Xit:Nat->Prop) (wS:World):Stable (R.B s M1 Xit wS):=by
 intro k X w X' w' ⟨g1,⟨r1,r2⟩,g3,g4,g5,g6,g7⟩ hs h1 h2
 have hn1:=lt_of_some r1
 have hlp:=h.lp0
 have hsame:∀ b,b<w.heap.size->¬ R.xp w b->w'.heap[b]? = w.heap[b]?:=fun b hb hnx=>hs.block b hb (fun e=>hnx (by
  rcases (g3 b e).1 with q | q
  ·exact .inl q
  ·exact .inr ⟨q,hb⟩))
 refine ⟨RF.gstep h g1 (by omega) ⟨hs.os,hs.tape,hs.output,hs.drawn,hs.size,hsame⟩,⟨(hs.block _ hn1 (fun e=>(g3 _ e).2.2.2.2.1 rfl)).trans r1,fun q=>(hs.block _ (by omega) (fun e=>(g3 _ e).2.2.2.1 rfl)).trans (r2 q)⟩,fun b hb=>?_,fun b hb hm=>?_,Nat.le_trans g5 hs.size,fun d hd=>?_,g7⟩
 ·rcases h2 b hb with hb | hb
  ·exact g3 b hb
  ·refine ⟨.inr (by omega),fun e=>by have:=h.m0 b e;omega,fun e=>by have:=g7 b e;omega,by omega,by omega,fun D hD=>?_⟩
   have:=h.dlt D hD
   omega
 ·exact (hs.block b (by omega) (fun e => by
  rcases hm with hm | hm
  ·exact (g3 b e).2.1 hm
  ·exact (g3 b e).2.2.1 hm)).trans (g4 b hb hm)
 ·obtain ⟨D,rfl,hD⟩:=g6 d hd
  exact ⟨D,rfl,(hs.block D (lt_of_some hD) (fun e=>(g3 D e).2.2.2.2.2 D hd rfl)).trans hD⟩
end Go.SE
namespace Go.SE
open Go.RowKit
variable {P:Program} {G:Ctx} {M:Nat->Prop} {w:World} {st:St} {a:Act} {env:Env} {X:Nat->Prop}
def setAll (l:List (Nat × Value)) (t:Array Value):Array Value:=l.foldl (fun t x=>t.setIfInBounds x.1 x.2) t
theorem setAll_size:∀ (l:List (Nat × Value)) (t:Array Value),(setAll l t).size=t.size
 | [],t=>rfl
 | x :: l,t=>(setAll_size l _).trans (by simp)
theorem setAll_other:∀ (ps:List Nat) (vs:List Value) (t:Array Value) (s:Nat),s ∉ ps->(setAll (ps.zip vs) t).getD s undef=t.getD s undef
 | [],vs,t,s,_=>by simp [setAll]
 | p :: ps,[],t,s,_=>by simp [setAll]
 | p :: ps,v :: vs,t,s,h=>by
   have h1:s ≠ p:=fun e=>h (by simp [e])
   have:=setAll_other ps vs (t.setIfInBounds p v) s (fun e=>h (by simp [e]))
   simp only [setAll,List.zip_cons_cons,List.foldl_cons] at this ⊢
   rw [this]
   simp only [Array.getD_eq_getD_getElem?,Array.getElem?_setIfInBounds,if_neg (fun e=>h1 e.symm:¬ p=s)]
theorem fold_setAll (ps:Array Nat) (vs:List Value) (t:Array Value):(ps.zip vs.toArray).foldl (fun t (p,v)=>t.setIfInBounds p v) t=setAll (ps.toList.zip vs) t:=by
 rw [<- Array.foldl_toList]
 simp only [Array.toList_zip,setAll]
theorem params_ok:∀ (ps:List Nat) (ss:List SV) (vs:List Value) (t:Array Value),ss.length=ps.length->DenL (fun _=>False) w ss vs->nodupB ps=true->(∀ p,p ∈ ps->p<t.size) ->
  ∀ s e,(s,e) ∈ rfParams ps ss->e.g=none/\s ∈ ps/\DenE P M w env e.v ((setAll (ps.zip vs) t).getD s undef)
 | [],_,_,_,_,_,_,_,s,e,h=>by simp [rfParams] at h
 | p :: ps,[],_,_,_,_,_,_,s,e,h=>by simp [rfParams] at h
 | p :: ps,x :: ss,[],_,_,hd,_,_,s,e,h=>by simp [DenL] at hd
 | p :: ps,x :: ss,v :: vs,t,hl,hd,hn,hp,s,e,h=>by
   simp only [nodupB,Bool.and_eq_true,Bool.not_eq_true',List.contains_eq_mem,decide_eq_false_iff_not] at hn
   simp only [rfParams,List.mem_cons,Prod.mk.injEq] at h
   have hd':DenL (fun _=>False) w ss vs:=⟨by simpa using hd.1,fun i hi=>by simpa [SV.at] using hd.2 (i+1) (by simpa using hi)⟩
   rcases h with ⟨rfl,rfl⟩ | h
   ·refine ⟨rfl,by simp,?_⟩
    have e1:(setAll ((s :: ps).zip (v :: vs)) t)=setAll (ps.zip vs) (t.setIfInBounds s v):=rfl
    rw [e1,setAll_other _ _ _ _ hn.1]
    have hlt:=hp s (by simp)
    have:(t.setIfInBounds s v).getD s undef=v:=by simp [Array.getD_eq_getD_getElem?,hlt]
    rw [this]
    have:=hd.2 0 (by simp)
    simp only [SV.at,List.getD_cons_zero] at this
    exact .p (this.weak (fun _ h=>h.elim))
   ·obtain ⟨q1,q2,q3⟩:=params_ok ps ss vs (t.setIfInBounds p v) (by simpa using hl) hd' hn.2 (fun q hq=>by simpa using hp q (by simp [hq])) s e h
    exact ⟨q1,by simp [q2],q3⟩
theorem RF.start {R:RF} (_:R.Ok) {I:RfInv} {k:Nat} {t:I.T} {st:St} (_:∀ d,d ∈ R.a0.defers -> ∃ D,d = { target:=.collected D,args:=#[] }) {s:LoopState} {Xit:Nat->Prop} (hXl:∀ b,Xit b->b<w.heap.size)
  {env:Env} {M:Nat->Prop} (S:SatC P R.G (I.head st k t) R.a0 w env M (R.xp w)) (hrec:R.Rec s none w) (ho:∀ k' o g,(k',o) ∈ (I.head st k t).own->env.at_ k'=some g->¬ R.M0 g/\¬ Xit g/\g ≠ R.n0/\g ≠ R.lp)
  {ps:Array Nat} {ss:List SV} {vs:List Value} (hl:ss.length=ps.toList.length) (hd:DenL (fun _=>False) w ss vs) (hn:nodupB ps.toList=true) (hp:∀ p,p ∈ ps.toList->p<st.nt) (hk:∀ x,x ∈ I.keptT st->x.1 ∉ ps.toList) :
  Sat P (R.B s M Xit w) (I.round st ps.toList ss k t (fun s=>R.a0.eval (.tmp s))) { tmps:=(ps.zip vs.toArray).foldl (fun t (p,v)=>t.setIfInBounds p v) R.a0.tmps,defers:=[] } w:=by
 rw [fold_setAll]
 have hsz:R.a0.tmps.size=st.nt:=S.siz
 have plain:∀ x,x ∈ I.keptT st->x.2.g=none:=fun x hx=>by
  have:=(List.mem_filter.1 hx).2
  simp only [Bool.and_eq_true,Ent.plain] at this
  simpa using this.2
 have hev:∀ s',s' ∉ ps.toList->({ tmps:=setAll (ps.toList.zip vs) R.a0.tmps,defers:=[] }:Act).eval (.tmp s')=R.a0.eval (.tmp s'):=fun s' h=>setAll_other _ _ _ _ h
 -- every entry
 have all3:∀ s' e,(s',e) ∈ (I.round st ps.toList ss k t (fun s=>R.a0.eval (.tmp s))).T->e.g=none/\s'<st.nt/\DenE P M w env e.v (({ tmps:=setAll (ps.toList.zip vs) R.a0.tmps,defers:=[] }:Act).eval (.tmp s')):=by
  intro s' e h
  rcases List.mem_append.1 h with h | h
  ·rcases List.mem_append.1 h with h | h
   ·obtain ⟨q1,q2,q3⟩:=params_ok (P:=P) (M:=M) (env:=env) ps.toList ss vs R.a0.tmps hl hd hn (fun p hp'=>by rw [hsz];exact hp p hp') s' e h
    exact ⟨q1,hp _ q2,q3⟩
   ·have hg:=plain _ h
    obtain ⟨q1,q2,_⟩:=S.tmp s' e h
    rw [hev s' (hk _ h)]
    exact ⟨hg,q1,q2 (ok_of_holds (by rw [hg];trivial))⟩
  ·obtain ⟨⟨s0,e0⟩,hm,he⟩:=List.mem_map.1 h
   simp only [Prod.mk.injEq] at he
   obtain ⟨rfl,rfl⟩:=he
   obtain ⟨q1,_,_⟩:=S.tmp s0 e0 hm
   rw [hev s0 (hk _ hm)]
   exact ⟨rfl,q1,.p (.raw _)⟩
 refine ⟨env,M,fun g=>∃ k' o,(k',o) ∈ (I.head st k t).own/\env.at_ k'=some g,?_⟩
 refine ⟨⟨⟨S.gam.1,hrec,?_,fun b _ _=>rfl,Nat.le_refl _,?_,hXl⟩,S.gam.2⟩,fun b h=>.inl h,S.own,fun k' o h g hg=>⟨⟨k',o,h,hg⟩,(S.oat k' o h g hg).2⟩,S.inj,S.nod,S.mlt,?_,(setAll_size _ _).trans hsz,?_,?_,fun d h=>by simp at h,by simp⟩
 ·rintro b ⟨k',o,h,hg⟩
  obtain ⟨q1,q2,q3,q4⟩:=ho k' o b h hg
  refine ⟨(S.oat k' o h b hg).1.imp id (fun q=>q.1),q1,q2,q3,q4,fun D hD e=>?_⟩
  obtain ⟨D',e',_,_,_,q⟩:=S.dfr _ hD
  have:D=D':=by simpa using e'
  subst this
  exact q k' o h (e ▸ hg)
 ·intro d hd'
  obtain ⟨D,e,q,_⟩:=S.dfr d hd'
  exact ⟨D,e,q⟩
 ·rintro b ⟨k',o,h,hg⟩
  exact (S.oat k' o h b hg).2.2
 ·intro s' e h
  obtain ⟨q1,q2,q3⟩:=all3 s' e h
  exact ⟨q2,fun _=>q3,fun hn'=>absurd (ok_of_holds (by rw [q1];trivial)) hn'⟩
 ·intro s' e h q c v hq
  rw [(all3 s' e h).1] at hq;cases hq
theorem fitPin_ok (S:SatC P G st a w env M X) {vk:Nat->Value}:∀ {l:List (Nat × Ent)},all (fitPin st.T vk l) -> ∀ s e,(s,e) ∈ l->a.eval (.tmp s)=vk s
 | [],_,s,e,hm=>by cases hm
 | (s0,e0) :: l,h,s,e,hm=>by
   simp only [fitPin] at h
   obtain ⟨h1,h2⟩:=all_append h
   rcases List.mem_cons.1 hm with hm | hm
   ·cases hm
    split at h1
    ·rename_i s1 g v hf
     have hmem:=List.mem_of_find?_eq_some hf
     have hprop:=List.find?_some hf
     simp only [Bool.and_eq_true,beq_iff_eq] at hprop
     obtain ⟨rfl,hraw⟩:=hprop
     have hg:g=none:=by cases g with | none=>rfl | some g=>simp [isRaw] at hraw
     subst hg
     have:=(S.tmp _ _ (List.mem_reverse.1 hmem)).2.1 trivial
     have hv:=all_one h1
     rcases this with ⟨this⟩
     rw [<- hv]
     generalize a.eval (.tmp s1)=u at this
     cases this;rfl
    ·exact (all_one h1).elim
   ·exact fitPin_ok S h2 s e hm
theorem RF.finish {R:RF} (hR:R.Ok) {s s':LoopState} {p:Option Code} {M1 Xit:Nat->Prop} {wS:World} (hXit:∀ b,Xit b->R.lp+1 <= b/\¬ M1 b) (hMd:¬ M1 R.n0) (hMl:¬ M1 (R.lp)) (hMf:∀ D,({ target:=.collected D,args:=#[] }:Deferred) ∈ R.a0.defers->¬ M1 D) (hM1:∀ b,M1 b->R.G.m0 b\/R.xp wS b) (hdn:R.a0.defers.Nodup)
  {st st' stX:St} (hsiz:R.a0.tmps.size=st.nt) (S:SatC P (R.B s M1 Xit wS) st' a w env M X) {L:List (Nat × Ent)} (hTL:stX.T=L) (_:∀ x,x ∈ L->x.2.g=none)
  (hT:all (fitT st'.T L)) (hP:all (fitPin st'.T (fun s=>R.a0.eval (.tmp s)) L)) (hO:∀ k o,(k,o) ∈ stX.own->(∃ o',(k,o') ∈ st'.own)/\OwnOk P M w env k o) (hn:(stX.own.map (·.1)).Nodup) (hy:stX.yk=st'.yk) (hnt:stX.nt=st'.nt) (hnt':stX.nt=st.nt) :
  R.Core P stX s' p Xit (w.putObj (R.lp) (.loop (R.rc s' p))):=by
 obtain ⟨⟨g1,⟨r1,r2⟩,g3,g4,g5,g6,g7⟩,gpin⟩:=S.gam
 have hn1:=lt_of_some r1
 have hlp:=hR.lp0
 have hMx:∀ b,M b->b ≠ R.n0/\b ≠ R.lp/\¬ Xit b:=fun b hb=>by
  rcases S.mx b hb with h | h
  ·exact ⟨fun e=>hMd (e ▸ h),fun e=>hMl (e ▸ h),fun e=>(hXit b e).2 h⟩
  ·exact ⟨(g3 b h).2.2.2.1,(g3 b h).2.2.2.2.1,(g3 b h).2.2.1⟩
 have hblk:∀ b,b ≠ R.lp->(w.putObj (R.lp) (.loop (R.rc s' p))).heap[b]? = w.heap[b]?:=fun b h=>World.putObj_heap_other h
 have hsz:(w.putObj (R.lp) (.loop (R.rc s' p))).heap.size=w.heap.size:=by simp
 have hlater:Later M M w (w.putObj (R.lp) (.loop (R.rc s' p))):=⟨by omega,fun b hb=>hblk b (hMx b hb).2.1,fun _ h=>h⟩
 have hg2:R.G.g st'.yk (R.xp (w.putObj (R.lp) (.loop (R.rc s' p)))) (w.putObj (R.lp) (.loop (R.rc s' p))) :=
  RF.gstep hR g1 (by omega) ⟨rfl,rfl,rfl,Nat.le_refl _,by omega,fun b hb hx=>hblk b (fun e=>hx (.inr ⟨by omega,hb⟩))⟩
 have hown:∀ k o,(k,o) ∈ stX.own -> ∀ g,env.at_ k=some g->(R.X0 g\/R.n0 <= g)/\¬ M g/\g<w.heap.size/\¬ R.M0 g/\¬ Xit g/\g ≠ R.n0/\g ≠ R.lp /\ ∀ D,({ target:=.collected D,args:=#[] }:Deferred) ∈ R.a0.defers->g ≠ D:=fun k o h g hg=>by
  obtain ⟨o',ho'⟩:=(hO k o h).1
  obtain ⟨q1,q2,q3⟩:=S.oat k o' ho' g hg
  obtain ⟨c1,c2,c3,c4,c5,c6⟩:=g3 g q1
  exact ⟨c1,q2,q3,c2,c3,c4,c5,c6⟩
 have tmpok:∀ s0 e,(s0,e) ∈ stX.T->e.g=none/\s0<st'.nt/\DenE P M w env e.v (R.a0.eval (.tmp s0)):=fun s0 e h=>by
  rw [hTL] at h
  obtain ⟨q1,q2,q3⟩:=fitT_ok S hT s0 e h
  rw [fitPin_ok S hP s0 e h] at q3
  exact ⟨q1,q2,q3⟩
 refine ⟨env,M,⟨⟨by rw [hy];exact hg2,by rw [hnt];exact gpin⟩,fun b hb=>?_,?_,?_,?_,hn,fun b hb=>by rw [hsz];exact S.mlt b hb,fun b hb=>?_,by rw [hnt',hsiz],?_,?_,?_,hdn⟩,⟨World.putObj_heap_same hn1,fun q=>(hblk _ (by have:=hR.lpo q;omega)).trans (r2 q)⟩,fun b hb=>⟨(hXit b hb).1,fun hm=>(hMx b hm).2.2 hb⟩,fun hm=>(hMx _ hm).1 rfl,fun hm=>(hMx _ hm).2.1 rfl,fun k o g hk hg=>?_⟩
 ·rcases S.mx b hb with h | h
  ·rcases hM1 b h with h | h
   ·exact .inl h
   ·refine .inr (h.imp id (fun q=>⟨q.1,?_⟩))
    rw [hsz];omega
  ·have hlt:=S.xlt b h
   exact .inr ((g3 b h).1.imp id (fun q=>⟨q,by rw [hsz];exact hlt⟩))
 ·intro k o h
  have h1:=(hO k o h).2
  have h2:=hown k o h
  exact h1.move hlater rfl rfl (fun g' ha=>hblk g' (h2 g' ha).2.2.2.2.2.2.1) (fun _ _=>⟨rfl,rfl⟩)
 ·intro k o h g hg
  obtain ⟨c1,c2,c3,_⟩:=hown k o h g hg
  exact ⟨c1.imp id (fun q=>⟨q,by rw [hsz];exact c3⟩),c2,by rw [hsz];exact c3⟩
 ·intro k o k' o' h h'
  obtain ⟨_,e1⟩:=(hO k o h).1
  obtain ⟨_,e2⟩:=(hO k' o' h').1
  exact S.inj _ _ _ _ e1 e2
 ·rcases hb with hb | hb
  ·have:=hR.x0 b hb;rw [hsz];omega
  ·exact hb.2
 ·intro s0 e h
  obtain ⟨q1,q2,q3⟩:=tmpok s0 e h
  exact ⟨by rw [hnt];exact q2,fun _=>q3.later hlater,fun hn'=>absurd (ok_of_holds (by rw [q1];trivial)) hn'⟩
 ·intro s0 e h q c v hq
  rw [(tmpok s0 e h).1] at hq;cases hq
 ·intro d hd
  obtain ⟨D,rfl,hD⟩:=g6 d hd
  have hDn:=hR.dlt D hd
  refine ⟨D,rfl,(hblk D (by omega)).trans hD,?_,fun hm=>?_,fun k o h e=>(hown k o h D e).2.2.2.2.2.2.2 D hd rfl⟩
  ·exact .inl (hR.df D hd)
  ·rcases S.mx D hm with h | h
   ·exact hMf D hd h
   ·exact (g3 D h).2.2.2.2.2 D hd rfl
 ·obtain ⟨_,_,_,c4,c5,c6,c7,_⟩:=hown k o hk g hg
  exact ⟨c4,c5,c6,c7⟩
end Go.SE
namespace Go.SE
open Go.RowKit
variable {P:Program} {M:Nat->Prop} {w:World} {st:St} {env:Env} {X:Nat->Prop}
def Knows (G:Ctx) (ro:Option Nat):Prop:=∀ l,ro=some l -> ∀ k X w,G.g k X w -> ∃ rc,w.heap[l]? = some (.loop rc)
theorem knows_none {G:Ctx}:Knows G none:=fun l h=>by cases h
theorem RF.knows {R:RF} {s:LoopState} {M1 Xit:Nat->Prop} {wS:World}:Knows (R.B s M1 Xit wS) (some R.lp):=fun l h k X w g=>by
 cases h
 exact ⟨_,g.2.1.1⟩
def Carries (P:Program) (C:Cfg) (c:Code):Prop:=∀ (G:Ctx),Stable G->SpecsOk P G C -> ∀ (ro:Option Nat) (n:Nat) (st:St) (K:Exit->St->Prop) (Q:Exit->Act->World->Prop),ro ≠ none->Knows G ro->vc P C c st K ->
 (∀ e st' a' w',K e st'->Sat P G st' a' w'->Q e a' w') -> ∀ a w,Sat P G st a w->c.wpIn (W ro) n P Q a w
def RoundVcK (P:Program) (C:Cfg) (I:RfInv) (st:St) (ps:Array Nat) (cnt:Nat) (item:Nat->List SV) (a b:Code) (K:Exit->St->Prop) (k:Nat):Prop :=
 ∀ (t:I.T) (vk:Nat->Value),k<cnt->I.inv k t->if nodupB (keysO (I.own k t ++ I.keptO st)) && (item k).length == ps.size && noMem.noMems (item k) then
   vc P C a (I.round st ps.toList (item k) k t vk) (fun e st1=>match e with
    | .normal=>vc P C b st1 (fun e st'=>match e with
      | .normal=>∃ t':I.T,conj (I.fitK st st' vk ++ fitO st'.own (I.own (k+1) t' ++ I.keptO st)) (I.inv (k+1) t')
      | .ret=>conj (I.fitK st st' vk) (K .ret (I.left st st' (keysO (I.own k t ++ I.keptO st))))
      | .exit id=>conj (I.fitK st st' vk) (K (.exit id) (I.left st st' (keysO (I.own k t ++ I.keptO st))))
      | .goto l=>conj (I.fitK st st' vk) (K (.goto l) (I.left st st' (keysO (I.own k t ++ I.keptO st))))
      | _=>False)
    | _=>False) else False
def RoundVc (P:Program) (C:Cfg) (I:RfInv) (st:St) (ps:Array Nat) (cnt:Nat) (item:Nat->List SV) (a b:Code) (K:Exit->St->Prop):Prop:=∀ k,RoundVcK P C I st ps cnt item a b K k
theorem fitK_spec {I:RfInv} {st st':St} {vk:Nat->Value} (h:all (I.fitK st st' vk)):st'.nt=st.nt/\st'.yk=st.yk/\all (fitT st'.T (I.keptT st))/\all (fitPin st'.T vk (I.keptT st)):=by
 obtain ⟨h12,h3⟩:=all_append h
 obtain ⟨h1,h2⟩:=all_append h12
 unfold fitSt at h1
 split at h1
 ·rename_i he;simp at he;exact ⟨he.1.1,he.1.2,h2,h3⟩
 ·exact (all_one h1).elim
theorem RF.round_at {R:RF} (hR:R.Ok) {C:Cfg} (hsp:∀ f sp,C.specs f=some sp->SpecOk P f sp/\Enters P f) (hcy:C.yld=none) (hit:ItersOk P C) {I:RfInv} {ps:Array Nat} {cnt:Nat} {item:Nat->List SV} {a b:Code} {K:Exit->St->Prop} {fn dd:Nat}
  (hrc:R.rc=fun s p=>{ state:=s,pending:=p,fn:=fn,tmps:=R.a0.tmps,params:=ps,assign:=a,body:=b,defers:=dd }) (ha:Carries P C a) (hb:Carries P C b) {k:Nat} (hv:RoundVcK P C I st ps cnt item a b K k)
  (hnd:∀ k t,k <= cnt->I.inv k t->nodupB (keysO (I.own k t ++ I.keptO st))=true) (hn:nodupB ps.toList=true) (hp:∀ p,p ∈ ps.toList->p<st.nt) (hk:∀ x,x ∈ I.keptT st->x.1 ∉ ps.toList) (hdn:R.a0.defers.Nodup) (hsiz:R.a0.tmps.size=st.nt)
  {Xit:Nat->Prop} {w:World} {vals:List Value} (hlt:k<cnt) {t:I.T} (hinv:I.inv k t) (hco:R.Core P (I.head st k t) .ready none Xit w) (hXl:∀ b,Xit b->b<w.heap.size) (hd:DenL (fun _=>False) w (item k) vals) :
  ∃ fn tmps assign body,(Instr.yield (R.lp) vals.toArray).run P w=.ok (.round (R.lp) fn tmps assign body) w /\
    RoundIn Fence.wide 0 P (R.lp) fn tmps assign body w (fun e w'=>∃ b,e=.returned (.bool b)/\w.heap.size <= w'.heap.size/\(∀ c,c<w.heap.size->((b=true/\R.M0 c)\/Xit c)->w'.heap[c]? = w.heap[c]?)/\(R.J P I st cnt K).g (if b then k+1 else cnt+1) Xit w'):=by
 obtain ⟨env,M,S,hrec,hx,hMd,hMl,ho⟩:=hco
 have hlp:=hR.lp0
 have hv':=hv t (fun s=>R.a0.eval (.tmp s)) hlt hinv
 split at hv'
 rotate_left
 ·exact hv'.elim
 rename_i hc
 simp only [Bool.and_eq_true,beq_iff_eq] at hc
 obtain ⟨⟨_,hlen⟩,_⟩:=hc
 have hdf:∀ d,d ∈ R.a0.defers -> ∃ D,d = { target:=.collected D,args:=#[] }:=fun d h=>by
  obtain ⟨D,e,_⟩:=S.dfr d h;exact ⟨D,e⟩
 have hMf:∀ D,({ target:=.collected D,args:=#[] }:Deferred) ∈ R.a0.defers->¬ M D:=fun D h=>by
  obtain ⟨D',e,_,_,q,_⟩:=S.dfr _ h
  have:D=D':=by simpa using e
  subst this;exact q
 have hysz:vals.toArray.size=(R.rc .ready none).params.size:=by
  rw [hrc];have:=hd.1;simp only [List.size_toArray];omega
 have hyield:=run_yield (P:=P) hrec.1 hysz
 have hplain:∀ x,x ∈ I.keptT st->x.2.g=none:=fun x hx'=>by
  have:=(List.mem_filter.1 hx').2
  simp only [Bool.and_eq_true,Ent.plain] at this
  simpa using this.2
 rw [hrc] at hyield
 refine ⟨_,_,_,_,hyield,roundIn_of_wpIn trivial ?_⟩
 have hs0:Sat P (R.B .ready M Xit w) (I.round st ps.toList (item k) k t (fun s=>R.a0.eval (.tmp s))) { tmps:=(ps.zip vals.toArray).foldl (fun t (p,v)=>t.setIfInBounds p v) R.a0.tmps,defers:=[] } w :=
  RF.start hR hdf hXl S hrec ho (by simpa using hlen) hd hn hp hk
 have sp:∀ G,SpecsOk P G C:=fun G=>⟨hsp,fun y hy=>by rw [hcy] at hy;(cases hy),hit⟩
 refine ha _ (RF.B_stable hR .ready M Xit w) (sp _) (some R.lp) 0 _ _ _ (by simp) RF.knows hv' (fun e st1 a1 w1 hk1 hs1=>?_) _ _ hs0
 cases e with
 | normal =>
   obtain ⟨env1,M1,X1,S1⟩:=hs1
   obtain ⟨⟨g1,⟨r1,r2⟩,g3,g4,g5,g6,g7⟩,gpin⟩:=S1.gam
   have hn1:=lt_of_some r1
   have hM1x:∀ b,M1 b->b ≠ R.lp:=fun b hb e=>by
    rcases S1.mx b hb with h | h
    ·exact hMl (e ▸ h)
    ·exact (g3 b h).2.2.2.2.1 e
   refine ⟨_,run_beginRound r1 (by rw [hrc]),?_⟩
   have hbusy:({ (R.rc .ready none) with state:=.busy }:Loop)=R.rc .busy none:=by rw [hrc]
   rw [hbusy]
   have hblk:∀ b,b ≠ R.lp->(w1.putObj (R.lp) (.loop (R.rc .busy none))).heap[b]? = w1.heap[b]?:=fun b h=>World.putObj_heap_other h
   have hsz:(w1.putObj (R.lp) (.loop (R.rc .busy none))).heap.size=w1.heap.size:=by simp
   have S2:SatC P (R.B .busy M Xit w) st1 a1 (w1.putObj (R.lp) (.loop (R.rc .busy none))) env1 M1 X1:=by
    refine S1.recast (Y:=fun b=>b=R.lp) ⟨⟨?_,⟨World.putObj_heap_same hn1,fun q=>(hblk _ (by have:=hR.lpo q;omega)).trans (r2 q)⟩,g3,fun b hb hm=>?_,by omega,fun d hd'=>?_,g7⟩,gpin⟩ (fun b hb=>.inl hb) (by omega) (fun b _ h=>hblk b h) (fun b e hm=>hM1x b hm e)
     (fun k' o h g hg e=>(g3 g (S1.oat k' o h g hg).1).2.2.2.2.1 e) (fun D hD e=>?_) (fun b h=>h) (fun b h=>by rw [hsz];exact S1.xlt b h)
    ·exact RF.gstep hR g1 (by omega) ⟨rfl,rfl,rfl,Nat.le_refl _,by omega,fun b hb hx'=>hblk b (fun e=>hx' (.inr ⟨by omega,hb⟩))⟩
    ·refine (hblk b (fun e=>?_)).trans (g4 b hb hm)
     rcases hm with hm | hm
     ·have:=hR.m0 b hm;omega
     ·have:=(hx b hm).1;omega
    ·obtain ⟨D,rfl,hD⟩:=g6 d hd'
     exact ⟨D,rfl,(hblk D (by have:=hR.dlt D hd';omega)).trans hD⟩
    ·obtain ⟨D',e',q1,q2,_⟩:=S1.dfr _ hD
     have:D=D':=by simpa using e'
     subst this
     exact (g3 D q2).2.2.2.2.1 e
   refine hb _ (RF.B_stable hR .busy M Xit w) (sp _) (some R.lp) 0 _ _ _ (by simp) RF.knows hk1 (fun e st' a' w' hk2 hs2=>?_) _ _ ⟨env1,M1,X1,S2⟩
   obtain ⟨env3,M3,X3,S3⟩:=hs2
   have r3:=S3.gam.1.2.1.1
   have g43:=S3.gam.1.2.2.2.1
   have g53:=S3.gam.1.2.2.2.2.1
   have keep:∀ o,w.heap.size <= (w'.putObj (R.lp) o).heap.size /\ ∀ c,c<w.heap.size->(R.M0 c\/Xit c)->(w'.putObj (R.lp) o).heap[c]? = w.heap[c]?:=fun o=>by
    refine ⟨by simpa using g53,fun c hc hm=>?_⟩
    refine (World.putObj_heap_other (fun e=>?_)).trans (g43 c hc hm)
    rcases hm with hm | hm
    ·have:=hR.m0 c hm;omega
    ·have:=(hx c hm).1;omega
   have fin : ∀ (p : Option Code) (s' : LoopState) (stX : St), stX.T = I.keptT st -> all (I.fitK st st' (fun s => R.a0.eval (.tmp s))) -> (∀ k o, (k, o) ∈ stX.own -> (∃ o', (k, o') ∈ st'.own) /\ OwnOk P M3 w' env3 k o) -> (stX.own.map (·.1)).Nodup -> stX.yk = st.yk -> stX.nt = st.nt ->
     R.Core P stX s' p Xit (w'.putObj (R.lp) (.loop (R.rc s' p))):=fun p s' stX hT hf hO hnn hyk hnt=>by
    obtain ⟨q1,q2,q3,q4⟩:=fitK_spec hf
    exact RF.finish hR hx hMd hMl hMf S.mx hdn hsiz S3 hT hplain q3 q4 hO hnn (hyk.trans q2.symm) (hnt.trans q1.symm) hnt
   have jump : ∀ (e : Exit) (c : Code), jumps e c -> conj (I.fitK st st' (fun s => R.a0.eval (.tmp s))) (K e (I.left st st' (keysO (I.own k t ++ I.keptO st)))) ->
     ∃ v w4,(Instr.endRound (R.lp) (some c)).run P w'=.ok v w4 /\ ∃ b,Ending.returned v=.returned (.bool b)/\w.heap.size <= w4.heap.size/\(∀ c,c<w.heap.size->((b=true/\R.M0 c)\/Xit c)->w4.heap[c]? = w.heap[c]?)/\(R.J P I st cnt K).g (if b then k+1 else cnt+1) Xit w4:=fun e c hj hc=>by
    obtain ⟨hf,hK⟩:=conj_spec hc
    have hcore:=fin (some c) .done (I.left st st' (keysO (I.own k t ++ I.keptO st))) rfl hf (fun k' o h=>⟨⟨o,(List.mem_filter.1 h).1⟩,S3.own _ _ (List.mem_filter.1 h).1⟩) (S3.nod.sublist (List.Sublist.map _ List.filter_sublist)) rfl rfl
    have hend:=run_endRound (P:=P) (some c) r3
    have e1:({ (R.rc .busy none) with state:=if (some c).isNone then .ready else .done,pending:=some c }:Loop)=R.rc .done (some c):=by rw [hrc];rfl
    rw [e1] at hend
    exact ⟨_,_,hend,false,rfl,(keep _).1,fun c hc h=>(keep _).2 c hc (h.imp (·.2) id),.inr ⟨rfl,e,c,_,hj,hK,hcore⟩⟩
   cases e with
   | normal =>
     obtain ⟨t',hc⟩:=hk2
     obtain ⟨h12,hinv'⟩:=conj_spec hc
     obtain ⟨hf,hO⟩:=all_append h12
     have hnd':=hnd (k+1) t' (by omega) hinv'
     have hcore:=fin none .ready (I.head st (k+1) t') rfl hf (fun k' o h=>fitO_ok S3 hO k' o h) (nodupB_ok hnd') rfl rfl
     have hend:=run_endRound (P:=P) none r3
     have e1:({ (R.rc .busy none) with state:=if (none:Option Code).isNone then .ready else .done,pending:=none }:Loop)=R.rc .ready none:=by rw [hrc];rfl
     rw [e1] at hend
     exact ⟨_,_,hend,true,rfl,(keep _).1,fun c hc h=>(keep _).2 c hc (h.imp (·.2) id),.inl ⟨(show k+1 <= cnt by omega),t',hinv',hnd',hcore⟩⟩
   | ret=>exact jump .ret .ret rfl hk2
   | exit id=>exact jump (.exit id) (.exit id) rfl hk2
   | goto l=>exact jump (.goto l) (.goto l) rfl hk2
   | panic _=>exact hk2.elim
   | outgrown=>exact hk2.elim
 | _=>exact hk1.elim
theorem RF.round_ok {R:RF} (hR:R.Ok) {C C':Cfg} (hsp:∀ f sp,C.specs f=some sp->SpecOk P f sp/\Enters P f) (hcy:C.yld=none) (hit:ItersOk P C) {I:RfInv} {ps:Array Nat} {cnt:Nat} {item:Nat->List SV} {a b:Code} {K:Exit->St->Prop} {fn dd:Nat}
  (hrc:R.rc=fun s p=>{ state:=s,pending:=p,fn:=fn,tmps:=R.a0.tmps,params:=ps,assign:=a,body:=b,defers:=dd }) (ha:Carries P C a) (hb:Carries P C b) (hv:RoundVc P C I st ps cnt item a b K)
  (hnd:∀ k t,k <= cnt->I.inv k t->nodupB (keysO (I.own k t ++ I.keptO st))=true) (hn:nodupB ps.toList=true) (hp:∀ p,p ∈ ps.toList->p<st.nt) (hk:∀ x,x ∈ I.keptT st->x.1 ∉ ps.toList) (hdn:R.a0.defers.Nodup) (hsiz:R.a0.tmps.size=st.nt)
  (hy:C'.yld=some ⟨R.lp,cnt,item⟩):YieldsOk P (R.J P I st cnt K) C':=by
 intro y hy' k Xit w vals hlt hg hXl hd
 rw [hy] at hy'
 cases hy'
 simp only at hlt hd
 rcases hg with ⟨_,t,hinv,_,hco⟩ | ⟨he,_⟩
 ·exact RF.round_at hR hsp hcy hit hrc ha hb (hv k) hnd hn hp hk hdn hsiz hlt hinv hco hXl hd
 ·omega
theorem rangeFunc_ok {G:Ctx} (hG:Stable G) {C:Cfg} (hC:SpecsOk P G C) {ro:Option Nat} (hkn:Knows G ro) {n:Nat} {f:Operand} {ps:Array Nat} {a b:Code} {K:Exit->St->Prop} {Q:Exit->Act->World->Prop} {ac:Act} (ha:Carries P C a) (hb:Carries P C b)
  (h:vc P C (.rangeFunc f ps a b) st K) (hq:∀ e st' a' w',K e st'->Sat P G st' a' w'->Q e a' w') (hs:Sat P G st ac w):(Code.rangeFunc f ps a b).wpIn (W ro) n P Q ac w:=by
 simp only [vc] at h
 split at h
 rotate_left
 ·exact h.elim
 rename_i g caps hf
 split at h
 rotate_left
 ·exact h.elim
 rename_i it I0 hitg hI
 generalize I0.tied st=I at h
 split at h
 rotate_left
 ·exact h.elim
 rename_i hc
 simp only [Bool.and_eq_true,List.all_eq_true,decide_eq_true_eq,Bool.not_eq_true',List.contains_eq_mem,decide_eq_false_iff_not,Option.isNone_iff_eq_none] at hc
 obtain ⟨⟨⟨hcy,hk⟩,hnp⟩,hp⟩:=hc
 obtain ⟨⟨hpre,t0,h0⟩,hv,hdone⟩:=h
 obtain ⟨hO0,hinv0⟩:=conj_spec h0
 obtain ⟨env,M,X,S⟩:=hs
 obtain ⟨hitok,hen⟩:=hC.2.2.1 g it hitg
 have hfd:=rho_ok S (gd:=none) (fun q c v hq=>by cases hq) trivial hf
 rcases hfd with ⟨hfd⟩
 generalize hev:ac.eval f=vf at hfd
 cases hfd with
 | clo _ _ cvs hcl hcd =>
 have hnd:∀ k t,k <= it.cnt caps->I.inv k t->nodupB (keysO (I.own k t ++ I.keptO st))=true:=fun k t hkc hinv=>by
  rcases Nat.lt_or_ge k (it.cnt caps) with hlt | hge
  ·have:=hv k t (fun _=>undef) hlt hinv
   split at this
   ·rename_i hc;simp only [Bool.and_eq_true] at hc;exact hc.1.1
   ·exact this.elim
  ·obtain rfl:k=it.cnt caps:=by omega
   have:=hdone t hinv
   split at this
   ·rename_i hc;exact hc
   ·exact this.elim
 refine wpIn_rangeFunc ?_
 intro fn hfn
 -- the record is laid;at an outermost loop also the block for the deferred calls
 obtain ⟨lp, mark, o, dd, W1, hent, hlp, hlpo, hsz1, hL1, hK1, hbel, hdr, hmk⟩ : ∃ lp mark o dd W1, (Instr.enterLoop fn ac.tmps ps a b (W ro).round).run P w = .ok (lp, mark) W1 /\ w.heap.size <= lp /\ (o = true -> lp = w.heap.size + 1) /\ W1.heap.size = lp + 1 /\
   W1.heap[lp]? = some (.loop { state:=.ready,pending:=none,fn:=fn,tmps:=ac.tmps,params:=ps,assign:=a,body:=b,defers:=dd })/\(o=true->W1.heap[w.heap.size]? = some (.deferred (some [])))/\Below w.heap.size w W1/\w.drawn <= W1.drawn /\
   ((o=true/\mark = [{ target:=.collected w.heap.size,args:=#[] }])\/mark = []):=by
  cases ro with
  | none =>
    refine ⟨w.heap.size+1,_,true,w.heap.size,_,run_enterLoop_outer (P:=P) (w:=w) fn ac.tmps ps a b,by omega,fun _=>rfl,by simp [World.size_alloc],?_,fun _=>?_,?_,Nat.le_refl _,.inl ⟨rfl,rfl⟩⟩
    ·have:=World.alloc_heap_new (w.alloc (.deferred (some []))) (.loop { state:=.ready,pending:=none,fn:=fn,tmps:=ac.tmps,params:=ps,assign:=a,body:=b,defers:=w.heap.size });rwa [World.size_alloc] at this
    ·exact (Below.heap_alloc _ _ _ (by simp)).trans (World.alloc_heap_new w _)
    ·exact (((Below.refl _ w).alloc (Nat.le_refl _) _).alloc (by simp) _)
  | some l =>
    obtain ⟨rc,hrc⟩:=hkn l rfl _ _ _ S.gam.1
    refine ⟨w.heap.size,[],false,rc.defers,w.alloc (.loop { state:=.ready,pending:=none,fn:=fn,tmps:=ac.tmps,params:=ps,assign:=a,body:=b,defers:=rc.defers }),?_,Nat.le_refl _,(fun h=>by cases h),by simp [World.size_alloc],World.alloc_heap_new w _,(fun h=>by cases h),(Below.refl _ w).alloc (Nat.le_refl _) _,Nat.le_refl _,.inr rfl⟩
    show (Instr.enterLoop fn ac.tmps ps a b (some l)).run P w=_
    unfold Instr.enterLoop
    simp [Sem.run_bind,run_getLoop hrc,Result.andThen]
 obtain ⟨R,hRd⟩:∃ R:RF,R = { G:=G,a0:=ac,M0:=M,X0:=X,n0:=w.heap.size,lp:=lp,o:=o,rc:=fun s p=>{ state:=s,pending:=p,fn:=fn,tmps:=ac.tmps,params:=ps,assign:=a,body:=b,defers:=dd } }:=⟨_,rfl⟩
 have hR:R.Ok:=by
  subst hRd
  refine ⟨hG,S.mlt,S.xlt,hlp,hlpo,fun D hD=>?_⟩
  obtain ⟨D',e,_,q,_⟩:=S.dfr _ hD
  have:D=D':=by simpa using e
  subst this;exact q
 have hn0:R.n0=w.heap.size:=by rw [hRd]
 have hl0:R.lp=lp:=by rw [hRd]
 have ho0:R.o=o:=by rw [hRd]
 have hsame:Same (fun _=>False) w W1:=⟨hbel.os,hbel.tape,hbel.output,hdr,hbel.size,fun b hb _=>hbel.block b hb⟩
 -- the caller's state,the record laid
 have S1:SatC P G st ac W1 env M (R.xp W1):=by
  refine S.step hG hsame (M':=M) (fun b h=>h) (fun b h=>.inl h) (fun b h=>by have:=S.mlt b h;omega) (fun b h=>.inl h) (fun b h=>by rw [hRd];exact .inl h) (fun b h=>?_) (fun b h=>?_)
  ·rw [hRd] at h
   rcases h with h | h
   ·exact .inl h
   ·exact .inr h.1
  ·rw [hRd] at h
   rcases h with h | h
   ·have:=S.xlt b h;omega
   ·exact h.2
 have hcore0:R.Core P (I.head st 0 t0) .ready none (fun _=>False) W1:=by
  have hgx:R.G=G:=by rw [hRd]
  have ha0:R.a0=ac:=by rw [hRd]
  have hm0:R.M0=M:=by rw [hRd]
  refine ⟨env,M,?_,⟨by rw [hl0,hRd];exact hL1,fun q=>by rw [hn0];exact hK1 (ho0 ▸ q)⟩,fun b h=>h.elim,fun h=>by have:=S.mlt _ h;omega,fun h=>by have:=S.mlt _ h;omega,fun k o g' hk' hg'=>?_⟩
  ·rw [hgx,ha0]
   refine S1.refit (fun s e hm=>?_) (fun k o hm=>?_) (nodupB_ok (hnd 0 t0 (Nat.zero_le _) hinv0)) rfl rfl
   ·obtain ⟨m1,m2⟩:=List.mem_filter.1 hm
    simp only [Bool.and_eq_true] at m2
    obtain ⟨q1,q2,_⟩:=S1.tmp _ _ m1
    have hgn:e.g=none:=by simpa [Ent.plain] using m2.2
    exact ⟨hgn,q1,q2 (ok_of_holds (by rw [hgn];trivial))⟩
   ·exact fitO_ok S1 hO0 k o hm
  ·obtain ⟨o',ho'⟩:=(fitO_ok S hO0 k o hk').1
   obtain ⟨q1,q2,q3⟩:=S.oat k o' ho' g' hg'
   exact ⟨by rw [hm0];exact q2,fun h=>h,by omega,by omega⟩
 have hyo:∀ C':Cfg,C'.yld=some ⟨lp,it.cnt caps,it.item caps⟩ -> YieldsOk P (R.J P I st (it.cnt caps) K) C':=fun C' hy=>by
  refine RF.round_ok hR hC.1 hcy hC.2.2 (fn:=fn) (by rw [hRd]) ha hb hv hnd hnp (fun p h=>hp p h) (fun x h=>hk x h) (by rw [hRd];exact S.dno) (by rw [hRd];exact S.siz) (by rw [hl0];exact hy)
 have hcall:=hitok (R.J P I st (it.cnt caps) K) (RF.J_stable hR I st (it.cnt caps) K) lp W1 caps cvs hpre (fun b h=>by rw [show (R.J P I st (it.cnt caps) K).m0=M by rw [hRd];rfl] at h;have:=S.mlt b h;omega)
  ⟨hcl,fun i hi=>by rw [show (R.J P I st (it.cnt caps) K).m0=M by rw [hRd];rfl];exact (hcd i hi).later ⟨hsame.size,fun b hb=>hsame.block b (S.mlt b hb) (fun h=>h),fun _ h=>h⟩⟩
  (.inl ⟨Nat.zero_le _,t0,hinv0,hnd 0 t0 (Nat.zero_le _) hinv0,hcore0⟩) hyo
 -- what the caller holds behind the loop
 have fin : ∀ {stX : St} {s : LoopState} {p : Option Code} {Xit : Nat -> Prop} {w2 : World}, R.Core P stX s p Xit w2 -> s ≠ .busy -> ∃ w3, (Instr.endLoop lp).run P w2 = .ok p w3 /\
   Sat P G stX { ac with defers:=mark ++ ac.defers } w3:=by
  intro stX s p Xit w2 ⟨env2,M2,S2,⟨r1,r2⟩,hx,hMd,hMl,ho⟩ hsb
  rw [hl0] at r1 hMl
  rw [hn0] at r2 hMd
  rw [ho0] at r2
  have hend:=run_endLoop (P:=P) r1 (by rw [hRd];exact hsb)
  have hpend:(R.rc s p).pending=p:=by rw [hRd]
  rw [hpend] at hend
  obtain ⟨o2,hend⟩:∃ o2,(Instr.endLoop lp).run P w2=.ok p (w2.putObj lp o2):=⟨_,hend⟩
  refine ⟨_,hend,?_⟩
  have hgx:R.G=G:=by rw [hRd]
  have ha0:R.a0=ac:=by rw [hRd]
  rw [hgx,ha0] at S2
  have hblk:∀ b,b ≠ lp->(w2.putObj (lp) o2).heap[b]? = w2.heap[b]?:=fun b h=>World.putObj_heap_other h
  have hsz:(w2.putObj (lp) o2).heap.size=w2.heap.size:=by simp
  have hn1:=lt_of_some r1
  have hxL:R.xp w2 (lp):=.inr ⟨by omega,hn1⟩
  have S3:SatC P G stX ac (w2.putObj (lp) o2) env2 M2 (R.xp w2):=by
   refine S2.recast (Y:=fun b=>b=lp) ⟨hG _ _ w2 _ _ S2.gam.1 ⟨rfl,rfl,rfl,Nat.le_refl _,by omega,fun b hb hx'=>hblk b (fun e=>hx' (e ▸ hxL))⟩ (fun b h=>h) (fun b h=>.inl h),S2.gam.2⟩ (fun b h=>.inl h) (by omega) (fun b _ h=>hblk b h) (fun b e hm=>hMl (e ▸ hm))
    (fun k o hk' g' hg' e=>(ho k o g' hk' hg').2.2.2 (by rw [hl0];exact e)) (fun D hD e=>?_) (fun b h=>h) (fun b h=>by rw [hsz];exact S2.xlt b h)
   have:=hR.dlt D (by rw [ha0];exact hD)
   omega
  rcases hmk with ⟨hoo,hmk⟩ | hmk
  rotate_left
  ·exact ⟨env2,M2,R.xp w2,hmk ▸ S3⟩
  have hlpe:=hlpo hoo
  have hxD:R.xp w2 (w.heap.size):=.inr ⟨by omega,by omega⟩
  rw [hmk]
  refine ⟨env2,M2,R.xp w2,S3.gam,S3.mx,S3.own,S3.oat,S3.inj,S3.nod,S3.mlt,S3.xlt,S3.siz,fun s' e h=>S3.tmp s' e h,fun s' e h=>S3.grd s' e h,fun d hd=>?_,?_⟩
  ·rcases List.mem_append.1 hd with hd | hd
   ·simp only [List.mem_singleton] at hd
    exact ⟨w.heap.size,hd,(hblk _ (by omega)).trans (r2 hoo),hxD,hMd,fun k o hk' e=>(ho k o _ hk' e).2.2.1 hn0.symm⟩
   ·exact S3.dfr d hd
  ·refine List.nodup_cons.2 ⟨fun hm=>?_,S3.dno⟩
   have:=hR.dlt _ (by rw [ha0];exact hm)
   omega
 refine ⟨lp,mark,W1,{ target:=.fn (.func g) cvs.toArray,args:=#[.func (.yield lp) #[] #[]] },W1,g,#[.func (.yield lp) #[] #[]] ++ cvs.toArray,W1,hent,?_,fun _ _=>trivial,?_,fun hx=>by simp [W,Fence.wide] at hx,?_⟩
 ·simp only [resolve,hev]
  simp [go_sem]
 ·simp only [invoke,go_sem]
  simp
  exact hen _ W1
 ·refine calls_W (callsIn_mono hcall ?_)
  rintro e w2 ⟨v,Xit,rfl,hg | hg⟩
  ·rcases hg with ⟨_,t,hinv,hn',hcore⟩ | ⟨he,_⟩
   rotate_left
   ·omega
   obtain ⟨w3,hend,hs3⟩:=fin hcore (by simp)
   have:=hdone t hinv
   rw [if_pos hn'] at this
   exact ⟨none,w3,hend,hq _ _ _ _ this hs3⟩
  ·rcases hg with ⟨he,_⟩ | ⟨_,e,c,stJ,hj,hK,hcore⟩
   ·omega
   obtain ⟨w3,hend,hs3⟩:=fin hcore (by simp)
   refine ⟨some c,w3,hend,?_⟩
   cases e with
   | ret=>subst hj;exact wpIn_ret (hq _ _ _ _ hK hs3)
   | exit id=>subst hj;exact wpIn_exit (hq _ _ _ _ hK hs3)
   | goto l=>subst hj;exact wpIn_goto (hq _ _ _ _ hK hs3)
   | normal=>exact hj.elim
   | panic _=>exact hj.elim
   | outgrown=>exact hj.elim
end Go.SE
namespace Go.SE
open Go.RowKit
variable {P:Program} {G:Ctx}
theorem fitY_ok {I:LoopInv} {st st':St} {g:I.T} (h:all (I.fitY st st' g)):(I.head st g).yk=st'.yk/\st'.nt=st.nt/\st'.stop=st.stop:=by
 obtain ⟨ha,hb⟩:=all_append h
 have hnt:st'.nt=st.nt:=by
  split at ha
  ·rename_i he;simpa using he
  ·exact (all_one ha).elim
 unfold LoopInv.head
 cases hy:I.yk with
 | none =>
   simp only [hy] at hb
   split at hb
   ·rename_i he;simp at he;exact ⟨he.1.symm,hnt,he.2⟩
   ·exact (all_one hb).elim
 | some f =>
   simp only [hy] at hb
   obtain ⟨h1,h2⟩:=all_cons hb
   exact ⟨h1.symm,hnt,all_one h2⟩
theorem vc_ok_all {C:Cfg} (hm:P.follows .mixedOrders=true):∀ (c:Code) (G:Ctx),Stable G->SpecsOk P G C -> ∀ (ro:Option Nat) (n:Nat),Knows G ro -> ∀ (st:St) (K:Exit->St->Prop) (Q:Exit->Act->World->Prop),vc P C c st K ->
  (∀ e st' a' w',K e st'->Sat P G st' a' w'->Q e a' w') -> ∀ a w,Sat P G st a w->c.wpIn (W ro) n P Q a w:=by
 intro c
 induction c with
 | skip=>exact fun G hG hC ro n hro st K Q h hq a w hs=>wpIn_skip (hq _ _ _ _ h hs)
 | label l=>exact fun G hG hC ro n hro st K Q h hq a w hs=>wpIn_label (hq _ _ _ _ h hs)
 | exit id=>exact fun G hG hC ro n hro st K Q h hq a w hs=>wpIn_exit (hq _ _ _ _ h hs)
 | goto l=>exact fun G hG hC ro n hro st K Q h hq a w hs=>wpIn_goto (hq _ _ _ _ h hs)
 | ret=>exact fun G hG hC ro n hro st K Q h hq a w hs=>wpIn_ret (hq _ _ _ _ h hs)
 | region id ops draw =>
   intro G hG hC ro n hro st K Q h hq a w hs
   simp only [vc] at h
   have hs':=Sat.nilRows (C.nils id) ((hs.rekeys (C.rek id)).frzs (C.frz id))
   cases draw with
   | false =>
     simp only [Bool.false_eq_true,if_false] at h
     exact wpIn_region_list (execOps_ok hG hC (fun st a w hk hs=>hq .normal st a w hk hs) _ _ _ _ h hs')
   | true =>
     simp only [if_true] at h
     have hs2:Sat P G (((st.rekeys (C.rek id)).frzs (C.frz id)).nilRows (C.nils id)) a w.drew:=by
      obtain ⟨env,M,X,S⟩:=hs'
      exact ⟨env,M,_,S.grow hG (same_drew w) (M':=M) (fun b h=>h) (fun b h=>.inl h) (fun b h=>S.mlt b h)⟩
     split at h
     ·exact wpIn_region_any hm (execAny_ok hG hC (fun st a w hk hs=>hq .normal st a w hk hs) _ _ _ h hs2)
     ·exact wpIn_region_any hm (execDraw_ok hG hC (fun st a w hk hs=>hq .normal st a w hk hs) h hs2)
 | seq x y ihx ihy =>
   intro G hG hC ro n hro st K Q h hq a w hs
   simp only [vc] at h
   split at h
   ·refine wpIn_seq (ihx G hG hC ro n hro st _ _ h (fun e st' a' w' hk hs'=>?_) a w hs)
    cases e with
    | normal=>exact ihy G hG hC ro n hro st' K Q hk hq a' w' hs'
    | _=>exact hq _ _ _ _ hk hs'
   ·rename_i I0 hI
    generalize I0.tied st=I at h
    obtain ⟨h,hr⟩:=h
    refine wpIn_seq (ihx G hG hC ro n hro st _ _ h (fun e st' a' w' hk hs'=>?_) a w hs)
    cases e with
    | normal =>
      obtain ⟨g',hg'⟩:=hk
      obtain ⟨h1,hinv'⟩:=conj_spec hg'
      obtain ⟨h12,h3⟩:=all_append h1
      obtain ⟨h1',h2⟩:=all_append h12
      obtain ⟨hy1,hy2,_⟩:=fitY_ok h1'
      have hr2:=hr g' hinv'
      split at hr2
      ·rename_i hnd'
       obtain ⟨env,M,X,S⟩:=hs'
       exact ihy G hG hC ro n hro _ K Q hr2 hq a' w' ⟨env,M,X,S.refit (fun s e hm=>fitT_ok S h2 s e hm) (fun k o hm=>fitO_ok S h3 k o hm) (nodupB_ok hnd') hy1 hy2.symm⟩
      ·exact hr2.elim
    | _=>exact hq _ _ _ _ hk hs'
 | cond c x y ihx ihy =>
   intro G hG hC ro n hro st K Q h hq a w hs
   simp only [vc] at h
   split at h
   ·rename_i b hb
    obtain ⟨env,M,X,S⟩:=hs
    have hd:=rho_ok S (gd:=none) (fun q c v hq=>by cases hq) trivial hb
    rcases hd with ⟨hd⟩
    generalize hev:a.eval c=q at hd
    cases hd
    exact wpIn_cond_split hev (fun ht=>ihx G hG hC ro n hro st K Q (h.1 ht) hq a w ⟨env,M,X,S⟩) (fun hf=>ihy G hG hC ro n hro st K Q (h.2 hf) hq a w ⟨env,M,X,S⟩)
   ·exact h.elim
 | block id c ih =>
   intro G hG hC ro n hro st K Q h hq a w hs
   simp only [vc] at h
   refine wpIn_block (ih G hG hC ro n hro st _ _ h (fun e st' a' w' hk hs'=>?_) a w hs)
   cases e with
   | exit id' =>
     simp only [Exit.inBlock]
     dsimp only at hk
     by_cases he:id'=id
     ·rw [if_pos he] at hk ⊢;exact hq _ _ _ _ hk hs'
     ·rw [if_neg he] at hk ⊢;exact hq _ _ _ _ hk hs'
   | _=>exact hq _ _ _ _ hk hs'
 | loop c ih =>
   intro G hG hC ro n hro st K Q h hq a w hs
   simp only [vc] at h
   split at h
   ·exact h.elim
   ·rename_i I0 hI
    have hs:=Sat.nilRows (C.nilsL (firstReg c)) hs
    revert h hs
    generalize st.nilRows (C.nilsL (firstReg c))=st
    intro h hs
    generalize I0.tied st=I at h
    obtain ⟨⟨g0,h0⟩,hr⟩:=h
    obtain ⟨h1,hinv0⟩:=conj_spec h0
    have fitYnt:∀ (st':St) (g:I.T),all (I.fitY st st' g)->(I.head st g).yk=st'.yk/\st'.nt=st.nt/\st'.stop=st.stop:=fun st' g h=>fitY_ok h
    refine wpIn_loop_ghost (fun m a w=>∃ g:I.T,I.mu g=m/\I.inv g/\Sat P G (I.head st g) a w) (I.mu g0) ⟨g0,rfl,hinv0,?_⟩ ?_
    ·obtain ⟨h12,h3⟩:=all_append h1
     obtain ⟨h1',h2⟩:=all_append h12
     obtain ⟨hy1,hy2,_⟩:=fitYnt st g0 h1'
     have hr0:=hr g0 hinv0
     split at hr0
     ·rename_i hnd
      obtain ⟨env,M,X,S⟩:=hs
      refine ⟨env,M,X,S.refit ?_ ?_ (nodupB_ok hnd) hy1 rfl⟩
      ·intro s e hm
       rcases List.mem_append.1 hm with hm | hm
       ·exact fitT_ok S h2 s e hm
       ·obtain ⟨m1,m2⟩:=List.mem_filter.1 hm
        simp only [Bool.and_eq_true] at m2
        obtain ⟨t1,t2,_⟩:=S.tmp _ _ m1
        have hgn:e.g=none:=by simpa [Ent.plain] using m2.2
        exact ⟨hgn,t1,t2 (ok_of_holds (by rw [hgn];trivial))⟩
      ·intro k o hm
       rcases List.mem_append.1 hm with hm | hm
       ·exact fitO_ok S h3 k o hm
       ·have m1:=(List.mem_filter.1 hm).1
        exact ⟨⟨_,m1⟩,S.own _ _ m1⟩
     ·exact hr0.elim
    ·rintro m a w ⟨g,rfl,hinv,hs⟩
     have hr1:=hr g hinv
     split at hr1
     ·rename_i hnd
      refine ih G hG hC ro n hro _ _ _ hr1 (fun e st' a' w' hk hs'=>?_) a w hs
      cases e with
      | normal =>
        obtain ⟨g',hg'⟩:=hk
        obtain ⟨h1,hinv',hmu⟩:=conj_spec hg'
        obtain ⟨h12,h3⟩:=all_append h1
        obtain ⟨h1',h2⟩:=all_append h12
        obtain ⟨hy1,hy2,_⟩:=fitYnt st' g' h1'
        have hr2:=hr g' hinv'
        split at hr2
        ·rename_i hnd'
         refine ⟨I.mu g',hmu,g',rfl,hinv',?_⟩
         obtain ⟨env,M,X,S⟩:=hs'
         exact ⟨env,M,X,S.refit (fun s e hm=>fitT_ok S h2 s e hm) (fun k o hm=>fitO_ok S h3 k o hm) (nodupB_ok hnd') hy1 hy2.symm⟩
        ·exact hr2.elim
      | _=>exact hq _ _ _ _ hk hs'
     ·exact hr1.elim
 | rangeFunc f ps a b iha ihb =>
   intro G hG hC ro n hro st K Q h hq ac w hs
   exact rangeFunc_ok hG hC hro (fun G' hG' hC' ro' n' st' K' Q' _ hkn h' hq'=>iha G' hG' hC' ro' n' hkn st' K' Q' h' hq') (fun G' hG' hC' ro' n' st' K' Q' _ hkn h' hq'=>ihb G' hG' hC' ro' n' hkn st' K' Q' h' hq') h hq hs
 | scope c _=>intro G hG hC ro n hro st K Q h;exact h.elim
 | refuse s=>intro G hG hC ro n hro st K Q h;exact h.elim
theorem vc_ok (hG:Stable G) {C:Cfg} (hC:SpecsOk P G C) (hm:P.follows .mixedOrders=true) {n:Nat} (c:Code) (st:St) (K:Exit->St->Prop) (Q:Exit->Act->World->Prop) (h:vc P C c st K)
 (hq:∀ e st' a' w',K e st'->Sat P G st' a' w'->Q e a' w'):∀ a w,Sat P G st a w->c.wpIn (W none) n P Q a w:=vc_ok_all hm c G hG hC none n knows_none st K Q h hq
def st0 (fn:Func) (args:List EV):St:={ T:=args.zipIdx.map fun x=>(x.2,⟨none,x.1⟩),own:=[],yk:=0,stop:=false,nt:=args.length+(fn.ntmps - args.length) }
def resE (P:Program) (st:St):ResultVar->Res
 | .tmp t=>match lookupT st.T t with
   | some ⟨none,e⟩=>some ([],e)
   | _=>none
 | .cell t ty=>match lookupT st.T t,tyOf P ty with
   | some ⟨none,e⟩,some y=>symLoad st.own y e
   | _,_=>none
def evP (st:St):EV->Option (List Prop × SV)
 | .p s=>some ([],s)
 | .full _ sz n get=>some ([],.sl sz n get)
 | .row r=>match lookupO st.own r with
   | some (.row _ sz n get)=>some ([],.sl sz n get)
   | _=>none
 | .rsub r sz lo n=>match lookupO st.own r with
   | some (.row _ sz' n' get)=>if sz=sz' then some ([lo+n <= n'],.sl sz n (fun i=>get (lo+i))) else none
   | _=>none
 | _=>none
def resL (P:Program) (st:St):List ResultVar->Option (List Prop × List SV)
 | []=>some ([],[])
 | r :: rs=>match resE P st r with
   | some (ps,e)=>match evP st e,resL P st rs with
     | some (rs,s),some (qs,ss)=>some (ps ++ (rs ++ qs),s :: ss)
     | _,_=>none
   | none=>none
def resS (P:Program) (st:St) (l:List ResultVar):Option (List Prop × SV):=match resL P st l with
 | some (ps,[s])=>some (ps,s)
 | some (ps,ss)=>some (ps,.tup ss)
 | none=>none
def SV.isSl:SV->Bool
 | .sl ..=>true
 | _=>false
def fitCs:List SV->List SV->List Prop
 | [],[]=>[]
 | s :: ss,t :: ts=>fitS s t ++ fitCs ss ts
 | _,_=>[False]
def fitR:SV->SV->List Prop
 | .agg cs,.agg ds=>if ds.any SV.isSl then fitCs cs ds else [SV.agg cs=.agg ds]
 | s,t=>fitS s t
def fitAll:SV->SV->List Prop
 | .tup ss,.tup ts=>fitSs ss ts
 | s,t=>fitR s t
where fitSs:List SV->List SV->List Prop
 | [],[]=>[]
 | s :: ss,t :: ts=>fitR s t ++ fitSs ss ts
 | _,_=>[False]
def retFn (P:Program) (fn:Func) (r:SV):Exit->St->Prop:=fun e st=>match e with
 | .normal | .ret=>match resS P st fn.results.toList with
   | some (ps,s)=>andL (ps ++ fitAll s r)
   | none=>False
 | _=>False
def retRel (P:Program) (fn:Func) (T:Type) (post:T->Prop) (r:T->SV):Exit->St->Prop:=fun e st=>match e with
 | .normal | .ret=>match resS P st fn.results.toList with
   | some (ps,s)=>∃ t:T,conj (ps ++ fitAll s (r t)) (post t)
   | none=>False
 | _=>False
end Go.SE
namespace Go.SE
open Go.RowKit
variable {P:Program} {G:Ctx} {M:Nat->Prop} {w:World} {st:St} {a:Act} {env:Env} {X:Nat->Prop}
theorem SatC.turn (hG:Stable G) (S:SatC P G st a w env M X) {D:Nat} {w':World} (hX:X D) (hM:¬ M D) (hO:∀ k o,(k,o) ∈ st.own->env.at_ k ≠ some D) (hs:Same (fun b=>b=D) w w') (hsz:w'.heap.size=w.heap.size)
  {a':Act} (ht:a'.tmps=a.tmps) (hd:∀ d,d ∈ a'.defers->d ∈ a.defers/\d ≠ { target:=.collected D,args:=#[] }) (hdn:a'.defers.Nodup):SatC P G st a' w' env M X:=by
 have hl:Later M M w w':=⟨hs.size,fun b hb=>hs.block b (S.mlt b hb) (fun e=>hM (e ▸ hb)),fun b hb=>hb⟩
 have hev:∀ x,a'.eval x=a.eval x:=fun x=>by cases x <;> simp [Act.eval,ht]
 refine ⟨⟨hG _ _ _ _ _ S.gam.1 ⟨hs.os,hs.tape,hs.output,hs.drawn,hs.size,fun b hb hx=>hs.block b hb (fun e=>hx (e ▸ hX))⟩ (fun b h=>h) (fun b h=>.inl h),S.gam.2⟩,S.mx,?_,?_,S.inj,S.nod,by rw [hsz];exact S.mlt,by rw [hsz];exact S.xlt,by rw [ht];exact S.siz,?_,?_,?_,hdn⟩
 ·intro k o h
  have h1:=S.own _ _ h
  have h2:=S.oat _ _ h
  have hng:∀ g',env.at_ k=some g'->g' ≠ D:=fun g' hg' e=>hO _ _ h (e ▸ hg')
  exact h1.move hl rfl rfl (fun g' ha=>hs.block g' (h2 g' ha).2.2 (hng g' ha)) (fun _ _=>⟨rfl,rfl⟩)
 ·intro k o h g hg
  rw [hsz];exact S.oat _ _ h g hg
 ·intro s e h
  obtain ⟨h1,h2,h3⟩:=S.tmp s e h
  exact ⟨h1,fun ho=>by rw [hev];exact (h2 ho).later hl,fun ho=>by rw [hev];exact h3 ho⟩
 ·intro s e h q c v hq
  rw [hev];exact S.grd s e h q c v hq
 ·intro d hd'
  obtain ⟨h0,hne⟩:=hd d hd'
  obtain ⟨D',e,h1,h2,h3,h4⟩:=S.dfr d h0
  have hDD:D' ≠ D:=fun he=>hne (by rw [e,he])
  exact ⟨D',e,(hs.block D' (S.xlt D' h2) hDD).trans h1,h2,h3,h4⟩
theorem leave_ok (hG:Stable G) {fn:Func} {n:Nat} {R:Ending->World->Prop}:∀ (ds:List Deferred) (a:Act) (w:World),a.defers=ds->Sat P G st a w->(∀ a' w',a'.tmps=a.tmps->Sat P G st a' w' -> ∃ v,(results fn a.tmps).run P w'=.ok v w'/\R (.returned v) w') ->
  LeavesInM Fence.wide n P fn a.tmps R ds .returning w
 | [],a,w,hd,hs,h=>h a w rfl hs
 | d :: ds,a,w,hd,⟨env,M,X,S⟩,h=>by
   obtain ⟨D,e,h1,h2,h3,h4⟩:=S.dfr d (by rw [hd];simp)
   have hDlt:=S.xlt D h2
   have hnd:=S.dno
   rw [hd] at hnd
   obtain ⟨hn1,hn2⟩:=List.nodup_cons.1 hnd
   have hsame:Same (fun b=>b=D) w (w.putObj D (.deferred none)):=⟨rfl,rfl,rfl,Nat.le_refl _,by simp [World.putObj],fun b hb hne=>World.putObj_heap_other (w:=w) hne⟩
   have S':SatC P G st { a with defers:=ds } (w.putObj D (.deferred none)) env M X:=S.turn hG h2 h3 h4 hsame (by simp [World.putObj]) rfl (fun d' hd'=>⟨by rw [hd];exact List.mem_cons_of_mem _ hd',fun he=>hn1 (by rw [e,<- he];exact hd')⟩) hn2
   refine ⟨by simp,.inl ⟨D,_,by rw [e],run_takeDeferred h1,?_⟩⟩
   exact leave_ok hG ds { a with defers:=ds } _ rfl ⟨env,M,X,S'⟩ (fun a' w' ha hs'=>h a' w' ha hs')
def plainG (M:Nat->Prop) (W:World):Ctx:={ g:=fun _ X w=>Bl W.heap.size W w /\ ∀ b,X b->W.heap.size <= b,m0:=M }
theorem plainG_stable (M:Nat->Prop) (W:World):Stable (plainG M W):=by
 intro k X w X' w' ⟨hb,hx⟩ hs h1 h2
 refine ⟨hb.trans ⟨hs.os,hs.tape,hs.output,hs.drawn,hs.size,fun b hlt=>hs.block b (Nat.lt_of_lt_of_le hlt hb.size) (fun hX=>by have:=hx b hX;omega)⟩,fun b hb'=>?_⟩
 rcases h2 b hb' with h | h
 ·exact hx b h
 ·exact Nat.le_trans hb.size h
def readRes (tmps:Array Value):ResultVar->Sem Value
 | .tmp t=>pure (tmps.getD t undef)
 | .cell c t=>do loadVar t (<- asAddr (tmps.getD c undef))
theorem results_eq (fn:Func) (tmps:Array Value):results fn tmps=(do let vs <- fn.results.mapM (readRes tmps);pure (if h:vs.size=1 then vs[0] else .tuple vs)):=by
 unfold results
 congr 2
theorem readRes_ok (S:SatC P G st a w env M X) {r:ResultVar} {ps1:List Prop} {e:EV} (he:resE P st r=some (ps1,e)) (hp1:all ps1):∃ v,(readRes a.tmps r).run P w=.ok v w/\DenE P M w env e v:=by
 unfold resE at he
 cases r with
 | tmp t =>
   simp only at he
   split at he
   ·rename_i e' hl
    cases he
    exact ⟨_,rfl,(S.tmp _ _ (lookupT_mem hl)).2.1 trivial⟩
   ·cases he
 | cell c t =>
   simp only at he
   split at he
   ·rename_i e' y hl hy
    have hden:=(S.tmp _ _ (lookupT_mem hl)).2.1 trivial
    obtain ⟨u,h1,h2⟩:=load_ok S hy he hp1 hden
    refine ⟨u,?_,h2⟩
    have hev:a.tmps.getD c undef=a.eval (.tmp c):=rfl
    simp only [readRes,hev]
    generalize a.eval (.tmp c)=q at h1
    unfold Instr.loadAt at h1
    cases q with
    | pointer ad =>
      cases ad with
      | none=>simp [Instr.sureAddr,stuck,Sem.run] at h1
      | some ad=>simpa [Instr.sureAddr,asAddr] using h1
    | _=>simp [Instr.sureAddr,stuck,Sem.run] at h1
   ·cases he
theorem results_ok (S:SatC P G st a w env M X):∀ (l:List ResultVar) (ps:List Prop) (ss:List SV),resL P st l=some (ps,ss)->all ps->(∀ g k o,(k,o) ∈ st.own->env.at_ k=some g->True) ->
  ∃ vs,(l.mapM (readRes a.tmps)).run P w=.ok vs w/\DenL (fun b=>M b\/X b) w ss vs
 | [],ps,ss,h,hp,_=>by
   simp only [resL,Option.some.injEq,Prod.mk.injEq] at h
   obtain ⟨_,rfl⟩:=h
   exact ⟨[],rfl,⟨rfl,fun i hi=>by simp at hi⟩⟩
 | r :: l,ps,ss,h,hp,_=>by
   simp only [resL] at h
   split at h
   ·rename_i ps1 e he
    split at h
    ·rename_i rs s qs ss' hes hrest
     simp only [Option.some.injEq,Prod.mk.injEq] at h
     obtain ⟨rfl,rfl⟩:=h
     obtain ⟨hp1,hp23⟩:=all_append hp
     obtain ⟨hp3,hp2⟩:=all_append hp23
     obtain ⟨vs,hr,hd⟩:=results_ok S l _ _ hrest hp2 (fun _ _ _ _ _=>trivial)
     have key:=readRes_ok S he hp1
     obtain ⟨v,hv,hden⟩:=key
     have hsp:DenP (fun b=>M b\/X b) w s v:=by
      unfold evP at hes
      split at hes
      ·cases hes;rcases hden with ⟨hden⟩;exact hden.weak (fun b hb=>.inl hb)
      ·cases hes
       cases hden with
       | full hden _=>exact hden.weak (fun b hb=>.inl hb)
      ·rename_i r'
       split at hes
       ·rename_i e' sz n get hl
        cases hes
        cases hden with
        | row hrv =>
        have:=row_den S (lookupO_mem hl) (M':=fun b=>M b\/X b) (fun b hb=>.inl hb) (fun g hg=>.inr (S.oat _ _ (lookupO_mem hl) g hg).1)
        rw [hrv] at this;exact this
       ·cases hes
      ·rename_i r' sz lo n
       split at hes
       ·rename_i e' sz' n' get hl
        split at hes
        ·rename_i hsz
         subst hsz
         cases hes
         exact rsub_den S (lookupO_mem hl) (M':=fun b=>M b\/X b) (fun b hb=>.inl hb) (fun g hg=>.inr (S.oat _ _ (lookupO_mem hl) g hg).1) (all_one hp3) hden
        ·cases hes
       ·cases hes
      ·cases hes
     exact ⟨v :: vs,by simp [List.mapM_cons,hv,hr],denL_cons hsp hd⟩
    ·cases h
   ·cases h
theorem fitCs_at:∀ (ss ts:List SV),all (fitCs ss ts)->ss.length=ts.length /\ ∀ i,i<ts.length->all (fitS (SV.at ss i) (SV.at ts i)):=by
 intro ss
 induction ss with
 | nil=>intro ts h;cases ts with
   | nil=>exact ⟨rfl,fun i hi=>by simp at hi⟩
   | cons t ts=>exact (all_one h).elim
 | cons s ss ih=>intro ts h;cases ts with
   | nil=>exact (all_one h).elim
   | cons t ts =>
     simp only [fitCs] at h
     obtain ⟨h1,h2⟩:=all_append h
     obtain ⟨h3,h4⟩:=ih ts h2
     refine ⟨by simp [h3],fun i hi=>?_⟩
     cases i with
     | zero=>exact h1
     | succ i=>exact h4 i (by simpa using hi)
theorem fitR_ok {s r:SV} (h:all (fitR s r)) {v:Value} (hd:DenP M w s v):DenP M w r v:=by
 unfold fitR at h
 split at h
 ·split at h
  ·cases hd with
   | agg _ vs hl hdd =>
   obtain ⟨h1,h2⟩:=fitCs_at _ _ h
   exact .agg _ vs (hl.trans h1) (fun i hi=>fitS_ok (h2 i hi) (hdd i (by omega)))
  ·have:=all_one h;rw [<- this];exact hd
 ·exact fitS_ok h hd
theorem fitAll_ok {s r:SV} (h:all (fitAll s r)) {v:Value} (hd:DenP M w s v):DenP M w r v:=by
 unfold fitAll at h
 split at h
 ·rename_i ss ts
  cases hd with
  | tup _ vs hl hdd =>
  have:∀ (ss ts:List SV),all (fitAll.fitSs ss ts)->ss.length=ts.length /\ ∀ i,i<ts.length->all (fitR (SV.at ss i) (SV.at ts i)):=by
   intro ss
   induction ss with
   | nil=>intro ts h;cases ts with
     | nil=>exact ⟨rfl,fun i hi=>by simp at hi⟩
     | cons t ts=>exact (all_one h).elim
   | cons s ss ih=>intro ts h;cases ts with
     | nil=>exact (all_one h).elim
     | cons t ts =>
       simp only [fitAll.fitSs] at h
       obtain ⟨h1,h2⟩:=all_append h
       obtain ⟨h3,h4⟩:=ih ts h2
       refine ⟨by simp [h3],fun i hi=>?_⟩
       cases i with
       | zero=>exact h1
       | succ i=>exact h4 i (by simpa using hi)
  obtain ⟨h1,h2⟩:=this _ _ h
  exact .tup _ vs (hl.trans h1) (fun i hi=>fitR_ok (h2 i hi) (hdd i (by omega)))
 ·exact fitR_ok h hd
theorem andL_all:∀ {ps:List Prop},andL ps->all ps
 | [],_=>all_nil
 | [p],h=>fun q hq=>by rw [List.mem_singleton.1 hq];exact h
 | p :: p' :: ps,h=>fun q hq=>by
   rcases List.mem_cons.1 hq with rfl | hq
   ·exact h.1
   ·exact andL_all (ps:=p' :: ps) h.2 q hq
theorem results_den {fn:Func} (S:SatC P G st a w env M X) {ps:List Prop} {s:SV} (h:resS P st fn.results.toList=some (ps,s)) (hp:all ps) {tmps:Array Value} (ht:tmps=a.tmps):∃ v,(results fn tmps).run P w=.ok v w/\DenP (fun b=>M b\/X b) w s v:=by
 subst ht
 unfold resS at h
 have fin : ∀ vs : List Value, (fn.results.toList.mapM (readRes a.tmps)).run P w = .ok vs w ->
   (results fn a.tmps).run P w=.ok (if h:vs.toArray.size=1 then vs.toArray[0] else .tuple vs.toArray) w:=fun vs hv=>by
  rw [results_eq]
  simp [Array.mapM_eq_mapM_toList,hv]
 split at h
 ·rename_i ps' s' hr
  cases h
  obtain ⟨vs,h1,h2⟩:=results_ok S _ _ _ hr hp (fun _ _ _ _ _=>trivial)
  obtain ⟨hl,hd⟩:=h2
  match vs,hl with
  | [v],_ =>
    refine ⟨v,by rw [fin _ h1];simp,?_⟩
    simpa [SV.at] using hd 0 (by simp)
 ·rename_i ps' ss hne hr
  cases h
  obtain ⟨vs,h1,h2⟩:=results_ok S _ _ _ hr hp (fun _ _ _ _ _=>trivial)
  refine ⟨.tuple vs.toArray,?_,.tup _ _ h2.1 h2.2⟩
  rw [fin _ h1]
  have hno:¬ vs.length=1:=by
   intro hc
   have hl:=h2.1
   rw [hc] at hl
   match ss,hl with
   | [s0],_=>exact hne s0 rfl
  simp [hno]
 ·cases h
end Go.SE
namespace Go.SE
open Go.RowKit
variable {P:Program}
abbrev SpecsOk0 (P:Program) (C:Cfg):Prop:=(∀ f sp,C.specs f=some sp->SpecOk P f sp/\Enters P f)/\C.yld=none/\ItersOk P C
theorem SpecsOk0.any {P:Program} {C:Cfg} (h:SpecsOk0 P C) (G:Ctx):SpecsOk P G C:=⟨h.1,fun y hy=>(by rw [h.2.1] at hy;cases hy),h.2.2⟩
theorem init_sat {fn:Func} {args:List EV} {vals:List Value} {M:Nat->Prop} {w:World} (hlt:∀ b,M b->b<w.heap.size) (hargs:ArgsOk P M w args vals) :
  Sat P (plainG M w) (st0 fn args) { tmps:=vals.toArray ++ Array.replicate (fn.ntmps - vals.toArray.size) undef,defers:=[] } w:=by
 have hl:=hargs.1
 refine ⟨env0,M,fun _=>False,⟨⟨Bl.refl _ _,fun b h=>h.elim⟩,fun k h=>h.elim⟩,fun b h=>.inl h,fun k o h=>by simp [st0] at h,fun k o h=>by simp [st0] at h,fun k o k' o' h=>by simp [st0] at h,by simp [st0],hlt,fun b h=>h.elim,?_,?_,?_,fun d h=>by simp at h,by simp⟩
 ·simp [st0,hl]
 ·intro s e h
  simp only [st0,List.mem_map] at h
  obtain ⟨⟨ev,i⟩,hm,he⟩:=h
  simp only [Prod.mk.injEq] at he
  obtain ⟨rfl,rfl⟩:=he
  obtain ⟨hi,hev⟩:=List.mem_zipIdx hm |> fun h=>(⟨by omega,by simpa using h.2.2⟩:i<args.length/\ev=args[i]'(by omega))
  refine ⟨by simp [st0];omega,fun _=>?_,fun hn=>absurd trivial hn⟩
  have:=(hargs.2 i hi).2
  have e1:EV.at args i=ev:=by rw [hev];simp [EV.at,List.getD_eq_getElem?_getD,hi]
  rw [e1] at this
  have e2:({ tmps:=vals.toArray ++ Array.replicate (fn.ntmps - vals.toArray.size) undef,defers:=[] }:Act).eval (.tmp i)=vals.getD i undef:=by
   simp only [Act.eval,Array.getD_eq_getD_getElem?,List.getD_eq_getElem?_getD]
   rw [Array.getElem?_append_left (by simp;omega)]
   simp
  rw [e2];exact this
 ·intro s e h q c v hq
  simp only [st0,List.mem_map] at h
  obtain ⟨⟨ev,i⟩,hm,he⟩:=h
  simp only [Prod.mk.injEq] at he
  obtain ⟨rfl,rfl⟩:=he
  cases hq
theorem gives_of {M:Nat->Prop} {w:World} {st:St} {a:Act} {w':World} {env:Env} {M' X:Nat->Prop} (hlt:∀ b,M b->b<w.heap.size) (S:SatC P (plainG M w) st a w' env M' X) {r:SV} {v:Value} (hd:DenP (fun b=>M' b\/X b) w' r v):Gives M w r (.returned v) w':=by
 obtain ⟨⟨hb,hx⟩,_⟩:=S.gam
 refine ⟨v,fun b=>M' b\/X b\/M b,rfl,hb,fun b h=>.inr (.inr h),fun b h=>?_,fun b h=>?_,hd.weak (fun b h=>h.imp id .inl)⟩
 ·rcases h with h | h | h
  ·rcases S.mx b h with h | h
   ·exact .inl h
   ·exact .inr (hx b h)
  ·exact .inr (hx b h)
  ·exact .inl h
 ·rcases h with h | h | h
  ·exact S.mlt b h
  ·exact S.xlt b h
  ·exact Nat.lt_of_lt_of_le (hlt b h) hb.size
theorem body_ok {f:Nat} {fn:Func} {c:Code} (hf:P.funcs[f]? = some fn) (hb:fn.body=some c) {C:Cfg} (hC:SpecsOk0 P C) (hm:P.follows .mixedOrders=true) {K:Exit->St->Prop} {args:List EV} (h:vc P C c (st0 fn args) K)
  {M:Nat->Prop} {w:World} {vals:List Value} (hlt:∀ b,M b->b<w.heap.size) (hargs:ArgsOk P M w args vals) {R:Ending->World->Prop} (hK:∀ e st,K e st->e=.normal\/e=.ret)
  (hR:∀ e st a w' tmps,K e st->tmps=a.tmps->Sat P (plainG M w) st a w' -> ∃ v,(results fn tmps).run P w'=.ok v w'/\R (.returned v) w'):CallsIn Fence.wide 0 P f vals.toArray w R:=by
 have hG:=plainG_stable M w
 refine callsIn_of_wp_marks hf hb trivial ?_ rfl
 refine vc_ok hG (hC.any _) hm c (st0 fn args) K _ h (fun e st' a' w' hk hs=>?_) _ _ (init_sat hlt hargs)
 have fin:LeavesInM Fence.wide 0 P fn a'.tmps R a'.defers .returning w':=leave_ok hG a'.defers a' w' rfl hs (fun a2 w2 ha hs2=>hR e st' a2 w2 _ hk ha.symm hs2)
 rcases hK e st' hk with rfl | rfl <;> exact fin
theorem fn_ok {f:Nat} {fn:Func} {c:Code} (hf:P.funcs[f]? = some fn) (hb:fn.body=some c) {C:Cfg} (hC:SpecsOk0 P C) (hm:P.follows .mixedOrders=true) {pre:List EV->Prop} {res:List EV->SV}
  (h:∀ args,pre args->vc P C c (st0 fn args) (retFn P fn (res args))):SpecOk P f (.fn pre res):=by
 intro M w args vals hlt hargs hp
 refine body_ok hf hb hC hm (h args hp) hlt hargs (fun e st hk=>?_) (fun e st a w' tmps hk ht hs=>?_)
 ·cases e <;> first | exact .inl rfl | exact .inr rfl | exact hk.elim
 ·obtain ⟨env,M',X,S⟩:=hs
  have key:(match resS P st fn.results.toList with | some (ps,s)=>andL (ps ++ fitAll s (res args)) | none=>False) -> ∃ v,(results fn tmps).run P w'=.ok v w'/\Gives M w (res args) (.returned v) w':=by
   intro hz
   split at hz
   ·rename_i ps s hr
    obtain ⟨h1,h2⟩:=all_append (andL_all hz)
    obtain ⟨v,hv,hd⟩:=results_den S hr h1 ht
    exact ⟨v,hv,gives_of hlt S (fitAll_ok h2 hd)⟩
   ·exact hz.elim
  cases e <;> first | exact key hk | exact hk.elim
theorem rel_ok {f:Nat} {fn:Func} {c:Code} (hf:P.funcs[f]? = some fn) (hb:fn.body=some c) {C:Cfg} (hC:SpecsOk0 P C) (hm:P.follows .mixedOrders=true) {T:Type} {t0:T} {pre:List EV->Prop} {post:List EV->T->Prop} {res:List EV->T->SV}
  (h:∀ args,pre args->vc P C c (st0 fn args) (retRel P fn T (post args) (res args))):SpecOk P f (.rel T t0 pre post res):=by
 intro M w args vals hlt hargs hp
 refine body_ok hf hb hC hm (h args hp) hlt hargs (fun e st hk=>?_) (fun e st a w' tmps hk ht hs=>?_)
 ·cases e <;> first | exact .inl rfl | exact .inr rfl | exact hk.elim
 ·obtain ⟨env,M',X,S⟩:=hs
  have key : (match resS P st fn.results.toList with | some (ps, s) => ∃ t : T, conj (ps ++ fitAll s (res args t)) (post args t) | none => False) ->
    ∃ v,(results fn tmps).run P w'=.ok v w' /\ ∃ t:T,post args t/\Gives M w (res args t) (.returned v) w':=by
   intro hz
   split at hz
   ·rename_i ps s hr
    obtain ⟨t,ht'⟩:=hz
    obtain ⟨h12,h3⟩:=conj_spec ht'
    obtain ⟨h1,h2⟩:=all_append h12
    obtain ⟨v,hv,hd⟩:=results_den S hr h1 ht
    exact ⟨v,hv,t,h3,gives_of hlt S (fitAll_ok h2 hd)⟩
   ·exact hz.elim
  cases e <;> first | exact key hk | exact hk.elim
def retFresh (P:Program) (fn:Func) (T:Type) (post:T->Prop) (e:TypeId) (sz:Nat) (n:T->Nat) (get:T->Nat->List SV):Exit->St->Prop:=fun ex st=>match ex with
 | .normal | .ret=>match fn.results.toList with
   | [r]=>match resE P st r with
     | some (ps,.row k)=>match lookupO st.own k with
       | some (.row e' sz' n' get')=>if e' == e && sz' == sz then ∃ t:T,conj (ps ++ [n'=n t /\ ∀ i,i<n'->get' i=get t i]) (post t) else False
       | _=>False
     | some (ps,.p (.raw (.slice none 0 0)))=>∃ t:T,conj (ps ++ [n t=0]) (post t)
     | _=>False
   | _=>False
 | _=>False
theorem fresh_ok {f:Nat} {fn:Func} {c:Code} (hf:P.funcs[f]? = some fn) (hb:fn.body=some c) {C:Cfg} (hC:SpecsOk0 P C) (hm:P.follows .mixedOrders=true) {T:Type} {t0:T} {pre:List EV->Prop} {post:List EV->T->Prop} {el:TypeId} {sz:Nat} {n:List EV->T->Nat} {get:List EV->T->Nat->List SV}
  (h:∀ args,pre args->vc P C c (st0 fn args) (retFresh P fn T (post args) el sz (n args) (get args))):SpecOk P f (.fresh T t0 pre post el sz n get):=by
 intro M w args vals hlt hargs hp
 refine body_ok hf hb hC hm (h args hp) hlt hargs (fun e st hk=>?_) (fun e st a w' tmps hk ht hs=>?_)
 ·cases e <;> first | exact .inl rfl | exact .inr rfl | exact hk.elim
 ·obtain ⟨env,M',X,S⟩:=hs
  have key : retFresh P fn T (post args) el sz (n args) (get args) .ret st -> ∃ v, (results fn tmps).run P w' = .ok v w' /\ ∃ t : T, post args t /\ ∃ env v', Ending.returned v = .returned v' /\ Bl w.heap.size w w' /\
    OwnOk P (fun b=>M b\/(w.heap.size <= b/\b<w'.heap.size/\env.at_ 0 ≠ some b)) w' env 0 (.row el sz (n args t) (get args t))/\env.rv 0=v'/\(∀ g,env.at_ 0=some g->w.heap.size <= g/\g<w'.heap.size):=by
   intro hz
   obtain ⟨⟨hb',hx⟩,_⟩:=S.gam
   simp only [retFresh] at hz
   split at hz
   ·rename_i r hres
    have hrun:∀ v,(readRes tmps r).run P w'=.ok v w'->(results fn tmps).run P w'=.ok v w':=fun v hv=>by
     rw [results_eq]
     simp [Array.mapM_eq_mapM_toList,hres,hv]
    split at hz
    ·rename_i ps k hre
     split at hz
     ·rename_i e' sz' n' get' hl
      split at hz
      ·rename_i hc
       simp only [Bool.and_eq_true,beq_iff_eq] at hc
       obtain ⟨rfl,rfl⟩:=hc
       obtain ⟨t,hz⟩:=hz
       obtain ⟨h12,h3⟩:=conj_spec hz
       obtain ⟨h1,h2⟩:=all_append h12
       obtain ⟨hn,hg⟩:=all_one h2
       obtain ⟨vs,hr,hd⟩:=results_ok S [r] ps [.sl sz' n' get'] (by simp [resL,hre,evP,hl]) h1 (fun _ _ _ _ _=>trivial)
       rw [<- ht] at hr
       have hrow:=S.own _ _ (lookupO_mem hl)
       have hat:=S.oat _ _ (lookupO_mem hl)
       -- the value that is read is the row's
       have hval:∃ v,(readRes tmps r).run P w'=.ok v w'/\v=env.rv k:=by
        subst ht
        unfold resE at hre
        cases r with
        | tmp t' =>
          simp only at hre
          split at hre
          ·rename_i e'' hlt'
           cases hre
           have:=(S.tmp _ _ (lookupT_mem hlt')).2.1 trivial
           refine ⟨_,rfl,?_⟩
           have hev:a.tmps.getD t' undef=a.eval (.tmp t'):=rfl
           rw [hev]
           generalize a.eval (.tmp t')=q at this
           cases this with
           | row hrv=>exact hrv.symm
          ·cases hre
        | cell c' t' =>
          simp only at hre
          split at hre
          ·rename_i e'' y hl' hy
           have hden:=(S.tmp _ _ (lookupT_mem hl')).2.1 trivial
           obtain ⟨u,q1,q2⟩:=load_ok S hy hre h1 hden
           refine ⟨u,?_,by cases q2 with | row hrv=>exact hrv.symm⟩
           have hev:a.tmps.getD c' undef=a.eval (.tmp c'):=rfl
           simp only [readRes,hev]
           generalize a.eval (.tmp c')=q at q1
           unfold Instr.loadAt at q1
           cases q with
           | pointer ad =>
             cases ad with
             | none=>simp [Instr.sureAddr,stuck,Sem.run] at q1
             | some ad=>simpa [Instr.sureAddr,asAddr] using q1
           | _=>simp [Instr.sureAddr,stuck,Sem.run] at q1
          ·cases hre
       obtain ⟨v,hv,rfl⟩:=hval
       refine ⟨_,hrun _ hv,t,h3,{ env with at_:=fun _=>env.at_ k,rv:=fun _=>env.rv k },_,rfl,hb',?_,rfl,fun g hg'=>⟨hx g (hat g hg').1,(hat g hg').2.2⟩⟩
       obtain ⟨hm',hgl,hO⟩:=hrow
       rw [<- hn]
       refine ⟨hm',fun i hi=>by rw [<- hg i hi];exact hgl i hi,?_⟩
       rcases hO with hO | ⟨g,cap,cur,ha,hr',hh,q3,q4,q5,q6⟩
       ·exact .inl hO
       ·refine .inr ⟨g,cap,cur,ha,hr',hh,q3,q4,q5,fun i hi j hj=>⟨(q6 i hi j hj).1,?_⟩⟩
        rw [<- hg i hi]
        refine (q6 i hi j hj).2.weak fun b hb=>?_
        rcases S.mx b hb with h | h
        ·exact .inl h
        ·exact .inr ⟨hx b h,S.mlt b hb,fun e=>(hat b e).2.1 hb⟩
      ·exact hz.elim
     ·exact hz.elim
    ·rename_i ps hre
     obtain ⟨t,hz⟩:=hz
     obtain ⟨h12,h3⟩:=conj_spec hz
     obtain ⟨h1,h2⟩:=all_append h12
     have hn:=all_one h2
     obtain ⟨vs,hr,hd⟩:=results_ok S [r] ps [.raw (.slice none 0 0)] (by simp [resL,hre,evP]) h1 (fun _ _ _ _ _=>trivial)
     rw [<- ht] at hr
     obtain ⟨hlen,hden⟩:=hd
     match vs,hlen with
     | [v],_ =>
       have hv:v=.slice none 0 0:=by
        have:=hden 0 (by simp)
        simp [SV.at] at this
        cases this;rfl
       have hv':(readRes tmps r).run P w'=.ok v w':=by
        simp only [List.mapM_cons,List.mapM_nil,Sem.run_bind] at hr
        generalize (readRes tmps r).run P w'=q at hr ⊢
        cases q with
        | ok x w2 =>
          simp at hr
          obtain ⟨rfl,rfl⟩:=hr;rfl
        | halt x w2=>simp [Result.andThen] at hr
       subst hv
       refine ⟨_,hrun _ hv',t,h3,{ env0 with rv:=fun _=>.slice none 0 0 },_,rfl,hb',⟨by omega,fun i hi=>by omega,.inl ⟨rfl,rfl,hn⟩⟩,rfl,fun g hg=>by simp [env0] at hg⟩
    ·exact hz.elim
   ·exact hz.elim
  cases e <;> first | exact key hk | exact hk.elim
def preO (s:List EV->Option (Prop × SV)) (xs0:List EV):Prop:=match s xs0 with | some (p,_)=>p | none=>False
def resO (s:List EV->Option (Prop × SV)) (xs0:List EV):SV:=match s xs0 with | some (_,r)=>r | none=>.raw undef
def specO (s:List EV->Option (Prop × SV)):Spec:=.fn (preO s) (resO s)
def specR (T:Type) (t0:T) (s:List EV->Option (Prop × (T->Prop) × (T->SV))):Spec:=.rel T t0 (fun xs0=>match s xs0 with | some (p,_)=>p | none=>False) (fun xs0=>match s xs0 with | some (_,q,_)=>q | none=>fun _=>False) (fun xs0=>match s xs0 with | some (_,_,r)=>r | none=>fun _=>.raw undef)
def specF (T:Type) (t0:T) (e:TypeId) (sz:Nat) (s:List EV->Option (Prop × (T->Prop) × (T->Nat) × (T->Nat->List SV))):Spec :=
 .fresh T t0 (fun xs0=>match s xs0 with | some (p,_)=>p | none=>False) (fun xs0=>match s xs0 with | some (_,q,_)=>q | none=>fun _=>False) e sz (fun xs0=>match s xs0 with | some (_,_,n,_)=>n | none=>fun _=>0) (fun xs0=>match s xs0 with | some (_,_,_,g)=>g | none=>fun _ _=>[])
def lookS:List (Nat × Spec)->Nat->Option Spec
 | [],_=>none
 | (f,s) :: l,g=>if f == g then some s else lookS l g
def SpecsL (P:Program) (L:List (Nat × Spec)):Prop:=∀ f sp,lookS L f=some sp->SpecOk P f sp/\Enters P f
theorem SpecsL.nil:SpecsL P []:=fun f sp h=>by simp [lookS] at h
theorem SpecsL.cons {f:Nat} {s:Spec} {L:List (Nat × Spec)} (h:SpecOk P f s) (he:Enters P f) (k:SpecsL P L):SpecsL P ((f,s) :: L):=fun g sp h'=>by
 simp only [lookS] at h'
 split at h'
 ·rename_i hfg;simp at hfg;subst hfg;cases h';exact ⟨h,he⟩
 ·exact k g sp h'
end Go.SE
namespace Go.SE
open Go.RowKit
variable {P:Program}
inductive Ext:SV->SV->Prop
 | refl (s):Ext s s
 | sl {sz n get get'} (h:∀ i,i<n->get i=get' i):Ext (.sl sz n get) (.sl sz n get')
 | sl2 {sz n get get'} (hl:∀ i,i<n->(get' i).length=(get i).length) (h:∀ i,i<n -> ∀ j,j<(get i).length->Ext (SV.at (get i) j) (SV.at (get' i) j)):Ext (.sl sz n get) (.sl sz n get')
 | agg {cs cs':List SV} (hl:cs'.length=cs.length) (h:∀ i,i<cs.length->Ext (SV.at cs i) (SV.at cs' i)):Ext (.agg cs) (.agg cs')
 | clo {f:Nat} {cs cs':List SV} (hl:cs'.length=cs.length) (h:∀ i,i<cs.length->Ext (SV.at cs i) (SV.at cs' i)):Ext (.clo f cs) (.clo f cs')
 | ref {cs cs':List SV} {off:Nat} (hl:cs'.length=cs.length) (h:∀ i,i<cs.length->Ext (SV.at cs i) (SV.at cs' i)):Ext (.ref cs off) (.ref cs' off)
theorem Ext.den {M:Nat->Prop} {w:World} {s s':SV} (h:Ext s s'):∀ {v:Value},DenP M w s v->DenP M w s' v:=by
 induction h with
 | refl s=>exact fun hd=>hd
 | @sl sz n get get' h =>
   intro v hd
   cases hd with
   | sl _ _ _ A cap vs hcap hm hA hg ho hd =>
     exact .sl sz n get' A cap vs hcap hm hA (fun i hi=>by rw [<- h i hi];exact hg i hi) ho (fun i hi j hj=>by rw [<- h i hi];exact hd i hi j hj)
 | @sl2 sz n get get' hl h ih =>
   intro v hd
   cases hd with
   | sl _ _ _ A cap vs hcap hm hA hg ho hd =>
     exact .sl sz n get' A cap vs hcap hm hA (fun i hi=>(hl i hi).trans (hg i hi)) ho (fun i hi j hj=>ih i hi j (by rw [hg i hi];exact hj) (hd i hi j hj))
 | @agg cs cs' hl h ih =>
   intro v hd
   cases hd with
   | agg _ vs hl' hd=>exact .agg cs' vs (hl'.trans hl.symm) (fun i hi=>ih i (hl ▸ hi) (hd i (hl ▸ hi)))
 | @clo f cs cs' hl h ih =>
   intro v hd
   cases hd with
   | clo _ _ vs hl' hd=>exact .clo f cs' vs (hl'.trans hl.symm) (fun i hi=>ih i (hl ▸ hi) (hd i (hl ▸ hi)))
 | @ref cs cs' off hl h ih =>
   intro v hd
   cases hd with
   | ref _ _ vs ad hM hc ho hd=>exact .ref cs' off vs ad hM (fun j hj=>hc j (hl ▸ hj)) (fun j hj=>ho j (hl ▸ hj)) (fun j hj=>ih j (hl ▸ hj) (hd j (hl ▸ hj)))
inductive ExtS:List SV->List SV->Prop
 | nil:ExtS [] []
 | cons {s s' l l'} (h:Ext s s') (k:ExtS l l'):ExtS (s :: l) (s' :: l')
theorem ExtS.len {l l':List SV} (h:ExtS l l'):l'.length=l.length:=by induction h <;> simp_all
theorem ExtS.at {l l':List SV} (h:ExtS l l'):∀ i,i<l.length->Ext (SV.at l i) (SV.at l' i):=by
 induction h with
 | nil=>intro i hi;simp at hi
 | @cons s s' l l' hs _ ih =>
   intro i hi
   cases i with
   | zero=>exact hs
   | succ i=>exact ih i (by simpa using hi)
theorem ExtS.den {M:Nat->Prop} {w:World} {l l':List SV} {vs:List Value} (h:ExtS l l') (hd:DenL M w l vs):DenL M w l' vs :=
 ⟨hd.1.trans h.len.symm,fun i hi=>(h.at i (h.len ▸ hi)).den (hd.2 i (h.len ▸ hi))⟩
inductive ExtL:List EV->List EV->Prop
 | nil:ExtL [] []
 | p {s s' l l'} (h:Ext s s') (k:ExtL l l'):ExtL (.p s :: l) (.p s' :: l')
 | same (e) {l l'} (k:ExtL l l'):ExtL (e :: l) (e :: l')
 | fn {f f':FSpec} {l l'} (h:∀ xs0,f'.pre xs0->f.pre xs0/\f'.res xs0=f.res xs0) (k:ExtL l l'):ExtL (.fn f :: l) (.fn f' :: l')
theorem ExtL.refl:∀ l,ExtL l l
 | []=>.nil
 | e :: l=>.same e (ExtL.refl l)
theorem ExtL.len {l l':List EV} (h:ExtL l l'):l'.length=l.length:=by induction h <;> simp_all
theorem ExtL.at {M:Nat->Prop} {w:World} {l l':List EV} (h:ExtL l l'):∀ i v,i<l.length->(argOk (EV.at l i)=true/\DenE P M w env0 (EV.at l i) v)->argOk (EV.at l' i)=true/\DenE P M w env0 (EV.at l' i) v:=by
 induction h with
 | nil=>intro i v hi;simp at hi
 | @p s s' l l' hs _ ih =>
   intro i v hi hd
   cases i with
   | zero =>
     simp only [EV.at,List.getD_cons_zero] at hd ⊢
     obtain ⟨_,hd⟩:=hd
     cases hd with | p hd=>exact ⟨rfl,.p (hs.den hd)⟩
   | succ i=>simpa [EV.at] using ih i v (by simpa using hi) (by simpa [EV.at] using hd)
 | @fn f f' l l' hf _ ih =>
   intro i v hi hd
   cases i with
   | zero =>
     simp only [EV.at,List.getD_cons_zero] at hd ⊢
     obtain ⟨_,hd⟩:=hd
     cases hd with
     | fn hd =>
       obtain ⟨g,first,caps,e,hn,hc⟩:=hd
       exact ⟨rfl,.fn ⟨g,first,caps,e,hn,fun M' w' hl hlt args vals hdl hp=>by rw [(hf args hp).2];exact hc M' w' hl hlt args vals hdl (hf args hp).1⟩⟩
   | succ i=>simpa [EV.at] using ih i v (by simpa using hi) (by simpa [EV.at] using hd)
 | @same e l l' _ ih =>
   intro i v hi hd
   cases i with
   | zero=>simpa [EV.at] using hd
   | succ i=>simpa [EV.at] using ih i v (by simpa using hi) (by simpa [EV.at] using hd)
theorem ExtL.args {M:Nat->Prop} {w:World} {l l':List EV} {vals:List Value} (h:ExtL l l') (ha:ArgsOk P M w l vals):ArgsOk P M w l' vals :=
 ⟨ha.1.trans h.len.symm,fun i hi=>h.at i _ (h.len ▸ hi) (ha.2 i (h.len ▸ hi))⟩
def lookN:List (Nat × List Nat)->Nat->List Nat
 | [],_=>[]
 | (k,v) :: l,n=>if k == n then v else lookN l n
def lookQ:List (Nat × (Int->SV))->Nat->Option (Int->SV)
 | [],_=>none
 | (k,v) :: l,n=>if k == n then some v else lookQ l n
def lookM:List (Nat × List (Nat × Nat × TypeId × Nat))->Nat->List (Nat × Nat × TypeId × Nat)
 | [],_=>[]
 | (k,v) :: l,n=>if k == n then v else lookM l n
def lookL:List (Nat × LoopInv)->Nat->Option LoopInv
 | [],_=>none
 | (k,v) :: l,n=>if k == n then some v else lookL l n
def bodyOf (f:Func):Code:=match f.body with | some c=>c | none=>.skip
def lookI:List (Nat × ItSpec)->Nat->Option ItSpec
 | [],_=>none
 | (f,s) :: l,g=>if f == g then some s else lookI l g
def lookR:List (Nat × RfInv)->Nat->Option RfInv
 | [],_=>none
 | (f,s) :: l,g=>if f == g then some s else lookR l g
def ItersL (P:Program) (L:List (Nat × ItSpec)):Prop:=∀ f sp,lookI L f=some sp->ItOk P f sp/\Enters P f
theorem ItersL.nil:ItersL P []:=fun f sp h=>by simp [lookI] at h
theorem ItersL.cons {f:Nat} {s:ItSpec} {L:List (Nat × ItSpec)} (h:ItOk P f s) (he:Enters P f) (k:ItersL P L):ItersL P ((f,s) :: L):=fun g sp h'=>by
 simp only [lookI] at h'
 split at h'
 ·rename_i hfg;simp at hfg;subst hfg;cases h';exact ⟨h,he⟩
 ·exact k g sp h'
def isB (f:FSpec):Prop:=∀ xs0,f.pre xs0 -> ∃ b,f.res xs0=.bool b
theorem isB_of {s:List EV->Option (Prop × SV)} (h:∀ args p r,s args=some (p,r) -> ∃ b,r=.bool b) (g:List SV->List EV):isB ⟨fun xs0=>preO s (g xs0),fun xs0=>resO s (g xs0)⟩:=fun xs0 hp=>by
 simp only [preO,resO] at hp ⊢
 cases hs:s (g xs0) with
 | none=>simp [hs] at hp
 | some q =>
   obtain ⟨p,r⟩:=q
   obtain ⟨b,hb⟩:=h _ p r hs
   exact ⟨b,hb⟩
theorem fnX {f:Nat} {fn:Func} {c:Code} (hf:P.funcs[f]? = some fn) (hb:fn.body=some c) (hm:P.follows .mixedOrders=true) {s:List EV->Option (Prop × SV)}
  (h:∀ args p r,s args=some (p,r)->p -> ∃ args' C,vc P C c (st0 fn args') (retFn P fn r)/\ExtL args args'/\SpecsOk0 P C):SpecOk P f (specO s):=by
 intro M w args vals hlt ha hp
 cases hs:s args with
 | none=>simp [preO,hs] at hp
 | some q =>
   obtain ⟨p,r⟩:=q
   simp only [preO,resO,hs] at hp ⊢
   obtain ⟨args',C,hv,hx,hC⟩:=h args p r hs hp
   exact fn_ok hf hb hC hm (pre:=fun a=>a=args') (res:=fun _=>r) (fun a e=>e ▸ hv) M w args' vals hlt (hx.args ha) rfl
theorem relX {f:Nat} {fn:Func} {c:Code} (hf:P.funcs[f]? = some fn) (hb:fn.body=some c) (hm:P.follows .mixedOrders=true) {T:Type} {t0:T} {s:List EV->Option (Prop × (T->Prop) × (T->SV))}
  (h:∀ args p q r,s args=some (p,q,r)->p -> ∃ args' C,vc P C c (st0 fn args') (retRel P fn T q r)/\ExtL args args'/\SpecsOk0 P C):SpecOk P f (specR T t0 s):=by
 intro M w args vals hlt ha hp
 cases hs:s args with
 | none=>simp [hs] at hp
 | some q =>
   obtain ⟨p,q,r⟩:=q
   simp only [hs] at hp ⊢
   obtain ⟨args',C,hv,hx,hC⟩:=h args p q r hs hp
   exact rel_ok hf hb hC hm (T:=T) (t0:=t0) (pre:=fun a=>a=args') (post:=fun _=>q) (res:=fun _=>r) (fun a e=>e ▸ hv) M w args' vals hlt (hx.args ha) rfl
theorem freshX {f:Nat} {fn:Func} {c:Code} (hf:P.funcs[f]? = some fn) (hb:fn.body=some c) (hm:P.follows .mixedOrders=true) {T:Type} {t0:T} {e:TypeId} {sz:Nat} {s:List EV->Option (Prop × (T->Prop) × (T->Nat) × (T->Nat->List SV))}
  (h:∀ args p q n g,s args=some (p,q,n,g)->p -> ∃ args' C,vc P C c (st0 fn args') (retFresh P fn T q e sz n g)/\ExtL args args'/\SpecsOk0 P C):SpecOk P f (specF T t0 e sz s):=by
 intro M w args vals hlt ha hp
 cases hs:s args with
 | none=>simp [hs] at hp
 | some q =>
   obtain ⟨p,q,n,g⟩:=q
   simp only [hs] at hp ⊢
   obtain ⟨args',C,hv,hx,hC⟩:=h args p q n g hs hp
   exact fresh_ok hf hb hC hm (T:=T) (t0:=t0) (pre:=fun a=>a=args') (post:=fun _=>q) (n:=fun _=>n) (get:=fun _=>g) (fun a e=>e ▸ hv) M w args' vals hlt (hx.args ha) rfl
def retIt (_:Program) (fn:Func) (cnt:Nat):Exit->St->Prop:=fun e st=>match e with
 | .normal | .ret=>if fn.results.toList.isEmpty then (st.yk=cnt\/st.yk=cnt+1) else False
 | _=>False
theorem init_satG {G:Ctx} {fn:Func} {caps:List SV} {vals:List Value} {l:Nat} {w:World} (hpin:∀ nt,PinOk G env0 nt) (hg:G.g 0 (fun _=>False) w) (hlt:∀ b,G.m0 b->b<w.heap.size) (hd:DenL G.m0 w caps vals) :
  Sat P G (st0 fn (.yield l :: caps.map .p)) { tmps:=(#[Value.func (.yield l) #[] #[]] ++ vals.toArray) ++ Array.replicate (fn.ntmps - (#[Value.func (.yield l) #[] #[]] ++ vals.toArray).size) undef,defers:=[] } w:=by
 have hl:=hd.1
 have hsz:(#[Value.func (.yield l) #[] #[]] ++ vals.toArray:Array Value).size=caps.length+1:=by simp;omega
 refine ⟨env0,G.m0,fun _=>False,⟨hg,hpin _⟩,fun b h=>.inl h,fun k o h=>by simp [st0] at h,fun k o h=>by simp [st0] at h,fun k o k' o' h=>by simp [st0] at h,by simp [st0],hlt,fun b h=>h.elim,?_,?_,?_,fun d h=>by simp at h,by simp⟩
 ·simp only [st0,Array.size_append,Array.size_replicate];simp;omega
 ·intro s e h
  simp only [st0,List.mem_map] at h
  obtain ⟨⟨ev,i⟩,hm,he⟩:=h
  simp only [Prod.mk.injEq] at he
  obtain ⟨rfl,rfl⟩:=he
  obtain ⟨hi,hev⟩:=List.mem_zipIdx hm |> fun h=>(⟨by omega,by simpa using h.2.2⟩:i<(EV.yield l :: caps.map EV.p).length/\ev=(EV.yield l :: caps.map EV.p)[i]'(by omega))
  have hi':i<caps.length+1:=by simpa using hi
  refine ⟨by simp [st0];omega,fun _=>?_,fun hn=>absurd trivial hn⟩
  have e2:({ tmps:=(#[Value.func (.yield l) #[] #[]] ++ vals.toArray) ++ Array.replicate (fn.ntmps - (#[Value.func (.yield l) #[] #[]] ++ vals.toArray).size) undef,defers:=[] }:Act).eval (.tmp i)=(Value.func (.yield l) #[] #[] :: vals).getD i undef:=by
   simp only [Act.eval,Array.getD_eq_getD_getElem?,List.getD_eq_getElem?_getD]
   rw [Array.getElem?_append_left (by omega)]
   congr 1
   have:(#[Value.func (.yield l) #[] #[]] ++ vals.toArray:Array Value)=(Value.func (.yield l) #[] #[] :: vals).toArray:=by simp
   rw [this];simp
  rw [e2]
  cases i with
  | zero=>simp at hev;subst hev;exact .yield
  | succ i =>
    have hev2:ev=EV.p (caps[i]'(by omega)):=by simpa using hev
    rw [hev2]
    have:=hd.2 i (by omega)
    simp only [SV.at] at this
    have e3:caps.getD i (.raw undef)=caps[i]'(by omega):=by simp [List.getD_eq_getElem?_getD,show i<caps.length by omega]
    rw [e3] at this
    simpa using DenE.p this
 ·intro s e h q c v hq
  simp only [st0,List.mem_map] at h
  obtain ⟨⟨ev,i⟩,hm,he⟩:=h
  simp only [Prod.mk.injEq] at he
  obtain ⟨rfl,rfl⟩:=he
  cases hq
theorem iter_ok {f:Nat} {fn:Func} {c:Code} (hf:P.funcs[f]? = some fn) (hb:fn.body=some c) (hm:P.follows .mixedOrders=true) {it:ItSpec}
  (h:∀ (caps:List SV) (l:Nat),it.pre caps -> ∃ caps' C,vc P C c (st0 fn (.yield l :: caps'.map .p)) (retIt P fn (it.cnt caps))/\ExtS caps caps'/\C.yld=some ⟨l,it.cnt caps,it.item caps⟩ /\ (∀ f sp,C.specs f=some sp->SpecOk P f sp/\Enters P f)/\ItersOk P C):ItOk P f it:=by
 intro G hG l w caps vals hpre hlt hd hg hy
 obtain ⟨caps',C,hv,hx,hcy,hsp,hit⟩:=h caps l hpre
 refine callsIn_of_wp_marks hf hb trivial ?_ rfl
 have hG0:Stable { g:=G.g,m0:=G.m0 }:=hG
 have hy0:YieldsOk P { g:=G.g,m0:=G.m0 } C:=hy C hcy
 refine vc_ok hG0 ⟨hsp,hy0,hit⟩ hm c _ _ _ hv (fun e st' a' w' hk hs=>?_) _ _ ?_
 rotate_left
 ·have:=init_satG (P:=P) (G:={ g:=G.g,m0:=G.m0 }) (fn:=fn) (l:=l) (fun nt k h=>h.elim) hg hlt (hx.den hd)
  exact this
 have fin:(if fn.results.toList.isEmpty then (st'.yk=it.cnt caps\/st'.yk=it.cnt caps+1) else False)->LeavesInM Fence.wide 0 P fn a'.tmps (fun e w'=>∃ v X,e=.returned v/\(G.g (it.cnt caps) X w'\/G.g (it.cnt caps+1) X w')) a'.defers .returning w':=fun hk=>by
  split at hk
  rotate_left
  ·exact hk.elim
  rename_i hre
  exact leave_ok hG0 a'.defers a' w' rfl hs (fun a2 w2 _ ⟨_,_,X,S⟩=>by
   have hr:fn.results = #[]:=by apply Array.ext';simpa using hre
   refine ⟨.tuple #[],by rw [results_eq,hr];simp [Sem.run_pure],?_⟩
   refine ⟨_,X,rfl,?_⟩
   have:=S.gam.1
   rcases hk with h | h
   ·rw [h] at this;exact .inl this
   ·rw [h] at this;exact .inr this)
 cases e <;> first | exact fin hk | exact hk.elim
def itOf (s:List SV->Option (Prop × Nat × (Nat->List SV))):ItSpec :=
 { pre:=fun c=>match s c with | some (p,_)=>p | none=>False,cnt:=fun c=>match s c with | some (_,n,_)=>n | none=>0,item:=fun c=>match s c with | some (_,_,g)=>g | none=>fun _=>[] }
theorem iterX {f:Nat} {fn:Func} {c:Code} (hf:P.funcs[f]? = some fn) (hb:fn.body=some c) (hm:P.follows .mixedOrders=true) {s:List SV->Option (Prop × Nat × (Nat->List SV))}
  (h:∀ (caps:List SV) (l:Nat) p n g,s caps=some (p,n,g)->p -> ∃ caps' C,vc P C c (st0 fn (.yield l :: caps'.map .p)) (retIt P fn n)/\ExtS caps caps'/\C.yld=some ⟨l,n,g⟩ /\ (∀ f sp,C.specs f=some sp->SpecOk P f sp/\Enters P f)/\ItersOk P C):ItOk P f (itOf s):=by
 refine iter_ok hf hb hm (fun caps l hp=>?_)
 simp only [itOf] at hp ⊢
 cases hs:s caps with
 | none=>simp [hs] at hp
 | some q =>
   obtain ⟨p,n,g⟩:=q
   simp only [hs] at hp ⊢
   exact h caps l p n g hs hp
end Go.SE
namespace Go.SE
open Go.RowKit
variable {P:Program}
def stTr (fn:Func) (args:List EV) (own:List (Nat × Own)):St:={ T:=args.zipIdx.map fun x=>(x.2,⟨none,x.1⟩),own:=own,yk:=0,stop:=false,nt:=args.length+(fn.ntmps - args.length) }
def trG (env:Env) (own:List (Nat × Own)) (M:Nat->Prop) (W:World):Ctx :=
 { g:=fun _ X w=>Same (lentB env own) W w /\ ∀ b,X b->lentB env own b\/W.heap.size <= b,m0:=M,pin:=fun k=>k ∈ keysO own,pe:=env }
theorem trG_stable (env:Env) (own:List (Nat × Own)) (M:Nat->Prop) (W:World):Stable (trG env own M W):=by
 intro k X w X' w' ⟨h0,hx⟩ hs h1 h2
 refine ⟨⟨hs.os.trans h0.os,hs.tape.trans h0.tape,hs.output.trans h0.output,Nat.le_trans h0.drawn hs.drawn,Nat.le_trans h0.size hs.size,fun b hb hn=>?_⟩,fun b hb=>?_⟩
 ·refine (hs.block b (Nat.lt_of_lt_of_le hb h0.size) (fun hX=>?_)).trans (h0.block b hb hn)
  rcases hx b hX with h | h
  ·exact hn h
  ·omega
 ·rcases h2 b hb with h | h
  ·exact hx b h
  ·exact .inr (Nat.le_trans h0.size h)
theorem init_satTr {fn:Func} {args:List EV} {own:List (Nat × Own)} {vals:List Value} {M:Nat->Prop} {w:World} {env:Env} (hlt:∀ b,M b->b<w.heap.size) (hown:∀ k o,(k,o) ∈ own->OwnOk P M w env k o)
  (hat:∀ k o,(k,o) ∈ own -> ∀ g,env.at_ k=some g->¬ M g/\g<w.heap.size) (hinj:∀ k o k' o',(k,o) ∈ own->(k',o') ∈ own->k ≠ k' -> ∀ g,env.at_ k=some g->env.at_ k' ≠ some g) (hnod:(keysO own).Nodup)
  (hnt:∀ k,k ∈ keysO own->args.length+(fn.ntmps - args.length) <= k) (hl:vals.length=args.length) (hd:∀ i,i<args.length->DenE P M w env (EV.at args i) (vals.getD i undef)) :
  Sat P (trG env own M w) (stTr fn args own) { tmps:=vals.toArray ++ Array.replicate (fn.ntmps - vals.toArray.size) undef,defers:=[] } w:=by
 refine ⟨env,M,lentB env own,⟨⟨⟨rfl,rfl,rfl,Nat.le_refl _,Nat.le_refl _,fun _ _ _=>rfl⟩,fun b h=>.inl h⟩,fun k hk=>⟨hnt k hk,rfl,rfl⟩⟩,fun b h=>.inl h,hown,fun k o h g hg=>⟨⟨k,o,h,hg⟩,hat k o h g hg⟩,hinj,hnod,hlt,fun b ⟨k,o,h,hg⟩=>(hat k o h b hg).2,?_,?_,?_,fun d h=>by simp at h,by simp⟩
 ·simp [stTr,hl]
 ·intro s e h
  simp only [stTr,List.mem_map] at h
  obtain ⟨⟨ev,i⟩,hm,he⟩:=h
  simp only [Prod.mk.injEq] at he
  obtain ⟨rfl,rfl⟩:=he
  obtain ⟨hi,hev⟩:=List.mem_zipIdx hm |> fun h=>(⟨by omega,by simpa using h.2.2⟩:i<args.length/\ev=args[i]'(by omega))
  refine ⟨by simp [stTr];omega,fun _=>?_,fun hn=>absurd trivial hn⟩
  have:=hd i hi
  have e1:EV.at args i=ev:=by rw [hev];simp [EV.at,List.getD_eq_getElem?_getD,hi]
  rw [e1] at this
  have e2:({ tmps:=vals.toArray ++ Array.replicate (fn.ntmps - vals.toArray.size) undef,defers:=[] }:Act).eval (.tmp i)=vals.getD i undef:=by
   simp only [Act.eval,Array.getD_eq_getD_getElem?,List.getD_eq_getElem?_getD]
   rw [Array.getElem?_append_left (by simp;omega)]
   simp
  rw [e2];exact this
 ·intro s e h q c v hq
  simp only [stTr,List.mem_map] at h
  obtain ⟨⟨ev,i⟩,hm,he⟩:=h
  simp only [Prod.mk.injEq] at he
  obtain ⟨rfl,rfl⟩:=he
  cases hq
def fitRes (P:Program) (st:St) (rs:List ResultVar):EV->List Prop
 | .p r=>match resS P st rs with
   | some (ps,s)=>ps ++ fitAll s r
   | none=>[False]
 | .rsub k sz lo n=>match rs with
   | [r]=>match resE P st r with
     | some (ps,.row k')=>if k'=k then (match lookupO st.own k with
       | some (.row _ sz' n' _)=>if sz'=sz then ps ++ [lo=0/\n=n'] else [False]
       | _=>[False]) else [False]
     | some (ps,e)=>ps ++ fitE e (.rsub k sz lo n)
     | none=>[False]
   | _=>[False]
 | _=>[False]
def retTr (P:Program) (fn:Func) (tr:Tr) (t:tr.T):Exit->St->Prop:=fun e st=>match e with
 | .normal | .ret=>∃ u:tr.U,conj (fitRes P st fn.results.toList (tr.res t u) ++ fitO st.own (tr.own' t u)) (tr.post t u)
 | _=>False
def resOk (ks:List Nat):EV->Bool
 | .p s=>noMem s
 | .rsub k _ _ _=>ks.contains k
 | _=>false
theorem fitRes_ok {fn:Func} {M:Nat->Prop} {w:World} {G:Ctx} {st:St} {a:Act} {env:Env} {X:Nat->Prop} (S:SatC P G st a w env M X) {r:EV} (h:all (fitRes P st fn.results.toList r)) {tmps:Array Value} (ht:tmps=a.tmps) {ks:List Nat} (hr:resOk ks r=true) {env':Env} (he:∀ k,k ∈ ks->env'.at_ k=env.at_ k) {M':Nat->Prop} :
  ∃ v,(results fn tmps).run P w=.ok v w/\DenE P M' w env' r v:=by
 cases r with
 | p s =>
   simp only [fitRes] at h
   split at h
   ·rename_i ps s' hrs
    obtain ⟨h1,h2⟩:=all_append h
    obtain ⟨v,hv,hd⟩:=results_den S hrs h1 ht
    exact ⟨v,hv,.p (noMem_ok (fitAll_ok h2 hd) hr)⟩
   ·exact (all_one h).elim
 | rsub k sz lo n =>
   simp only [fitRes] at h
   split at h
   ·rename_i r hres
    split at h
    ·rename_i ps k' hre
     split at h
     ·rename_i hk
      subst hk
      split at h
      ·rename_i e' sz' n' get' hl
       split at h
       ·rename_i hsz
        subst hsz
        obtain ⟨h1,h2⟩:=all_append h
        obtain ⟨rfl,rfl⟩:=all_one h2
        obtain ⟨v,hv,hd⟩:=readRes_ok S hre h1
        subst ht
        refine ⟨v,by rw [results_eq];simp [Array.mapM_eq_mapM_toList,hres,hv],?_⟩
        obtain ⟨hm,hgl,hO⟩:=S.own _ _ (lookupO_mem hl)
        cases hd with
        | row hrv =>
        rcases hO with ⟨_,hrv',hn⟩ | ⟨g,cap,cur,hg,hrv',_,hnc,_,_,_⟩
        ·rw [hrv'] at hrv;subst hn;cases hrv
         exact .rsub none 0 (Nat.le_refl _) hm (fun h=>absurd h (Nat.lt_irrefl _))
        ·rw [hrv'] at hrv;cases hrv
         exact .rsub _ _ hnc hm (fun _=>⟨g,(he k' (by simpa [resOk] using hr)).trans hg,by rw [Nat.zero_mul]⟩)
       ·exact (all_one h).elim
      ·exact (all_one h).elim
     ·exact (all_one h).elim
    ·rename_i ps e _ hre
     obtain ⟨h1,h2⟩:=all_append h
     obtain ⟨v,hv,hd⟩:=readRes_ok S hre h1
     subst ht
     refine ⟨v,by rw [results_eq];simp [Array.mapM_eq_mapM_toList,hres,hv],?_⟩
     have hd:=fitE_ok h2 hd
     cases hd with
     | rsub A cap hc hm hA => exact .rsub A cap hc hm (fun hn => by
      obtain ⟨g,hg,e⟩:=hA hn
      exact ⟨g,(he k (by simpa [resOk] using hr)).trans hg,e⟩)
    ·exact (all_one h).elim
   ·exact (all_one h).elim
 | _=>exact (all_one h).elim
structure TrForm (tr:Tr) (fn:Func) (ks:List Nat) (n:Nat):Prop where
 len:∀ t,(tr.args t).length=n
 k1:∀ t,keysO (tr.own t)=ks
 k2:∀ t u,keysO (tr.own' t u)=ks
 res:∀ t u,resOk ks (tr.res t u)=true
 inn:∀ t u,(tr.own' t u).all (fun x=>x.2.within ks)=true
 chk:(nodupB ks && ks.all fun k=>decide (n+(fn.ntmps - n) <= k))=true
theorem tr_ok {f:Nat} {fn:Func} {c:Code} (hf:P.funcs[f]? = some fn) (hb:fn.body=some c) (hm:P.follows .mixedOrders=true) {tr:Tr} {ks:List Nat} {n:Nat} (F:TrForm tr fn ks n)
  (h:∀ t,tr.pre t -> ∃ C,vc P C c (stTr fn (tr.args t) (tr.own t)) (retTr P fn tr t)/\SpecsOk0 P C):TrOk P f tr:=by
 obtain ⟨hnod,hnt⟩:=Bool.and_eq_true_iff.1 F.chk
 have hnod:=nodupB_ok hnod
 refine ⟨fun t u=>(F.k2 t u).trans (F.k1 t).symm,fun t hpre M w env vals hlt hown hat hinj hl hd=>?_⟩
 obtain ⟨C,hv,hC⟩:=h t hpre
 have hG:=trG_stable env (tr.own t) M w
 refine callsIn_of_wp_marks hf hb trivial ?_ rfl
 refine vc_ok hG (hC.any _) hm c _ _ _ hv (fun e st' a' w' hk hs=>?_) _ _ (init_satTr hlt hown hat hinj (by rw [F.k1];exact hnod) (fun k hk=>by
  rw [F.k1] at hk
  have:=List.all_eq_true.1 hnt k hk
  rw [F.len];simpa using this) hl hd)
 have key : (∃ u : tr.U, conj (fitRes P st' fn.results.toList (tr.res t u) ++ fitO st'.own (tr.own' t u)) (tr.post t u)) ->
   LeavesInM Fence.wide 0 P fn a'.tmps (TrEnd P tr t M w env) a'.defers .returning w':=fun hz=>by
  obtain ⟨u,hz⟩:=hz
  obtain ⟨h12,hpost⟩:=conj_spec hz
  obtain ⟨h12,hO⟩:=all_append h12
  exact leave_ok hG a'.defers a' w' rfl hs (fun a2 w2 ha ⟨env2,M2,X2,S⟩=>by
   obtain ⟨⟨hsame,hx⟩,hpin⟩:=S.gam
   have hO':=fitO_ok S hO
   have pin:∀ k,k ∈ ks->env.at_ k=env2.at_ k/\env.rv k=env2.rv k:=fun k hk=>by
    obtain ⟨_,e1,e2⟩:=hpin k (by show k ∈ keysO (tr.own t);rw [F.k1];exact hk)
    exact ⟨e1.symm,e2.symm⟩
   obtain ⟨v,hv,hden⟩:=fitRes_ok S h12 (tmps:=a'.tmps) ha.symm (F.res t u) (env':=env) (fun k hk=>(pin k hk).1) (M':=fun b=>M b\/M2 b)
   have hMl:∀ b,(M b\/M2 b)->b<w2.heap.size:=fun b hb=>by
    rcases hb with hb | hb
    ·exact Nat.lt_of_lt_of_le (hlt b hb) hsame.size
    ·exact S.mlt b hb
   have hlat:Later M2 (fun b=>M b\/M2 b) w2 w2:=⟨Nat.le_refl _,fun _ _=>rfl,fun _ h=>.inr h⟩
   have hown2:∀ k o,(k,o) ∈ tr.own' t u->OwnOk P (fun b=>M b\/M2 b) w2 env k o:=fun k o hk=>by
    have hkk:k ∈ ks:=by rw [<- F.k2 t u];exact List.mem_map.2 ⟨_,hk,rfl⟩
    have hin:=List.all_eq_true.1 (F.inn t u) _ hk
    obtain ⟨p1,p2⟩:=pin k hkk
    exact (hO' k o hk).2.move hlat p1 p2 (fun _ _=>rfl) (fun j hj=>pin j (own_names hin j hj))
   refine ⟨v,hv,u,v,fun b=>M b\/M2 b,hpost,rfl,hsame,fun b hb=>.inl hb,fun b hb=>?_,hMl,hown2,hden⟩
   rcases hb with hb | hb
   ·exact .inl hb
   ·rcases S.mx b hb with h | h
    ·exact .inl h
    ·rcases hx b h with ⟨k,o,hk,hg⟩ | h
     ·exfalso
      have hkk:k ∈ ks:=by rw [<- F.k1 t];exact List.mem_map.2 ⟨_,hk,rfl⟩
      have hkk':k ∈ keysO (tr.own' t u):=by rw [F.k2];exact hkk
      obtain ⟨⟨k2,o2⟩,hm2,e2⟩:=List.mem_map.1 hkk'
      simp only at e2
      subst e2
      obtain ⟨o3,h3⟩:=(hO' k2 o2 hm2).1
      exact (S.oat k2 o3 h3 b ((pin k2 hkk).1 ▸ hg)).2.1 hb
     ·exact .inr h)
 cases e <;> first | exact key hk | exact hk.elim
def Tr.lt (tr:Tr) (mu:tr.T->Nat) (n:Nat):Tr:={ tr with pre:=fun t=>tr.pre t/\mu t<n }
def lookT:List (Nat × Tr)->Nat->Option Tr
 | [],_=>none
 | (f,s) :: l,g=>if f == g then some s else lookT l g
def TrsL (P:Program) (L:List (Nat × Tr)):Prop:=∀ f tr,lookT L f=some tr->TrOk P f tr/\Enters P f
theorem TrsL.nil:TrsL P []:=fun f sp h=>by simp [lookT] at h
theorem TrsL.cons {f:Nat} {s:Tr} {L:List (Nat × Tr)} (h:TrOk P f s) (he:Enters P f) (k:TrsL P L):TrsL P ((f,s) :: L):=fun g sp h'=>by
 simp only [lookT] at h'
 split at h'
 ·rename_i hfg;simp at hfg;subst hfg;cases h';exact ⟨h,he⟩
 ·exact k g sp h'
theorem FamsOk.none {C:Cfg} (h:∀ g,C.fams g=Option.none):∀ g c,C.fams g=some c->FamCOk P g c/\Enters P g:=fun g mk hg=>by rw [h g] at hg;cases hg
theorem MksOk.no1 {C:Cfg} (h:∀ g,C.mks g=Option.none):∀ g mk,C.mks g=some mk->MkOk P g mk/\Enters P g:=fun g mk hg=>by rw [h g] at hg;cases hg
theorem MksOk.none {C:Cfg} (h:∀ g,C.mks g=Option.none) (h2:∀ g,C.fams g=Option.none:=by intro _;rfl):MksOk P C:=⟨MksOk.no1 h,FamsOk.none h2⟩
theorem TrsOk.no1 {C:Cfg} (h:∀ g,C.trs g=Option.none):∀ g tr,C.trs g=some tr->TrOk P g tr/\Enters P g:=fun g tr hg=>by rw [h g] at hg;cases hg
theorem TrsOk.none {C:Cfg} (h:∀ g,C.trs g=Option.none) (h2:∀ g,C.mks g=Option.none:=by intro _;rfl) (h3:∀ g,C.fams g=Option.none:=by intro _;rfl):TrsOk P C:=⟨fun g tr hg=>(by rw [h g] at hg;cases hg),MksOk.none h2 h3⟩
def resPs (P:Program) (st:St):List ResultVar->Option (List Prop × List SV)
 | []=>some ([],[])
 | r :: l=>match resE P st r,resPs P st l with
   | some (ps,.p s),some (qs,ss)=>some (ps ++ qs,s :: ss)
   | _,_=>none
def fitMk (P:Program) (st:St) (rs:List ResultVar) (e:EV):List Prop:=match rs with
 | [r]=>match resE P st r with
   | some (ps,e')=>ps ++ fitE e' e
   | none=>[False]
 | rs=>match e with
   | .p s=>if noMem s then (match resS P st rs with
     | some (ps,s')=>ps ++ fitAll s' s
     | none=>[False]) else (match resPs P st rs with
     | some (ps,ss)=>ps ++ fitAll (.tup ss) s
     | none=>[False])
   | _=>[False]
def retMk (P:Program) (fn:Func) (mk:Mk) (t:mk.T):Exit->St->Prop:=fun e st=>match e with
 | .normal | .ret=>∃ u:mk.U,conj (fitMk P st fn.results.toList ((mk.res t u).ren (mvf mk.mv)) ++ (fitO st.own (renO (mvf mk.mv) (mk.lent' t u)) ++ fitO st.own (renO (mvf mk.mv) (mk.own t u)))) (mk.post t u)
 | _=>False
structure MkForm (mk:Mk) (fn:Func) (n:Nat):Prop where
 len:∀ t,(mk.args t).length=n
 k1:∀ t,keysO (mk.lent t)=mk.lkeys
 k2:∀ t u,keysO (mk.lent' t u)=mk.lkeys
 k3:∀ t u,keysO (mk.own t u)=mk.keys
 inl:∀ t u,(mk.lent' t u).all (fun x=>x.2.within mk.lkeys)=true
 inn:∀ t u,(mk.own t u).all (fun x=>x.2.within (mk.lkeys ++ mk.keys))=true/\(mk.res t u).within (mk.lkeys ++ mk.keys)=true
 chk:(nodupB (mk.lkeys ++ mk.keys) && mk.lkeys.all fun k=>decide (n+(fn.ntmps - n) <= k))=true
 mvc:(match mk.mv with | some (k,s)=>mk.keys.isEmpty && (mk.lkeys.contains k && decide (s<n+(fn.ntmps - n))) | none=>true)=true:=by rfl
theorem resPs_ok {M:Nat->Prop} {w:World} {G:Ctx} {st:St} {a:Act} {env:Env} {X:Nat->Prop} (S:SatC P G st a w env M X):∀ {l:List ResultVar} {ps:List Prop} {ss:List SV},resPs P st l=some (ps,ss)->all ps ->
  ∃ vs:List Value,(l.mapM (readRes a.tmps)).run P w=.ok vs w/\vs.length=l.length/\vs.length=ss.length /\ ∀ i,i<ss.length->DenP M w (SV.at ss i) (vs.getD i undef)
 | [],ps,ss,h,_=>by
   cases h
   exact ⟨[],by simp,rfl,rfl,fun i hi=>absurd hi (Nat.not_lt_zero _)⟩
 | r :: l,ps,ss,h,hp=>by
   unfold resPs at h
   split at h
   ·rename_i ps1 s1 qs ss1 h1 h2
    cases h
    obtain ⟨q1,q2⟩:=all_append hp
    obtain ⟨v,hv,hd⟩:=readRes_ok S h1 q1
    obtain ⟨vs,r1,r2,r3,r4⟩:=resPs_ok S h2 q2
    refine ⟨v :: vs,by simp [hv,r1],by simp [r2],by simp [r3],fun i hi=>?_⟩
    cases i with
    | zero=>cases hd with | p hd=>simpa [SV.at] using hd
    | succ i=>simpa [SV.at] using r4 i (by simpa using hi)
   ·cases h
theorem fitMk_ok {fn:Func} {M:Nat->Prop} {w:World} {G:Ctx} {st:St} {a:Act} {env:Env} {X:Nat->Prop} (S:SatC P G st a w env M X) {r:EV} (h:all (fitMk P st fn.results.toList r)) {tmps:Array Value} (ht:tmps=a.tmps) :
  ∃ v,(results fn tmps).run P w=.ok v w/\DenE P M w env r v:=by
 unfold fitMk at h
 split at h
 ·rename_i r0 hres
  split at h
  ·rename_i ps e hre
   obtain ⟨h1,h2⟩:=all_append h
   obtain ⟨v,hv,hd⟩:=readRes_ok S hre h1
   subst ht
   exact ⟨v,by rw [results_eq];simp [Array.mapM_eq_mapM_toList,hres,hv],fitE_ok h2 hd⟩
  ·exact (all_one h).elim
 ·rename_i hne
  split at h
  ·split at h
   ·rename_i hn
    split at h
    ·rename_i hrs
     obtain ⟨h1,h2⟩:=all_append h
     obtain ⟨v,hv,hd⟩:=results_den S hrs h1 ht
     exact ⟨v,hv,.p (noMem_ok (fitAll_ok h2 hd) hn)⟩
    ·exact (all_one h).elim
   ·split at h
    ·rename_i hrs
     obtain ⟨h1,h2⟩:=all_append h
     subst ht
     obtain ⟨vs,r1,r2,r3,r4⟩:=resPs_ok S hrs h1
     refine ⟨.tuple vs.toArray,?_,.p (fitAll_ok h2 (.tup _ vs r3 r4))⟩
     have hno:¬ vs.length=1:=fun hc=>by
      rw [hc] at r2
      match hq:fn.results.toList,r2 with
      | [r0],_=>exact hne r0 hq
     rw [results_eq]
     simp [Array.mapM_eq_mapM_toList,r1,hno]
    ·exact (all_one h).elim
  ·exact (all_one h).elim
theorem mk_ok {f:Nat} {fn:Func} {c:Code} (hf:P.funcs[f]? = some fn) (hb:fn.body=some c) (hm:P.follows .mixedOrders=true) {mk:Mk} {n:Nat} (F:MkForm mk fn n)
  (h:∀ t,mk.pre t -> ∃ C,vc P C c (stTr fn (mk.args t) (mk.lent t)) (retMk P fn mk t)/\SpecsOk0 P C):MkOk P f mk:=by
 obtain ⟨hnod,hnt⟩:=Bool.and_eq_true_iff.1 F.chk
 obtain ⟨hnodl,_,hdis⟩:=List.nodup_append.1 (nodupB_ok hnod)
 have mvI:(mk.mv=none\/mk.keys = [])/\(∀ k,k ∈ mvk mk.mv->k ∈ mk.lkeys)/\(∀ k,k ∉ mvk mk.mv->mvf mk.mv k=k) /\ ∀ k,k ∈ mvk mk.mv -> ∀ q,q ∈ mk.lkeys->mvf mk.mv k ≠ q:=by
  have h1:=F.mvc
  cases hmv:mk.mv with
  | none=>exact ⟨.inl rfl,fun k h=>(by cases h),fun _ _=>rfl,fun k h=>(by cases h)⟩
  | some x =>
    obtain ⟨k0,s0⟩:=x
    rw [hmv] at h1
    simp only [Bool.and_eq_true,List.isEmpty_iff,List.contains_iff_mem,decide_eq_true_eq] at h1
    refine ⟨.inr h1.1,fun k h=>?_,fun k h=>?_,fun k h q hq=>?_⟩
    ·simp only [mvk,List.mem_singleton] at h
     rw [h];exact h1.2.1
    ·simp only [mvk,List.mem_singleton] at h
     simp only [mvf];exact if_neg h
    ·simp only [mvk,List.mem_singleton] at h
     have:=List.all_eq_true.1 hnt q hq
     simp only [decide_eq_true_eq] at this
     simp only [mvf,if_pos h]
     omega
 obtain ⟨mv1,mv2,mv3,mv4⟩:=mvI
 refine ⟨⟨F.k1,F.k2,F.k3,fun t u=>⟨F.inl t u,F.inn t u⟩,mv1,mv2⟩,fun t hpre M w env vals hlt hown hat hinj hl hd=>?_⟩
 obtain ⟨C,hv,hC⟩:=h t hpre
 have hG:=trG_stable env (mk.lent t) M w
 refine callsIn_of_wp_marks hf hb trivial ?_ rfl
 refine vc_ok hG (hC.any _) hm c _ _ _ hv (fun e st' a' w' hk hs=>?_) _ _ (init_satTr hlt hown hat hinj (by rw [F.k1];exact hnodl) (fun k hk=>by
  rw [F.k1] at hk
  have:=List.all_eq_true.1 hnt k hk
  rw [F.len];simpa using this) hl hd)
 have key:(∃ u:mk.U,conj (fitMk P st' fn.results.toList ((mk.res t u).ren (mvf mk.mv)) ++ (fitO st'.own (renO (mvf mk.mv) (mk.lent' t u)) ++ fitO st'.own (renO (mvf mk.mv) (mk.own t u)))) (mk.post t u))->LeavesInM Fence.wide 0 P fn a'.tmps (MkEnd P mk t M w env) a'.defers .returning w':=fun hz=>by
  obtain ⟨u,hz⟩:=hz
  obtain ⟨h12,hpost⟩:=conj_spec hz
  obtain ⟨h12,hOO⟩:=all_append h12
  obtain ⟨hOl,hO⟩:=all_append hOO
  exact leave_ok hG a'.defers a' w' rfl hs (fun a2 w2 ha ⟨env2,M2,X2,S⟩=>by
   obtain ⟨⟨hsame,hx⟩,hpin⟩:=S.gam
   have hOl':=fitO_ok S hOl
   have hO':=fitO_ok S hO
   obtain ⟨v,hv,hden⟩:=fitMk_ok S h12 (tmps:=a'.tmps) ha.symm
   have hlat:Later M2 (fun b=>M b\/M2 b) w2 w2:=⟨Nat.le_refl _,fun _ _=>rfl,fun _ h=>.inr h⟩
   have pin:∀ k,k ∈ mk.lkeys->env2.at_ k=env.at_ k/\env2.rv k=env.rv k:=fun k hk=>by
    obtain ⟨_,e1,e2⟩:=hpin k (by show k ∈ keysO (mk.lent t);rw [F.k1];exact hk)
    exact ⟨e1,e2⟩
   have keyL:∀ k,k ∈ mk.lkeys -> ∃ o,(mvf mk.mv k,o) ∈ st'.own:=fun k hk=>by
    rw [<- F.k2 t u] at hk
    obtain ⟨⟨k2,o2⟩,hm2,e2⟩:=List.mem_map.1 hk
    cases e2
    exact (hOl' _ _ (renO_mem hm2)).1
   have keyN:∀ k,k ∈ mk.keys->k ∉ mvk mk.mv:=fun k hk hm=>hdis k (mv2 k hm) k hk rfl
   have keyO:∀ k,k ∈ mk.keys -> ∃ o,(k,o) ∈ st'.own:=fun k hk=>by
    have hk2:=hk
    rw [<- F.k3 t u] at hk2
    obtain ⟨⟨k2,o2⟩,hm2,e2⟩:=List.mem_map.1 hk2
    have e2:k2=k:=e2
    subst e2
    have:=(hO' _ _ (renO_mem hm2)).1
    rwa [mv3 _ (keyN _ hk)] at this
   -- a lent block that the state still holds under its name,or that of the row that may have moved
   have notL:∀ b,lentB env (mk.lent t) b->(∃ k o,(k,o) ∈ st'.own/\k ∈ mk.lkeys/\env2.at_ k=some b) \/ ∃ k,k ∈ mvk mk.mv/\env.at_ k=some b:=fun b ⟨k,o,h1,h2⟩=>by
    have hkk:k ∈ mk.lkeys:=by rw [<- F.k1 t];exact List.mem_map.2 ⟨_,h1,rfl⟩
    by_cases hm:k ∈ mvk mk.mv
    ·exact .inr ⟨k,hm,h2⟩
    ·obtain ⟨o',ho'⟩:=keyL k hkk
     rw [mv3 k hm] at ho'
     exact .inl ⟨k,o',ho',hkk,(pin k hkk).1.trans h2⟩
   refine ⟨v,hv,u,v,env2.via (mvf mk.mv),fun b=>M b\/M2 b,hpost,rfl,hsame,fun b hb=>.inl hb,fun b hb=>?_,fun b hb=>?_,fun k hk hm=>?_,fun k hk g hg=>?_,fun k hk g hg=>?_,fun k1 k2 h1 h2 hne g hg=>?_,fun k o hk=>?_,fun k o hk=>?_,(den_ren _ _ hden).later hlat⟩
   ·rcases hb with hb | hb
    ·exact .inl hb
    ·rcases S.mx b hb with h | h
     ·exact .inl h
     ·rcases hx b h with h | h
      ·rcases notL b h with ⟨k,o,h3,_,h4⟩ | ⟨k,h3,h4⟩
       ·exact absurd hb (S.oat k o h3 b h4).2.1
       ·refine .inr (.inr ⟨k,h3,h4,fun e=>?_⟩)
        obtain ⟨o,ho⟩:=keyL k (mv2 k h3)
        exact (S.oat _ o ho b e).2.1 hb
      ·refine .inr (.inl ⟨h,fun k hk e=>?_⟩)
       rcases List.mem_append.1 hk with hk | hk
       ·obtain ⟨o,ho⟩:=keyO k hk
        have e:env2.at_ (mvf mk.mv k)=some b:=e
        rw [mv3 k (keyN k hk)] at e
        exact (S.oat k o ho b e).2.1 hb
       ·obtain ⟨o,ho⟩:=keyL k (mv2 k hk)
        exact (S.oat _ o ho b e).2.1 hb
   ·rcases hb with hb | hb
    ·exact Nat.lt_of_lt_of_le (hlt b hb) hsame.size
    ·exact S.mlt b hb
   ·show env2.at_ (mvf mk.mv k)=_/\env2.rv (mvf mk.mv k)=_
    rw [mv3 k hm];exact pin k hk
   ·obtain ⟨o,ho⟩:=keyO k hk
    have hg:env2.at_ (mvf mk.mv k)=some g:=hg
    rw [mv3 k (keyN k hk)] at hg
    obtain ⟨q1,_,q3⟩:=S.oat k o ho g hg
    refine ⟨?_,q3⟩
    rcases hx g q1 with h | h
    ·rcases notL g h with ⟨k2,o2,h3,h4,h5⟩ | ⟨k2,h3,h4⟩
     ·exact absurd h5 (S.inj k o k2 o2 ho h3 (fun e=>hdis k2 h4 k hk e.symm) g hg)
     ·rcases mv1 with h6 | h6
      ·rw [h6] at h3;cases h3
      ·rw [h6] at hk;cases hk
    ·exact h
   ·obtain ⟨o,ho⟩:=keyL k (mv2 k hk)
    have hg:env2.at_ (mvf mk.mv k)=some g:=hg
    obtain ⟨q1,_,q3⟩:=S.oat _ o ho g hg
    rcases hx g q1 with h | h
    ·rcases notL g h with ⟨k2,o2,h3,h4,h5⟩ | ⟨k2,h3,h4⟩
     ·exact absurd h5 (S.inj _ o k2 o2 ho h3 (mv4 k hk k2 h4) g hg)
     ·rw [mvk_one hk h3];exact .inl h4
    ·exact .inr ⟨h,q3⟩
   ·obtain ⟨o1,ho1⟩:=keyO k1 h1
    obtain ⟨o2,ho2⟩:=keyO k2 h2
    have hg:env2.at_ (mvf mk.mv k1)=some g:=hg
    show env2.at_ (mvf mk.mv k2) ≠ some g
    rw [mv3 k1 (keyN k1 h1)] at hg
    rw [mv3 k2 (keyN k2 h2)]
    exact S.inj k1 o1 k2 o2 ho1 ho2 hne g hg
   ·exact (own_ren (hOl' _ _ (renO_mem hk)).2).move hlat rfl rfl (fun _ _=>rfl) (fun _ _=>⟨rfl,rfl⟩)
   ·exact (own_ren (hO' _ _ (renO_mem hk)).2).move hlat rfl rfl (fun _ _=>rfl) (fun _ _=>⟨rfl,rfl⟩))
 cases e <;> first | exact key hk | exact hk.elim
def Mk.lt (mk:Mk) (mu:mk.T->Nat) (n:Nat):Mk:={ mk with pre:=fun t=>mk.pre t/\mu t<n }
theorem mk_rec {f:Nat} {mk:Mk} (mu:mk.T->Nat) (hk:(∀ t,keysO (mk.lent t)=mk.lkeys)/\(∀ t u,keysO (mk.lent' t u)=mk.lkeys)/\(∀ t u,keysO (mk.own t u)=mk.keys) /\
  (∀ t u,(mk.lent' t u).all (fun x=>x.2.within mk.lkeys)=true/\(mk.own t u).all (fun x=>x.2.within (mk.lkeys ++ mk.keys))=true/\(mk.res t u).within (mk.lkeys ++ mk.keys)=true)/\(mk.mv=none\/mk.keys = []) /\ ∀ k,k ∈ mvk mk.mv->k ∈ mk.lkeys) (h:∀ n,MkOk P f (mk.lt mu n)->MkOk P f (mk.lt mu (n+1))):MkOk P f mk:=by
 have all:∀ n,MkOk P f (mk.lt mu n):=fun n=>by
  induction n with
  | zero=>exact ⟨hk,fun t hp=>absurd hp.2 (Nat.not_lt_zero _)⟩
  | succ n ih=>exact h n ih
 exact ⟨hk,fun t hp=>(all (mu t+1)).2 t ⟨hp,Nat.lt_succ_self _⟩⟩
def lookK:List (Nat × Mk)->Nat->Option Mk
 | [],_=>none
 | (f,s) :: l,g=>if f == g then some s else lookK l g
def lookF:List (Nat × FamC)->Nat->Option FamC
 | [],_=>none
 | (f,s) :: l,g=>if f == g then some s else lookF l g
def lookP:List (Nat × FamN)->Nat->Option FamN
 | [],_=>none
 | (f,s) :: l,g=>if f == g then some s else lookP l g
def FamsL (P:Program) (L:List (Nat × FamC)):Prop:=∀ f c,lookF L f=some c->FamCOk P f c/\Enters P f
theorem FamsL.nil:FamsL P []:=fun f sp h=>by simp [lookF] at h
theorem FamsL.cons {f:Nat} {s:FamC} {L:List (Nat × FamC)} (h:FamCOk P f s) (he:Enters P f) (k:FamsL P L):FamsL P ((f,s) :: L):=fun g sp h'=>by
 simp only [lookF] at h'
 split at h'
 ·rename_i hfg;simp at hfg;subst hfg;cases h';exact ⟨h,he⟩
 ·exact k g sp h'
def MksL (P:Program) (L:List (Nat × Mk)):Prop:=∀ f mk,lookK L f=some mk->MkOk P f mk/\Enters P f
theorem MksL.nil:MksL P []:=fun f sp h=>by simp [lookK] at h
theorem MksL.cons {f:Nat} {s:Mk} {L:List (Nat × Mk)} (h:MkOk P f s) (he:Enters P f) (k:MksL P L):MksL P ((f,s) :: L):=fun g sp h'=>by
 simp only [lookK] at h'
 split at h'
 ·rename_i hfg;simp at hfg;subst hfg;cases h';exact ⟨h,he⟩
 ·exact k g sp h'
end Go.SE
namespace Go.SE
open Go.RowKit Go.ChangeShapes Go.WideShapes
inductive Sh where
 | int
 | bool
 | st (l:List Sh)
 | sl (e:Sh)
def Sh.size:Sh->Nat
 | .int=>1
 | .bool=>1
 | .sl _=>1
 | .st l=>sizes l
where sizes:List Sh->Nat
 | []=>0
 | s :: l=>s.size+sizes l
def Fit:Sh->List SV->Prop
 | .int,l=>∃ n,l = [.int .i64 n]/\InK .i64 n
 | .bool,l=>∃ b,l = [.bool b]
 | .sl e,l=>∃ n g,l = [.sl e.size n g]/\n <= maxLen /\ ∀ i,i<n->Fit e (g i)
 | .st ss,l=>fits ss l
where fits:List Sh->List SV->Prop
 | [],l=>l = []
 | s :: ss,l=>∃ a b,l=a ++ b/\Fit s a/\fits ss b
def ShOk (P:Program):Sh->TypeId->Bool
 | .int,t=>match P.underlying t with | some (.int .i64)=>true | _=>false
 | .bool,t=>match P.underlying t with | some .bool=>true | _=>false
 | .sl e,t=>match P.underlying t with | some (.slice et)=>P.cellsOf et == e.size && decide (0<e.size) && ShOk P e et | _=>false
 | .st ss,t=>match P.underlying t with | some (.struct fs)=>P.cellsOf t == Sh.size.sizes ss && fields P ss fs.toList 0 | _=>false
where fields (P:Program):List Sh->List Field->Nat->Bool
 | [],[],_=>true
 | s :: ss,f :: fs,off=>f.offset == off && P.cellsOf f.type == s.size && ShOk P s f.type && fields P ss fs (off+s.size)
 | _,_,_=>false
variable {H:Type} {enc:TypeId × Value->H} {P:Program} {w:World} {base:Nat} {spare:Nat->Bool} {held:Bool}
def Reads (w:World) (sh:Sh) (cs:List Value):Prop:=∃ ss,Fit sh ss/\ss.length=sh.size/\DenL (fun b=>b<w.heap.size) w ss cs /\ ∀ v,v ∈ cs->v.oneCell'=true
theorem denL_app {M:Nat->Prop} {xs0 bs:List SV} {us vs:List Value} (h1:DenL M w xs0 us) (h2:DenL M w bs vs):DenL M w (xs0 ++ bs) (us ++ vs):=by
 refine ⟨by simp [h1.1,h2.1],fun i hi=>?_⟩
 simp only [SV.at,List.getD_eq_getElem?_getD]
 by_cases hlt:i<xs0.length
 ·rw [List.getElem?_append_left hlt,List.getElem?_append_left (by have:=h1.1;omega)]
  have:=h1.2 i hlt
  simpa [SV.at,List.getD_eq_getElem?_getD] using this
 ·have e:=h1.1
  rw [List.getElem?_append_right (by omega),List.getElem?_append_right (by omega),e]
  have:=h2.2 (i - xs0.length) (by simp at hi;omega)
  simpa [SV.at,List.getD_eq_getElem?_getD] using this
theorem block_lt' {a:Addr} {v:Value} (h:w.cell? a=some v):a.block<w.heap.size:=by
 rcases Nat.lt_or_ge a.block w.heap.size with h' | h'
 ·exact h'
 ·simp [World.cell?,Array.getElem?_eq_none h'] at h
theorem int_wf {n:Int} (h:(Lit.int .i64 n).wf=true):InK .i64 n:=by
 simp [Lit.wf] at h
 have e1:IntKind.i64.min = -9223372036854775808:=rfl
 have e2:IntKind.i64.max=9223372036854775807:=rfl
 exact ⟨by omega,by omega⟩
mutual
theorem reads_of_trod:∀ (sh:Sh) {t:TypeId} {fuel:Nat} {cs:List Value} {x:DataW H × List MemPlace},ShOk P sh t=true->DataW.trod enc P w base spare held fuel t cs=some x->Reads w sh cs
 | .int,t,fuel,cs,x,hs,h=>by
   unfold ShOk at hs
   split at hs
   ·rename_i ht
    obtain ⟨n,rfl,_,hw⟩:=DataW.trod_int ht h
    exact ⟨[.int .i64 n],⟨n,rfl,int_wf hw⟩,rfl,⟨rfl,fun i hi=>by
     obtain rfl:i=0:=by simpa using hi
     exact .int _ _⟩,fun v hv=>by simp at hv;subst hv;rfl⟩
   ·cases hs
 | .bool,t,fuel,cs,x,hs,h=>by
   unfold ShOk at hs
   split at hs
   ·rename_i ht
    obtain ⟨b,rfl,_⟩:=DataW.trod_bool ht h
    exact ⟨[.bool b],⟨b,rfl⟩,rfl,⟨rfl,fun i hi=>by
     obtain rfl:i=0:=by simpa using hi
     exact .bool _⟩,fun v hv=>by simp at hv;subst hv;rfl⟩
   ·cases hs
 | .sl e,t,fuel,cs,x,hs,h=>by
   unfold ShOk at hs
   split at hs
   rotate_left
   ·cases hs
   rename_i et ht
   simp only [Bool.and_eq_true,beq_iff_eq,decide_eq_true_eq] at hs
   obtain ⟨⟨hc,hpos⟩,hs⟩:=hs
   rcases DataW.trod_slice ht h with ⟨rfl,_⟩ | ⟨a,len,cap,elems,rest,n,_,rfl,_,hb,hl,hm,hlen,hel,_,_⟩
   ·refine ⟨[.sl e.size 0 (fun _=>[])],⟨0,_,rfl,Nat.zero_le _,fun i hi=>absurd hi (Nat.not_lt_zero _)⟩,rfl,⟨rfl,fun i hi=>?_⟩,fun v hv=>by simp at hv;subst hv;rfl⟩
    obtain rfl:i=0:=by simpa using hi
    exact .sl _ _ _ _ _ (fun _ _=>undef) (Nat.le_refl _) (Nat.zero_le _) (fun h=>absurd h (Nat.lt_irrefl _)) (fun i hi=>absurd hi (Nat.not_lt_zero _)) (fun i hi=>absurd hi (Nat.not_lt_zero _)) (fun i hi=>absurd hi (Nat.not_lt_zero _))
   ·have each : ∀ i, i < len -> ∃ ci, w.cells? base (a.add (i * e.size)) e.size = some ci /\ Reads w e ci := fun i hi => by
     have h1:=hel i hi
     rw [List.getElem?_eq_getElem (by omega),hc,Option.bind_eq_some_iff] at h1
     obtain ⟨ci,h2,h3⟩:=h1
     exact ⟨ci,h2,reads_of_trod e hs h3⟩
    let ci:Nat->List Value:=fun i=>if h:i<len then Classical.choose (each i h) else []
    have hci:∀ i,i<len->w.cells? base (a.add (i * e.size)) e.size=some (ci i)/\Reads w e (ci i):=fun i hi=>by
     simp only [ci,hi,dif_pos];exact Classical.choose_spec (each i hi)
    let si:Nat->List SV:=fun i=>if h:i<len then Classical.choose (hci i h).2 else []
    have hsi:∀ i,i<len->Fit e (si i)/\(si i).length=e.size/\DenL (fun b=>b<w.heap.size) w (si i) (ci i) /\ ∀ v,v ∈ ci i->v.oneCell'=true:=fun i hi=>by
     simp only [si,hi,dif_pos];exact Classical.choose_spec (hci i hi).2
    refine ⟨[.sl e.size len si],⟨len,si,rfl,by omega,fun i hi=>(hsi i hi).1⟩,rfl,⟨rfl,fun i hi=>?_⟩,fun v hv=>by simp at hv;subst hv;rfl⟩
    obtain rfl:i=0:=by simpa using hi
    refine .sl _ _ _ _ _ (fun i j=>(ci i).getD j undef) hl (by omega) (fun hn=>⟨a,rfl,?_,fun i hi j hj=>?_⟩) (fun i hi=>(hsi i hi).2.1) (fun i hi j hj=>?_) (fun i hi j hj=>?_)
    ·obtain ⟨_,h2,h3⟩:=World.cells?_some (hci 0 hn).1
     have h4:=h3 0 hpos
     rw [List.getElem?_eq_getElem (by omega)] at h4
     have:=block_lt' h4
     rw [block_add,block_add] at this;exact this
    ·obtain ⟨_,h2,h3⟩:=World.cells?_some (hci i hi).1
     have h4:=h3 j hj
     rw [add_add] at h4
     rw [h4,List.getD_eq_getElem?_getD,List.getElem?_eq_getElem (by omega)];rfl
    ·obtain ⟨_,h2,_⟩:=World.cells?_some (hci i hi).1
     rw [List.getD_eq_getElem?_getD,List.getElem?_eq_getElem (by omega)]
     exact (hsi i hi).2.2.2 _ (List.getElem_mem _)
    ·exact (hsi i hi).2.2.1.2 j (by rw [(hsi i hi).2.1];exact hj)
 | .st ss,t,fuel,cs,x,hs,h=>by
   unfold ShOk at hs
   split at hs
   rotate_left
   ·cases hs
   rename_i fs ht
   simp only [Bool.and_eq_true,beq_iff_eq] at hs
   obtain ⟨hc,hs⟩:=hs
   obtain ⟨xs,n,_,_,hlen,hxl,hf⟩:=DataW.trod_struct ht h
   have:=reads_of_fields ss hs (cs:=cs) (by rw [hlen,hc,Nat.zero_add]) (fun i f hi=>by
    have h1:=hf i f (by simpa using hi)
    have hlt:i<fs.size:=by
     have:=(List.getElem?_eq_some_iff.1 hi).1
     simpa using this
    rw [List.getElem?_eq_getElem (by omega)] at h1
    exact ⟨n,_,h1⟩)
   obtain ⟨l,h1,h2,h3,h4⟩:=this
   exact ⟨l,by unfold Fit;exact h1,by unfold Sh.size;exact h2,by simpa using h3,by simpa using h4⟩
theorem reads_of_fields:∀ (ss:List Sh) {fs:List Field} {off:Nat} {cs:List Value},ShOk.fields P ss fs off=true->cs.length=off+Sh.size.sizes ss ->
  (∀ (i:Nat) (f:Field),fs[i]? = some f -> ∃ n x,DataW.trod enc P w base spare held n f.type ((cs.drop f.offset).take (P.cellsOf f.type))=some x) ->
  ∃ l,Fit.fits ss l/\l.length=Sh.size.sizes ss/\DenL (fun b=>b<w.heap.size) w l (cs.drop off) /\ ∀ v,v ∈ cs.drop off->v.oneCell'=true
 | [],fs,off,cs,hs,hl,hf=>by
   cases fs with
   | cons f fs=>simp [ShOk.fields] at hs
   | nil =>
     have e:cs.drop off = []:=List.drop_eq_nil_of_le (by simp [Sh.size.sizes] at hl;omega)
     exact ⟨[],by simp [Fit.fits],rfl,by rw [e];exact ⟨rfl,fun i hi=>by simp at hi⟩,by rw [e];intro v hv;cases hv⟩
 | s :: ss,fs,off,cs,hs,hl,hf=>by
   cases fs with
   | nil=>simp [ShOk.fields] at hs
   | cons f fs =>
     simp only [ShOk.fields,Bool.and_eq_true,beq_iff_eq] at hs
     obtain ⟨⟨⟨h1,h2⟩,h3⟩,h4⟩:=hs
     obtain ⟨n,x,hx⟩:=hf 0 f rfl
     rw [h1,h2] at hx
     obtain ⟨a,ra,rl,rd,r1⟩:=reads_of_trod s h3 hx
     simp only [Sh.size.sizes] at hl
     obtain ⟨b,qa,ql,qd,q1⟩:=reads_of_fields ss h4 (cs:=cs) (by omega) (fun i g hi=>hf (i+1) g (by simpa using hi))
     have e:cs.drop off=(cs.drop off).take s.size ++ cs.drop (off+s.size):=by
      rw [<- List.drop_drop];exact (List.take_append_drop s.size (cs.drop off)).symm
     refine ⟨a ++ b,by simp only [Fit.fits];exact ⟨a,b,rfl,ra,qa⟩,by simp [rl,ql,Sh.size.sizes],?_,fun v hv=>?_⟩
     ·rw [e];exact denL_app rd qd
     ·rw [e] at hv
      rcases List.mem_append.1 hv with hv | hv
      ·exact r1 v hv
      ·exact q1 v hv
end
def shArg:Sh->List SV->EV
 | .st _,ss=>.p (.agg ss)
 | _,ss=>.p (SV.at ss 0)
theorem arg_of {sh:Sh} {r:Reach} {b0:Nat} {t:TypeId} {v:Value} {d:DataW H} {ps:List MemPlace} (hs:ShOk P sh t=true) (hval:Value.okWide P w r b0 t v) (hd:DataW.Trod enc P w base spare held t v d ps) :
  ∃ ss,Fit sh ss/\argOk (shArg sh ss)=true/\DenE P (fun b=>b<w.heap.size) w env0 (shArg sh ss) v:=by
 obtain ⟨fuel,hf⟩:=hd
 obtain ⟨ss,h1,h2,h3,_⟩:=reads_of_trod sh hs hf
 refine ⟨ss,h1,?_,?_⟩
 ·cases sh <;> rfl
 ·have scalar : v.cells.toList = [v] -> sh.size = 1 -> DenE P (fun b => b < w.heap.size) w env0 (.p (SV.at ss 0)) v := fun e hsz => by
   rw [e] at h3
   have:=h3.2 0 (by omega)
   exact .p this
  cases sh with
  | int =>
    unfold ShOk at hs
    split at hs
    ·rename_i ht
     obtain ⟨n,rfl⟩:=okWide_int ht hval
     exact scalar rfl rfl
    ·cases hs
  | bool =>
    unfold ShOk at hs
    split at hs
    ·rename_i ht
     obtain ⟨n,rfl⟩:=okWide_bool ht hval
     exact scalar rfl rfl
    ·cases hs
  | sl e =>
    unfold ShOk at hs
    split at hs
    ·rename_i et ht
     obtain ⟨a,n,c,rfl⟩:=okWide_slice ht hval
     exact scalar rfl rfl
    ·cases hs
  | st l =>
    unfold ShOk at hs
    split at hs
    ·rename_i fs ht
     obtain ⟨cs,rfl,_⟩:=okWide_struct ht hval
     have e:(Value.agg cs).cells.toList=cs.toList:=rfl
     rw [e] at h3
     exact .p (.agg _ _ h3.1 h3.2)
    ·cases hs
def AllFit:List Sh->List EV->Prop
 | [],es=>es = []
 | s :: l,es=>∃ ss es',es=shArg s ss :: es'/\Fit s ss/\AllFit l es'
def shAll (P:Program):List Sh->List TypeId->Bool
 | [],[]=>true
 | s :: l,t :: ts=>ShOk P s t && shAll P l ts
 | _,_=>false
theorem args_of:∀ (shs:List Sh) {ts:List TypeId} {vs:List Value} {ds:List (DataW H)} {ps:List MemPlace} {r:Reach} {b0:Nat},shAll P shs ts=true->(∀ (j:Nat) t v,ts[j]? = some t->vs[j]? = some v->Value.okWide P w r b0 t v) ->
  DataW.TrodAll enc P w base spare held ts vs ds ps -> ∃ es,AllFit shs es/\ArgsOk P (fun b=>b<w.heap.size) w es vs
 | [],ts,vs,ds,ps,r,b0,hs,hval,h=>by
   cases ts with
   | cons t ts=>simp [shAll] at hs
   | nil =>
     cases vs <;> cases ds <;> simp [DataW.TrodAll] at h
     exact ⟨[],rfl,rfl,fun i hi=>by simp at hi⟩
 | s :: shs,ts,vs,ds,ps,r,b0,hs,hval,h=>by
   cases ts with
   | nil=>simp [shAll] at hs
   | cons t ts =>
     simp only [shAll,Bool.and_eq_true] at hs
     obtain ⟨v,vs',d,ds',p,q,rfl,rfl,_,h1,h2⟩:=trodAll_cons h
     obtain ⟨ss,a1,a2,a3⟩:=arg_of hs.1 (hval 0 t v rfl rfl) h1
     obtain ⟨es,b1,b2⟩:=args_of shs hs.2 (fun j t v ht hv=>hval (j+1) t v (by simpa using ht) (by simpa using hv)) h2
     refine ⟨shArg s ss :: es,⟨ss,es,rfl,a1,b1⟩,by simp [b2.1],fun i hi=>?_⟩
     cases i with
     | zero=>exact ⟨a2,a3⟩
     | succ i=>exact b2.2 i (by simpa using hi)
theorem trodAll_below (hl:laidOutB P=true) {W W':World} (hb:Below W.heap.size W W'):∀ {ts:List TypeId} {vs:List Value} {ds:List (DataW H)} {ps:List MemPlace},(ts.all fun t=>P.readableRec t && decide (t<P.types.size))=true ->
  DataW.TrodAll enc P W 0 (fun _=>true) true ts vs ds ps->(∀ p ∈ ps,p.block<W.heap.size)->DataW.TrodAll enc P W' 0 (fun b=>decide (b<W.heap.size)) true ts vs ds ps
 | [],vs,ds,ps,_,h,_=>by
   cases vs <;> cases ds <;> simp [DataW.TrodAll] at h ⊢
   exact h
 | t :: ts,vs,ds,ps,ht,h,hlt=>by
   simp only [List.all_cons,Bool.and_eq_true,decide_eq_true_eq] at ht
   obtain ⟨v,vs',d,ds',p,q,rfl,rfl,rfl,h1,h2⟩:=trodAll_cons h
   exact ⟨p,q,Below.trod hl ht.1.1 ht.1.2 h1 hb (fun x hx=>hlt x (by simp [hx])),trodAll_below hl hb (by simpa using ht.2) h2 (fun x hx=>hlt x (by simp [hx])),rfl⟩
theorem law_calls {C:Checked} {f:Nat} {fn:Func} {s:ChangeSpec} {apart:Bool} {shs:List Sh} {sp:List EV->Option (Prop × SV)} (hspec:SpecOk C.prog f (specO sp)) (hfit:∀ es,AllFit shs es->preO sp es/\resO sp es=.bool true)
  (hl:laidOutB C.prog=true) (hvars:s.vars = []) (hsh:shAll C.prog shs fn.params.toList=true) (hrd:(fn.params.toList.all fun t=>C.prog.readableRec t && decide (t<C.prog.types.size))=true)
  {bt:TypeId} (hres:fn.resultTypes = #[bt]) (hbt:C.prog.underlying bt=some .bool) (hsay:∀ ds:List (DataW H),ds.length=fn.params.size->s.fn H (ds ++ []) = { results:=[.lit (.bool true)],args:=ds,vars:=[] })
  {W:World} {b0:Nat} {r:Reach} {args:Array Value} {ds gs:List (DataW H)} {before:List MemPlace} (hval:∀ (j:Nat) t v,fn.params[j]? = some t->args[j]? = some v->Value.okWide C.prog W r b0 t v)
  (hW:DataW.Whole enc C.prog fn.params.toList s.vars apart W args.toList ds gs before) :
  Calls C.prog f args W fun e W'=>∃ v,e=.returned v/\s.post enc C.prog fn apart true false false W args v W':=by
 have hW':=hW
 obtain ⟨p,q,hA,hV,hpq,hfz,hnd⟩:=hW
 rw [hvars] at hV
 obtain ⟨rfl,rfl⟩:=trodVars_none hV
 obtain ⟨es,h1,h2⟩:=args_of (enc:=enc) (base:=0) (spare:=fun _=>true) (held:=true) shs hsh (fun j t v ht hv=>hval j t v (by simpa using ht) (by simpa using hv)) hA
 obtain ⟨k1,k2⟩:=hfit es h1
 have hc:=hspec (fun b=>b<W.heap.size) W es args.toList (fun b h=>h) h2 k1
 have:=callsIn_wide.1 hc
 refine Calls.mono (by simpa using this) (fun e W' hg=>?_)
 obtain ⟨v,M',rfl,hb,_,_,_,hd⟩:=hg
 rw [k2] at hd
 cases hd
 have hdl:ds.length=fn.params.size:=by
  have:∀ {ts:List TypeId} {vs:List Value} {ds:List (DataW H)} {ps:List MemPlace},DataW.TrodAll enc C.prog W 0 (fun _=>true) true ts vs ds ps->ds.length=ts.length:=by
   intro ts
   induction ts with
   | nil=>intro vs ds ps h;cases vs <;> cases ds <;> simp [DataW.TrodAll] at h <;> rfl
   | cons t ts ih =>
     intro vs ds ps h
     obtain ⟨v,vs',d,ds',p,q,rfl,rfl,_,_,h2⟩:=trodAll_cons h
     simp [ih h2]
  have:=this hA
  simpa using this
 have hlt:∀ x ∈ p,x.block<W.heap.size:=fun x hx=>hW'.lt x (by rw [hpq];simp [hx])
 refine ⟨_,rfl,ds,[],p ++ [],[],p,[],?_,?_,?_,?_,hb.bel.frame _,fun h=>by cases h⟩
 ·rw [hpq] at hW';exact hW'
 ·rw [hsay ds hdl,hres]
  exact trodAll_mk1 (shut_bool hbt true)
 ·rw [hsay ds hdl]
  exact trodAll_below hl hb.bel hrd hA hlt
 ·rw [hsay ds hdl,hvars];rfl
end Go.SE
set_option linter.unusedSectionVars false
namespace Go.SE
open Go.Proofs Go.Shelf Go.RowKit Go.Lib Go.Sort
variable {P:Program} {A:Type} [Inhabited A]
def encV (enc:A->List Int) (a:A):List Value:=(enc a).map (Value.int .i64)
def encS (enc:A->List Int) (a:A):List SV:=(enc a).map (SV.int .i64)
theorem den_enc {M:Nat->Prop} {w:World} (enc:A->List Int) (a:A):DenL M w (encS enc a) (encV enc a):=by
 refine ⟨by simp [encS,encV],fun i hi=>?_⟩
 simp only [encS,List.length_map] at hi
 simp only [encS,encV,SV.at,List.getD_eq_getElem?_getD,List.getElem?_map,List.getElem?_eq_getElem hi,Option.map_some,Option.getD_some]
 exact .int _ _
theorem encV_one (enc:A->List Int) (a:A):∀ v,v ∈ encV enc a->v.oneCell'=true:=fun v hv=>by
 simp only [encV,List.mem_map] at hv
 obtain ⟨n,_,rfl⟩:=hv
 rfl
theorem grow_of {W w':World} (h:Bl W.heap.size W w'):∃ q os,w'=grow (W.drewN q) os:=by
 refine ⟨w'.drawn - W.drawn,w'.heap.extract W.heap.size w'.heap.size,?_⟩
 obtain ⟨heap,tape,drawn,os,output⟩:=w'
 obtain ⟨h1,h2,h3,h4,h5,h6⟩:=h
 simp only at h1 h2 h3 h4 h5 h6
 subst h1 h2 h3
 have e1:W.drawn+(drawn - W.drawn)=drawn:=by omega
 have e2:W.heap ++ heap.extract W.heap.size heap.size=heap:=by
  apply Array.ext_getElem?
  intro i
  by_cases hi:i<W.heap.size
  ·rw [Array.getElem?_append_left hi,h6 i hi]
  ·rw [Array.getElem?_append_right (by omega),Array.getElem?_extract]
   by_cases h7:i<heap.size
   ·rw [if_pos (by omega),show W.heap.size+(i - W.heap.size)=i by omega]
   ·rw [if_neg (by omega),Array.getElem?_eq_none (by omega)]
 show World.mk _ _ _ _ _=World.mk (W.heap ++ heap.extract W.heap.size heap.size) W.tape (W.drawn+(drawn - W.drawn)) W.os W.output
 rw [e1,e2]
theorem cmpLays_of {g:Nat} {enc:A->List Int} {k:Nat} {cf:A->A->Int} {pre:List EV->Prop} {res:List EV->SV} (hs:SpecOk P g (.fn pre res))
  (hp:∀ x y,pre [.p (.agg (encS enc x)),.p (.agg (encS enc y))]) (hr:∀ x y,res [.p (.agg (encS enc x)),.p (.agg (encS enc y))]=.int .i64 (cf x y)) (blk off size:Nat) (w:World) :
  CmpLays P g #[] (encV enc) k cf blk off size w:=by
 intro m os dk _ x y
 have hx:∀ a:A,DenP (fun _=>False) (sortWorldK (encV enc) k w blk off m dk os) (.agg (encS enc a)) (.agg (encV enc a).toArray):=fun a=>by
  have h:=den_enc (M:=fun _=>False) (w:=sortWorldK (encV enc) k w blk off m dk os) enc a
  exact .agg _ _ h.1 h.2
 have:=hs (fun _=>False) (sortWorldK (encV enc) k w blk off m dk os) [.p (.agg (encS enc x)),.p (.agg (encS enc y))] [.agg (encV enc x).toArray,.agg (encV enc y).toArray] (fun b h=>h.elim)
  ⟨rfl,fun i hi=>by
   match i,hi with
   | 0,_=>exact ⟨rfl,.p (hx x)⟩
   | 1,_=>exact ⟨rfl,.p (hx y)⟩⟩ (hp x y)
 refine (callsIn_wide (n:=0)).1 (callsIn_mono this fun e w' hg=>?_)
 obtain ⟨v,M',rfl,hb,_,_,_,hd⟩:=hg
 rw [hr] at hd
 cases hd
 exact ⟨rfl,grow_of hb⟩
def arrOf (n:Nat) (f:Nat->A):Array A:=((List.range n).map f).toArray
theorem arrOf_size (n:Nat) (f:Nat->A):(arrOf n f).size=n:=by simp [arrOf]
theorem arrOf_get {n:Nat} {f:Nat->A} {i:Nat} (h:i<n):(arrOf n f)[i]! = f i:=by
 rw [getElem!_pos _ i (by rw [arrOf_size];exact h)]
 simp [arrOf]
structure SortedBy (cf:A->A->Int) (n:Nat) (f u:Nat->A):Prop where
 perm:((List.range n).map u).Perm ((List.range n).map f)
 asc:∀ i j,i<j->j<n->¬ cf (u j) (u i)<0
theorem int_of_den {M:Nat->Prop} {w:World} {enc:A->List Int} {a:A} {j:Nat} (hj:j<(enc a).length) {v:Value} (h:DenP M w (SV.at (encS enc a) j) v):v=(encV enc a)[j]!:=by
 have e1:SV.at (encS enc a) j=.int .i64 ((enc a)[j]'hj):=by
  simp [encS,SV.at,List.getD_eq_getElem?_getD,List.getElem?_map,List.getElem?_eq_getElem hj]
 have e2:(encV enc a)[j]! = .int .i64 ((enc a)[j]'hj):=by
  simp [encV,List.getElem!_eq_getElem?_getD,List.getElem?_map,List.getElem?_eq_getElem hj]
 rw [e1] at h
 cases h
 exact e2.symm
theorem getD_get! {c:Array Value} {i:Nat} (h:i<c.size):c.getD i undef=c[i]'h:=by
 rw [Array.getD_eq_getD_getElem?,Array.getElem?_eq_getElem h];rfl
theorem sort_core {ρ:Ren} (L:SlLaysF0.n6 P ρ) {k:Nat} (hk0:0<k) (aE:∀ w,(isAgg (ρ.t 24)).run P w=.ok true w) (zE:∀ w,(Go.sizeOf (ρ.t 24)).run P w=.ok k w) {enc:A->List Int} (hk:∀ x,(enc x).length=k)
  {cf:A->A->Int} (hO:SWO (ltOf cf)) {g:Nat} {pre:List EV->Prop} {res:List EV->SV} (hs:SpecOk P g (.fn pre res)) (he:Enters P g)
  (hp:∀ x y,pre [.p (.agg (encS enc x)),.p (.agg (encS enc y))]) (hr:∀ x y,res [.p (.agg (encS enc x)),.p (.agg (encS enc y))]=.int .i64 (cf x y))
  {M:Nat->Prop} {w:World} {env:Env} {key:Nat} {e:TypeId} {n:Nat} {f:Nat->A} (hn:n<4611686018427387904) (hown:OwnOk P M w env key (.row e k n (fun i=>encS enc (f i))))
  (hat:∀ b,env.at_ key=some b->¬ M b/\b<w.heap.size) :
  Calls P (ρ.f 6) #[env.rv key,.func (.func g) #[] #[]] w (fun en w'=>∃ u:Nat->A,SortedBy cf n f u/\en=.returned (.tuple #[])/\Same (fun b=>env.at_ key=some b) w w'/\OwnOk P M w' env key (.row e k n (fun i=>encS enc (u i)))):=by
 obtain ⟨hm,hgl,hcase⟩:=hown
 rcases hcase with ⟨h1,h2,h3⟩ | ⟨b,cap,cur,hb,hrv,hh,hnc,hcm,hcs,hd⟩
 ·subst h3
  rw [h2]
  refine (AnyF.slices_SortFunc_none L none 0 _ w).mono ?_
  rintro en w' ⟨rfl,rfl⟩
  exact ⟨f,⟨List.Perm.refl _,fun i j _ hj=>absurd hj (Nat.not_lt_zero _)⟩,rfl,⟨rfl,rfl,rfl,Nat.le_refl _,Nat.le_refl _,fun _ _ _=>rfl⟩,hm,hgl,.inl ⟨h1,h2,rfl⟩⟩
 ·rw [hrv]
  have hds:=arrOf_size n f
  have hkV:∀ x,(encV enc x).length=k:=fun x=>by simp [encV,hk]
  have hnk:n * k <= cur.size:=by rw [hcs];exact Nat.mul_le_mul_right _ hnc
  have hH:HoldsK (encV enc) k w b 0 (arrOf n f):=by
   intro j hj
   rw [size_flatK,hds] at hj
   have hjc:j<cur.size:=by omega
   have hi:j / k<n:=Nat.div_lt_of_lt_mul (by rw [Nat.mul_comm];exact hj)
   have hr2:j % k<k:=Nat.mod_lt _ hk0
   have h1:=(hd (j / k) hi (j % k) hr2).2
   have e0:j / k * k+j % k=j:=by rw [Nat.mul_comm];exact Nat.div_add_mod j k
   rw [e0,getD_get! hjc] at h1
   have h2:=int_of_den (by rw [hk];exact hr2) h1
   constructor
   ·rw [get_flatK _ _ _ _ (by rw [hds];exact hj),arrOf_get hi,<- h2]
    simp only [World.cell?,hh,Nat.zero_add,id]
    rw [Array.getElem?_eq_getElem hjc];rfl
   ·simp [World.frozen?,hh]
  have hc:=AnyQ.slices_SortFunc L k aE zE (encV enc) hkV (encV_one enc) cf hO g #[] b 0 cap (arrOf n f) w he (cmpLays_of hs hp hr b 0 _ w) hH (hat b hb).2 (by rw [hds];exact hn)
  rw [hds] at hc
  refine hc.mono ?_
  rintro en w' ⟨rfl,d',m,os,⟨hsz,_,hperm⟩,hasc,rfl⟩
  rw [hds] at hsz
  have hheap:(sortWorldK (encV enc) k w b 0 m d' os).heap=w.heap.modify b (onCells (putCells id 0 (flatK (encV enc) k d'))) ++ os:=rfl
  have hbl:=(hat b hb).2
  have hd'l:∀ d0:Array A,d0.size=n->(List.range n).map (fun i=>d0[i]!)=(d0.extract 0 n).toList:=fun d0 h0=>by
   apply List.ext_getElem?
   intro i
   by_cases hi:i<n
   ·rw [List.getElem?_map,List.getElem?_range hi]
    simp only [Option.map_some,Array.getElem?_toList,Array.getElem?_extract]
    rw [if_pos (by omega),Nat.zero_add,Array.getElem?_eq_getElem (by omega),getElem!_pos d0 i (by omega)]
   ·rw [List.getElem?_eq_none (by simp;omega),List.getElem?_eq_none (by simp;omega)]
  refine ⟨fun i=>d'[i]!,⟨?_,fun i j hij hj=>?_⟩,rfl,⟨rfl,rfl,rfl,?_,?_,fun c hc hne=>?_⟩,hm,fun i _=>by simp [encS,hk],.inr ⟨b,cap,putCells id 0 (flatK (encV enc) k d') cur,hb,hrv,?_,hnc,hcm,by simp [putCells,hcs],fun i hi j hj=>?_⟩⟩
  ·rw [hd'l d' hsz]
   refine hperm.trans ?_
   rw [<- hd'l (arrOf n f) hds]
   have:(List.range n).map (fun i=>(arrOf n f)[i]!)=(List.range n).map f:=List.map_congr_left (fun i hi=>arrOf_get (List.mem_range.1 hi))
   rw [this]
  ·have:=hasc i j (Nat.zero_le _) hij (by omega)
   exact of_decide_eq_false this
  ·show w.drawn <= w.drawn+m
   omega
  ·rw [hheap];simp
  ·have hne:¬ b=c:=fun e=>hne (e ▸ hb)
   rw [hheap,Array.getElem?_append_left (by simpa using hc),Array.getElem?_modify,if_neg hne]
  ·rw [hheap,Array.getElem?_append_left (by simpa using hbl),Array.getElem?_modify,if_pos rfl,hh];rfl
  ·have hlt:i * k+j<n * k:=idx_lt hi hj
   have hlc:i * k+j<cur.size:=by omega
   have e1:(putCells id 0 (flatK (encV enc) k d') cur).getD (i * k+j) undef=(encV enc d'[i]!)[j]!:=by
    rw [Array.getD_eq_getD_getElem?]
    simp only [putCells,Array.getElem?_mapIdx,Array.getElem?_eq_getElem hlc,Option.map_some,Option.getD_some]
    rw [if_pos ⟨Nat.zero_le _,by rw [size_flatK,hsz];omega⟩,Nat.sub_zero,get_flatK _ _ _ _ (by rw [hsz];exact hlt)]
    have h1:(i * k+j) / k=i:=by rw [Nat.mul_comm,Nat.mul_add_div hk0,Nat.div_eq_of_lt hj,Nat.add_zero]
    have h2:(i * k+j) % k=j:=by rw [Nat.mul_comm,Nat.mul_add_mod,Nat.mod_eq_of_lt hj]
    rw [h1,h2];rfl
   rw [e1]
   have hj2:j<(enc d'[i]!).length:=by rw [hk];exact hj
   have e2:(encV enc d'[i]!)[j]! = .int .i64 ((enc d'[i]!)[j]'hj2):=by
    simp [encV,List.getElem!_eq_getElem?_getD,List.getElem?_map,List.getElem?_eq_getElem hj2]
   have e3:SV.at (encS enc d'[i]!) j=.int .i64 ((enc d'[i]!)[j]'hj2):=by
    simp [encS,SV.at,List.getD_eq_getElem?_getD,List.getElem?_map,List.getElem?_eq_getElem hj2]
   show ((encV enc d'[i]!)[j]!).oneCell'=true/\DenP M _ (SV.at (encS enc d'[i]!) j) ((encV enc d'[i]!)[j]!)
   rw [e2,e3]
   exact ⟨rfl,.int _ _⟩
def sortTr (e:TypeId) (k g key:Nat) (enc:A->List Int) (cf:A->A->Int):Tr where
 T:=Nat × (Nat->A)
 U:=Nat->A
 args:=fun _=>[.row key,.p (.clo g [])]
 own:=fun t=>[(key,.row e k t.1 (fun i=>encS enc (t.2 i)))]
 pre:=fun t=>t.1 <= 1000000
 post:=fun t u=>SortedBy cf t.1 t.2 u
 own':=fun t u=>[(key,.row e k t.1 (fun i=>encS enc (u i)))]
 res:=fun _ _=>.p (.tup [])
theorem sortTr_ok {ρ:Ren} (L:SlLaysF0.n6 P ρ) {k:Nat} (hk0:0<k) (aE:∀ w,(isAgg (ρ.t 24)).run P w=.ok true w) (zE:∀ w,(Go.sizeOf (ρ.t 24)).run P w=.ok k w) {enc:A->List Int} (hk:∀ x,(enc x).length=k)
  {cf:A->A->Int} (hO:SWO (ltOf cf)) {g:Nat} {pre:List EV->Prop} {res:List EV->SV} (hs:SpecOk P g (.fn pre res)) (he:Enters P g)
  (hp:∀ x y,pre [.p (.agg (encS enc x)),.p (.agg (encS enc y))]) (hr:∀ x y,res [.p (.agg (encS enc x)),.p (.agg (encS enc y))]=.int .i64 (cf x y)) (e:TypeId) (key:Nat):TrOk P (ρ.f 6) (sortTr e k g key enc cf):=by
 refine ⟨fun _ _=>rfl,fun t hpre M w env vals hM hown hat _ hl hv=>?_⟩
 obtain ⟨n,f⟩:=t
 have hpre:n <= 1000000:=hpre
 have ho:=hown key _ (List.mem_singleton.2 rfl)
 have ha:=hat key _ (List.mem_singleton.2 rfl)
 have hl:vals.length=2:=hl
 match vals,hl with
 | [v0,v1],_ =>
   have h0:DenE P M w env (.row key) v0:=hv 0 (by show 0<2;omega)
   have h1:DenE P M w env (.p (.clo g [])) v1:=hv 1 (by show 1<2;omega)
   rcases h1 with ⟨h1⟩
   cases h1 with
   | clo _ _ vs hvl _ =>
   have hvs:vs = []:=List.eq_nil_of_length_eq_zero hvl
   subst hvs
   have e0:v0=env.rv key:=by cases h0 with | row h=>exact h.symm
   subst e0
   refine callsIn_wide.2 ((sort_core L hk0 aE zE hk hO hs he hp hr (by omega) ho ha).mono ?_)
   rintro en w' ⟨u,hu,rfl,hsame,hown'⟩
   refine ⟨u,.tuple #[],M,hu,rfl,?_,fun _ h=>h,fun _ h=>.inl h,fun b hb=>Nat.lt_of_lt_of_le (hM b hb) hsame.size,fun k' o' h'=>?_,.p (.tup [] [] rfl (fun i hi=>absurd hi (Nat.not_lt_zero _)))⟩
   ·exact ⟨hsame.os,hsame.tape,hsame.output,hsame.drawn,hsame.size,fun c hc hne=>hsame.block c hc (fun e=>hne ⟨key,_,List.mem_singleton.2 rfl,e⟩)⟩
   ·obtain ⟨rfl,rfl⟩:=Prod.mk.inj (List.mem_singleton.1 h')
    exact hown'
end Go.SE
