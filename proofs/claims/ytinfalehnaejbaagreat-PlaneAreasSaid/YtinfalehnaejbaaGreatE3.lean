/- A symbolic walk over the model, and what it shows of functions of the program: parts of the proof that the text of the row joins. -/
import Derived.Test.YtinfalehnaejbaaGreatE2
import Derived.RangeFuncIn
import Derived.RangeFuncRecord
import Derived.Sort.LoopGhostIn
import Derived.RangeFuncLeaves
namespace Go.SE
open Go.RowKit
variable {P:Program} {G:Ctx}
theorem put_has {st:St} {d:Option Nat} {e:Ent} {x:Nat × Ent} (h:x ∈ st.T) (h1:d ≠ some x.1) (h2:∀ t,d=some t -> x.2.by t=false):x ∈ (st.put d e).T:=by
 cases d with
 | none=>exact h
 | some t =>
   simp only [St.put,List.mem_cons,List.mem_filter]
   refine .inr ⟨h,?_⟩
   have:¬ x.1=t:=fun e=>h1 (by rw [e])
   simp [this,h2 t rfl]
theorem put_new {st:St} {d:Nat} {e:Ent}:(d,e) ∈ (st.put (some d) e).T:=by simp [St.put]
def InTS (ops:Array Oper) (st0:St) (es:List Ent) (listed:Array Bool) (x:Nat × Ent):Prop :=
 (x ∈ st0.T /\ ∀ (j:Nat) (oj:Oper),ops[j]? = some oj -> listed.getD j false=true -> oj.dst ≠ some x.1) \/
   ∃ (j:Nat) (oj:Oper),ops[j]? = some oj /\ listed.getD j false=true /\ oj.dst=some x.1 /\ es[j]? = some x.2
structure Inv (P:Program) (G:Ctx) (ops:Array Oper) (E:List (Nat × Own)) (st0:St) (es:List Ent) (listed:Array Bool) (a:Act) (w:World):Prop where
 siz:listed.size=ops.size
 clo:∀ (j:Nat) (oj:Oper),ops[j]? = some oj -> listed.getD j false=true -> ∀ e,e ∈ oj.after -> Region.binds .any e=true -> listed.getD e.on false=true
 sat:∃ st2:St,(st2.yk=st0.yk /\ st2.stop=st0.stop /\ st2.nt=st0.nt) /\ (∀ x,x ∈ st2.own ↔ (x ∈ st0.own \/ (∃ (j:Nat) (oj:Oper),ops[j]? = some oj /\ listed.getD j false=true /\ ∃ y,y ∈ newOwnOf P oj /\ x=contL ops es (fun j=>listed.getD j false) y) \/ ∃ y,y ∈ E /\ x=contL ops es (fun j=>listed.getD j false) y)) /\ (∀ x,x ∈ st2.T ↔ InTS ops st0 es listed x) /\ Sat P G st2 a w
theorem forgets_own (st:St):∀ ds,(st.forgets ds).own=st.own /\ (st.forgets ds).yk=st.yk /\ (st.forgets ds).stop=st.stop /\ (st.forgets ds).nt=st.nt:=fun ds=>by
 induction ds generalizing st with
 | nil=>exact ⟨rfl,rfl,rfl,rfl⟩
 | cons d ds ih=>exact ih (st.forget d)
theorem forgets_T {x:Nat × Ent} (ds:List Nat) {st:St} (h:x ∈ (st.forgets ds).T):x ∈ st.T /\ ∀ d,d ∈ ds -> x.2.v.names d=false:=by
 induction ds generalizing st with
 | nil=>exact ⟨h,fun d hd=>by cases hd⟩
 | cons d0 ds ih =>
   obtain ⟨h1,h2⟩:=ih (st:=st.forget d0) h
   refine ⟨(List.mem_filter.1 h1).1,fun d hd=>?_⟩
   rcases List.mem_cons.1 hd with rfl | hd
   · exact forget_T (s:=x.1) (e:=x.2) h1
   · exact h2 d hd
theorem mem_allocDs {d:Nat} {o':Own} {l:List Oper} {o:Oper} (h:o ∈ l) (hn:(d,o') ∈ newOwnOf P o):d ∈ allocDs P l:=by
 induction l with
 | nil=>cases h
 | cons o1 l ih =>
   rw [allocDs,List.mem_append]
   rcases List.mem_cons.1 h with h | h
   · subst h;exact .inl (List.mem_map.2 ⟨(d,o'),hn,rfl⟩)
   · exact .inr (ih h)
theorem mem_allocOwn {x:Nat × Own}:∀ {l:List Oper},x ∈ allocOwn P l -> ∃ (j:Nat) (oj:Oper),l[j]? = some oj /\ x ∈ newOwnOf P oj
 | [],h=>by cases h
 | o :: l,h=>by
   simp only [allocOwn,List.mem_append] at h
   rcases h with h | h
   · exact ⟨0,o,rfl,h⟩
   · obtain ⟨j,oj,h1,h2⟩:=mem_allocOwn h
     exact ⟨j+1,oj,by simpa using h1,h2⟩
theorem allocOwn_keys:∀ (l:List Oper),(allocOwn P l).map (·.1)=allocDs P l
 | []=>rfl
 | o :: l=>by simp [allocOwn,allocDs,allocOwn_keys l]
theorem newOwnOf_dst {o:Oper} {d:Nat} {o':Own} (h:(d,o') ∈ newOwnOf P o):o.dst=some d /\ ∀ k,o'.names k=false:=by
 unfold newOwnOf at h
 split at h
 · rename_i t d' h1 h2
   split at h
   · simp only [List.mem_singleton,Prod.mk.injEq] at h
     obtain ⟨rfl,rfl⟩:=h
     refine ⟨h2,fun k=>?_⟩
     have:∀ l:List Value,EV.names.namesL k (l.map fun v=>EV.p (svOf v))=false:=fun l=>by
       induction l with
       | nil=>rfl
       | cons v l ih=>simp [EV.names.namesL,EV.names,ih]
     exact this _
   · cases h
 · cases h
theorem allocChk_spec {ops:List Oper} {es:List Ent} {st0:St}:∀ {ds:List Nat},allocChk P ops es st0 ds=true -> ∀ d,d ∈ ds -> st0.noName d=true /\ namesChk ops es d=true
 | d0 :: ds,h,d,hd=>by
   simp only [allocChk,Bool.and_eq_true] at h
   rcases List.mem_cons.1 hd with rfl | hd
   · exact h.1
   · exact allocChk_spec h.2 d hd
theorem namesChk_spec {ops:List Oper} {es:List Ent} {d:Nat} (h:namesChk ops es d=true) {j:Nat} {oj:Oper} {e:Ent} (h1:ops[j]? = some oj) (h2:es[j]? = some e):oj.dst=some d \/ e.v.names d=false:=by
 unfold namesChk at h
 have hm:(oj,e) ∈ ops.zip es:=by
   have:(ops.zip es)[j]? = some (oj,e):=by rw [List.getElem?_zip_eq_some];exact ⟨h1,h2⟩
   exact List.mem_of_getElem? this
 have:=List.all_eq_true.1 h _ hm
 simpa using this
theorem getD_set_self {l:Array Bool} {i:Nat} (h:i < l.size):(l.setIfInBounds i true).getD i false=true:=by
 simp [Array.getD_eq_getD_getElem?,Array.getElem?_setIfInBounds,h]
theorem getD_set_of {l:Array Bool} {i j:Nat} (h:(l.setIfInBounds i true).getD j false=true):j=i \/ l.getD j false=true:=by
 by_cases hj:j=i
 · exact .inl hj
 · right
   rw [Array.getD_eq_getD_getElem?,Array.getElem?_setIfInBounds,if_neg (fun e=>hj e.symm)] at h
   rw [Array.getD_eq_getD_getElem?];exact h
theorem getD_set_keep {l:Array Bool} {i j:Nat} (h:l.getD j false=true):(l.setIfInBounds i true).getD j false=true:=by
 have hj:j < l.size:=by
   rcases Nat.lt_or_ge j l.size with h' | h'
   · exact h'
   · rw [Array.getD_eq_getD_getElem?,Array.getElem?_eq_none h'] at h;cases h
 rw [Array.getD_eq_getD_getElem?,Array.getElem?_setIfInBounds]
 split
 · rename_i he;subst he;rw [if_pos hj];rfl
 · rw [Array.getD_eq_getD_getElem?] at h;exact h
theorem ancDown_ok {ops:Array Oper} {listed:Array Bool} (clo:∀ (j:Nat) (oj:Oper),ops[j]? = some oj -> listed.getD j false=true -> ∀ e,e ∈ oj.after -> Region.binds .any e=true -> listed.getD e.on false=true) :
   ∀ (i:Nat) (l:List Nat),(∀ x,x ∈ l -> listed.getD x false=true) -> ∀ x,x ∈ ancDown ops.toList i l -> listed.getD x false=true
 | 0,l,h,x,hx=>h x hx
 | i+1,l,h,x,hx=>by
   simp only [ancDown] at hx
   refine ancDown_ok clo i _ (fun y hy=>?_) x hx
   split at hy
   · rename_i hc
     rcases List.mem_append.1 hy with hy | hy
     · exact h y hy
     · unfold aftOf at hy
       split at hy
       · rename_i o ho
         obtain ⟨e,he,rfl⟩:=List.mem_map.1 hy
         obtain ⟨he1,he2⟩:=List.mem_filter.1 he
         exact clo i o (by simpa using ho) (h i (by simpa using hc)) e (by simpa using he1) he2
       · cases hy
   · exact h y hy
theorem sufOne_ok {ops:Array Oper} {listed:Array Bool} (clo:∀ (j:Nat) (oj:Oper),ops[j]? = some oj -> listed.getD j false=true -> ∀ e,e ∈ oj.after -> Region.binds .any e=true -> listed.getD e.on false=true)
   {j:Nat} {o:Oper} (ho:ops[j]? = some o) {Z:List Nat} (h:sufOne Z ops.toList j=true) (hZ:∀ z,z ∈ Z -> listed.getD z false=true) (hr:∀ e,e ∈ o.after -> Region.binds .any e=true -> listed.getD e.on false=true):∀ i,i < j -> listed.getD i false=true:=by
 intro i hi
 simp only [sufOne,Bool.and_eq_true] at h
 have:=List.all_eq_true.1 h.2 i (List.mem_range.2 hi)
 rw [Bool.or_eq_true] at this
 rcases this with this | this
 rotate_left
 · exact hZ i (by simpa using this)
 refine ancDown_ok clo j _ (fun y hy=>?_) i (by simpa using this)
 unfold aftOf at hy
 rw [show ops.toList[j]? = some o by simpa using ho] at hy
 obtain ⟨e,he,rfl⟩:=List.mem_map.1 hy
 obtain ⟨he1,he2⟩:=List.mem_filter.1 he
 exact hr e (by simpa using he1) he2
theorem sufOne_ok2 {ops:Array Oper} {listed:Array Bool} (clo:∀ (j:Nat) (oj:Oper),ops[j]? = some oj -> listed.getD j false=true -> ∀ e,e ∈ oj.after -> Region.binds .any e=true -> listed.getD e.on false=true)
   {j:Nat} {o:Oper} (ho:ops[j]? = some o) {Z:List Nat} (h:sufOne Z ops.toList j=true) (hr:∀ e,e ∈ o.after -> Region.binds .any e=true -> listed.getD e.on false=true):∀ i,i < j -> i ∉ Z -> listed.getD i false=true:=by
 intro i hi hz
 simp only [sufOne,Bool.and_eq_true] at h
 have:=List.all_eq_true.1 h.2 i (List.mem_range.2 hi)
 rw [Bool.or_eq_true] at this
 rcases this with this | this
 rotate_left
 · exact absurd (by simpa using this) hz
 refine ancDown_ok clo j _ (fun y hy=>?_) i (by simpa using this)
 unfold aftOf at hy
 rw [show ops.toList[j]? = some o by simpa using ho] at hy
 obtain ⟨e,he,rfl⟩:=List.mem_map.1 hy
 obtain ⟨he1,he2⟩:=List.mem_filter.1 he
 exact hr e (by simpa using he1) he2
theorem sufOne_lt {ops:Array Oper} {j:Nat} {o:Oper} (ho:ops[j]? = some o) {Z:List Nat} (h:sufOne Z ops.toList j=true):∀ e,e ∈ o.after -> Region.binds .any e=true -> e.on < j:=by
 intro e he hb
 simp only [sufOne,Bool.and_eq_true] at h
 have:=List.all_eq_true.1 h.1 e.on (by
   unfold aftOf
   rw [show ops.toList[j]? = some o by simpa using ho]
   exact List.mem_map.2 ⟨e,List.mem_filter.2 ⟨by simpa using he,hb⟩,rfl⟩)
 simpa using this
def unl (n:Nat) (listed:Array Bool):Nat:=((List.range n).filter fun i=>!listed.getD i false).length
theorem unl_set {n i:Nat} {listed:Array Bool} (hi:i < n) (hl:i < listed.size) (hu:listed.getD i false=false):unl n (listed.setIfInBounds i true) < unl n listed:=by
 unfold unl
 have e1:((List.range n).filter fun j=>!(listed.setIfInBounds i true).getD j false)=((List.range n).filter fun j=>!listed.getD j false).filter fun j=>!(j == i):=by
   rw [List.filter_filter]
   apply List.filter_congr
   intro j hj
   by_cases hji:j=i
   · subst hji;rw [getD_set_self hl];simp
   · have : (listed.setIfInBounds i true).getD j false = listed.getD j false := by
       rw [Array.getD_eq_getD_getElem?,Array.getElem?_setIfInBounds,if_neg (fun e=>hji e.symm),Array.getD_eq_getD_getElem?]
     rw [this];simp [hji]
 rw [e1]
 have hm:i ∈ (List.range n).filter fun j=>!listed.getD j false:=List.mem_filter.2 ⟨List.mem_range.2 hi,by rw [hu];rfl⟩
 exact List.length_filter_lt_length_iff_exists.2 ⟨i,hm,by simp⟩
theorem execOps_step (hG:Stable G) {C:Cfg} (hC:SpecsOk P G C) {ops:Array Oper} {o:Oper} {rest:List Oper} {st:St} {K:St -> Prop} {a:Act} {w:World} {env:Env} {M X:Nat -> Prop} (h:execOps P C ops (o :: rest) st K) (S:SatC P G st a w env M X) :
   (Region.wanted o (yielded ops a.tmps)=true -> Leads P a o w (fun a' w'=>∃ st',execOps P C ops rest st' K /\ Sat P G st' a' w')) /\ (¬ Region.wanted o (yielded ops a.tmps)=true -> ∃ st',execOps P C ops rest st' K /\ Sat P G st' (a.put o.dst undef) w):=by
 simp only [execOps] at h
 split at h
 · exact h.elim
 · rename_i gd hgd0
   obtain ⟨hgd,hwant⟩:=guardOf_ok S hgd0
   split at h
   · rename_i hcheck
     have hd:∀ t,o.dst=some t -> t < st.nt:=fun t ht=>by
       rw [ht] at hcheck
       cases gd with
       | none=>simpa [dstOk] using hcheck
       | some g=>obtain ⟨q,c,x⟩:=g;simp [dstOk] at hcheck;exact hcheck.1
     have hq:∀ q c x,gd=some (q,c,x) -> o.dst ≠ some q:=fun q c x hg ht=>by
       rw [ht,hg] at hcheck
       simp [dstOk] at hcheck
     refine ⟨fun hw=>?_,fun hw=>?_⟩
     · have hh:=hwant.1 hw
       split at h
       · rename_i d t x hi hcut
         obtain ⟨c1,c2,c3⟩:=cutOf_spec hcut
         obtain ⟨v,st',hr,hk,hs⟩:=stepCut_ok hG S h (hd _ c2)
         exact ⟨fun c hc=>(by rw [c1] at hc;cases hc),.inl ⟨v,w,by simp [execOp,c1,hr],st',hk,by rw [c2];exact hs⟩⟩
       split at h
       · rename_i ps e hstep
         obtain ⟨h1,h2⟩:=conj_spec h
         obtain ⟨u,hr,hden⟩:=stepPure_ok S hgd hh hstep (wrapG_all h1 hh) o rfl
         refine ⟨fun c hc=>?_,.inl ⟨u,w,hr,_,h2,⟨_,_,_,S.putG hgd hd hq (fun _=>hden) (fun hn=>absurd hh hn)⟩⟩⟩
         rw [hc] at hstep
         simp [stepPure,symPure] at hstep
       · exact stepEff_ok hG hC S hgd hh hd hq h (fun st' a' w' hk hs=>⟨st',hk,hs⟩)
     · have hh:¬ holdsG gd:=fun hx=>hw (hwant.2 hx)
       split at h
       · rename_i d t x hi hcut
         obtain ⟨c1,c2,c3⟩:=cutOf_spec hcut
         exact absurd trivial (by rw [c3] at hh;exact hh)
       split at h
       · rename_i ps e hstep
         obtain ⟨_,h2⟩:=conj_spec h
         exact ⟨_,h2,⟨_,_,_,S.putG hgd hd hq (fun hn=>absurd hn hh) (fun _=>rfl)⟩⟩
       · exact stepEff_skip S hgd hh hd hq h
   · exact h.elim
theorem suffix_ok (hG:Stable G) {C:Cfg} (hC:SpecsOk P G C) {ro:Option Nat} {n:Nat} {ops:Array Oper} {Q:Exit -> Act -> World -> Prop} {K:St -> Prop} (hK:∀ st a w,K st -> Sat P G st a w -> Q .normal a w) {k:Nat} {Z:List Nat} (hs:sufChk Z ops.toList k=true) (hZk:∀ z,z ∈ Z -> z < k /\ z < ops.size) :
   ∀ (fuel j:Nat) (listed:Array Bool) (st:St) (a:Act) (w:World),k <= j -> j <= ops.size -> listed.size=ops.size -> (∀ i,i < ops.size -> (listed.getD i false=true ↔ i < j)) ->
     (∀ (j:Nat) (oj:Oper),ops[j]? = some oj -> listed.getD j false=true -> ∀ e,e ∈ oj.after -> Region.binds .any e=true -> listed.getD e.on false=true) ->
     execOps P C ops (ops.toList.drop j) st K -> Sat P G st a w -> unl ops.size listed <= fuel -> wpAnyIn (W ro) n P .any ops Q fuel listed a w:=by
 have suf:∀ j,k <= j -> j < ops.size -> sufOne Z ops.toList j=true:=fun j hk hj=>by
   have:=List.all_eq_true.1 hs j (List.mem_range.2 (by simpa using hj))
   simpa [show ¬ j < k by omega] using this
 intro fuel
 induction fuel with
 | zero =>
   intro j listed st a w hkj hj hsz hl clo h hsat hc
   have hje:j=ops.size:=by
     rcases Nat.lt_or_ge j ops.size with hlt | hge
     · exfalso
       have hun:listed.getD j false=false:=by
         cases hx:listed.getD j false with
         | false=>rfl
         | true=>have:=(hl j hlt).1 hx;omega
       have hm:j ∈ (List.range ops.size).filter fun i=>!listed.getD i false:=List.mem_filter.2 ⟨List.mem_range.2 hlt,by rw [hun];rfl⟩
       have:=List.length_pos_of_mem hm
       unfold unl at hc;omega
     · omega
   subst hje
   have hr:Region.ready .any ops listed = []:=by
     cases hr:Region.ready .any ops listed with
     | nil=>rfl
     | cons i l =>
       exfalso
       obtain ⟨h0,o,ho,_⟩:=mem_ready.1 (show i ∈ Region.ready .any ops listed by rw [hr];simp)
       have hi:=(Array.getElem?_eq_some_iff.1 ho).1
       have:=(hl i hi).2 hi
       have hil:i < listed.size:=by omega
       rw [Array.getD_eq_getD_getElem?,Array.getElem?_eq_getElem hil] at h0 this
       rw [Option.getD_some] at h0 this
       rw [h0] at this
       cases this
   have hd:ops.toList.drop ops.size = []:=by simp
   rw [hd] at h
   exact ⟨hr,hK _ _ _ h hsat⟩
 | succ fuel ih =>
   intro j listed st a w hkj hj hsz hl clo h hsat hc
   refine ⟨fun hr=>?_,fun i hi=>?_⟩
   · have hje : j = ops.size := by
       rcases Nat.lt_or_ge j ops.size with hlt | hge
       · exfalso
         have ho:ops[j]? = some ops[j]:=Array.getElem?_eq_getElem hlt
         have hun:listed.getD j false=false:=by
           cases hx:listed.getD j false with
           | false=>rfl
           | true=>have:=(hl j hlt).1 hx;omega
         have hmem:j ∈ Region.ready .any ops listed:=mem_ready.2 ⟨by
           have:j < listed.size:=by omega
           rw [Array.getD_eq_getD_getElem?,Array.getElem?_eq_getElem this] at hun ⊢;exact hun,ops[j],ho,fun e he hb=>by
             have:=sufOne_lt ho (suf j hkj hlt) e he hb
             exact (hl e.on (by omega)).2 this⟩
         rw [hr] at hmem;cases hmem
       · omega
     subst hje
     have hd:ops.toList.drop ops.size = []:=by simp
     rw [hd] at h
     exact hK _ _ _ h hsat
   · obtain ⟨h0,o,ho,hafter⟩:=mem_ready.1 hi
     have hisz:=(Array.getElem?_eq_some_iff.1 ho).1
     have hilt:i < listed.size:=by omega
     have hunl:listed.getD i false=false:=by
       rw [Array.getD_eq_getD_getElem?,Array.getElem?_eq_getElem hilt] at h0 ⊢;exact h0
     have hij:i=j:=by
       have h1:¬ i < j:=fun hlt=>by have:=(hl i hisz).2 hlt;rw [hunl] at this;cases this
       have h2:=sufOne_ok clo ho (suf i (by omega) hisz) (fun z hz=>(hl z (hZk z hz).2).2 (by have:=(hZk z hz).1;omega)) hafter
       rcases Nat.lt_or_ge j i with hlt | hge
       · have:=(hl j (by omega)).1 (h2 j hlt);omega
       · omega
     subst hij
     have hdrop:ops.toList.drop i=o :: ops.toList.drop (i+1):=by
       have hi':i < ops.toList.length:=by simpa using hisz
       rw [List.drop_eq_getElem_cons hi']
       congr 1
       have:=(Array.getElem?_eq_some_iff.1 ho).2
       simpa using this
     rw [hdrop] at h
     obtain ⟨env,M,X,S⟩:=hsat
     obtain ⟨k1,k2⟩:=execOps_step hG hC h S
     have next:∀ a' w',(∃ st',execOps P C ops (ops.toList.drop (i+1)) st' K /\ Sat P G st' a' w') -> wpAnyIn (W ro) n P .any ops Q fuel (listed.setIfInBounds i true) a' w':=fun a' w' ⟨st',hk,hs'⟩=>by
       refine ih (i+1) _ st' a' w' (by omega) (by omega) (by simpa using hsz) (fun m hm=>⟨fun hx=>?_,fun hx=>?_⟩) (fun m om hom hlm e' he' hb'=>?_) hk hs' (by have:=unl_set (n:=ops.size) hisz hilt hunl;omega)
       · rcases getD_set_of hx with rfl | hx
         · omega
         · have:=(hl m hm).1 hx;omega
       · rcases Nat.lt_or_ge m i with hlt | hge
         · exact getD_set_keep ((hl m hm).2 hlt)
         · obtain rfl:m=i:=by omega
           exact getD_set_self hilt
       · rcases getD_set_of hlm with rfl | hlm
         · rw [ho] at hom;cases hom
           exact getD_set_keep (hafter e' he' hb')
         · exact getD_set_keep (clo m om hom hlm e' he' hb')
     unfold wpOpIn
     rw [ho]
     simp only
     split
     · rename_i hw
       have:=k1 hw
       refine leads_wpIn (N:=wpAnyIn (W ro) n P .any ops Q fuel (listed.setIfInBounds i true)) ?_
       obtain ⟨l1,l2⟩:=this
       refine ⟨l1,?_⟩
       rcases l2 with ⟨u,w',hr,hk⟩ | ⟨w',hr,hk⟩ | ⟨f,args,w',hr,hk⟩ | ⟨l,f,tmps,assign,body,w',hr,hk⟩
       · exact .inl ⟨u,w',hr,next _ _ hk⟩
       · exact .inr (.inl ⟨w',hr,next _ _ hk⟩)
       · exact .inr (.inr (.inl ⟨f,args,w',hr,callsIn_mono hk fun e w'' ⟨v,he,hk⟩=>⟨v,he,next _ _ hk⟩⟩))
       · exact .inr (.inr (.inr ⟨l,f,tmps,assign,body,w',hr,roundIn_mono hk fun e w'' ⟨v,he,hk⟩=>⟨v,he,next _ _ hk⟩⟩))
     · rename_i hw
       exact ⟨fun _ _=>trivial,next _ _ (k2 hw)⟩
theorem leads_mono {o:Oper} {a:Act} {w:World} {N N':Act -> World -> Prop} (h:Leads P a o w N) (k:∀ a' w',N a' w' -> N' a' w'):Leads P a o w N':=by
 obtain ⟨l1,l2⟩:=h
 refine ⟨l1,?_⟩
 rcases l2 with ⟨u,w',hr,hk⟩ | ⟨w',hr,hk⟩ | ⟨f,args,w',hr,hk⟩ | ⟨l,f,tmps,assign,body,w',hr,hk⟩
 · exact .inl ⟨u,w',hr,k _ _ hk⟩
 · exact .inr (.inl ⟨w',hr,k _ _ hk⟩)
 · exact .inr (.inr (.inl ⟨f,args,w',hr,callsIn_mono hk fun e w'' ⟨v,he,hk⟩=>⟨v,he,k _ _ hk⟩⟩))
 · exact .inr (.inr (.inr ⟨l,f,tmps,assign,body,w',hr,roundIn_mono hk fun e w'' ⟨v,he,hk⟩=>⟨v,he,k _ _ hk⟩⟩))
theorem moveOf_spec {o:Oper} {d s:Nat} (h:moveOf o=some (d,s)):(o.op=.move (.tmp s) \/ ∃ n,o.op=.extract (.tmp s) n) /\ o.dst=some d /\ o.guard=none:=by
 unfold moveOf at h
 split at h
 · rename_i h1 h2 h3
   cases h;exact ⟨.inl h1,h2,h3⟩
 · rename_i h1 h2 h3
   cases h;exact ⟨.inr ⟨_,h1⟩,h2,h3⟩
 · cases h
theorem exec_move {o:Oper} {d s:Nat} (h:moveOf o=some (d,s)) {a a':Act} (he:a'.eval (.tmp s)=a.eval (.tmp s)):execOp a'.eval o=execOp a.eval o:=by
 obtain ⟨h1 | ⟨n,h1⟩,_,_⟩:=moveOf_spec h
 · simp only [execOp,h1,he]
 · simp only [execOp,h1,he]
theorem run_move {o:Oper} {d s:Nat} (h:moveOf o=some (d,s)) {a:Act} {w w':World} {x:Next} (hr:(execOp a.eval o).run P w=.ok x w'):∃ u,x=.value u /\ w'=w /\ ∀ w2,(execOp a.eval o).run P w2=.ok (.value u) w2:=by
 obtain ⟨h1 | ⟨n,h1⟩,_,_⟩:=moveOf_spec h
 · simp only [execOp,h1] at hr ⊢
   cases hr
   exact ⟨_,rfl,rfl,fun _=>rfl⟩
 · simp only [execOp,h1] at hr ⊢
   unfold Instr.extract at hr ⊢
   split at hr
   · rename_i vs hv
     split at hr
     · rename_i v hx
       cases hr
       exact ⟨v,rfl,rfl,fun _=>rfl⟩
     · cases hr
   · cases hr
theorem leads_move {o:Oper} {a:Act} {w:World} {N:Act -> World -> Prop} {d s:Nat} (h:Leads P a o w N) (hm:moveOf o=some (d,s)):∃ u,(∀ w2,(execOp a.eval o).run P w2=.ok (.value u) w2) /\ N (a.put (some d) u) w:=by
 obtain ⟨_,hd,_⟩:=moveOf_spec hm
 rcases h.2 with ⟨u,w',h1,h2⟩ | ⟨w',h1,h2⟩ | ⟨f,args,w',h1,h2⟩ | ⟨l,f,tmps,assign,body,w',h1,h2⟩
 · obtain ⟨v,e1,e2,e3⟩:=run_move hm h1
   cases e1;subst e2
   rw [hd] at h2;exact ⟨u,e3,h2⟩
 · obtain ⟨v,e1,_,_⟩:=run_move hm h1;cases e1
 · obtain ⟨v,e1,_,_⟩:=run_move hm h1;cases e1
 · obtain ⟨v,e1,_,_⟩:=run_move hm h1;cases e1
theorem wanted_move {ops:Array Oper} {o:Oper} {a:Act} {d s:Nat} (hm:moveOf o=some (d,s)):Region.wanted o (yielded ops a.tmps)=true:=by
 obtain ⟨_,_,hg⟩:=moveOf_spec hm
 simp [Region.wanted,hg]
theorem wpAnyIn_weak {F:Fence} {n:Nat} {ops:Array Oper} {md:Region.Mode} {Q Q':Exit -> Act -> World -> Prop} (h:∀ e a w,Q' e a w -> Q e a w) :
   ∀ (fuel:Nat) (listed:Array Bool) (a:Act) (w:World),wpAnyIn F n P md ops Q' fuel listed a w -> wpAnyIn F n P md ops Q fuel listed a w
 | 0,listed,a,w,hw=>⟨hw.1,h _ _ _ hw.2⟩
 | fuel+1,listed,a,w,hw=>by
   refine ⟨fun hr=>h _ _ _ (hw.1 hr),fun i hi=>?_⟩
   have h1:=wpOpIn_mono (fun a' w'=>wpAnyIn_weak h fuel (listed.setIfInBounds i true) a' w') (hw.2 i hi)
   unfold wpOpIn at *
   split
   · rename_i ho;simpa [ho] using h1
   · rename_i o ho
     simp only [ho] at h1
     split
     · rename_i hwd
       simp only [hwd,if_true] at h1
       unfold Oper.wpIn at *
       refine ⟨h1.1,?_⟩
       have h2:=h1.2
       generalize (o.semAt F.round a.eval).run P w=r at *
       have hL:LetsOut Q' -> LetsOut Q:=fun ⟨a,w,q⟩=>⟨a,w,h _ _ _ q⟩
       cases r with
       | ok x w' =>
         cases x <;> simp only [Oper.uponIn] at h2 ⊢ <;> first | exact h2 | skip
         · refine ⟨h2.1,CallsIn.mono h2.2 fun e w'' he=>?_⟩
           cases e with
           | returned u=>exact he
           | panicked c=>exact h _ _ _ he
           | outgrown=>exact hL he
         · refine ⟨h2.1,RoundIn.mono h2.2 fun e w'' he=>?_⟩
           cases e with
           | returned u=>exact he
           | panicked c=>exact h _ _ _ he
           | outgrown=>exact hL he
       | halt x w' =>
         cases x <;> simp only [Oper.uponIn] at h2 ⊢ <;> first | exact h _ _ _ h2 | exact h2
     · rename_i hwd
       simp only [hwd] at h1
       exact h1
theorem late {ro:Option Nat} {n:Nat} {ops:Array Oper} {Q:Exit -> Act -> World -> Prop} {j:Nat} {oj:Oper} (hj:ops[j]? = some oj) {d s:Nat} {v:Value} (h1:d ∉ oj.looksAt ops) (h2:oj.dst ≠ some d) (h3:oj.dst ≠ some s) (h4:∀ c,oj.op ≠ .defer c) (h5:∀ cs b,oj.op ≠ .select cs b)
   (hQ:∀ c a w,¬ Q (.panic c) a w) {K:Act -> World -> Prop} {a:Act} {w:World} (h:wpOpIn (W ro) n P ops Q j K (a.put (some d) v) w) :
   wpOpIn (W ro) n P ops Q j (fun a' w'=>a'.eval (.tmp s)=a.eval (.tmp s) /\ K (a'.put (some d) v) w') a w:=by
 have h1':∀ t,some d=some t -> t ∉ oj.looksAt ops:=fun t e=>by cases e;exact h1
 have keep:∀ u,(a.put oj.dst u).eval (.tmp s)=a.eval (.tmp s):=fun u=>Act.eval_put fun t ht e=>by cases e;exact h3 ht
 have swap:∀ u,(a.put (some d) v).put oj.dst u=(a.put oj.dst u).put (some d) v:=fun u=>Act.put_comm a v u fun t ht=>by cases ht;exact h2
 unfold wpOpIn at *
 simp only [hj] at *
 rw [wanted_put oj a (some d) v h1',about_put oj w a (some d) v h1'] at h
 split
 · rename_i hw
   simp only [hw,if_true] at h
   unfold Oper.wpIn at *
   rw [about_put oj w a (some d) v h1'] at h
   refine ⟨h.1,?_⟩
   have h:=h.2
   rw [Oper.semAt_eq _ _ _ h4,execOp_put oj h5 a (some d) v h1'] at h
   rw [Oper.semAt_eq _ _ _ h4]
   generalize (execOp a.eval oj).run P w=r at *
   cases r with
   | ok x w' =>
     cases x <;> simp only [Oper.uponIn] at h ⊢
     case value u=>exact ⟨keep u,by rw [<- swap];exact h⟩
     case skip=>exact ⟨keep _,by rw [<- swap];exact h⟩
     case defer q =>
       refine ⟨Act.eval_put (a:={ a with defers:=q :: a.defers }) fun t ht e=>by cases e;exact h3 ht,?_⟩
       rw [<- Act.put_comm _ v undef (fun t ht=>by cases ht;exact h2),<- Act.put_defers]
       exact h
     case enter f args =>
       refine ⟨h.1,CallsIn.mono h.2 fun e w'' he=>?_⟩
       cases e with
       | returned u=>exact ⟨keep u,by rw [<- swap];exact he⟩
       | panicked c=>exact (hQ _ _ _ he).elim
       | outgrown=>exact he
     case row row args=>exact ⟨h.1,RowsIn.mono h.2 fun u w'' he=>⟨keep u,by rw [<- swap];exact he⟩⟩
     case round l f tmps assign body =>
       refine ⟨h.1,RoundIn.mono h.2 fun e w'' he=>?_⟩
       cases e with
       | returned u=>exact ⟨keep u,by rw [<- swap];exact he⟩
       | panicked c=>exact (hQ _ _ _ he).elim
       | outgrown=>exact he
   | halt x w' =>
     cases x <;> simp only [Oper.uponIn] at h ⊢
     case panic u=>exact (hQ _ _ _ h).elim
 · rename_i hw
   simp only [hw] at h
   exact ⟨h.1,keep _,by rw [<- swap];exact h.2⟩
theorem plainOps_spec {ops:Array Oper} (h:plainOps ops=true) {j:Nat} {o:Oper} (ho:ops[j]? = some o):(∀ c,o.op ≠ .defer c) /\ ∀ cs b,o.op ≠ .select cs b:=by
 have:=Array.all_eq_true_iff_forall_mem.1 h o (Array.mem_of_getElem? ho)
 constructor
 · intro c e;simp [e] at this
 · intro cs b e;simp [e] at this
theorem lazyOk_spec {ops:Array Oper} {i:Nat} {oi:Oper} {d s:Nat} (hi:ops[i]? = some oi) (hm:moveOf oi=some (d,s)) (h:lazyOk ops i=true) :
   ∀ (j:Nat) (oj:Oper),ops[j]? = some oj -> j ≠ i -> (∀ e,e ∈ oj.after -> Region.binds .any e=true -> e.on ≠ i) -> (∀ e,e ∈ oi.after -> Region.binds .any e=true -> e.on ≠ j) -> d ∉ oj.looksAt ops /\ oj.dst ≠ some d /\ oj.dst ≠ some s:=by
 unfold lazyOk at h
 rw [hi] at h
 simp only [hm,Bool.and_eq_true] at h
 obtain ⟨_,h3⟩:=h
 intro j oj hj hne hno hno2
 have h4:=List.all_eq_true.1 h3 j (List.mem_range.2 (Array.getElem?_eq_some_iff.1 hj).1)
 simp only [hj,Bool.or_eq_true,beq_iff_eq,hne,false_or,Bool.and_eq_true,Bool.not_eq_true',beq_eq_false_iff_ne] at h4
 refine ⟨?_,h4.1.2,?_⟩
 · rcases h4.1.1 with h5 | h5
   · obtain ⟨e,he,hb⟩:=Array.any_eq_true'.1 h5
     simp only [Bool.and_eq_true,beq_iff_eq] at hb
     exact absurd hb.2 (hno e he hb.1)
   · simpa using h5
 · rcases h4.2 with h5 | h5
   · obtain ⟨e,he,hb⟩:=Array.any_eq_true'.1 h5
     simp only [Bool.and_eq_true,beq_iff_eq] at hb
     exact absurd hb.2 (hno2 e he hb.1)
   · exact h5
theorem early {ro:Option Nat} {n:Nat} {ops:Array Oper} {Q:Exit -> Act -> World -> Prop} {i:Nat} {oi:Oper} {d s:Nat} (hi:ops[i]? = some oi) (hm:moveOf oi=some (d,s)) (hl:lazyOk ops i=true) (hp:plainOps ops=true) (hQ:∀ c a w,¬ Q (.panic c) a w) {u:Value} :
   ∀ (fuel:Nat) (listed:Array Bool) (a:Act) (w:World),listed.getD i true=false -> (∀ e,e ∈ oi.after -> Region.binds .any e=true -> listed.getD e.on false=true) -> (∀ w2,(execOp a.eval oi).run P w2=.ok (.value u) w2) ->
     wpAnyIn (W ro) n P .any ops Q fuel (listed.setIfInBounds i true) (a.put (some d) u) w -> wpAnyIn (W ro) n P .any ops Q (fuel+1) listed a w:=by
 have l2:=lazyOk_spec hi hm hl
 obtain ⟨m1,m2,m3⟩:=moveOf_spec hm
 have ready:∀ listed:Array Bool,listed.getD i true=false -> (∀ e,e ∈ oi.after -> Region.binds .any e=true -> listed.getD e.on false=true) -> i ∈ Region.ready .any ops listed:=fun listed h k=>mem_ready.2 ⟨h,oi,hi,k⟩
 have nodef:∀ c,oi.op ≠ .defer c:=fun c e=>by
   rcases m1 with m1 | ⟨_,m1⟩ <;> rw [m1] at e <;> cases e
 have now:∀ {K:Act -> World -> Prop} {a:Act} {w:World},(∀ w2,(execOp a.eval oi).run P w2=.ok (.value u) w2) -> K (a.put (some d) u) w -> wpOpIn (W ro) n P ops Q i K a w:=fun {K a w} hr h=>by
   unfold wpOpIn
   rw [hi]
   simp only [wanted_move hm,if_true]
   refine ⟨fun _ _=>trivial,?_⟩
   rw [Oper.semAt_eq _ _ _ nodef,hr]
   show K (a.put oi.dst _) w
   rw [m2];exact h
 intro fuel
 induction fuel with
 | zero =>
   intro listed a w hun haf hr H
   refine ⟨fun h=>(by have:=ready listed hun haf;rw [h] at this;cases this),fun j hj=>?_⟩
   by_cases hji:j=i
   · subst hji;exact now hr H
   · have:=ready_mono hj hji
     rw [H.1] at this;cases this
 | succ fuel ih =>
   intro listed a w hun haf hr H
   refine ⟨fun h=>(by have:=ready listed hun haf;rw [h] at this;cases this),fun j hj=>?_⟩
   by_cases hji:j=i
   · subst hji;exact now hr H
   · have h1:=H.2 j (ready_mono hj hji)
     obtain ⟨hju,oj,hoj,hall⟩:=mem_ready.1 hj
     have hno:∀ e,e ∈ oj.after -> Region.binds .any e=true -> e.on ≠ i:=fun e he hb heq=>by
       have h1:=hall e he hb
       rw [heq] at h1
       rcases Nat.lt_or_ge i listed.size with h' | h'
       · simp [h'] at hun h1;rw [hun] at h1;cases h1
       · simp [Array.getElem?_eq_none h'] at h1
     have hno2:∀ e,e ∈ oi.after -> Region.binds .any e=true -> e.on ≠ j:=fun e he hb heq=>by
       have h1:=haf e he hb
       rw [heq] at h1
       rcases Nat.lt_or_ge j listed.size with h' | h'
       · simp [h'] at hju h1;rw [hju] at h1;cases h1
       · simp [Array.getElem?_eq_none h'] at h1
     obtain ⟨p1,p2,p3⟩:=l2 j oj hoj hji hno hno2
     obtain ⟨p4,p5⟩:=plainOps_spec hp hoj
     have h2:=late hoj p1 p2 p3 p4 p5 hQ h1
     refine wpOpIn_mono (fun a' w' h3=>?_) h2
     obtain ⟨h3,h4⟩:=h3
     refine ih (listed.setIfInBounds j true) a' w' (by rw [getD_set_ne true hji];exact hun) (fun e he hb=>getD_set_keep (haf e he hb)) (fun w2=>by rw [exec_move hm h3];exact hr w2) ?_
     rw [Array.setIfInBounds_comm _ _ hji]
     exact h4
theorem mem_upd_self {l:List (Nat × Own)} {k:Nat} {o o0:Own} (h:(k,o0) ∈ l):(k,o) ∈ upd l k o:=List.mem_map.2 ⟨(k,o0),h,by simp⟩
theorem mem_upd_ne {l:List (Nat × Own)} {k k':Nat} {o o':Own} (h:(k',o') ∈ l) (hn:k' ≠ k):(k',o') ∈ upd l k o:=List.mem_map.2 ⟨(k',o'),h,by simp [hn]⟩
theorem lookupO_nodup {k:Nat} {o:Own}:∀ {l:List (Nat × Own)},(l.map (·.1)).Nodup -> (k,o) ∈ l -> lookupO l k=some o
 | [],_,h=>by cases h
 | (k',o') :: l,hn,h=>by
   simp only [List.map_cons,List.nodup_cons] at hn
   simp only [lookupO]
   rcases List.mem_cons.1 h with h | h
   · cases h;simp
   · have:k' ≠ k:=fun e=>hn.1 (by rw [e];exact List.mem_map.2 ⟨(k,o),h,rfl⟩)
     rw [if_neg (by simpa using this)]
     exact lookupO_nodup hn.2 h
theorem namesL_set {k:Nat}:∀ (cs:List EV) (off:Nat) (e:EV),EV.names.namesL k cs=false -> e.names k=false -> EV.names.namesL k (cs.set off e)=false
 | [],_,_,h,_=>h
 | c :: cs,0,e,h,he=>by
   simp only [EV.names.namesL,Bool.or_eq_false_iff,List.set_cons_zero] at h ⊢
   exact ⟨he,h.2⟩
 | c :: cs,off+1,e,h,he=>by
   simp only [EV.names.namesL,Bool.or_eq_false_iff,List.set_cons_succ] at h ⊢
   exact ⟨h.1,namesL_set cs off e h.2 he⟩
theorem namesL_setAt {k:Nat}:∀ (l:List EV) (cs:List EV) (off:Nat),EV.names.namesL k cs=false -> (∀ e,e ∈ l -> e.names k=false) -> EV.names.namesL k (setAt cs off l)=false
 | [],cs,off,h,_=>h
 | e :: l,cs,off,h,hl=>namesL_setAt l _ _ (namesL_set cs off e h (hl e (by simp))) (fun e' he'=>hl e' (by simp [he']))
theorem allP_names {k:Nat}:∀ {l:List EV},(allP l).isSome=true -> ∀ e,e ∈ l -> e.names k=false
 | [],_,e,h=>by cases h
 | c :: l,h,e,he=>by
   cases c with
   | p s =>
     simp only [allP,Option.isSome_map] at h
     rcases List.mem_cons.1 he with rfl | he
     · rfl
     · exact allP_names h e he
   | _=>simp [allP] at h
theorem getD_set_other {l:Array Bool} {i j:Nat} (h:j ≠ i):(l.setIfInBounds i true).getD j false=l.getD j false:=by
 rw [Array.getD_eq_getD_getElem?,Array.getElem?_setIfInBounds,if_neg (fun e=>h e.symm),Array.getD_eq_getD_getElem?]
theorem execDraw_ok0 (hG:Stable G) {C:Cfg} (hC:SpecsOk P G C) {ro:Option Nat} {n:Nat} {ops:Array Oper} {Q:Exit -> Act -> World -> Prop} {K:St -> Prop} (hK:∀ st a w,K st -> Sat P G st a w -> Q .normal a w) (hQ:∀ c a w,¬ Q (.panic c) a w)
   {st:St} (h:execDraw P C ops st K) {a:Act} {w:World} (hs:Sat P G st a w):wpAnyIn (W ro) n P .any ops Q ops.size (Array.replicate ops.size false) a w:=by
 unfold execDraw execDraw1 at h
 generalize hstf:(st.noGuards ops.toList).forgets (allocDs P ops.toList)=stf at h
 generalize hE:exOwn ops stf.own=E at h
 generalize drawLen P C ops E ops.toList (stf.minus ops)=k at h
 split at h
 · rename_i hchk0
   simp only [Bool.and_eq_true] at hchk0
   obtain ⟨hchk,hsuf⟩:=hchk0
   obtain ⟨Z,eZ⟩:∃ Z,lazies ops k=Z:=⟨_,rfl⟩
   rw [eZ] at hsuf
   have hZ:∀ z,z ∈ Z -> z < k /\ z < ops.size /\ lazyOk ops z=true /\ plainOps ops=true:=fun z hz=>by
     rw [<- eZ] at hz
     unfold lazies at hz
     split at hz
     · rename_i hc
       rw [Bool.and_eq_true] at hc
       obtain ⟨h1,h2⟩:=List.mem_filter.1 hz
       rw [Bool.and_eq_true] at h2
       have:=List.mem_range.1 h1
       have h3:k < ops.size:=of_decide_eq_true hc.1
       exact ⟨this,by omega,h2.1,hc.2⟩
     · cases hz
   have taken:∀ {i:Nat} {o:Oper},i < k -> ops[i]? = some o -> (ops.toList.take k)[i]? = some o:=fun hi h=>by rw [List.getElem?_take,if_pos hi];simpa using h
   have untake:∀ {i:Nat} {o:Oper},(ops.toList.take k)[i]? = some o -> i < k /\ ops[i]? = some o:=fun {i o} h=>by
     rw [List.getElem?_take] at h
     split at h
     · exact ⟨by assumption,by simpa using h⟩
     · cases h
   split at h
   · rename_i ps es stF hgo
     split at h
     rotate_left
     · exact h.elim
     rename_i hac
     obtain ⟨hac,hnda⟩:=Bool.and_eq_true_iff.1 hac
     have hnda:=nodupB_ok hnda
     obtain ⟨hps,hKF⟩:=conj_spec h
     generalize hst0:stf.minus ops=st00 at *
     have hstT:∀ x,x ∈ st00.T -> x ∈ (st.noGuards ops.toList).T /\ ∀ d,d ∈ allocDs P ops.toList -> x.2.v.names d=false:=fun x hx=>by rw [<- hst0] at hx;have hx:x ∈ stf.T:=hx;rw [<- hstf] at hx;exact forgets_T _ hx
     have hstO:=forgets_own (st.noGuards ops.toList) (allocDs P ops.toList)
     rw [hstf] at hstO
     have h0T:∀ x,x ∈ st00.T ↔ x ∈ stf.T:=fun x=>by rw [<- hst0];exact Iff.rfl
     have h0O:∀ x,x ∈ st00.own ↔ x ∈ stf.own /\ (exOk ops x.1 && isBlk x.2)=false:=fun x=>by
       rw [<- hst0]
       show x ∈ stf.own.filter _ ↔ _
       rw [List.mem_filter,Bool.not_eq_true']
     have hEm:∀ x,x ∈ E ↔ x ∈ stf.own /\ (exOk ops x.1 && isBlk x.2)=true:=fun x=>by
       rw [<- hE];exact List.mem_filter
     have h0yk:st00.yk=stf.yk /\ st00.stop=stf.stop /\ st00.nt=stf.nt:=by rw [<- hst0];exact ⟨rfl,rfl,rfl⟩
     obtain ⟨hlen,⟨twF,hF⟩,hat⟩:=drawGo_at _ _ _ _ _ hgo
     have hchk':=fun i o hi=>drawChk_at (ops.toList.take k) 0 hchk i o hi
     simp only [Nat.zero_add] at hchk'
     have oper:∀ {i:Nat} {o:Oper},ops[i]? = some o -> ops.toList[i]? = some o:=fun h=>by simpa using h
     have noG:∀ x,x ∈ st00.T -> ∀ (j:Nat) (oj:Oper) d,ops[j]? = some oj -> oj.dst=some d -> x.2.by d=false:=fun x hx j oj d hj hd=>by
       have h1:=(List.mem_filter.1 (hstT x hx).1).2
       simp only [Bool.not_eq_true',List.any_eq_false] at h1
       have:=h1 oj (List.mem_of_getElem? (oper hj))
       rw [hd] at this
       simpa using this
     have hsub:Sat P G stf a w:=by
       obtain ⟨env,M,X,S⟩:=hs
       exact ⟨env,M,X,S.sub (fun x hx=>(List.mem_filter.1 (hstT x ((h0T x).2 hx)).1).1) (fun _ hx=>by rw [hstO.1] at hx;exact hx) (by rw [hstO.1];exact S.nod) hstO.2.1 hstO.2.2.2⟩
     have hndf:(stf.own.map (·.1)).Nodup:=by obtain ⟨_,_,_,S⟩:=hsub;exact S.nod
     have hnd0:(st00.own.map (·.1)).Nodup:=by
       rw [<- hst0]
       exact hndf.sublist (List.Sublist.map _ List.filter_sublist)
     have hkey:∀ x y,x ∈ stf.own -> y ∈ stf.own -> x.1=y.1 -> x=y:=fun x y hx hy e=>by
       have h1:=lookupO_nodup (k:=x.1) (o:=x.2) hndf hx
       have h2:=lookupO_nodup (k:=y.1) (o:=y.2) hndf hy
       rw [e,h2] at h1
       injection h1 with h1
       exact Prod.ext e h1.symm
     have exNo:∀ (d:Nat),exOk ops d=true -> ∀ (j:Nat) (oj:Oper),ops[j]? = some oj -> oj.dst ≠ some d:=fun d hd j oj hj hdst=>by
       unfold exOk at hd
       simp only [Bool.and_eq_true,Bool.not_eq_true',List.any_eq_false] at hd
       exact hd.2.2 oj (List.mem_of_getElem? (oper hj)) (by simp [makesIt,hdst])
     have stA:∀ (js:Nat) (os:Oper) (t:TypeId) (d:Nat) (x:Operand),js < k -> ops[js]? = some os -> storeOf os=some (t,d,x) -> ops.toList.any (madeBy t d)=true -> ∃ (i0:Nat) (o0:Oper),i0 < js /\ ops[i0]? = some o0 /\ o0.dst=some d /\ ∃ e,e ∈ os.after /\ Region.binds .any e=true /\ e.on=i0:=by
       intro js os t d x hjk hj hs hmade
       obtain ⟨sti,psi,e,hstep,_,_,_,hTi⟩:=hat js os (taken hjk hj)
       obtain ⟨y,hy,hb,_⟩:=drawStore_spec hs hstep
       have hdd:d ∈ allocDs P ops.toList:=by
         obtain ⟨om,hm1,hm2⟩:=List.any_eq_true.1 hmade
         unfold madeBy at hm2
         split at hm2
         · rename_i t' d' h1 h2
           simp only [Bool.and_eq_true,beq_iff_eq] at hm2
           obtain ⟨rfl,rfl⟩:=hm2
           refine mem_allocDs (o:=om) (o':=.blk t' (y.zero.cells.toList.map fun v=>.p (svOf v))) hm1 ?_
           unfold newOwnOf
           rw [h1,h2]
           simp [hy]
         · cases hm2
       obtain ⟨en,hen,hev⟩:∃ en,lookupT (sti.only (slotsOf ops os)).T d=some en /\ en.v=.loc d 0:=by
         unfold St.rho St.ent at hb
         simp only at hb
         split at hb
         · rename_i en hen
           split at hb
           · injection hb with hb;exact ⟨en,hen,hb⟩
           · cases hb
         · cases hb
       have hm:=lookupT_mem hen
       obtain ⟨hm1,hm2⟩:=List.mem_filter.1 hm
       have hds:d ∈ slotsOf ops os:=by simpa using hm2
       rcases hTi _ hm1 with ⟨h1,_⟩ | ⟨j,oj,hlt,hj',hd,_⟩
       · have:=(hstT _ h1).2 d hdd
         simp only [hev] at this
         simp [EV.names] at this
       · have:=((hchk' js os (taken hjk hj)).2 j oj d (by omega) hj' hd).2.1 hds
         rw [if_pos hlt] at this
         obtain ⟨e',he',hb',hon⟩:=aft_spec this
         exact ⟨j,oj,hlt,(untake hj').2,hd,e',he',hb',hon⟩
     have plainC:∀ (js:Nat) (os:Oper) (t:TypeId) (d:Nat) (x:Operand) (e:Ent),js < k -> ops[js]? = some os -> storeOf os=some (t,d,x) -> es[js]? = some e -> (allP (cellsE e.v)).isSome=true:=by
       intro js os t d x e hjk hj hs he
       obtain ⟨sti,psi,e',hstep,hes,_,_,_⟩:=hat js os (taken hjk hj)
       rw [he] at hes;cases hes
       obtain ⟨_,_,_,_,_,_,_,_,_,_,hp⟩:=drawStore_spec hs hstep
       exact hp
     have contN:∀ (q:Nat -> Bool) (z:Nat × Own),(∀ j,q j=true -> j < k) -> ∀ k',z.2.names k'=false -> (contL ops es q z).2.names k'=false:=by
       intro q z hq k' hz
       unfold contL
       split
       · rename_i t cs j h1 h2
         split
         · rename_i e hqj hej
           obtain ⟨os,t',x',hos,hso⟩:=stIdx_spec h2
           have hz':=hz
           rw [h1] at hz'
           exact namesL_setAt _ _ _ hz' (allP_names (plainC j os t' z.1 x' e (hq j hqj) hos hso hej))
         · exact hz
       · exact hz
     have step : ∀ (listed : Array Bool) (a : Act) (w : World), Inv P G ops E st00 es listed a w -> (∀ i, listed.getD i false = true -> i < k) -> ∀ (i:Nat) (o : Oper), i < k -> ops[i]? = some o -> listed.getD i false = false -> (∀ e, e ∈ o.after -> Region.binds .any e = true -> listed.getD e.on false = true) ->
         (Region.wanted o (yielded ops a.tmps)=true -> Leads P a o w (fun a' w'=>Inv P G ops E st00 es (listed.setIfInBounds i true) a' w')) /\ (¬ Region.wanted o (yielded ops a.tmps)=true -> Inv P G ops E st00 es (listed.setIfInBounds i true) (a.put o.dst undef) w):=by
         intro listed a w inv hpre i o hik ho hunl hafter
         have hisz:=(Array.getElem?_eq_some_iff.1 ho).1
         have hilt:i < listed.size:=by rw [inv.siz];exact hisz
         obtain ⟨c1,c2⟩:=hchk' i o (taken hik ho)
         obtain ⟨sti,psi,e,hstep,hes,hpsi,twi,hTi⟩:=hat i o (taken hik ho)
         obtain ⟨st2,tw,hO,hT,env,M,X,S⟩:=inv.sat
         have S2:SatC P G (sti.only (slotsOf ops o)) a w env M X:=by
           refine S.sub (fun x hx=>(hT x).2 ?_) (fun x hx=>(hO x).2 (.inl (by rw [<- twi.1];exact hx))) (by show (sti.own.map (·.1)).Nodup;rw [twi.1];exact hnd0) (twi.2.1.trans tw.1.symm) (twi.2.2.2.trans tw.2.2.symm)
           obtain ⟨hx1,hx2⟩:=List.mem_filter.1 hx
           have hx2:x.1 ∈ slotsOf ops o:=by simpa using hx2
           rcases hTi x hx1 with ⟨h1,h2⟩ | ⟨j,oj,hlt,hj,hd,he⟩
           · refine .inl ⟨h1,fun j oj hj hl hd=>?_⟩
             have hne:j ≠ i:=fun e=>by subst e;rw [hunl] at hl;cases hl
             rcases Nat.lt_or_ge j i with hlt | hge
             · exact h2 j oj hlt (taken (hpre j hl) hj) hd
             · have:=(c2 j oj _ hne (taken (hpre j hl) hj) hd).2.1 hx2
               rw [if_neg (by omega)] at this
               obtain ⟨e',he',hb',hon⟩:=aft_spec this
               have:=inv.clo j oj hj hl e' he' hb'
               rw [hon,hunl] at this;cases this
           · have hj':ops[j]? = some oj:=(untake hj).2
             have:=(c2 j oj _ (by omega) hj hd).2.1 hx2
             rw [if_pos hlt] at this
             obtain ⟨e',he',hb',hon⟩:=aft_spec this
             have hl:=hafter e' he' hb'
             rw [hon] at hl
             exact .inr ⟨j,oj,hj',hl,hd,he⟩
         cases hso:storeOf o with
         | some sx =>
           obtain ⟨t,d,x⟩:=sx
           obtain ⟨y,hy,hb,hx,heg,s1c,s2c,hmk,huse,hone,hplain⟩:=drawStore_spec hso hstep
           obtain ⟨s1,s2,s3⟩:=storeOf_spec hso
           have hwant:Region.wanted o (yielded ops a.tmps)=true:=by simp [Region.wanted,s3]
           have hst:=stIdx_at ho hso huse
           rcases hmk with ⟨hmade,hmake⟩ | ⟨hex,hblk⟩
           rotate_left
           · obtain ⟨t0, cs, hlE, hcs⟩ : ∃ t0 cs, lookupO E d = some (.blk t0 cs) /\ y.size <= cs.length := by
               unfold blkOf at hblk
               split at hblk
               · rename_i t0 cs hl;exact ⟨t0,cs,hl,of_decide_eq_true hblk⟩
               · cases hblk
             have hdE:=lookupO_mem hlE
             have hdf:=((hEm _).1 hdE).1
             have hmem:(d,Own.blk t0 cs) ∈ st2.own:=(hO _).2 (.inr (.inr ⟨_,hdE,(contL_not (fun j hj=>by rw [hst] at hj;cases hj;exact hunl)).symm⟩))
             have hlk:=lookupO_nodup S.nod hmem
             have hsym:symStore st2 y (.loc d 0) e.v=some ([],{ st2 with own:=upd st2.own d (.blk t0 (setAt cs 0 (cellsE e.v))) }):=by
               simp only [symStore,hlk]
               rw [if_pos ⟨s1c,by omega,hone⟩]
             obtain ⟨w',hr,S'⟩:=symStore_ok hG S hy hsym all_nil (rho_ok S2 (gd:=none) (fun _ _ _ h=>(by cases h)) trivial hb) (rho_ok S2 (gd:=none) (fun _ _ _ h=>(by cases h)) trivial hx)
             refine ⟨fun _=>⟨fun c hc=>(by rw [s1] at hc;cases hc),.inr (.inl ⟨w',(by simp only [execOp,s1];exact run_unit hr),?_⟩)⟩,fun hn=>absurd hwant hn⟩
             rw [s2]
             have hcg:∀ y':Nat × Own,y'.1 ≠ d -> contL ops es (fun j=>(listed.setIfInBounds i true).getD j false) y'=contL ops es (fun j=>listed.getD j false) y':=fun y' hyd=>contL_congr fun js hjs=>getD_set_other fun e=>by
               subst e
               obtain ⟨o',t',x',ho',hs'⟩:=stIdx_spec hjs
               rw [ho] at ho';cases ho'
               rw [hso] at hs';cases hs'
               exact hyd rfl
             have hnew:contL ops es (fun j=>(listed.setIfInBounds i true).getD j false) (d,.blk t0 cs)=(d,.blk t0 (setAt cs 0 (cellsE e.v))):=by
               unfold contL
               simp only [hst,getD_set_self hilt,hes]
             refine ⟨by simpa using inv.siz,fun j oj hj hl e' he' hb'=>?_,{ st2 with own:=upd st2.own d (.blk t0 (setAt cs 0 (cellsE e.v))) },⟨tw.1,tw.2.1,tw.2.2⟩,fun z=>⟨fun hz=>?_,fun hz=>?_⟩,fun z=>⟨fun hz=>?_,fun hz=>?_⟩,env,M,X,S'⟩
             · rcases getD_set_of hl with rfl | hl
               · rw [ho] at hj;cases hj
                 exact getD_set_keep (hafter e' he' hb')
               · exact getD_set_keep (inv.clo j oj hj hl e' he' hb')
             · rcases mem_upd (k':=z.1) (o':=z.2) hz with ⟨h1,h2,_⟩ | ⟨h1,h2⟩
               · refine .inr (.inr ⟨_,hdE,?_⟩)
                 rw [hnew]
                 exact Prod.ext h1 h2
               · rcases (hO z).1 h2 with h | ⟨j,oj,hj,hl,y',hy',rfl⟩ | ⟨y',hy',rfl⟩
                 · exact .inl h
                 · rw [contL_fst] at h1
                   exact .inr (.inl ⟨j,oj,hj,getD_set_keep hl,y',hy',(hcg y' h1).symm⟩)
                 · rw [contL_fst] at h1
                   exact .inr (.inr ⟨y',hy',(hcg y' h1).symm⟩)
             · rcases hz with h | ⟨j,oj,hj,hl',y',hy',rfl⟩ | ⟨y',hy',rfl⟩
               · have hzd : z.1 ≠ d := fun ed => by
                   obtain ⟨q1,q2⟩:=(h0O z).1 h
                   have:=hkey z _ q1 hdf ed
                   rw [this,hex] at q2
                   cases q2
                 exact mem_upd_ne (k':=z.1) (o':=z.2) ((hO z).2 (.inl h)) hzd
               · obtain ⟨e1,e2⟩:=newOwnOf_dst (d:=y'.1) (o':=y'.2) hy'
                 have hyd:y'.1 ≠ d:=fun ed=>exNo d hex j oj hj (by rw [e1,ed])
                 rcases getD_set_of hl' with rfl | hl
                 · rw [ho] at hj;cases hj
                   unfold newOwnOf at hy'
                   rw [s1] at hy';cases hy'
                 · rw [hcg y' hyd]
                   exact mem_upd_ne (k':=(contL ops es (fun j=>listed.getD j false) y').1) (o':=(contL ops es (fun j=>listed.getD j false) y').2) ((hO _).2 (.inr (.inl ⟨j,oj,hj,hl,y',hy',rfl⟩))) (by rw [contL_fst];exact hyd)
               · by_cases hyd:y'.1=d
                 · have:=hkey y' _ ((hEm y').1 hy').1 hdf hyd
                   subst this
                   rw [hnew]
                   exact mem_upd_self hmem
                 · rw [hcg y' hyd]
                   exact mem_upd_ne (k':=(contL ops es (fun j=>listed.getD j false) y').1) (o':=(contL ops es (fun j=>listed.getD j false) y').2) ((hO _).2 (.inr (.inr ⟨y',hy',rfl⟩))) (by rw [contL_fst];exact hyd)
             · rcases (hT z).1 hz with ⟨h1,h2⟩ | ⟨j,oj,hj,hl,hd,he⟩
               · refine .inl ⟨h1,fun j oj hj hl hd=>?_⟩
                 rcases getD_set_of hl with rfl | hl
                 · rw [ho] at hj;cases hj
                   rw [s2] at hd;cases hd
                 · exact h2 j oj hj hl hd
               · exact .inr ⟨j,oj,hj,getD_set_keep hl,hd,he⟩
             · refine (hT z).2 ?_
               rcases hz with ⟨h1,h2⟩ | ⟨j,oj,hj,hl',hd,he⟩
               · exact .inl ⟨h1,fun j oj hj hl=>h2 j oj hj (getD_set_keep hl)⟩
               · rcases getD_set_of hl' with rfl | hl
                 · rw [ho] at hj;cases hj
                   rw [s2] at hd;cases hd
                 · exact .inr ⟨j,oj,hj,hl,hd,he⟩
           obtain ⟨i0,o0,hi0,ho0,hd0,e0,he0,hb0,hon0⟩:=stA i o t d x hik ho hso hmade
           have hl0:listed.getD i0 false=true:=by rw [<- hon0];exact hafter e0 he0 hb0
           have hnew0:newOwnOf P o0 = [(d,.blk t (y.zero.cells.toList.map fun v=>.p (svOf v)))]:=by
             obtain ⟨om,hm1,hm2⟩:=List.any_eq_true.1 hmade
             obtain ⟨im,him⟩:=List.getElem?_of_mem hm1
             have hm3:=hm2
             unfold madeBy at hm3
             split at hm3
             · rename_i t' d' h1 h2
               simp only [Bool.and_eq_true,beq_iff_eq] at hm3
               obtain ⟨rfl,rfl⟩:=hm3
               have:=oneOf_at hmake him (oper ho0) (by simp [makesIt,h2]) (by simp [makesIt,hd0])
               subst this
               rw [oper ho0] at him;cases him
               unfold newOwnOf
               rw [h1,h2]
               simp [hy]
             · cases hm3
           have hmem:(d,Own.blk t (y.zero.cells.toList.map fun v=>.p (svOf v))) ∈ st2.own:=(hO _).2 (.inr (.inl ⟨i0,o0,ho0,hl0,_,by rw [hnew0];exact List.mem_singleton.2 rfl,(contL_not (fun j hj=>by rw [hst] at hj;cases hj;exact hunl)).symm⟩))
           have hlk:=lookupO_nodup S.nod hmem
           have hsym:symStore st2 y (.loc d 0) e.v=some ([],{ st2 with own:=upd st2.own d (.blk t (setAt (y.zero.cells.toList.map fun v=>.p (svOf v)) 0 (cellsE e.v))) }):=by
             simp only [symStore,hlk]
             rw [if_pos ⟨s1c,by simp [s2c],hone⟩]
           obtain ⟨w',hr,S'⟩:=symStore_ok hG S hy hsym all_nil (rho_ok S2 (gd:=none) (fun _ _ _ h=>(by cases h)) trivial hb) (rho_ok S2 (gd:=none) (fun _ _ _ h=>(by cases h)) trivial hx)
           refine ⟨fun _=>⟨fun c hc=>(by rw [s1] at hc;cases hc),.inr (.inl ⟨w',(by simp only [execOp,s1];exact run_unit hr),?_⟩)⟩,fun hn=>absurd hwant hn⟩
           rw [s2]
           refine ⟨by simpa using inv.siz,fun j oj hj hl e' he' hb'=>?_,{ st2 with own:=upd st2.own d (.blk t (setAt (y.zero.cells.toList.map fun v=>.p (svOf v)) 0 (cellsE e.v))) },⟨tw.1,tw.2.1,tw.2.2⟩,fun z=>⟨fun hz=>?_,fun hz=>?_⟩,fun z=>⟨fun hz=>?_,fun hz=>?_⟩,env,M,X,S'⟩
           · rcases getD_set_of hl with rfl | hl
             · rw [ho] at hj;cases hj
               exact getD_set_keep (hafter e' he' hb')
             · exact getD_set_keep (inv.clo j oj hj hl e' he' hb')
           · rcases mem_upd (k':=z.1) (o':=z.2) hz with ⟨h1,h2,_⟩ | ⟨h1,h2⟩
             · refine .inr (.inl ⟨i0,o0,ho0,getD_set_keep hl0,_,by rw [hnew0];exact List.mem_singleton.2 rfl,?_⟩)
               unfold contL
               simp only [hst,getD_set_self hilt,hes]
               exact Prod.ext h1 h2
             · rcases (hO z).1 h2 with h | ⟨j,oj,hj,hl,y',hy',rfl⟩ | ⟨y',hy',rfl⟩
               · exact .inl h
               · refine .inr (.inl ⟨j,oj,hj,getD_set_keep hl,y',hy',contL_congr fun js hjs=>(getD_set_other fun e=>?_).symm⟩)
                 subst e
                 obtain ⟨o',t',x',ho',hs'⟩:=stIdx_spec hjs
                 rw [ho] at ho';cases ho'
                 rw [hso] at hs';cases hs'
                 rw [contL_fst] at h1
                 exact h1 rfl
               · refine .inr (.inr ⟨y',hy',contL_congr fun js hjs=>(getD_set_other fun e=>?_).symm⟩)
                 subst e
                 obtain ⟨o',t',x',ho',hs'⟩:=stIdx_spec hjs
                 rw [ho] at ho';cases ho'
                 rw [hso] at hs';cases hs'
                 rw [contL_fst] at h1
                 exact h1 rfl
           · rcases hz with h | ⟨j,oj,hj,hl',y',hy',rfl⟩ | ⟨y',hy',rfl⟩
             · have hdd:d ∈ allocDs P (ops.toList.take k):=mem_allocDs (o:=o0) (o':=.blk t (y.zero.cells.toList.map fun v=>.p (svOf v))) (List.mem_of_getElem? (taken (hpre i0 hl0) ho0)) (by rw [hnew0];exact List.mem_singleton.2 rfl)
               obtain ⟨n1,_⟩:=allocChk_spec hac d hdd
               exact mem_upd_ne (k':=z.1) (o':=z.2) ((hO z).2 (.inl h)) (noName_own (k':=z.1) (o:=z.2) n1 ((h0O z).1 h).1).1
             · rcases getD_set_of hl' with rfl | hl
               · rw [ho] at hj;cases hj
                 unfold newOwnOf at hy'
                 rw [s1] at hy';cases hy'
               · obtain ⟨e1,e2⟩:=newOwnOf_dst (d:=y'.1) (o':=y'.2) hy'
                 by_cases hyd:y'.1=d
                 · have:=oneOf_at hmake (oper hj) (oper ho0) (by simp [makesIt,e1,hyd]) (by simp [makesIt,hd0])
                   subst this
                   rw [hj] at ho0;cases ho0
                   rw [hnew0] at hy'
                   have hy':=List.mem_singleton.1 hy'
                   subst hy'
                   have:contL ops es (fun j=>(listed.setIfInBounds i true).getD j false) (d,.blk t (y.zero.cells.toList.map fun v=>.p (svOf v)))=(d,.blk t (setAt (y.zero.cells.toList.map fun v=>.p (svOf v)) 0 (cellsE e.v))):=by
                     unfold contL
                     simp only [hst,getD_set_self hilt,hes]
                   rw [this]
                   exact mem_upd_self hmem
                 · have hc : contL ops es (fun j => (listed.setIfInBounds i true).getD j false) y' = contL ops es (fun j => listed.getD j false) y' := contL_congr fun js hjs => getD_set_other fun e => by
                     subst e
                     obtain ⟨o',t',x',ho',hs'⟩:=stIdx_spec hjs
                     rw [ho] at ho';cases ho'
                     rw [hso] at hs';cases hs'
                     exact hyd rfl
                   rw [hc]
                   exact mem_upd_ne (k':=(contL ops es (fun j=>listed.getD j false) y').1) (o':=(contL ops es (fun j=>listed.getD j false) y').2) ((hO _).2 (.inr (.inl ⟨j,oj,hj,hl,y',hy',rfl⟩))) (by rw [contL_fst];exact hyd)
             · have hyd : y'.1 ≠ d := fun ed => by
                 have hx1:=((hEm y').1 hy').2
                 rw [Bool.and_eq_true,ed] at hx1
                 exact exNo d hx1.1 i0 o0 ho0 hd0
               have hc:contL ops es (fun j=>(listed.setIfInBounds i true).getD j false) y'=contL ops es (fun j=>listed.getD j false) y':=contL_congr fun js hjs=>getD_set_other fun e=>by
                 subst e
                 obtain ⟨o',t',x',ho',hs'⟩:=stIdx_spec hjs
                 rw [ho] at ho';cases ho'
                 rw [hso] at hs';cases hs'
                 exact hyd rfl
               rw [hc]
               exact mem_upd_ne (k':=(contL ops es (fun j=>listed.getD j false) y').1) (o':=(contL ops es (fun j=>listed.getD j false) y').2) ((hO _).2 (.inr (.inr ⟨y',hy',rfl⟩))) (by rw [contL_fst];exact hyd)
           · rcases (hT z).1 hz with ⟨h1,h2⟩ | ⟨j,oj,hj,hl,hd,he⟩
             · refine .inl ⟨h1,fun j oj hj hl hd=>?_⟩
               rcases getD_set_of hl with rfl | hl
               · rw [ho] at hj;cases hj
                 rw [s2] at hd;cases hd
               · exact h2 j oj hj hl hd
             · exact .inr ⟨j,oj,hj,getD_set_keep hl,hd,he⟩
           · refine (hT z).2 ?_
             rcases hz with ⟨h1,h2⟩ | ⟨j,oj,hj,hl',hd,he⟩
             · exact .inl ⟨h1,fun j oj hj hl=>h2 j oj hj (getD_set_keep hl)⟩
             · rcases getD_set_of hl' with rfl | hl
               · rw [ho] at hj;cases hj
                 rw [s2] at hd;cases hd
               · exact .inr ⟨j,oj,hj,hl,hd,he⟩
         | none =>
         have hns:∀ js,(∃ o' t' d' x',ops[js]? = some o' /\ storeOf o'=some (t',d',x')) -> js ≠ i:=fun js ⟨o',t',d',x',ho',hs'⟩ e=>by
           subst e
           rw [ho] at ho';cases ho'
           rw [hso] at hs';cases hs'
         have hcong:∀ z:Nat × Own,contL ops es (fun j=>(listed.setIfInBounds i true).getD j false) z=contL ops es (fun j=>listed.getD j false) z:=fun z=>contL_congr fun js hjs=>getD_set_other (hns js (by
           obtain ⟨o',t',x',h1,h2⟩:=stIdx_spec hjs
           exact ⟨o',t',_,x',h1,h2⟩))
         have hself:∀ z,z ∈ newOwnOf P o -> contL ops es (fun j=>(listed.setIfInBounds i true).getD j false) z=z:=fun z hz=>contL_not fun js hjs=>by
           obtain ⟨o',t',x',ho',hs'⟩:=stIdx_spec hjs
           have hne:=hns js ⟨o',t',_,x',ho',hs'⟩
           rw [getD_set_other hne]
           cases hl:listed.getD js false with
           | false=>rfl
           | true =>
             exfalso
             obtain ⟨e1',_⟩:=newOwnOf_dst (d:=z.1) (o':=z.2) hz
             have hmd:ops.toList.any (madeBy t' z.1)=true:=by
               obtain ⟨stj,psj,ej,hstepj,_⟩:=hat js o' (taken (hpre js hl) ho')
               obtain ⟨_,_,_,_,_,_,_,hmk,_⟩:=drawStore_spec hs' hstepj
               rcases hmk with h | h
               · exact h.1
               · exact absurd e1' (exNo z.1 h.1 i o ho)
             obtain ⟨i0,o0,_,ho0,hd0,e0,he0,hb0,hon0⟩:=stA js o' t' z.1 x' (hpre js hl) ho' hs' hmd
             have hl0:=inv.clo js o' ho' hl e0 he0 hb0
             rw [hon0] at hl0
             obtain ⟨e1,_⟩:=newOwnOf_dst (d:=z.1) (o':=z.2) hz
             by_cases e:i0=i
             · subst e;rw [hunl] at hl0;cases hl0
             · exact (c2 i0 o0 _ e (taken (hpre i0 hl0) ho0) hd0).1 e1
         have hfree:∀ d o',(d,o') ∈ newOwnOf P o -> st2.noName d=true /\ ∀ x,x ∈ st2.T -> x.2.v.names d=false:=fun d o' hm=>by
           have hod:=(newOwnOf_dst hm).1
           obtain ⟨n1,n2⟩:=allocChk_spec hac d (mem_allocDs (List.mem_of_getElem? (taken hik ho)) hm)
           have hdd:d ∈ allocDs P ops.toList:=mem_allocDs (List.mem_of_getElem? (oper ho)) hm
           refine ⟨List.all_eq_true.2 fun y hy=>?_,fun x hx=>?_⟩
           · rcases (hO y).1 hy with h | ⟨j,oj,hj,hl,z,hz,rfl⟩ | ⟨z,hz,rfl⟩
             · obtain ⟨q1,q2⟩:=noName_own (k':=y.1) (o:=y.2) n1 ((h0O y).1 h).1
               simp [q1,q2]
             rotate_left
             · obtain ⟨q1,q2⟩:=noName_own (k':=z.1) (o:=z.2) n1 ((hEm z).1 hz).1
               have hn:=contN (fun j=>listed.getD j false) z hpre d q2
               rw [contL_fst,hn]
               simp [q1]
             · have hne:j ≠ i:=fun e=>by subst e;rw [hunl] at hl;cases hl
               obtain ⟨e1,e2⟩:=newOwnOf_dst (d:=z.1) (o':=z.2) hz
               have:=(c2 j oj _ hne (taken (hpre j hl) hj) e1).1
               rw [hod] at this
               have hyd:z.1 ≠ d:=fun e=>this (by rw [e])
               have hn:=contN (fun j=>listed.getD j false) z hpre d (e2 d)
               rw [contL_fst,hn]
               simp [hyd]
           · rcases (hT x).1 hx with ⟨h1,_⟩ | ⟨j,oj,hj,hl,hd,he⟩
             · exact (hstT x h1).2 d hdd
             · have hne:j ≠ i:=fun e=>by subst e;rw [hunl] at hl;cases hl
               rcases namesChk_spec n2 (taken (hpre j hl) hj) he with h | h
               · exact absurd hod (by
                   have:=(c2 j oj _ hne (taken (hpre j hl) hj) h).1
                   exact this)
               · exact h
         obtain ⟨k1,k2⟩:=drawStep_ok hG hC hstep hso (fun p hp=>hps p (hpsi p hp)) (st2:=st2) (tw.2.2.trans twi.2.2.2.symm) S2 S hfree
         have next:∀ a' w',Sat P G ((st2.add (newOwnOf P o)).put o.dst e) a' w' -> Inv P G ops E st00 es (listed.setIfInBounds i true) a' w':=fun a' w' hs'=>by
           refine ⟨by simpa using inv.siz,fun j oj hj hl e' he' hb'=>?_,(st2.add (newOwnOf P o)).put o.dst e,?_,fun x=>⟨fun hx=>?_,fun hx=>?_⟩,fun x=>⟨fun hx=>?_,fun hx=>?_⟩,hs'⟩
           · rcases getD_set_of hl with rfl | hl
             · rw [ho] at hj;cases hj
               exact getD_set_keep (hafter e' he' hb')
             · exact getD_set_keep (inv.clo j oj hj hl e' he' hb')
           · have:=Twin.put (st2.add (newOwnOf P o)) o.dst e
             exact ⟨this.2.1.trans tw.1,this.2.2.1.trans tw.2.1,this.2.2.2.trans tw.2.2⟩
           · rw [(Twin.put (st2.add (newOwnOf P o)) o.dst e).1] at hx
             rcases List.mem_append.1 hx with hx | hx
             · exact .inr (.inl ⟨i,o,ho,getD_set_self hilt,x,hx,(hself x hx).symm⟩)
             · rcases (hO x).1 hx with h | ⟨j,oj,hj,hl,z,hz,h⟩ | ⟨z,hz,h⟩
               · exact .inl h
               · exact .inr (.inl ⟨j,oj,hj,getD_set_keep hl,z,hz,by rw [h,hcong]⟩)
               · exact .inr (.inr ⟨z,hz,by rw [h,hcong]⟩)
           · rw [(Twin.put (st2.add (newOwnOf P o)) o.dst e).1]
             rcases hx with h | ⟨j,oj,hj,hl,z,hz,h⟩ | ⟨z,hz,h⟩
             · exact List.mem_append_right _ ((hO x).2 (.inl h))
             rotate_left
             · exact List.mem_append_right _ ((hO x).2 (.inr (.inr ⟨z,hz,by rw [h,hcong]⟩)))
             · rcases getD_set_of hl with rfl | hl'
               · rw [ho] at hj;cases hj
                 rw [hself z hz] at h
                 rw [h]
                 exact List.mem_append_left _ hz
               · exact List.mem_append_right _ ((hO x).2 (.inr (.inl ⟨j,oj,hj,hl',z,hz,by rw [h,hcong]⟩)))
           · rcases put_mem hx with ⟨hm,hne⟩ | ⟨hd,he⟩
             · rcases (hT x).1 hm with ⟨h1,h2⟩ | ⟨j,oj,hj,hl,hd,he⟩
               · refine .inl ⟨h1,fun j oj hj hl=>?_⟩
                 rcases getD_set_of hl with rfl | hl'
                 · rw [ho] at hj;cases hj;exact hne
                 · exact h2 j oj hj hl'
               · exact .inr ⟨j,oj,hj,getD_set_keep hl,hd,he⟩
             · exact .inr ⟨i,o,ho,getD_set_self hilt,hd,by rw [hes,he]⟩
           · rcases hx with ⟨h1,h2⟩ | ⟨j,oj,hj,hl,hd,he⟩
             · refine put_has (st:=st2.add (newOwnOf P o)) ((hT x).2 (.inl ⟨h1,fun j oj hj hl=>h2 j oj hj (getD_set_keep hl)⟩)) (h2 i o ho (getD_set_self hilt)) (fun t ht=>noG x h1 i o t ho ht)
             · rcases getD_set_of hl with rfl | hl'
               · rw [ho] at hj;cases hj
                 rw [hes] at he
                 injection he with he
                 rw [hd]
                 obtain ⟨x1,x2⟩:=x
                 simp only at he hd ⊢
                 rw [he]
                 exact put_new
               · have hne:j ≠ i:=fun e=>by subst e;rw [hunl] at hl';cases hl'
                 refine put_has (st:=st2.add (newOwnOf P o)) ((hT x).2 (.inr ⟨j,oj,hj,hl',hd,he⟩)) (c2 j oj _ hne (taken (hpre j hl') hj) hd).1 (fun t ht=>?_)
                 cases hby:x.2.by t with
                 | false=>rfl
                 | true =>
                   exfalso
                   obtain ⟨stj,psj,ej,hstepj,hesj,_⟩:=hat j oj (taken (hpre j hl') hj)
                   rw [he] at hesj;injection hesj with hesj
                   have hgs:=drawStep_guard hstepj t (by rw [<- hesj];exact hby)
                   obtain ⟨d1,d2⟩:=hchk' j oj (taken (hpre j hl') hj)
                   obtain ⟨_,f2,f3⟩:=d2 i o t (fun e=>hne e.symm) (taken hik ho) ht
                   have hlt:=f3 hgs
                   have:=f2 (List.mem_append_right _ hgs)
                   rw [if_pos hlt] at this
                   obtain ⟨e',he',hb',hon⟩:=aft_spec this
                   have:=inv.clo j oj hj hl' e' he' hb'
                   rw [hon,hunl] at this;cases this
         exact ⟨fun hw=>leads_mono (k1 hw) next,fun hw=>next _ _ (k2 hw)⟩
     have main : ∀ (fuel:Nat) (listed : Array Bool) (a : Act) (w : World), Inv P G ops E st00 es listed a w -> (∀ i, listed.getD i false = true -> i < k) ->
         unl ops.size listed <= fuel -> wpAnyIn (W ro) n P .any ops Q fuel listed a w:=by
       intro fuel
       have phase2:∀ (fuel:Nat) (listed:Array Bool) (a:Act) (w:World),Inv P G ops E st00 es listed a w -> (∀ i,listed.getD i false=true -> i < k) -> (∀ i,i < k -> i < ops.size -> listed.getD i false=true) -> unl ops.size listed <= fuel -> wpAnyIn (W ro) n P .any ops Q fuel listed a w:=by
         intro fuel listed a w inv hpre hall hcount
         obtain ⟨st2,tw,hO,hT,env,M,X,S⟩:=inv.sat
         have hcg:∀ z:Nat × Own,contL ops es (fun j=>decide (j < k)) z=contL ops es (fun j=>listed.getD j false) z:=fun z=>contL_congr fun js hjs=>by
           obtain ⟨o',t',x',ho',_⟩:=stIdx_spec hjs
           by_cases hk':js < k
           · rw [decide_eq_true hk',hall js hk' (Array.getElem?_eq_some_iff.1 ho').1]
           · rw [decide_eq_false hk']
             cases hl:listed.getD js false with
             | false=>rfl
             | true=>exact absurd (hpre js hl) hk'
         have hsat:Sat P G { stF with own:=(allocOwn P (ops.toList.take k)).map (contL ops es fun j=>decide (j < k)) ++ stf.own.map (exC ops es fun j=>decide (j < k)) } a w:=by
           refine ⟨env,M,X,S.sub (fun x hx=>(hT x).2 ?_) (fun x hx=>(hO x).2 ?_) ?_ (twF.2.1.trans tw.1.symm) (twF.2.2.2.trans tw.2.2.symm)⟩
           rotate_left
           · rcases List.mem_append.1 hx with hx | hx
             · obtain ⟨z,hz,rfl⟩:=List.mem_map.1 hx
               obtain ⟨j,oj,h1,h2⟩:=mem_allocOwn hz
               obtain ⟨hjk,hj⟩:=untake h1
               exact .inr (.inl ⟨j,oj,hj,hall j hjk (Array.getElem?_eq_some_iff.1 hj).1,z,h2,hcg z⟩)
             · obtain ⟨z,hz,rfl⟩:=List.mem_map.1 hx
               unfold exC
               split
               · rename_i hc
                 exact .inr (.inr ⟨z,(hEm z).2 ⟨hz,hc⟩,hcg z⟩)
               · rename_i hc
                 exact .inl ((h0O z).2 ⟨hz,by simpa using hc⟩)
           · have hfst : ∀ q x, (exC ops es q x).1 = x.1 := fun q x => by
               unfold exC
               split
               · exact contL_fst _ _ _ x
               · rfl
             simp only [List.map_append]
             rw [show ((allocOwn P (ops.toList.take k)).map (contL ops es fun j=>decide (j < k))).map (·.1)=allocDs P (ops.toList.take k) by
               rw [List.map_map,<- allocOwn_keys];exact List.map_congr_left fun x _=>contL_fst _ _ _ x,show (stf.own.map (exC ops es fun j=>decide (j < k))).map (·.1)=stf.own.map (·.1) by
               rw [List.map_map];exact List.map_congr_left fun x _=>hfst _ x]
             refine List.nodup_append.2 ⟨hnda,hndf,fun a ha b hb e=>?_⟩
             subst e
             obtain ⟨h1,_⟩:=allocChk_spec hac a ha
             obtain ⟨y,hy,rfl⟩:=List.mem_map.1 hb
             exact (noName_own (k':=y.1) (o:=y.2) h1 hy).1 rfl
           rcases hF x hx with ⟨h1,h2⟩ | ⟨j,oj,h1,h2,h3⟩
           · exact .inl ⟨h1,fun j oj hj hl=>h2 j oj (taken (hpre j hl) hj)⟩
           · obtain ⟨hjk,hj⟩:=untake h1
             exact .inr ⟨j,oj,hj,hall j hjk (Array.getElem?_eq_some_iff.1 hj).1,h2,h3⟩
         rcases Nat.le_total k ops.size with hks | hks
         · exact suffix_ok hG hC hK hsuf (fun z hz=>⟨(hZ z hz).1,(hZ z hz).2.1⟩) fuel k listed { stF with own:=(allocOwn P (ops.toList.take k)).map (contL ops es fun j=>decide (j < k)) ++ stf.own.map (exC ops es fun j=>decide (j < k)) } a w (Nat.le_refl _) hks inv.siz (fun i hi=>⟨hpre i,fun h=>hall i h hi⟩) inv.clo hKF hsat hcount
         · refine suffix_ok hG hC hK (k:=ops.size) (Z:=[]) ?_ (fun z hz=>by cases hz) fuel ops.size listed { stF with own:=(allocOwn P (ops.toList.take k)).map (contL ops es fun j=>decide (j < k)) ++ stf.own.map (exC ops es fun j=>decide (j < k)) } a w (Nat.le_refl _) (Nat.le_refl _) inv.siz (fun i hi=>⟨fun _=>hi,fun h=>hall i (by omega) hi⟩) inv.clo ?_ hsat hcount
           · refine List.all_eq_true.2 fun j hj=>?_
             have:=List.mem_range.1 hj
             simp at this
             simp [this]
           · have e1:ops.toList.drop k = []:=List.drop_eq_nil_of_le (by simpa using hks)
             have e2:ops.toList.drop ops.size = []:=by simp
             rw [e2];rw [e1] at hKF;exact hKF
       induction fuel with
       | zero =>
         intro listed a w inv hpre hcount
         refine phase2 0 listed a w inv hpre (fun i _ hi=>?_) hcount
         cases hli:listed.getD i false with
         | true=>rfl
         | false =>
           exfalso
           have:i ∈ (List.range ops.size).filter fun i=>!listed.getD i false:=List.mem_filter.2 ⟨List.mem_range.2 hi,by rw [hli];rfl⟩
           have:=List.length_pos_of_mem this
           unfold unl at hcount;omega
       | succ fuel ih =>
         intro listed a w inv hpre hcount
         by_cases hall:∀ i,i < k -> i < ops.size -> listed.getD i false=true
         · exact phase2 _ listed a w inv hpre hall hcount
         by_cases hz:∃ z oz,z ∈ Z /\ ops[z]? = some oz /\ listed.getD z false=false /\ ∀ e,e ∈ oz.after -> Region.binds .any e=true -> listed.getD e.on false=true
         · obtain ⟨z,oz,hzZ,ho,hun,haft⟩:=hz
           obtain ⟨z1,z2,z3,z4⟩:=hZ z hzZ
           have hilt:z < listed.size:=by rw [inv.siz];exact z2
           obtain ⟨d,s,hmv⟩:∃ d s,moveOf oz=some (d,s):=by
             have h3:=z3
             unfold lazyOk at h3
             rw [ho] at h3
             simp only at h3
             split at h3
             · rename_i d s hm;exact ⟨d,s,hm⟩
             · cases h3
           have hlt:=unl_set (n:=ops.size) z2 hilt hun
           obtain ⟨u,hrun,inv'⟩:=leads_move ((step listed a w inv hpre z oz z1 ho hun haft).1 (wanted_move hmv)) hmv
           exact early ho hmv z3 z4 hQ fuel listed a w (by
             rw [Array.getD_eq_getD_getElem?,Array.getElem?_eq_getElem hilt] at hun ⊢;exact hun) haft hrun (ih _ _ w inv' (fun m hm=>by
               rcases getD_set_of hm with rfl | hm
               · exact z1
               · exact hpre m hm) (by omega))
         refine ⟨fun hr=>(hall ?_).elim,fun i hi=>?_⟩
         · intro i
           induction i using Nat.strongRecOn with
           | _ i ih2 =>
             intro hik hi
             cases hli:listed.getD i false with
             | true=>rfl
             | false =>
               exfalso
               have hc:=(hchk' i ops[i] (taken hik (Array.getElem?_eq_getElem hi))).1
               have hmem:i ∈ Region.ready .any ops listed:=mem_ready.2 ⟨by
                 have:i < listed.size:=by rw [inv.siz];exact hi
                 rw [Array.getD_eq_getD_getElem?,Array.getElem?_eq_getElem this] at hli ⊢;exact hli,ops[i],Array.getElem?_eq_getElem hi,fun e he hb=>by
                   have:=hc e he hb
                   exact ih2 e.on (by omega) (by omega) (by omega)⟩
               rw [hr] at hmem
               cases hmem
         obtain ⟨h0,o,ho,hafter⟩:=mem_ready.1 hi
         have hisz:=(Array.getElem?_eq_some_iff.1 ho).1
         have hilt:i < listed.size:=by rw [inv.siz];exact hisz
         have hunl:listed.getD i false=false:=by
           rw [Array.getD_eq_getD_getElem?,Array.getElem?_eq_getElem hilt] at h0 ⊢;exact h0
         have hik:i < k:=by
           rcases Nat.lt_or_ge i k with h | h
           · exact h
           · exfalso
             have hs1:sufOne Z ops.toList i=true:=by
               have:=List.all_eq_true.1 hsuf i (List.mem_range.2 (by simpa using hisz))
               simpa [show ¬ i < k by omega] using this
             refine hall fun m=>?_
             induction m using Nat.strongRecOn with
             | _ m ih2 =>
               intro hmk hms
               by_cases hmZ:m ∈ Z
               · cases hlm:listed.getD m false with
                 | true=>rfl
                 | false =>
                   exact absurd ⟨m,ops[m],hmZ,Array.getElem?_eq_getElem hms,hlm,fun e he hb=>by
                     have:=(hchk' m ops[m] (taken hmk (Array.getElem?_eq_getElem hms))).1 e he hb
                     exact ih2 e.on this (by omega) (by omega)⟩ hz
               · exact sufOne_ok2 inv.clo ho hs1 hafter m (by omega) hmZ
         obtain ⟨k1,k2⟩:=step listed a w inv hpre i o hik ho hunl hafter
         have hcount':unl ops.size (listed.setIfInBounds i true) <= fuel:=by have:=unl_set (n:=ops.size) hisz hilt hunl;omega
         have next:∀ a' w',Inv P G ops E st00 es (listed.setIfInBounds i true) a' w' -> wpAnyIn (W ro) n P .any ops Q fuel (listed.setIfInBounds i true) a' w':=fun a' w' inv' =>
           ih _ a' w' inv' (fun m hm=>by
             rcases getD_set_of hm with rfl | hm
             · exact hik
             · exact hpre m hm) hcount'
         unfold wpOpIn
         rw [ho]
         simp only
         split
         · rename_i hw
           have:=k1 hw
           refine leads_wpIn (N:=wpAnyIn (W ro) n P .any ops Q fuel (listed.setIfInBounds i true)) ?_
           obtain ⟨l1,l2⟩:=this
           refine ⟨l1,?_⟩
           rcases l2 with ⟨u,w',hr,hk⟩ | ⟨w',hr,hk⟩ | ⟨f,args,w',hr,hk⟩ | ⟨l,f,tmps,assign,body,w',hr,hk⟩
           · exact .inl ⟨u,w',hr,next _ _ hk⟩
           · exact .inr (.inl ⟨w',hr,next _ _ hk⟩)
           · exact .inr (.inr (.inl ⟨f,args,w',hr,callsIn_mono hk fun e w'' ⟨v,he,hk⟩=>⟨v,he,next _ _ hk⟩⟩))
           · exact .inr (.inr (.inr ⟨l,f,tmps,assign,body,w',hr,roundIn_mono hk fun e w'' ⟨v,he,hk⟩=>⟨v,he,next _ _ hk⟩⟩))
         · rename_i hw
           exact ⟨fun _ _=>trivial,next _ _ (k2 hw)⟩
     refine main ops.size (Array.replicate ops.size false) a w ⟨by simp,fun j oj hj hl=>?_,stf,⟨h0yk.1.symm,h0yk.2.1.symm,h0yk.2.2.symm⟩,fun x=>⟨fun hx=>?_,fun hx=>?_⟩,fun x=>⟨fun hx=>.inl ⟨(h0T x).2 hx,fun j oj hj hl=>?_⟩,fun hx=>?_⟩,hsub⟩ (fun i hi=>?_) ?_
     · have hj':=(Array.getElem?_eq_some_iff.1 hj).1
       simp [Array.getD_eq_getD_getElem?,hj'] at hl
     · by_cases hc:(exOk ops x.1 && isBlk x.2)=true
       · exact .inr (.inr ⟨x, (hEm x).2 ⟨hx, hc⟩, (contL_not fun j hj => by
           obtain ⟨o',t',x',ho',_⟩:=stIdx_spec hj
           have hj':=(Array.getElem?_eq_some_iff.1 ho').1
           simp [Array.getD_eq_getD_getElem?,hj']).symm⟩)
       · exact .inl ((h0O x).2 ⟨hx,by simpa using hc⟩)
     · rcases hx with h1 | ⟨j,oj,hj,hl,_,_,_⟩ | ⟨y,hy,rfl⟩
       · exact ((h0O x).1 h1).1
       · have hj':=(Array.getElem?_eq_some_iff.1 hj).1
         simp [Array.getD_eq_getD_getElem?,hj'] at hl
       · rw [contL_not fun j hj => by
           obtain ⟨o',t',x',ho',_⟩:=stIdx_spec hj
           have hj':=(Array.getElem?_eq_some_iff.1 ho').1
           simp [Array.getD_eq_getD_getElem?,hj']]
         exact ((hEm y).1 hy).1
     · have hj':=(Array.getElem?_eq_some_iff.1 hj).1
       simp [Array.getD_eq_getD_getElem?,hj'] at hl
     · rcases hx with ⟨h1,_⟩ | ⟨j,oj,hj,hl,_⟩
       · exact (h0T x).1 h1
       · have hj':=(Array.getElem?_eq_some_iff.1 hj).1
         simp [Array.getD_eq_getD_getElem?,hj'] at hl
     · rcases Nat.lt_or_ge i ops.size with hlt | hge
       · simp [Array.getD_eq_getD_getElem?,hlt] at hi
       · simp [Array.getD_eq_getD_getElem?,show ¬ i < ops.size by omega] at hi
     · exact Nat.le_trans (List.length_filter_le _ _) (by simp)
   · exact h.elim
 · exact h.elim
theorem execDraw_ok (hG:Stable G) {C:Cfg} (hC:SpecsOk P G C) {ro:Option Nat} {n:Nat} {ops:Array Oper} {Q:Exit -> Act -> World -> Prop} {K:St -> Prop} (hK:∀ st a w,K st -> Sat P G st a w -> Q .normal a w)
   {st:St} (h:execDraw P C ops st K) {a:Act} {w:World} (hs:Sat P G st a w):wpAnyIn (W ro) n P .any ops Q ops.size (Array.replicate ops.size false) a w :=
 wpAnyIn_weak (Q':=fun e a w=>(∀ c,e ≠ .panic c) /\ Q e a w) (fun e a w h=>h.2) _ _ _ _
   (execDraw_ok0 hG hC (fun st a w h hs=>⟨fun c h=>(by cases h),hK st a w h hs⟩) (fun c a w h=>h.1 c rfl) h hs)
end Go.SE
namespace Go.SE
open Go.RowKit
variable {P:Program} {M:Nat -> Prop} {w:World} {G:Ctx} {st:St} {a:Act} {env:Env} {X:Nat -> Prop}
def forL (f:Nat -> Prop):List Nat -> Prop
 | []=>True
 | i :: l=>match l with
   | []=>f i
   | _ :: _=>f i /\ forL f l
def execAny (P:Program) (C:Cfg) (ops:Array Oper):Nat -> Array Bool -> St -> (St -> Prop) -> Prop
 | 0,listed,st,K=>match Region.ready .any ops listed with
   | []=>K st
   | _ :: _=>False
 | fuel+1,listed,st,K=>match Region.ready .any ops listed with
   | []=>K st
   | i :: l=>forL (fun i=>match ops.toList[i]? with
     | some o=>execOps P C ops [o] st (fun st'=>execAny P C ops fuel (listed.setIfInBounds i true) st' K)
     | none=>False) (i :: l)
theorem forL_mem {f:Nat -> Prop}:∀ {l:List Nat},forL f l -> ∀ i,i ∈ l -> f i
 | [],_,i,h=>by cases h
 | [j],h,i,hi=>by
   rcases List.mem_cons.1 hi with rfl | hi
   · exact h
   · cases hi
 | j :: k :: l,h,i,hi=>by
   rcases List.mem_cons.1 hi with rfl | hi
   · exact h.1
   · exact forL_mem h.2 i hi
theorem execAny_ok (hG:Stable G) {C:Cfg} (hC:SpecsOk P G C) {ro:Option Nat} {n:Nat} {ops:Array Oper} {Q:Exit -> Act -> World -> Prop} {K:St -> Prop} (hK:∀ st a w,K st -> Sat P G st a w -> Q .normal a w) :
   ∀ (fuel:Nat) (listed:Array Bool) (st:St) (a:Act) (w:World),execAny P C ops fuel listed st K -> Sat P G st a w -> wpAnyIn (W ro) n P .any ops Q fuel listed a w:=by
 intro fuel
 induction fuel with
 | zero =>
   intro listed st a w h hs
   unfold execAny at h
   split at h
   · rename_i hr
     exact ⟨hr,hK _ _ _ h hs⟩
   · exact h.elim
 | succ fuel ih =>
   intro listed st a w h hs
   unfold execAny at h
   split at h
   · rename_i hr
     exact ⟨fun _=>hK _ _ _ h hs,fun i hi=>by rw [hr] at hi;cases hi⟩
   · rename_i i0 l0 hr
     refine ⟨fun h0=>(by rw [hr] at h0;cases h0),fun i hi=>?_⟩
     obtain ⟨_,o,ho,_⟩:=mem_ready.1 hi
     rw [hr] at hi
     have h1:=forL_mem h i hi
     have ho':ops.toList[i]? = some o:=by simpa using ho
     rw [ho'] at h1
     simp only at h1
     obtain ⟨env,M,X,S⟩:=hs
     obtain ⟨k1,k2⟩:=execOps_step hG hC h1 S
     have next:∀ a' w',(∃ st',execOps P C ops [] st' (fun st'=>execAny P C ops fuel (listed.setIfInBounds i true) st' K) /\ Sat P G st' a' w') -> wpAnyIn (W ro) n P .any ops Q fuel (listed.setIfInBounds i true) a' w':=fun a' w' ⟨st',hk,hs'⟩=>ih _ st' a' w' hk hs'
     unfold wpOpIn
     rw [ho]
     simp only
     split
     · rename_i hw
       have:=k1 hw
       refine leads_wpIn (N:=wpAnyIn (W ro) n P .any ops Q fuel (listed.setIfInBounds i true)) ?_
       obtain ⟨l1,l2⟩:=this
       refine ⟨l1,?_⟩
       rcases l2 with ⟨u,w',hr,hk⟩ | ⟨w',hr,hk⟩ | ⟨f,args,w',hr,hk⟩ | ⟨l,f,tmps,assign,body,w',hr,hk⟩
       · exact .inl ⟨u,w',hr,next _ _ hk⟩
       · exact .inr (.inl ⟨w',hr,next _ _ hk⟩)
       · exact .inr (.inr (.inl ⟨f,args,w',hr,callsIn_mono hk fun e w'' ⟨v,he,hk⟩=>⟨v,he,next _ _ hk⟩⟩))
       · exact .inr (.inr (.inr ⟨l,f,tmps,assign,body,w',hr,roundIn_mono hk fun e w'' ⟨v,he,hk⟩=>⟨v,he,next _ _ hk⟩⟩))
     · rename_i hw
       exact ⟨fun _ _=>trivial,next _ _ (k2 hw)⟩
end Go.SE
namespace Go.SE
open Go.RowKit
def EV.frz (k:Nat) (o:Own):EV -> EV
 | .loc b off=>if b == k then (match o with
   | .blk _ cs=>match allP cs with
     | some ss=>.p (.ref ss off)
     | none=>.any
   | _=>.any) else .loc b off
 | .mapv r=>if r == k then .any else .mapv r
 | .row r=>if r == k then (match o with
   | .row _ sz n get=>.p (.sl sz n get)
   | _=>.any) else .row r
 | .rsub r sz lo n=>if r == k then .any else .rsub r sz lo n
 | .rptr r sz i off=>if r == k then .any else .rptr r sz i off
 | .cl f caps=>match allP (frzL k o caps) with
   | some ss=>.p (.clo f ss)
   | none=>.cl f (frzL k o caps)
 | .p s=>.p s
 | .fn sp=>.fn sp
 | .yield l=>.yield l
 | .any=>.any
 | .full q sz n get=>.full q sz n get
where frzL (k:Nat) (o:Own):List EV -> List EV
 | []=>[]
 | e :: l=>e.frz k o :: frzL k o l
def Own.frz (k:Nat) (o:Own):Own -> Own
 | .blk t cs=>.blk t (cs.map (EV.frz k o))
 | .row e sz n get=>.row e sz n get
 | .mp kt n get=>.mp kt n get
 | .mq kt vt dom val=>.mq kt vt dom val
def frzOk:Own -> Bool
 | .blk _ cs=>(allP cs).isSome
 | .row ..=>true
 | .mp ..=>false
 | .mq ..=>false
def St.frz (st:St) (k:Nat):St:=match lookupO st.own k with
 | some o=>if frzOk o then { st with T:=st.T.map fun x=>(x.1,{ x.2 with v:=x.2.v.frz k o }),own:=(st.own.filter fun x=>!(x.1 == k)).map fun x=>(x.1,Own.frz k o x.2) } else st
 | none=>st
def St.frzs (st:St):List Nat -> St
 | []=>st
 | k :: ks=>(st.frz k).frzs ks
def isNilE:EV -> Bool
 | .p (.raw (.slice none 0 0))=>true
 | _=>false
def nilE (r:Nat) (e:EV):EV:=if isNilE e then .row r else e
def St.nilRow (st:St) (s r:Nat) (e:TypeId) (sz:Nat):St:=if decide (r < st.nt) && (st.T.all fun x=>!(x.2.v.names r)) && st.noName r then
 { st with T:=st.T.map (fun x=>if x.1 == s then (x.1,{ x.2 with v:=nilE r x.2.v }) else x),own:=(r,.row e sz 0 (fun _=>[])) :: st.own.map (fun x=>if x.1 == s then (match x.2 with | .blk t cs=>(x.1,.blk t (cs.map (nilE r))) | o=>(x.1,o)) else x) } else st
def St.nilRows (st:St):List (Nat × Nat × TypeId × Nat) -> St
 | []=>st
 | (s,r,e,sz) :: l=>(st.nilRow s r e sz).nilRows l
def firstReg:Code -> Nat
 | .region id _ _=>id
 | .seq a b=>match a with
   | .skip=>firstReg b
   | _=>firstReg a
 | .block _ b=>firstReg b
 | .loop b=>firstReg b
 | .scope b=>firstReg b
 | .cond _ a _=>firstReg a
 | .rangeFunc _ _ a _=>firstReg a
 | _=>0
def nthT:List (Nat × Ent) -> Nat -> Nat -> Option Ent
 | [],_,_=>none
 | (s,e) :: l,t,j=>if s == t then (match j with | 0=>some e | j+1=>nthT l t j) else nthT l t j
def fitTs (T:List (Nat × Ent)):List Nat -> List (Nat × Ent) -> List Prop
 | _,[]=>[]
 | seen,(s,e) :: l=>(match e.g,nthT T s (seen.count s) with
   | none,some ⟨none,v⟩=>fitE v e.v
   | _,_=>[False]) ++ fitTs T (s :: seen) l
def fitT (T l:List (Nat × Ent)):List Prop:=fitTs T [] l
def Ent.plain (e:Ent):Bool:=e.g.isNone
def andL:List Prop -> Prop
 | []=>True
 | [p]=>p
 | p :: ps=>p /\ andL ps
def LoopInv.keptT (I:LoopInv) (st:St):List (Nat × Ent):=st.T.filter fun x=>I.keep.contains x.1 && x.2.plain
def LoopInv.keptO (I:LoopInv) (st:St):List (Nat × Own):=st.own.filter fun x=>I.keepO.contains x.1
def tieP (T:List (Nat × Ent)):List (Nat × SV) -> List Prop
 | []=>[]
 | (s,v) :: l=>(match lookupT T s with
   | some ⟨none,.p u⟩=>fitS u v
   | _=>[False]) ++ tieP T l
def LoopInv.tied (I:LoopInv) (st:St):LoopInv:={ I with inv:=fun g=>conj (tieP (I.keptT st) (I.tie g)) (I.inv g) }
def LoopInv.head (I:LoopInv) (st:St) (g:I.T):St:={ st with T:=(I.chg g).map (fun x=>(x.1,⟨none,x.2⟩)) ++ I.keptT st,own:=I.own g ++ I.keptO st,yk:=match I.yk with | none=>st.yk | some f=>f g }
def LoopInv.fitY (I:LoopInv) (st st':St) (g:I.T):List Prop:=(if st'.nt == st.nt then [] else [False]) ++ match I.yk with
 | none=>if st'.yk == st.yk && st'.stop == st.stop then [] else [False]
 | some f=>[st'.yk=f g,st'.stop=st.stop]
def noRf:Code -> Bool
 | .rangeFunc ..=>false
 | .seq a b=>noRf a && noRf b
 | .cond _ a b=>noRf a && noRf b
 | .block _ b=>noRf b
 | .loop b=>noRf b
 | .scope b=>noRf b
 | _=>true
def RfInv.keptT (I:RfInv) (st:St):List (Nat × Ent):=st.T.filter fun x=>I.keep.contains x.1 && x.2.plain
def RfInv.keptO (I:RfInv) (st:St):List (Nat × Own):=st.own.filter fun x=>I.keepO.contains x.1
def RfInv.head (I:RfInv) (st:St) (k:Nat) (g:I.T):St:={ st with T:=I.keptT st,own:=I.own k g ++ I.keptO st }
def pins (vk:Nat -> Value) (T:List (Nat × Ent)):List (Nat × Ent):=T.map fun x=>(x.1,⟨none,.p (.raw (vk x.1))⟩)
def rfParams:List Nat -> List SV -> List (Nat × Ent)
 | p :: ps,s :: ss=>(p,⟨none,.p s⟩) :: rfParams ps ss
 | _,_=>[]
def RfInv.round (I:RfInv) (st:St) (ps:List Nat) (ss:List SV) (k:Nat) (g:I.T) (vk:Nat -> Value):St:={ I.head st k g with T:=rfParams ps ss ++ I.keptT st ++ pins vk (I.keptT st) }
def isRaw (e:Ent):Bool:=match e with
 | ⟨none,.p (.raw _)⟩=>true
 | _=>false
def fitPin (T:List (Nat × Ent)) (vk:Nat -> Value):List (Nat × Ent) -> List Prop
 | []=>[]
 | (s,_) :: l=>(match T.reverse.find? (fun x=>x.1 == s && isRaw x.2) with
   | some (_,⟨_,.p (.raw v)⟩)=>[v=vk s]
   | _=>[False]) ++ fitPin T vk l
def fitSt (st st':St):List Prop:=if st'.nt == st.nt && st'.yk == st.yk && st'.stop == st.stop then [] else [False]
def RfInv.fitK (I:RfInv) (st st':St) (vk:Nat -> Value):List Prop:=fitSt st st' ++ fitT st'.T (I.keptT st) ++ fitPin st'.T vk (I.keptT st)
def RfInv.left (I:RfInv) (st st':St) (ks:List Nat):St:={ st with T:=I.keptT st,own:=st'.own.filter fun x=>ks.contains x.1 }
def vc (P:Program) (C:Cfg):Code -> St -> (Exit -> St -> Prop) -> Prop
 | .skip,st,K=>K .normal st
 | .label _,st,K=>K .normal st
 | .exit id,st,K=>K (.exit id) st
 | .goto l,st,K=>K (.goto l) st
 | .ret,st,K=>K .ret st
 | .region id ops draw,st,K=>if draw then (if C.anys.contains id then execAny P C ops ops.size (Array.replicate ops.size false) ((st.frzs (C.frz id)).nilRows (C.nils id)) (K .normal) else execDraw P C ops ((st.frzs (C.frz id)).nilRows (C.nils id)) (K .normal)) else execOps P C ops ops.toList ((st.frzs (C.frz id)).nilRows (C.nils id)) (K .normal)
 | .seq x y,st,K=>vc P C x st fun e st'=>match e with
   | .normal=>vc P C y st' K
   | e=>K e st'
 | .cond c x y,st,K=>match st.rho none c with
   | some (.p (.bool b))=>(b=true -> vc P C x st K) /\ (b=false -> vc P C y st K)
   | _=>False
 | .block id c,st,K=>vc P C c st fun e st'=>match e with
   | .exit id'=>if id'=id then K .normal st' else K (.exit id') st'
   | e=>K e st'
 | .loop c,st,K=>match C.loops (firstReg c) with
   | none=>False
   | some I0 => (fun st => (fun I => (∃ g : I.T, conj (I.fitY st st g ++ fitT st.T ((I.chg g).map fun x => (x.1, ⟨none, x.2⟩)) ++ fitO st.own (I.own g)) (I.inv g)) /\
       ∀ g:I.T,I.inv g -> if nodupB ((I.own g ++ I.keptO st).map (·.1)) then (vc P C c (I.head st g) fun e st'=>match e with
         | .normal=>∃ g':I.T,conj (I.fitY st st' g' ++ fitT st'.T (I.head st g').T ++ fitO st'.own (I.head st g').own) (I.inv g' /\ I.mu g' < I.mu g)
         | e=>K e st') else False) (I0.tied st)) (st.nilRows (C.nilsL (firstReg c)))
 | .rangeFunc f ps a b,st,K=>match st.rho none f with
   | some (.p (.clo g caps))=>match C.iters g,C.rfs (firstReg a) with
     | some it, some I => if noRf a && noRf b && C.yld.isNone && (I.keptT st).all (fun x => !(ps.toList.contains x.1)) && nodupB ps.toList && ps.toList.all (fun p => decide (p < st.nt)) then
         (it.pre caps /\ ∃ t:I.T,conj (fitO st.own (I.own 0 t ++ I.keptO st)) (I.inv 0 t)) /\
         (∀ (k:Nat) (t:I.T) (vk:Nat -> Value),k < it.cnt caps -> I.inv k t -> if nodupB (keysO (I.own k t ++ I.keptO st)) && (it.item caps k).length == ps.size && noMem.noMems (it.item caps k) then
           vc P C a (I.round st ps.toList (it.item caps k) k t vk) (fun e st1=>match e with
             | .normal=>vc P C b st1 (fun e st'=>match e with
               | .normal=>∃ t':I.T,conj (I.fitK st st' vk ++ fitO st'.own (I.own (k+1) t' ++ I.keptO st)) (I.inv (k+1) t')
               | .ret=>conj (I.fitK st st' vk) (K .ret (I.left st st' (keysO (I.own k t ++ I.keptO st))))
               | .exit id=>conj (I.fitK st st' vk) (K (.exit id) (I.left st st' (keysO (I.own k t ++ I.keptO st))))
               | .goto l=>conj (I.fitK st st' vk) (K (.goto l) (I.left st st' (keysO (I.own k t ++ I.keptO st))))
               | _=>False)
             | _=>False) else False) /\
         (∀ t:I.T,I.inv (it.cnt caps) t -> if nodupB (keysO (I.own (it.cnt caps) t ++ I.keptO st)) then K .normal (I.head st (it.cnt caps) t) else False)
       else False
     | _,_=>False
   | _=>False
 | _,_,_=>False
end Go.SE
namespace Go.SE
open Go.RowKit
variable {P:Program} {M:Nat -> Prop} {w:World} {G:Ctx} {st:St} {a:Act} {env:Env} {X:Nat -> Prop}
theorem frzL_at (k:Nat) (o:Own):∀ (l:List EV) (i:Nat),i < l.length -> EV.at (EV.frz.frzL k o l) i=(EV.at l i).frz k o
 | [],i,hi=>by simp at hi
 | e :: l,0,_=>rfl
 | e :: l,i+1,hi=>frzL_at k o l i (by simpa using hi)
theorem frzL_len (k:Nat) (o:Own):∀ (l:List EV),(EV.frz.frzL k o l).length=l.length
 | []=>rfl
 | e :: l=>by simp [EV.frz.frzL,frzL_len k o l]
theorem frz_den (S:SatC P G st a w env M X) {k:Nat} {o:Own} (hk:(k,o) ∈ st.own) (hf:frzOk o=true) {M':Nat -> Prop} (hM:∀ b,M b -> M' b) (hg:∀ g,env.at_ k=some g -> M' g)
   {e:EV} {v:Value} (h:DenE P M w env e v):DenE P M' w env (e.frz k o) v:=by
 have hl:Later M M' w w:=⟨Nat.le_refl _,fun _ _=>rfl,hM⟩
 induction h with
 | p h=>exact .p (h.weak hM)
 | @loc b off g h =>
   unfold EV.frz
   split
   · rename_i hb
     have hb:b=k:=by simpa using hb
     subst hb
     cases o with
     | blk t cs =>
       simp only
       split
       · rename_i ss hss
         obtain ⟨g',vs,hg',hh,hz,hd⟩:=S.own _ _ hk
         rw [h] at hg';cases hg'
         have:=allP_spec hss
         subst this
         simp only [List.length_map] at hz hd
         have hp:=DenP.ref (M:=M') (w:=w) ss off (fun j=>vs.getD j undef) ⟨g,0,none⟩ (hg g h) (fun j hj=>by rw [add_mk,Nat.zero_add];exact cell_blk_lt hh (by omega)) (fun j hj=>(hd j hj).1) (fun j hj=>by
           have:=(hd j hj).2
           rw [evat_p _ _ hj] at this
           rcases this with ⟨this⟩;exact this.weak hM)
         rw [add_mk,Nat.zero_add] at hp
         exact .p hp
       · exact .any
     | row=>exact .any
     | mp=>exact .any
     | mq=>exact .any
   · exact .loc h
 | @mapv r g h =>
   unfold EV.frz
   split
   · exact .any
   · exact .mapv h
 | @row r A n c h =>
   unfold EV.frz
   split
   · rename_i hb
     have hb:r=k:=by simpa using hb
     subst hb
     cases o with
     | blk t cs=>exact .any
     | mp=>exact .any
     | mq=>exact .any
     | row e sz n' get =>
       have:=row_den S hk hM hg
       rw [h] at this
       exact .p this
   · exact .row h
 | @rsub r sz lo n A cap hc hm hA =>
   unfold EV.frz;split
   · exact .any
   · exact .rsub A cap hc hm hA
 | @rptr r sz i off g h =>
   unfold EV.frz;split
   · exact .any
   · exact .rptr h
 | cl f cs vs hlen _ ih =>
   have hc:∀ i,i < (EV.frz.frzL k o cs).length -> DenE P M' w env (EV.at (EV.frz.frzL k o cs) i) (vs.getD i undef):=fun i hi=>by
     rw [frzL_len] at hi
     rw [frzL_at _ _ _ _ hi];exact ih i hi
   unfold EV.frz
   split
   · rename_i ss hss
     have:=denL_of_allP hss (by rw [frzL_len];exact hlen) hc
     exact .p (.clo f ss _ this.1 this.2)
   · exact .cl f _ _ (by rw [frzL_len];exact hlen) hc
 | fn h=>exact .fn (h.later hl)
 | yield=>exact .yield
 | any=>exact .any
 | full h hq=>exact .full (h.later hl) hq
theorem SatC.frz (S:SatC P G st a w env M X) (k:Nat):∃ M',SatC P G (st.frz k) a w env M' X:=by
 unfold St.frz
 split
 · rename_i o hl
   split
   · rename_i hf
     have hk:=lookupO_mem hl
     have hM:∀ b,M b -> M b \/ env.at_ k=some b:=fun b h=>.inl h
     have hg:∀ g,env.at_ k=some g -> M g \/ env.at_ k=some g:=fun g h=>.inr h
     have hmem:∀ {k' o'},(k',o') ∈ ((st.own.filter fun x=>!(x.1 == k)).map fun x=>(x.1,Own.frz k o x.2)) -> ∃ o'',(k',o'') ∈ st.own /\ k' ≠ k /\ o'=Own.frz k o o'':=by
       intro k' o' h
       obtain ⟨⟨k2,o2⟩,hm,he⟩:=List.mem_map.1 h
       obtain ⟨h1,h2⟩:=List.mem_filter.1 hm
       cases he
       exact ⟨o2,h1,by simpa using h2,rfl⟩
     have hl':Later M (fun b=>M b \/ env.at_ k=some b) w w:=⟨Nat.le_refl _,fun _ _=>rfl,hM⟩
     refine ⟨fun b=>M b \/ env.at_ k=some b,S.gam,fun b hb=>by rcases hb with hb | hb;exact S.mx b hb;exact .inr (S.oat _ _ hk b hb).1,?_,?_,?_,?_,?_,S.xlt,S.siz,?_,?_,?_,S.dno⟩
     · intro k' o' h
       obtain ⟨o'',ho,hne,rfl⟩:=hmem h
       have h1:=S.own _ _ ho
       cases o'' with
       | mp kt n get=>exact h1
       | mq kt vt dom val =>
         obtain ⟨g,es,clock,ha,hh,hz,hd⟩:=h1
         exact ⟨g,es,clock,ha,hh,hz,fun i hi=>by obtain ⟨key,q1,q2,q3⟩:=hd i hi;exact ⟨key,q1,q2,q3.later hl'⟩⟩
       | blk t cs =>
         obtain ⟨g,vs,ha,hh,hz,hd⟩:=h1
         refine ⟨g,vs,ha,hh,by simpa using hz,fun i hi=>?_⟩
         simp only [List.length_map] at hi
         refine ⟨(hd i hi).1,?_⟩
         have:EV.at (cs.map (EV.frz k o)) i=(EV.at cs i).frz k o:=by simp [EV.at,List.getD_eq_getElem?_getD,hi]
         rw [this]
         exact frz_den S hk hf hM hg (hd i hi).2
       | row e sz n get =>
         obtain ⟨hm,hgl,h1⟩:=h1
         refine ⟨hm,hgl,?_⟩
         rcases h1 with h1 | ⟨g,cap,cur,ha,hr,hh,h3,h4,h5,h6⟩
         · exact .inl h1
         · exact .inr ⟨g,cap,cur,ha,hr,hh,h3,h4,h5,fun i hi j hj=>⟨(h6 i hi j hj).1,(h6 i hi j hj).2.later hl'⟩⟩
     · intro k' o' h g hg'
       obtain ⟨o'',ho,hne,rfl⟩:=hmem h
       obtain ⟨h1,h2,h3⟩:=S.oat _ _ ho g hg'
       refine ⟨h1,fun hm=>?_,h3⟩
       rcases hm with hm | hm
       · exact h2 hm
       · exact S.inj _ _ _ _ ho hk hne g hg' hm
     · intro k1 o1 k2 o2 h1 h2
       obtain ⟨_,e1,_⟩:=hmem h1
       obtain ⟨_,e2,_⟩:=hmem h2
       exact S.inj _ _ _ _ e1 e2
     · have : ((st.own.filter fun x => !(x.1 == k)).map fun x => (x.1, Own.frz k o x.2)).map (·.1) = (st.own.filter fun x => !(x.1 == k)).map (·.1) := by
         rw [List.map_map];rfl
       simp only [this]
       exact S.nod.sublist (List.Sublist.map _ List.filter_sublist)
     · intro b hb
       rcases hb with hb | hb
       · exact S.mlt b hb
       · exact (S.oat _ _ hk b hb).2.2
     · intro s e h
       obtain ⟨⟨s',e'⟩,hm,he⟩:=List.mem_map.1 h
       cases he
       obtain ⟨h1,h2,h3⟩:=S.tmp _ _ hm
       exact ⟨h1,fun ho=>frz_den S hk hf hM hg (h2 ho),h3⟩
     · intro s e h q c v hq
       obtain ⟨⟨s',e'⟩,hm,he⟩:=List.mem_map.1 h
       cases he
       exact S.grd _ _ hm q c v hq
     · intro d hd
       obtain ⟨D,e,h1,h2,h3,h4⟩:=S.dfr d hd
       refine ⟨D,e,h1,h2,fun hm=>?_,fun k' o' h=>?_⟩
       · rcases hm with hm | hm
         · exact h3 hm
         · exact h4 _ _ hk hm
       · obtain ⟨_,e1,_⟩:=hmem h
         exact h4 _ _ e1
   · exact ⟨M,S⟩
 · exact ⟨M,S⟩
theorem Sat.frzs {st:St} {a:Act} {w:World} (h:Sat P G st a w):∀ ks,Sat P G (st.frzs ks) a w:=fun ks=>by
 induction ks generalizing st with
 | nil=>exact h
 | cons k ks ih =>
   obtain ⟨env,M,X,S⟩:=h
   obtain ⟨M',S'⟩:=S.frz k
   exact ih ⟨_,_,_,S'⟩
theorem nthT_mem {e:Ent} {t:Nat}:∀ {l:List (Nat × Ent)} {j:Nat},nthT l t j=some e -> (t,e) ∈ l
 | [],_,h=>by simp [nthT] at h
 | (s,e') :: l,j,h=>by
   simp only [nthT] at h
   split at h
   · rename_i hs
     simp at hs;subst hs
     cases j with
     | zero=>cases h;simp
     | succ j=>exact List.mem_cons_of_mem _ (nthT_mem h)
   · exact List.mem_cons_of_mem _ (nthT_mem h)
theorem fitTs_ok (S:SatC P G st a w env M X):∀ {l:List (Nat × Ent)} {seen:List Nat},all (fitTs st.T seen l) -> ∀ s e,(s,e) ∈ l -> e.g=none /\ s < st.nt /\ DenE P M w env e.v (a.eval (.tmp s))
 | [],_,_,s,e,hm=>by cases hm
 | (s0,e0) :: l,seen,h,s,e,hm=>by
   simp only [fitTs] at h
   obtain ⟨h1,h2⟩:=all_append h
   rcases List.mem_cons.1 hm with hm | hm
   · cases hm
     split at h1
     · rename_i v hg hl
       obtain ⟨a1,a2,_⟩:=S.tmp _ _ (nthT_mem hl)
       exact ⟨hg,a1,fitE_ok h1 (a2 trivial)⟩
     · exact (all_one h1).elim
   · exact fitTs_ok S h2 s e hm
theorem fitT_ok (S:SatC P G st a w env M X) {l:List (Nat × Ent)} (h:all (fitT st.T l)):∀ s e,(s,e) ∈ l -> e.g=none /\ s < st.nt /\ DenE P M w env e.v (a.eval (.tmp s)):=fitTs_ok S h
theorem SatC.refit (S:SatC P G st a w env M X) {st2:St} (hT:∀ s e,(s,e) ∈ st2.T -> e.g=none /\ s < st.nt /\ DenE P M w env e.v (a.eval (.tmp s))) (hO:∀ k o,(k,o) ∈ st2.own -> (∃ o',(k,o') ∈ st.own) /\ OwnOk P M w env k o)
   (hn:(st2.own.map (·.1)).Nodup) (hy:st2.yk=st.yk) (hnt:st2.nt=st.nt):SatC P G st2 a w env M X:=by
 refine ⟨by rw [hy,hnt];exact S.gam,S.mx,fun k o h=>(hO k o h).2,?_,?_,hn,S.mlt,S.xlt,by rw [hnt];exact S.siz,?_,?_,?_,S.dno⟩
 · intro k o h
   obtain ⟨o',h'⟩:=(hO k o h).1
   exact S.oat _ _ h'
 · intro k o k' o' h h'
   obtain ⟨_,e1⟩:=(hO k o h).1
   obtain ⟨_,e2⟩:=(hO k' o' h').1
   exact S.inj _ _ _ _ e1 e2
 · intro s e h
   obtain ⟨h1,h2,h3⟩:=hT s e h
   rw [hnt]
   exact ⟨h2,fun _=>h3,fun hn=>absurd (ok_of_holds (by rw [h1];trivial)) hn⟩
 · intro s e h q c v hq
   rw [(hT s e h).1] at hq;cases hq
 · intro d hd
   obtain ⟨D,e,h1,h2,h3,h4⟩:=S.dfr d hd
   refine ⟨D,e,h1,h2,h3,fun k o h=>?_⟩
   obtain ⟨_,e1⟩:=(hO k o h).1
   exact h4 _ _ e1
theorem nilE_den {r:Nat} {e:EV} {v:Value} {env':Env} (hr:env'.rv r=.slice none 0 0) (h:DenE P M w env' e v):DenE P M w env' (nilE r e) v:=by
 unfold nilE
 split
 · rename_i hn
   unfold isNilE at hn
   split at hn
   · cases h with
     | p h=>cases h;exact .row hr
   · cases hn
 · exact h
theorem SatC.nilRow (S:SatC P G st a w env M X) (s r:Nat) (e:TypeId) (sz:Nat):∃ env',SatC P G (st.nilRow s r e sz) a w env' M X:=by
 unfold St.nilRow
 split
 rotate_left
 · exact ⟨env,S⟩
 rename_i hc
 simp only [Bool.and_eq_true,List.all_eq_true,Bool.not_eq_true',decide_eq_true_eq] at hc
 obtain ⟨⟨hrn,hT⟩,hO⟩:=hc
 have hO':∀ k o,(k,o) ∈ st.own -> k ≠ r /\ o.names r=false:=fun k o h=>by
   have:=List.all_eq_true.1 hO (k,o) h
   simpa using this
 let env':Env:={ env with at_:=fun k=>if k=r then none else env.at_ k,rv:=fun k=>if k=r then .slice none 0 0 else env.rv k }
 have hat:∀ k,k ≠ r -> env'.at_ k=env.at_ k:=fun k h=>by simp [env',h]
 have hrv:∀ k,k ≠ r -> env'.rv k=env.rv k:=fun k h=>by simp [env',h]
 have hrr:env'.rv r=.slice none 0 0:=by simp [env']
 have har:env'.at_ r=none:=by simp [env']
 have den:∀ {e v},e.names r=false -> DenE P M w env e v -> DenE P M w env' e v:=fun {e v} hn h=>h.mono (Later.refl M w) (fun k hk=>by
   have:k ≠ r:=fun e'=>by rw [e',hn] at hk;cases hk
   exact ⟨hat k this,hrv k this⟩) rfl
 -- an own thing,as it was
 have own1:∀ k o,(k,o) ∈ st.own -> OwnOk P M w env' k o:=fun k o h=>by
   obtain ⟨hk,hn⟩:=hO' k o h
   have h1:=S.own k o h
   cases o with
   | mp kt n get =>
     obtain ⟨g,es,clock,ha,hh,hz,hd⟩:=h1
     exact ⟨g,es,clock,(hat k hk).trans ha,hh,hz,fun i hi=>⟨(hd i hi).1,(hd i hi).2.still⟩⟩
   | mq kt vt dom val =>
     obtain ⟨g,es,clock,ha,hh,hz,hd⟩:=h1
     exact ⟨g,es,clock,(hat k hk).trans ha,hh,hz,fun i hi=>by obtain ⟨key,q1,q2,q3⟩:=hd i hi;exact ⟨key,q1,q2,q3⟩⟩
   | blk t cs =>
     obtain ⟨g,vs,ha,hh,hz,hd⟩:=h1
     exact ⟨g,vs,(hat k hk).trans ha,hh,hz,fun i hi=>⟨(hd i hi).1,den (namesL_at hn i hi) (hd i hi).2⟩⟩
   | row e sz n get =>
     obtain ⟨hm,hgl,h1⟩:=h1
     refine ⟨hm,hgl,?_⟩
     rcases h1 with ⟨c1,c2,c3⟩ | ⟨g,cap,cur,ha,hr,hh,h3,h4,h5,h6⟩
     · exact .inl ⟨(hat k hk).trans c1,(hrv k hk).trans c2,c3⟩
     · exact .inr ⟨g,cap,cur,(hat k hk).trans ha,(hrv k hk).trans hr,hh,h3,h4,h5,h6⟩
 have mem:∀ k o,(k,o) ∈ st.own.map (fun x=>if x.1 == s then (match x.2 with | .blk t cs=>(x.1,Own.blk t (cs.map (nilE r))) | o=>(x.1,o)) else x) -> (∃ o',(k,o') ∈ st.own) /\ OwnOk P M w env' k o:=fun k o h=>by
   obtain ⟨⟨k',o'⟩,hm,he⟩:=List.mem_map.1 h
   have h1:=own1 k' o' hm
   simp only at he
   split at he
   · cases o' with
     | blk t cs =>
       simp only [Prod.mk.injEq] at he
       obtain ⟨rfl,rfl⟩:=he
       refine ⟨⟨_,hm⟩,?_⟩
       obtain ⟨g,vs,ha,hh,hz,hd⟩:=h1
       refine ⟨g,vs,ha,hh,by simpa using hz,fun i hi=>?_⟩
       have hi':i < cs.length:=by simpa using hi
       refine ⟨(hd i hi').1,?_⟩
       have e1:EV.at (cs.map (nilE r)) i=nilE r (EV.at cs i):=by simp [EV.at,List.getD_eq_getElem?_getD,hi']
       rw [e1]
       exact nilE_den hrr (hd i hi').2
     | mp kt n get =>
       simp only [Prod.mk.injEq] at he
       obtain ⟨rfl,rfl⟩:=he
       exact ⟨⟨_,hm⟩,h1⟩
     | mq kt vt dom val =>
       simp only [Prod.mk.injEq] at he
       obtain ⟨rfl,rfl⟩:=he
       exact ⟨⟨_,hm⟩,h1⟩
     | row e0 sz0 n get =>
       simp only [Prod.mk.injEq] at he
       obtain ⟨rfl,rfl⟩:=he
       exact ⟨⟨_,hm⟩,h1⟩
   · simp only [Prod.mk.injEq] at he
     obtain ⟨rfl,rfl⟩:=he
     exact ⟨⟨_,hm⟩,h1⟩
 have keys:(st.own.map (fun x=>if x.1 == s then (match x.2 with | .blk t cs=>(x.1,Own.blk t (cs.map (nilE r))) | o=>(x.1,o)) else x)).map (·.1)=st.own.map (·.1):=by
   rw [List.map_map]
   apply List.map_congr_left
   rintro ⟨k,o⟩ _
   simp only [Function.comp]
   split
   · cases o <;> rfl
   · rfl
 refine ⟨env',⟨S.gam.1,S.gam.2.but hrn (fun j hj=>⟨hat j hj,hrv j hj⟩)⟩,S.mx,?_,?_,?_,?_,S.mlt,S.xlt,S.siz,?_,?_,?_,S.dno⟩
 · intro k o h
   rcases List.mem_cons.1 h with h | h
   · cases h
     exact ⟨Nat.zero_le _,fun i hi=>by omega,.inl ⟨har,hrr,rfl⟩⟩
   · exact (mem k o h).2
 · intro k o h g hg
   rcases List.mem_cons.1 h with h | h
   · cases h;rw [har] at hg;cases hg
   · obtain ⟨o',ho'⟩:=(mem k o h).1
     rw [hat k (hO' k o' ho').1] at hg
     exact S.oat k o' ho' g hg
 · intro k o k' o' h h' hne g hg
   rcases List.mem_cons.1 h with h | h
   · cases h;rw [har] at hg;cases hg
   · rcases List.mem_cons.1 h' with h' | h'
     · cases h';rw [har];simp
     · obtain ⟨q,hq⟩:=(mem k o h).1
       obtain ⟨q',hq'⟩:=(mem k' o' h').1
       rw [hat k (hO' k q hq).1] at hg
       rw [hat k' (hO' k' q' hq').1]
       exact S.inj k q k' q' hq hq' hne g hg
 · simp only [List.map_cons]
   refine List.nodup_cons.2 ⟨fun hm=>?_,by have:=S.nod;rw [<- keys] at this;exact this⟩
   obtain ⟨⟨k,o⟩,hm',he⟩:=List.mem_map.1 hm
   obtain ⟨o',ho'⟩:=(mem k o hm').1
   exact (hO' k o' ho').1 he
 · intro s' e' h
   obtain ⟨⟨s0,e0⟩,hm,he⟩:=List.mem_map.1 h
   obtain ⟨h1,h2,h3⟩:=S.tmp s0 e0 hm
   have hn:=hT _ hm
   simp only at he
   split at he
   · simp only [Prod.mk.injEq] at he
     obtain ⟨rfl,rfl⟩:=he
     exact ⟨h1,fun ho=>nilE_den hrr (den hn (h2 ho)),h3⟩
   · simp only [Prod.mk.injEq] at he
     obtain ⟨rfl,rfl⟩:=he
     exact ⟨h1,fun ho=>den hn (h2 ho),h3⟩
 · intro s' e' h q c v hq
   obtain ⟨⟨s0,e0⟩,hm,he⟩:=List.mem_map.1 h
   simp only at he
   split at he
   · simp only [Prod.mk.injEq] at he
     obtain ⟨rfl,rfl⟩:=he
     exact S.grd s0 e0 hm q c v hq
   · simp only [Prod.mk.injEq] at he
     obtain ⟨rfl,rfl⟩:=he
     exact S.grd s0 e0 hm q c v hq
 · intro d hd
   obtain ⟨D,e0,q1,q2,q3,q4⟩:=S.dfr d hd
   refine ⟨D,e0,q1,q2,q3,fun k o h hg=>?_⟩
   rcases List.mem_cons.1 h with h | h
   · cases h;rw [har] at hg;cases hg
   · obtain ⟨o',ho'⟩:=(mem k o h).1
     rw [hat k (hO' k o' ho').1] at hg
     exact q4 k o' ho' hg
theorem Sat.nilRows:∀ (l:List (Nat × Nat × TypeId × Nat)) {st:St},Sat P G st a w -> Sat P G (st.nilRows l) a w
 | [],_,h=>h
 | (s,r,e,sz) :: l,st,⟨env,M,X,S⟩=>by
   obtain ⟨env',S'⟩:=S.nilRow s r e sz
   exact Sat.nilRows l ⟨env',M,X,S'⟩
end Go.SE
namespace Go.SE
open Go.RowKit
variable {P:Program} {G G':Ctx} {M:Nat -> Prop} {w:World} {st:St} {a:Act} {env:Env} {X:Nat -> Prop}
theorem SatC.recast (S:SatC P G st a w env M X) {w':World} {Y X':Nat -> Prop} (hgam:G'.g st.yk X' w' /\ PinOk G' env st.nt) (hm0:∀ b,G.m0 b -> G'.m0 b \/ X' b) (hsz:w.heap.size <= w'.heap.size) (hblk:∀ b,b < w.heap.size -> ¬ Y b -> w'.heap[b]? = w.heap[b]?)
   (hYM:∀ b,Y b -> ¬ M b) (hYO:∀ k o,(k,o) ∈ st.own -> ∀ g,env.at_ k=some g -> ¬ Y g) (hYD:∀ D,({ target:=.collected D,args:=#[] }:Deferred) ∈ a.defers -> ¬ Y D) (hX:∀ b,X b -> X' b) (hXl:∀ b,X' b -> b < w'.heap.size) :
   SatC P G' st a w' env M X':=by
 have hl:Later M M w w':=⟨hsz,fun b hb=>hblk b (S.mlt b hb) (fun e=>hYM b e hb),fun _ h=>h⟩
 refine ⟨hgam,fun b h=>?_,?_,?_,S.inj,S.nod,fun b h=>Nat.lt_of_lt_of_le (S.mlt b h) hsz,hXl,S.siz,?_,S.grd,?_,S.dno⟩
 · rcases S.mx b h with h | h
   · exact hm0 b h
   · exact .inr (hX b h)
 · intro k o h
   have h1:=S.own k o h
   have h2:=S.oat k o h
   cases o with
   | mp kt n get =>
     obtain ⟨g',es,clock,ha,hh,hz,hd⟩:=h1
     exact ⟨g',es,clock,ha,(hblk g' (h2 g' ha).2.2 (hYO _ _ h g' ha)).trans hh,hz,fun i hi=>⟨(hd i hi).1,(hd i hi).2.still⟩⟩
   | mq kt vt dom val =>
     obtain ⟨g',es,clock,ha,hh,hz,hd⟩:=h1
     exact ⟨g',es,clock,ha,(hblk g' (h2 g' ha).2.2 (hYO _ _ h g' ha)).trans hh,hz,fun i hi=>by obtain ⟨key,q1,q2,q3⟩:=hd i hi;exact ⟨key,q1,q2,q3.later hl⟩⟩
   | blk t cs =>
     obtain ⟨g',vs,ha,hh,hz,hd⟩:=h1
     exact ⟨g',vs,ha,(hblk g' (h2 g' ha).2.2 (hYO _ _ h g' ha)).trans hh,hz,fun i hi=>⟨(hd i hi).1,(hd i hi).2.later hl⟩⟩
   | row e sz n get =>
     obtain ⟨hm,hgl,h1⟩:=h1
     refine ⟨hm,hgl,?_⟩
     rcases h1 with h1 | ⟨g',cap,cur,ha,hr,hh,h3,h4,h5,h6⟩
     · exact .inl h1
     · exact .inr ⟨g',cap,cur,ha,hr,(hblk g' (h2 g' ha).2.2 (hYO _ _ h g' ha)).trans hh,h3,h4,h5,fun i hi j hj=>⟨(h6 i hi j hj).1,(h6 i hi j hj).2.later hl⟩⟩
 · intro k o h g hg
   obtain ⟨q1,q2,q3⟩:=S.oat k o h g hg
   exact ⟨hX g q1,q2,Nat.lt_of_lt_of_le q3 hsz⟩
 · intro s e h
   obtain ⟨h1,h2,h3⟩:=S.tmp s e h
   exact ⟨h1,fun ho=>(h2 ho).later hl,h3⟩
 · intro d h
   obtain ⟨D,e,q1,q2,q3,q4⟩:=S.dfr d h
   exact ⟨D,e,(hblk D (S.xlt D q2) (hYD D (e ▸ h))).trans q1,hX D q2,q3,q4⟩
structure RF where
 G:Ctx
 a0:Act
 M0:Nat -> Prop
 X0:Nat -> Prop
 n0:Nat
 rc:LoopState -> Option Code -> Loop
def RF.xp (R:RF) (w:World) (b:Nat):Prop:=R.X0 b \/ (R.n0 <= b /\ b < w.heap.size)
def RF.Rec (R:RF) (s:LoopState) (p:Option Code) (w:World):Prop:=w.heap[R.n0+1]? = some (.loop (R.rc s p)) /\ w.heap[R.n0]? = some (.deferred (some []))
def RF.Core (P:Program) (R:RF) (stX:St) (s:LoopState) (p:Option Code) (Xit:Nat -> Prop) (w:World):Prop :=
 ∃ env M,SatC P R.G stX R.a0 w env M (R.xp w) /\ R.Rec s p w /\ (∀ b,Xit b -> R.n0+2 <= b /\ ¬ M b) /\ ¬ M R.n0 /\ ¬ M (R.n0+1) /\
   (∀ k o g,(k,o) ∈ stX.own -> env.at_ k=some g -> ¬ R.M0 g /\ ¬ Xit g /\ g ≠ R.n0 /\ g ≠ R.n0+1)
structure RF.Ok (R:RF):Prop where
 st:Stable R.G
 m0:∀ b,R.M0 b -> b < R.n0
 x0:∀ b,R.X0 b -> b < R.n0
 df:∀ D,({ target:=.collected D,args:=#[] }:Deferred) ∈ R.a0.defers -> R.X0 D
theorem RF.Ok.dlt {R:RF} (h:R.Ok) (D:Nat) (hD:({ target:=.collected D,args:=#[] }:Deferred) ∈ R.a0.defers):D < R.n0:=h.x0 D (h.df D hD)
theorem lt_of_some {w:World} {b:Nat} {o:Obj} (h:w.heap[b]? = some o):b < w.heap.size:=(Array.getElem?_eq_some_iff.1 h).1
theorem RF.gstep {R:RF} (h:R.Ok) {k:Nat} {w w':World} (hg:R.G.g k (R.xp w) w) (hn:R.n0 <= w.heap.size) (hs:Same (R.xp w) w w'):R.G.g k (R.xp w') w' :=
 h.st k _ w _ w' hg hs (fun b hb=>hb.imp id (fun q=>⟨q.1,Nat.lt_of_lt_of_le q.2 hs.size⟩)) (fun b hb=>by
   rcases hb with hb | hb
   · exact .inl (.inl hb)
   · rcases Nat.lt_or_ge b w.heap.size with hlt | hge
     · exact .inl (.inr ⟨hb.1,hlt⟩)
     · exact .inr hge)
theorem RF.core_stable {R:RF} (h:R.Ok) {stX:St} {s:LoopState} {p:Option Code} {Xit Xit':Nat -> Prop} {w w':World} (hc:R.Core P stX s p Xit w) (hs:Same Xit w w') (h1:∀ b,Xit b -> Xit' b) (h2:∀ b,Xit' b -> Xit b \/ w.heap.size <= b) :
   R.Core P stX s p Xit' w':=by
 obtain ⟨env,M,S,⟨hr1,hr2⟩,hx,hd,hl,ho⟩:=hc
 have hn1:=lt_of_some hr1
 have hsame:Same (R.xp w) w w':=⟨hs.os,hs.tape,hs.output,hs.drawn,hs.size,fun b hb hnx=>hs.block b hb (fun e=>hnx (.inr ⟨by have:=(hx b e).1;omega,hb⟩))⟩
 refine ⟨env,M,S.recast (Y:=fun b=>Xit b) ⟨RF.gstep h S.gam.1 (by omega) hsame,S.gam.2⟩ (fun b hb=>.inl hb) hs.size (fun b hb hn=>hs.block b hb hn) (fun b hb=>(hx b hb).2) (fun k o hk g hg=>(ho k o g hk hg).2.1) (fun D hD hX=>by have:=h.dlt D hD;have:=(hx D hX).1;omega)
   (fun b hb=>hb.imp id (fun q=>⟨q.1,Nat.lt_of_lt_of_le q.2 hs.size⟩)) (fun b hb=>?_),⟨(hs.block _ hn1 (fun e=>by have:=(hx _ e).1;omega)).trans hr1,(hs.block _ (by omega) (fun e=>by have:=(hx _ e).1;omega)).trans hr2⟩,fun b hb=>?_,hd,hl,fun k o g hk hg=>?_⟩
 · rcases hb with hb | hb
   · have:=h.x0 b hb;have:=hs.size;omega
   · exact hb.2
 · rcases h2 b hb with hb | hb
   · exact hx b hb
   · exact ⟨by omega,fun hm=>by have:=S.mlt b hm;omega⟩
 · obtain ⟨q1,q2,q3,q4⟩:=ho k o g hk hg
   refine ⟨q1,fun e=>?_,q3,q4⟩
   rcases h2 g e with e | e
   · exact q2 e
   · have:=(S.oat k o hk g hg).2.2;omega
def jumps:Exit -> Code -> Prop
 | .ret,c=>c=.ret
 | .exit id,c=>c=.exit id
 | .goto l,c=>c=.goto l
 | _,_=>False
def RF.J (P:Program) (R:RF) (I:RfInv) (st:St) (cnt:Nat) (K:Exit -> St -> Prop):Ctx :=
 { m0:=R.M0,g:=fun k Xit w=>(k <= cnt /\ ∃ t,I.inv k t /\ nodupB (keysO (I.own k t ++ I.keptO st))=true /\ R.Core P (I.head st k t) .ready none Xit w) \/ (k=cnt+1 /\ ∃ e c stJ,jumps e c /\ K e stJ /\ R.Core P stJ .done (some c) Xit w) }
theorem RF.J_stable {R:RF} (h:R.Ok) (I:RfInv) (st:St) (cnt:Nat) (K:Exit -> St -> Prop):Stable (R.J P I st cnt K):=by
 intro k X w X' w' hg hs h1 h2
 rcases hg with ⟨hk,t,hi,hn,hc⟩ | ⟨hk,e,c,stJ,hj,hK,hc⟩
 · exact .inl ⟨hk,t,hi,hn,RF.core_stable h hc hs h1 h2⟩
 · exact .inr ⟨hk,e,c,stJ,hj,hK,RF.core_stable h hc hs h1 h2⟩
def RF.B (R:RF) (s:LoopState) (M1 Xit:Nat -> Prop) (wS:World):Ctx :=
 { m0 := M1, pin := R.G.pin, pe := R.G.pe, g := fun yk X w => R.G.g yk (R.xp w) w /\ R.Rec s none w /\
     (∀ b,X b -> (R.X0 b \/ R.n0 <= b) /\ ¬ R.M0 b /\ ¬ Xit b /\ b ≠ R.n0 /\ b ≠ R.n0+1 /\ (∀ D,({ target:=.collected D,args:=#[] }:Deferred) ∈ R.a0.defers -> b ≠ D)) /\
     (∀ b,b < wS.heap.size -> (R.M0 b \/ Xit b) -> w.heap[b]? = wS.heap[b]?) /\ wS.heap.size <= w.heap.size /\
     (∀ d,d ∈ R.a0.defers -> ∃ D,d = { target:=.collected D,args:=#[] } /\ w.heap[D]? = some (.deferred (some []))) /\ (∀ b,Xit b -> b < wS.heap.size) }
theorem RF.B_stable {R:RF} (h:R.Ok) (s:LoopState) (M1 Xit:Nat -> Prop) (wS:World):Stable (R.B s M1 Xit wS):=by
 intro k X w X' w' ⟨g1,⟨r1,r2⟩,g3,g4,g5,g6,g7⟩ hs h1 h2
 have hn1:=lt_of_some r1
 have hsame:∀ b,b < w.heap.size -> ¬ R.xp w b -> w'.heap[b]? = w.heap[b]?:=fun b hb hnx=>hs.block b hb (fun e=>hnx (by
   rcases (g3 b e).1 with q | q
   · exact .inl q
   · exact .inr ⟨q,hb⟩))
 refine ⟨RF.gstep h g1 (by omega) ⟨hs.os,hs.tape,hs.output,hs.drawn,hs.size,hsame⟩,⟨(hs.block _ hn1 (fun e=>(g3 _ e).2.2.2.2.1 rfl)).trans r1,(hs.block _ (by omega) (fun e=>(g3 _ e).2.2.2.1 rfl)).trans r2⟩,fun b hb=>?_,fun b hb hm=>?_,Nat.le_trans g5 hs.size,fun d hd=>?_,g7⟩
 · rcases h2 b hb with hb | hb
   · exact g3 b hb
   · refine ⟨.inr (by omega),fun e=>by have:=h.m0 b e;omega,fun e=>by have:=g7 b e;omega,by omega,by omega,fun D hD=>?_⟩
     have:=h.dlt D hD
     omega
 · exact (hs.block b (by omega) (fun e => by
     rcases hm with hm | hm
     · exact (g3 b e).2.1 hm
     · exact (g3 b e).2.2.1 hm)).trans (g4 b hb hm)
 · obtain ⟨D,rfl,hD⟩:=g6 d hd
   exact ⟨D,rfl,(hs.block D (lt_of_some hD) (fun e=>(g3 D e).2.2.2.2.2 D hd rfl)).trans hD⟩
end Go.SE
namespace Go.SE
open Go.RowKit
variable {P:Program} {G:Ctx} {M:Nat -> Prop} {w:World} {st:St} {a:Act} {env:Env} {X:Nat -> Prop}
def setAll (l:List (Nat × Value)) (t:Array Value):Array Value:=l.foldl (fun t x=>t.setIfInBounds x.1 x.2) t
theorem setAll_size:∀ (l:List (Nat × Value)) (t:Array Value),(setAll l t).size=t.size
 | [],t=>rfl
 | x :: l,t=>(setAll_size l _).trans (by simp)
theorem setAll_other:∀ (ps:List Nat) (vs:List Value) (t:Array Value) (s:Nat),s ∉ ps -> (setAll (ps.zip vs) t).getD s undef=t.getD s undef
 | [],vs,t,s,_=>by simp [setAll]
 | p :: ps,[],t,s,_=>by simp [setAll]
 | p :: ps,v :: vs,t,s,h=>by
   have h1:s ≠ p:=fun e=>h (by simp [e])
   have:=setAll_other ps vs (t.setIfInBounds p v) s (fun e=>h (by simp [e]))
   simp only [setAll,List.zip_cons_cons,List.foldl_cons] at this ⊢
   rw [this]
   simp only [Array.getD_eq_getD_getElem?,Array.getElem?_setIfInBounds,if_neg (fun e=>h1 e.symm:¬ p=s)]
theorem fold_setAll (ps:Array Nat) (vs:List Value) (t:Array Value):(ps.zip vs.toArray).foldl (fun t (p,v)=>t.setIfInBounds p v) t=setAll (ps.toList.zip vs) t:=by
 rw [<- Array.foldl_toList]
 simp only [Array.toList_zip,setAll]
theorem params_ok:∀ (ps:List Nat) (ss:List SV) (vs:List Value) (t:Array Value),ss.length=ps.length -> DenL (fun _=>False) w ss vs -> nodupB ps=true -> (∀ p,p ∈ ps -> p < t.size) ->
   ∀ s e,(s,e) ∈ rfParams ps ss -> e.g=none /\ s ∈ ps /\ DenE P M w env e.v ((setAll (ps.zip vs) t).getD s undef)
 | [],_,_,_,_,_,_,_,s,e,h=>by simp [rfParams] at h
 | p :: ps,[],_,_,_,_,_,_,s,e,h=>by simp [rfParams] at h
 | p :: ps,x :: ss,[],_,_,hd,_,_,s,e,h=>by simp [DenL] at hd
 | p :: ps,x :: ss,v :: vs,t,hl,hd,hn,hp,s,e,h=>by
   simp only [nodupB,Bool.and_eq_true,Bool.not_eq_true',List.contains_eq_mem,decide_eq_false_iff_not] at hn
   simp only [rfParams,List.mem_cons,Prod.mk.injEq] at h
   have hd':DenL (fun _=>False) w ss vs:=⟨by simpa using hd.1,fun i hi=>by simpa [SV.at] using hd.2 (i+1) (by simpa using hi)⟩
   rcases h with ⟨rfl,rfl⟩ | h
   · refine ⟨rfl,by simp,?_⟩
     have e1:(setAll ((s :: ps).zip (v :: vs)) t)=setAll (ps.zip vs) (t.setIfInBounds s v):=rfl
     rw [e1,setAll_other _ _ _ _ hn.1]
     have hlt:=hp s (by simp)
     have:(t.setIfInBounds s v).getD s undef=v:=by simp [Array.getD_eq_getD_getElem?,hlt]
     rw [this]
     have:=hd.2 0 (by simp)
     simp only [SV.at,List.getD_cons_zero] at this
     exact .p (this.weak (fun _ h=>h.elim))
   · obtain ⟨q1,q2,q3⟩:=params_ok ps ss vs (t.setIfInBounds p v) (by simpa using hl) hd' hn.2 (fun q hq=>by simpa using hp q (by simp [hq])) s e h
     exact ⟨q1,by simp [q2],q3⟩
theorem RF.start {R:RF} (hR:R.Ok) {I:RfInv} {k:Nat} {t:I.T} {st:St} (hdf:∀ d,d ∈ R.a0.defers -> ∃ D,d = { target:=.collected D,args:=#[] }) {s:LoopState} {Xit:Nat -> Prop} (hXl:∀ b,Xit b -> b < w.heap.size)
   {env:Env} {M:Nat -> Prop} (S:SatC P R.G (I.head st k t) R.a0 w env M (R.xp w)) (hrec:R.Rec s none w) (ho:∀ k' o g,(k',o) ∈ (I.head st k t).own -> env.at_ k'=some g -> ¬ R.M0 g /\ ¬ Xit g /\ g ≠ R.n0 /\ g ≠ R.n0+1)
   {ps:Array Nat} {ss:List SV} {vs:List Value} (hl:ss.length=ps.toList.length) (hd:DenL (fun _=>False) w ss vs) (hn:nodupB ps.toList=true) (hp:∀ p,p ∈ ps.toList -> p < st.nt) (hk:∀ x,x ∈ I.keptT st -> x.1 ∉ ps.toList) :
   Sat P (R.B s M Xit w) (I.round st ps.toList ss k t (fun s=>R.a0.eval (.tmp s))) { tmps:=(ps.zip vs.toArray).foldl (fun t (p,v)=>t.setIfInBounds p v) R.a0.tmps,defers:=[] } w:=by
 rw [fold_setAll]
 have hsz:R.a0.tmps.size=st.nt:=S.siz
 have plain:∀ x,x ∈ I.keptT st -> x.2.g=none:=fun x hx=>by
   have:=(List.mem_filter.1 hx).2
   simp only [Bool.and_eq_true,Ent.plain] at this
   simpa using this.2
 have hev:∀ s',s' ∉ ps.toList -> ({ tmps:=setAll (ps.toList.zip vs) R.a0.tmps,defers:=[] }:Act).eval (.tmp s')=R.a0.eval (.tmp s'):=fun s' h=>setAll_other _ _ _ _ h
 -- every entry
 have all3:∀ s' e,(s',e) ∈ (I.round st ps.toList ss k t (fun s=>R.a0.eval (.tmp s))).T -> e.g=none /\ s' < st.nt /\ DenE P M w env e.v (({ tmps:=setAll (ps.toList.zip vs) R.a0.tmps,defers:=[] }:Act).eval (.tmp s')):=by
   intro s' e h
   rcases List.mem_append.1 h with h | h
   · rcases List.mem_append.1 h with h | h
     · obtain ⟨q1,q2,q3⟩:=params_ok (P:=P) (M:=M) (env:=env) ps.toList ss vs R.a0.tmps hl hd hn (fun p hp'=>by rw [hsz];exact hp p hp') s' e h
       exact ⟨q1,hp _ q2,q3⟩
     · have hg:=plain _ h
       obtain ⟨q1,q2,_⟩:=S.tmp s' e h
       rw [hev s' (hk _ h)]
       exact ⟨hg,q1,q2 (ok_of_holds (by rw [hg];trivial))⟩
   · obtain ⟨⟨s0,e0⟩,hm,he⟩:=List.mem_map.1 h
     simp only [Prod.mk.injEq] at he
     obtain ⟨rfl,rfl⟩:=he
     obtain ⟨q1,_,_⟩:=S.tmp s0 e0 hm
     rw [hev s0 (hk _ hm)]
     exact ⟨rfl,q1,.p (.raw _)⟩
 refine ⟨env,M,fun g=>∃ k' o,(k',o) ∈ (I.head st k t).own /\ env.at_ k'=some g,?_⟩
 refine ⟨⟨⟨S.gam.1,hrec,?_,fun b _ _=>rfl,Nat.le_refl _,?_,hXl⟩,S.gam.2⟩,fun b h=>.inl h,S.own,fun k' o h g hg=>⟨⟨k',o,h,hg⟩,(S.oat k' o h g hg).2⟩,S.inj,S.nod,S.mlt,?_,(setAll_size _ _).trans hsz,?_,?_,fun d h=>by simp at h,by simp⟩
 · rintro b ⟨k',o,h,hg⟩
   obtain ⟨q1,q2,q3,q4⟩:=ho k' o b h hg
   refine ⟨(S.oat k' o h b hg).1.imp id (fun q=>q.1),q1,q2,q3,q4,fun D hD e=>?_⟩
   obtain ⟨D',e',_,_,_,q⟩:=S.dfr _ hD
   have:D=D':=by simpa using e'
   subst this
   exact q k' o h (e ▸ hg)
 · intro d hd'
   obtain ⟨D,e,q,_⟩:=S.dfr d hd'
   exact ⟨D,e,q⟩
 · rintro b ⟨k',o,h,hg⟩
   exact (S.oat k' o h b hg).2.2
 · intro s' e h
   obtain ⟨q1,q2,q3⟩:=all3 s' e h
   exact ⟨q2,fun _=>q3,fun hn'=>absurd (ok_of_holds (by rw [q1];trivial)) hn'⟩
 · intro s' e h q c v hq
   rw [(all3 s' e h).1] at hq;cases hq
theorem fitPin_ok (S:SatC P G st a w env M X) {vk:Nat -> Value}:∀ {l:List (Nat × Ent)},all (fitPin st.T vk l) -> ∀ s e,(s,e) ∈ l -> a.eval (.tmp s)=vk s
 | [],_,s,e,hm=>by cases hm
 | (s0,e0) :: l,h,s,e,hm=>by
   simp only [fitPin] at h
   obtain ⟨h1,h2⟩:=all_append h
   rcases List.mem_cons.1 hm with hm | hm
   · cases hm
     split at h1
     · rename_i s1 g v hf
       have hmem:=List.mem_of_find?_eq_some hf
       have hprop:=List.find?_some hf
       simp only [Bool.and_eq_true,beq_iff_eq] at hprop
       obtain ⟨rfl,hraw⟩:=hprop
       have hg:g=none:=by cases g with | none=>rfl | some g=>simp [isRaw] at hraw
       subst hg
       have:=(S.tmp _ _ (List.mem_reverse.1 hmem)).2.1 trivial
       have hv:=all_one h1
       rcases this with ⟨this⟩
       rw [<- hv]
       generalize a.eval (.tmp s1)=u at this
       cases this;rfl
     · exact (all_one h1).elim
   · exact fitPin_ok S h2 s e hm
theorem RF.finish {R:RF} (hR:R.Ok) {s s':LoopState} {p:Option Code} {M1 Xit:Nat -> Prop} {wS:World} (hXit:∀ b,Xit b -> R.n0+2 <= b /\ ¬ M1 b) (hMd:¬ M1 R.n0) (hMl:¬ M1 (R.n0+1)) (hMf:∀ D,({ target:=.collected D,args:=#[] }:Deferred) ∈ R.a0.defers -> ¬ M1 D) (hM1:∀ b,M1 b -> R.G.m0 b \/ R.xp wS b) (hdn:R.a0.defers.Nodup)
   {st st' stX:St} (hsiz:R.a0.tmps.size=st.nt) (S:SatC P (R.B s M1 Xit wS) st' a w env M X) {L:List (Nat × Ent)} (hTL:stX.T=L) (hL:∀ x,x ∈ L -> x.2.g=none)
   (hT:all (fitT st'.T L)) (hP:all (fitPin st'.T (fun s=>R.a0.eval (.tmp s)) L)) (hO:∀ k o,(k,o) ∈ stX.own -> (∃ o',(k,o') ∈ st'.own) /\ OwnOk P M w env k o) (hn:(stX.own.map (·.1)).Nodup) (hy:stX.yk=st'.yk) (hnt:stX.nt=st'.nt) (hnt':stX.nt=st.nt) :
   R.Core P stX s' p Xit (w.putObj (R.n0+1) (.loop (R.rc s' p))):=by
 obtain ⟨⟨g1,⟨r1,r2⟩,g3,g4,g5,g6,g7⟩,gpin⟩:=S.gam
 have hn1:=lt_of_some r1
 have hMx:∀ b,M b -> b ≠ R.n0 /\ b ≠ R.n0+1 /\ ¬ Xit b:=fun b hb=>by
   rcases S.mx b hb with h | h
   · exact ⟨fun e=>hMd (e ▸ h),fun e=>hMl (e ▸ h),fun e=>(hXit b e).2 h⟩
   · exact ⟨(g3 b h).2.2.2.1,(g3 b h).2.2.2.2.1,(g3 b h).2.2.1⟩
 have hblk:∀ b,b ≠ R.n0+1 -> (w.putObj (R.n0+1) (.loop (R.rc s' p))).heap[b]? = w.heap[b]?:=fun b h=>World.putObj_heap_other h
 have hsz:(w.putObj (R.n0+1) (.loop (R.rc s' p))).heap.size=w.heap.size:=by simp
 have hlater:Later M M w (w.putObj (R.n0+1) (.loop (R.rc s' p))):=⟨by omega,fun b hb=>hblk b (hMx b hb).2.1,fun _ h=>h⟩
 have hg2:R.G.g st'.yk (R.xp (w.putObj (R.n0+1) (.loop (R.rc s' p)))) (w.putObj (R.n0+1) (.loop (R.rc s' p))) :=
   RF.gstep hR g1 (by omega) ⟨rfl,rfl,rfl,Nat.le_refl _,by omega,fun b hb hx=>hblk b (fun e=>hx (.inr ⟨by omega,hb⟩))⟩
 have hown:∀ k o,(k,o) ∈ stX.own -> ∀ g,env.at_ k=some g -> (R.X0 g \/ R.n0 <= g) /\ ¬ M g /\ g < w.heap.size /\ ¬ R.M0 g /\ ¬ Xit g /\ g ≠ R.n0 /\ g ≠ R.n0+1 /\ ∀ D,({ target:=.collected D,args:=#[] }:Deferred) ∈ R.a0.defers -> g ≠ D:=fun k o h g hg=>by
   obtain ⟨o',ho'⟩:=(hO k o h).1
   obtain ⟨q1,q2,q3⟩:=S.oat k o' ho' g hg
   obtain ⟨c1,c2,c3,c4,c5,c6⟩:=g3 g q1
   exact ⟨c1,q2,q3,c2,c3,c4,c5,c6⟩
 have tmpok:∀ s0 e,(s0,e) ∈ stX.T -> e.g=none /\ s0 < st'.nt /\ DenE P M w env e.v (R.a0.eval (.tmp s0)):=fun s0 e h=>by
   rw [hTL] at h
   obtain ⟨q1,q2,q3⟩:=fitT_ok S hT s0 e h
   rw [fitPin_ok S hP s0 e h] at q3
   exact ⟨q1,q2,q3⟩
 refine ⟨env,M,⟨⟨by rw [hy];exact hg2,by rw [hnt];exact gpin⟩,fun b hb=>?_,?_,?_,?_,hn,fun b hb=>by rw [hsz];exact S.mlt b hb,fun b hb=>?_,by rw [hnt',hsiz],?_,?_,?_,hdn⟩,⟨World.putObj_heap_same hn1,(hblk _ (by omega)).trans r2⟩,fun b hb=>⟨(hXit b hb).1,fun hm=>(hMx b hm).2.2 hb⟩,fun hm=>(hMx _ hm).1 rfl,fun hm=>(hMx _ hm).2.1 rfl,fun k o g hk hg=>?_⟩
 · rcases S.mx b hb with h | h
   · rcases hM1 b h with h | h
     · exact .inl h
     · refine .inr (h.imp id (fun q=>⟨q.1,?_⟩))
       rw [hsz];omega
   · have hlt:=S.xlt b h
     exact .inr ((g3 b h).1.imp id (fun q=>⟨q,by rw [hsz];exact hlt⟩))
 · intro k o h
   have h1:=(hO k o h).2
   have h2:=hown k o h
   cases o with
   | mp kt n get =>
     obtain ⟨g',es,clock,ha,hh,hz,hd⟩:=h1
     exact ⟨g',es,clock,ha,(hblk g' (h2 g' ha).2.2.2.2.2.2.1).trans hh,hz,fun i hi=>⟨(hd i hi).1,(hd i hi).2.still⟩⟩
   | mq kt vt dom val =>
     obtain ⟨g',es,clock,ha,hh,hz,hd⟩:=h1
     exact ⟨g',es,clock,ha,(hblk g' (h2 g' ha).2.2.2.2.2.2.1).trans hh,hz,fun i hi=>by obtain ⟨key,q1,q2,q3⟩:=hd i hi;exact ⟨key,q1,q2,q3.later hlater⟩⟩
   | blk t cs =>
     obtain ⟨g',vs,ha,hh,hz,hd⟩:=h1
     exact ⟨g',vs,ha,(hblk g' (h2 g' ha).2.2.2.2.2.2.1).trans hh,hz,fun i hi=>⟨(hd i hi).1,(hd i hi).2.later hlater⟩⟩
   | row e sz n get =>
     obtain ⟨hm,hgl,h1⟩:=h1
     refine ⟨hm,hgl,?_⟩
     rcases h1 with h1 | ⟨g',cap,cur,ha,hr,hh,h3,h4,h5,h6⟩
     · exact .inl h1
     · exact .inr ⟨g',cap,cur,ha,hr,(hblk g' (h2 g' ha).2.2.2.2.2.2.1).trans hh,h3,h4,h5,fun i hi j hj=>⟨(h6 i hi j hj).1,(h6 i hi j hj).2.later hlater⟩⟩
 · intro k o h g hg
   obtain ⟨c1,c2,c3,_⟩:=hown k o h g hg
   exact ⟨c1.imp id (fun q=>⟨q,by rw [hsz];exact c3⟩),c2,by rw [hsz];exact c3⟩
 · intro k o k' o' h h'
   obtain ⟨_,e1⟩:=(hO k o h).1
   obtain ⟨_,e2⟩:=(hO k' o' h').1
   exact S.inj _ _ _ _ e1 e2
 · rcases hb with hb | hb
   · have:=hR.x0 b hb;rw [hsz];omega
   · exact hb.2
 · intro s0 e h
   obtain ⟨q1,q2,q3⟩:=tmpok s0 e h
   exact ⟨by rw [hnt];exact q2,fun _=>q3.later hlater,fun hn'=>absurd (ok_of_holds (by rw [q1];trivial)) hn'⟩
 · intro s0 e h q c v hq
   rw [(tmpok s0 e h).1] at hq;cases hq
 · intro d hd
   obtain ⟨D,rfl,hD⟩:=g6 d hd
   have hDn:=hR.dlt D hd
   refine ⟨D,rfl,(hblk D (by omega)).trans hD,?_,fun hm=>?_,fun k o h e=>(hown k o h D e).2.2.2.2.2.2.2 D hd rfl⟩
   · exact .inl (hR.df D hd)
   · rcases S.mx D hm with h | h
     · exact hMf D hd h
     · exact (g3 D h).2.2.2.2.2 D hd rfl
 · obtain ⟨_,_,_,c4,c5,c6,c7,_⟩:=hown k o hk g hg
   exact ⟨c4,c5,c6,c7⟩
end Go.SE
namespace Go.SE
open Go.RowKit
variable {P:Program} {M:Nat -> Prop} {w:World} {st:St} {env:Env} {X:Nat -> Prop}
def Carries (P:Program) (C:Cfg) (c:Code):Prop:=∀ (G:Ctx),Stable G -> SpecsOk P G C -> ∀ (ro:Option Nat) (n:Nat) (st:St) (K:Exit -> St -> Prop) (Q:Exit -> Act -> World -> Prop),ro ≠ none -> vc P C c st K ->
 (∀ e st' a' w',K e st' -> Sat P G st' a' w' -> Q e a' w') -> ∀ a w,Sat P G st a w -> c.wpIn (W ro) n P Q a w
def RoundVcK (P:Program) (C:Cfg) (I:RfInv) (st:St) (ps:Array Nat) (cnt:Nat) (item:Nat -> List SV) (a b:Code) (K:Exit -> St -> Prop) (k:Nat):Prop :=
 ∀ (t:I.T) (vk:Nat -> Value),k < cnt -> I.inv k t -> if nodupB (keysO (I.own k t ++ I.keptO st)) && (item k).length == ps.size && noMem.noMems (item k) then
   vc P C a (I.round st ps.toList (item k) k t vk) (fun e st1=>match e with
     | .normal=>vc P C b st1 (fun e st'=>match e with
       | .normal=>∃ t':I.T,conj (I.fitK st st' vk ++ fitO st'.own (I.own (k+1) t' ++ I.keptO st)) (I.inv (k+1) t')
       | .ret=>conj (I.fitK st st' vk) (K .ret (I.left st st' (keysO (I.own k t ++ I.keptO st))))
       | .exit id=>conj (I.fitK st st' vk) (K (.exit id) (I.left st st' (keysO (I.own k t ++ I.keptO st))))
       | .goto l=>conj (I.fitK st st' vk) (K (.goto l) (I.left st st' (keysO (I.own k t ++ I.keptO st))))
       | _=>False)
     | _=>False) else False
def RoundVc (P:Program) (C:Cfg) (I:RfInv) (st:St) (ps:Array Nat) (cnt:Nat) (item:Nat -> List SV) (a b:Code) (K:Exit -> St -> Prop):Prop:=∀ k,RoundVcK P C I st ps cnt item a b K k
theorem fitK_spec {I:RfInv} {st st':St} {vk:Nat -> Value} (h:all (I.fitK st st' vk)):st'.nt=st.nt /\ st'.yk=st.yk /\ all (fitT st'.T (I.keptT st)) /\ all (fitPin st'.T vk (I.keptT st)):=by
 obtain ⟨h12,h3⟩:=all_append h
 obtain ⟨h1,h2⟩:=all_append h12
 unfold fitSt at h1
 split at h1
 · rename_i he;simp at he;exact ⟨he.1.1,he.1.2,h2,h3⟩
 · exact (all_one h1).elim
theorem RF.round_at {R:RF} (hR:R.Ok) {C:Cfg} (hsp:∀ f sp,C.specs f=some sp -> SpecOk P f sp /\ Enters P f) (hcy:C.yld=none) (hit:ItersOk P C) {I:RfInv} {ps:Array Nat} {cnt:Nat} {item:Nat -> List SV} {a b:Code} {K:Exit -> St -> Prop} {fn:Nat}
   (hrc:R.rc=fun s p=>{ state:=s,pending:=p,fn:=fn,tmps:=R.a0.tmps,params:=ps,assign:=a,body:=b,defers:=R.n0 }) (ha:Carries P C a) (hb:Carries P C b) {k:Nat} (hv:RoundVcK P C I st ps cnt item a b K k)
   (hnd:∀ k t,k <= cnt -> I.inv k t -> nodupB (keysO (I.own k t ++ I.keptO st))=true) (hn:nodupB ps.toList=true) (hp:∀ p,p ∈ ps.toList -> p < st.nt) (hk:∀ x,x ∈ I.keptT st -> x.1 ∉ ps.toList) (hdn:R.a0.defers.Nodup) (hsiz:R.a0.tmps.size=st.nt)
   {Xit:Nat -> Prop} {w:World} {vals:List Value} (hlt:k < cnt) {t:I.T} (hinv:I.inv k t) (hco:R.Core P (I.head st k t) .ready none Xit w) (hXl:∀ b,Xit b -> b < w.heap.size) (hd:DenL (fun _=>False) w (item k) vals) :
   ∃ fn tmps assign body,(Instr.yield (R.n0+1) vals.toArray).run P w=.ok (.round (R.n0+1) fn tmps assign body) w /\
     RoundIn Fence.wide 0 P (R.n0+1) fn tmps assign body w (fun e w'=>∃ b,e=.returned (.bool b) /\ w.heap.size <= w'.heap.size /\ (∀ c,c < w.heap.size -> ((b=true /\ R.M0 c) \/ Xit c) -> w'.heap[c]? = w.heap[c]?) /\ (R.J P I st cnt K).g (if b then k+1 else cnt+1) Xit w'):=by
 obtain ⟨env,M,S,hrec,hx,hMd,hMl,ho⟩:=hco
 have hv':=hv t (fun s=>R.a0.eval (.tmp s)) hlt hinv
 split at hv'
 rotate_left
 · exact hv'.elim
 rename_i hc
 simp only [Bool.and_eq_true,beq_iff_eq] at hc
 obtain ⟨⟨_,hlen⟩,_⟩:=hc
 have hdf:∀ d,d ∈ R.a0.defers -> ∃ D,d = { target:=.collected D,args:=#[] }:=fun d h=>by
   obtain ⟨D,e,_⟩:=S.dfr d h;exact ⟨D,e⟩
 have hMf:∀ D,({ target:=.collected D,args:=#[] }:Deferred) ∈ R.a0.defers -> ¬ M D:=fun D h=>by
   obtain ⟨D',e,_,_,q,_⟩:=S.dfr _ h
   have:D=D':=by simpa using e
   subst this;exact q
 have hysz:vals.toArray.size=(R.rc .ready none).params.size:=by
   rw [hrc];have:=hd.1;simp only [List.size_toArray];omega
 have hyield:=run_yield (P:=P) hrec.1 hysz
 have hplain:∀ x,x ∈ I.keptT st -> x.2.g=none:=fun x hx'=>by
   have:=(List.mem_filter.1 hx').2
   simp only [Bool.and_eq_true,Ent.plain] at this
   simpa using this.2
 rw [hrc] at hyield
 refine ⟨_,_,_,_,hyield,roundIn_of_wpIn trivial ?_⟩
 have hs0:Sat P (R.B .ready M Xit w) (I.round st ps.toList (item k) k t (fun s=>R.a0.eval (.tmp s))) { tmps:=(ps.zip vals.toArray).foldl (fun t (p,v)=>t.setIfInBounds p v) R.a0.tmps,defers:=[] } w :=
   RF.start hR hdf hXl S hrec ho (by simpa using hlen) hd hn hp hk
 have sp:∀ G,SpecsOk P G C:=fun G=>⟨hsp,fun y hy=>by rw [hcy] at hy;(cases hy),hit⟩
 refine ha _ (RF.B_stable hR .ready M Xit w) (sp _) (some (R.n0+1)) 0 _ _ _ (by simp) hv' (fun e st1 a1 w1 hk1 hs1=>?_) _ _ hs0
 cases e with
 | normal =>
   obtain ⟨env1,M1,X1,S1⟩:=hs1
   obtain ⟨⟨g1,⟨r1,r2⟩,g3,g4,g5,g6,g7⟩,gpin⟩:=S1.gam
   have hn1:=lt_of_some r1
   have hM1x:∀ b,M1 b -> b ≠ R.n0+1:=fun b hb e=>by
     rcases S1.mx b hb with h | h
     · exact hMl (e ▸ h)
     · exact (g3 b h).2.2.2.2.1 e
   refine ⟨_,run_beginRound r1 (by rw [hrc]),?_⟩
   have hbusy:({ (R.rc .ready none) with state:=.busy }:Loop)=R.rc .busy none:=by rw [hrc]
   rw [hbusy]
   have hblk:∀ b,b ≠ R.n0+1 -> (w1.putObj (R.n0+1) (.loop (R.rc .busy none))).heap[b]? = w1.heap[b]?:=fun b h=>World.putObj_heap_other h
   have hsz:(w1.putObj (R.n0+1) (.loop (R.rc .busy none))).heap.size=w1.heap.size:=by simp
   have S2:SatC P (R.B .busy M Xit w) st1 a1 (w1.putObj (R.n0+1) (.loop (R.rc .busy none))) env1 M1 X1:=by
     refine S1.recast (Y:=fun b=>b=R.n0+1) ⟨⟨?_,⟨World.putObj_heap_same hn1,(hblk _ (by omega)).trans r2⟩,g3,fun b hb hm=>?_,by omega,fun d hd'=>?_,g7⟩,gpin⟩ (fun b hb=>.inl hb) (by omega) (fun b _ h=>hblk b h) (fun b e hm=>hM1x b hm e)
       (fun k' o h g hg e=>(g3 g (S1.oat k' o h g hg).1).2.2.2.2.1 e) (fun D hD e=>?_) (fun b h=>h) (fun b h=>by rw [hsz];exact S1.xlt b h)
     · exact RF.gstep hR g1 (by omega) ⟨rfl,rfl,rfl,Nat.le_refl _,by omega,fun b hb hx'=>hblk b (fun e=>hx' (.inr ⟨by omega,hb⟩))⟩
     · refine (hblk b (fun e=>?_)).trans (g4 b hb hm)
       rcases hm with hm | hm
       · have:=hR.m0 b hm;omega
       · have:=(hx b hm).1;omega
     · obtain ⟨D,rfl,hD⟩:=g6 d hd'
       exact ⟨D,rfl,(hblk D (by have:=hR.dlt D hd';omega)).trans hD⟩
     · obtain ⟨D',e',q1,q2,_⟩:=S1.dfr _ hD
       have:D=D':=by simpa using e'
       subst this
       exact (g3 D q2).2.2.2.2.1 e
   refine hb _ (RF.B_stable hR .busy M Xit w) (sp _) (some (R.n0+1)) 0 _ _ _ (by simp) hk1 (fun e st' a' w' hk2 hs2=>?_) _ _ ⟨env1,M1,X1,S2⟩
   obtain ⟨env3,M3,X3,S3⟩:=hs2
   have r3:=S3.gam.1.2.1.1
   have g43:=S3.gam.1.2.2.2.1
   have g53:=S3.gam.1.2.2.2.2.1
   have keep:∀ o,w.heap.size <= (w'.putObj (R.n0+1) o).heap.size /\ ∀ c,c < w.heap.size -> (R.M0 c \/ Xit c) -> (w'.putObj (R.n0+1) o).heap[c]? = w.heap[c]?:=fun o=>by
     refine ⟨by simpa using g53,fun c hc hm=>?_⟩
     refine (World.putObj_heap_other (fun e=>?_)).trans (g43 c hc hm)
     rcases hm with hm | hm
     · have:=hR.m0 c hm;omega
     · have:=(hx c hm).1;omega
   have fin : ∀ (p : Option Code) (s' : LoopState) (stX : St), stX.T = I.keptT st -> all (I.fitK st st' (fun s => R.a0.eval (.tmp s))) -> (∀ k o, (k, o) ∈ stX.own -> (∃ o', (k, o') ∈ st'.own) /\ OwnOk P M3 w' env3 k o) -> (stX.own.map (·.1)).Nodup -> stX.yk = st.yk -> stX.nt = st.nt ->
       R.Core P stX s' p Xit (w'.putObj (R.n0+1) (.loop (R.rc s' p))):=fun p s' stX hT hf hO hnn hyk hnt=>by
     obtain ⟨q1,q2,q3,q4⟩:=fitK_spec hf
     exact RF.finish hR hx hMd hMl hMf S.mx hdn hsiz S3 hT hplain q3 q4 hO hnn (hyk.trans q2.symm) (hnt.trans q1.symm) hnt
   have jump : ∀ (e : Exit) (c : Code), jumps e c -> conj (I.fitK st st' (fun s => R.a0.eval (.tmp s))) (K e (I.left st st' (keysO (I.own k t ++ I.keptO st)))) ->
       ∃ v w4,(Instr.endRound (R.n0+1) (some c)).run P w'=.ok v w4 /\ ∃ b,Ending.returned v=.returned (.bool b) /\ w.heap.size <= w4.heap.size /\ (∀ c,c < w.heap.size -> ((b=true /\ R.M0 c) \/ Xit c) -> w4.heap[c]? = w.heap[c]?) /\ (R.J P I st cnt K).g (if b then k+1 else cnt+1) Xit w4:=fun e c hj hc=>by
     obtain ⟨hf,hK⟩:=conj_spec hc
     have hcore:=fin (some c) .done (I.left st st' (keysO (I.own k t ++ I.keptO st))) rfl hf (fun k' o h=>⟨⟨o,(List.mem_filter.1 h).1⟩,S3.own _ _ (List.mem_filter.1 h).1⟩) (S3.nod.sublist (List.Sublist.map _ List.filter_sublist)) rfl rfl
     have hend:=run_endRound (P:=P) (some c) r3
     have e1:({ (R.rc .busy none) with state:=if (some c).isNone then .ready else .done,pending:=some c }:Loop)=R.rc .done (some c):=by rw [hrc];rfl
     rw [e1] at hend
     exact ⟨_,_,hend,false,rfl,(keep _).1,fun c hc h=>(keep _).2 c hc (h.imp (·.2) id),.inr ⟨rfl,e,c,_,hj,hK,hcore⟩⟩
   cases e with
   | normal =>
     obtain ⟨t',hc⟩:=hk2
     obtain ⟨h12,hinv'⟩:=conj_spec hc
     obtain ⟨hf,hO⟩:=all_append h12
     have hnd':=hnd (k+1) t' (by omega) hinv'
     have hcore:=fin none .ready (I.head st (k+1) t') rfl hf (fun k' o h=>fitO_ok S3 hO k' o h) (nodupB_ok hnd') rfl rfl
     have hend:=run_endRound (P:=P) none r3
     have e1:({ (R.rc .busy none) with state:=if (none:Option Code).isNone then .ready else .done,pending:=none }:Loop)=R.rc .ready none:=by rw [hrc];rfl
     rw [e1] at hend
     exact ⟨_,_,hend,true,rfl,(keep _).1,fun c hc h=>(keep _).2 c hc (h.imp (·.2) id),.inl ⟨(show k+1 <= cnt by omega),t',hinv',hnd',hcore⟩⟩
   | ret=>exact jump .ret .ret rfl hk2
   | exit id=>exact jump (.exit id) (.exit id) rfl hk2
   | goto l=>exact jump (.goto l) (.goto l) rfl hk2
   | panic _=>exact hk2.elim
   | outgrown=>exact hk2.elim
 | _=>exact hk1.elim
theorem RF.round_ok {R:RF} (hR:R.Ok) {C C':Cfg} (hsp:∀ f sp,C.specs f=some sp -> SpecOk P f sp /\ Enters P f) (hcy:C.yld=none) (hit:ItersOk P C) {I:RfInv} {ps:Array Nat} {cnt:Nat} {item:Nat -> List SV} {a b:Code} {K:Exit -> St -> Prop} {fn:Nat}
   (hrc:R.rc=fun s p=>{ state:=s,pending:=p,fn:=fn,tmps:=R.a0.tmps,params:=ps,assign:=a,body:=b,defers:=R.n0 }) (ha:Carries P C a) (hb:Carries P C b) (hv:RoundVc P C I st ps cnt item a b K)
   (hnd:∀ k t,k <= cnt -> I.inv k t -> nodupB (keysO (I.own k t ++ I.keptO st))=true) (hn:nodupB ps.toList=true) (hp:∀ p,p ∈ ps.toList -> p < st.nt) (hk:∀ x,x ∈ I.keptT st -> x.1 ∉ ps.toList) (hdn:R.a0.defers.Nodup) (hsiz:R.a0.tmps.size=st.nt)
   (hy:C'.yld=some ⟨R.n0+1,cnt,item⟩):YieldsOk P (R.J P I st cnt K) C':=by
 intro y hy' k Xit w vals hlt hg hXl hd
 rw [hy] at hy'
 cases hy'
 simp only at hlt hd
 rcases hg with ⟨_,t,hinv,_,hco⟩ | ⟨he,_⟩
 · exact RF.round_at hR hsp hcy hit hrc ha hb (hv k) hnd hn hp hk hdn hsiz hlt hinv hco hXl hd
 · omega
theorem rangeFunc_ok {G:Ctx} (hG:Stable G) {C:Cfg} (hC:SpecsOk P G C) {n:Nat} {f:Operand} {ps:Array Nat} {a b:Code} {K:Exit -> St -> Prop} {Q:Exit -> Act -> World -> Prop} {ac:Act} (ha:Carries P C a) (hb:Carries P C b)
   (h:vc P C (.rangeFunc f ps a b) st K) (hq:∀ e st' a' w',K e st' -> Sat P G st' a' w' -> Q e a' w') (hs:Sat P G st ac w):(Code.rangeFunc f ps a b).wpIn (W none) n P Q ac w:=by
 simp only [vc] at h
 split at h
 rotate_left
 · exact h.elim
 rename_i g caps hf
 split at h
 rotate_left
 · exact h.elim
 rename_i it I hitg hI
 split at h
 rotate_left
 · exact h.elim
 rename_i hc
 simp only [Bool.and_eq_true,List.all_eq_true,decide_eq_true_eq,Bool.not_eq_true',List.contains_eq_mem,decide_eq_false_iff_not,Option.isNone_iff_eq_none] at hc
 obtain ⟨⟨⟨⟨_,hcy⟩,hk⟩,hnp⟩,hp⟩:=hc
 obtain ⟨⟨hpre,t0,h0⟩,hv,hdone⟩:=h
 obtain ⟨hO0,hinv0⟩:=conj_spec h0
 obtain ⟨env,M,X,S⟩:=hs
 obtain ⟨hitok,hen⟩:=hC.2.2.1 g it hitg
 have hfd:=rho_ok S (gd:=none) (fun q c v hq=>by cases hq) trivial hf
 rcases hfd with ⟨hfd⟩
 generalize hev:ac.eval f=vf at hfd
 cases hfd with
 | clo _ _ cvs hcl hcd =>
 have hnd:∀ k t,k <= it.cnt caps -> I.inv k t -> nodupB (keysO (I.own k t ++ I.keptO st))=true:=fun k t hkc hinv=>by
   rcases Nat.lt_or_ge k (it.cnt caps) with hlt | hge
   · have:=hv k t (fun _=>undef) hlt hinv
     split at this
     · rename_i hc;simp only [Bool.and_eq_true] at hc;exact hc.1.1
     · exact this.elim
   · obtain rfl:k=it.cnt caps:=by omega
     have:=hdone t hinv
     split at this
     · rename_i hc;exact hc
     · exact this.elim
 refine wpIn_rangeFunc ?_
 intro fn hfn
 obtain ⟨R,hRd⟩:∃ R:RF,R = { G:=G,a0:=ac,M0:=M,X0:=X,n0:=w.heap.size,rc:=fun s p=>{ state:=s,pending:=p,fn:=fn,tmps:=ac.tmps,params:=ps,assign:=a,body:=b,defers:=w.heap.size } }:=⟨_,rfl⟩
 have hR:R.Ok:=by
   subst hRd
   refine ⟨hG,S.mlt,S.xlt,fun D hD=>?_⟩
   obtain ⟨D',e,_,q,_⟩:=S.dfr _ hD
   have:D=D':=by simpa using e
   subst this;exact q
 obtain ⟨W1,hW1⟩:∃ W1,(w.alloc (.deferred (some []))).alloc (.loop (R.rc .ready none))=W1:=⟨_,rfl⟩
 have hn0:R.n0=w.heap.size:=by rw [hRd]
 have hL1:W1.heap[w.heap.size+1]? = some (.loop (R.rc .ready none)):=by
   rw [<- hW1];have:=World.alloc_heap_new (w.alloc (.deferred (some []))) (.loop (R.rc .ready none));rwa [World.size_alloc] at this
 have hK1:W1.heap[w.heap.size]? = some (.deferred (some [])):=by
   rw [<- hW1];exact (Below.heap_alloc _ _ _ (by simp)).trans (World.alloc_heap_new w _)
 have hbel:Below w.heap.size w W1:=by
   rw [<- hW1];exact (((Below.refl _ w).alloc (Nat.le_refl _) _).alloc (by simp) _)
 have hsame:Same (fun _=>False) w W1:=⟨hbel.os,hbel.tape,hbel.output,by rw [<- hW1];exact Nat.le_refl _,hbel.size,fun b hb _=>hbel.block b hb⟩
 have hsz1:W1.heap.size=w.heap.size+2:=by rw [<- hW1];simp [World.size_alloc]
 -- the caller's state,the record laid
 have S1:SatC P G st ac W1 env M (R.xp W1):=by
   refine S.step hG hsame (M':=M) (fun b h=>h) (fun b h=>.inl h) (fun b h=>by have:=S.mlt b h;omega) (fun b h=>.inl h) (fun b h=>by rw [hRd];exact .inl h) (fun b h=>?_) (fun b h=>?_)
   · rw [hRd] at h
     rcases h with h | h
     · exact .inl h
     · exact .inr h.1
   · rw [hRd] at h
     rcases h with h | h
     · have:=S.xlt b h;omega
     · exact h.2
 have hcore0:R.Core P (I.head st 0 t0) .ready none (fun _=>False) W1:=by
   have hgx:R.G=G:=by rw [hRd]
   have ha0:R.a0=ac:=by rw [hRd]
   have hm0:R.M0=M:=by rw [hRd]
   refine ⟨env,M,?_,⟨by rw [hn0];exact hL1,by rw [hn0];exact hK1⟩,fun b h=>h.elim,fun h=>by have:=S.mlt _ h;omega,fun h=>by have:=S.mlt _ h;omega,fun k o g' hk' hg'=>?_⟩
   · rw [hgx,ha0]
     refine S1.refit (fun s e hm=>?_) (fun k o hm=>?_) (nodupB_ok (hnd 0 t0 (Nat.zero_le _) hinv0)) rfl rfl
     · obtain ⟨m1,m2⟩:=List.mem_filter.1 hm
       simp only [Bool.and_eq_true] at m2
       obtain ⟨q1,q2,_⟩:=S1.tmp _ _ m1
       have hgn:e.g=none:=by simpa [Ent.plain] using m2.2
       exact ⟨hgn,q1,q2 (ok_of_holds (by rw [hgn];trivial))⟩
     · exact fitO_ok S1 hO0 k o hm
   · obtain ⟨o',ho'⟩:=(fitO_ok S hO0 k o hk').1
     obtain ⟨q1,q2,q3⟩:=S.oat k o' ho' g' hg'
     exact ⟨by rw [hm0];exact q2,fun h=>h,by omega,by omega⟩
 have hyo:∀ C':Cfg,C'.yld=some ⟨w.heap.size+1,it.cnt caps,it.item caps⟩ -> YieldsOk P (R.J P I st (it.cnt caps) K) C':=fun C' hy=>by
   refine RF.round_ok hR hC.1 hcy hC.2.2 (fn:=fn) (by rw [hRd]) ha hb hv hnd hnp (fun p h=>hp p h) (fun x h=>hk x h) (by rw [hRd];exact S.dno) (by rw [hRd];exact S.siz) (by rw [hn0];exact hy)
 have hcall:=hitok (R.J P I st (it.cnt caps) K) (RF.J_stable hR I st (it.cnt caps) K) (w.heap.size+1) W1 caps cvs hpre (fun b h=>by rw [show (R.J P I st (it.cnt caps) K).m0=M by rw [hRd];rfl] at h;have:=S.mlt b h;omega)
   ⟨hcl,fun i hi=>by rw [show (R.J P I st (it.cnt caps) K).m0=M by rw [hRd];rfl];exact (hcd i hi).later ⟨hsame.size,fun b hb=>hsame.block b (S.mlt b hb) (fun h=>h),fun _ h=>h⟩⟩
   (.inl ⟨Nat.zero_le _,t0,hinv0,hnd 0 t0 (Nat.zero_le _) hinv0,hcore0⟩) hyo
 -- what the caller holds behind the loop
 have fin : ∀ {stX : St} {s : LoopState} {p : Option Code} {Xit : Nat -> Prop} {w2 : World}, R.Core P stX s p Xit w2 -> s ≠ .busy -> ∃ w3, (Instr.endLoop (w.heap.size + 1)).run P w2 = .ok p w3 /\
     Sat P G stX { ac with defers:=[{ target:=.collected w.heap.size,args:=#[] }] ++ ac.defers } w3:=by
   intro stX s p Xit w2 ⟨env2,M2,S2,⟨r1,r2⟩,hx,hMd,hMl,ho⟩ hsb
   rw [hn0] at r1 r2 hMd hMl
   have hend:=run_endLoop (P:=P) r1 (by rw [hRd];exact hsb)
   have hpend:(R.rc s p).pending=p:=by rw [hRd]
   rw [hpend] at hend
   obtain ⟨o2,hend⟩:∃ o2,(Instr.endLoop (w.heap.size+1)).run P w2=.ok p (w2.putObj (w.heap.size+1) o2):=⟨_,hend⟩
   refine ⟨_,hend,?_⟩
   have hgx:R.G=G:=by rw [hRd]
   have ha0:R.a0=ac:=by rw [hRd]
   rw [hgx,ha0] at S2
   have hblk:∀ b,b ≠ w.heap.size+1 -> (w2.putObj (w.heap.size+1) o2).heap[b]? = w2.heap[b]?:=fun b h=>World.putObj_heap_other h
   have hsz:(w2.putObj (w.heap.size+1) o2).heap.size=w2.heap.size:=by simp
   have hn1:=lt_of_some r1
   have hxL:R.xp w2 (w.heap.size+1):=.inr ⟨by omega,hn1⟩
   have hxD:R.xp w2 (w.heap.size):=.inr ⟨by omega,by omega⟩
   have S3:SatC P G stX ac (w2.putObj (w.heap.size+1) o2) env2 M2 (R.xp w2):=by
     refine S2.recast (Y:=fun b=>b=w.heap.size+1) ⟨hG _ _ w2 _ _ S2.gam.1 ⟨rfl,rfl,rfl,Nat.le_refl _,by omega,fun b hb hx'=>hblk b (fun e=>hx' (e ▸ hxL))⟩ (fun b h=>h) (fun b h=>.inl h),S2.gam.2⟩ (fun b h=>.inl h) (by omega) (fun b _ h=>hblk b h) (fun b e hm=>hMl (e ▸ hm))
       (fun k o hk' g' hg' e=>(ho k o g' hk' hg').2.2.2 (by rw [hn0];exact e)) (fun D hD e=>?_) (fun b h=>h) (fun b h=>by rw [hsz];exact S2.xlt b h)
     have:=hR.dlt D (by rw [ha0];exact hD)
     omega
   refine ⟨env2,M2,R.xp w2,S3.gam,S3.mx,S3.own,S3.oat,S3.inj,S3.nod,S3.mlt,S3.xlt,S3.siz,fun s' e h=>S3.tmp s' e h,fun s' e h=>S3.grd s' e h,fun d hd=>?_,?_⟩
   · rcases List.mem_append.1 hd with hd | hd
     · simp only [List.mem_singleton] at hd
       exact ⟨w.heap.size,hd,(hblk _ (by omega)).trans r2,hxD,hMd,fun k o hk' e=>(ho k o _ hk' e).2.2.1 hn0.symm⟩
     · exact S3.dfr d hd
   · refine List.nodup_cons.2 ⟨fun hm=>?_,S3.dno⟩
     have:=hR.dlt _ (by rw [ha0];exact hm)
     omega
 refine ⟨w.heap.size+1,[{ target:=.collected w.heap.size,args:=#[] }],W1,{ target:=.fn (.func g) cvs.toArray,args:=#[.func (.yield (w.heap.size+1)) #[] #[]] },W1,g,#[.func (.yield (w.heap.size+1)) #[] #[]] ++ cvs.toArray,W1,?_,?_,fun _ _=>trivial,?_,fun hx=>by simp [W,Fence.wide] at hx,?_⟩
 · have:=run_enterLoop_outer (P:=P) (w:=w) fn ac.tmps ps a b
   rw [show (W none).round=none from rfl,this,<- hW1,hRd]
 · simp only [resolve,hev]
   simp [go_sem]
 · simp only [invoke,go_sem]
   simp
   exact hen _ W1
 · refine calls_W (callsIn_mono hcall ?_)
   rintro e w2 ⟨v,Xit,rfl,hg | hg⟩
   · rcases hg with ⟨_,t,hinv,hn',hcore⟩ | ⟨he,_⟩
     rotate_left
     · omega
     obtain ⟨w3,hend,hs3⟩:=fin hcore (by simp)
     have:=hdone t hinv
     rw [if_pos hn'] at this
     exact ⟨none,w3,hend,hq _ _ _ _ this hs3⟩
   · rcases hg with ⟨he,_⟩ | ⟨_,e,c,stJ,hj,hK,hcore⟩
     · omega
     obtain ⟨w3,hend,hs3⟩:=fin hcore (by simp)
     refine ⟨some c,w3,hend,?_⟩
     cases e with
     | ret=>subst hj;exact wpIn_ret (hq _ _ _ _ hK hs3)
     | exit id=>subst hj;exact wpIn_exit (hq _ _ _ _ hK hs3)
     | goto l=>subst hj;exact wpIn_goto (hq _ _ _ _ hK hs3)
     | normal=>exact hj.elim
     | panic _=>exact hj.elim
     | outgrown=>exact hj.elim
end Go.SE
namespace Go.SE
open Go.RowKit
variable {P:Program} {G:Ctx}
theorem vc_rf_noRf {C:Cfg} {f:Operand} {ps:Array Nat} {a b:Code} {st:St} {K:Exit -> St -> Prop} (h:vc P C (.rangeFunc f ps a b) st K):noRf a=true /\ noRf b=true:=by
 simp only [vc] at h
 split at h
 · split at h
   · split at h
     · rename_i hc
       simp only [Bool.and_eq_true] at hc
       exact hc.1.1.1.1
     · exact h.elim
   · exact h.elim
 · exact h.elim
theorem vc_ok_all {C:Cfg} (hm:P.follows .mixedOrders=true):∀ (c:Code) (G:Ctx),Stable G -> SpecsOk P G C -> ∀ (ro:Option Nat) (n:Nat),(ro=none \/ noRf c=true) -> ∀ (st:St) (K:Exit -> St -> Prop) (Q:Exit -> Act -> World -> Prop),vc P C c st K ->
   (∀ e st' a' w',K e st' -> Sat P G st' a' w' -> Q e a' w') -> ∀ a w,Sat P G st a w -> c.wpIn (W ro) n P Q a w:=by
 intro c
 induction c with
 | skip=>exact fun G hG hC ro n hro st K Q h hq a w hs=>wpIn_skip (hq _ _ _ _ h hs)
 | label l=>exact fun G hG hC ro n hro st K Q h hq a w hs=>wpIn_label (hq _ _ _ _ h hs)
 | exit id=>exact fun G hG hC ro n hro st K Q h hq a w hs=>wpIn_exit (hq _ _ _ _ h hs)
 | goto l=>exact fun G hG hC ro n hro st K Q h hq a w hs=>wpIn_goto (hq _ _ _ _ h hs)
 | ret=>exact fun G hG hC ro n hro st K Q h hq a w hs=>wpIn_ret (hq _ _ _ _ h hs)
 | region id ops draw =>
   intro G hG hC ro n hro st K Q h hq a w hs
   simp only [vc] at h
   have hs':=Sat.nilRows (C.nils id) (hs.frzs (C.frz id))
   cases draw with
   | false =>
     simp only [Bool.false_eq_true,if_false] at h
     exact wpIn_region_list (execOps_ok hG hC (fun st a w hk hs=>hq .normal st a w hk hs) _ _ _ _ h hs')
   | true =>
     simp only [if_true] at h
     have hs2:Sat P G ((st.frzs (C.frz id)).nilRows (C.nils id)) a w.drew:=by
       obtain ⟨env,M,X,S⟩:=hs'
       exact ⟨env,M,_,S.grow hG (same_drew w) (M':=M) (fun b h=>h) (fun b h=>.inl h) (fun b h=>S.mlt b h)⟩
     split at h
     · exact wpIn_region_any hm (execAny_ok hG hC (fun st a w hk hs=>hq .normal st a w hk hs) _ _ _ _ _ h hs2)
     · exact wpIn_region_any hm (execDraw_ok hG hC (fun st a w hk hs=>hq .normal st a w hk hs) h hs2)
 | seq x y ihx ihy =>
   intro G hG hC ro n hro st K Q h hq a w hs
   simp only [vc] at h
   have hro2:(ro=none \/ noRf x=true) /\ (ro=none \/ noRf y=true):=by
     rcases hro with h | h
     · exact ⟨.inl h,.inl h⟩
     · simp only [noRf,Bool.and_eq_true] at h;exact ⟨.inr h.1,.inr h.2⟩
   refine wpIn_seq (ihx G hG hC ro n hro2.1 st _ _ h (fun e st' a' w' hk hs'=>?_) a w hs)
   cases e with
   | normal=>exact ihy G hG hC ro n hro2.2 st' K Q hk hq a' w' hs'
   | _=>exact hq _ _ _ _ hk hs'
 | cond c x y ihx ihy =>
   intro G hG hC ro n hro st K Q h hq a w hs
   simp only [vc] at h
   split at h
   · rename_i b hb
     obtain ⟨env,M,X,S⟩:=hs
     have hd:=rho_ok S (gd:=none) (fun q c v hq=>by cases hq) trivial hb
     rcases hd with ⟨hd⟩
     generalize hev:a.eval c=q at hd
     cases hd
     have hro2:(ro=none \/ noRf x=true) /\ (ro=none \/ noRf y=true):=by
       rcases hro with h | h
       · exact ⟨.inl h,.inl h⟩
       · simp only [noRf,Bool.and_eq_true] at h;exact ⟨.inr h.1,.inr h.2⟩
     exact wpIn_cond_split hev (fun ht=>ihx G hG hC ro n hro2.1 st K Q (h.1 ht) hq a w ⟨env,M,X,S⟩) (fun hf=>ihy G hG hC ro n hro2.2 st K Q (h.2 hf) hq a w ⟨env,M,X,S⟩)
   · exact h.elim
 | block id c ih =>
   intro G hG hC ro n hro st K Q h hq a w hs
   simp only [vc] at h
   refine wpIn_block (ih G hG hC ro n hro st _ _ h (fun e st' a' w' hk hs'=>?_) a w hs)
   cases e with
   | exit id' =>
     simp only [Exit.inBlock]
     dsimp only at hk
     by_cases he:id'=id
     · rw [if_pos he] at hk ⊢;exact hq _ _ _ _ hk hs'
     · rw [if_neg he] at hk ⊢;exact hq _ _ _ _ hk hs'
   | _=>exact hq _ _ _ _ hk hs'
 | loop c ih =>
   intro G hG hC ro n hro st K Q h hq a w hs
   simp only [vc] at h
   split at h
   · exact h.elim
   · rename_i I0 hI
     have hs:=Sat.nilRows (C.nilsL (firstReg c)) hs
     revert h hs
     generalize st.nilRows (C.nilsL (firstReg c))=st
     intro h hs
     generalize I0.tied st=I at h
     obtain ⟨⟨g0,h0⟩,hr⟩:=h
     obtain ⟨h1,hinv0⟩:=conj_spec h0
     have fitYnt:∀ (st':St) (g:I.T),all (I.fitY st st' g) -> (I.head st g).yk=st'.yk /\ st'.nt=st.nt /\ st'.stop=st.stop:=by
       intro st' g h
       obtain ⟨ha,hb⟩:=all_append h
       have hnt:st'.nt=st.nt:=by
         split at ha
         · rename_i he;simpa using he
         · exact (all_one ha).elim
       unfold LoopInv.head
       cases hy:I.yk with
       | none =>
         simp only [hy] at hb
         split at hb
         · rename_i he;simp at he;exact ⟨he.1.symm,hnt,he.2⟩
         · exact (all_one hb).elim
       | some f =>
         simp only [hy] at hb
         obtain ⟨h1,h2⟩:=all_cons hb
         exact ⟨h1.symm,hnt,all_one h2⟩
     refine wpIn_loop_ghost (fun m a w=>∃ g:I.T,I.mu g=m /\ I.inv g /\ Sat P G (I.head st g) a w) (I.mu g0) ⟨g0,rfl,hinv0,?_⟩ ?_
     · obtain ⟨h12,h3⟩:=all_append h1
       obtain ⟨h1',h2⟩:=all_append h12
       obtain ⟨hy1,hy2,_⟩:=fitYnt st g0 h1'
       have hr0:=hr g0 hinv0
       split at hr0
       · rename_i hnd
         obtain ⟨env,M,X,S⟩:=hs
         refine ⟨env,M,X,S.refit ?_ ?_ (nodupB_ok hnd) hy1 rfl⟩
         · intro s e hm
           rcases List.mem_append.1 hm with hm | hm
           · exact fitT_ok S h2 s e hm
           · obtain ⟨m1,m2⟩:=List.mem_filter.1 hm
             simp only [Bool.and_eq_true] at m2
             obtain ⟨t1,t2,_⟩:=S.tmp _ _ m1
             have hgn:e.g=none:=by simpa [Ent.plain] using m2.2
             exact ⟨hgn,t1,t2 (ok_of_holds (by rw [hgn];trivial))⟩
         · intro k o hm
           rcases List.mem_append.1 hm with hm | hm
           · exact fitO_ok S h3 k o hm
           · have m1:=(List.mem_filter.1 hm).1
             exact ⟨⟨_,m1⟩,S.own _ _ m1⟩
       · exact hr0.elim
     · rintro m a w ⟨g,rfl,hinv,hs⟩
       have hr1:=hr g hinv
       split at hr1
       · rename_i hnd
         refine ih G hG hC ro n hro _ _ _ hr1 (fun e st' a' w' hk hs'=>?_) a w hs
         cases e with
         | normal =>
           obtain ⟨g',hg'⟩:=hk
           obtain ⟨h1,hinv',hmu⟩:=conj_spec hg'
           obtain ⟨h12,h3⟩:=all_append h1
           obtain ⟨h1',h2⟩:=all_append h12
           obtain ⟨hy1,hy2,_⟩:=fitYnt st' g' h1'
           have hr2:=hr g' hinv'
           split at hr2
           · rename_i hnd'
             refine ⟨I.mu g',hmu,g',rfl,hinv',?_⟩
             obtain ⟨env,M,X,S⟩:=hs'
             exact ⟨env,M,X,S.refit (fun s e hm=>fitT_ok S h2 s e hm) (fun k o hm=>fitO_ok S h3 k o hm) (nodupB_ok hnd') hy1 hy2.symm⟩
           · exact hr2.elim
         | _=>exact hq _ _ _ _ hk hs'
       · exact hr1.elim
 | rangeFunc f ps a b iha ihb =>
   intro G hG hC ro n hro st K Q h hq ac w hs
   obtain ⟨na,nb⟩:=vc_rf_noRf h
   rcases hro with rfl | hro
   · exact rangeFunc_ok hG hC (fun G' hG' hC' ro' n' st' K' Q' _ h' hq'=>iha G' hG' hC' ro' n' (.inr na) st' K' Q' h' hq') (fun G' hG' hC' ro' n' st' K' Q' _ h' hq'=>ihb G' hG' hC' ro' n' (.inr nb) st' K' Q' h' hq') h hq hs
   · simp [noRf] at hro
 | scope c _=>intro G hG hC ro n hro st K Q h;exact h.elim
 | refuse s=>intro G hG hC ro n hro st K Q h;exact h.elim
theorem vc_ok (hG:Stable G) {C:Cfg} (hC:SpecsOk P G C) (hm:P.follows .mixedOrders=true) {n:Nat} (c:Code) (st:St) (K:Exit -> St -> Prop) (Q:Exit -> Act -> World -> Prop) (h:vc P C c st K)
 (hq:∀ e st' a' w',K e st' -> Sat P G st' a' w' -> Q e a' w'):∀ a w,Sat P G st a w -> c.wpIn (W none) n P Q a w:=vc_ok_all hm c G hG hC none n (.inl rfl) st K Q h hq
def st0 (fn:Func) (args:List EV):St:={ T:=args.zipIdx.map fun x=>(x.2,⟨none,x.1⟩),own:=[],yk:=0,stop:=false,nt:=args.length+(fn.ntmps - args.length) }
def resE (P:Program) (st:St):ResultVar -> Res
 | .tmp t=>match lookupT st.T t with
   | some ⟨none,e⟩=>some ([],e)
   | _=>none
 | .cell t ty=>match lookupT st.T t,tyOf P ty with
   | some ⟨none,e⟩,some y=>symLoad st.own y e
   | _,_=>none
def evP (st:St):EV -> Option (List Prop × SV)
 | .p s=>some ([],s)
 | .full _ sz n get=>some ([],.sl sz n get)
 | .row r=>match lookupO st.own r with
   | some (.row _ sz n get)=>some ([],.sl sz n get)
   | _=>none
 | .rsub r sz lo n=>match lookupO st.own r with
   | some (.row _ sz' n' get)=>if sz=sz' then some ([lo+n <= n'],.sl sz n (fun i=>get (lo+i))) else none
   | _=>none
 | _=>none
def resL (P:Program) (st:St):List ResultVar -> Option (List Prop × List SV)
 | []=>some ([],[])
 | r :: rs=>match resE P st r with
   | some (ps,e)=>match evP st e,resL P st rs with
     | some (rs,s),some (qs,ss)=>some (ps ++ (rs ++ qs),s :: ss)
     | _,_=>none
   | none=>none
def resS (P:Program) (st:St) (l:List ResultVar):Option (List Prop × SV):=match resL P st l with
 | some (ps,[s])=>some (ps,s)
 | some (ps,ss)=>some (ps,.tup ss)
 | none=>none
def SV.isSl:SV -> Bool
 | .sl ..=>true
 | _=>false
def fitCs:List SV -> List SV -> List Prop
 | [],[]=>[]
 | s :: ss,t :: ts=>fitS s t ++ fitCs ss ts
 | _,_=>[False]
def fitR:SV -> SV -> List Prop
 | .agg cs,.agg ds=>if ds.any SV.isSl then fitCs cs ds else [SV.agg cs=.agg ds]
 | s,t=>fitS s t
def fitAll:SV -> SV -> List Prop
 | .tup ss,.tup ts=>fitSs ss ts
 | s,t=>fitR s t
where fitSs:List SV -> List SV -> List Prop
 | [],[]=>[]
 | s :: ss,t :: ts=>fitR s t ++ fitSs ss ts
 | _,_=>[False]
def retFn (P:Program) (fn:Func) (r:SV):Exit -> St -> Prop:=fun e st=>match e with
 | .normal | .ret=>match resS P st fn.results.toList with
   | some (ps,s)=>andL (ps ++ fitAll s r)
   | none=>False
 | _=>False
def retRel (P:Program) (fn:Func) (T:Type) (post:T -> Prop) (r:T -> SV):Exit -> St -> Prop:=fun e st=>match e with
 | .normal | .ret=>match resS P st fn.results.toList with
   | some (ps,s)=>∃ t:T,conj (ps ++ fitAll s (r t)) (post t)
   | none=>False
 | _=>False
end Go.SE
namespace Go.SE
open Go.RowKit
variable {P:Program} {G:Ctx} {M:Nat -> Prop} {w:World} {st:St} {a:Act} {env:Env} {X:Nat -> Prop}
theorem SatC.turn (hG:Stable G) (S:SatC P G st a w env M X) {D:Nat} {w':World} (hX:X D) (hM:¬ M D) (hO:∀ k o,(k,o) ∈ st.own -> env.at_ k ≠ some D) (hs:Same (fun b=>b=D) w w') (hsz:w'.heap.size=w.heap.size)
   {a':Act} (ht:a'.tmps=a.tmps) (hd:∀ d,d ∈ a'.defers -> d ∈ a.defers /\ d ≠ { target:=.collected D,args:=#[] }) (hdn:a'.defers.Nodup):SatC P G st a' w' env M X:=by
 have hl:Later M M w w':=⟨hs.size,fun b hb=>hs.block b (S.mlt b hb) (fun e=>hM (e ▸ hb)),fun b hb=>hb⟩
 have hev:∀ x,a'.eval x=a.eval x:=fun x=>by cases x <;> simp [Act.eval,ht]
 refine ⟨⟨hG _ _ _ _ _ S.gam.1 ⟨hs.os,hs.tape,hs.output,hs.drawn,hs.size,fun b hb hx=>hs.block b hb (fun e=>hx (e ▸ hX))⟩ (fun b h=>h) (fun b h=>.inl h),S.gam.2⟩,S.mx,?_,?_,S.inj,S.nod,by rw [hsz];exact S.mlt,by rw [hsz];exact S.xlt,by rw [ht];exact S.siz,?_,?_,?_,hdn⟩
 · intro k o h
   have h1:=S.own _ _ h
   have h2:=S.oat _ _ h
   have hng:∀ g',env.at_ k=some g' -> g' ≠ D:=fun g' hg' e=>hO _ _ h (e ▸ hg')
   cases o with
   | mp kt n get =>
     obtain ⟨g',es,clock,ha,hh,hz,hd⟩:=h1
     exact ⟨g',es,clock,ha,(hs.block g' (h2 g' ha).2.2 (hng g' ha)).trans hh,hz,fun i hi=>⟨(hd i hi).1,(hd i hi).2.still⟩⟩
   | mq kt vt dom val =>
     obtain ⟨g',es,clock,ha,hh,hz,hd⟩:=h1
     exact ⟨g',es,clock,ha,(hs.block g' (h2 g' ha).2.2 (hng g' ha)).trans hh,hz,fun i hi=>by obtain ⟨key,q1,q2,q3⟩:=hd i hi;exact ⟨key,q1,q2,q3.later hl⟩⟩
   | blk t cs =>
     obtain ⟨g',vs,ha,hh,hz,hd⟩:=h1
     exact ⟨g',vs,ha,(hs.block g' (h2 g' ha).2.2 (hng g' ha)).trans hh,hz,fun i hi=>⟨(hd i hi).1,(hd i hi).2.later hl⟩⟩
   | row e sz n get =>
     obtain ⟨hm,hgl,h1⟩:=h1
     refine ⟨hm,hgl,?_⟩
     rcases h1 with h1 | ⟨g',cap,cur,ha,hr,hh,h3,h4,h5,h6⟩
     · exact .inl h1
     · exact .inr ⟨g',cap,cur,ha,hr,(hs.block g' (h2 g' ha).2.2 (hng g' ha)).trans hh,h3,h4,h5,fun i hi j hj=>⟨(h6 i hi j hj).1,(h6 i hi j hj).2.later hl⟩⟩
 · intro k o h g hg
   rw [hsz];exact S.oat _ _ h g hg
 · intro s e h
   obtain ⟨h1,h2,h3⟩:=S.tmp s e h
   exact ⟨h1,fun ho=>by rw [hev];exact (h2 ho).later hl,fun ho=>by rw [hev];exact h3 ho⟩
 · intro s e h q c v hq
   rw [hev];exact S.grd s e h q c v hq
 · intro d hd'
   obtain ⟨h0,hne⟩:=hd d hd'
   obtain ⟨D',e,h1,h2,h3,h4⟩:=S.dfr d h0
   have hDD:D' ≠ D:=fun he=>hne (by rw [e,he])
   exact ⟨D',e,(hs.block D' (S.xlt D' h2) hDD).trans h1,h2,h3,h4⟩
theorem leave_ok (hG:Stable G) {fn:Func} {n:Nat} {R:Ending -> World -> Prop}:∀ (ds:List Deferred) (a:Act) (w:World),a.defers=ds -> Sat P G st a w -> (∀ a' w',a'.tmps=a.tmps -> Sat P G st a' w' -> ∃ v,(results fn a.tmps).run P w'=.ok v w' /\ R (.returned v) w') ->
   LeavesInM Fence.wide n P fn a.tmps R ds .returning w
 | [],a,w,hd,hs,h=>h a w rfl hs
 | d :: ds,a,w,hd,⟨env,M,X,S⟩,h=>by
   obtain ⟨D,e,h1,h2,h3,h4⟩:=S.dfr d (by rw [hd];simp)
   have hDlt:=S.xlt D h2
   have hnd:=S.dno
   rw [hd] at hnd
   obtain ⟨hn1,hn2⟩:=List.nodup_cons.1 hnd
   have hsame:Same (fun b=>b=D) w (w.putObj D (.deferred none)):=⟨rfl,rfl,rfl,Nat.le_refl _,by simp [World.putObj],fun b hb hne=>World.putObj_heap_other (w:=w) hne⟩
   have S':SatC P G st { a with defers:=ds } (w.putObj D (.deferred none)) env M X:=S.turn hG h2 h3 h4 hsame (by simp [World.putObj]) rfl (fun d' hd'=>⟨by rw [hd];exact List.mem_cons_of_mem _ hd',fun he=>hn1 (by rw [e,<- he];exact hd')⟩) hn2
   refine ⟨by simp,.inl ⟨D,_,by rw [e],run_takeDeferred h1,?_⟩⟩
   exact leave_ok hG ds { a with defers:=ds } _ rfl ⟨env,M,X,S'⟩ (fun a' w' ha hs'=>h a' w' ha hs')
def plainG (M:Nat -> Prop) (W:World):Ctx:={ g:=fun _ X w=>Bl W.heap.size W w /\ ∀ b,X b -> W.heap.size <= b,m0:=M }
theorem plainG_stable (M:Nat -> Prop) (W:World):Stable (plainG M W):=by
 intro k X w X' w' ⟨hb,hx⟩ hs h1 h2
 refine ⟨hb.trans ⟨hs.os,hs.tape,hs.output,hs.drawn,hs.size,fun b hlt=>hs.block b (Nat.lt_of_lt_of_le hlt hb.size) (fun hX=>by have:=hx b hX;omega)⟩,fun b hb'=>?_⟩
 rcases h2 b hb' with h | h
 · exact hx b h
 · exact Nat.le_trans hb.size h
def readRes (tmps:Array Value):ResultVar -> Sem Value
 | .tmp t=>pure (tmps.getD t undef)
 | .cell c t=>do loadVar t (<- asAddr (tmps.getD c undef))
theorem results_eq (fn:Func) (tmps:Array Value):results fn tmps=(do let vs <- fn.results.mapM (readRes tmps);pure (if h:vs.size=1 then vs[0] else .tuple vs)):=by
 unfold results
 congr 2
theorem readRes_ok (S:SatC P G st a w env M X) {r:ResultVar} {ps1:List Prop} {e:EV} (he:resE P st r=some (ps1,e)) (hp1:all ps1):∃ v,(readRes a.tmps r).run P w=.ok v w /\ DenE P M w env e v:=by
 unfold resE at he
 cases r with
 | tmp t =>
   simp only at he
   split at he
   · rename_i e' hl
     cases he
     exact ⟨_,rfl,(S.tmp _ _ (lookupT_mem hl)).2.1 trivial⟩
   · cases he
 | cell c t =>
   simp only at he
   split at he
   · rename_i e' y hl hy
     have hden:=(S.tmp _ _ (lookupT_mem hl)).2.1 trivial
     obtain ⟨u,h1,h2⟩:=load_ok S hy he hp1 hden
     refine ⟨u,?_,h2⟩
     have hev:a.tmps.getD c undef=a.eval (.tmp c):=rfl
     simp only [readRes,hev]
     generalize a.eval (.tmp c)=q at h1
     unfold Instr.loadAt at h1
     cases q with
     | pointer ad =>
       cases ad with
       | none=>simp [Instr.sureAddr,stuck,Sem.run] at h1
       | some ad=>simpa [Instr.sureAddr,asAddr] using h1
     | _=>simp [Instr.sureAddr,stuck,Sem.run] at h1
   · cases he
theorem results_ok (S:SatC P G st a w env M X):∀ (l:List ResultVar) (ps:List Prop) (ss:List SV),resL P st l=some (ps,ss) -> all ps -> (∀ g k o,(k,o) ∈ st.own -> env.at_ k=some g -> True) ->
   ∃ vs,(l.mapM (readRes a.tmps)).run P w=.ok vs w /\ DenL (fun b=>M b \/ X b) w ss vs
 | [],ps,ss,h,hp,_=>by
   simp only [resL,Option.some.injEq,Prod.mk.injEq] at h
   obtain ⟨_,rfl⟩:=h
   exact ⟨[],rfl,⟨rfl,fun i hi=>by simp at hi⟩⟩
 | r :: l,ps,ss,h,hp,_=>by
   simp only [resL] at h
   split at h
   · rename_i ps1 e he
     split at h
     · rename_i rs s qs ss' hes hrest
       simp only [Option.some.injEq,Prod.mk.injEq] at h
       obtain ⟨rfl,rfl⟩:=h
       obtain ⟨hp1,hp23⟩:=all_append hp
       obtain ⟨hp3,hp2⟩:=all_append hp23
       obtain ⟨vs,hr,hd⟩:=results_ok S l _ _ hrest hp2 (fun _ _ _ _ _=>trivial)
       have key:=readRes_ok S he hp1
       obtain ⟨v,hv,hden⟩:=key
       have hsp:DenP (fun b=>M b \/ X b) w s v:=by
         unfold evP at hes
         split at hes
         · cases hes;rcases hden with ⟨hden⟩;exact hden.weak (fun b hb=>.inl hb)
         · cases hes
           cases hden with
           | full hden _=>exact hden.weak (fun b hb=>.inl hb)
         · rename_i r'
           split at hes
           · rename_i e' sz n get hl
             cases hes
             cases hden with
             | row hrv =>
             have:=row_den S (lookupO_mem hl) (M':=fun b=>M b \/ X b) (fun b hb=>.inl hb) (fun g hg=>.inr (S.oat _ _ (lookupO_mem hl) g hg).1)
             rw [hrv] at this;exact this
           · cases hes
         · rename_i r' sz lo n
           split at hes
           · rename_i e' sz' n' get hl
             split at hes
             · rename_i hsz
               subst hsz
               cases hes
               exact rsub_den S (lookupO_mem hl) (M':=fun b=>M b \/ X b) (fun b hb=>.inl hb) (fun g hg=>.inr (S.oat _ _ (lookupO_mem hl) g hg).1) (all_one hp3) hden
             · cases hes
           · cases hes
         · cases hes
       exact ⟨v :: vs,by simp [List.mapM_cons,hv,hr],denL_cons hsp hd⟩
     · cases h
   · cases h
theorem fitCs_at:∀ (ss ts:List SV),all (fitCs ss ts) -> ss.length=ts.length /\ ∀ i,i < ts.length -> all (fitS (SV.at ss i) (SV.at ts i)):=by
 intro ss
 induction ss with
 | nil=>intro ts h;cases ts with
   | nil=>exact ⟨rfl,fun i hi=>by simp at hi⟩
   | cons t ts=>exact (all_one h).elim
 | cons s ss ih=>intro ts h;cases ts with
   | nil=>exact (all_one h).elim
   | cons t ts =>
     simp only [fitCs] at h
     obtain ⟨h1,h2⟩:=all_append h
     obtain ⟨h3,h4⟩:=ih ts h2
     refine ⟨by simp [h3],fun i hi=>?_⟩
     cases i with
     | zero=>exact h1
     | succ i=>exact h4 i (by simpa using hi)
theorem fitR_ok {s r:SV} (h:all (fitR s r)) {v:Value} (hd:DenP M w s v):DenP M w r v:=by
 unfold fitR at h
 split at h
 · split at h
   · cases hd with
     | agg _ vs hl hdd =>
     obtain ⟨h1,h2⟩:=fitCs_at _ _ h
     exact .agg _ vs (hl.trans h1) (fun i hi=>fitS_ok (h2 i hi) (hdd i (by omega)))
   · have:=all_one h;rw [<- this];exact hd
 · exact fitS_ok h hd
theorem fitAll_ok {s r:SV} (h:all (fitAll s r)) {v:Value} (hd:DenP M w s v):DenP M w r v:=by
 unfold fitAll at h
 split at h
 · rename_i ss ts
   cases hd with
   | tup _ vs hl hdd =>
   have:∀ (ss ts:List SV),all (fitAll.fitSs ss ts) -> ss.length=ts.length /\ ∀ i,i < ts.length -> all (fitR (SV.at ss i) (SV.at ts i)):=by
     intro ss
     induction ss with
     | nil=>intro ts h;cases ts with
       | nil=>exact ⟨rfl,fun i hi=>by simp at hi⟩
       | cons t ts=>exact (all_one h).elim
     | cons s ss ih=>intro ts h;cases ts with
       | nil=>exact (all_one h).elim
       | cons t ts =>
         simp only [fitAll.fitSs] at h
         obtain ⟨h1,h2⟩:=all_append h
         obtain ⟨h3,h4⟩:=ih ts h2
         refine ⟨by simp [h3],fun i hi=>?_⟩
         cases i with
         | zero=>exact h1
         | succ i=>exact h4 i (by simpa using hi)
   obtain ⟨h1,h2⟩:=this _ _ h
   exact .tup _ vs (hl.trans h1) (fun i hi=>fitR_ok (h2 i hi) (hdd i (by omega)))
 · exact fitR_ok h hd
theorem andL_all:∀ {ps:List Prop},andL ps -> all ps
 | [],_=>all_nil
 | [p],h=>fun q hq=>by rw [List.mem_singleton.1 hq];exact h
 | p :: p' :: ps,h=>fun q hq=>by
   rcases List.mem_cons.1 hq with rfl | hq
   · exact h.1
   · exact andL_all (ps:=p' :: ps) h.2 q hq
theorem results_den {fn:Func} (S:SatC P G st a w env M X) {ps:List Prop} {s:SV} (h:resS P st fn.results.toList=some (ps,s)) (hp:all ps) {tmps:Array Value} (ht:tmps=a.tmps):∃ v,(results fn tmps).run P w=.ok v w /\ DenP (fun b=>M b \/ X b) w s v:=by
 subst ht
 unfold resS at h
 have fin : ∀ vs : List Value, (fn.results.toList.mapM (readRes a.tmps)).run P w = .ok vs w ->
     (results fn a.tmps).run P w=.ok (if h:vs.toArray.size=1 then vs.toArray[0] else .tuple vs.toArray) w:=fun vs hv=>by
   rw [results_eq]
   simp [Array.mapM_eq_mapM_toList,hv]
 split at h
 · rename_i ps' s' hr
   cases h
   obtain ⟨vs,h1,h2⟩:=results_ok S _ _ _ hr hp (fun _ _ _ _ _=>trivial)
   obtain ⟨hl,hd⟩:=h2
   match vs,hl with
   | [v],_ =>
     refine ⟨v,by rw [fin _ h1];simp,?_⟩
     simpa [SV.at] using hd 0 (by simp)
 · rename_i ps' ss hne hr
   cases h
   obtain ⟨vs,h1,h2⟩:=results_ok S _ _ _ hr hp (fun _ _ _ _ _=>trivial)
   refine ⟨.tuple vs.toArray,?_,.tup _ _ h2.1 h2.2⟩
   rw [fin _ h1]
   have hno:¬ vs.length=1:=by
     intro hc
     have hl:=h2.1
     rw [hc] at hl
     match ss,hl with
     | [s0],_=>exact hne s0 rfl
   simp [hno]
 · cases h
end Go.SE
namespace Go.SE
open Go.RowKit
variable {P:Program}
abbrev SpecsOk0 (P:Program) (C:Cfg):Prop:=(∀ f sp,C.specs f=some sp -> SpecOk P f sp /\ Enters P f) /\ C.yld=none /\ ItersOk P C
theorem SpecsOk0.any {P:Program} {C:Cfg} (h:SpecsOk0 P C) (G:Ctx):SpecsOk P G C:=⟨h.1,fun y hy=>(by rw [h.2.1] at hy;cases hy),h.2.2⟩
theorem init_sat {fn:Func} {args:List EV} {vals:List Value} {M:Nat -> Prop} {w:World} (hlt:∀ b,M b -> b < w.heap.size) (hargs:ArgsOk P M w args vals) :
   Sat P (plainG M w) (st0 fn args) { tmps:=vals.toArray ++ Array.replicate (fn.ntmps - vals.toArray.size) undef,defers:=[] } w:=by
 have hl:=hargs.1
 refine ⟨env0,M,fun _=>False,⟨⟨Bl.refl _ _,fun b h=>h.elim⟩,fun k h=>h.elim⟩,fun b h=>.inl h,fun k o h=>by simp [st0] at h,fun k o h=>by simp [st0] at h,fun k o k' o' h=>by simp [st0] at h,by simp [st0],hlt,fun b h=>h.elim,?_,?_,?_,fun d h=>by simp at h,by simp⟩
 · simp [st0,hl]
 · intro s e h
   simp only [st0,List.mem_map] at h
   obtain ⟨⟨ev,i⟩,hm,he⟩:=h
   simp only [Prod.mk.injEq] at he
   obtain ⟨rfl,rfl⟩:=he
   obtain ⟨hi,hev⟩:=List.mem_zipIdx hm |> fun h=>(⟨by omega,by simpa using h.2.2⟩:i < args.length /\ ev=args[i]'(by omega))
   refine ⟨by simp [st0];omega,fun _=>?_,fun hn=>absurd trivial hn⟩
   have:=(hargs.2 i hi).2
   have e1:EV.at args i=ev:=by rw [hev];simp [EV.at,List.getD_eq_getElem?_getD,hi]
   rw [e1] at this
   have e2:({ tmps:=vals.toArray ++ Array.replicate (fn.ntmps - vals.toArray.size) undef,defers:=[] }:Act).eval (.tmp i)=vals.getD i undef:=by
     simp only [Act.eval,Array.getD_eq_getD_getElem?,List.getD_eq_getElem?_getD]
     rw [Array.getElem?_append_left (by simp;omega)]
     simp
   rw [e2];exact this
 · intro s e h q c v hq
   simp only [st0,List.mem_map] at h
   obtain ⟨⟨ev,i⟩,hm,he⟩:=h
   simp only [Prod.mk.injEq] at he
   obtain ⟨rfl,rfl⟩:=he
   cases hq
theorem gives_of {M:Nat -> Prop} {w:World} {st:St} {a:Act} {w':World} {env:Env} {M' X:Nat -> Prop} (hlt:∀ b,M b -> b < w.heap.size) (S:SatC P (plainG M w) st a w' env M' X) {r:SV} {v:Value} (hd:DenP (fun b=>M' b \/ X b) w' r v):Gives M w r (.returned v) w':=by
 obtain ⟨⟨hb,hx⟩,_⟩:=S.gam
 refine ⟨v,fun b=>M' b \/ X b \/ M b,rfl,hb,fun b h=>.inr (.inr h),fun b h=>?_,fun b h=>?_,hd.weak (fun b h=>h.imp id .inl)⟩
 · rcases h with h | h | h
   · rcases S.mx b h with h | h
     · exact .inl h
     · exact .inr (hx b h)
   · exact .inr (hx b h)
   · exact .inl h
 · rcases h with h | h | h
   · exact S.mlt b h
   · exact S.xlt b h
   · exact Nat.lt_of_lt_of_le (hlt b h) hb.size
theorem body_ok {f:Nat} {fn:Func} {c:Code} (hf:P.funcs[f]? = some fn) (hb:fn.body=some c) {C:Cfg} (hC:SpecsOk0 P C) (hm:P.follows .mixedOrders=true) {K:Exit -> St -> Prop} {args:List EV} (h:vc P C c (st0 fn args) K)
   {M:Nat -> Prop} {w:World} {vals:List Value} (hlt:∀ b,M b -> b < w.heap.size) (hargs:ArgsOk P M w args vals) {R:Ending -> World -> Prop} (hK:∀ e st,K e st -> e=.normal \/ e=.ret)
   (hR:∀ e st a w' tmps,K e st -> tmps=a.tmps -> Sat P (plainG M w) st a w' -> ∃ v,(results fn tmps).run P w'=.ok v w' /\ R (.returned v) w'):CallsIn Fence.wide 0 P f vals.toArray w R:=by
 have hG:=plainG_stable M w
 refine callsIn_of_wp_marks hf hb trivial ?_ rfl
 refine vc_ok hG (hC.any _) hm c (st0 fn args) K _ h (fun e st' a' w' hk hs=>?_) _ _ (init_sat hlt hargs)
 have fin:LeavesInM Fence.wide 0 P fn a'.tmps R a'.defers .returning w':=leave_ok hG a'.defers a' w' rfl hs (fun a2 w2 ha hs2=>hR e st' a2 w2 _ hk ha.symm hs2)
 rcases hK e st' hk with rfl | rfl <;> exact fin
theorem fn_ok {f:Nat} {fn:Func} {c:Code} (hf:P.funcs[f]? = some fn) (hb:fn.body=some c) {C:Cfg} (hC:SpecsOk0 P C) (hm:P.follows .mixedOrders=true) {pre:List EV -> Prop} {res:List EV -> SV}
   (h:∀ args,pre args -> vc P C c (st0 fn args) (retFn P fn (res args))):SpecOk P f (.fn pre res):=by
 intro M w args vals hlt hargs hp
 refine body_ok hf hb hC hm (h args hp) hlt hargs (fun e st hk=>?_) (fun e st a w' tmps hk ht hs=>?_)
 · cases e <;> first | exact .inl rfl | exact .inr rfl | exact hk.elim
 · obtain ⟨env,M',X,S⟩:=hs
   have key:(match resS P st fn.results.toList with | some (ps,s)=>andL (ps ++ fitAll s (res args)) | none=>False) -> ∃ v,(results fn tmps).run P w'=.ok v w' /\ Gives M w (res args) (.returned v) w':=by
     intro hz
     split at hz
     · rename_i ps s hr
       obtain ⟨h1,h2⟩:=all_append (andL_all hz)
       obtain ⟨v,hv,hd⟩:=results_den S hr h1 ht
       exact ⟨v,hv,gives_of hlt S (fitAll_ok h2 hd)⟩
     · exact hz.elim
   cases e <;> first | exact key hk | exact hk.elim
theorem rel_ok {f:Nat} {fn:Func} {c:Code} (hf:P.funcs[f]? = some fn) (hb:fn.body=some c) {C:Cfg} (hC:SpecsOk0 P C) (hm:P.follows .mixedOrders=true) {T:Type} {t0:T} {pre:List EV -> Prop} {post:List EV -> T -> Prop} {res:List EV -> T -> SV}
   (h:∀ args,pre args -> vc P C c (st0 fn args) (retRel P fn T (post args) (res args))):SpecOk P f (.rel T t0 pre post res):=by
 intro M w args vals hlt hargs hp
 refine body_ok hf hb hC hm (h args hp) hlt hargs (fun e st hk=>?_) (fun e st a w' tmps hk ht hs=>?_)
 · cases e <;> first | exact .inl rfl | exact .inr rfl | exact hk.elim
 · obtain ⟨env,M',X,S⟩:=hs
   have key : (match resS P st fn.results.toList with | some (ps, s) => ∃ t : T, conj (ps ++ fitAll s (res args t)) (post args t) | none => False) ->
       ∃ v,(results fn tmps).run P w'=.ok v w' /\ ∃ t:T,post args t /\ Gives M w (res args t) (.returned v) w':=by
     intro hz
     split at hz
     · rename_i ps s hr
       obtain ⟨t,ht'⟩:=hz
       obtain ⟨h12,h3⟩:=conj_spec ht'
       obtain ⟨h1,h2⟩:=all_append h12
       obtain ⟨v,hv,hd⟩:=results_den S hr h1 ht
       exact ⟨v,hv,t,h3,gives_of hlt S (fitAll_ok h2 hd)⟩
     · exact hz.elim
   cases e <;> first | exact key hk | exact hk.elim
def retFresh (P:Program) (fn:Func) (T:Type) (post:T -> Prop) (e:TypeId) (sz:Nat) (n:T -> Nat) (get:T -> Nat -> List SV):Exit -> St -> Prop:=fun ex st=>match ex with
 | .normal | .ret=>match fn.results.toList with
   | [r]=>match resE P st r with
     | some (ps,.row k)=>match lookupO st.own k with
       | some (.row e' sz' n' get')=>if e' == e && sz' == sz then ∃ t:T,conj (ps ++ [n'=n t /\ ∀ i,i < n' -> get' i=get t i]) (post t) else False
       | _=>False
     | some (ps,.p (.raw (.slice none 0 0)))=>∃ t:T,conj (ps ++ [n t=0]) (post t)
     | _=>False
   | _=>False
 | _=>False
theorem fresh_ok {f:Nat} {fn:Func} {c:Code} (hf:P.funcs[f]? = some fn) (hb:fn.body=some c) {C:Cfg} (hC:SpecsOk0 P C) (hm:P.follows .mixedOrders=true) {T:Type} {t0:T} {pre:List EV -> Prop} {post:List EV -> T -> Prop} {el:TypeId} {sz:Nat} {n:List EV -> T -> Nat} {get:List EV -> T -> Nat -> List SV}
   (h:∀ args,pre args -> vc P C c (st0 fn args) (retFresh P fn T (post args) el sz (n args) (get args))):SpecOk P f (.fresh T t0 pre post el sz n get):=by
 intro M w args vals hlt hargs hp
 refine body_ok hf hb hC hm (h args hp) hlt hargs (fun e st hk=>?_) (fun e st a w' tmps hk ht hs=>?_)
 · cases e <;> first | exact .inl rfl | exact .inr rfl | exact hk.elim
 · obtain ⟨env,M',X,S⟩:=hs
   have key : retFresh P fn T (post args) el sz (n args) (get args) .ret st -> ∃ v, (results fn tmps).run P w' = .ok v w' /\ ∃ t : T, post args t /\ ∃ env v', Ending.returned v = .returned v' /\ Bl w.heap.size w w' /\
       OwnOk P (fun b=>M b \/ (w.heap.size <= b /\ b < w'.heap.size /\ env.at_ 0 ≠ some b)) w' env 0 (.row el sz (n args t) (get args t)) /\ env.rv 0=v' /\ (∀ g,env.at_ 0=some g -> w.heap.size <= g /\ g < w'.heap.size):=by
     intro hz
     obtain ⟨⟨hb',hx⟩,_⟩:=S.gam
     simp only [retFresh] at hz
     split at hz
     · rename_i r hres
       have hrun:∀ v,(readRes tmps r).run P w'=.ok v w' -> (results fn tmps).run P w'=.ok v w':=fun v hv=>by
         rw [results_eq]
         simp [Array.mapM_eq_mapM_toList,hres,hv]
       split at hz
       · rename_i ps k hre
         split at hz
         · rename_i e' sz' n' get' hl
           split at hz
           · rename_i hc
             simp only [Bool.and_eq_true,beq_iff_eq] at hc
             obtain ⟨rfl,rfl⟩:=hc
             obtain ⟨t,hz⟩:=hz
             obtain ⟨h12,h3⟩:=conj_spec hz
             obtain ⟨h1,h2⟩:=all_append h12
             obtain ⟨hn,hg⟩:=all_one h2
             obtain ⟨vs,hr,hd⟩:=results_ok S [r] ps [.sl sz' n' get'] (by simp [resL,hre,evP,hl]) h1 (fun _ _ _ _ _=>trivial)
             rw [<- ht] at hr
             have hrow:=S.own _ _ (lookupO_mem hl)
             have hat:=S.oat _ _ (lookupO_mem hl)
             -- the value that is read is the row's
             have hval:∃ v,(readRes tmps r).run P w'=.ok v w' /\ v=env.rv k:=by
               subst ht
               unfold resE at hre
               cases r with
               | tmp t' =>
                 simp only at hre
                 split at hre
                 · rename_i e'' hlt'
                   cases hre
                   have:=(S.tmp _ _ (lookupT_mem hlt')).2.1 trivial
                   refine ⟨_,rfl,?_⟩
                   have hev:a.tmps.getD t' undef=a.eval (.tmp t'):=rfl
                   rw [hev]
                   generalize a.eval (.tmp t')=q at this
                   cases this with
                   | row hrv=>exact hrv.symm
                 · cases hre
               | cell c' t' =>
                 simp only at hre
                 split at hre
                 · rename_i e'' y hl' hy
                   have hden:=(S.tmp _ _ (lookupT_mem hl')).2.1 trivial
                   obtain ⟨u,q1,q2⟩:=load_ok S hy hre h1 hden
                   refine ⟨u,?_,by cases q2 with | row hrv=>exact hrv.symm⟩
                   have hev:a.tmps.getD c' undef=a.eval (.tmp c'):=rfl
                   simp only [readRes,hev]
                   generalize a.eval (.tmp c')=q at q1
                   unfold Instr.loadAt at q1
                   cases q with
                   | pointer ad =>
                     cases ad with
                     | none=>simp [Instr.sureAddr,stuck,Sem.run] at q1
                     | some ad=>simpa [Instr.sureAddr,asAddr] using q1
                   | _=>simp [Instr.sureAddr,stuck,Sem.run] at q1
                 · cases hre
             obtain ⟨v,hv,rfl⟩:=hval
             refine ⟨_,hrun _ hv,t,h3,{ env with at_:=fun _=>env.at_ k,rv:=fun _=>env.rv k },_,rfl,hb',?_,rfl,fun g hg'=>⟨hx g (hat g hg').1,(hat g hg').2.2⟩⟩
             obtain ⟨hm',hgl,hO⟩:=hrow
             rw [<- hn]
             refine ⟨hm',fun i hi=>by rw [<- hg i hi];exact hgl i hi,?_⟩
             rcases hO with hO | ⟨g,cap,cur,ha,hr',hh,q3,q4,q5,q6⟩
             · exact .inl hO
             · refine .inr ⟨g,cap,cur,ha,hr',hh,q3,q4,q5,fun i hi j hj=>⟨(q6 i hi j hj).1,?_⟩⟩
               rw [<- hg i hi]
               refine (q6 i hi j hj).2.weak fun b hb=>?_
               rcases S.mx b hb with h | h
               · exact .inl h
               · exact .inr ⟨hx b h,S.mlt b hb,fun e=>(hat b e).2.1 hb⟩
           · exact hz.elim
         · exact hz.elim
       · rename_i ps hre
         obtain ⟨t,hz⟩:=hz
         obtain ⟨h12,h3⟩:=conj_spec hz
         obtain ⟨h1,h2⟩:=all_append h12
         have hn:=all_one h2
         obtain ⟨vs,hr,hd⟩:=results_ok S [r] ps [.raw (.slice none 0 0)] (by simp [resL,hre,evP]) h1 (fun _ _ _ _ _=>trivial)
         rw [<- ht] at hr
         obtain ⟨hlen,hden⟩:=hd
         match vs,hlen with
         | [v],_ =>
           have hv:v=.slice none 0 0:=by
             have:=hden 0 (by simp)
             simp [SV.at] at this
             cases this;rfl
           have hv':(readRes tmps r).run P w'=.ok v w':=by
             simp only [List.mapM_cons,List.mapM_nil,Sem.run_bind] at hr
             generalize (readRes tmps r).run P w'=q at hr ⊢
             cases q with
             | ok x w2 =>
               simp at hr
               obtain ⟨rfl,rfl⟩:=hr;rfl
             | halt x w2=>simp [Result.andThen] at hr
           subst hv
           refine ⟨_,hrun _ hv',t,h3,{ env0 with rv:=fun _=>.slice none 0 0 },_,rfl,hb',⟨by omega,fun i hi=>by omega,.inl ⟨rfl,rfl,hn⟩⟩,rfl,fun g hg=>by simp [env0] at hg⟩
       · exact hz.elim
     · exact hz.elim
   cases e <;> first | exact key hk | exact hk.elim
def preO (s:List EV -> Option (Prop × SV)) (xs0:List EV):Prop:=match s xs0 with | some (p,_)=>p | none=>False
def resO (s:List EV -> Option (Prop × SV)) (xs0:List EV):SV:=match s xs0 with | some (_,r)=>r | none=>.raw undef
def specO (s:List EV -> Option (Prop × SV)):Spec:=.fn (preO s) (resO s)
def specR (T:Type) (t0:T) (s:List EV -> Option (Prop × (T -> Prop) × (T -> SV))):Spec:=.rel T t0 (fun xs0=>match s xs0 with | some (p,_)=>p | none=>False) (fun xs0=>match s xs0 with | some (_,q,_)=>q | none=>fun _=>False) (fun xs0=>match s xs0 with | some (_,_,r)=>r | none=>fun _=>.raw undef)
def specF (T:Type) (t0:T) (e:TypeId) (sz:Nat) (s:List EV -> Option (Prop × (T -> Prop) × (T -> Nat) × (T -> Nat -> List SV))):Spec :=
 .fresh T t0 (fun xs0=>match s xs0 with | some (p,_)=>p | none=>False) (fun xs0=>match s xs0 with | some (_,q,_)=>q | none=>fun _=>False) e sz (fun xs0=>match s xs0 with | some (_,_,n,_)=>n | none=>fun _=>0) (fun xs0=>match s xs0 with | some (_,_,_,g)=>g | none=>fun _ _=>[])
def lookS:List (Nat × Spec) -> Nat -> Option Spec
 | [],_=>none
 | (f,s) :: l,g=>if f == g then some s else lookS l g
def SpecsL (P:Program) (L:List (Nat × Spec)):Prop:=∀ f sp,lookS L f=some sp -> SpecOk P f sp /\ Enters P f
theorem SpecsL.nil:SpecsL P []:=fun f sp h=>by simp [lookS] at h
theorem SpecsL.cons {f:Nat} {s:Spec} {L:List (Nat × Spec)} (h:SpecOk P f s) (he:Enters P f) (k:SpecsL P L):SpecsL P ((f,s) :: L):=fun g sp h'=>by
 simp only [lookS] at h'
 split at h'
 · rename_i hfg;simp at hfg;subst hfg;cases h';exact ⟨h,he⟩
 · exact k g sp h'
end Go.SE
namespace Go.SE
open Go.RowKit
variable {P:Program}
inductive Ext:SV -> SV -> Prop
 | refl (s):Ext s s
 | sl {sz n get get'} (h:∀ i,i < n -> get i=get' i):Ext (.sl sz n get) (.sl sz n get')
 | sl2 {sz n get get'} (hl:∀ i,i < n -> (get' i).length=(get i).length) (h:∀ i,i < n -> ∀ j,j < (get i).length -> Ext (SV.at (get i) j) (SV.at (get' i) j)):Ext (.sl sz n get) (.sl sz n get')
 | agg {cs cs':List SV} (hl:cs'.length=cs.length) (h:∀ i,i < cs.length -> Ext (SV.at cs i) (SV.at cs' i)):Ext (.agg cs) (.agg cs')
 | clo {f:Nat} {cs cs':List SV} (hl:cs'.length=cs.length) (h:∀ i,i < cs.length -> Ext (SV.at cs i) (SV.at cs' i)):Ext (.clo f cs) (.clo f cs')
 | ref {cs cs':List SV} {off:Nat} (hl:cs'.length=cs.length) (h:∀ i,i < cs.length -> Ext (SV.at cs i) (SV.at cs' i)):Ext (.ref cs off) (.ref cs' off)
theorem Ext.den {M:Nat -> Prop} {w:World} {s s':SV} (h:Ext s s'):∀ {v:Value},DenP M w s v -> DenP M w s' v:=by
 induction h with
 | refl s=>exact fun hd=>hd
 | @sl sz n get get' h =>
   intro v hd
   cases hd with
   | sl _ _ _ A cap vs hcap hm hA hg ho hd =>
     exact .sl sz n get' A cap vs hcap hm hA (fun i hi=>by rw [<- h i hi];exact hg i hi) ho (fun i hi j hj=>by rw [<- h i hi];exact hd i hi j hj)
 | @sl2 sz n get get' hl h ih =>
   intro v hd
   cases hd with
   | sl _ _ _ A cap vs hcap hm hA hg ho hd =>
     exact .sl sz n get' A cap vs hcap hm hA (fun i hi=>(hl i hi).trans (hg i hi)) ho (fun i hi j hj=>ih i hi j (by rw [hg i hi];exact hj) (hd i hi j hj))
 | @agg cs cs' hl h ih =>
   intro v hd
   cases hd with
   | agg _ vs hl' hd=>exact .agg cs' vs (hl'.trans hl.symm) (fun i hi=>ih i (hl ▸ hi) (hd i (hl ▸ hi)))
 | @clo f cs cs' hl h ih =>
   intro v hd
   cases hd with
   | clo _ _ vs hl' hd=>exact .clo f cs' vs (hl'.trans hl.symm) (fun i hi=>ih i (hl ▸ hi) (hd i (hl ▸ hi)))
 | @ref cs cs' off hl h ih =>
   intro v hd
   cases hd with
   | ref _ _ vs ad hM hc ho hd=>exact .ref cs' off vs ad hM (fun j hj=>hc j (hl ▸ hj)) (fun j hj=>ho j (hl ▸ hj)) (fun j hj=>ih j (hl ▸ hj) (hd j (hl ▸ hj)))
inductive ExtS:List SV -> List SV -> Prop
 | nil:ExtS [] []
 | cons {s s' l l'} (h:Ext s s') (k:ExtS l l'):ExtS (s :: l) (s' :: l')
theorem ExtS.len {l l':List SV} (h:ExtS l l'):l'.length=l.length:=by induction h <;> simp_all
theorem ExtS.at {l l':List SV} (h:ExtS l l'):∀ i,i < l.length -> Ext (SV.at l i) (SV.at l' i):=by
 induction h with
 | nil=>intro i hi;simp at hi
 | @cons s s' l l' hs _ ih =>
   intro i hi
   cases i with
   | zero=>exact hs
   | succ i=>exact ih i (by simpa using hi)
theorem ExtS.den {M:Nat -> Prop} {w:World} {l l':List SV} {vs:List Value} (h:ExtS l l') (hd:DenL M w l vs):DenL M w l' vs :=
 ⟨hd.1.trans h.len.symm,fun i hi=>(h.at i (h.len ▸ hi)).den (hd.2 i (h.len ▸ hi))⟩
inductive ExtL:List EV -> List EV -> Prop
 | nil:ExtL [] []
 | p {s s' l l'} (h:Ext s s') (k:ExtL l l'):ExtL (.p s :: l) (.p s' :: l')
 | same (e) {l l'} (k:ExtL l l'):ExtL (e :: l) (e :: l')
 | fn {f f':FSpec} {l l'} (h:∀ xs0,f'.pre xs0 -> f.pre xs0 /\ f'.res xs0=f.res xs0) (k:ExtL l l'):ExtL (.fn f :: l) (.fn f' :: l')
theorem ExtL.refl:∀ l,ExtL l l
 | []=>.nil
 | e :: l=>.same e (ExtL.refl l)
theorem ExtL.len {l l':List EV} (h:ExtL l l'):l'.length=l.length:=by induction h <;> simp_all
theorem ExtL.at {M:Nat -> Prop} {w:World} {l l':List EV} (h:ExtL l l'):∀ i v,i < l.length -> (argOk (EV.at l i)=true /\ DenE P M w env0 (EV.at l i) v) -> argOk (EV.at l' i)=true /\ DenE P M w env0 (EV.at l' i) v:=by
 induction h with
 | nil=>intro i v hi;simp at hi
 | @p s s' l l' hs _ ih =>
   intro i v hi hd
   cases i with
   | zero =>
     simp only [EV.at,List.getD_cons_zero] at hd ⊢
     obtain ⟨_,hd⟩:=hd
     cases hd with | p hd=>exact ⟨rfl,.p (hs.den hd)⟩
   | succ i=>simpa [EV.at] using ih i v (by simpa using hi) (by simpa [EV.at] using hd)
 | @fn f f' l l' hf _ ih =>
   intro i v hi hd
   cases i with
   | zero =>
     simp only [EV.at,List.getD_cons_zero] at hd ⊢
     obtain ⟨_,hd⟩:=hd
     cases hd with
     | fn hd =>
       obtain ⟨g,first,caps,e,hn,hc⟩:=hd
       exact ⟨rfl,.fn ⟨g,first,caps,e,hn,fun M' w' hl hlt args vals hdl hp=>by rw [(hf args hp).2];exact hc M' w' hl hlt args vals hdl (hf args hp).1⟩⟩
   | succ i=>simpa [EV.at] using ih i v (by simpa using hi) (by simpa [EV.at] using hd)
 | @same e l l' _ ih =>
   intro i v hi hd
   cases i with
   | zero=>simpa [EV.at] using hd
   | succ i=>simpa [EV.at] using ih i v (by simpa using hi) (by simpa [EV.at] using hd)
theorem ExtL.args {M:Nat -> Prop} {w:World} {l l':List EV} {vals:List Value} (h:ExtL l l') (ha:ArgsOk P M w l vals):ArgsOk P M w l' vals :=
 ⟨ha.1.trans h.len.symm,fun i hi=>h.at i _ (h.len ▸ hi) (ha.2 i (h.len ▸ hi))⟩
def lookN:List (Nat × List Nat) -> Nat -> List Nat
 | [],_=>[]
 | (k,v) :: l,n=>if k == n then v else lookN l n
def lookM:List (Nat × List (Nat × Nat × TypeId × Nat)) -> Nat -> List (Nat × Nat × TypeId × Nat)
 | [],_=>[]
 | (k,v) :: l,n=>if k == n then v else lookM l n
def lookL:List (Nat × LoopInv) -> Nat -> Option LoopInv
 | [],_=>none
 | (k,v) :: l,n=>if k == n then some v else lookL l n
def bodyOf (f:Func):Code:=match f.body with | some c=>c | none=>.skip
def lookI:List (Nat × ItSpec) -> Nat -> Option ItSpec
 | [],_=>none
 | (f,s) :: l,g=>if f == g then some s else lookI l g
def lookR:List (Nat × RfInv) -> Nat -> Option RfInv
 | [],_=>none
 | (f,s) :: l,g=>if f == g then some s else lookR l g
def ItersL (P:Program) (L:List (Nat × ItSpec)):Prop:=∀ f sp,lookI L f=some sp -> ItOk P f sp /\ Enters P f
theorem ItersL.nil:ItersL P []:=fun f sp h=>by simp [lookI] at h
theorem ItersL.cons {f:Nat} {s:ItSpec} {L:List (Nat × ItSpec)} (h:ItOk P f s) (he:Enters P f) (k:ItersL P L):ItersL P ((f,s) :: L):=fun g sp h'=>by
 simp only [lookI] at h'
 split at h'
 · rename_i hfg;simp at hfg;subst hfg;cases h';exact ⟨h,he⟩
 · exact k g sp h'
def isB (f:FSpec):Prop:=∀ xs0,f.pre xs0 -> ∃ b,f.res xs0=.bool b
def isI (f:FSpec):Prop:=∀ xs0,f.pre xs0 -> ∃ n,f.res xs0=.int .i64 n
theorem isI_of {s:List EV -> Option (Prop × SV)} (h:∀ args p r,s args=some (p,r) -> ∃ n,r=.int .i64 n) (g:List SV -> List EV):isI ⟨fun xs0=>preO s (g xs0),fun xs0=>resO s (g xs0)⟩:=fun xs0 hp=>by
 simp only [preO,resO] at hp ⊢
 cases hs:s (g xs0) with
 | none=>simp [hs] at hp
 | some q =>
   obtain ⟨p,r⟩:=q
   obtain ⟨b,hb⟩:=h _ p r hs
   exact ⟨b,hb⟩
theorem isB_of {s:List EV -> Option (Prop × SV)} (h:∀ args p r,s args=some (p,r) -> ∃ b,r=.bool b) (g:List SV -> List EV):isB ⟨fun xs0=>preO s (g xs0),fun xs0=>resO s (g xs0)⟩:=fun xs0 hp=>by
 simp only [preO,resO] at hp ⊢
 cases hs:s (g xs0) with
 | none=>simp [hs] at hp
 | some q =>
   obtain ⟨p,r⟩:=q
   obtain ⟨b,hb⟩:=h _ p r hs
   exact ⟨b,hb⟩
theorem fnX {f:Nat} {fn:Func} {c:Code} (hf:P.funcs[f]? = some fn) (hb:fn.body=some c) (hm:P.follows .mixedOrders=true) {s:List EV -> Option (Prop × SV)}
   (h:∀ args p r,s args=some (p,r) -> p -> ∃ args' C,vc P C c (st0 fn args') (retFn P fn r) /\ ExtL args args' /\ SpecsOk0 P C):SpecOk P f (specO s):=by
 intro M w args vals hlt ha hp
 cases hs:s args with
 | none=>simp [preO,hs] at hp
 | some q =>
   obtain ⟨p,r⟩:=q
   simp only [preO,resO,hs] at hp ⊢
   obtain ⟨args',C,hv,hx,hC⟩:=h args p r hs hp
   exact fn_ok hf hb hC hm (pre:=fun a=>a=args') (res:=fun _=>r) (fun a e=>e ▸ hv) M w args' vals hlt (hx.args ha) rfl
theorem relX {f:Nat} {fn:Func} {c:Code} (hf:P.funcs[f]? = some fn) (hb:fn.body=some c) (hm:P.follows .mixedOrders=true) {T:Type} {t0:T} {s:List EV -> Option (Prop × (T -> Prop) × (T -> SV))}
   (h:∀ args p q r,s args=some (p,q,r) -> p -> ∃ args' C,vc P C c (st0 fn args') (retRel P fn T q r) /\ ExtL args args' /\ SpecsOk0 P C):SpecOk P f (specR T t0 s):=by
 intro M w args vals hlt ha hp
 cases hs:s args with
 | none=>simp [hs] at hp
 | some q =>
   obtain ⟨p,q,r⟩:=q
   simp only [hs] at hp ⊢
   obtain ⟨args',C,hv,hx,hC⟩:=h args p q r hs hp
   exact rel_ok hf hb hC hm (T:=T) (t0:=t0) (pre:=fun a=>a=args') (post:=fun _=>q) (res:=fun _=>r) (fun a e=>e ▸ hv) M w args' vals hlt (hx.args ha) rfl
theorem freshX {f:Nat} {fn:Func} {c:Code} (hf:P.funcs[f]? = some fn) (hb:fn.body=some c) (hm:P.follows .mixedOrders=true) {T:Type} {t0:T} {e:TypeId} {sz:Nat} {s:List EV -> Option (Prop × (T -> Prop) × (T -> Nat) × (T -> Nat -> List SV))}
   (h:∀ args p q n g,s args=some (p,q,n,g) -> p -> ∃ args' C,vc P C c (st0 fn args') (retFresh P fn T q e sz n g) /\ ExtL args args' /\ SpecsOk0 P C):SpecOk P f (specF T t0 e sz s):=by
 intro M w args vals hlt ha hp
 cases hs:s args with
 | none=>simp [hs] at hp
 | some q =>
   obtain ⟨p,q,n,g⟩:=q
   simp only [hs] at hp ⊢
   obtain ⟨args',C,hv,hx,hC⟩:=h args p q n g hs hp
   exact fresh_ok hf hb hC hm (T:=T) (t0:=t0) (pre:=fun a=>a=args') (post:=fun _=>q) (n:=fun _=>n) (get:=fun _=>g) (fun a e=>e ▸ hv) M w args' vals hlt (hx.args ha) rfl
def retIt (P:Program) (fn:Func) (cnt:Nat):Exit -> St -> Prop:=fun e st=>match e with
 | .normal | .ret=>if fn.results.toList.isEmpty then (st.yk=cnt \/ st.yk=cnt+1) else False
 | _=>False
theorem init_satG {G:Ctx} {fn:Func} {caps:List SV} {vals:List Value} {l:Nat} {w:World} (hpin:∀ nt,PinOk G env0 nt) (hg:G.g 0 (fun _=>False) w) (hlt:∀ b,G.m0 b -> b < w.heap.size) (hd:DenL G.m0 w caps vals) :
   Sat P G (st0 fn (.yield l :: caps.map .p)) { tmps:=(#[Value.func (.yield l) #[] #[]] ++ vals.toArray) ++ Array.replicate (fn.ntmps - (#[Value.func (.yield l) #[] #[]] ++ vals.toArray).size) undef,defers:=[] } w:=by
 have hl:=hd.1
 have hsz:(#[Value.func (.yield l) #[] #[]] ++ vals.toArray:Array Value).size=caps.length+1:=by simp;omega
 refine ⟨env0,G.m0,fun _=>False,⟨hg,hpin _⟩,fun b h=>.inl h,fun k o h=>by simp [st0] at h,fun k o h=>by simp [st0] at h,fun k o k' o' h=>by simp [st0] at h,by simp [st0],hlt,fun b h=>h.elim,?_,?_,?_,fun d h=>by simp at h,by simp⟩
 · simp only [st0,Array.size_append,Array.size_replicate];simp;omega
 · intro s e h
   simp only [st0,List.mem_map] at h
   obtain ⟨⟨ev,i⟩,hm,he⟩:=h
   simp only [Prod.mk.injEq] at he
   obtain ⟨rfl,rfl⟩:=he
   obtain ⟨hi,hev⟩:=List.mem_zipIdx hm |> fun h=>(⟨by omega,by simpa using h.2.2⟩:i < (EV.yield l :: caps.map EV.p).length /\ ev=(EV.yield l :: caps.map EV.p)[i]'(by omega))
   have hi':i < caps.length+1:=by simpa using hi
   refine ⟨by simp [st0];omega,fun _=>?_,fun hn=>absurd trivial hn⟩
   have e2:({ tmps:=(#[Value.func (.yield l) #[] #[]] ++ vals.toArray) ++ Array.replicate (fn.ntmps - (#[Value.func (.yield l) #[] #[]] ++ vals.toArray).size) undef,defers:=[] }:Act).eval (.tmp i)=(Value.func (.yield l) #[] #[] :: vals).getD i undef:=by
     simp only [Act.eval,Array.getD_eq_getD_getElem?,List.getD_eq_getElem?_getD]
     rw [Array.getElem?_append_left (by omega)]
     congr 1
     have:(#[Value.func (.yield l) #[] #[]] ++ vals.toArray:Array Value)=(Value.func (.yield l) #[] #[] :: vals).toArray:=by simp
     rw [this];simp
   rw [e2]
   cases i with
   | zero=>simp at hev;subst hev;exact .yield
   | succ i =>
     have hev2:ev=EV.p (caps[i]'(by omega)):=by simpa using hev
     rw [hev2]
     have:=hd.2 i (by omega)
     simp only [SV.at] at this
     have e3:caps.getD i (.raw undef)=caps[i]'(by omega):=by simp [List.getD_eq_getElem?_getD,show i < caps.length by omega]
     rw [e3] at this
     simpa using DenE.p this
 · intro s e h q c v hq
   simp only [st0,List.mem_map] at h
   obtain ⟨⟨ev,i⟩,hm,he⟩:=h
   simp only [Prod.mk.injEq] at he
   obtain ⟨rfl,rfl⟩:=he
   cases hq
theorem iter_ok {f:Nat} {fn:Func} {c:Code} (hf:P.funcs[f]? = some fn) (hb:fn.body=some c) (hm:P.follows .mixedOrders=true) {it:ItSpec}
   (h:∀ (caps:List SV) (l:Nat),it.pre caps -> ∃ caps' C,vc P C c (st0 fn (.yield l :: caps'.map .p)) (retIt P fn (it.cnt caps)) /\ ExtS caps caps' /\ C.yld=some ⟨l,it.cnt caps,it.item caps⟩ /\ (∀ f sp,C.specs f=some sp -> SpecOk P f sp /\ Enters P f) /\ ItersOk P C):ItOk P f it:=by
 intro G hG l w caps vals hpre hlt hd hg hy
 obtain ⟨caps',C,hv,hx,hcy,hsp,hit⟩:=h caps l hpre
 refine callsIn_of_wp_marks hf hb trivial ?_ rfl
 have hG0:Stable { g:=G.g,m0:=G.m0 }:=hG
 have hy0:YieldsOk P { g:=G.g,m0:=G.m0 } C:=hy C hcy
 refine vc_ok hG0 ⟨hsp,hy0,hit⟩ hm c _ _ _ hv (fun e st' a' w' hk hs=>?_) _ _ ?_
 rotate_left
 · have:=init_satG (P:=P) (G:={ g:=G.g,m0:=G.m0 }) (fn:=fn) (l:=l) (fun nt k h=>h.elim) hg hlt (hx.den hd)
   exact this
 have fin:(if fn.results.toList.isEmpty then (st'.yk=it.cnt caps \/ st'.yk=it.cnt caps+1) else False) -> LeavesInM Fence.wide 0 P fn a'.tmps (fun e w'=>∃ v X,e=.returned v /\ (G.g (it.cnt caps) X w' \/ G.g (it.cnt caps+1) X w')) a'.defers .returning w':=fun hk=>by
   split at hk
   rotate_left
   · exact hk.elim
   rename_i hre
   exact leave_ok hG0 a'.defers a' w' rfl hs (fun a2 w2 _ ⟨_,_,X,S⟩=>by
     have hr:fn.results = #[]:=by apply Array.ext';simpa using hre
     refine ⟨.tuple #[],by rw [results_eq,hr];simp [Sem.run_bind,Sem.run_pure,Result.andThen_ok],?_⟩
     refine ⟨_,X,rfl,?_⟩
     have:=S.gam.1
     rcases hk with h | h
     · rw [h] at this;exact .inl this
     · rw [h] at this;exact .inr this)
 cases e <;> first | exact fin hk | exact hk.elim
def itOf (s:List SV -> Option (Prop × Nat × (Nat -> List SV))):ItSpec :=
 { pre:=fun c=>match s c with | some (p,_)=>p | none=>False,cnt:=fun c=>match s c with | some (_,n,_)=>n | none=>0,item:=fun c=>match s c with | some (_,_,g)=>g | none=>fun _=>[] }
theorem iterX {f:Nat} {fn:Func} {c:Code} (hf:P.funcs[f]? = some fn) (hb:fn.body=some c) (hm:P.follows .mixedOrders=true) {s:List SV -> Option (Prop × Nat × (Nat -> List SV))}
   (h:∀ (caps:List SV) (l:Nat) p n g,s caps=some (p,n,g) -> p -> ∃ caps' C,vc P C c (st0 fn (.yield l :: caps'.map .p)) (retIt P fn n) /\ ExtS caps caps' /\ C.yld=some ⟨l,n,g⟩ /\ (∀ f sp,C.specs f=some sp -> SpecOk P f sp /\ Enters P f) /\ ItersOk P C):ItOk P f (itOf s):=by
 refine iter_ok hf hb hm (fun caps l hp=>?_)
 simp only [itOf] at hp ⊢
 cases hs:s caps with
 | none=>simp [hs] at hp
 | some q =>
   obtain ⟨p,n,g⟩:=q
   simp only [hs] at hp ⊢
   exact h caps l p n g hs hp
end Go.SE
namespace Go.SE
open Go.RowKit
variable {P:Program}
def stTr (fn:Func) (args:List EV) (own:List (Nat × Own)):St:={ T:=args.zipIdx.map fun x=>(x.2,⟨none,x.1⟩),own:=own,yk:=0,stop:=false,nt:=args.length+(fn.ntmps - args.length) }
def trG (env:Env) (own:List (Nat × Own)) (M:Nat -> Prop) (W:World):Ctx :=
 { g:=fun _ X w=>Same (lentB env own) W w /\ ∀ b,X b -> lentB env own b \/ W.heap.size <= b,m0:=M,pin:=fun k=>k ∈ keysO own,pe:=env }
theorem trG_stable (env:Env) (own:List (Nat × Own)) (M:Nat -> Prop) (W:World):Stable (trG env own M W):=by
 intro k X w X' w' ⟨h0,hx⟩ hs h1 h2
 refine ⟨⟨hs.os.trans h0.os,hs.tape.trans h0.tape,hs.output.trans h0.output,Nat.le_trans h0.drawn hs.drawn,Nat.le_trans h0.size hs.size,fun b hb hn=>?_⟩,fun b hb=>?_⟩
 · refine (hs.block b (Nat.lt_of_lt_of_le hb h0.size) (fun hX=>?_)).trans (h0.block b hb hn)
   rcases hx b hX with h | h
   · exact hn h
   · omega
 · rcases h2 b hb with h | h
   · exact hx b h
   · exact .inr (Nat.le_trans h0.size h)
theorem init_satTr {fn:Func} {args:List EV} {own:List (Nat × Own)} {vals:List Value} {M:Nat -> Prop} {w:World} {env:Env} (hlt:∀ b,M b -> b < w.heap.size) (hown:∀ k o,(k,o) ∈ own -> OwnOk P M w env k o)
   (hat:∀ k o,(k,o) ∈ own -> ∀ g,env.at_ k=some g -> ¬ M g /\ g < w.heap.size) (hinj:∀ k o k' o',(k,o) ∈ own -> (k',o') ∈ own -> k ≠ k' -> ∀ g,env.at_ k=some g -> env.at_ k' ≠ some g) (hnod:(keysO own).Nodup)
   (hnt:∀ k,k ∈ keysO own -> args.length+(fn.ntmps - args.length) <= k) (hl:vals.length=args.length) (hd:∀ i,i < args.length -> DenE P M w env (EV.at args i) (vals.getD i undef)) :
   Sat P (trG env own M w) (stTr fn args own) { tmps:=vals.toArray ++ Array.replicate (fn.ntmps - vals.toArray.size) undef,defers:=[] } w:=by
 refine ⟨env,M,lentB env own,⟨⟨⟨rfl,rfl,rfl,Nat.le_refl _,Nat.le_refl _,fun _ _ _=>rfl⟩,fun b h=>.inl h⟩,fun k hk=>⟨hnt k hk,rfl,rfl⟩⟩,fun b h=>.inl h,hown,fun k o h g hg=>⟨⟨k,o,h,hg⟩,hat k o h g hg⟩,hinj,hnod,hlt,fun b ⟨k,o,h,hg⟩=>(hat k o h b hg).2,?_,?_,?_,fun d h=>by simp at h,by simp⟩
 · simp [stTr,hl]
 · intro s e h
   simp only [stTr,List.mem_map] at h
   obtain ⟨⟨ev,i⟩,hm,he⟩:=h
   simp only [Prod.mk.injEq] at he
   obtain ⟨rfl,rfl⟩:=he
   obtain ⟨hi,hev⟩:=List.mem_zipIdx hm |> fun h=>(⟨by omega,by simpa using h.2.2⟩:i < args.length /\ ev=args[i]'(by omega))
   refine ⟨by simp [stTr];omega,fun _=>?_,fun hn=>absurd trivial hn⟩
   have:=hd i hi
   have e1:EV.at args i=ev:=by rw [hev];simp [EV.at,List.getD_eq_getElem?_getD,hi]
   rw [e1] at this
   have e2:({ tmps:=vals.toArray ++ Array.replicate (fn.ntmps - vals.toArray.size) undef,defers:=[] }:Act).eval (.tmp i)=vals.getD i undef:=by
     simp only [Act.eval,Array.getD_eq_getD_getElem?,List.getD_eq_getElem?_getD]
     rw [Array.getElem?_append_left (by simp;omega)]
     simp
   rw [e2];exact this
 · intro s e h q c v hq
   simp only [stTr,List.mem_map] at h
   obtain ⟨⟨ev,i⟩,hm,he⟩:=h
   simp only [Prod.mk.injEq] at he
   obtain ⟨rfl,rfl⟩:=he
   cases hq
def fitRes (P:Program) (st:St) (rs:List ResultVar):EV -> List Prop
 | .p r=>match resS P st rs with
   | some (ps,s)=>ps ++ fitAll s r
   | none=>[False]
 | .rsub k sz lo n=>match rs with
   | [r]=>match resE P st r with
     | some (ps,.row k')=>if k'=k then (match lookupO st.own k with
       | some (.row _ sz' n' _)=>if sz'=sz then ps ++ [lo=0 /\ n=n'] else [False]
       | _=>[False]) else [False]
     | some (ps,e)=>ps ++ fitE e (.rsub k sz lo n)
     | none=>[False]
   | _=>[False]
 | _=>[False]
def retTr (P:Program) (fn:Func) (tr:Tr) (t:tr.T):Exit -> St -> Prop:=fun e st=>match e with
 | .normal | .ret=>∃ u:tr.U,conj (fitRes P st fn.results.toList (tr.res t u) ++ fitO st.own (tr.own' t u)) (tr.post t u)
 | _=>False
def resOk (ks:List Nat):EV -> Bool
 | .p s=>noMem s
 | .rsub k _ _ _=>ks.contains k
 | _=>false
theorem fitRes_ok {fn:Func} {M:Nat -> Prop} {w:World} {G:Ctx} {st:St} {a:Act} {env:Env} {X:Nat -> Prop} (S:SatC P G st a w env M X) {r:EV} (h:all (fitRes P st fn.results.toList r)) {tmps:Array Value} (ht:tmps=a.tmps) {ks:List Nat} (hr:resOk ks r=true) {env':Env} (he:∀ k,k ∈ ks -> env'.at_ k=env.at_ k) {M':Nat -> Prop} :
   ∃ v,(results fn tmps).run P w=.ok v w /\ DenE P M' w env' r v:=by
 cases r with
 | p s =>
   simp only [fitRes] at h
   split at h
   · rename_i ps s' hrs
     obtain ⟨h1,h2⟩:=all_append h
     obtain ⟨v,hv,hd⟩:=results_den S hrs h1 ht
     exact ⟨v,hv,.p (noMem_ok (fitAll_ok h2 hd) hr)⟩
   · exact (all_one h).elim
 | rsub k sz lo n =>
   simp only [fitRes] at h
   split at h
   · rename_i r hres
     split at h
     · rename_i ps k' hre
       split at h
       · rename_i hk
         subst hk
         split at h
         · rename_i e' sz' n' get' hl
           split at h
           · rename_i hsz
             subst hsz
             obtain ⟨h1,h2⟩:=all_append h
             obtain ⟨rfl,rfl⟩:=all_one h2
             obtain ⟨v,hv,hd⟩:=readRes_ok S hre h1
             subst ht
             refine ⟨v,by rw [results_eq];simp [Array.mapM_eq_mapM_toList,hres,hv],?_⟩
             obtain ⟨hm,hgl,hO⟩:=S.own _ _ (lookupO_mem hl)
             cases hd with
             | row hrv =>
             rcases hO with ⟨_,hrv',hn⟩ | ⟨g,cap,cur,hg,hrv',_,hnc,_,_,_⟩
             · rw [hrv'] at hrv;subst hn;cases hrv
               exact .rsub none 0 (Nat.le_refl _) hm (fun h=>absurd h (Nat.lt_irrefl _))
             · rw [hrv'] at hrv;cases hrv
               exact .rsub _ _ hnc hm (fun _=>⟨g,(he k' (by simpa [resOk] using hr)).trans hg,by rw [Nat.zero_mul]⟩)
           · exact (all_one h).elim
         · exact (all_one h).elim
       · exact (all_one h).elim
     · rename_i ps e _ hre
       obtain ⟨h1,h2⟩:=all_append h
       obtain ⟨v,hv,hd⟩:=readRes_ok S hre h1
       subst ht
       refine ⟨v,by rw [results_eq];simp [Array.mapM_eq_mapM_toList,hres,hv],?_⟩
       have hd:=fitE_ok h2 hd
       cases hd with
       | rsub A cap hc hm hA => exact .rsub A cap hc hm (fun hn => by
           obtain ⟨g,hg,e⟩:=hA hn
           exact ⟨g,(he k (by simpa [resOk] using hr)).trans hg,e⟩)
     · exact (all_one h).elim
   · exact (all_one h).elim
 | _=>exact (all_one h).elim
structure TrForm (tr:Tr) (fn:Func) (ks:List Nat) (n:Nat):Prop where
 len:∀ t,(tr.args t).length=n
 k1:∀ t,keysO (tr.own t)=ks
 k2:∀ t u,keysO (tr.own' t u)=ks
 res:∀ t u,resOk ks (tr.res t u)=true
 inn:∀ t u,(tr.own' t u).all (fun x=>x.2.within ks)=true
 chk:(nodupB ks && ks.all fun k=>decide (n+(fn.ntmps - n) <= k))=true
theorem tr_ok {f:Nat} {fn:Func} {c:Code} (hf:P.funcs[f]? = some fn) (hb:fn.body=some c) (hm:P.follows .mixedOrders=true) {tr:Tr} {ks:List Nat} {n:Nat} (F:TrForm tr fn ks n)
   (h:∀ t,tr.pre t -> ∃ C,vc P C c (stTr fn (tr.args t) (tr.own t)) (retTr P fn tr t) /\ SpecsOk0 P C):TrOk P f tr:=by
 obtain ⟨hnod,hnt⟩:=Bool.and_eq_true_iff.1 F.chk
 have hnod:=nodupB_ok hnod
 refine ⟨fun t u=>(F.k2 t u).trans (F.k1 t).symm,fun t hpre M w env vals hlt hown hat hinj hl hd=>?_⟩
 obtain ⟨C,hv,hC⟩:=h t hpre
 have hG:=trG_stable env (tr.own t) M w
 refine callsIn_of_wp_marks hf hb trivial ?_ rfl
 refine vc_ok hG (hC.any _) hm c _ _ _ hv (fun e st' a' w' hk hs=>?_) _ _ (init_satTr hlt hown hat hinj (by rw [F.k1];exact hnod) (fun k hk=>by
   rw [F.k1] at hk
   have:=List.all_eq_true.1 hnt k hk
   rw [F.len];simpa using this) hl hd)
 have key : (∃ u : tr.U, conj (fitRes P st' fn.results.toList (tr.res t u) ++ fitO st'.own (tr.own' t u)) (tr.post t u)) ->
     LeavesInM Fence.wide 0 P fn a'.tmps (TrEnd P tr t M w env) a'.defers .returning w':=fun hz=>by
   obtain ⟨u,hz⟩:=hz
   obtain ⟨h12,hpost⟩:=conj_spec hz
   obtain ⟨h12,hO⟩:=all_append h12
   exact leave_ok hG a'.defers a' w' rfl hs (fun a2 w2 ha ⟨env2,M2,X2,S⟩=>by
     obtain ⟨⟨hsame,hx⟩,hpin⟩:=S.gam
     have hO':=fitO_ok S hO
     have pin:∀ k,k ∈ ks -> env.at_ k=env2.at_ k /\ env.rv k=env2.rv k:=fun k hk=>by
       obtain ⟨_,e1,e2⟩:=hpin k (by show k ∈ keysO (tr.own t);rw [F.k1];exact hk)
       exact ⟨e1.symm,e2.symm⟩
     obtain ⟨v,hv,hden⟩:=fitRes_ok S h12 (tmps:=a'.tmps) ha.symm (F.res t u) (env':=env) (fun k hk=>(pin k hk).1) (M':=fun b=>M b \/ M2 b)
     have hMl:∀ b,(M b \/ M2 b) -> b < w2.heap.size:=fun b hb=>by
       rcases hb with hb | hb
       · exact Nat.lt_of_lt_of_le (hlt b hb) hsame.size
       · exact S.mlt b hb
     have hlat:Later M2 (fun b=>M b \/ M2 b) w2 w2:=⟨Nat.le_refl _,fun _ _=>rfl,fun _ h=>.inr h⟩
     have hown2:∀ k o,(k,o) ∈ tr.own' t u -> OwnOk P (fun b=>M b \/ M2 b) w2 env k o:=fun k o hk=>by
       have hkk:k ∈ ks:=by rw [<- F.k2 t u];exact List.mem_map.2 ⟨_,hk,rfl⟩
       have hin:=List.all_eq_true.1 (F.inn t u) _ hk
       obtain ⟨p1,p2⟩:=pin k hkk
       have h1:=(hO' k o hk).2
       cases o with
       | mp kt n get =>
         obtain ⟨g,es,clock,ha,hh,hz,hd⟩:=h1
         exact ⟨g,es,clock,p1.trans ha,hh,hz,fun i hi=>⟨(hd i hi).1,(hd i hi).2.still⟩⟩
       | mq kt vt dom val =>
         obtain ⟨g,es,clock,ha,hh,hz,hd⟩:=h1
         exact ⟨g,es,clock,p1.trans ha,hh,hz,fun i hi=>by obtain ⟨key,q1,q2,q3⟩:=hd i hi;exact ⟨key,q1,q2,q3.later hlat⟩⟩
       | blk ty cs =>
         obtain ⟨g,vs,ha,hh,hz,hd⟩:=h1
         exact ⟨g,vs,p1.trans ha,hh,hz,fun i hi=>⟨(hd i hi).1,(hd i hi).2.turn hlat pin (withinL_at hin i hi)⟩⟩
       | row e sz n get =>
         obtain ⟨hm,hgl,h1⟩:=h1
         refine ⟨hm,hgl,?_⟩
         rw [p1,p2]
         rcases h1 with h1 | ⟨g',cap,cur,ha,hr,hh,h3,h4,h5,h6⟩
         · exact .inl h1
         · exact .inr ⟨g',cap,cur,ha,hr,hh,h3,h4,h5,fun i hi j hj=>⟨(h6 i hi j hj).1,(h6 i hi j hj).2.later hlat⟩⟩
     refine ⟨v,hv,u,v,fun b=>M b \/ M2 b,hpost,rfl,hsame,fun b hb=>.inl hb,fun b hb=>?_,hMl,hown2,hden⟩
     rcases hb with hb | hb
     · exact .inl hb
     · rcases S.mx b hb with h | h
       · exact .inl h
       · rcases hx b h with ⟨k,o,hk,hg⟩ | h
         · exfalso
           have hkk:k ∈ ks:=by rw [<- F.k1 t];exact List.mem_map.2 ⟨_,hk,rfl⟩
           have hkk':k ∈ keysO (tr.own' t u):=by rw [F.k2];exact hkk
           obtain ⟨⟨k2,o2⟩,hm2,e2⟩:=List.mem_map.1 hkk'
           simp only at e2
           subst e2
           obtain ⟨o3,h3⟩:=(hO' k2 o2 hm2).1
           exact (S.oat k2 o3 h3 b ((pin k2 hkk).1 ▸ hg)).2.1 hb
         · exact .inr h)
 cases e <;> first | exact key hk | exact hk.elim
def Tr.lt (tr:Tr) (mu:tr.T -> Nat) (n:Nat):Tr:={ tr with pre:=fun t=>tr.pre t /\ mu t < n }
theorem tr_rec {f:Nat} {tr:Tr} (mu:tr.T -> Nat) (hk:∀ t u,keysO (tr.own' t u)=keysO (tr.own t)) (h:∀ n,TrOk P f (tr.lt mu n) -> TrOk P f (tr.lt mu (n+1))):TrOk P f tr:=by
 have all:∀ n,TrOk P f (tr.lt mu n):=fun n=>by
   induction n with
   | zero=>exact ⟨hk,fun t hp=>absurd hp.2 (Nat.not_lt_zero _)⟩
   | succ n ih=>exact h n ih
 exact ⟨hk,fun t hp=>(all (mu t+1)).2 t ⟨hp,Nat.lt_succ_self _⟩⟩
def lookT:List (Nat × Tr) -> Nat -> Option Tr
 | [],_=>none
 | (f,s) :: l,g=>if f == g then some s else lookT l g
def TrsL (P:Program) (L:List (Nat × Tr)):Prop:=∀ f tr,lookT L f=some tr -> TrOk P f tr /\ Enters P f
theorem TrsL.nil:TrsL P []:=fun f sp h=>by simp [lookT] at h
theorem TrsL.cons {f:Nat} {s:Tr} {L:List (Nat × Tr)} (h:TrOk P f s) (he:Enters P f) (k:TrsL P L):TrsL P ((f,s) :: L):=fun g sp h'=>by
 simp only [lookT] at h'
 split at h'
 · rename_i hfg;simp at hfg;subst hfg;cases h';exact ⟨h,he⟩
 · exact k g sp h'
theorem TrsOk.none {C:Cfg} (h:∀ g,C.trs g=Option.none):TrsOk P C:=fun g tr hg=>by rw [h g] at hg;cases hg
end Go.SE
