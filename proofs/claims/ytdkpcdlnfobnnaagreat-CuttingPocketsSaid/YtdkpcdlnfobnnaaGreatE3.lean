/- Parts of the proof that the text of the row joins: a symbolic walk over the model. -/
import Derived.Test.YtdkpcdlnfobnnaaGreatE2
import Derived.OrdersIn
open List renaming getD_eq_getElem?_getD->AS,mem_filter->rK,getElem?_eq_getElem->Ahz,mem_map->Ah2,mem_cons->Ah4,range->Ah5,mem_singleton->Ah9,mem_range->AhB,all_eq_true->AhC,mem_cons_self->AhF,mem_append->AhG,getElem_of_mem->AhR,length_append->AhU,getElem_mem->AhX,mem_append_right->Aif,nodup_cons->Aiv,map_map->Aiy,mem_of_getElem?->Aiz,map_congr_left->Ai2,getElem?_take_of_lt->AiF,length_take->AiP,eq_nil_of_length_eq_zero->AiS
open Array renaming getD_eq_getD_getElem?->LS,getElem?_eq_getElem->Ah1,getElem?_eq_some_iff->AhE,getElem?_push_size->AhS,ext'->AhY,replicate->AhZ,getElem?_setIfInBounds->Ais,all_eq_true_iff_forall_mem->AiK,getElem?_toList->Ajc
open Nat renaming not_lt_zero->oE,zero_le->rH,le_refl->Ah0,lt_of_lt_of_le->Ah3,mul_le_mul_right->AhI,zero_add->AhO,add_mul->Aia,lt_or_ge->Aio,mod_lt->AiX
open Bool renaming and_eq_true->pR,or_eq_false_iff->AhJ,not_eq_true'->Aib,or_eq_true->Aie
open Option renaming getD_some->Aix
namespace Go.SE
open Go.RowKit
section
variable {P:Program} {M:Nat->Prop} {w:World} {G:Bw} {st:St} {a:Act} {env:Ar} {X:Nat->Prop}
theorem PB {kt:TypeId} (h:In P kt=true):∃el y,P.underlying kt=some (.array 2 el)/\P.underlying el=some (.int .i64)/\Bg P el=some y/\y.size=1:=by
 unfold In at h;grind
theorem PC {el:TypeId} {y:Ty} (h1:P.underlying el=some (.int .i64)) (hy:Bg P el=some y) (i j:Int) (w:World) :
  (part el #[.int .i64 i,.int .i64 j] 0).run P w=.ok (.int .i64 i) w/\(part el #[.int .i64 i,.int .i64 j] 1).run P w=.ok (.int .i64 j) w:=by
 obtain⟨_,hi,_,_,_,hu⟩:=CV hy;have hd:y.desc=.int .i64:=by grind
 have ha:(isAgg el).run P w=.ok false w:=by rw[Lg hu,hd];rfl
 constructor<;>simp[part,ha]
theorem rE {kt:TypeId} (h:In P kt=true) (i j k l:Int) (w:World):(Op.equal kt (.agg #[.int .i64 i,.int .i64 j]) (.agg #[.int .i64 k,.int .i64 l])).run P w=.ok (decide (i=k)&&decide (j=l)) w:=by
 obtain⟨el,y,hk,h1,hy,hz⟩:=PB h;obtain⟨inf,hi,_,hs,_,hu⟩:=CV hy;have hsz:(sizeOf el).run P w=.ok 1 w:=by grind [EY]
 obtain⟨a1,a2⟩:=PC h1 hy i j w;obtain⟨b1,b2⟩:=PC h1 hy k l w;have he:∀p q:Int,(Op.equalIn 9999 el (.int .i64 p) (.int .i64 q)).run P w=.ok (decide (p=q)) w:=fun p q=>by
  show(Op.equalIn (9998+1) el (.int .i64 p) (.int .i64 q)).run P w=_;unfold Op.equalIn;simp only[Sem.run_bind,run_underlying h1,Result.andThen_ok,if_true,Sem.run_pure];grind
 show(Op.equalIn (9999+1) kt (.agg #[.int .i64 i,.int .i64 j]) (.agg #[.int .i64 k,.int .i64 l])).run P w=_;unfold Op.equalIn;simp only[Sem.run_bind,run_underlying hk,Result.andThen_ok,hsz]
 by_cases e1:i=k
 ·subst e1
  by_cases e2:j=l
  ·subst e2;simp[List.range',a1,a2,he]
  ·simp[List.range',a1,a2,b1,b2,he,e2]
 ·simp[List.range',a1,b1,he,e1]
theorem Nn {kt:TypeId} (h:In P kt=true) (em:Bool) (i j:Int) (w:World):(Instr.checkKey em 10000 kt (.agg #[.int .i64 i,.int .i64 j])).run P w=.ok () w:=by
 obtain⟨el,y,hk,h1,hy,hz⟩:=PB h;obtain⟨inf,hi,_,hs,_,hu⟩:=CV hy;have hsz:(sizeOf el).run P w=.ok 1 w:=by grind [EY]
 obtain⟨a1,a2⟩:=PC h1 hy i j w;have hc:∀p:Int,(Instr.checkKey em 9999 el (.int .i64 p)).run P w=.ok () w:=fun p=>Tl (.inl ⟨_,h1⟩) (.inl ⟨_,_,rfl⟩) em 9998 w;show(Instr.checkKey em (9999+1) kt (.agg #[.int .i64 i,.int .i64 j])).run P w=_;unfold Instr.checkKey;simp only[Sem.run_bind,run_underlying hk,Result.andThen_ok];simp[List.range',a1,a2,hc,hsz]
theorem PD {kt:TypeId} (h:In P kt=true) (i j:Int) (w:World):∀(es:List MapEntry) (o:Nat),(∀e,e∈es->∃a b,e.key=.agg #[.int .i64 a,.int .i64 b]) ->
  (∃q e,es[q]? = some e/\e.key=.agg #[.int .i64 i,.int .i64 j]/\(Instr.findAsking kt (.agg #[.int .i64 i,.int .i64 j]) es o).run P w=.ok (some (o+q,e.val)) w) \/
  (Instr.findAsking kt (.agg #[.int .i64 i,.int .i64 j]) es o).run P w=.ok none w
 |[],o,_=>.inr rfl
 |e::es,o,hk=>by
   obtain⟨a,b,hab⟩:=hk e (by simp);have hrun:=rE h i j a b w;rw[<- hab]at hrun;unfold Instr.findAsking;simp only[Sem.run_bind,hrun,Result.andThen_ok]
   by_cases e1:i=a/\j=b
   ·obtain⟨rfl,rfl⟩:=e1;exact .inl ⟨0,e,rfl,hab,by simp⟩
   ·have hf : (decide (i = a)&&decide (j = b))= false :=by
     grind
    rw[hf];simp only[Bool.false_eq_true,if_false];rcases PD h i j w es (o+1) (by grind)with ⟨q,e',q1,q2,q3⟩|q1
    ·exact .inl ⟨q+1,e',by grind,q2,by grind⟩
    grind
theorem T4 {kt:TypeId} (h:In P kt=true) (i j:Int) (w:World) (es:List MapEntry):(Instr.findKey kt (.agg #[.int .i64 i,.int .i64 j]) es).run P w=(Instr.findAsking kt (.agg #[.int .i64 i,.int .i64 j]) es 0).run P w:=by
 obtain⟨el,y,hk,_⟩:=PB h;cases es with
 |nil=>simp[Instr.findKey,run_underlying hk,Instr.findNow,Instr.findAsking]
 |cons x l=>simp[Instr.findKey,run_underlying hk,Instr.findNow,Instr.sameNow]
theorem rF {own:List (Nat×Ah)} (hn:(own.map (·.1)).Nodup) {r:Nat} {o:Ah} (hm:(r,o)∈own):Cl own r o=own:=by
 induction own with
 |nil=>rfl
 |cons x l ih =>
   simp only[List.map_cons,Aiv]at hn;unfold Cl;rw[List.map_cons];rcases Ah4.1 hm with rfl|hm
   ·simp only[beq_self_eq_true,if_true];congr 1;have:∀y,y∈l->(if y.1 == r then(r,o)else y)=y:=(by grind);exact(Ai2 this).trans (List.map_id' l)
   ·have hx:x.1≠r:=(by grind);have:=ih hn.2 hm;unfold Cl at this;grind
theorem T5 {es:Array MapEntry} {p:MapEntry->Prop} (h:∀i,i<es.size->p (es.getD i default)):∀e,e∈es.toList->p e:=fun e he=>by
 obtain⟨i,hi,rfl⟩:=AhR he;have hi:i<es.size:=by grind
 have:=h i hi;rw[LS,Ah1 hi]at this;grind
theorem rG (S:Al P G st a w env M X) {t:TypeId} {d:Nat} {m k:EV} {co:Bool} {K:St->Prop} (h:Ph P st t d m k co K) {vm vk:Value} (hm:Ap P M w env m vm) (hk:Ap P M w env k vk) :
  ∃s v,(Instr.lookup t vm vk co).run P w=.ok v w/\Ax M w s v/\K (st.put (some d) ⟨none,.p s⟩):=by
 unfold Ph at h;split at h;rotate_left
 ·exact h.elim
 rename_i kt vt r i j ht;split at h;rotate_left
 ·exact h.elim
 rename_i kt' vt' ok y hl hy;split at h;rotate_left
 ·exact h.elim
 rename_i hp;obtain⟨h1,h2⟩:=h;have hvk:vk=.agg #[.int .i64 i,.int .i64 j]:=by
  cases hk with
  |p hk =>
  cases hk with
  |agg _ vs hl hd =>
    match vs,hl,hd with
    |[u,v],_,hd =>
      have q1:Ax M w (.int .i64 i) u:=hd 0 (by simp);have q2:Ax M w (.int .i64 j) v:=hd 1 (by simp);cases q1;cases q2;rfl
 subst hvk;cases hm with
 |@mapv _ g hg =>
 have hmem:=Bp hl;obtain⟨g',es,clock,ha,hh,hd⟩:=S.own _ _ hmem;rw[hg]at ha;cases ha;have two:∀{s:SV} {v:Value} (b:Bool),Ax M w s v->Ax M w (.tup [s,.bool b]) (.tuple #[v,.bool b]):=fun {s v} b hs =>
  .tup [s,.bool b] [v,.bool b] rfl (fun i hi=>by
   match i,hi with
   |0,_=>exact hs
   |1,_=>exact .bool _)
 have hall:=T5 (p:=fun e=>∃a b,e.key=.agg #[.int .i64 a,.int .i64 b]/\ok a b/\e.val=.bool true) hd;have hfk:=T4 hp i j w es.toList;rcases PD hp i j w es.toList 0 (by grind)with ⟨q,e,q1,q2,q3⟩|q1
 ·obtain⟨a',b',r1,r2,r3⟩:=hall e (by grind);rw[q2]at r1;have e12:i=a'/\j=b':=by grind
  obtain⟨rfl,rfl⟩:=e12;have hr:∀co,(Instr.lookup t (.map (some g)) (.agg #[.int .i64 i,.int .i64 j]) co).run P w=.ok (if co then .tuple #[.bool true,.bool true]else .bool true) w:=fun co=>by
   unfold Instr.lookup;simp only[Sem.run_bind,run_underlying ht,Result.andThen_ok,MapKept.run_getObj_map hh,Sem.run_pure,Nn hp,hfk,q3,r3]
   try (cases co<;>rfl)
  cases co with
  |true=>exact⟨_,_,hr true,two true (.bool true),h1 r2⟩
  |false=>exact⟨_,_,hr false,.bool true,h1 r2⟩
 ·obtain⟨inf,hi,hz,_⟩:=CV hy;have hz:(zeroValue vt).run P w=.ok y.zero w:=by simp[zeroValue,typeInfo,hi,hz]
  have hr:∀co,(Instr.lookup t (.map (some g)) (.agg #[.int .i64 i,.int .i64 j]) co).run P w=.ok (if co then .tuple #[y.zero,.bool false]else y.zero) w:=fun co=>by
   unfold Instr.lookup;simp only[Sem.run_bind,run_underlying ht,Result.andThen_ok,MapKept.run_getObj_map hh,Sem.run_pure,Nn hp,hfk,q1,hz]
   try (cases co<;>rfl)
  cases co with
  |true=>exact⟨_,_,hr true,two false (Lo _),h2⟩
  |false=>exact⟨_,_,hr false,Lo _,h2⟩
theorem rI (hG:Br G) (S:Al P G st a w env M X) {t:TypeId} {m k v:EV} {K:St->Prop} (h:Pg P st t m k v K) {vm vk vv:Value} (hm:Ap P M w env m vm) (hk:Ap P M w env k vk) (hv:Ap P M w env v vv) :
  ∃w' st',(Instr.mapUpdate t vm vk vv).run P w=.ok () w'/\K st'/\AO P G st' a w':=by
 unfold Pg at h;split at h;rotate_left
 ·exact h.elim
 rename_i kt vt r i j ht;split at h;rotate_left
 ·exact h.elim
 rename_i kt' vt' ok x hl;split at h;rotate_left
 ·exact h.elim
 rename_i hp;obtain⟨h1,h2⟩:=BD h;have hx:x=true:=h1 _ (AhF ..);have hok:ok i j:=h1 _ (by grind);have hvv:vv=.bool true:=by
  cases hv with
  |p hv=>cases hv;rw[hx]
 subst hvv;have hvk:vk=.agg #[.int .i64 i,.int .i64 j]:=by
  cases hk with
  |p hk =>
  cases hk with
  |agg _ vs hl hd =>
    match vs,hl,hd with
    |[u,v],_,hd =>
      have q1:Ax M w (.int .i64 i) u:=hd 0 (by simp);have q2:Ax M w (.int .i64 j) v:=hd 1 (by simp);cases q1;cases q2;rfl
 subst hvk;cases hm with
 |@mapv _ g hg =>
 have hmem:=Bp hl;obtain⟨g',es,clock,ha,hh,hd⟩:=S.own _ _ hmem;rw[hg]at ha;cases ha;have hall:=T5 (p:=fun e=>∃a b,e.key=.agg #[.int .i64 a,.int .i64 b]/\ok a b/\e.val=.bool true) hd;have hfk:=T4 hp i j w es.toList;have fin:∀w',Same (fun b=>b=g) w w'->w'.heap.size=w.heap.size->B8 P M w' env r (.ms kt' vt' ok)->AO P G st a w':=fun w' s1 s2 s3=>by
  have:=S.write hG hmem hg s1 s2 s3;rw[rF S.nod hmem]at this;exact⟨env,M,X,this⟩
 rcases PD hp i j w es.toList 0 (by grind)with ⟨q,e,q1,q2,q3⟩|q1
 ·rw[AhO]at q3;have hq:q<es.size:=by grind
  have he:es[q]=e:=by
   grind
  have hstay:∀w',(Instr.keyThatStays (es[q]).key (.agg #[.int .i64 i,.int .i64 j])).run P w'=.ok (.agg #[.int .i64 i,.int .i64 j]) w':=fun w'=>by
   rw[he,q2];unfold Instr.keyThatStays;rw[if_pos (show Instr.sameBits (9999+1) (.agg #[.int .i64 i,.int .i64 j]) (.agg #[.int .i64 i,.int .i64 j])=true by simp[Instr.sameBits])];rfl
  obtain⟨s1,s2,s3⟩:=Jp (w:=w) (g:=g) (o':=.map (es.modify q fun e=>{ e with key:=.agg #[.int .i64 i,.int .i64 j],val:=.bool true }) clock) hh;refine⟨_,st,?_,h2,fin _ s1 s2 ⟨g,_,clock,hg,s3,fun i' hi'=>?_⟩⟩
  ·unfold Instr.mapUpdate;simp only[Sem.run_bind,run_underlying ht,Result.andThen_ok,MapKept.run_getObj_map hh,Nn hp,hfk,q3];grind [Ah1,Result.andThen_ok,MapKept.run_setObj_map]
  ·have hi':i'<es.size:=by grind
   rw[LS,Array.getElem?_modify,Ah1 hi']
   by_cases hij:q=i'
   ·grind
   ·obtain⟨a',b',r1,r2,r3⟩:=hd i' hi';rw[LS,Ah1 hi']at r1 r3;grind
 ·obtain⟨s1,s2,s3⟩:=Jp (w:=w) (g:=g) (o':=.map (es.push { key:=.agg #[.int .i64 i,.int .i64 j],val:=.bool true,born:=clock }) (clock+1)) hh;refine⟨_,st,?_,h2,fin _ s1 s2 ⟨g,_,clock+1,hg,s3,fun i' hi'=>?_⟩⟩
  ·unfold Instr.mapUpdate;simp only[Sem.run_bind,run_underlying ht,Result.andThen_ok,MapKept.run_getObj_map hh,Nn hp,hfk,q1];exact MapKept.run_setObj_map _ hh
  ·have hi':i'<es.size+1:=by grind
   rw[LS];grind [Nat.lt_succ_iff_lt_or_eq,LS,Ah1,Array.getElem?_push_lt,AhS]
end
section
variable {P:Program} {M:Nat->Prop} {w:World} {G:Bw} {st:St} {a:Act} {env:Ar} {X:Nat->Prop}
theorem T6 {q:Nat} {j:Nat} {o:Ah} (h:(j,o)∈(st.drop q).own):(j,o)∈st.own/\j≠q:=by
 obtain⟨h1,h2⟩:=rK.1 h;grind
theorem T7 (S:Al P G st a w env M X) (q:Nat):Al P G (st.drop q) a w env M X :=
 S.sub (fun _ hx=>(rK.1 hx).1) (fun _ hx=>(rK.1 hx).1) (S.nod.sublist (List.Sublist.map _ List.filter_sublist)) rfl rfl
theorem rJ {k k':Nat} {o':Ah} (h:(k',o')∈(st.scrub k).own):∃o,(k',o)∈st.own/\∀g,o'.sub g->o.sub g:=by
 obtain⟨⟨k2,o2⟩,hm,he⟩:=Ah2.1 h;have hm:=(rK.1 hm).1;cases o2<;>cases he<;>exact⟨_,hm,fun _ h=>h⟩
theorem rL (hG:Br G) (S:Al P G st a w env M X) {t:TypeId} {len q d:Nat} {K:St->Prop} (h:Pm P st t len q d K) (hd:d<st.nt) {vx:Value} (hx:Ap P M w env (.row q) vx) :
  ∃v w',(Instr.buildSlice t len #[(0,vx)]).run P w=.ok v w'/\∃st',K st'/\AO P G st' (a.put (some d) v) w':=by
 unfold Pm at h;split at h
 ·rename_i e e2 sz n get hu hl;split at h
  ·rename_i y hy;split at h
   ·rename_i hc;obtain⟨⟨rfl,hys,hzs,hqn⟩,⟨hnd,hnq⟩,hqd⟩:=hc;obtain⟨hp,hk⟩:=BD h;have hn:0<n:=AC hp;have hmem:=Bp hl;obtain⟨hm,hgl,hO⟩:=S.own _ _ hmem;rcases hO with ⟨_,_,h0⟩|⟨g,cap,cur,hat,hrv,hh,hnc,hcm,hcs,hd'⟩
    ·omega
    cases hx with
    |row hrx =>
    rw[hrv]at hrx;cases hrx;obtain⟨cells,r1,r2⟩:=Lq (M:=M) (w:=w) (fun i=>some (i*y.size,y.size)) [(0,.raw (.slice (some ⟨g,0,none⟩) n cap))] [(0,.slice (some ⟨g,0,none⟩) n cap)] rfl (fun i hi hj=>by
     obtain rfl:i=0:=by grind
     exact⟨rfl,.raw _⟩) _ [.raw (.slice (some ⟨g,0,none⟩) n cap)] ((Ah5 (1*y.size)).map fun k=>y.zero.cells.getD (k % y.size) undef) (by
     have:=Gw (M:=M) (w:=w) ((Ah5 (1*y.size)).map fun k=>y.zero.cells.getD (k % y.size) undef);exact this) (by rw[hys];rfl)
    have hcells:cells = [.slice (some ⟨g,0,none⟩) n cap]:=by
     obtain⟨q1,q2⟩:=r2;have q1:cells.length=1:=q1
     match cells,q1 with
     |[c],_ =>
       have:=q2 0 (Nat.zero_lt_one);have:Ax M w (.raw (.slice (some ⟨g,0,none⟩) n cap)) c:=this;cases this;rfl
    have hrun:=Px (P:=P) (w:=w) hu hy (len:=1) (by grind) (by grind) (parts:=#[(0,.slice (some ⟨g,0,none⟩) n cap)]) (cells:=cells) r1;rw[hcells]at hrun;obtain⟨xg,mg,lg⟩:=S.oat _ _ hmem g (.inl hat);have hs:=Iq w (.cells [.slice (some ⟨g,0,none⟩) n cap].toArray e);have hl':Be M M w (w.alloc (.cells [.slice (some ⟨g,0,none⟩) n cap].toArray e)):=⟨by simp,fun b hb=>hs.block b (S.mlt b hb) id,fun b hb=>hb⟩;have old:∀{j o},(j,o)∈(st.drop q).own->j≠d/\o.names d=false:=fun {j o} h=>Hq (st:=(st.drop q).forget d) hnd h;obtain⟨X',S'⟩:=S.remake hG hd (D:=fun j=>j=q) (own':=(d,.rr e e2 sz 1 (fun _=>g) (fun _=>cap) (fun _=>n) (fun _=>get))::(st.drop q).own) (T':=((st.drop q).forget d).T) (o:=.rr e e2 sz 1 (fun _=>g) (fun _=>cap) (fun _=>n) (fun _=>get))
     (w':=w.alloc (.cells [.slice (some ⟨g,0,none⟩) n cap].toArray e)) (env':=env.set d w.heap.size (.slice (some ⟨w.heap.size,0,none⟩) 1 1)) (W:=fun _=>False) (by
      refine Aiv.2 ⟨fun hm=>?_,(T7 S q).nod⟩;grind) (fun j p hm=>by
      rcases Ah4.1 hm with hm|hm
      ·grind
      ·obtain⟨h1,h2⟩:=T6 hm;exact .inr ⟨(old hm).1,h2,p,h1,fun _ h=>h,(old hm).2,S.own _ _ h1⟩) (fun x hx=>by
      obtain⟨h1,h2⟩:=rK.1 hx;exact⟨(rK.1 h1).1,by grind⟩) (fun b hb=>hb.elim) hs (Ar.set_other env d _ _) rfl (fun g' hg'=>by
      rcases hg' with hg'|⟨i,_,rfl⟩
      ·rw[Ar.set_at]at hg';cases hg';exact⟨by simp,.inl (Ah0 _)⟩
      ·exact⟨by simp;omega,.inr ⟨q,_,hmem,.inr rfl,.inl hat⟩⟩)
     ⟨by grind,(by grind),fun i hi e=>by rw[Ar.set_at]at e;grind,.inr ⟨w.heap.size,1,_,Ar.set_at _ _ _ _,Ar.set_rv _ _ _ _,AhS,Ah0 _,by grind,rfl,fun i hi=>by
      obtain rfl:i=0:=by omega
      exact⟨rfl,⟨hnc,hcm⟩,hgl,cur,(hs.block g lg id).trans hh,hcs,fun j hj u hu=>⟨(hd' j hj u hu).1,(hd' j hj u hu).2.later hl'⟩⟩⟩⟩
    exact⟨_,_,hrun,_,hk g cap hnc,_,M,X',S'.put0 (by grind) (.row (Ar.set_rv _ _ _ _))⟩
   grind
  grind
 grind
theorem rM (hG:Br G) (S:Al P G st a w env M X) {t:TypeId} {d:Nat} {s x:EV} {K:St->Prop} (h:Pn P st t d s x K) (hd:d<st.nt) {vs vx:Value} (hs0:Ap P M w env s vs) (hx:Ap P M w env x vx) (ty:TypeId) :
  ∃v' w',(Builtin.append_ #[t,t] ty #[vs,vx]).run P w=.ok v' w'/\∃st',K st'/\AO P G st' (a.put (some d) v') w':=by
 unfold Pn at h;split at h
 ·rename_i e r q hu;split at h
  ·rename_i y e1 e2 sz n bl cp len get e1' e2' sz' m bl' cp' len' get' hy hlr hlq;split at h
   ·rename_i hc;obtain⟨⟨⟨hb,hys,hzs⟩,⟨rfl,rfl,rfl,rfl⟩,hrn,hqn,hqr⟩,hnq⟩:=hc;obtain⟨hp,hk⟩:=BD h;have hbytes:(n+m)*y.bytes<=140737488355328:=AC hp;have hmax:=L9 hb hbytes;have mr:=Bp hlr;have mq:=Bp hlq;obtain⟨hm1,hb1,hg1,hO1⟩:=S.own _ _ mr;obtain⟨hm2,hb2,hg2,hO2⟩:=S.own _ _ mq;cases hs0 with
    |row hrv =>
    cases hx with
    |row hqv =>
    obtain⟨xs,hxo,hx1,hxl,hob⟩:∃xs,w.ownsRow 0 e1' y.size (env.rv r) n xs/\(∀u,u∈xs->u.oneCell'=true)/\(∀i,i<n->xs[i]? = some (.slice (some ⟨bl i,0,none⟩) (len i) (cp i)))/\(env.rv r).ownBlock=env.at_ r:=by
     rcases hO1 with ⟨h1,h2,h3⟩|⟨g,cap,cur,hg,hrv',hh,hnc,hcm,hcs,hd'⟩
     ·subst h3;exact⟨[],by rw[h2];exact World.ownsRow_nil w 0 e1' y.size,fun u hu=>by simp at hu,fun i hi=>by omega,by rw[h2,h1];rfl⟩
     ·have cl : ∀i, i<n->(cur.toList.take n)[i]? = some (.slice (some ⟨bl i, 0, none⟩) (len i) (cp i)):=fun i hi =>by
       rw[AiF hi,<- (hd' i hi).v,LS,Ajc,Ah1 (by omega)];rfl
      refine⟨cur.toList.take n,⟨by rw[hys];simp;omega,.inr ⟨g,cap,cur,hrv',rH _,hh,hnc,hcm,by rw[hys];omega,by rw[hys,Nat.mul_one]⟩⟩,fun u hu=>?_,cl,by rw[hrv',hg];rfl⟩;obtain⟨i,hi,rfl⟩:=AhR hu;have:=cl i (by simp at hi;omega);rw[Ahz hi]at this;rw[Option.some.inj this];rfl
    obtain⟨A,capq,news,hqv',c1,c2,c3,c4,c5⟩:∃(A:Option Addr) (c:Nat) (news:List Value),env.rv q=.slice A m c/\news.length=m*y.size/\(A=none->m=0)/\(∀ad,A=some ad->0<m->∀j u,news[j]? = some u->w.cell? (ad.add j)=some u)/\(∀u,u∈news->u.oneCell'=true)/\∀i,i<m->news[i]? = some (.slice (some ⟨bl' i,0,none⟩) (len' i) (cp' i)):=by
     rcases hO2 with ⟨h1,h2,h3⟩|⟨g,cap,cur,hg,hrv',hh,hnc,hcm,hcs,hd'⟩
     ·subst h3;exact⟨none,0,[],h2,by simp,fun _=>rfl,(fun _ h=>by cases h),(fun u hu=>by simp at hu),fun i hi=>by omega⟩
     ·have cl : ∀i, i<m->(cur.toList.take m)[i]? = some (.slice (some ⟨bl' i, 0, none⟩) (len' i) (cp' i)):=fun i hi =>by
       rw[AiF hi,<- (hd' i hi).v,LS,Ajc,Ah1 (by omega)];rfl
      refine⟨some ⟨g,0,none⟩,cap,cur.toList.take m,hrv',by rw[hys];simp;omega,(fun h=>by cases h),fun ad he _ j u hu=>?_,fun u hu=>?_,cl⟩
      ·cases he;have hj:j<m:=by
        have:=(List.getElem?_eq_some_iff.1 hu).1;simp at this;omega
       rw[cl j hj]at hu;rw[Cw,AhO,Ec hh (by omega),(hd' j hj).v];exact hu
      ·obtain⟨i,hi,rfl⟩:=AhR hu;have:=cl i (by simp at hi;omega);rw[Ahz hi]at this;rw[Option.some.inj this];rfl
    obtain⟨v',w',hrun,hown',hgr,hblk,hdr⟩:=P0 (P:=P) (ty:=ty) (cap:=capq) hu hy (by omega) (by rw[hys];exact hzs) hxo c1 c2 c3 c4 hmax hbytes;rw[hrv,<- hqv',hqv]at hrun;let env2:Ar:={ env with at_:=fun j=>if j=r then v'.ownBlock else env.at_ j,rv:=fun j=>if j=r then v' else env.rv j };have a1:env2.at_ r=v'.ownBlock:=by simp[env2]
    have a2:env2.rv r=v':=by simp[env2]
    have hs':Same (fun b=>env.at_ r=some b) w w':=⟨hgr.os,hgr.tape,hgr.output,hdr,hgr.size,fun b hb hne=>hgr.block b hb (fun e=>hne (by rw[<- hob];exact e.symm))⟩;have hlat:Be M M w w':=⟨hgr.size,fun b hb=>hs'.block b (S.mlt b hb) (fun e=>(S.oat _ _ mr b (.inl e)).2.1 hb),fun b hb=>hb⟩;have hlt':∀g,v'.ownBlock=some g->g<w'.heap.size:=fun g hg=>(hown'.lt g hg).2
    -- where the rows lie
    have src:∀i,i<n+m->(i<n/\CQ n bl bl' i=bl i/\CQ n cp cp' i=cp i/\CQ n len len' i=len i/\Io n get get' i=get i)\/(n<=i/\i-n<m/\CQ n bl bl' i=bl' (i-n)/\CQ n cp cp' i=cp' (i-n)/\CQ n len len' i=len' (i-n)/\Io n get get' i=get' (i-n)):=fun i hi=>by
     unfold CQ Io
     by_cases h:i<n
     ·simp only[if_pos h];exact .inl ⟨h,trivial,trivial,trivial,trivial⟩
     ·simp only[if_neg h];exact .inr ⟨by omega,by omega,trivial,trivial,trivial,trivial⟩
    have hasR:∀i,i<n->(Ah.rr e1' e2' sz' n bl cp len get).has env r (bl i):=fun i hi=>.inr ⟨i,hi,rfl⟩;have hasQ:∀i,i<m->(Ah.rr e1' e2' sz' m bl' cp' len' get').has env q (bl' i):=fun i hi=>.inr ⟨i,hi,rfl⟩;have bne:∀i,i<n+m->env.at_ r≠some (CQ n bl bl' i)/\CQ n bl bl' i<w.heap.size:=fun i hi=>by
     rcases src i hi with ⟨h1,h2,_⟩|⟨h1,h2,h3,_⟩
     ·rw[h2];exact⟨hg1 i h1,(S.oat _ _ mr _ (hasR i h1)).2.2⟩
     ·rw[h3];exact⟨fun e=>S.inj _ _ _ _ mq mr hqr _ (hasQ _ h2) (.inl e),(S.oat _ _ mq _ (hasQ _ h2)).2.2⟩
    have hblk':v'.ownBlock=env.at_ r\/v'.ownBlock=some w.heap.size:=hblk.imp (fun h=>h.trans hob) id;have hnew:B8 P M w' env2 r (.rr e1' e2' sz' (n+m) (CQ n bl bl') (CQ n cp cp') (CQ n len len') (Io n get get')):=by
     refine⟨hmax,fun i j hi hj e=>?_,fun i hi e=>?_,?_⟩
     ·rcases src i hi with ⟨h1,h2,_⟩|⟨h1,h2,h3,_⟩<;>rcases src j hj with ⟨k1,k2,_⟩|⟨k1,k2,k3,_⟩
      ·rw[h2,k2]at e;exact hb1 i j h1 k1 e
      ·rw[h2,k3]at e;exact(S.inj _ _ _ _ mr mq (Ne.symm hqr) _ (hasR i h1) (e ▸ hasQ _ k2)).elim
      ·rw[h3,k2]at e;exact(S.inj _ _ _ _ mr mq (Ne.symm hqr) _ (hasR j k1) (e ▸ hasQ _ h2)).elim
      ·rw[h3,k3]at e;have:=hb2 _ _ h2 k2 e;omega
     ·rw[a1]at e;obtain⟨b1,b2⟩:=bne i hi;rcases hblk' with h|h
      ·rw[h]at e;exact b1 e
      ·rw[h]at e;have e:=Option.some.inj e;omega
     ·rcases hown'.2 with ⟨h1,h2⟩|⟨g,cap,cur,h1,_,hh,hnc,hcm,hcs,htake⟩
      ·exact .inl ⟨by rw[a1,h1];rfl,by rw[a2,h1],h2⟩
      ·refine .inr ⟨g,cap,cur,by rw[a1,h1];rfl,by rw[a2,h1],hh,hnc,hcm,by rw[hcs,hys];omega,fun i hi=>?_⟩;have e1:cur.getD i undef=.slice (some ⟨CQ n bl bl' i,0,none⟩) (CQ n len len' i) (CQ n cp cp' i):=by
        have hi2:i<(n+m)*y.size:=by rw[hys];omega
        have hxn:xs.length=n:=by have:=hxo.1;rw[hys]at this;omega
        have e2:(xs++news)[i]? = some (.slice (some ⟨CQ n bl bl' i,0,none⟩) (CQ n len len' i) (CQ n cp cp' i)):=by
         rcases src i hi with ⟨h1,h2,h3,h4,_⟩|⟨h1,h2,h3,h4,h5,_⟩
         ·rw[List.getElem?_append_left (by omega),hxl i h1,h2,h3,h4]
         ·rw[List.getElem?_append_right (by omega),hxn,c5 _ h2,h3,h4,h5]
        rw[<- htake,AiF hi2,Ajc]at e2;rw[LS,e2];rfl
       rw[e1];obtain⟨b1,b2⟩:=bne i hi;have hsame:=hs'.block _ b2 b1;rcases src i hi with ⟨h1,h2,h3,h4,h5⟩|⟨h1,h2,h3,h4,h5,h6⟩
       ·rcases hO1 with ⟨_,_,h0⟩|⟨_,_,_,_,_,_,_,_,_,hd'⟩
        ·omega
        ·have q:=(hd' i h1).move hlat (by rw[<- h2];exact hsame);rw[h2,h3,h4,h5];exact⟨rfl,q.le,q.gl,q.c⟩
       ·rcases hO2 with ⟨_,_,h0⟩|⟨_,_,_,_,_,_,_,_,_,hd'⟩
        ·omega
        ·have q:=(hd' _ h2).move hlat (by rw[<- h3];exact hsame);rw[h3,h4,h5,h6];exact⟨rfl,q.le,q.gl,q.c⟩
    have S2:=LA (T7 S q) r;obtain⟨X',S'⟩:=S.remake hG hrn (D:=fun j=>j=q) (own':=Cl ((st.drop q).scrub r).own r (.rr e1' e2' sz' (n+m) (CQ n bl bl') (CQ n cp cp') (CQ n len len') (Io n get get'))) (T':=((st.drop q).scrub r).T)
     (w':=w') (env':=env2) (W:=fun b=>env.at_ r=some b) (by rw[Jk];exact S2.nod) (fun j p hm=>by
      rcases EM hm with ⟨h1,h2,_⟩|⟨h1,h2⟩
      ·exact .inl ⟨h1,h2⟩
      ·obtain⟨o0,h3,h4⟩:=rJ h2;obtain⟨h5,h6⟩:=T6 h3;exact .inr ⟨h1,h6,o0,h5,h4,LB h2,S2.own _ _ h2⟩) (fun x hx=>by
      obtain⟨h1,h2⟩:=rK.1 hx;exact⟨(rK.1 h1).1,by simpa using h2⟩) (fun b hb=>⟨_,mr,.inl hb⟩) hs' (fun j hj=>by simp[env2,hj]) rfl (fun g hg=>by
      rcases hg with hg|⟨i,hi,rfl⟩
      ·rw[a1]at hg;refine⟨hlt' g hg,?_⟩;rcases hblk' with h|h
       ·exact .inr ⟨r,_,mr,.inl rfl,.inl (h ▸ hg)⟩
       ·rw[h]at hg;cases hg;exact .inl (Ah0 _)
      ·refine⟨Ah3 (bne i hi).2 hs'.size,.inr ?_⟩;rcases src i hi with ⟨h1,h2,_⟩|⟨h1,h2,h3,_⟩
       ·rw[h2];exact⟨r,_,mr,.inl rfl,hasR i h1⟩
       ·rw[h3];exact⟨q,_,mq,.inr rfl,hasQ _ h2⟩) hnew
    have hv':∃A k c,v'=.slice A k c:=by
     rcases hown'.2 with ⟨h,_⟩|⟨_,_,_,h,_⟩<;>rw[h]<;>exact⟨_,_,_,rfl⟩
    obtain⟨A',k',c',rfl⟩:=hv';exact⟨_,w',hrun,_,hk,env2,M,X',S'.put0 (fun t' ht=>by cases ht;exact hd) (.row a2)⟩
   ·exact h.elim
  ·exact h.elim
 ·exact h.elim
inductive Ba:SV->SV->Prop
 |refl (s):Ba s s
 |nil {sz get}:Ba (.raw (.slice none 0 0)) (.sl sz 0 get)
 |sl {sz n get get'} (h:∀i,i<n->get i=get' i):Ba (.sl sz n get) (.sl sz n get')
 |sl2 {sz n get get'} (hl:∀i,i<n->(get' i).length=(get i).length) (h:∀i,i<n->∀j,j<(get i).length->Ba (SV.at (get i) j) (SV.at (get' i) j)):Ba (.sl sz n get) (.sl sz n get')
 |agg {cs cs':List SV} (hl:cs'.length=cs.length) (h:∀i,i<cs.length->Ba (SV.at cs i) (SV.at cs' i)):Ba (.agg cs) (.agg cs')
 |clo {f:Nat} {cs cs':List SV} (hl:cs'.length=cs.length) (h:∀i,i<cs.length->Ba (SV.at cs i) (SV.at cs' i)):Ba (.clo f cs) (.clo f cs')
 |ref {cs cs':List SV} {off:Nat} (hl:cs'.length=cs.length) (h:∀i,i<cs.length->Ba (SV.at cs i) (SV.at cs' i)):Ba (.ref cs off) (.ref cs' off)
theorem Ba.den {M:Nat->Prop} {w:World} {s s':SV} (h:Ba s s'):∀{v:Value},Ax M w s v->Ax M w s' v:=by
 induction h with
 |refl s=>exact fun hd=>hd
 |@nil sz get =>
   intro v hd;cases hd;exact .sl sz 0 get none 0 (fun _ _=>undef) (Ah0 _) (rH _) (fun h=>absurd h (Nat.lt_irrefl _)) (fun i hi=>absurd hi (oE _)) (fun i hi=>absurd hi (oE _)) (fun i hi=>absurd hi (oE _))
 |@sl sz n get get' h =>
   intro v hd;cases hd with
   |sl _ _ _ A cap vs hcap hm hA hg ho hd =>
     exact .sl sz n get' A cap vs hcap hm hA (fun i hi=>by rw[<- h i hi];exact hg i hi) ho (fun i hi j hj=>by rw[<- h i hi];exact hd i hi j hj)
 |@sl2 sz n get get' hl h ih =>
   intro v hd;cases hd with
   |sl _ _ _ A cap vs hcap hm hA hg ho hd =>
     exact .sl sz n get' A cap vs hcap hm hA (fun i hi=>(hl i hi).trans (hg i hi)) ho (fun i hi j hj=>ih i hi j (by rw[hg i hi];exact hj) (hd i hi j hj))
 |@agg cs cs' hl h ih =>
   intro v hd;cases hd with
   |agg _ vs hl' hd=>exact .agg cs' vs (hl'.trans hl.symm) (fun i hi=>ih i (hl ▸ hi) (hd i (hl ▸ hi)))
 |@clo f cs cs' hl h ih =>
   intro v hd;cases hd with
   |clo _ _ vs hl' hd=>exact .clo f cs' vs (hl'.trans hl.symm) (fun i hi=>ih i (hl ▸ hi) (hd i (hl ▸ hi)))
 |@ref cs cs' off hl h ih =>
   intro v hd;cases hd with
   |ref _ _ vs ad hM hc ho hd=>exact .ref cs' off vs ad hM (fun j hj=>hc j (hl ▸ hj)) (fun j hj=>ho j (hl ▸ hj)) (fun j hj=>ih j (hl ▸ hj) (hd j (hl ▸ hj)))
def LN:List (Nat×SV)->St->(St->Prop)->Prop
 |[],st,K=>K st
 |(d,t)::l,st,K=>match st.rho none (.tmp d)with
   |some (.p s)=>Ba s t/\LN l { st with T:=(d,⟨none,.p t⟩)::st.T.filter fun x=>!(x.1 == d) } K
   |_=>False
theorem PE:∀(l:List (Nat×SV)) {st:St} {K:St->Prop},LN l st K->AO P G st a w->∃st',K st'/\AO P G st' a w
 |[],st,K,h,hs=>⟨st,h,hs⟩
 |(d,t)::l,st,K,h,⟨env,M,X,S⟩=>by
   unfold LN at h;split at h
   ·rename_i s hs;have hv:=Bc S (gd:=none) (fun _ _ _ h=>by cases h) trivial hs;refine PE l h.2 ⟨env,M,X,?_⟩;have hd:d<st.nt:=by
     unfold St.rho at hs;split at hs
     ·rename_i e he;have he:GG st.T d=some e:=he;exact(S.tmp _ _ (HE he)).1
     ·cases hs
    have S0:Al P G { st with T:=st.T.filter fun x=>!(x.1 == d) } a w env M X:=S.sub (fun _ hx=>(rK.1 hx).1) (fun _ hx=>hx) S.nod rfl rfl;refine⟨S0.gam,S0.mx,S0.own,S0.oat,S0.inj,S0.nod,S0.mlt,S0.xlt,S0.siz,fun i e hm=>?_,fun i e hm q c v hq=>?_,S0.dfr,S0.dno⟩
    ·rcases Ah4.1 hm with hm|hm
     ·cases hm;refine⟨hd,fun _=>?_,fun h=>absurd trivial h⟩;cases hv with
      |p q=>exact .p (h.1.den q)
     ·exact S0.tmp i e hm
    ·rcases Ah4.1 hm with hm|hm
     ·cases hm;cases hq
     ·exact S0.grd i e hm q c v hq
   ·exact h.elim
end
section
variable {P:Program} {M:Nat->Prop} {w:World} {G:Bw} {st:St} {a:Act} {env:Ar} {X:Nat->Prop}
theorem T8 {o:Oper} {f:Operand} {args:Array Operand} {ts:Array TypeId} (ho:o.op=.call { callee:=.value f,args:=args,argTypes:=ts }) {g:Nat} {first caps:Array Value} (hf:a.eval f=.func (.func g) first caps) (hg:An P g) :
  (execOp a.eval o).run P w=.ok (.enter g (first++args.map a.eval++caps)) w:=by
 simp only[execOp,ho,resolve,hf,Deferred.ofValue,Sem.run_bind,Sem.run_pure,Result.andThen_ok,invoke];rw[hg]
theorem Jq {o:Oper} {f:Operand} {args:Array Operand} {ts:Array TypeId} (ho:o.op=.call { callee:=.value f,args:=args,argTypes:=ts }) {g:Nat} {caps:Array Value} (hf:a.eval f=.func (.func g) #[] caps) (hg:An P g) :
  (execOp a.eval o).run P w=.ok (.enter g (args.map a.eval++caps)) w:=by
 simp only[execOp,ho,resolve,hf,Deferred.ofValue,Sem.run_bind,Sem.run_pure,Result.andThen_ok,invoke];rw[hg];simp
theorem T9 {ρ:Operand->Option EV} (hρ:∀x e,ρ x=some e->Ap P M w env e (a.eval x)):∀{xs:List Operand} {ss:List SV},Lv ρ xs=some ss->By M w ss (xs.map a.eval)
 |[],ss,h=>by simp only[Lv]at h;cases h;exact⟨rfl,fun i hi=>by simp at hi⟩
 |x::xs,ss,h=>by
   simp only[Lv]at h;split at h
   ·rename_i s ss' hx hs;cases h;have ih:=T9 hρ hs;have h1:=hρ _ _ hx;rcases h1 with ⟨h1⟩;refine⟨by simpa using ih.1,fun i hi=>?_⟩;cases i with
    |zero=>simpa[SV.at]using h1
    |succ i=>simpa[SV.at]using ih.2 i (by grind)
   ·cases h
theorem rN (hG:Br G) (S:Al P G st a w env M X) {t e:TypeId} {y:Ty} (hu:P.underlying t=some (.slice e)) (hy:Bg P e=some y) {len:Nat} {parts:Array (Nat×Operand)} {l:List (Nat×SV)} {ρ:Operand->Option EV}
  (hρ:∀x e,ρ x=some e->Ap P M w env e (a.eval x)) (hl:Ik ρ parts.toList=some l) {cs:List SV}
  (hcs:FK (fun i=>some (i*y.size,y.size)) ((Ah5 (len*y.size)).map fun k=>Cx (y.zero.cells.getD (k % y.size) undef)) l=some cs)
  (hc:len*y.size<=16777216/\0<y.size/\y.zero.cells.size=y.size/\cs.all (fun s=>CW (.p s))) :
  ∃v w' M' X',(Instr.buildSlice t len (parts.map fun(i,x)=>(i,a.eval x))).run P w=.ok v w'/\Al P G st a w' env M' X'/\Ax M' w' (.sl y.size len (if len=1 then fun _=>cs else AD cs y.size)) v:=by
 obtain⟨hle,hsz,hzs,hone⟩:=hc;obtain⟨q1,q2⟩:=MM (P:=P) (env:=env) hρ _ _ hl;obtain⟨cells,r1,r2⟩:=Lq (M:=M) (w:=w) (fun i=>some (i*y.size,y.size)) l _ q1 q2 _ _ ((Ah5 (len*y.size)).map fun k=>y.zero.cells.getD (k % y.size) undef) (by
  have:=Gw (M:=M) (w:=w) ((Ah5 (len*y.size)).map fun k=>y.zero.cells.getD (k % y.size) undef);rw[Aiy]at this;exact this) hcs
 have h1:∀v,v∈cells->v.oneCell'=true:=fun v hv=>by
  obtain⟨i,hi,rfl⟩:=AhR hv;have hi':i<cs.length:=by have:=r2.1;omega
  have a1:CW (.p cs[i])=true:=(by grind);have a2:=r2.2 i hi';rw[show SV.at cs i=cs[i]by simp[SV.at,AS,hi']]at a2;grind [Ahz,Ka]
 have hcl:cs.length=len*y.size:=by
  have:∀(pl:Nat->Option (Nat×Nat)) (ps:List (Nat×SV)) (c0 c1:List SV),FK pl c0 ps=some c1->c1.length=c0.length:=by
   intro pl ps
   induction ps with
   |nil=>intro c0 c1 h;simp[FK]at h;rw[h]
   |cons p ps ih =>
     intro c0 c1 h;obtain⟨i,s⟩:=p;simp only[FK]at h;grind [MY]
  grind
 have hmax:len<=maxLen:=by
  have:len<=len*y.size:=Nat.le_mul_of_pos_right len hsz;unfold maxLen;omega
 have hrun:=Px (P:=P) (w:=w) hu hy hle hzs (parts:=parts.map fun(i,x)=>(i,a.eval x)) (cells:=cells) (by rw[<- r1];simp);obtain⟨M',X',S',hden⟩:=SX hG S (e:=e) r2 h1 hcl hmax;refine⟨_,_,M',X',hrun,S',?_⟩;split
 ·rename_i hl1;subst hl1;refine hden.congr_sl (fun i hi=>?_);have:i=0:=by omega
  subst this;simp only[AD,Nat.zero_mul,List.drop_zero];grind
 ·exact hden
theorem No {gd:gdT} {dst:Option Nat} {p:Prop} {K:St->Prop} (h:Lx st gd dst p K) (hh:CB gd):p:=by
 cases gd with
 |none=>exact h
 |some g=>obtain⟨q,c,b⟩:=g;exact h.1 hh
theorem TA {k:IntKind}:∀{l:List Value},Lt k l=true->∀j,j<l.length->l.getD j undef=.int k 0
 |[],_,j,hj=>by simp at hj
 |v::l,h,j,hj=>by
   cases v with
   |int k' z =>
     simp only[Lt,pR,decide_eq_true_eq]at h;obtain⟨⟨rfl,rfl⟩,h⟩:=h;cases j with
     |zero=>rfl
     |succ j=>simpa using TA h j (by grind)
   |_=>simp[Lt]at h
theorem rO (hG:Br G) (S:Al P G st a w env M X) {t:TypeId} {y:Ty} {d:Nat} {gd:gdT} (hdn:d<st.nt) {K:St->Prop} (h:MQ P t y st d gd K) :
  ∃st',K st'/\AO P G st' (a.put (some d) (.pointer (some ⟨w.heap.size,0,none⟩))) (w.alloc (.cells y.zero.cells t)):=by
 unfold MQ at h;split at h
 ·rename_i n e hu;split at h
  ·rename_i k hk;split at h
   ·rename_i hc;obtain⟨⟨hz,hn,hi⟩,hno⟩:=hc;have hat:∀j,j<n->y.zero.cells.getD j undef=.int k 0:=fun j hj=>by
     have:=TA hi j (by grind);grind [LS]
    obtain⟨env',X',h2,h3⟩:=MZ hG S hdn hno (e:=t) (cur:=y.zero.cells) (n:=n) (cap:=n) (sz:=1) (get:=fun _=>[.int k 0]) (by omega) (Ah0 _) (by unfold maxLen;omega) (fun i hi=>rfl) (fun i hi j hj=>by
     obtain rfl:j=0:=by omega
     rw[show i*1+0=i by omega,hat i hi];exact⟨rfl,.int k 0⟩)
    have h4:env'.at_ d=some w.heap.size:=by
     obtain⟨_,_,h5⟩:=h2.own d _ AhF;grind
    exact⟨_,h,env',M,X',h2.put0 (by intro t' ht;cases ht;exact hdn) (.rptr (i:=0) (sz:=1) (off:=0) h4)⟩
   grind
  grind
 grind
theorem Al.reown (S:Al P G st a w env M X) {k:Nat} {o0 o:Ah} (hk:(k,o0)∈st.own) (ho:B8 P M w env k o) (hso:∀g,o.sub g->o0.sub g:=by exact fun _ h=>False.elim h):Al P G { st with own:=Cl st.own k o } a w env M X:=by
 have old:∀{k' o'},(k',o')∈Cl st.own k o->∃q,(k',q)∈st.own/\∀g,o'.has env k' g->q.has env k' g:=fun h=>by
  rcases EM h with ⟨rfl,rfl,_⟩|⟨_,h⟩
  ·exact⟨o0,hk,fun g hg=>hg.imp id (hso g)⟩
  ·exact⟨_,h,fun _ h=>h⟩
 refine⟨S.gam,S.mx,?_,?_,?_,by simp only[Jk];exact S.nod,S.mlt,S.xlt,S.siz,S.tmp,S.grd,?_,S.dno⟩
 ·intro k' o' h;rcases EM h with ⟨rfl,rfl,_⟩|⟨_,h⟩
  ·exact ho
  ·exact S.own _ _ h
 ·intro k' o' h g' hg';obtain⟨q,hq,hh⟩:=old h;exact S.oat _ _ hq g' (hh g' hg')
 ·intro k1 o1 k2 o2 h1 h2 hne g' hg1;obtain⟨q1,e1,f1⟩:=old h1;obtain⟨q2,e2,f2⟩:=old h2;exact fun hc=>S.inj _ _ _ _ e1 e2 hne g' (f1 g' hg1) (f2 g' hc)
 ·intro d hd;obtain⟨D,e,h1,h2,h3,h4⟩:=S.dfr d hd;refine⟨D,e,h1,h2,h3,?_⟩;intro k' o' h;obtain⟨q,hq,hh⟩:=old h;exact fun hc=>h4 _ _ hq (hh D hc)
theorem rP (hG:Br G) (S:Al P G st a w env M X) {t:TypeId} {e:EV} {K:St->Prop} (h:Pk P st t e K) {v:Value} (hv:Ap P M w env e v) (ty:TypeId) :
  ∃w',(Builtin.clear_ #[t] ty #[v]).run P w=.ok (.tuple #[]) w'/\∃st',K st'/\AO P G st' (a.put none (.tuple #[])) w':=by
 unfold Pk at h;split at h
 ·rename_i el r sz lo n hu;split at h
  ·rename_i y e' sz' n' get hy hl;split at h
   ·rename_i hc;obtain⟨rfl,rfl,hsz,hzs,hone⟩:=hc;obtain⟨hp,hk⟩:=BD h;have hle:=AC hp;obtain⟨i,hi,hz,hs,hby,_⟩:=CV hy;have hmem:=Bp hl;obtain⟨hm,hgl,hO⟩:=S.own _ _ hmem;cases hv with
    |rsub A cap hcap hmx hA =>
    by_cases hn:n=0
    ·subst hn;refine⟨w,?_,_,hk,env,M,X,S.reown hmem ?_⟩
     ·cases A<;>simp[Builtin.clear_,run_underlying hu]
     ·have : Jh lo 0 (y.zero.cells.toList.map Cx) get = get :=by
       funext i;unfold Jh;rw[if_neg (by omega)]
      rw[this];exact⟨hm,hgl,hO⟩
    ·obtain⟨g,hg,rfl⟩:=hA (by omega);rcases hO with ⟨hno,_⟩|⟨g',cap',cur,hg',hrv,hh,hnc,hcm,hcs,hd⟩
     ·rw[hno]at hg;cases hg
     rw[hg]at hg';cases hg';have hzl:(Builtin.zeroCells y.zero.cells n).toList.length=n*y.size:=by simp[size_zeroCells,hzs]
     have hzc:∀k,k<n*y.size->(Builtin.zeroCells y.zero.cells n).toList.getD k undef=y.zero.cells.getD (k % y.size) undef:=fun k hk'=>by
      have hmod:k % y.size<y.zero.cells.size:=by rw[hzs];exact AiX _ hsz
      simp only[Builtin.zeroCells,AS,LS];simp[hk',hzs,getElem!_pos y.zero.cells (k % y.size) hmod];rw[Ah1 hmod];rfl
     have hz1:∀j,j<y.size->(y.zero.cells.getD j undef).oneCell'=true:=fun j hj=>by
      have hj':j<y.zero.cells.size:=by omega
      have:=Array.all_eq_true.1 hone j hj';simpa[LS,Ah1 hj']using this
     have h1:∀u,u∈(Builtin.zeroCells y.zero.cells n).toList->u.oneCell'=true:=fun u hu'=>by
      obtain⟨k,hk',rfl⟩:=AhR hu';have:=hzc k (by omega);rw[AS,Ahz hk',Aix]at this;rw[this];exact hz1 _ (AiX _ hsz)
     obtain⟨zs,ezs⟩:∃zs,(Builtin.zeroCells y.zero.cells n).toList=zs:=⟨_,rfl⟩;rw[ezs]at hzl hzc h1;have hfit:lo*y.size+n*y.size<=cur.size:=by
      rw[hcs,<- Aia];exact AhI _ (by omega)
     have hst:=run_storeCells_at P g (lo*y.size) e' zs 0 cur w hh (by omega) h1;simp only[Nat.add_zero]at hst;obtain⟨hss,hsz'⟩:=It (w:=w) (g:=g) (cur.toList.take (lo*y.size)++zs++cur.toList.drop (lo*y.size+zs.length)).toArray;have hl':Be M M w (w.setRow g (cur.toList.take (lo*y.size)++zs++cur.toList.drop (lo*y.size+zs.length)).toArray):=
      ⟨by omega,fun b hb=>hss.block b (S.mlt b hb) (fun e=>(S.oat _ _ hmem g (.inl hg)).2.1 (e ▸ hb)),fun b hb=>hb⟩
     refine⟨_,?_,_,hk,env,M,X,S.write hG hmem hg hss hsz' ?_⟩
     ·obtain⟨n1,rfl⟩:∃n1,n=n1+1:=⟨n-1,by omega⟩;simp[Builtin.clear_,run_underlying hu,zeroValue,typeInfo,hi,hz,ezs,hst]
     ·refine⟨hm,fun j hj=>?_,.inr ⟨g,cap',_,hg,hrv,setRow_heap w g cur _ _ _ hh,hnc,hcm,by simp only[List.size_toArray,AhU,AiP,List.length_drop,Array.length_toList,hzl];omega,fun j hj k hk'=>?_⟩⟩
      ·unfold Jh;split
       ·simpa using hzs
       ·exact hgl j hj
      ·unfold Jh;have hjc:=C6 (sz:=y.size) (Ah3 hj hnc) hk';rw[Is cur _ _ (by omega) _ (by omega),hzl]
       by_cases hr:lo<=j/\j<lo+n
       ·have q1:=AhI y.size hr.1;have q2:j*y.size+y.size<=(lo+n)*y.size:=by
         have:=AhI y.size (show j+1<=lo+n by omega);rwa[Aia,Nat.one_mul]at this
        rw[Aia]at q2;rw[if_pos hr,if_pos (by omega),show j*y.size+k-lo*y.size=(j-lo)*y.size+k by rw[Nat.sub_mul];omega];have q3:=C6 (sz:=y.size) (i:=j-lo) (len:=n) (by omega) hk';rw[hzc _ q3,show((j-lo)*y.size+k) % y.size=k by rw[Nat.mul_comm,Nat.mul_add_mod,Nat.mod_eq_of_lt hk']];refine⟨hz1 k hk',?_⟩;have hd':=(Gw (M:=M) (w:=w.setRow g (cur.toList.take (lo*y.size)++zs++cur.toList.drop (lo*y.size+zs.length)).toArray) y.zero.cells.toList).2 k (by simp;omega);have e9:y.zero.cells.toList.getD k undef=y.zero.cells.getD k undef:=by simp[AS,LS]
        rw[e9]at hd';rw[hzl]at hd';exact hd'
       ·have hne : ¬ (lo*y.size<=j*y.size+k/\j*y.size+k<lo*y.size+n*y.size):=by
         intro hx;rcases Aio j lo with h5|h5
         ·have:=AhI y.size (show j+1<=lo by omega);rw[Aia]at this;omega
         ·have:=AhI y.size (show lo+n<=j by omega);rw[Aia]at this;omega
        rw[if_neg hr,if_neg hne];refine⟨(hd j hj k hk').1,?_⟩;have:=(hd j hj k hk').2.later hl';rw[hzl]at this;exact this
   ·exact h.elim
  ·exact h.elim
 ·exact h.elim
theorem rQ (hG:Br G) (S:Al P G st a w env M X) {t t':TypeId} {d:Nat} {e x:EV} {K:St->Prop} (h:Pl P st t d e x K) (hdn:d<st.nt) {v u:Value} (hv:Ap P M w env e v) (hu:Ap P M w env x u) (ty:TypeId) :
  ∃r w',(Builtin.copy_ #[t,t'] ty #[v,u]).run P w=.ok r w'/\∃st',K st'/\AO P G st' (a.put (some d) r) w':=by
 unfold Pl at h;split at h;rotate_left
 ·exact h.elim
 rename_i el hut;split at h;rotate_left
 ·exact h.elim
 rename_i y hy;split at h;rotate_left
 ·exact h.elim
 rename_i sides m get2 r sz lo n hsl hds;split at h;rotate_left
 ·exact h.elim
 rename_i e' sz' n' get hl;split at h;rotate_left
 ·exact h.elim
 rename_i hc;obtain⟨rfl,rfl,hsz,hnm⟩:=hc;obtain⟨hp,hk⟩:=BD h;obtain⟨hp1,hp2⟩:=all_append hp;have hlo:lo+n<=n':=hp2 _ (by simp);have hmn:m<=n:=hp2 _ (by simp);obtain⟨i,hi,hz,hs,hby,_⟩:=CV hy;have hmem:=Bp hl;obtain⟨hm,hgl,hO⟩:=S.own _ _ hmem;obtain⟨A2,cap2,news,rfl,hlen,hA2,hcell,hone,hg2,hd2⟩:=Ke S hsl hp1 hu;have hmx:Nat.min m n=m:=Nat.min_eq_left hmn
 by_cases hm0:m=0
 ·subst hm0;have hsame:Lz lo 0 get2 get=get:=by
   funext i;unfold Lz;rw[if_neg (by omega)]
  have hnews:news = []:=AiS (by rw[hlen,Nat.zero_mul]);obtain⟨A,cap,rfl⟩:∃A cap,v=.slice A n cap:=by
   cases hv with
   |rsub A cap _ _ _=>simp[Ji]at hds;obtain⟨_,_,_,rfl⟩:=hds;exact⟨A,cap,rfl⟩
   |@row r' A n0 c hrv =>
     simp only[Ji]at hds;split at hds
     ·rename_i e2 sz2 n2 get3 hl2;simp only[Option.some.injEq,Prod.mk.injEq]at hds;obtain⟨rfl,rfl,rfl,rfl⟩:=hds;rw[hl]at hl2;cases hl2;rcases hO with ⟨_,hrv',hn0⟩|⟨g,cap,cur,hg,hrv',_⟩
      ·rw[hrv']at hrv;cases hrv;subst hn0;exact⟨_,_,rfl⟩
      ·rw[hrv']at hrv;cases hrv;exact⟨_,_,rfl⟩
     ·cases hds
   |_=>simp[Ji]at hds
  refine⟨goInt 0,w,?_,_,hk,env,M,X,(S.reown hmem (by rw[hsame];exact⟨hm,hgl,hO⟩)).put0 (by intro t' ht;cases ht;exact hdn) (.p (.int _ _))⟩;cases A<;>cases A2<;>simp[Builtin.copy_,run_underlying hut,Builtin.lenOf,Builtin.firstCells,loadCells,loadCellsFrom,storeCells,EY hi]
 ·obtain⟨g, cap', cur, hg, hrv, hh, hnc, hcm, hcs, hd⟩: ∃g cap' cur, env.at_ r = some g/\env.rv r = .slice (some ⟨g, 0, none⟩) n' cap'/\w.heap[g]? = some (.cells cur e' (0, 0))/\n'<=cap'/\cap'<=maxLen/\cur.size = cap'*y.size /\
    ∀i,i<n'->∀j,j<y.size->(cur.getD (i*y.size+j) undef).oneCell'=true/\Ax M w (SV.at (get i) j) (cur.getD (i*y.size+j) undef):=by
   rcases hO with ⟨_,_,hn0⟩|hO
   ·omega
   ·exact hO
  have hpos:0<n:=Ah3 (Nat.pos_of_ne_zero hm0) hmn;clear hO;obtain⟨cap,rfl⟩:∃cap,v=.slice (some ⟨g,lo*y.size,none⟩) n cap:=by
   cases hv with
   |rsub A cap _ _ hA =>
     simp only[Ji,Option.some.injEq,Prod.mk.injEq]at hds;obtain⟨rfl,rfl,rfl,rfl⟩:=hds;obtain⟨g',hg',rfl⟩:=hA hpos;rw[hg]at hg';cases hg';exact⟨cap,rfl⟩
   |@row r' A n0 c hrv' =>
     simp only[Ji]at hds;split at hds
     ·rename_i e2 sz2 n2 get3 hl2;simp only[Option.some.injEq,Prod.mk.injEq]at hds;obtain⟨rfl,rfl,rfl,rfl⟩:=hds;rw[hl]at hl2;cases hl2;rw[hrv]at hrv';cases hrv';exact⟨_,by rw[Nat.zero_mul]⟩
     ·cases hds
   |_=>simp[Ji]at hds
  obtain⟨a2,rfl⟩:∃a2,A2=some a2:=by
   cases A2 with
   |none=>exact absurd (hA2 rfl) hm0
   |some a2=>exact⟨a2,rfl⟩
  have hld:=run_loadCells (P:=P) w a2 (m*y.size) (fun j=>news.getD j undef) (fun j hj=>hcell a2 rfl (by omega) j _ (by rw[AS,Ahz (by omega)];rfl));have hnews:(Ah5 (m*y.size)).map (fun j=>news.getD j undef)=news:=by
   apply List.ext_getElem (by simp[hlen]);intro k h1 h2;simp[AS,h2]
  rw[hnews]at hld;have hfit:lo*y.size+m*y.size<=cur.size:=by
   rw[hcs,<- Aia];exact AhI _ (by omega)
  have hst:=run_storeCells_at P g (lo*y.size) e' news 0 cur w hh (by omega) hone;simp only[Nat.add_zero]at hst;obtain⟨hss,hsz'⟩:=It (w:=w) (g:=g) (cur.toList.take (lo*y.size)++news++cur.toList.drop (lo*y.size+news.length)).toArray;have hl':Be M M w (w.setRow g (cur.toList.take (lo*y.size)++news++cur.toList.drop (lo*y.size+news.length)).toArray):=
   ⟨by omega,fun b hb=>hss.block b (S.mlt b hb) (fun e=>(S.oat _ _ hmem g (.inl hg)).2.1 (e ▸ hb)),fun b hb=>hb⟩
  refine⟨goInt m,_,?_,_,hk,env,M,X,(S.write hG hmem hg hss hsz' ?_).put0 (by intro t' ht;cases ht;exact hdn) (.p (.int _ _))⟩
  ·have hmin:min m n=m:=hmx;simp[Builtin.copy_,run_underlying hut,Builtin.lenOf,Builtin.firstCells,EY hi,hs,hmin,hld,hst]
  ·refine⟨hm,fun j hj=>?_,.inr ⟨g,cap',_,hg,hrv,setRow_heap w g cur _ _ _ hh,hnc,hcm,by simp only[List.size_toArray,AhU,AiP,List.length_drop,Array.length_toList,hlen];omega,fun j hj k hk'=>?_⟩⟩
   ·unfold Lz;split
    ·exact hg2 _ (by omega)
    ·exact hgl j hj
   ·unfold Lz;have hjc:=C6 (sz:=y.size) (Ah3 hj hnc) hk';rw[Is cur _ _ (by omega) _ (by omega),hlen]
    by_cases hr:lo<=j/\j<lo+m
    ·have q1:=AhI y.size hr.1;have q2:j*y.size+y.size<=(lo+m)*y.size:=by
      have:=AhI y.size (show j+1<=lo+m by omega);rwa[Aia,Nat.one_mul]at this
     rw[Aia]at q2;rw[if_pos hr,if_pos (by omega),show j*y.size+k-lo*y.size=(j-lo)*y.size+k by rw[Nat.sub_mul];omega];have q3:=C6 (sz:=y.size) (i:=j-lo) (len:=m) (by omega) hk';refine⟨hone _ ?_,(hd2 (j-lo) (by omega) k hk').later (by rw[hlen]at hl';exact hl')⟩;rw[AS,Ahz (by omega)];exact AhX _
    ·have hne : ¬ (lo*y.size<=j*y.size+k/\j*y.size+k<lo*y.size+m*y.size):=by
      intro hx;rcases Aio j lo with h5|h5
      ·have:=AhI y.size (show j+1<=lo by omega);rw[Aia]at this;omega
      ·have:=AhI y.size (show lo+m<=j by omega);rw[Aia]at this;omega
     rw[if_neg hr,if_neg hne];exact⟨(hd j hj k hk').1,(hd j hj k hk').2.later (by rw[hlen]at hl';exact hl')⟩
theorem TB (S:Al P G st a w env M X) {d:Nat} {t:TypeId} {neg:Bool} {x y:EV} {K:St->Prop} (h:MU P st d t neg x y K) (hd:d<st.nt) {u v:Value} (hu:Ap P M w env x u) (hv:Ap P M w env y v) (p q:Operand) :
  ∃r,((do eqGuard (if neg then .neq else .eql) t p q u v;binOp (if neg then .neq else .eql) t u v):Sem Value).run P w=.ok r w/\∃st',K st'/\AO P G st' (a.put (some d) r) w:=by
 unfold MU at h;split at h
 ·rename_i e sz n get hu';rcases hu with ⟨hu⟩;rcases hv with ⟨hv⟩;cases hv;cases hu with
  |sl _ _ _ A cap vs hcap hm hA hg ho hden =>
  have hE:(Op.equal t (.slice A n cap) (.slice none 0 0)).run P w=.ok A.isNone w:=by
   have:∀d,(Op.equalIn (d+1) t (.slice A n cap) (.slice none 0 0)).run P w=.ok A.isNone w:=fun d=>by
    cases A<;>simp[Op.equalIn,run_underlying hu']
   exact this 9999
  have hg0:∀op,(eqGuard op t p q (.slice A n cap) (.slice none 0 0)).run P w=.ok () w:=fun op=>by cases op<;>simp[eqGuard]
  have r1:((do eqGuard .eql t p q (.slice A n cap) (.slice none 0 0);binOp .eql t (.slice A n cap) (.slice none 0 0)):Sem Value).run P w=.ok (.bool A.isNone) w:=by
   simp only[Sem.run_bind,hg0,Result.andThen_ok,binOp,hE,Sem.run_pure]
  have r2:((do eqGuard .neq t p q (.slice A n cap) (.slice none 0 0);binOp .neq t (.slice A n cap) (.slice none 0 0)):Sem Value).run P w=.ok (.bool (!A.isNone)) w:=by
   simp only[Sem.run_bind,hg0,Result.andThen_ok,binOp,hE,Sem.run_pure]
  have h0:A.isNone=true->n=0:=(by grind);cases neg with
  |false=>exact⟨_,r1,_,(by grind),env,M,X,S.put0 (by grind) (.p (.bool _))⟩
  |true=>exact⟨_,r2,_,(by grind),env,M,X,S.put0 (by grind) (.p (.bool _))⟩
 ·rename_i e sz n get hu';rcases hv with ⟨hv⟩;cases hv;cases hu with
  |@full q0 _ _ _ A cap hu hq =>
  have hE:(Op.equal t (.slice A n cap) (.slice none 0 0)).run P w=.ok A.isNone w:=by
   have:∀d,(Op.equalIn (d+1) t (.slice A n cap) (.slice none 0 0)).run P w=.ok A.isNone w:=fun d=>by
    cases A<;>simp[Op.equalIn,run_underlying hu']
   exact this 9999
  have hg0:∀op,(eqGuard op t p q (.slice A n cap) (.slice none 0 0)).run P w=.ok () w:=fun op=>by cases op<;>simp[eqGuard]
  have r1:((do eqGuard .eql t p q (.slice A n cap) (.slice none 0 0);binOp .eql t (.slice A n cap) (.slice none 0 0)):Sem Value).run P w=.ok (.bool A.isNone) w:=by
   simp only[Sem.run_bind,hg0,Result.andThen_ok,binOp,hE,Sem.run_pure]
  have r2:((do eqGuard .neq t p q (.slice A n cap) (.slice none 0 0);binOp .neq t (.slice A n cap) (.slice none 0 0)):Sem Value).run P w=.ok (.bool (!A.isNone)) w:=by
   simp only[Sem.run_bind,hg0,Result.andThen_ok,binOp,hE,Sem.run_pure]
  have h0:A.isNone=decide (n=0):=by
   rcases Nat.eq_zero_or_pos n with h|h
   ·grind
   ·cases hu with
    |sl _ _ _ _ _ vs hcap hm hA hg ho hden =>
    grind
  rw[h0]at r1 r2;cases neg with
  |false=>exact⟨_,r1,_,h,env,M,X,S.put0 (by grind) (.p (.bool _))⟩
  |true=>exact⟨_,r2,_,h,env,M,X,S.put0 (by grind) (.p (.bool _))⟩
 grind
theorem TC (hG:Br G) {C:Aj} (hC:EB P G C) (S:Al P G st a w env M X) {gd:gdT} (hgd:EL a gd) (hh:CB gd) {o:Oper} (hd:∀t,o.dst=some t->t<st.nt) (hq:∀q c x,gd=some (q,c,x)->o.dst≠some q)
  {K:St->Prop} (h:L0 P C st gd o K) {N:Act->World->Prop} (hN:∀st' a' w',K st'->AO P G st' a' w'->N a' w'):GN P a o w N:=by
 obtain⟨dst,op,ty,pos,after,guard⟩:=o;simp only at hd hq;unfold L0 at h;simp only at h;split at h
 ·-- alloc
  rename_i t d;split at h
  ·rename_i y hy;split at h
   ·obtain⟨st',hk,hs⟩:=rO hG S (hd _ rfl) h;refine⟨fun c hc=>by simp at hc,.inl ⟨_,_,?_,hN _ _ _ hk hs⟩⟩;simp only[execOp];exact F7 (by rw[Pw hy])
   obtain⟨st',hk,hs⟩:=SN hG S hgd hh (hd _ rfl) (fun q c x hx=>hq q c x hx) h (vs:=y.zero.cells.toList) (by simp) (fun i hi=>by
    have:=Je (P:=P) (env:=env) (Gw (M:=M) (w:=w) y.zero.cells.toList) i (by simpa using hi);rw[Aiy]at this;exact this)
   refine⟨fun c hc=>by simp at hc,.inl ⟨_,_,?_,hN _ _ _ hk hs⟩⟩;simp only[execOp];exact F7 (by rw[Pw hy])
  ·exact h.elim
 ·-- box
  rename_i t x d;split at h
  ·rename_i e he;have hv:=Bc S hgd hh he;have hone:(BS e).all CW=true:=by
    unfold newVar at h;split at h
    ·assumption
    ·exact h.elim
   obtain⟨c1,c2⟩:=MO hv hone;obtain⟨st',hk,hs⟩:=SN hG S hgd hh (hd _ rfl) (fun q c x hx=>hq q c x hx) h c1 c2;refine⟨fun c hc=>by simp at hc,.inl ⟨_,_,?_,hN _ _ _ hk hs⟩⟩;simp only[execOp];exact F7 (by rw[SR])
  ·exact h.elim
 ·-- store
  rename_i t p x;split at h
  ·rename_i y ep ex hy hp hx;split at h
   ·rename_i ps st' hst;obtain⟨h1,h2⟩:=BD h;obtain⟨w',hr,S'⟩:=Pv hG S hy hst h1 (Bc S hgd hh hp) (Bc S hgd hh hx);refine⟨fun c hc=>by simp at hc,.inr (.inl ⟨w',?_,hN _ _ _ h2 ⟨_,_,_,S'⟩⟩)⟩;simp only[execOp];exact L7 hr
   ·exact h.elim
  ·exact h.elim
 ·-- buildSlice
  rename_i t len parts d;split at h
  ·rename_i e l hu hl;split at h
   ·rename_i y hy;split at h
    ·rename_i cs hcs;split at h
     ·rename_i hc;obtain⟨hle,hsz,hzs,hone⟩:=hc;obtain⟨q1,q2⟩:=MM (P:=P) (env:=env) (fun x e hx=>Bc S hgd hh hx) _ _ hl;obtain⟨cells,r1,r2⟩:=Lq (M:=M) (w:=w) (fun i=>some (i*y.size,y.size)) l _ q1 q2 _ _ ((Ah5 (len*y.size)).map fun k=>y.zero.cells.getD (k % y.size) undef) (by
       have:=Gw (M:=M) (w:=w) ((Ah5 (len*y.size)).map fun k=>y.zero.cells.getD (k % y.size) undef);rw[Aiy]at this;exact this) hcs
      have h1:∀v,v∈cells->v.oneCell'=true:=fun v hv=>by
       obtain⟨i,hi,rfl⟩:=AhR hv;have hi':i<cs.length:=by have:=r2.1;omega
       have a1:CW (.p cs[i])=true:=AhC.1 hone _ (AhX hi');have a2:=r2.2 i hi';rw[show SV.at cs i=cs[i]by simp[SV.at,AS,hi']]at a2;rw[AS,Ahz hi,Aix]at a2;exact Ka a1 a2
      have hcl:cs.length=len*y.size:=by
       have:∀(pl:Nat->Option (Nat×Nat)) (ps:List (Nat×SV)) (c0 c1:List SV),FK pl c0 ps=some c1->c1.length=c0.length:=by
        intro pl ps
        induction ps with
        |nil=>intro c0 c1 h;simp[FK]at h;rw[h]
        |cons p ps ih =>
          intro c0 c1 h;obtain⟨i,s⟩:=p;simp only[FK]at h;split at h
          ·cases h
          ·split at h
           ·rw[ih _ _ h,MY]
           ·cases h
       rw[this _ _ _ _ hcs];simp
      have hmax:len<=maxLen:=by
       have:len<=len*y.size:=Nat.le_mul_of_pos_right len hsz;unfold maxLen;omega
      have hrun:=Px (P:=P) (w:=w) hu hy hle hzs (parts:=parts.map fun(i,x)=>(i,a.eval x)) (cells:=cells) (by rw[<- r1];simp);refine⟨fun c hc=>by simp at hc,.inl ⟨_,_,by simp only[execOp];exact F7 hrun,?_⟩⟩;split at h
      ·split at h
       ·split at h
        ·rename_i hn;obtain⟨env',X',S',hrv⟩:=MZ hG S (hd d rfl) hn (e:=e) (cur:=cells.toArray) (n:=len) (cap:=len) (sz:=y.size) (get:=AD cs y.size) (by have:=r2.1;simp;omega) (Ah0 _) hmax (fun i hi=>SS hcl i hi) (fun i hi j hj=>by
          have:=C6 (sz:=y.size) hi hj;have hgd':(cells.toArray.getD (i*y.size+j) undef)=cells.getD (i*y.size+j) undef:=by simp[LS,AS]
          rw[hgd',SU _ _ _ _ hj];refine⟨?_,r2.2 _ (by omega)⟩;have hlen:=r2.1;rw[AS,Ahz (by omega)];exact h1 _ (AhX _))
         exact hN _ _ _ h ⟨_,_,_,S'.put0 hd (.row hrv)⟩
        ·exact h.elim
       ·exact h.elim
      ·obtain⟨M',X',S',hden⟩:=SX hG S (e:=e) r2 h1 hcl hmax;refine hN _ _ _ h ⟨_,_,_,S'.putG hgd hd hq (fun _=>.p ?_) (fun hn=>absurd hh hn)⟩;split
       ·rename_i hl1;subst hl1;refine hden.congr_sl (fun i hi=>?_);have:i=0:=by omega
        subst this;simp only[AD,Nat.zero_mul,List.drop_zero];rw[List.take_of_length_le (by omega)]
       ·exact hden
     ·exact h.elim
    ·exact h.elim
   ·exact h.elim
  ·split at h
   ·rename_i x hpt _;split at h
    ·rename_i q hx;have hparts:parts = #[(0,x)]:=by apply AhY;simpa using hpt
     subst hparts;obtain⟨v',w',hrun,st',hk,hs'⟩:=rL hG S h (hd _ rfl) (Bc S hgd hh hx);exact⟨fun c hc=>by simp at hc,.inl ⟨v',w',by simp only[execOp];exact F7 (by simpa using hrun),hN _ _ _ hk hs'⟩⟩
    ·exact h.elim
   ·exact h.elim
  ·exact h.elim
 ·-- makeSlice
  rename_i t l c d;split at h
  ·rename_i e k1 n k2 m hu hl hc;split at h
   ·rename_i y hy;split at h
    ·rename_i hcd;obtain⟨hsz,hzs,hb,hone,hn⟩:=hcd;obtain⟨h1,h2⟩:=BD h;obtain⟨p1,p2,p3⟩:=AC h1;obtain⟨i,hi,hz,hs,hby,_⟩:=CV hy;have el:=Bc S hgd hh hl;have ec:=Bc S hgd hh hc;rcases el with ⟨el⟩;rcases ec with ⟨ec⟩;generalize hel:a.eval l=vl at el;generalize hec:a.eval c=vc at ec;cases el;cases ec;have hmb:m<=140737488355328:=by
      have:m*1<=m*(y.bytes:Int):=Int.mul_le_mul_of_nonneg_left (by omega) (by omega);omega
     have hrun:=run_make (P:=P) w t e i y.zero hu hi hz k1 k2 n m p1 p2 (by rw[hby,Int.mul_comm];omega) (by omega);rw[hs]at hrun;have hcur:∀k,k<m.toNat*y.size->(madeCells y.zero.cells (m.toNat*y.size)).getD k undef=y.zero.cells.getD (k % y.size) undef:=fun k hk=>by
      have hmod:k % y.size<y.zero.cells.size:=by rw[hzs];exact AiX _ hsz
      simp only[madeCells,LS];simp[hk,hzs,getElem!_pos y.zero.cells (k % y.size) hmod];rw[Ah1 hmod];rfl
     obtain⟨env',X',S',hrv⟩:=MZ hG S (hd d rfl) hn (e:=e) (cur:=madeCells y.zero.cells (m.toNat*y.size)) (n:=n.toNat) (cap:=m.toNat) (sz:=y.size) (get:=fun _=>y.zero.cells.toList.map Cx) (size_madeCells _ _) (by omega) (by unfold maxLen;omega) (fun i hi=>by simpa using hzs) (fun i hi j hj=>by
      have:=C6 (sz:=y.size) (len:=m.toNat) (i:=i) (by omega) hj;rw[hcur _ this];have hmod:(i*y.size+j) % y.size=j:=by rw[Nat.mul_comm,Nat.mul_add_mod,Nat.mod_eq_of_lt hj]
      rw[hmod];have hj':j<y.zero.cells.size:=by omega
      have hd':=(Gw (M:=M) (w:=w) y.zero.cells.toList).2 j (by simpa using hj');rw[LS,Ah1 hj'];rw[AS,Ahz (by simpa using hj')]at hd';simp only[Aix,Array.getElem_toList]at hd' ⊢;exact⟨by have:=Array.all_eq_true.1 hone j hj';simpa using this,hd'⟩)
     refine⟨fun c hc=>by simp at hc,.inl ⟨_,_,by simp only[execOp,hel,hec];exact F7 hrun,?_⟩⟩;exact hN _ _ _ h2 ⟨_,_,_,S'.put0 hd (.row hrv)⟩
    ·exact h.elim
   ·exact h.elim
  ·exact h.elim
 ·-- a new map
  rename_i t d;split at h
  ·rename_i kt e ht;split at h
   ·rename_i hn;refine⟨fun c hc=>by simp at hc,.inl ⟨_,_,?_,hN _ _ _ h (qS hG S (hd _ rfl) hn _ _ _ _)⟩⟩;simp only[execOp];exact F7 rfl
   ·exact h.elim
  ·exact h.elim
 ·-- a map is written
  rename_i t m k v;split at h
  ·rename_i em ek hm hk;obtain⟨w',st',hr,hk',hs⟩:∃w' st',(Instr.mapUpdate t (a.eval m) (a.eval k) (a.eval v)).run P w=.ok () w'/\K st'/\AO P G st' a w':=by
    split at h
    ·split at h
     ·rename_i ev hv;split at h
      ·rename_i em' ek' ev' hm' hk' hv';obtain⟨M',S'⟩:=qZ S ev;exact qV hG S' h (Bc S' hgd hh hm') (Bc S' hgd hh hk') (Bc S' hgd hh hv')
      ·exact h.elim
     ·exact h.elim
    ·split at h
     ·split at h
      ·rename_i ev hv;exact rI hG S h (Bc S hgd hh hm) (Bc S hgd hh hk) (Bc S hgd hh hv)
      ·exact h.elim
     ·exact qR hG S h (Bc S hgd hh hm) (Bc S hgd hh hk) (a.eval v)
   refine⟨fun c hc=>by simp at hc,.inr (.inl ⟨w',?_,hN _ _ _ hk' (by
    obtain⟨env',M',X',S'⟩:=hs;exact⟨env',M',X',S'.put0 (d:=none) (e:=.any) (by simp) .any⟩)⟩)⟩
   simp only[execOp];exact L7 hr
  ·exact h.elim
 ·-- a map is read
  rename_i t m k co d;split at h
  ·rename_i em ek hm hk;obtain⟨s,u,hr,hs,hk'⟩:∃s u,(Instr.lookup t (a.eval m) (a.eval k) co).run P w=.ok u w/\Ax M w s u/\K (st.put (some d) ⟨none,.p s⟩):=by
    split at h
    ·exact rG S h (Bc S hgd hh hm) (Bc S hgd hh hk)
    ·exact qW S h (Bc S hgd hh hm) (Bc S hgd hh hk)
   refine⟨fun c hc=>by simp at hc,.inl ⟨u,w,?_,hN _ _ _ hk' ⟨env,M,X,S.put0 (fun t ht=>by cases ht;exact hd _ rfl) (.p hs)⟩⟩⟩;simp only[execOp];exact F7 hr
  ·exact h.elim
 ·-- append
  rename_i args ts d;split at h
  ·rename_i s x t t' hargs hts;split at h
   ·rename_i htt;subst htt;split at h
    ·rename_i es ex hs hx;have hargs:args = #[s,x]:=by apply AhY;simpa using hargs
     have hts:ts = #[t,t]:=by apply AhY;simpa using hts
     subst hargs hts;obtain⟨v',w',hrun,st',hk,hs'⟩:∃v' w',(Builtin.append_ #[t,t] ty #[a.eval s,a.eval x]).run P w=.ok v' w'/\∃st',K st'/\AO P G st' (a.put (some d) v') w':=by
      split at h
      ·exact rM hG S h (hd _ rfl) (Bc S hgd hh hs) (Bc S hgd hh hx) ty
      ·exact qG hG S h (hd _ rfl) (Bc S hgd hh hs) (Bc S hgd hh hx) ty
     refine⟨fun c hc=>by simp at hc,.inl ⟨v',w',?_,hN _ _ _ hk hs'⟩⟩;simp[execOp,resolve,invoke,builtin,hrun]
    ·exact h.elim
   ·split at h
    ·rename_i es ex hs hx;have hargs:args = #[s,x]:=by apply AhY;simpa using hargs
     have hts:ts = #[t,t']:=by apply AhY;simpa using hts
     subst hargs hts;obtain⟨v',w',hrun,st',hk,hs'⟩:=qJ hG S h (hd _ rfl) (Bc S hgd hh hs) (Bc S hgd hh hx) ty;refine⟨fun c hc=>by simp at hc,.inl ⟨v',w',?_,hN _ _ _ hk hs'⟩⟩;simp[execOp,resolve,invoke,builtin,hrun]
    ·exact h.elim
  ·exact h.elim
 ·-- clear
  rename_i args ts;split at h
  ·rename_i x t hargs hts;split at h
   ·rename_i ex hx;have hargs:args = #[x]:=by apply AhY;simpa using hargs
    have hts:ts = #[t]:=by apply AhY;simpa using hts
    subst hargs hts;obtain⟨w',hrun,st',hk,hs'⟩:=rP hG S h (Bc S hgd hh hx) ty;refine⟨fun c hc=>by simp at hc,.inl ⟨_,w',?_,hN _ _ _ hk hs'⟩⟩;simp[execOp,resolve,invoke,builtin,hrun]
   ·exact h.elim
  ·exact h.elim
 ·-- copy
  rename_i args ts dd;split at h
  ·rename_i s x t t' hargs hts;split at h
   ·rename_i es ex hs hx;have hargs:args = #[s,x]:=by apply AhY;simpa using hargs
    have hts:ts = #[t,t']:=by apply AhY;simpa using hts
    subst hargs hts;obtain⟨r,w',hrun,st',hk,hs'⟩:=rQ (t':=t') hG S h (hd _ rfl) (Bc S hgd hh hs) (Bc S hgd hh hx) ty;refine⟨fun c hc=>by simp at hc,.inl ⟨r,w',?_,hN _ _ _ hk hs'⟩⟩;simp[execOp,resolve,invoke,builtin,hrun]
   ·exact h.elim
  ·exact h.elim
 ·-- against nil
  rename_i t x y q d;split at h
  ·rename_i ex ey hx hy;obtain⟨v,hrun,st',hk,hs'⟩:=TB S h (hd _ rfl) (Bc S hgd hh hx) (Bc S hgd hh hy) x y;refine⟨fun c hc=>by simp at hc,.inl ⟨v,w,?_,hN _ _ _ hk hs'⟩⟩;simp only[execOp];exact F7 hrun
  ·exact h.elim
 ·rename_i t x y q d;split at h
  ·rename_i ex ey hx hy;obtain⟨v,hrun,st',hk,hs'⟩:=TB S h (hd _ rfl) (Bc S hgd hh hx) (Bc S hgd hh hy) x y;refine⟨fun c hc=>by simp at hc,.inl ⟨v,w,?_,hN _ _ _ hk hs'⟩⟩;simp only[execOp];exact F7 hrun
  ·exact h.elim
 ·-- a method's value
  rename_i f first caps d;split at h
  ·rename_i pre res ss hf hss;split at h
   ·rename_i hcaps;have hl:=T9 (P:=P) (M:=M) (w:=w) (env:=env) (a:=a) (ρ:=st.rho none) (fun x e hx=>Bc S hgd hh hx) hss;have hcaps':caps = #[]:=Array.eq_empty_of_size_eq_zero hcaps;subst hcaps';have hfn:=pY hC.1 hf hl;refine⟨fun c hc=>by simp at hc,.inl ⟨.func (.func f) (first.toList.map a.eval).toArray #[],w,?_,hN _ _ _ h ⟨_,_,_,S.put0 (by intro t' ht;cases ht;exact hd _ rfl) (.fn hfn)⟩⟩⟩;have hfirst:first.map a.eval=(first.toList.map a.eval).toArray:=by apply AhY;simp
    simp only[execOp];exact F7 (by rw[hfirst];simp[Instr.makeFunc])
   ·exact h.elim
  ·exact h.elim
 ·-- a call
  rename_i f args ts;split at h
  ·rename_i g caps ps as lent hf hargs;split at h
   ·rename_i sp hsp;rw[pD hf hsp]at hargs;obtain⟨hsok,hen⟩:=hC.1 _ _ hsp;have hfd:=Bc S hgd hh hf;rcases hfd with ⟨hfd⟩;generalize hev:a.eval f=vf at hfd;cases hfd with
    |clo _ _ cvs hcl hcd =>
    have hps:all ps:=by
     cases sp<;>simp only[Gd]at h<;>have:=(BD h).1<;>exact(all_append (Ge this hh)).1
    have hA:=Kc hC.1 S (fun x e hx=>Bc S hgd hh hx) _ _ _ _ _ hargs hps (L:=lent) (fun r hr=>hr);have hA':=SZ hA (Ta (M':=D8 M env lent) (w:=w) (ss:=caps) (vs:=cvs) ⟨hcl,fun i hi=>(hcd i hi).weak (fun b hb=>.inl hb)⟩);have hown:=LC _ _ _ _ _ hargs;have:=qB hG S hgd hh hd hq h hA' (Nc S hown) hsok hown;refine⟨fun c hc=>by simp at hc,.inr (.inr (.inl ⟨g,_,w,Jq rfl hev hen,?_⟩))⟩;have hargsEq:args.map a.eval++cvs.toArray=(args.toList.map a.eval++cvs).toArray:=by apply AhY;simp
    rw[hargsEq];exact Gg this fun e w' ⟨v,he,st',hk,hs⟩=>⟨v,he,hN _ _ _ hk hs⟩
   ·split at h
    ·rename_i tr as' htr has;have h:=No h hh;obtain⟨hT,hen⟩:=hC.2.2.2.1 g tr htr;have hfd:=Bc S hgd hh hf;rcases hfd with ⟨hfd⟩;generalize hev:a.eval f=vf at hfd;cases hfd with
     |clo _ _ cvs hcl hcd =>
     obtain⟨r1,r2⟩:=Ki (P:=P) (M:=M) (w:=w) (env:=env) (a:=a) (ρ:=st.rho gd) (fun x e hx=>Bc S hgd hh hx) has;obtain⟨q1,q2⟩:=Ni r1 r2 (bs:=caps.map .p) (by simpa using hcl) (Je ⟨hcl,hcd⟩);have hc:=Tk hG S hd q1 q2 hT h hN;refine⟨fun c hc=>by simp at hc,.inr (.inr (.inl ⟨g,_,w,Jq rfl hev hen,?_⟩))⟩;have hargsEq:args.map a.eval++cvs.toArray=(args.toList.map a.eval++cvs).toArray:=by apply AhY;simp
     rw[hargsEq];exact hc
    ·rename_i as' htr has;split at h
     ·rename_i mk hmk;have h:=No h hh;obtain⟨hT,hen⟩:=hC.2.2.2.2.1 g mk hmk;have hfd:=Bc S hgd hh hf;rcases hfd with ⟨hfd⟩;generalize hev:a.eval f=vf at hfd;cases hfd with
      |clo _ _ cvs hcl hcd =>
      obtain⟨r1,r2⟩:=Ki (P:=P) (M:=M) (w:=w) (env:=env) (a:=a) (ρ:=st.rho gd) (fun x e hx=>Bc S hgd hh hx) has;obtain⟨q1,q2⟩:=Ni r1 r2 (bs:=caps.map .p) (by simpa using hcl) (Je ⟨hcl,hcd⟩);have hc:=Tt hG S hd q1 q2 hT h hN;refine⟨fun c hc=>by simp at hc,.inr (.inr (.inl ⟨g,_,w,Jq rfl hev hen,?_⟩))⟩;have hargsEq:args.map a.eval++cvs.toArray=(args.toList.map a.eval++cvs).toArray:=by apply AhY;simp
      rw[hargsEq];exact hc
     ·exact h.elim
    ·exact h.elim
  ·-- a closure with own blocks
   rename_i g caps hf;split at h
   ·rename_i tr as htr has;have h:=No h hh;obtain⟨hT,hen⟩:=hC.2.2.2.1 g tr htr;have hfd:=Bc S hgd hh hf;generalize hev:a.eval f=vf at hfd;cases hfd with
    |cl _ _ cvs hcl hcd =>
    obtain⟨r1,r2⟩:=Ki (P:=P) (M:=M) (w:=w) (env:=env) (a:=a) (ρ:=st.rho gd) (fun x e hx=>Bc S hgd hh hx) has;obtain⟨q1,q2⟩:=Ni r1 r2 hcl hcd;have hc:=Tk hG S hd q1 q2 hT h hN;refine⟨fun c hc=>by simp at hc,.inr (.inr (.inl ⟨g,_,w,Jq rfl hev hen,?_⟩))⟩;have hargsEq:args.map a.eval++cvs.toArray=(args.toList.map a.eval++cvs).toArray:=by apply AhY;simp
    rw[hargsEq];exact hc
   ·rename_i as htr has;split at h
    ·rename_i mk hmk;have h:=No h hh;obtain⟨hT,hen⟩:=hC.2.2.2.2.1 g mk hmk;have hfd:=Bc S hgd hh hf;generalize hev:a.eval f=vf at hfd;cases hfd with
     |cl _ _ cvs hcl hcd =>
     obtain⟨r1,r2⟩:=Ki (P:=P) (M:=M) (w:=w) (env:=env) (a:=a) (ρ:=st.rho gd) (fun x e hx=>Bc S hgd hh hx) has;obtain⟨q1,q2⟩:=Ni r1 r2 hcl hcd;have hc:=Tt hG S hd q1 q2 hT h hN;refine⟨fun c hc=>by simp at hc,.inr (.inr (.inl ⟨g,_,w,Jq rfl hev hen,?_⟩))⟩;have hargsEq:args.map a.eval++cvs.toArray=(args.toList.map a.eval++cvs).toArray:=by apply AhY;simp
     rw[hargsEq];exact hc
    ·exact h.elim
   ·exact h.elim
  ·rename_i sp ps as lent hf hargs;rw[pE hf]at hargs;split at h
   ·rename_i ss hss;have hfd:=Bc S hgd hh hf;generalize hev:a.eval f=vf at hfd;cases hfd with
    |fn hfn =>
    obtain⟨g,first,caps,rfl,hen,hcall⟩:=hfn;have hps:all ps:=by
     simp only[Gd]at h;have:=(BD h).1;exact(all_append (Ge this hh)).1
    have hA:=Kc hC.1 S (fun x e hx=>Bc S hgd hh hx) _ _ _ _ _ hargs hps (L:=lent) (fun r hr=>hr);have hown:=LC _ _ _ _ _ hargs;have hlt:=Nc (env:=env) S hown
    -- the contract of the value,as a contract of 'g' at these arguments
    simp only[Gd]at h;obtain⟨h1,h2⟩:=BD h;have h1:=Ge h1 hh;have hp:sp.pre ss:=by
     have:=h1 _ (AhG.2 (.inr (Ah9.2 rfl)));simp only[hss]at this;exact this
    simp only[hss]at h2;have hlat:Be M (D8 M env lent) w w:=⟨Ah0 _,fun _ _=>rfl,fun b hb=>.inl hb⟩;have hdl:By (D8 M env lent) w ss (args.toList.map a.eval):=by
     have:=HF hss;subst this;refine⟨by simpa using hA.1,fun i hi=>?_⟩;have:=(hA.2 i (by simpa using hi)).2;rw[Gv _ _ hi]at this;rcases this with ⟨this⟩;exact this
    have hc:=hcall _ w hlat hlt ss _ hdl hp;refine⟨fun c hc=>by simp at hc,.inr (.inr (.inl ⟨g,_,w,T8 rfl hev hen,?_⟩))⟩;have hargsEq:first++args.map a.eval++caps=first++(args.toList.map a.eval).toArray++caps:=by congr 2;apply AhY;simp
    rw[hargsEq];refine Gg hc fun e w' hg=>?_;split at h2
    ·rename_i hL;obtain⟨v,rfl,hs⟩:=LD hG S hgd hh hd hq hL hg;exact⟨v,rfl,hN _ _ _ h2 hs⟩
    ·exact h2.elim
   ·exact h.elim
  ·-- yield
   rename_i l ps as lent hf hargs;rw[pF hf]at hargs;split at h
   ·rename_i y ss hy hss;split at h
    ·rename_i hc;simp only[pR]at hc;obtain⟨hL,hnm⟩:=hc;have hL:lent = []:=by simpa using hL
     subst hL;obtain⟨h1,h2⟩:=BD h;obtain⟨hps,h3⟩:=all_append h1;have hly:=h3 (l=y.l) (by simp);subst hly;have hlt:=h3 (st.yk<y.cnt) (by simp);have hitem:=h3 (ss=y.item st.yk) (by simp);have hfd:=Bc S hgd hh hf;generalize hev:a.eval f=vf at hfd;cases hfd with
     |yield =>
     have hA:=Kc hC.1 S (fun x e hx=>Bc S hgd hh hx) _ _ _ _ _ hargs hps (L:=[]) (fun r hr=>hr);have hdl:By (fun _=>False) w ss (args.toList.map a.eval):=by
      have:=HF hss;subst this;refine⟨by simpa using hA.1,fun i hi=>?_⟩;have:=(hA.2 i (by simpa using hi)).2;rw[Gv _ _ hi]at this;rcases this with ⟨this⟩;exact Hr this (Hr.noMems_at hnm i hi)
     obtain⟨fn,tmps,assign,body,hrun,hround⟩:=hC.2.1 y hy st.yk X w _ hlt S.gam.1 S.xlt (hitem ▸ hdl);refine⟨fun c hc=>by simp at hc,.inr (.inr (.inr ⟨y.l,fn,tmps,assign,body,w,?_,Kb hround fun e w' ⟨b,he,q1,q2,q3⟩=>⟨_,he,?_⟩⟩))⟩
     ·have e1:args.map a.eval=(args.toList.map a.eval).toArray:=by apply AhY;simp
      simp only[execOp,resolve,hev,Deferred.ofValue,Sem.run_bind,Sem.run_pure,Result.andThen_ok,invoke,e1];simpa using hrun
     ·cases b with
      |true =>
        refine hN _ _ _ h2.1 ⟨env,M,X,?_⟩;exact(S.yielded q1 (fun c hc h=>q2 c hc (h.imp (fun h=>⟨rfl,h⟩) id)) q3).put0 hd (.p (.bool true))
      |false =>
        refine hN _ _ _ h2.2 ⟨env,fun _=>False,X,?_⟩;exact(S.yieldedF q1 (fun c hc h=>q2 c hc (.inr h)) q3).put0 hd (.p (.bool false))
    ·exact h.elim
   ·exact h.elim
  ·exact h.elim
 ·exact h.elim
theorem TD {C:Aj} (S:Al P G st a w env M X) {gd:gdT} (hgd:EL a gd) (hh:¬ CB gd) {o:Oper} (hd:∀t,o.dst=some t->t<st.nt) (hq:∀q c x,gd=some (q,c,x)->o.dst≠some q)
  {K:St->Prop} (h:L0 P C st gd o K):∃st',K st'/\AO P G st' (a.put o.dst undef) w:=by
 have fin:∀e:EV,AO P G (st.put o.dst ⟨gd,e⟩) (a.put o.dst undef) w:=fun e=>⟨_,_,_,S.putG hgd hd hq (fun h=>absurd h hh) (fun _=>rfl)⟩;have hsome:∃q c x,gd=some (q,c,x):=by
  cases gd with
  |none=>exact absurd trivial hh
  |some gd=>obtain⟨q,c,x⟩:=gd;exact⟨q,c,x,rfl⟩
 obtain⟨q,c,x,rfl⟩:=hsome;have hx:x=false:=by cases x;rfl;exact absurd rfl hh
 obtain⟨dst,op,ty,pos,after,guard⟩:=o;simp only at hd hq fin;unfold L0 at h;simp only at h;have call:∀{sides:List Prop} {args:List EV} {L:List Nat} {sp:Spec},Gd C st (some (q,c,x)) dst sides args L sp K->∃st',K st'/\AO P G st' (a.put dst undef) w:=by
  intro sides args L sp h;cases sp with
  |fn pre res =>
    simp only[Gd]at h;have h2:=(BD h).2;split at h2
    ·exact⟨_,h2,fin _⟩
    ·exact h2.elim
  |rel T t0 pre post res =>
    simp only[Gd]at h;have h2:=(BD h).2 t0 (by simp[JX,hx]);split at h2
    ·exact⟨_,h2,fin _⟩
    ·exact h2.elim
  |fresh T t0 pre post e0 sz n get =>
    simp only[Gd]at h;have h20:=(BD h).2 t0 (by simp[JX,hx]);have h2:=(BD h20).2;clear h20;split at h2
    ·exact⟨_,h2,fin (.p (.raw undef))⟩
    ·split at h2
     ·exact h2.elim
     ·exact⟨_,h2,fin _⟩
 split at h
 ·split at h
  ·split at h
   ·simp[MQ]at h
   unfold newVar at h;simp at h
  ·exact h.elim
 ·split at h
  ·unfold newVar at h;split at h
   ·split at h
    ·exact h.elim
    ·split at h
     ·exact⟨_,h,fin _⟩
     ·exact h.elim
   ·exact h.elim
  ·exact h.elim
 ·exact h.elim
 ·split at h
  ·split at h
   ·split at h
    ·split at h
     ·split at h
      ·exact h.elim
      ·exact⟨_,h,fin _⟩
     ·exact h.elim
    ·exact h.elim
   ·exact h.elim
  ·exact h.elim
  ·exact h.elim
 ·exact h.elim
 ·exact h.elim
 ·exact h.elim
 ·exact h.elim
 ·exact h.elim
 ·exact h.elim
 ·exact h.elim
 ·exact h.elim
 ·exact h.elim
 ·exact h.elim
 ·split at h
  ·split at h
   ·exact call h
   ·split at h
    ·exact⟨_,h.2 hx,fin _⟩
    ·split at h
     ·exact⟨_,h.2 hx,fin _⟩
     ·exact h.elim
    ·exact h.elim
  ·split at h
   ·exact⟨_,h.2 hx,fin _⟩
   ·split at h
    ·exact⟨_,h.2 hx,fin _⟩
    ·exact h.elim
   ·exact h.elim
  ·split at h
   ·exact call h
   ·exact h.elim
  ·exact h.elim
  ·exact h.elim
 ·exact h.elim
theorem TE (hG:Br G) {C:Aj} (hC:EB P G C) (S:Al P G st a w env M X) {gd:gdT} (hgd:EL a gd) (hh:CB gd) {o:Oper} (hd:∀t,o.dst=some t->t<st.nt) (hq:∀q c x,gd=some (q,c,x)->o.dst≠some q)
  {K:St->Prop} (h:L3 P C st gd o K) {N:Act->World->Prop} (hN:∀st' a' w',K st'->AO P G st' a' w'->N a' w'):GN P a o w N:=by
 obtain⟨dst,op,ty,pos,after,guard⟩:=o;simp only at hd hq;unfold L3 at h;simp only at h;split at h
 ·rename_i t l c d;obtain⟨v,w',hr,st',hk,hs⟩:=rC hG S (hd d rfl) h;exact⟨fun c hc=>by simp at hc,.inl ⟨v,w',by simp only[execOp];exact F7 hr,hN _ _ _ hk hs⟩⟩
 ·rename_i t p x;split at h
  ·rename_i r i A hp hx;obtain⟨w',hr,st',hk,hs⟩:=rD hG S h (Bc S hgd hh hp) (Bc S hgd hh hx);obtain⟨e,M',X',S'⟩:=hs;exact⟨fun c hc=>by simp at hc,.inr (.inl ⟨w',by simp only[execOp];exact L7 hr,hN _ _ _ hk ⟨e,M',X',S'⟩⟩)⟩
  ·exact h.elim
 ·rename_i f args _;split at h
  ·rename_i g bs i as hf has;split at h
   ·rename_i c hc;obtain⟨hT,hen⟩:=hC.2.2.2.2.2 g c hc;have hfd:=Bc S hgd hh hf;rcases hfd with ⟨hfd⟩;generalize hev:a.eval f=vf at hfd;cases hfd with
    |clo _ _ cvs hcl hcd =>
    obtain rfl:cvs = []:=AiS hcl;obtain⟨r1,r2⟩:=Ki (P:=P) (M:=M) (w:=w) (env:=env) (a:=a) (ρ:=st.rho gd) (fun x e hx=>Bc S hgd hh hx) has;obtain⟨v0,vals,hvl⟩:∃v0 vals,args.toList.map a.eval=v0::vals:=by
     cases hx:args.toList.map a.eval with
     |nil=>rw[hx]at r1;simp at r1
     |cons v0 vals=>exact⟨v0,vals,rfl⟩
    rw[hvl]at r1 r2;have hc:=rA hG S hgd hh hd hq hT h (v0:=v0) (by have:=r2 0 (by simp);simpa[EV.at]using this) (vals:=vals) (by simpa using r1) (fun j hj=>by have:=r2 (j+1) (by simpa using hj);simpa[EV.at]using this) hN;refine⟨fun c hc=>by simp at hc,.inr (.inr (.inl ⟨g,_,w,Jq rfl hev hen,?_⟩))⟩;have hargsEq:args.map a.eval++([]:List Value).toArray=(v0::vals).toArray:=by rw[<- hvl];apply AhY;simp
    rw[hargsEq];exact hc
   ·exact h.elim
  ·exact h.elim
 ·exact h.elim
theorem TF {C:Aj} (S:Al P G st a w env M X) {gd:gdT} (hgd:EL a gd) (hh:¬ CB gd) {o:Oper} (hd:∀t,o.dst=some t->t<st.nt) (hq:∀q c x,gd=some (q,c,x)->o.dst≠some q)
  {K:St->Prop} (h:L3 P C st gd o K):∃st',K st'/\AO P G st' (a.put o.dst undef) w:=by
 obtain⟨dst,op,ty,pos,after,guard⟩:=o;simp only at hd hq;unfold L3 at h;simp only at h;split at h
 ·exact absurd trivial hh
 ·exact absurd trivial hh
 ·split at h
  ·split at h
   ·exact rB S hgd hh hd hq h
   ·exact h.elim
  ·exact h.elim
 ·exact h.elim
theorem Iv (hG:Br G) {C:Aj} (hC:EB P G C) {ro:Option Nat} {n:Nat} {ops:Array Oper} {Q:Exit->Act->World->Prop} {K:St->Prop} (hK:∀st a w,K st->AO P G st a w->Q .normal a w) :
  ∀(rest:List Oper) (st:St) (a:Act) (w:World),Fa P C ops rest st K->AO P G st a w->wpListIn (W ro) n P ops Q rest a w
 |[],st,a,w,h,hs=>hK st a w h hs
 |o::rest,st,a,w,h,⟨env,M,X,S⟩=>by
   simp only[Fa]at h;split at h
   ·exact h.elim
   ·rename_i gd hgd0;obtain⟨hgd,hwant⟩:=L4 S hgd0;split at h
    ·rename_i hcheck;have hd:∀t,o.dst=some t->t<st.nt:=fun t ht=>by
      rw[ht]at hcheck;cases gd with
      |none=>simpa[EA]using hcheck
      |some g=>obtain⟨q,c,x⟩:=g;simp[EA]at hcheck;exact hcheck.1
     have hq:∀q c x,gd=some (q,c,x)->o.dst≠some q:=fun q c x hg ht=>by
      rw[ht,hg]at hcheck;simp[EA]at hcheck
     by_cases hw:Region.wanted o (yielded ops a.tmps)=true
     ·have hh:=hwant.1 hw;refine pT hw ?_;split at h
      ·rename_i d t x hi hcut;obtain⟨c1,c2,c3⟩:=Nk hcut;obtain⟨v,st',hr,hk,hs⟩:=To hG S h (hd _ c2);refine⟨fun c hc=>(by rw[c1]at hc;cases hc),.inl ⟨v,w,by simp[execOp,c1,hr],?_⟩⟩;rw[c2];exact Iv hG hC hK rest st' _ _ hk hs
      split at h
      ·exact TE hG hC S hgd hh hd hq h (fun st' a' w' hk hs=>Iv hG hC hK rest st' a' w' hk hs)
      split at h
      ·rename_i ps e hstep;obtain⟨h1,h2⟩:=BD h;obtain⟨u,hr,hden⟩:=L5 S hgd hh hstep (Ge h1 hh) o rfl;refine⟨fun c hc=>?_,.inl ⟨u,w,hr,Iv hG hC hK rest _ _ _ h2 ⟨_,_,_,S.putG hgd hd hq (fun _=>hden) (fun hn=>absurd hh hn)⟩⟩⟩;rw[hc]at hstep;simp[Gb,Il]at hstep
      ·exact TC hG hC S hgd hh hd hq h (fun st' a' w' hk hs=>Iv hG hC hK rest st' a' w' hk hs)
     ·have hh:¬ CB gd:=fun hx=>hw (hwant.2 hx);refine pS hw ?_;split at h
      ·rename_i d t x hi hcut;obtain⟨c1,c2,c3⟩:=Nk hcut;exact absurd trivial (by rw[c3]at hh;exact hh)
      split at h
      ·obtain⟨st',hk,hs⟩:=TF S hgd hh hd hq h;exact Iv hG hC hK rest st' _ _ hk hs
      split at h
      ·rename_i ps e hstep;obtain⟨_,h2⟩:=BD h;exact Iv hG hC hK rest _ _ _ h2 ⟨_,_,_,S.putG hgd hd hq (fun hn=>absurd hn hh) (fun _=>rfl)⟩
      ·obtain⟨st',hk,hs⟩:=TD S hgd hh hd hq h;exact Iv hG hC hK rest st' _ _ hk hs
    ·exact h.elim
end
section
def PF (op:Op):List Nat:=op.operands.toList.filterMap fun x=>match x with | .tmp t=>some t|_=>none
def rR:Op->List Nat
 | .call { callee:=.value (.tmp t),.. }=>[t]
 |_=>[]
def Ht (ops:Array Oper) (o:Oper):List Nat:=match o.guard with
 |some (j,_)=>match ops.toList[j]? with|some oj=>oj.dst.toList|none=>[]
 |none=>[]
def CK (ops:Array Oper) (o:Oper):List Nat:=PF o.op++rR o.op++Ht ops o
def St.only (st:St) (L:List Nat):St:={ st with T:=st.T.filter fun x=>L.contains x.1 }
def LO (P:Program) (C:Aj) (st:St) (gd:gdT) (o:Oper):Option (List Prop×EV):=match o.op with
 | .box _ x=>match o.dst,st.rho gd x with
   |some d,some e=>if (BS e).all CW && !(C.muts.contains d)then(Dc (BS e)).map fun ss=>([],.p (.ref ss 0))else none
   |_,_=>none
 | .buildSlice t len parts=>match P.underlying t,Ik (st.rho gd) parts.toList,o.dst with
   |some (.slice e),some l,some d=>match Bg P e with
     |some y=>match FK (fun i=>some (i*y.size,y.size)) ((Ah5 (len*y.size)).map fun k=>Cx (y.zero.cells.getD (k % y.size) undef)) l with
       |some cs=>if (len*y.size<=16777216/\0<y.size/\y.zero.cells.size=y.size/\cs.all (fun s=>CW (.p s)))/\C.muts.contains d=false then some ([],.p (.sl y.size len (if len=1 then fun _=>cs else AD cs y.size)))else none
       |none=>none
     |none=>none
   |_,_,_=>none
 | .call { callee:=.builtin .append,args:=args,argTypes:=ts }=>match args.toList,ts.toList,gd with
   |[s,x],[t,t'],none=>match P.underlying t,st.rho none s,st.rho none x with
     |some (.slice e),some (.full true sz n get),some ex=>match Bg P e with
       |some y=>match E9 st y.size ex with
         |some (ps,m,get2)=>if t=t'/\sz=y.size/\0<y.size/\0<y.bytes then some (ps ++ [0<m/\(n+m)*y.bytes<=140737488355328],.p (.sl sz (n+m) (AH n get get2)))else none
         |none=>none
       |none=>none
     |_,_,_=>none
   |_,_,_=>none
 | .call { callee:=.value f,args:=args,argTypes:=ts }=>match st.rho gd f,Gc P C st (st.rho gd) args.toList ts.toList with
   |some (.p (.clo g caps)),some (ps,as,lent)=>match C.specs g with
     |some (.fn pre res)=>if lent.isEmpty||D6 (res (as++caps.map .p))then some (ps ++ [pre (as++caps.map .p)],.p (res (as++caps.map .p)))else none
     |_=>none
   |some (.fn sp),some (ps,as,lent)=>match Dc as with
     |some ss=>if lent.isEmpty||D6 (sp.res ss)then some (ps ++ [sp.pre ss],.p (sp.res ss))else none
     |none=>none
   |_,_=>none
 |_=>none
def C7 (P:Program) (o:Oper):List (Nat×Ah):=match o.op,o.dst with
 | .alloc t,some d=>match Bg P t with
   |some y=>[(d,.blk t (y.zero.cells.toList.map fun v=>.p (Cx v)))]
   |none=>[]
 |_,_=>[]
def F9 (P:Program):List Oper->List Nat
 |[]=>[]
 |o::l=>(C7 P o).map (·.1)++F9 P l
def Hu (P:Program):List Oper->List (Nat×Ah)
 |[]=>[]
 |o::l=>C7 P o++Hu P l
def St.add (st:St) (l:List (Nat×Ah)):St:={ st with own:=l++st.own }
def St.forgets (st:St):List Nat->St
 |[]=>st
 |d::ds=>(st.forget d).forgets ds
def FA (o:Oper):Option (TypeId×Nat×Operand):=match o.op,o.dst,o.guard with
 | .store t (.tmp d) x,none,none=>some (t,d,x)
 |_,_,_=>none
def Kk (t:TypeId) (d:Nat) (o:Oper):Bool:=match o.op,o.dst with
 | .alloc t',some d'=>t' == t&&d' == d
 |_,_=>false
def Kl (ops:Array Oper) (d:Nat) (o:Oper):Bool:=(CK ops o).contains d
def Iw (d:Nat) (o:Oper):Bool:=o.dst == some d
def HL (p:Oper->Bool) (l:List Oper):Bool:=(l.filter p).length == 1
def Np (d:Nat) (o:Oper):Bool:=match FA o with|some (_,d',_)=>d' == d|none=>false
def Km (ops:Array Oper) (d:Nat):Option Nat:=(Ah5 ops.size).find? fun i=>match ops.toList[i]? with|some o=>Np d o|none=>false
def Hv (ops:Array Oper) (d:Nat):Bool:=ops.toList.any (Np d)&&(HL (Kl ops d) ops.toList && !(ops.toList.any (Iw d)))
def Kn:Ah->Bool
 | .blk ..=>true
 |_=>false
def PG (ops:Array Oper) (own:List (Nat×Ah)):List (Nat×Ah):=own.filter fun x=>Hv ops x.1&&Kn x.2
def St.minus (st:St) (ops:Array Oper):St:={ st with own:=st.own.filter fun x=>!(Hv ops x.1&&Kn x.2) }
def PH (E:List (Nat×Ah)) (d n:Nat):Bool:=match BL E d with
 |some (.blk _ cs)=>decide (n<=cs.length)
 |_=>false
def Nq (P:Program) (ops:Array Oper) (E:List (Nat×Ah)) (st:St) (o:Oper):Option EV:=match FA o with
 |some (t,d,x)=>match Bg P t,st.rho none (.tmp d),st.rho none x with
   |some y,some (.loc b 0),some ex=>if (b=d/\(BS ex).length=y.size/\y.zero.cells.size=y.size)/\(((ops.toList.any (Kk t d)&&HL (Iw d) ops.toList)||(Hv ops d&&PH E d y.size))&&HL (Kl ops d) ops.toList&&(BS ex).all CW&&(Dc (BS ex)).isSome)=true then some ex else none
   |_,_,_=>none
 |none=>none
def TG:SV->Int
 | .int _ n=>n
 |_=>0
def Jr (P:Program) (C:Aj) (st:St) (gd:gdT) (o:Oper):Ii:=match o.op,o.dst with
 | .load t x,some d=>if C.cuts.contains d then(match Gb P st gd (.load t x)with
   |some (ps,.p s)=>some (ps ++ [s=.int .i64 (TG s)],.p (.int .i64 (TG s)))
   |_=>none)else none
 |_,_=>none
def Cn (ops:Array Oper) (es:List AK) (q:Nat->Bool) (x:Nat×Ah):Nat×Ah:=match x.2,Km ops x.1 with
 | .blk t cs,some j=>(match q j,es[j]? with
   |true,some e=>(x.1,.blk t (EJ cs 0 (BS e.v)))
   |_,_=>x)
 |_,_=>x
def GQ (P:Program) (C:Aj) (ops:Array Oper) (E:List (Nat×Ah)) (st:St) (o:Oper):Option (List Prop×AK):=
 match Im ops (st.only (CK ops o)) o with
 |none=>none
 |some gd=>if EA st o.dst gd then(match Jr P C (st.only (CK ops o)) gd o with
  |some (ps,e)=>some (wrapG gd ps,⟨gd,e⟩)
  |none=>match Gb P (st.only (CK ops o)) gd o.op with
   |some (ps,e)=>some (wrapG gd ps,⟨gd,e⟩)
   |none=>match LO P C (st.only (CK ops o)) gd o with
     |some (ps,e)=>some (wrapG gd ps,⟨gd,e⟩)
     |none=>match Nq P ops E (st.only (CK ops o)) o with
       |some e=>some ([],⟨none,e⟩)
       |none=>match gd,C7 P o with
         |none,[(d,.blk _ cs)]=>if cs.all CW then some ([],⟨none,.loc d 0⟩)else none
         |_,_=>none)else none
def LP (P:Program) (C:Aj) (ops:Array Oper) (E:List (Nat×Ah)):List Oper->St->Option (List Prop×List AK×St)
 |[],st=>some ([],[],st)
 |o::rest,st=>match GQ P C ops E st o with
   |none=>none
   |some (ps,e)=>match LP P C ops E rest (st.put o.dst e)with
     |none=>none
     |some (qs,es,stF)=>some (ps++qs,e::es,stF)
def Hw (o:Oper) (j:Nat):Bool:=o.after.any fun e=>Region.binds .any e&&e.on == j
def LQ (ops:List Oper) (all:Array Oper):Nat->List Oper->Bool
 |_,[]=>true
 |i, o::rest =>(o.after.all fun e => !Region.binds .any e||decide (e.on<i)) &&
  ((Ah5 ops.length).all fun j=>j == i||(match ops[j]? with
    |some oj=>(match oj.dst with
      |some d=>!(o.dst == some d)&&(!((CK all o).contains d)||(if j<i then Hw o j else Hw oj i))&&(!((Ht all o).contains d)||decide (j<i))
      |none=>true)
    |none=>true)) && !((o.dst.toList).any fun d=>(Ht all o).contains d)&&LQ ops all (i+1) rest
def St.noGuards (st:St) (ops:List Oper):St:={ st with T:=st.T.filter fun x=>!(ops.any fun o=>match o.dst with|some d=>x.2.by d|none=>false) }
def PI (P:Program) (C:Aj) (ops:Array Oper) (E:List (Nat×Ah)):List Oper->St->Nat
 |[],_=>0
 |o::rest,st=>match GQ P C ops E st o with
   |none=>0
   |some (_,e)=>PI P C ops E rest (st.put o.dst e)+1
def Ix (ops:List Oper) (j:Nat):List Nat:=match ops[j]? with
 |some o=>(o.after.toList.filter fun e=>Region.binds .any e).map (·.on)
 |none=>[]
def LR (ops:List Oper):Nat->List Nat->List Nat
 |0,l=>l
 |i+1,l=>LR ops i (if l.contains i then l++Ix ops i else l)
def HM (Z:List Nat) (ops:List Oper) (j:Nat):Bool:=(Ix ops j).all (fun x=>decide (x<j))&&(Ah5 j).all fun i=>(LR ops j (Ix ops j)).contains i||Z.contains i
def TH (Z:List Nat) (ops:List Oper) (k:Nat):Bool:=(Ah5 ops.length).all fun j=>decide (j<k)||HM Z ops j
def Gi (o:Oper):Option (Nat×Nat):=match o.op,o.dst,o.guard with
 | .move (.tmp s),some d,none=>some (d,s)
 | .extract (.tmp s) _,some d,none=>some (d,s)
 |_,_,_=>none
def Ko (ops:Array Oper) (i:Nat):Bool:=match ops[i]? with
 |some oi=>match Gi oi with
   |some (d,s)=>!(d == s)&&(Ah5 ops.size).all fun j=>j == i||(match ops[j]? with
     |some oj=>((oj.after.any fun e=>Region.binds .any e&&e.on == i) || !((oj.looksAt ops).contains d)) && !(oj.dst == some d)&&((oi.after.any fun e=>Region.binds .any e&&e.on == j) || !(oj.dst == some s))
     |none=>true)
   |none=>false
 |none=>false
def Iy (ops:Array Oper):Bool:=ops.all fun o=>match o.op with
 | .defer _ | .select ..=>false
 |_=>true
def PJ (ops:Array Oper) (k:Nat):List Nat:=if decide (k<ops.size)&&Iy ops then(Ah5 k).filter (fun i=>Ko ops i && !((LR ops.toList k (Ix ops.toList k)).contains i))else []
def Nr (ops:List Oper):List AK->Nat->Bool:=fun es d=>(ops.zip es).all fun x=>x.1.dst == some d || !(x.2.v.names d)
def Ns (P:Program) (ops:List Oper) (es:List AK) (Ao:St):List Nat->Bool
 |[]=>true
 |d::ds=>Ao.noName d&&Nr ops es d&&Ns P ops es Ao ds
def Iz (ops:Array Oper) (es:List AK) (q:Nat->Bool) (x:Nat×Ah):Nat×Ah:=if Hv ops x.1&&Kn x.2 then Cn ops es q x else x
def TI (P:Program) (C:Aj) (ops:Array Oper) (stf:St) (K:St->Prop):Prop :=
 (fun k=>if LQ (ops.toList.take k) ops 0 (ops.toList.take k)&&TH (PJ ops k) ops.toList k then(match LP P C ops (PG ops stf.own) (ops.toList.take k) (stf.minus ops)with
  |some (ps,es,stF)=>if Ns P (ops.toList.take k) es stf (F9 P (ops.toList.take k))&&Dk (F9 P (ops.toList.take k))then BC ps (Fa P C ops (ops.toList.drop k) { stF with own:=(Hu P (ops.toList.take k)).map (Cn ops es fun j=>decide (j<k))++stf.own.map (Iz ops es fun j=>decide (j<k)) } K)else False
  |none=>False)else False) (PI P C ops (PG ops stf.own) ops.toList (stf.minus ops))
def Nt (P:Program) (C:Aj) (ops:Array Oper) (st:St) (K:St->Prop):Prop:=TI P C ops ((st.noGuards ops.toList).forgets (F9 P ops.toList)) K
variable {P:Program} {M:Nat->Prop} {w:World} {G:Bw} {st:St} {a:Act} {env:Ar} {X:Nat->Prop}
theorem Al.only (S:Al P G st a w env M X) (L:List Nat):Al P G (st.only L) a w env M X :=
 S.sub (fun _ hx=>(rK.1 hx).1) (fun _ hx=>hx) S.nod rfl rfl
theorem PK {o:Oper} (h:∀t,o.op ≠ .alloc t):C7 P o = []:=by
 unfold C7;grind
theorem Nu (st:St):st.add []=st:=rfl
theorem rS {C:Aj} {st:St} {gd:gdT} (S:Al P G st a w env M X) (hgd:EL a gd) (hh:CB gd) {o:Oper} {ps:List Prop} {e:EV} (h:Jr P C st gd o=some (ps,e)) (hp:all ps) :
  ∃u,(execOp a.eval o).run P w=.ok (.value u) w/\Ap P M w env e u:=by
 unfold Jr at h;split at h
 ·rename_i t x d h1 h2;split at h
  ·split at h
   ·rename_i ps' s hs;cases h;obtain⟨p1,p2⟩:=all_append hp;grind [L5,AC]
   ·cases h
  ·cases h
 ·cases h
theorem TJ (hG:Br G) {C:Aj} (hC:EB P G C) {ops:Array Oper} {o:Oper} {E:List (Nat×Ah)} {ps:List Prop} {e:AK} (h:GQ P C ops E st o=some (ps,e)) (hns:FA o=none) (hp:all ps) {st2:St} (hnt:st2.nt=st.nt)
  (S:Al P G (st.only (CK ops o)) a w env M X) (S2:Al P G st2 a w env M X) (hfree:∀d o',(d,o')∈C7 P o->st2.noName d=true/\∀x,x∈st2.T->x.2.v.names d=false) :
  (Region.wanted o (yielded ops a.tmps)=true->GN P a o w (fun a' w'=>AO P G ((st2.add (C7 P o)).put o.dst e) a' w'))/\(¬ Region.wanted o (yielded ops a.tmps)=true->AO P G ((st2.add (C7 P o)).put o.dst e) (a.put o.dst undef) w):=by
 unfold GQ at h;split at h
 ·cases h
 ·rename_i gd hgd0;obtain⟨hgd,hwant⟩:=L4 S hgd0;split at h
  ·rename_i hcheck;have hd:∀t,o.dst=some t->t<st2.nt:=fun t ht=>by
    rw[ht]at hcheck;rw[hnt];cases gd with
    |none=>simpa[EA]using hcheck
    |some g=>obtain⟨q,c,x⟩:=g;simp[EA]at hcheck;grind
   have hq:∀q c x,gd=some (q,c,x)->o.dst≠some q:=fun q c x hg ht=>by
    rw[ht,hg]at hcheck;simp[EA]at hcheck
   have skip:∀ev:EV,¬ CB gd->AO P G (st2.put o.dst ⟨gd,ev⟩) (a.put o.dst undef) w:=fun ev hn=>⟨_,_,_,S2.putG hgd hd hq (fun h=>absurd h hn) (fun _=>rfl)⟩;split at h
   ·rename_i ps' ev hstep;cases h;rw[PK (fun t ht=>by unfold Jr at hstep;grind),Nu];refine⟨fun hw=>?_,(by grind)⟩;have hh:=hwant.1 hw;obtain⟨u,hr,hden⟩:=rS S hgd hh hstep (Ge hp hh);refine⟨fun c hc=>?_,.inl ⟨u,w,hr,_,_,_,S2.putG hgd hd hq (fun _=>hden) (by grind)⟩⟩;unfold Jr at hstep;grind
   rename_i hlc;clear hlc;split at h
   ·rename_i ps' ev hstep;cases h;rw[PK (fun t ht=>by rw[ht]at hstep;simp[Gb,Il]at hstep),Nu];refine⟨fun hw=>?_,(by grind)⟩;have hh:=hwant.1 hw;obtain⟨u,hr,hden⟩:=L5 S hgd hh hstep (Ge hp hh) o rfl;refine⟨fun c hc=>?_,.inl ⟨u,w,hr,_,_,_,S2.putG hgd hd hq (fun _=>hden) (by grind)⟩⟩;rw[hc]at hstep;simp[Gb,Il]at hstep
   ·split at h
    ·rename_i ps' ev heff;cases h;rw[PK (fun t ht=>by unfold LO at heff;grind),Nu];refine⟨fun hw=>?_,(by grind)⟩;have hh:=hwant.1 hw;have hp:=Ge hp hh;obtain⟨dst,op,ty,pos,after,guard⟩:=o;simp only at hd hq;unfold LO at heff;simp only at heff S;split at heff
     ·-- box
      rename_i t x _;split at heff
      ·rename_i d e' hx;split at heff
       ·rename_i hc;simp only[pR]at hc;simp only[Option.map_eq_some_iff]at heff;obtain⟨ss,hss,he⟩:=heff;cases he;have hv:=Bc S hgd hh hx;obtain⟨c1,c2⟩:=MO hv hc.1;obtain⟨M',X',S',hden,_⟩:=S2.newRef hG (Jd hss c1 c2) (MX hc.1 c1 c2) t;refine⟨(by grind),.inl ⟨_,_,?_,_,_,_,S'.putG hgd hd hq (fun _=>.p hden) (by grind)⟩⟩;simp only[execOp];exact F7 (by rw[SR])
       ·cases heff
      ·cases heff
     ·-- a slice
      rename_i t len parts _;split at heff
      ·rename_i e' l d hu hz9 hl;split at heff
       ·rename_i y hy;split at heff
        ·rename_i cs hcs;split at heff
         ·rename_i hc;cases heff;obtain⟨v,w',M',X',hrun,S',hden⟩:=rN hG S2 hu hy (fun x e hx=>Bc S hgd hh hx) hl hcs hc.1;refine⟨(by grind),.inl ⟨_,_,?_,_,_,_,S'.putG hgd hd hq (fun _=>.p hden) (by grind)⟩⟩;simp only[execOp];exact F7 hrun
         ·cases heff
        ·cases heff
       ·cases heff
      ·cases heff
     ·-- an append to a slice without room
      rename_i args ts _;split at heff
      ·rename_i s x t t' hargs hts _;split at heff
       ·rename_i e' sz n get ex hu hs hx;split at heff
        ·rename_i y hy;split at heff
         ·rename_i ps1 m get2 hsl;split at heff
          ·rename_i hc;obtain⟨rfl,rfl,hsz,hb⟩:=hc;cases heff;have hargs:args = #[s,x]:=by grind
           have hts:ts = #[t,t]:=by grind
           subst hargs hts;obtain⟨hp1,hp2⟩:=all_append hp;obtain⟨hm0,hbytes⟩:=AC hp2;have hmax:n+m<=maxLen:=L9 hb hbytes;have hs':=Bc S hgd hh hs;have hx':=Bc S hgd hh hx;generalize hev:a.eval s=vs at hs';cases hs' with
           |full hs' hq' =>
           obtain rfl:=hq'.1 rfl;obtain⟨A,cap,news,hev2,c1,c2,c3,c4,c5,c6⟩:=Ke S hsl hp1 hx';obtain⟨v',w',M',X',hrun,S',hden⟩:=Tg (cap:=cap) hG S2 hu hy hsz hm0 hbytes hmax c1 c2 c3 c4 c5 c6 hs' ty;refine⟨(by grind),.inl ⟨v',w',?_,_,_,_,S'.putG hgd hd hq (fun _=>.p hden) (by grind)⟩⟩;simp[execOp,resolve,invoke,builtin,hev,hev2,hrun]
          ·cases heff
         ·cases heff
        ·cases heff
       ·cases heff
      ·cases heff
     ·-- call
      rename_i f args ts _;split at heff
      ·rename_i g caps ps1 as lent hf hargs;split at heff
       ·rename_i pre res hsp;split at heff
        ·rename_i hL;cases heff;obtain⟨hsok,hen⟩:=hC.1 _ _ hsp;have hfd:=Bc S hgd hh hf;rcases hfd with ⟨hfd⟩;generalize hev:a.eval f=vf at hfd;cases hfd with
         |clo _ _ cvs hcl hcd =>
         obtain⟨hp1,hp2⟩:=all_append hp;have hA:=Kc hC.1 S (fun x e hx=>Bc S hgd hh hx) _ _ _ _ _ hargs hp1 (L:=lent) (fun r hr=>hr);have hA':=SZ hA (Ta (M':=D8 M env lent) (w:=w) (ss:=caps) (vs:=cvs) ⟨hcl,fun i hi=>(hcd i hi).weak (fun b hb=>.inl hb)⟩);have hown:=LC _ _ _ _ _ hargs;have:=hsok _ w _ _ (Nc (env:=env) S hown) hA' (AC hp2);refine⟨(by grind),.inr (.inr (.inl ⟨g,_,w,Jq rfl hev hen,?_⟩))⟩;have hargsEq:args.map a.eval++cvs.toArray=(args.toList.map a.eval++cvs).toArray:=by grind
         rw[hargsEq];refine Gg this fun e w' hg=>?_;obtain⟨v,rfl,hs⟩:=LD hG S2 hgd hh hd hq hL hg;grind
        ·cases heff
       ·cases heff
      ·rename_i sp ps1 as lent hf hargs;split at heff
       ·rename_i ss hss;split at heff
        ·rename_i hL;cases heff;have hfd:=Bc S hgd hh hf;generalize hev:a.eval f=vf at hfd;cases hfd with
         |fn hfn =>
         obtain⟨g,first,caps,rfl,hen,hcall⟩:=hfn;obtain⟨hp1,hp2⟩:=all_append hp;have hA:=Kc hC.1 S (fun x e hx=>Bc S hgd hh hx) _ _ _ _ _ hargs hp1 (L:=lent) (fun r hr=>hr);have hown:=LC _ _ _ _ _ hargs;have hlt:=Nc (env:=env) S hown;have hlat:Be M (D8 M env lent) w w:=⟨Ah0 _,fun _ _=>rfl,fun b hb=>.inl hb⟩;have hdl:By (D8 M env lent) w ss (args.toList.map a.eval):=by
          have:=HF hss;subst this;refine⟨by simpa using hA.1,fun i hi=>?_⟩;have:=(hA.2 i (by grind)).2;rw[Gv _ _ hi]at this;rcases this with ⟨this⟩;exact this
         have hc:=hcall _ w hlat hlt ss _ hdl (AC hp2);refine⟨(by grind),.inr (.inr (.inl ⟨g,_,w,T8 rfl hev hen,?_⟩))⟩;have hargsEq:first++args.map a.eval++caps=first++(args.toList.map a.eval).toArray++caps:=by grind
         rw[hargsEq];refine Gg hc fun e w' hg=>?_;obtain⟨v,rfl,hs⟩:=LD hG S2 hgd hh hd hq hL hg;grind
        ·cases heff
       ·cases heff
      ·cases heff
     ·cases heff
    ·rw[show Nq P ops E (st.only (CK ops o)) o=none by unfold Nq;rw[hns]]at h;simp only at h;split at h
     ·rename_i d t cs hnew hq1 hq2;split at h
      ·rename_i hone;cases h;refine⟨fun hw=>?_,fun hw=>absurd trivial (fun hx=>hw (hwant.2 hx))⟩;obtain⟨f1,f2⟩:=hfree d (.blk t cs) (by rw[hnew];simp);obtain⟨dst,op,ty,pos,after,guard⟩:=o;unfold C7 at hnew;simp only at hnew hd hq;split at hnew
       ·rename_i t' d';split at hnew
        ·rename_i y hy;simp only[List.cons.injEq,Prod.mk.injEq,Ah.blk.injEq,and_true]at hnew;obtain⟨rfl,rfl,rfl⟩:=hnew;have hl:y.zero.cells.toList.length=(y.zero.cells.toList.map fun v=>EV.p (Cx v)).length:=by simp
         have hden:∀i,i<(y.zero.cells.toList.map fun v=>EV.p (Cx v)).length->Ap P M w env (EV.at (y.zero.cells.toList.map fun v=>EV.p (Cx v)) i) (y.zero.cells.toList.getD i undef):=fun i hi=>by
          have:=Je (P:=P) (env:=env) (Gw (M:=M) (w:=w) y.zero.cells.toList) i (by grind);rw[Aiy]at this;exact this
         obtain⟨env',X',S3,h3⟩:=SM hG S2 (d:=d') (hd _ rfl) f1 hl hden (MX hone hl hden) (fun i hi=>by
          rw[SO _ _ hi];simp[EV.names]) t'
         have S4:=S3.sub (st':=st2.add (C7 P { dst:=some d',op:=.alloc t',type:=ty,pos:=pos,after:=after,guard:=guard })) (fun x hx=>by
          show x∈(st2.forget d').T;exact rK.2 ⟨hx,by rw[f2 x hx];rfl⟩) (fun x hx=>by
          simp only[St.add,C7,hy]at hx;exact hx) (by
          have:=S3.nod;simp only[St.add,C7,hy];exact this) rfl rfl
         refine⟨(by grind),.inl ⟨_,_,?_,_,_,_,S4.put0 (fun t ht=>by cases ht;exact hd _ rfl) (.loc h3)⟩⟩;simp only[execOp];exact F7 (by rw[Pw hy])
        ·cases hnew
       ·cases hnew
      ·cases h
     ·cases h
  ·cases h
theorem PL {o:Oper} {t:TypeId} {d:Nat} {x:Operand} (h:FA o=some (t,d,x)):o.op=.store t (.tmp d) x/\o.dst=none/\o.guard=none:=by
 unfold FA at h;grind
theorem Nv {C:Aj} {ops:Array Oper} {E:List (Nat×Ah)} {o:Oper} {ps:List Prop} {e:AK} {t:TypeId} {d:Nat} {x:Operand} (hs:FA o=some (t,d,x)) (h:GQ P C ops E st o=some (ps,e)) :
  ∃y,Bg P t=some y/\(st.only (CK ops o)).rho none (.tmp d)=some (.loc d 0)/\(st.only (CK ops o)).rho none x=some e.v/\e.g=none/\(BS e.v).length=y.size/\y.zero.cells.size=y.size /\
    ((ops.toList.any (Kk t d)=true/\HL (Iw d) ops.toList=true)\/(Hv ops d=true/\PH E d y.size=true))/\HL (Kl ops d) ops.toList=true/\(BS e.v).all CW=true/\(Dc (BS e.v)).isSome=true:=by
 obtain⟨h1,h2,h3⟩:=PL hs;unfold GQ at h;split at h
 ·cases h
 ·rename_i gd hgd;split at h
  ·rw[show Jr P C (st.only (CK ops o)) gd o=none by unfold Jr;rw[h1],show Gb P (st.only (CK ops o)) gd o.op=none by rw[h1];simp[Gb,Il],show LO P C (st.only (CK ops o)) gd o=none by unfold LO;rw[h1]]at h;simp only at h;split at h
   ·rename_i ex hex;cases h;unfold Nq at hex;grind
   ·split at h
    ·rename_i hnew _;unfold C7 at hnew;grind
    ·cases h
  ·cases h
theorem Nw {p:Oper->Bool}:∀{l:List Oper},HL p l=true->∀{i j:Nat} {a b:Oper},l[i]? = some a->l[j]? = some b->p a=true->p b=true->i=j
 |[],_,i,j,a,b,hi,_,_,_=>by simp at hi
 |o::l,h,i,j,a,b,hi,hj,ha,hb=>by
   have none_of:∀{k:Nat} {c:Oper},(l.filter p).length=0->l[k]? = some c->p c=true->False:=fun {k c} h0 hk hc=>by
    have:c∈l.filter p:=(by grind);grind
   unfold HL at h;simp only[beq_iff_eq]at h;cases hpo:p o with
   |true =>
     grind
   |false =>
     rw[List.filter_cons_of_neg (by simp[hpo])]at h;cases i with
     |zero=>grind
     |succ i=>cases j with
       |zero=>grind
       |succ j =>
         have:=Nw (l:=l) (by unfold HL;simpa using h) (i:=i) (j:=j) (by grind) (by grind) ha hb;omega
theorem G0 {ops:Array Oper} {d j:Nat} (h:Km ops d=some j):∃o t x,ops[j]? = some o/\FA o=some (t,d,x):=by
 have h1:=List.find?_some h;split at h1
 ·rename_i o ho;unfold Np at h1;grind
 ·cases h1
theorem TK {ops:Array Oper} {o:Oper} {t:TypeId} {d:Nat} {x:Operand} (h:FA o=some (t,d,x)):Kl ops d o=true:=by
 obtain⟨h1,_,_⟩:=PL h;unfold Kl CK;have:d∈PF o.op:=by
  rw[h1];unfold PF;refine List.mem_filterMap.2 ⟨.tmp d,?_,rfl⟩;simp[Op.operands]
 simp[this]
theorem rT {ops:Array Oper} {i:Nat} {o:Oper} {t:TypeId} {d:Nat} {x:Operand} (ho:ops[i]? = some o) (hs:FA o=some (t,d,x)) (h1:HL (Kl ops d) ops.toList=true):Km ops d=some i:=by
 have hi:=(AhE.1 ho).1;cases hf:Km ops d with
 |none =>
   have:=List.find?_eq_none.1 hf i (AhB.2 hi);rw[show ops.toList[i]? = some o by grind]at this;simp[Np,hs]at this
 |some j =>
   obtain⟨o',t',x',ho',hs'⟩:=G0 hf;rw[Nw h1 (show ops.toList[j]? = some o' by simpa using ho') (show ops.toList[i]? = some o by simpa using ho) (TK hs') (TK hs)]
theorem G1 (ops:Array Oper) (es:List AK) (q:Nat->Bool) (x:Nat×Ah):(Cn ops es q x).1=x.1:=by
 unfold Cn;grind
theorem LU {ops:Array Oper} {es:List AK} {q:Nat->Bool} {x:Nat×Ah} (h:∀j,Km ops x.1=some j->q j=false):Cn ops es q x=x:=by
 unfold Cn;grind
theorem Js {ops:Array Oper} {es:List AK} {q q':Nat->Bool} {x:Nat×Ah} (h:∀j,Km ops x.1=some j->q j=q' j):Cn ops es q x=Cn ops es q' x:=by
 unfold Cn;grind
end
section
variable {P:Program} {G:Bw}
theorem Nx {ro:Option Nat} {n:Nat} {Q:Exit->Act->World->Prop} {o:Oper} {a:Act} {w:World} {N:Act->World->Prop} (h:GN P a o w N):o.wpIn (W ro) n P a w N Q:=by
 obtain⟨ho,⟨u,w',hr,hk⟩|⟨w',hr,hk⟩|⟨f,args,w',hr,hk⟩|⟨l,f,tmps,assign,body,w',hr,hk⟩⟩:=h
 ·exact⟨fun _ _=>trivial,by rw[Oper.semAt_eq _ _ _ ho,hr];exact hk⟩
 ·exact⟨fun _ _=>trivial,by rw[Oper.semAt_eq _ _ _ ho,hr];exact hk⟩
 ·refine⟨fun _ _=>trivial,?_⟩;rw[Oper.semAt_eq _ _ _ ho,hr];refine⟨fun h=>by simp[W,Fence.wide]at h,?_⟩;grind [Ps,callsIn_wide,Calls.mono]
 ·refine⟨fun _ _=>trivial,?_⟩;rw[Oper.semAt_eq _ _ _ ho,hr];refine⟨fun h=>by simp[W,Fence.wide]at h,?_⟩;grind [SK,Kb]
def El (st st':St):Prop:=st'.own=st.own/\st'.yk=st.yk/\st'.stop=st.stop/\st'.nt=st.nt
theorem El.put (st:St) (d:Option Nat) (e:AK):El st (st.put d e):=by cases d<;>exact⟨rfl,rfl,rfl,rfl⟩
theorem LV {st:St} {d:Option Nat} {e:AK} {x:Nat×AK} (h:x∈(st.put d e).T):(x∈st.T/\d≠some x.1)\/(d=some x.1/\x.2=e):=by
 cases d with
 |none=>exact .inl ⟨h,by simp⟩
 |some d =>
   simp only[St.put,Ah4,rK]at h;grind
theorem TL {C:Aj} {ops:Array Oper} {E:List (Nat×Ah)}:∀(rest:List Oper) (st1:St) (ps:List Prop) (es:List AK) (stF:St),LP P C ops E rest st1=some (ps,es,stF) ->
  es.length=rest.length/\(El st1 stF/\∀x,x∈stF.T->(x∈st1.T/\∀(j:Nat) (oj:Oper),rest[j]? = some oj->oj.dst≠some x.1)\/∃(j:Nat) (oj:Oper),rest[j]? = some oj/\oj.dst=some x.1/\es[j]? = some x.2) /\
  ∀i o,rest[i]? = some o->∃sti psi e,GQ P C ops E sti o=some (psi,e)/\es[i]? = some e/\(∀p,p∈psi->p∈ps)/\El st1 sti /\
    ∀x,x∈sti.T->(x∈st1.T/\∀(j:Nat) (oj:Oper),j<i->rest[j]? = some oj->oj.dst≠some x.1)\/∃(j:Nat) (oj:Oper),j<i/\rest[j]? = some oj/\oj.dst=some x.1/\es[j]? = some x.2
 |[],st1,ps,es,stF,h=>by
   simp only[LP,Option.some.injEq,Prod.mk.injEq]at h;obtain⟨rfl,rfl,rfl⟩:=h;exact⟨rfl,⟨⟨rfl,rfl,rfl,rfl⟩,(by grind)⟩,(by grind)⟩
 |o::rest,st1,ps,es,stF,h=>by
   simp only[LP]at h;split at h
   ·cases h
   ·rename_i ps0 e hstep;split at h
    ·cases h
    ·rename_i qs es' stF' hgo;simp only[Option.some.injEq,Prod.mk.injEq]at h;obtain⟨rfl,rfl,rfl⟩:=h;obtain⟨h1,⟨t2,h2⟩,h3⟩:=TL rest _ _ _ _ hgo;have tw:=El.put st1 o.dst e;refine⟨by simp[h1],⟨⟨t2.1.trans tw.1,t2.2.1.trans tw.2.1,t2.2.2.1.trans tw.2.2.1,t2.2.2.2.trans tw.2.2.2⟩,fun x hx=>?_⟩,fun i o' hi=>?_⟩
     ·rcases h2 x hx with ⟨hm,hall⟩|⟨j,oj,hj,hd,he⟩
      ·rcases LV hm with ⟨hm,hne⟩|⟨hd,he⟩
       ·grind
       ·exact .inr ⟨0,o,by simp,hd,by simp[he]⟩
      ·exact .inr ⟨j+1,oj,by grind,hd,by grind⟩
     ·cases i with
      |zero =>
        simp at hi;subst hi;exact⟨st1,ps0,e,hstep,by simp,(by grind),⟨rfl,rfl,rfl,rfl⟩,(by grind)⟩
      |succ i =>
        obtain⟨sti,psi,ei,hs,he,hps,tw',hmem⟩:=h3 i o' (by simpa using hi);refine⟨sti,psi,ei,hs,by grind,(by grind),⟨tw'.1.trans tw.1,tw'.2.1.trans tw.2.1,tw'.2.2.1.trans tw.2.2.1,tw'.2.2.2.trans tw.2.2.2⟩,fun x hx=>?_⟩;rcases hmem x hx with ⟨hm,hall⟩|⟨j,oj,hlt,hj,hd,he⟩
        ·rcases LV hm with ⟨hm,hne⟩|⟨hd,he⟩
         ·grind
         ·exact .inr ⟨0,o,by omega,by simp,hd,by simp[he]⟩
        ·exact .inr ⟨j+1,oj,by omega,by grind,hd,by grind⟩
theorem TM {C:Aj} {ops:Array Oper} {E:List (Nat×Ah)} {st:St} {o:Oper} {ps:List Prop} {e:AK} (h:GQ P C ops E st o=some (ps,e)):∀d,e.by d=true->d∈Ht ops o:=by
 intro d hd;have key:∀gd,Im ops (st.only (CK ops o)) o=some gd->e.g=gd->d∈Ht ops o:=by
  intro gd hg he;unfold Im at hg;unfold Ht;split at hg
  ·cases hg;simp[AK.by,he]at hd
  ·rename_i j want hgd;rw[hgd];split at hg
   ·rename_i oj hj;simp only[hj];split at hg
    ·rename_i d' hd';split at hg
     ·cases hg;simp only[AK.by,he,beq_iff_eq]at hd;grind
     ·cases hg
    ·cases hg
   ·cases hg
 unfold GQ at h;split at h
 ·cases h
 ·rename_i gd hgd;split at h
  ·split at h
   ·grind
   split at h
   ·grind
   ·split at h
    ·grind
    ·split at h
     ·cases h;simp[AK.by]at hd
     grind
  ·cases h
theorem PM {ops:List Oper} {all:Array Oper}:∀(rest:List Oper) (k:Nat),LQ ops all k rest=true->∀i o,rest[i]? = some o ->
  (∀e,e∈o.after->Region.binds .any e=true->e.on<k+i)/\∀j oj d,j≠k+i->ops[j]? = some oj->oj.dst=some d->o.dst≠some d/\(d∈CK all o->if j<k+i then Hw o j=true else Hw oj (k+i)=true)/\(d∈Ht all o->j<k+i)
 |[],k,h,i,o,hi=>by simp at hi
 |o'::rest,k,h,i,o,hi=>by
   simp only[LQ,pR]at h;obtain⟨⟨⟨h1,h2⟩,_⟩,h4⟩:=h;cases i with
   |zero =>
     simp at hi;subst hi;refine⟨fun e he hb=>?_,fun j oj d hne hj hd=>?_⟩
     ·grind [AiK]
     grind
   |succ i =>
     have:=PM rest (k+1) h4 i o (by grind);grind
theorem Jt {o:Oper} {j:Nat} (h:Hw o j=true):∃e,e∈o.after/\Region.binds .any e=true/\e.on=j:=by
 unfold Hw at h;grind
end
section
variable {P:Program} {G:Bw}
theorem I1 {st:St} {d:Option Nat} {e:AK} {x:Nat×AK} (h:x∈st.T) (h1:d≠some x.1) (h2:∀t,d=some t->x.2.by t=false):x∈(st.put d e).T:=by
 cases d with
 |none=>exact h
 |some t =>
   simp only[St.put,Ah4,rK];grind
theorem Kp {st:St} {d:Nat} {e:AK}:(d,e)∈(st.put (some d) e).T:=by simp[St.put]
def rU (ops:Array Oper) (Ao:St) (es:List AK) (listed:Array Bool) (x:Nat×AK):Prop :=
 (x∈Ao.T/\∀(j:Nat) (oj:Oper),ops[j]? = some oj->listed.getD j false=true->oj.dst≠some x.1) \/
  ∃(j:Nat) (oj:Oper),ops[j]? = some oj/\listed.getD j false=true/\oj.dst=some x.1/\es[j]? = some x.2
structure Ju (P:Program) (G:Bw) (ops:Array Oper) (E:List (Nat×Ah)) (Ao:St) (es:List AK) (listed:Array Bool) (a:Act) (w:World):Prop where
 siz:listed.size=ops.size
 clo:∀(j:Nat) (oj:Oper),ops[j]? = some oj->listed.getD j false=true->∀e,e∈oj.after->Region.binds .any e=true->listed.getD e.on false=true
 sat:∃st2:St,(st2.yk=Ao.yk/\st2.stop=Ao.stop/\st2.nt=Ao.nt)/\(∀x,x∈st2.own↔(x∈Ao.own\/(∃(j:Nat) (oj:Oper),ops[j]? = some oj/\listed.getD j false=true/\∃y,y∈C7 P oj/\x=Cn ops es (fun j=>listed.getD j false) y)\/∃y,y∈E/\x=Cn ops es (fun j=>listed.getD j false) y))/\(∀x,x∈st2.T↔rU ops Ao es listed x)/\AO P G st2 a w
theorem rV (st:St):∀ds,(st.forgets ds).own=st.own/\(st.forgets ds).yk=st.yk/\(st.forgets ds).stop=st.stop/\(st.forgets ds).nt=st.nt:=fun ds=>by
 induction ds generalizing st with
 |nil=>exact⟨rfl,rfl,rfl,rfl⟩
 |cons d ds ih=>exact ih (st.forget d)
theorem rW {x:Nat×AK} (ds:List Nat) {st:St} (h:x∈(st.forgets ds).T):x∈st.T/\∀d,d∈ds->x.2.v.names d=false:=by
 induction ds generalizing st with
 |nil=>exact⟨h,fun d hd=>by cases hd⟩
 |cons d0 ds ih =>
   obtain⟨h1,h2⟩:=ih (st:=st.forget d0) h;refine⟨(rK.1 h1).1,fun d hd=>?_⟩;grind [Ir]
theorem Ny {d:Nat} {o':Ah} {l:List Oper} {o:Oper} (h:o∈l) (hn:(d,o')∈C7 P o):d∈F9 P l:=by
 induction l with
 |nil=>cases h
 |cons o1 l ih =>
   rw[F9,AhG];grind
theorem TN {x:Nat×Ah}:∀{l:List Oper},x∈Hu P l->∃(j:Nat) (oj:Oper),l[j]? = some oj/\x∈C7 P oj
 |[],h=>by cases h
 |o::l,h=>by
   simp only[Hu,AhG]at h;rcases h with h|h
   ·exact⟨0,o,rfl,h⟩
   ·obtain⟨j,oj,h1,h2⟩:=TN h;exact⟨j+1,oj,by grind,h2⟩
theorem TO:∀(l:List Oper),(Hu P l).map (·.1)=F9 P l
 |[]=>rfl
 |o::l=>by simp[Hu,F9,TO l]
theorem Kq {o:Oper} {d:Nat} {o':Ah} (h:(d,o')∈C7 P o):o.dst=some d/\∀k,o'.names k=false:=by
 unfold C7 at h;split at h
 ·rename_i t d' h1 h2;split at h
  ·simp only[Ah9,Prod.mk.injEq]at h;obtain⟨rfl,rfl⟩:=h;refine⟨h2,fun k=>?_⟩;have:∀l:List Value,EV.names.namesL k (l.map fun v=>EV.p (Cx v))=false:=fun l=>by
    induction l with
    |nil=>rfl
    |cons v l ih=>simp[EV.names.namesL,EV.names,ih]
   exact this _
  ·cases h
 ·cases h
theorem Nz {ops:List Oper} {es:List AK} {Ao:St}:∀{ds:List Nat},Ns P ops es Ao ds=true->∀d,d∈ds->Ao.noName d=true/\Nr ops es d=true
 |d0::ds,h,d,hd=>by
   simp only[Ns,pR]at h;rcases Ah4.1 hd with rfl|hd
   ·exact h.1
   ·exact Nz h.2 d hd
theorem rX {ops:List Oper} {es:List AK} {d:Nat} (h:Nr ops es d=true) {j:Nat} {oj:Oper} {e:AK} (h1:ops[j]? = some oj) (h2:es[j]? = some e):oj.dst=some d\/e.v.names d=false:=by
 unfold Nr at h;have hm:(oj,e)∈ops.zip es:=by
  have:(ops.zip es)[j]? = some (oj,e):=by grind
  grind
 grind
theorem Hx {l:Array Bool} {i:Nat} (h:i<l.size):(l.setIfInBounds i true).getD i false=true:=by
 simp[LS,h]
theorem Fo {l:Array Bool} {i j:Nat} (h:(l.setIfInBounds i true).getD j false=true):j=i\/l.getD j false=true:=by
 by_cases hj:j=i
 ·exact .inl hj
 ·right;rw[LS,Ais,if_neg (fun e=>hj e.symm)]at h;grind [LS]
theorem EC {l:Array Bool} {i j:Nat} (h:l.getD j false=true):(l.setIfInBounds i true).getD j false=true:=by
 have hj:j<l.size:=by
  grind
 rw[LS,Ais];split
 ·grind
 grind [LS]
theorem PN {ops:Array Oper} {listed:Array Bool} (clo:∀(j:Nat) (oj:Oper),ops[j]? = some oj->listed.getD j false=true->∀e,e∈oj.after->Region.binds .any e=true->listed.getD e.on false=true) :
  ∀(i:Nat) (l:List Nat),(∀x,x∈l->listed.getD x false=true)->∀x,x∈LR ops.toList i l->listed.getD x false=true
 |0,l,h,x,hx=>h x hx
 |i+1,l,h,x,hx=>by
   simp only[LR]at hx;refine PN clo i _ (fun y hy=>?_) x hx;split at hy
   ·rename_i hc;rcases AhG.1 hy with hy|hy
    ·exact h y hy
    ·unfold Ix at hy;grind
   grind
theorem rY {ops:Array Oper} {listed:Array Bool} (clo:∀(j:Nat) (oj:Oper),ops[j]? = some oj->listed.getD j false=true->∀e,e∈oj.after->Region.binds .any e=true->listed.getD e.on false=true)
  {j:Nat} {o:Oper} (ho:ops[j]? = some o) {Z:List Nat} (h:HM Z ops.toList j=true) (hZ:∀z,z∈Z->listed.getD z false=true) (hr:∀e,e∈o.after->Region.binds .any e=true->listed.getD e.on false=true):∀i,i<j->listed.getD i false=true:=by
 intro i hi;simp only[HM,pR]at h;have:=AhC.1 h.2 i (AhB.2 hi);rw[Aie]at this;rcases this with this|this;rotate_left
 ·grind
 refine PN clo j _ (fun y hy=>?_) i (by simpa using this);unfold Ix at hy;grind
theorem rZ {ops:Array Oper} {listed:Array Bool} (clo:∀(j:Nat) (oj:Oper),ops[j]? = some oj->listed.getD j false=true->∀e,e∈oj.after->Region.binds .any e=true->listed.getD e.on false=true)
  {j:Nat} {o:Oper} (ho:ops[j]? = some o) {Z:List Nat} (h:HM Z ops.toList j=true) (hr:∀e,e∈o.after->Region.binds .any e=true->listed.getD e.on false=true):∀i,i<j->i ∉ Z->listed.getD i false=true:=by
 intro i hi hz;simp only[HM,pR]at h;have:=AhC.1 h.2 i (AhB.2 hi);rw[Aie]at this;rcases this with this|this;rotate_left
 ·grind
 refine PN clo j _ (fun y hy=>?_) i (by simpa using this);unfold Ix at hy;grind
theorem sA {ops:Array Oper} {j:Nat} {o:Oper} (ho:ops[j]? = some o) {Z:List Nat} (h:HM Z ops.toList j=true):∀e,e∈o.after->Region.binds .any e=true->e.on<j:=by
 intro e he hb;simp only[HM,pR]at h;have:=AhC.1 h.1 e.on (by
  unfold Ix;grind)
 grind
def Em (n:Nat) (listed:Array Bool):Nat:=((Ah5 n).filter fun i=>!listed.getD i false).length
theorem I2 {n i:Nat} {listed:Array Bool} (hi:i<n) (hl:i<listed.size) (hu:listed.getD i false=false):Em n (listed.setIfInBounds i true)<Em n listed:=by
 unfold Em;have e1:((Ah5 n).filter fun j=>!(listed.setIfInBounds i true).getD j false)=((Ah5 n).filter fun j=>!listed.getD j false).filter fun j=>!(j == i):=by
  rw[List.filter_filter];apply List.filter_congr;intro j hj
  by_cases hji:j=i
  ·grind [Hx]
  ·have : (listed.setIfInBounds i true).getD j false = listed.getD j false :=by
    rw[LS,Ais,if_neg (fun e=>hji e.symm),LS]
   grind
 rw[e1];have hm:i∈(Ah5 n).filter fun j=>!listed.getD j false:=(by grind);exact List.length_filter_lt_length_iff_exists.2 ⟨i,hm,by simp⟩
theorem PO (hG:Br G) {C:Aj} (hC:EB P G C) {ops:Array Oper} {o:Oper} {rest:List Oper} {st:St} {K:St->Prop} {a:Act} {w:World} {env:Ar} {M X:Nat->Prop} (h:Fa P C ops (o::rest) st K) (S:Al P G st a w env M X) :
  (Region.wanted o (yielded ops a.tmps)=true->GN P a o w (fun a' w'=>∃st',Fa P C ops rest st' K/\AO P G st' a' w'))/\(¬ Region.wanted o (yielded ops a.tmps)=true->∃st',Fa P C ops rest st' K/\AO P G st' (a.put o.dst undef) w):=by
 simp only[Fa]at h;split at h
 ·exact h.elim
 ·rename_i gd hgd0;obtain⟨hgd,hwant⟩:=L4 S hgd0;split at h
  ·rename_i hcheck;have hd:∀t,o.dst=some t->t<st.nt:=fun t ht=>by
    rw[ht]at hcheck;cases gd with
    |none=>simpa[EA]using hcheck
    |some g=>obtain⟨q,c,x⟩:=g;simp[EA]at hcheck;grind
   have hq:∀q c x,gd=some (q,c,x)->o.dst≠some q:=fun q c x hg ht=>by
    rw[ht,hg]at hcheck;simp[EA]at hcheck
   refine⟨fun hw=>?_,fun hw=>?_⟩
   ·have hh:=hwant.1 hw;split at h
    ·rename_i d t x hi hcut;obtain⟨c1,c2,c3⟩:=Nk hcut;obtain⟨v,st',hr,hk,hs⟩:=To hG S h (hd _ c2);exact⟨(by grind),.inl ⟨v,w,by simp[execOp,c1,hr],st',hk,by grind⟩⟩
    split at h
    ·grind [TE]
    split at h
    ·rename_i ps e hstep;obtain⟨h1,h2⟩:=BD h;obtain⟨u,hr,hden⟩:=L5 S hgd hh hstep (Ge h1 hh) o rfl;refine⟨fun c hc=>?_,.inl ⟨u,w,hr,_,h2,⟨_,_,_,S.putG hgd hd hq (fun _=>hden) (by grind)⟩⟩⟩;rw[hc]at hstep;simp[Gb,Il]at hstep
    grind [TC]
   ·have hh:¬ CB gd:=(by grind);split at h
    ·rename_i d t x hi hcut;obtain⟨c1,c2,c3⟩:=Nk hcut;exact absurd trivial (by rw[c3]at hh;exact hh)
    split at h
    ·grind [TF]
    split at h
    ·rename_i ps e hstep;obtain⟨_,h2⟩:=BD h;exact⟨_,h2,⟨_,_,_,S.putG hgd hd hq (by grind) (fun _=>rfl)⟩⟩
    grind [TD]
  grind
theorem TP (hG:Br G) {C:Aj} (hC:EB P G C) {ro:Option Nat} {n:Nat} {ops:Array Oper} {Q:Exit->Act->World->Prop} {K:St->Prop} (hK:∀st a w,K st->AO P G st a w->Q .normal a w) {k:Nat} {Z:List Nat} (hs:TH Z ops.toList k=true) (hZk:∀z,z∈Z->z<k/\z<ops.size) :
  ∀(fuel j:Nat) (listed:Array Bool) (st:St) (a:Act) (w:World),k<=j->j<=ops.size->listed.size=ops.size->(∀i,i<ops.size->(listed.getD i false=true↔i<j)) ->
    (∀(j:Nat) (oj:Oper),ops[j]? = some oj->listed.getD j false=true->∀e,e∈oj.after->Region.binds .any e=true->listed.getD e.on false=true) ->
    Fa P C ops (ops.toList.drop j) st K->AO P G st a w->Em ops.size listed<=fuel->wpAnyIn (W ro) n P .any ops Q fuel listed a w:=by
 have suf:∀j,k<=j->j<ops.size->HM Z ops.toList j=true:=fun j hk hj=>by
  have:=AhC.1 hs j (AhB.2 (by simpa using hj));simpa[show ¬ j<k by omega]using this
 intro fuel
 induction fuel with
 |zero =>
   intro j listed st a w hkj hj hsz hl clo h hsat hc;have hje:j=ops.size:=by
    rcases Aio j ops.size with hlt|hge
    ·exfalso;have hun:listed.getD j false=false:=by
      cases hx:listed.getD j false with
      |false=>rfl
      |true=>have:=(hl j hlt).1 hx;omega
     have hm:j∈(Ah5 ops.size).filter fun i=>!listed.getD i false:=rK.2 ⟨AhB.2 hlt,by rw[hun];rfl⟩;have:=List.length_pos_of_mem hm;unfold Em at hc;omega
    ·omega
   subst hje;have hr:Region.ready .any ops listed = []:=by
    cases hr:Region.ready .any ops listed with
    |nil=>rfl
    |cons i l =>
      exfalso;obtain⟨h0,o,ho,_⟩:=mem_ready.1 (show i∈Region.ready .any ops listed by rw[hr];simp);grind
   have hd:ops.toList.drop ops.size = []:=by simp
   rw[hd]at h;exact⟨hr,hK _ _ _ h hsat⟩
 |succ fuel ih =>
   intro j listed st a w hkj hj hsz hl clo h hsat hc;refine⟨fun hr=>?_,fun i hi=>?_⟩
   ·have hje : j = ops.size :=by
     rcases Aio j ops.size with hlt|hge
     ·exfalso;have ho:ops[j]? = some ops[j]:=(by grind);have hun:listed.getD j false=false:=by
       cases hx:listed.getD j false with
       |false=>rfl
       |true=>have:=(hl j hlt).1 hx;omega
      have hmem:j∈Region.ready .any ops listed:=mem_ready.2 ⟨by
       grind,ops[j],ho,fun e he hb=>by
        grind [sA]⟩
      grind
     ·omega
    subst hje;have hd:ops.toList.drop ops.size = []:=by simp
    rw[hd]at h;exact hK _ _ _ h hsat
   ·obtain⟨h0,o,ho,hafter⟩:=mem_ready.1 hi;have hisz:=(AhE.1 ho).1;have hilt:i<listed.size:=by omega
    have hunl:listed.getD i false=false:=by
     grind
    have hij:i=j:=by
     grind [rY,Aio]
    subst hij;have hdrop:ops.toList.drop i=o::ops.toList.drop (i+1):=by
     grind [List.drop_eq_getElem_cons,AhE]
    rw[hdrop]at h;obtain⟨env,M,X,S⟩:=hsat;obtain⟨k1,k2⟩:=PO hG hC h S;have next:∀a' w',(∃st',Fa P C ops (ops.toList.drop (i+1)) st' K/\AO P G st' a' w')->wpAnyIn (W ro) n P .any ops Q fuel (listed.setIfInBounds i true) a' w':=fun a' w' ⟨st',hk,hs'⟩=>by
     refine ih (i+1) _ st' a' w' (by omega) (by omega) (by grind) (fun m hm=>⟨fun hx=>?_,fun hx=>?_⟩) (fun m om hom hlm e' he' hb'=>?_) hk hs' (by have:=I2 (n:=ops.size) hisz hilt hunl;omega)
     ·grind [Fo]
     ·grind [Aio,EC,Hx]
     grind [Fo,EC]
    unfold wpOpIn;rw[ho];simp only;split
    ·rename_i hw;have:=k1 hw;refine Nx (N:=wpAnyIn (W ro) n P .any ops Q fuel (listed.setIfInBounds i true)) ?_;obtain⟨l1,l2⟩:=this;refine⟨l1,?_⟩;grind [Gg,Kb]
    ·rename_i hw;exact⟨fun _ _=>trivial,next _ _ (k2 hw)⟩
theorem N0 {o:Oper} {a:Act} {w:World} {N N':Act->World->Prop} (h:GN P a o w N) (k:∀a' w',N a' w'->N' a' w'):GN P a o w N':=by
 obtain⟨l1,l2⟩:=h;refine⟨l1,?_⟩;grind [Gg,Kb]
theorem Kr {o:Oper} {d s:Nat} (h:Gi o=some (d,s)):(o.op=.move (.tmp s)\/∃n,o.op=.extract (.tmp s) n)/\o.dst=some d/\o.guard=none:=by
 unfold Gi at h;grind
theorem sB {o:Oper} {d s:Nat} (h:Gi o=some (d,s)) {a a':Act} (he:a'.eval (.tmp s)=a.eval (.tmp s)):execOp a'.eval o=execOp a.eval o:=by
 obtain⟨h1|⟨n,h1⟩,_,_⟩:=Kr h
 ·simp only[execOp,h1,he]
 ·simp only[execOp,h1,he]
theorem N1 {o:Oper} {d s:Nat} (h:Gi o=some (d,s)) {a:Act} {w w':World} {x:Next} (hr:(execOp a.eval o).run P w=.ok x w'):∃u,x=.value u/\w'=w/\∀w2,(execOp a.eval o).run P w2=.ok (.value u) w2:=by
 obtain⟨h1|⟨n,h1⟩,_,_⟩:=Kr h
 ·simp only[execOp,h1]at hr ⊢;cases hr;exact⟨_,rfl,rfl,fun _=>rfl⟩
 ·simp only[execOp,h1]at hr ⊢;unfold Instr.extract at hr ⊢;split at hr
  ·rename_i vs hv;split at hr
   ·rename_i v hx;cases hr;exact⟨v,rfl,rfl,fun _=>rfl⟩
   ·cases hr
  ·cases hr
theorem TQ {o:Oper} {a:Act} {w:World} {N:Act->World->Prop} {d s:Nat} (h:GN P a o w N) (hm:Gi o=some (d,s)):∃u,(∀w2,(execOp a.eval o).run P w2=.ok (.value u) w2)/\N (a.put (some d) u) w:=by
 obtain⟨_,hd,_⟩:=Kr hm;rcases h.2 with ⟨u,w',h1,h2⟩|⟨w',h1,h2⟩|⟨f,args,w',h1,h2⟩|⟨l,f,tmps,assign,body,w',h1,h2⟩
 ·grind [N1]
 ·grind [N1]
 ·grind [N1]
 grind [N1]
theorem PP {ops:Array Oper} {o:Oper} {a:Act} {d s:Nat} (hm:Gi o=some (d,s)):Region.wanted o (yielded ops a.tmps)=true:=by
 obtain⟨_,_,hg⟩:=Kr hm;simp[Region.wanted,hg]
theorem N2 {F:Fence} {n:Nat} {ops:Array Oper} {md:Region.Mode} {Q Q':Exit->Act->World->Prop} (h:∀e a w,Q' e a w->Q e a w) :
  ∀(fuel:Nat) (listed:Array Bool) (a:Act) (w:World),wpAnyIn F n P md ops Q' fuel listed a w->wpAnyIn F n P md ops Q fuel listed a w
 |0,listed,a,w,hw=>⟨hw.1,h _ _ _ hw.2⟩
 |fuel+1,listed,a,w,hw=>by
   refine⟨fun hr=>h _ _ _ (hw.1 hr),fun i hi=>?_⟩;have h1:=wpOpIn_mono (fun a' w'=>N2 h fuel (listed.setIfInBounds i true) a' w') (hw.2 i hi);unfold wpOpIn at *;split
   ·grind
   ·rename_i o ho;simp only[ho]at h1;split
    ·rename_i hwd;simp only[hwd,if_true]at h1;unfold Oper.wpIn at *;refine⟨h1.1,?_⟩;have h2:=h1.2;generalize (o.semAt F.round a.eval).run P w=r at *;have hL:LetsOut Q'->LetsOut Q:=fun⟨a,w,q⟩=>⟨a,w,h _ _ _ q⟩;cases r with
     |ok x w' =>
       cases x<;>simp only[Oper.uponIn]at h2 ⊢<;>first|exact h2|skip
       ·grind [CallsIn.mono]
       grind [RoundIn.mono]
     |halt x w' =>
       cases x<;>simp only[Oper.uponIn]at h2 ⊢<;>first|grind|exact h2
    grind
theorem PQ {ro:Option Nat} {n:Nat} {ops:Array Oper} {Q:Exit->Act->World->Prop} {j:Nat} {oj:Oper} (hj:ops[j]? = some oj) {d s:Nat} {v:Value} (h1:d ∉ oj.looksAt ops) (h2:oj.dst≠some d) (h3:oj.dst≠some s) (h4:∀c,oj.op ≠ .defer c) (h5:∀cs b,oj.op ≠ .select cs b)
  (hQ:∀c a w,¬ Q (.panic c) a w) {K:Act->World->Prop} {a:Act} {w:World} (h:wpOpIn (W ro) n P ops Q j K (a.put (some d) v) w) :
  wpOpIn (W ro) n P ops Q j (fun a' w'=>a'.eval (.tmp s)=a.eval (.tmp s)/\K (a'.put (some d) v) w') a w:=by
 have h1':∀t,some d=some t->t ∉ oj.looksAt ops:=(by grind);have keep:∀u,(a.put oj.dst u).eval (.tmp s)=a.eval (.tmp s):=fun u=>Act.eval_put (by grind);have swap:∀u,(a.put (some d) v).put oj.dst u=(a.put oj.dst u).put (some d) v:=fun u=>Act.put_comm a v u (by grind);unfold wpOpIn at *;simp only[hj]at *;rw[wanted_put oj a (some d) v h1',about_put oj w a (some d) v h1']at h;split
 ·rename_i hw;simp only[hw,if_true]at h;unfold Oper.wpIn at *;rw[about_put oj w a (some d) v h1']at h;refine⟨h.1,?_⟩;have h:=h.2;rw[Oper.semAt_eq _ _ _ h4,execOp_put oj h5 a (some d) v h1']at h;rw[Oper.semAt_eq _ _ _ h4];generalize (execOp a.eval oj).run P w=r at *;cases r with
  |ok x w' =>
    cases x<;>simp only[Oper.uponIn]at h ⊢
    case value u=>grind
    case skip=>grind
    case defer q =>
     refine⟨Act.eval_put (a:={ a with defers:=q::a.defers }) (by grind),?_⟩;grind [Act.put_comm,Act.put_defers]
    case enter f args =>
     grind
    case row row args=>grind
    grind
  |halt x w' =>
    cases x<;>simp only[Oper.uponIn]at h ⊢;grind
 grind
theorem PR {ops:Array Oper} (h:Iy ops=true) {j:Nat} {o:Oper} (ho:ops[j]? = some o):(∀c,o.op ≠ .defer c)/\∀cs b,o.op ≠ .select cs b:=by
 have:=AiK.1 h o (by grind);grind
theorem sC {ops:Array Oper} {i:Nat} {oi:Oper} {d s:Nat} (hi:ops[i]? = some oi) (hm:Gi oi=some (d,s)) (h:Ko ops i=true) :
  ∀(j:Nat) (oj:Oper),ops[j]? = some oj->j≠i->(∀e,e∈oj.after->Region.binds .any e=true->e.on≠i)->(∀e,e∈oi.after->Region.binds .any e=true->e.on≠j)->d ∉ oj.looksAt ops/\oj.dst≠some d/\oj.dst≠some s:=by
 unfold Ko at h;grind
theorem PS {ro:Option Nat} {n:Nat} {ops:Array Oper} {Q:Exit->Act->World->Prop} {i:Nat} {oi:Oper} {d s:Nat} (hi:ops[i]? = some oi) (hm:Gi oi=some (d,s)) (hl:Ko ops i=true) (hp:Iy ops=true) (hQ:∀c a w,¬ Q (.panic c) a w) {u:Value} :
  ∀(fuel:Nat) (listed:Array Bool) (a:Act) (w:World),listed.getD i true=false->(∀e,e∈oi.after->Region.binds .any e=true->listed.getD e.on false=true)->(∀w2,(execOp a.eval oi).run P w2=.ok (.value u) w2) ->
    wpAnyIn (W ro) n P .any ops Q fuel (listed.setIfInBounds i true) (a.put (some d) u) w->wpAnyIn (W ro) n P .any ops Q (fuel+1) listed a w:=by
 have l2:=sC hi hm hl;obtain⟨m1,m2,m3⟩:=Kr hm;have ready:∀listed:Array Bool,listed.getD i true=false->(∀e,e∈oi.after->Region.binds .any e=true->listed.getD e.on false=true)->i∈Region.ready .any ops listed:=fun listed h k=>mem_ready.2 ⟨h,oi,hi,k⟩;have nodef:∀c,oi.op ≠ .defer c:=(by grind);have now:∀{K:Act->World->Prop} {a:Act} {w:World},(∀w2,(execOp a.eval oi).run P w2=.ok (.value u) w2)->K (a.put (some d) u) w->wpOpIn (W ro) n P ops Q i K a w:=fun {K a w} hr h=>by
  unfold wpOpIn;rw[hi];simp only[PP hm,if_true];refine⟨fun _ _=>trivial,?_⟩;rw[Oper.semAt_eq _ _ _ nodef,hr];show K (a.put oi.dst _) w;grind
 intro fuel
 induction fuel with
 |zero =>
   intro listed a w hun haf hr H;refine⟨(by grind),fun j hj=>?_⟩
   by_cases hji:j=i
   ·grind
   ·have:=ready_mono hj hji;rw[H.1]at this;cases this
 |succ fuel ih =>
   intro listed a w hun haf hr H;refine⟨(by grind),fun j hj=>?_⟩
   by_cases hji:j=i
   ·grind
   ·have h1:=H.2 j (ready_mono hj hji);obtain⟨hju,oj,hoj,hall⟩:=mem_ready.1 hj;have hno:∀e,e∈oj.after->Region.binds .any e=true->e.on≠i:=(by grind);have hno2:∀e,e∈oi.after->Region.binds .any e=true->e.on≠j:=(by grind);obtain⟨p1,p2,p3⟩:=l2 j oj hoj hji hno hno2;obtain⟨p4,p5⟩:=PR hp hoj;have h2:=PQ hoj p1 p2 p3 p4 p5 hQ h1;refine wpOpIn_mono (fun a' w' h3=>?_) h2;obtain⟨h3,h4⟩:=h3;refine ih (listed.setIfInBounds j true) a' w' (by rw[getD_set_ne true hji];exact hun) (fun e he hb=>EC (haf e he hb)) (fun w2=>by grind [sB]) ?_;grind [Array.setIfInBounds_comm]
theorem Ks {l:List (Nat×Ah)} {k k':Nat} {o o':Ah} (h:(k',o')∈l) (hn:k'≠k):(k',o')∈Cl l k o:=Ah2.2 ⟨(k',o'),h,by simp[hn]⟩
theorem TR {k:Nat}:∀(cs:List EV) (off:Nat) (e:EV),EV.names.namesL k cs=false->e.names k=false->EV.names.namesL k (cs.set off e)=false
 |[],_,_,h,_=>h
 |c::cs,0,e,h,he=>by
   simp only[EV.names.namesL,AhJ,List.set_cons_zero]at h ⊢;grind
 |c::cs,off+1,e,h,he=>by
   simp only[EV.names.namesL,AhJ,List.set_cons_succ]at h ⊢;exact⟨h.1,TR cs off e h.2 he⟩
theorem TS {k:Nat}:∀(l:List EV) (cs:List EV) (off:Nat),EV.names.namesL k cs=false->(∀e,e∈l->e.names k=false)->EV.names.namesL k (EJ cs off l)=false
 |[],cs,off,h,_=>h
 |e::l,cs,off,h,hl=>TS l _ _ (TR cs off e h (hl e (by simp))) (by grind)
theorem TT {k:Nat}:∀{l:List EV},(Dc l).isSome=true->∀e,e∈l->e.names k=false
 |[],_,e,h=>by cases h
 |c::l,h,e,he=>by
   cases c with
   |p s =>
     simp only[Dc,Option.isSome_map]at h;rcases Ah4.1 he with rfl|he
     ·rfl
     ·exact TT h e he
   |_=>simp[Dc]at h
theorem HN {l:Array Bool} {i j:Nat} (h:j≠i):(l.setIfInBounds i true).getD j false=l.getD j false:=by
 rw[LS,Ais,if_neg (fun e=>h e.symm),LS]
theorem sD (hG:Br G) {C:Aj} (hC:EB P G C) {ro:Option Nat} {n:Nat} {ops:Array Oper} {Q:Exit->Act->World->Prop} {K:St->Prop} (hK:∀st a w,K st->AO P G st a w->Q .normal a w) (hQ:∀c a w,¬ Q (.panic c) a w)
  {st:St} (h:Nt P C ops st K) {a:Act} {w:World} (hs:AO P G st a w):wpAnyIn (W ro) n P .any ops Q ops.size (AhZ ops.size false) a w:=by
 unfold Nt TI at h;generalize hstf:(st.noGuards ops.toList).forgets (F9 P ops.toList)=stf at h;generalize hE:PG ops stf.own=E at h;generalize PI P C ops E ops.toList (stf.minus ops)=k at h;split at h
 ·rename_i hchk0;simp only[pR]at hchk0;obtain⟨hchk,hsuf⟩:=hchk0;obtain⟨Z,eZ⟩:∃Z,PJ ops k=Z:=⟨_,rfl⟩;rw[eZ]at hsuf;have hZ:∀z,z∈Z->z<k/\z<ops.size/\Ko ops z=true/\Iy ops=true:=fun z hz=>by
   rw[<- eZ]at hz;unfold PJ at hz;split at hz
   ·rename_i hc;rw[pR]at hc;obtain⟨h1,h2⟩:=rK.1 hz;rw[pR]at h2;have:=AhB.1 h1;have h3:k<ops.size:=of_decide_eq_true hc.1;exact⟨this,by omega,h2.1,hc.2⟩
   ·cases hz
  have taken:∀{i:Nat} {o:Oper},i<k->ops[i]? = some o->(ops.toList.take k)[i]? = some o:=fun hi h=>by rw[List.getElem?_take,if_pos hi];simpa using h
  have untake:∀{i:Nat} {o:Oper},(ops.toList.take k)[i]? = some o->i<k/\ops[i]? = some o:=fun {i o} h=>by
   rw[List.getElem?_take]at h;split at h
   ·exact⟨by assumption,by simpa using h⟩
   ·cases h
  split at h
  ·rename_i ps es stF hgo;split at h;rotate_left
   ·exact h.elim
   rename_i hac;obtain⟨hac,hnda⟩:=Bool.and_eq_true_iff.1 hac;have hnda:=F8 hnda;obtain⟨hps,hKF⟩:=BD h;generalize hst0:stf.minus ops=st00 at *;have hstT:∀x,x∈st00.T->x∈(st.noGuards ops.toList).T/\∀d,d∈F9 P ops.toList->x.2.v.names d=false:=fun x hx=>by rw[<- hst0]at hx;have hx:x∈stf.T:=hx;rw[<- hstf]at hx;exact rW _ hx
   have hstO:=rV (st.noGuards ops.toList) (F9 P ops.toList);rw[hstf]at hstO;have h0T:∀x,x∈st00.T↔x∈stf.T:=fun x=>by rw[<- hst0];exact Iff.rfl
   have h0O:∀x,x∈st00.own↔x∈stf.own/\(Hv ops x.1&&Kn x.2)=false:=fun x=>by
    rw[<- hst0];show x∈stf.own.filter _↔_;rw[rK,Aib]
   have hEm:∀x,x∈E↔x∈stf.own/\(Hv ops x.1&&Kn x.2)=true:=fun x=>by
    rw[<- hE];exact rK
   have h0yk:st00.yk=stf.yk/\st00.stop=stf.stop/\st00.nt=stf.nt:=by rw[<- hst0];exact⟨rfl,rfl,rfl⟩
   obtain⟨hlen,⟨twF,hF⟩,hat⟩:=TL _ _ _ _ _ hgo;have hchk':=fun i o hi=>PM (ops.toList.take k) 0 hchk i o hi;simp only[AhO]at hchk';have oper:∀{i:Nat} {o:Oper},ops[i]? = some o->ops.toList[i]? = some o:=fun h=>by simpa using h
   have noG:∀x,x∈st00.T->∀(j:Nat) (oj:Oper) d,ops[j]? = some oj->oj.dst=some d->x.2.by d=false:=fun x hx j oj d hj hd=>by
    have h1:=(rK.1 (hstT x hx).1).2;simp only[Aib,List.any_eq_false]at h1;have:=h1 oj (Aiz (oper hj));rw[hd]at this;simpa using this
   have hsub:AO P G stf a w:=by
    obtain⟨env,M,X,S⟩:=hs;exact⟨env,M,X,S.sub (fun x hx=>(rK.1 (hstT x ((h0T x).2 hx)).1).1) (fun _ hx=>by rw[hstO.1]at hx;exact hx) (by rw[hstO.1];exact S.nod) hstO.2.1 hstO.2.2.2⟩
   have hndf:(stf.own.map (·.1)).Nodup:=by obtain⟨_,_,_,S⟩:=hsub;exact S.nod
   have hnd0:(st00.own.map (·.1)).Nodup:=by
    rw[<- hst0];exact hndf.sublist (List.Sublist.map _ List.filter_sublist)
   have hkey:∀x y,x∈stf.own->y∈stf.own->x.1=y.1->x=y:=fun x y hx hy e=>by
    have h1:=GP (k:=x.1) (o:=x.2) hndf hx;have h2:=GP (k:=y.1) (o:=y.2) hndf hy;rw[e,h2]at h1;injection h1 with h1;exact Prod.ext e h1.symm
   have exNo:∀(d:Nat),Hv ops d=true->∀(j:Nat) (oj:Oper),ops[j]? = some oj->oj.dst≠some d:=fun d hd j oj hj hdst=>by
    unfold Hv at hd;simp only[pR,Aib,List.any_eq_false]at hd;exact hd.2.2 oj (Aiz (oper hj)) (by simp[Iw,hdst])
   have stA:∀(js:Nat) (os:Oper) (t:TypeId) (d:Nat) (x:Operand),js<k->ops[js]? = some os->FA os=some (t,d,x)->ops.toList.any (Kk t d)=true->∃(i0:Nat) (o0:Oper),i0<js/\ops[i0]? = some o0/\o0.dst=some d/\∃e,e∈os.after/\Region.binds .any e=true/\e.on=i0:=by
    intro js os t d x hjk hj hs hmade;obtain⟨sti,psi,e,hstep,_,_,_,hTi⟩:=hat js os (taken hjk hj);obtain⟨y,hy,hb,_⟩:=Nv hs hstep;have hdd:d∈F9 P ops.toList:=by
     obtain⟨om,hm1,hm2⟩:=List.any_eq_true.1 hmade;unfold Kk at hm2;split at hm2
     ·rename_i t' d' h1 h2;simp only[pR,beq_iff_eq]at hm2;obtain⟨rfl,rfl⟩:=hm2;refine Ny (o:=om) (o':=.blk t' (y.zero.cells.toList.map fun v=>.p (Cx v))) hm1 ?_;unfold C7;rw[h1,h2];simp[hy]
     ·cases hm2
    obtain⟨en,hen,hev⟩:∃en,GG (sti.only (CK ops os)).T d=some en/\en.v=.loc d 0:=by
     unfold St.rho St.ent at hb;simp only at hb;split at hb
     ·rename_i en hen;split at hb
      ·injection hb with hb;exact⟨en,hen,hb⟩
      ·cases hb
     ·cases hb
    have hm:=HE hen;obtain⟨hm1,hm2⟩:=rK.1 hm;have hds:d∈CK ops os:=by simpa using hm2
    rcases hTi _ hm1 with ⟨h1,_⟩|⟨j,oj,hlt,hj',hd,_⟩
    ·have:=(hstT _ h1).2 d hdd;simp only[hev]at this;simp[EV.names]at this
    ·have:=((hchk' js os (taken hjk hj)).2 j oj d (by omega) hj' hd).2.1 hds;rw[if_pos hlt]at this;obtain⟨e',he',hb',hon⟩:=Jt this;exact⟨j,oj,hlt,(untake hj').2,hd,e',he',hb',hon⟩
   have plainC:∀(js:Nat) (os:Oper) (t:TypeId) (d:Nat) (x:Operand) (e:AK),js<k->ops[js]? = some os->FA os=some (t,d,x)->es[js]? = some e->(Dc (BS e.v)).isSome=true:=by
    intro js os t d x e hjk hj hs he;obtain⟨sti,psi,e',hstep,hes,_,_,_⟩:=hat js os (taken hjk hj);rw[he]at hes;cases hes;obtain⟨_,_,_,_,_,_,_,_,_,_,hp⟩:=Nv hs hstep;exact hp
   have contN:∀(q:Nat->Bool) (z:Nat×Ah),(∀j,q j=true->j<k)->∀k',z.2.names k'=false->(Cn ops es q z).2.names k'=false:=by
    intro q z hq k' hz;unfold Cn;split
    ·rename_i t cs j h1 h2;split
     ·rename_i e hqj hej;obtain⟨os,t',x',hos,hso⟩:=G0 h2;have hz':=hz;rw[h1]at hz';exact TS _ _ _ hz' (TT (plainC j os t' z.1 x' e (hq j hqj) hos hso hej))
     ·exact hz
    ·exact hz
   have step : ∀(listed : Array Bool) (a : Act) (w : World), Ju P G ops E st00 es listed a w->(∀i, listed.getD i false = true->i<k)->∀(i:Nat) (o : Oper), i<k->ops[i]? = some o->listed.getD i false = false->(∀e, e∈o.after->Region.binds .any e = true->listed.getD e.on false = true) ->
    (Region.wanted o (yielded ops a.tmps)=true->GN P a o w (fun a' w'=>Ju P G ops E st00 es (listed.setIfInBounds i true) a' w'))/\(¬ Region.wanted o (yielded ops a.tmps)=true->Ju P G ops E st00 es (listed.setIfInBounds i true) (a.put o.dst undef) w):=by
    intro listed a w inv hpre i o hik ho hunl hafter;have hisz:=(AhE.1 ho).1;have hilt:i<listed.size:=by rw[inv.siz];exact hisz
    obtain⟨c1,c2⟩:=hchk' i o (taken hik ho);obtain⟨sti,psi,e,hstep,hes,hpsi,twi,hTi⟩:=hat i o (taken hik ho);obtain⟨st2,tw,hO,hT,env,M,X,S⟩:=inv.sat;have S2:Al P G (sti.only (CK ops o)) a w env M X:=by
     refine S.sub (fun x hx=>(hT x).2 ?_) (fun x hx=>(hO x).2 (.inl (by rw[<- twi.1];exact hx))) (by show(sti.own.map (·.1)).Nodup;rw[twi.1];exact hnd0) (twi.2.1.trans tw.1.symm) (twi.2.2.2.trans tw.2.2.symm);obtain⟨hx1,hx2⟩:=rK.1 hx;have hx2:x.1∈CK ops o:=by simpa using hx2
     rcases hTi x hx1 with ⟨h1,h2⟩|⟨j,oj,hlt,hj,hd,he⟩
     ·refine .inl ⟨h1,fun j oj hj hl hd=>?_⟩;have hne:j≠i:=fun e=>by subst e;rw[hunl]at hl;cases hl
      rcases Aio j i with hlt|hge
      ·exact h2 j oj hlt (taken (hpre j hl) hj) hd
      ·have:=(c2 j oj _ hne (taken (hpre j hl) hj) hd).2.1 hx2;rw[if_neg (by omega)]at this;obtain⟨e',he',hb',hon⟩:=Jt this;have:=inv.clo j oj hj hl e' he' hb';rw[hon,hunl]at this;cases this
     ·have hj':ops[j]? = some oj:=(untake hj).2;have:=(c2 j oj _ (by omega) hj hd).2.1 hx2;rw[if_pos hlt]at this;obtain⟨e',he',hb',hon⟩:=Jt this;have hl:=hafter e' he' hb';rw[hon]at hl;exact .inr ⟨j,oj,hj',hl,hd,he⟩
    cases hso:FA o with
    |some sx =>
      obtain⟨t,d,x⟩:=sx;obtain⟨y,hy,hb,hx,heg,s1c,s2c,hmk,huse,hone,hplain⟩:=Nv hso hstep;obtain⟨s1,s2,s3⟩:=PL hso;have hwant:Region.wanted o (yielded ops a.tmps)=true:=by simp[Region.wanted,s3]
      have hst:=rT ho hso huse;rcases hmk with ⟨hmade,hmake⟩|⟨hex,hblk⟩;rotate_left
      ·obtain⟨t0, cs, hlE, hcs⟩: ∃t0 cs, BL E d = some (.blk t0 cs)/\y.size<=cs.length :=by
        unfold PH at hblk;split at hblk
        ·rename_i t0 cs hl;exact⟨t0,cs,hl,of_decide_eq_true hblk⟩
        ·cases hblk
       have hdE:=Bp hlE;have hdf:=((hEm _).1 hdE).1;have hmem:(d,Ah.blk t0 cs)∈st2.own:=(hO _).2 (.inr (.inr ⟨_,hdE,(LU (fun j hj=>by rw[hst]at hj;cases hj;exact hunl)).symm⟩));have hlk:=GP S.nod hmem;have hsym:Hn st2 y (.loc d 0) e.v=some ([],{ st2 with own:=Cl st2.own d (.blk t0 (EJ cs 0 (BS e.v))) }):=by
        simp only[Hn,hlk];rw[if_pos ⟨s1c,by omega,hone⟩]
       obtain⟨w',hr,S'⟩:=Pv hG S hy hsym Lh (Bc S2 (gd:=none) (fun _ _ _ h=>(by cases h)) trivial hb) (Bc S2 (gd:=none) (fun _ _ _ h=>(by cases h)) trivial hx);refine⟨fun _=>⟨fun c hc=>(by rw[s1]at hc;cases hc),.inr (.inl ⟨w',(by simp only[execOp,s1];exact L7 hr),?_⟩)⟩,fun hn=>absurd hwant hn⟩;rw[s2];have hcg:∀y':Nat×Ah,y'.1≠d->Cn ops es (fun j=>(listed.setIfInBounds i true).getD j false) y'=Cn ops es (fun j=>listed.getD j false) y':=fun y' hyd=>Js fun js hjs=>HN fun e=>by
        subst e;obtain⟨o',t',x',ho',hs'⟩:=G0 hjs;rw[ho]at ho';cases ho';rw[hso]at hs';cases hs';exact hyd rfl
       have hnew:Cn ops es (fun j=>(listed.setIfInBounds i true).getD j false) (d,.blk t0 cs)=(d,.blk t0 (EJ cs 0 (BS e.v))):=by
        unfold Cn;simp only[hst,Hx hilt,hes]
       refine⟨by simpa using inv.siz,fun j oj hj hl e' he' hb'=>?_,{ st2 with own:=Cl st2.own d (.blk t0 (EJ cs 0 (BS e.v))) },⟨tw.1,tw.2.1,tw.2.2⟩,fun z=>⟨fun hz=>?_,fun hz=>?_⟩,fun z=>⟨fun hz=>?_,fun hz=>?_⟩,env,M,X,S'⟩
       ·rcases Fo hl with rfl|hl
        ·rw[ho]at hj;cases hj;exact EC (hafter e' he' hb')
        ·exact EC (inv.clo j oj hj hl e' he' hb')
       ·rcases EM (k':=z.1) (o':=z.2) hz with ⟨h1,h2,_⟩|⟨h1,h2⟩
        ·refine .inr (.inr ⟨_,hdE,?_⟩);rw[hnew];exact Prod.ext h1 h2
        ·rcases(hO z).1 h2 with h|⟨j,oj,hj,hl,y',hy',rfl⟩|⟨y',hy',rfl⟩
         ·exact .inl h
         ·rw[G1]at h1;exact .inr (.inl ⟨j,oj,hj,EC hl,y',hy',(hcg y' h1).symm⟩)
         ·rw[G1]at h1;exact .inr (.inr ⟨y',hy',(hcg y' h1).symm⟩)
       ·rcases hz with h|⟨j,oj,hj,hl',y',hy',rfl⟩|⟨y',hy',rfl⟩
        ·have hzd : z.1≠d :=fun ed =>by
          obtain⟨q1,q2⟩:=(h0O z).1 h;have:=hkey z _ q1 hdf ed;rw[this,hex]at q2;cases q2
         exact Ks (k':=z.1) (o':=z.2) ((hO z).2 (.inl h)) hzd
        ·obtain⟨e1,e2⟩:=Kq (d:=y'.1) (o':=y'.2) hy';have hyd:y'.1≠d:=fun ed=>exNo d hex j oj hj (by rw[e1,ed]);rcases Fo hl' with rfl|hl
         ·rw[ho]at hj;cases hj;unfold C7 at hy';rw[s1]at hy';cases hy'
         ·rw[hcg y' hyd];exact Ks (k':=(Cn ops es (fun j=>listed.getD j false) y').1) (o':=(Cn ops es (fun j=>listed.getD j false) y').2) ((hO _).2 (.inr (.inl ⟨j,oj,hj,hl,y',hy',rfl⟩))) (by rw[G1];exact hyd)
        ·by_cases hyd:y'.1=d
         ·have:=hkey y' _ ((hEm y').1 hy').1 hdf hyd;subst this;rw[hnew];exact P4 hmem
         ·rw[hcg y' hyd];exact Ks (k':=(Cn ops es (fun j=>listed.getD j false) y').1) (o':=(Cn ops es (fun j=>listed.getD j false) y').2) ((hO _).2 (.inr (.inr ⟨y',hy',rfl⟩))) (by rw[G1];exact hyd)
       ·rcases(hT z).1 hz with ⟨h1,h2⟩|⟨j,oj,hj,hl,hd,he⟩
        ·refine .inl ⟨h1,fun j oj hj hl hd=>?_⟩;rcases Fo hl with rfl|hl
         ·rw[ho]at hj;cases hj;rw[s2]at hd;cases hd
         ·exact h2 j oj hj hl hd
        ·exact .inr ⟨j,oj,hj,EC hl,hd,he⟩
       ·refine(hT z).2 ?_;rcases hz with ⟨h1,h2⟩|⟨j,oj,hj,hl',hd,he⟩
        ·exact .inl ⟨h1,fun j oj hj hl=>h2 j oj hj (EC hl)⟩
        ·rcases Fo hl' with rfl|hl
         ·rw[ho]at hj;cases hj;rw[s2]at hd;cases hd
         ·exact .inr ⟨j,oj,hj,hl,hd,he⟩
      obtain⟨i0,o0,hi0,ho0,hd0,e0,he0,hb0,hon0⟩:=stA i o t d x hik ho hso hmade;have hl0:listed.getD i0 false=true:=by rw[<- hon0];exact hafter e0 he0 hb0
      have hnew0:C7 P o0 = [(d,.blk t (y.zero.cells.toList.map fun v=>.p (Cx v)))]:=by
       obtain⟨om,hm1,hm2⟩:=List.any_eq_true.1 hmade;obtain⟨im,him⟩:=List.getElem?_of_mem hm1;have hm3:=hm2;unfold Kk at hm3;split at hm3
       ·rename_i t' d' h1 h2;simp only[pR,beq_iff_eq]at hm3;obtain⟨rfl,rfl⟩:=hm3;have:=Nw hmake him (oper ho0) (by simp[Iw,h2]) (by simp[Iw,hd0]);subst this;rw[oper ho0]at him;cases him;unfold C7;rw[h1,h2];simp[hy]
       ·cases hm3
      have hmem:(d,Ah.blk t (y.zero.cells.toList.map fun v=>.p (Cx v)))∈st2.own:=(hO _).2 (.inr (.inl ⟨i0,o0,ho0,hl0,_,by rw[hnew0];exact Ah9.2 rfl,(LU (fun j hj=>by rw[hst]at hj;cases hj;exact hunl)).symm⟩));have hlk:=GP S.nod hmem;have hsym:Hn st2 y (.loc d 0) e.v=some ([],{ st2 with own:=Cl st2.own d (.blk t (EJ (y.zero.cells.toList.map fun v=>.p (Cx v)) 0 (BS e.v))) }):=by
       simp only[Hn,hlk];rw[if_pos ⟨s1c,by simp[s2c],hone⟩]
      obtain⟨w',hr,S'⟩:=Pv hG S hy hsym Lh (Bc S2 (gd:=none) (fun _ _ _ h=>(by cases h)) trivial hb) (Bc S2 (gd:=none) (fun _ _ _ h=>(by cases h)) trivial hx);refine⟨fun _=>⟨fun c hc=>(by rw[s1]at hc;cases hc),.inr (.inl ⟨w',(by simp only[execOp,s1];exact L7 hr),?_⟩)⟩,fun hn=>absurd hwant hn⟩;rw[s2];refine⟨by simpa using inv.siz,fun j oj hj hl e' he' hb'=>?_,{ st2 with own:=Cl st2.own d (.blk t (EJ (y.zero.cells.toList.map fun v=>.p (Cx v)) 0 (BS e.v))) },⟨tw.1,tw.2.1,tw.2.2⟩,fun z=>⟨fun hz=>?_,fun hz=>?_⟩,fun z=>⟨fun hz=>?_,fun hz=>?_⟩,env,M,X,S'⟩
      ·rcases Fo hl with rfl|hl
       ·rw[ho]at hj;cases hj;exact EC (hafter e' he' hb')
       ·exact EC (inv.clo j oj hj hl e' he' hb')
      ·rcases EM (k':=z.1) (o':=z.2) hz with ⟨h1,h2,_⟩|⟨h1,h2⟩
       ·refine .inr (.inl ⟨i0,o0,ho0,EC hl0,_,by rw[hnew0];exact Ah9.2 rfl,?_⟩);unfold Cn;simp only[hst,Hx hilt,hes];exact Prod.ext h1 h2
       ·rcases(hO z).1 h2 with h|⟨j,oj,hj,hl,y',hy',rfl⟩|⟨y',hy',rfl⟩
        ·exact .inl h
        ·refine .inr (.inl ⟨j,oj,hj,EC hl,y',hy',Js fun js hjs=>(HN fun e=>?_).symm⟩);subst e;obtain⟨o',t',x',ho',hs'⟩:=G0 hjs;rw[ho]at ho';cases ho';rw[hso]at hs';cases hs';rw[G1]at h1;exact h1 rfl
        ·refine .inr (.inr ⟨y',hy',Js fun js hjs=>(HN fun e=>?_).symm⟩);subst e;obtain⟨o',t',x',ho',hs'⟩:=G0 hjs;rw[ho]at ho';cases ho';rw[hso]at hs';cases hs';rw[G1]at h1;exact h1 rfl
      ·rcases hz with h|⟨j,oj,hj,hl',y',hy',rfl⟩|⟨y',hy',rfl⟩
       ·have hdd:d∈F9 P (ops.toList.take k):=Ny (o:=o0) (o':=.blk t (y.zero.cells.toList.map fun v=>.p (Cx v))) (Aiz (taken (hpre i0 hl0) ho0)) (by rw[hnew0];exact Ah9.2 rfl);obtain⟨n1,_⟩:=Nz hac d hdd;exact Ks (k':=z.1) (o':=z.2) ((hO z).2 (.inl h)) (Hq (k':=z.1) (o:=z.2) n1 ((h0O z).1 h).1).1
       ·rcases Fo hl' with rfl|hl
        ·rw[ho]at hj;cases hj;unfold C7 at hy';rw[s1]at hy';cases hy'
        ·obtain⟨e1,e2⟩:=Kq (d:=y'.1) (o':=y'.2) hy'
         by_cases hyd:y'.1=d
         ·have:=Nw hmake (oper hj) (oper ho0) (by simp[Iw,e1,hyd]) (by simp[Iw,hd0]);subst this;rw[hj]at ho0;cases ho0;rw[hnew0]at hy';have hy':=Ah9.1 hy';subst hy';have:Cn ops es (fun j=>(listed.setIfInBounds i true).getD j false) (d,.blk t (y.zero.cells.toList.map fun v=>.p (Cx v)))=(d,.blk t (EJ (y.zero.cells.toList.map fun v=>.p (Cx v)) 0 (BS e.v))):=by
           unfold Cn;simp only[hst,Hx hilt,hes]
          rw[this];exact P4 hmem
         ·have hc : Cn ops es (fun j =>(listed.setIfInBounds i true).getD j false) y' = Cn ops es (fun j =>listed.getD j false) y' :=Js fun js hjs =>HN fun e =>by
           subst e;obtain⟨o',t',x',ho',hs'⟩:=G0 hjs;rw[ho]at ho';cases ho';rw[hso]at hs';cases hs';exact hyd rfl
          rw[hc];exact Ks (k':=(Cn ops es (fun j=>listed.getD j false) y').1) (o':=(Cn ops es (fun j=>listed.getD j false) y').2) ((hO _).2 (.inr (.inl ⟨j,oj,hj,hl,y',hy',rfl⟩))) (by rw[G1];exact hyd)
       ·have hyd : y'.1≠d :=fun ed =>by
         have hx1:=((hEm y').1 hy').2;rw[pR,ed]at hx1;exact exNo d hx1.1 i0 o0 ho0 hd0
        have hc:Cn ops es (fun j=>(listed.setIfInBounds i true).getD j false) y'=Cn ops es (fun j=>listed.getD j false) y':=Js fun js hjs=>HN fun e=>by
         subst e;obtain⟨o',t',x',ho',hs'⟩:=G0 hjs;rw[ho]at ho';cases ho';rw[hso]at hs';cases hs';exact hyd rfl
        rw[hc];exact Ks (k':=(Cn ops es (fun j=>listed.getD j false) y').1) (o':=(Cn ops es (fun j=>listed.getD j false) y').2) ((hO _).2 (.inr (.inr ⟨y',hy',rfl⟩))) (by rw[G1];exact hyd)
      ·rcases(hT z).1 hz with ⟨h1,h2⟩|⟨j,oj,hj,hl,hd,he⟩
       ·refine .inl ⟨h1,fun j oj hj hl hd=>?_⟩;rcases Fo hl with rfl|hl
        ·rw[ho]at hj;cases hj;rw[s2]at hd;cases hd
        ·exact h2 j oj hj hl hd
       ·exact .inr ⟨j,oj,hj,EC hl,hd,he⟩
      ·refine(hT z).2 ?_;rcases hz with ⟨h1,h2⟩|⟨j,oj,hj,hl',hd,he⟩
       ·exact .inl ⟨h1,fun j oj hj hl=>h2 j oj hj (EC hl)⟩
       ·rcases Fo hl' with rfl|hl
        ·rw[ho]at hj;cases hj;rw[s2]at hd;cases hd
        ·exact .inr ⟨j,oj,hj,hl,hd,he⟩
    |none =>
    have hns:∀js,(∃o' t' d' x',ops[js]? = some o'/\FA o'=some (t',d',x'))->js≠i:=fun js ⟨o',t',d',x',ho',hs'⟩ e=>by
     subst e;rw[ho]at ho';cases ho';rw[hso]at hs';cases hs'
    have hcong:∀z:Nat×Ah,Cn ops es (fun j=>(listed.setIfInBounds i true).getD j false) z=Cn ops es (fun j=>listed.getD j false) z:=fun z=>Js fun js hjs=>HN (hns js (by
     obtain⟨o',t',x',h1,h2⟩:=G0 hjs;exact⟨o',t',_,x',h1,h2⟩))
    have hself:∀z,z∈C7 P o->Cn ops es (fun j=>(listed.setIfInBounds i true).getD j false) z=z:=fun z hz=>LU fun js hjs=>by
     obtain⟨o',t',x',ho',hs'⟩:=G0 hjs;have hne:=hns js ⟨o',t',_,x',ho',hs'⟩;rw[HN hne];cases hl:listed.getD js false with
     |false=>rfl
     |true =>
       exfalso;obtain⟨e1',_⟩:=Kq (d:=z.1) (o':=z.2) hz;have hmd:ops.toList.any (Kk t' z.1)=true:=by
        obtain⟨stj,psj,ej,hstepj,_⟩:=hat js o' (taken (hpre js hl) ho');obtain⟨_,_,_,_,_,_,_,hmk,_⟩:=Nv hs' hstepj;rcases hmk with h|h
        ·exact h.1
        ·exact absurd e1' (exNo z.1 h.1 i o ho)
       obtain⟨i0,o0,_,ho0,hd0,e0,he0,hb0,hon0⟩:=stA js o' t' z.1 x' (hpre js hl) ho' hs' hmd;have hl0:=inv.clo js o' ho' hl e0 he0 hb0;rw[hon0]at hl0;obtain⟨e1,_⟩:=Kq (d:=z.1) (o':=z.2) hz
       by_cases e:i0=i
       ·subst e;rw[hunl]at hl0;cases hl0
       ·exact(c2 i0 o0 _ e (taken (hpre i0 hl0) ho0) hd0).1 e1
    have hfree:∀d o',(d,o')∈C7 P o->st2.noName d=true/\∀x,x∈st2.T->x.2.v.names d=false:=fun d o' hm=>by
     have hod:=(Kq hm).1;obtain⟨n1,n2⟩:=Nz hac d (Ny (Aiz (taken hik ho)) hm);have hdd:d∈F9 P ops.toList:=Ny (Aiz (oper ho)) hm;refine⟨AhC.2 fun y hy=>?_,fun x hx=>?_⟩
     ·rcases(hO y).1 hy with h|⟨j,oj,hj,hl,z,hz,rfl⟩|⟨z,hz,rfl⟩
      ·obtain⟨q1,q2⟩:=Hq (k':=y.1) (o:=y.2) n1 ((h0O y).1 h).1;simp[q1,q2]
      rotate_left
      ·obtain⟨q1,q2⟩:=Hq (k':=z.1) (o:=z.2) n1 ((hEm z).1 hz).1;have hn:=contN (fun j=>listed.getD j false) z hpre d q2;rw[G1,hn];simp[q1]
      ·have hne:j≠i:=fun e=>by subst e;rw[hunl]at hl;cases hl
       obtain⟨e1,e2⟩:=Kq (d:=z.1) (o':=z.2) hz;have:=(c2 j oj _ hne (taken (hpre j hl) hj) e1).1;rw[hod]at this;have hyd:z.1≠d:=fun e=>this (by rw[e]);have hn:=contN (fun j=>listed.getD j false) z hpre d (e2 d);rw[G1,hn];simp[hyd]
     ·rcases(hT x).1 hx with ⟨h1,_⟩|⟨j,oj,hj,hl,hd,he⟩
      ·exact(hstT x h1).2 d hdd
      ·have hne:j≠i:=fun e=>by subst e;rw[hunl]at hl;cases hl
       rcases rX n2 (taken (hpre j hl) hj) he with h|h
       ·exact absurd hod (by
        have:=(c2 j oj _ hne (taken (hpre j hl) hj) h).1;exact this)
       ·exact h
    obtain⟨k1,k2⟩:=TJ hG hC hstep hso (fun p hp=>hps p (hpsi p hp)) (st2:=st2) (tw.2.2.trans twi.2.2.2.symm) S2 S hfree;have next:∀a' w',AO P G ((st2.add (C7 P o)).put o.dst e) a' w'->Ju P G ops E st00 es (listed.setIfInBounds i true) a' w':=fun a' w' hs'=>by
     refine⟨by simpa using inv.siz,fun j oj hj hl e' he' hb'=>?_,(st2.add (C7 P o)).put o.dst e,?_,fun x=>⟨fun hx=>?_,fun hx=>?_⟩,fun x=>⟨fun hx=>?_,fun hx=>?_⟩,hs'⟩
     ·rcases Fo hl with rfl|hl
      ·rw[ho]at hj;cases hj;exact EC (hafter e' he' hb')
      ·exact EC (inv.clo j oj hj hl e' he' hb')
     ·have:=El.put (st2.add (C7 P o)) o.dst e;exact⟨this.2.1.trans tw.1,this.2.2.1.trans tw.2.1,this.2.2.2.trans tw.2.2⟩
     ·rw[(El.put (st2.add (C7 P o)) o.dst e).1]at hx;rcases AhG.1 hx with hx|hx
      ·exact .inr (.inl ⟨i,o,ho,Hx hilt,x,hx,(hself x hx).symm⟩)
      ·rcases(hO x).1 hx with h|⟨j,oj,hj,hl,z,hz,h⟩|⟨z,hz,h⟩
       ·exact .inl h
       ·exact .inr (.inl ⟨j,oj,hj,EC hl,z,hz,by rw[h,hcong]⟩)
       ·exact .inr (.inr ⟨z,hz,by rw[h,hcong]⟩)
     ·rw[(El.put (st2.add (C7 P o)) o.dst e).1];rcases hx with h|⟨j,oj,hj,hl,z,hz,h⟩|⟨z,hz,h⟩
      ·exact Aif _ ((hO x).2 (.inl h))
      rotate_left
      ·exact Aif _ ((hO x).2 (.inr (.inr ⟨z,hz,by rw[h,hcong]⟩)))
      ·rcases Fo hl with rfl|hl'
       ·rw[ho]at hj;cases hj;rw[hself z hz]at h;rw[h];exact List.mem_append_left _ hz
       ·exact Aif _ ((hO x).2 (.inr (.inl ⟨j,oj,hj,hl',z,hz,by rw[h,hcong]⟩)))
     ·rcases LV hx with ⟨hm,hne⟩|⟨hd,he⟩
      ·rcases(hT x).1 hm with ⟨h1,h2⟩|⟨j,oj,hj,hl,hd,he⟩
       ·refine .inl ⟨h1,fun j oj hj hl=>?_⟩;rcases Fo hl with rfl|hl'
        ·rw[ho]at hj;cases hj;exact hne
        ·exact h2 j oj hj hl'
       ·exact .inr ⟨j,oj,hj,EC hl,hd,he⟩
      ·exact .inr ⟨i,o,ho,Hx hilt,hd,by rw[hes,he]⟩
     ·rcases hx with ⟨h1,h2⟩|⟨j,oj,hj,hl,hd,he⟩
      ·refine I1 (st:=st2.add (C7 P o)) ((hT x).2 (.inl ⟨h1,fun j oj hj hl=>h2 j oj hj (EC hl)⟩)) (h2 i o ho (Hx hilt)) (fun t ht=>noG x h1 i o t ho ht)
      ·rcases Fo hl with rfl|hl'
       ·rw[ho]at hj;cases hj;rw[hes]at he;injection he with he;rw[hd];obtain⟨x1,x2⟩:=x;simp only at he hd ⊢;rw[he];exact Kp
       ·have hne:j≠i:=fun e=>by subst e;rw[hunl]at hl';cases hl'
        refine I1 (st:=st2.add (C7 P o)) ((hT x).2 (.inr ⟨j,oj,hj,hl',hd,he⟩)) (c2 j oj _ hne (taken (hpre j hl') hj) hd).1 (fun t ht=>?_);cases hby:x.2.by t with
        |false=>rfl
        |true =>
          exfalso;obtain⟨stj,psj,ej,hstepj,hesj,_⟩:=hat j oj (taken (hpre j hl') hj);rw[he]at hesj;injection hesj with hesj;have hgs:=TM hstepj t (by rw[<- hesj];exact hby);obtain⟨d1,d2⟩:=hchk' j oj (taken (hpre j hl') hj);obtain⟨_,f2,f3⟩:=d2 i o t (fun e=>hne e.symm) (taken hik ho) ht;have hlt:=f3 hgs;have:=f2 (Aif _ hgs);rw[if_pos hlt]at this;obtain⟨e',he',hb',hon⟩:=Jt this;have:=inv.clo j oj hj hl' e' he' hb';rw[hon,hunl]at this;cases this
    exact⟨fun hw=>N0 (k1 hw) next,fun hw=>next _ _ (k2 hw)⟩
   have main : ∀(fuel:Nat) (listed : Array Bool) (a : Act) (w : World), Ju P G ops E st00 es listed a w->(∀i, listed.getD i false = true->i<k) ->
     Em ops.size listed<=fuel->wpAnyIn (W ro) n P .any ops Q fuel listed a w:=by
    intro fuel;have phase2:∀(fuel:Nat) (listed:Array Bool) (a:Act) (w:World),Ju P G ops E st00 es listed a w->(∀i,listed.getD i false=true->i<k)->(∀i,i<k->i<ops.size->listed.getD i false=true)->Em ops.size listed<=fuel->wpAnyIn (W ro) n P .any ops Q fuel listed a w:=by
     intro fuel listed a w inv hpre hall hcount;obtain⟨st2,tw,hO,hT,env,M,X,S⟩:=inv.sat;have hcg:∀z:Nat×Ah,Cn ops es (fun j=>decide (j<k)) z=Cn ops es (fun j=>listed.getD j false) z:=fun z=>Js fun js hjs=>by
      obtain⟨o',t',x',ho',_⟩:=G0 hjs
      by_cases hk':js<k
      ·rw[decide_eq_true hk',hall js hk' (AhE.1 ho').1]
      ·rw[decide_eq_false hk'];cases hl:listed.getD js false with
       |false=>rfl
       |true=>exact absurd (hpre js hl) hk'
     have hsat:AO P G { stF with own:=(Hu P (ops.toList.take k)).map (Cn ops es fun j=>decide (j<k))++stf.own.map (Iz ops es fun j=>decide (j<k)) } a w:=by
      refine⟨env,M,X,S.sub (fun x hx=>(hT x).2 ?_) (fun x hx=>(hO x).2 ?_) ?_ (twF.2.1.trans tw.1.symm) (twF.2.2.2.trans tw.2.2.symm)⟩;rotate_left
      ·rcases AhG.1 hx with hx|hx
       ·obtain⟨z,hz,rfl⟩:=Ah2.1 hx;obtain⟨j,oj,h1,h2⟩:=TN hz;obtain⟨hjk,hj⟩:=untake h1;exact .inr (.inl ⟨j,oj,hj,hall j hjk (AhE.1 hj).1,z,h2,hcg z⟩)
       ·obtain⟨z,hz,rfl⟩:=Ah2.1 hx;unfold Iz;split
        ·rename_i hc;exact .inr (.inr ⟨z,(hEm z).2 ⟨hz,hc⟩,hcg z⟩)
        ·rename_i hc;exact .inl ((h0O z).2 ⟨hz,by simpa using hc⟩)
      ·have hfst : ∀q x, (Iz ops es q x).1 = x.1 :=fun q x =>by
        unfold Iz;split
        ·exact G1 _ _ _ x
        ·rfl
       simp only[List.map_append];rw[show((Hu P (ops.toList.take k)).map (Cn ops es fun j=>decide (j<k))).map (·.1)=F9 P (ops.toList.take k)by
        rw[Aiy,<- TO];exact Ai2 fun x _=>G1 _ _ _ x,show(stf.own.map (Iz ops es fun j=>decide (j<k))).map (·.1)=stf.own.map (·.1)by
        rw[Aiy];exact Ai2 fun x _=>hfst _ x]
       refine List.nodup_append.2 ⟨hnda,hndf,fun a ha b hb e=>?_⟩;subst e;obtain⟨h1,_⟩:=Nz hac a ha;obtain⟨y,hy,rfl⟩:=Ah2.1 hb;exact(Hq (k':=y.1) (o:=y.2) h1 hy).1 rfl
      rcases hF x hx with ⟨h1,h2⟩|⟨j,oj,h1,h2,h3⟩
      ·exact .inl ⟨h1,fun j oj hj hl=>h2 j oj (taken (hpre j hl) hj)⟩
      ·obtain⟨hjk,hj⟩:=untake h1;exact .inr ⟨j,oj,hj,hall j hjk (AhE.1 hj).1,h2,h3⟩
     rcases Nat.le_total k ops.size with hks|hks
     ·exact TP hG hC hK hsuf (fun z hz=>⟨(hZ z hz).1,(hZ z hz).2.1⟩) fuel k listed { stF with own:=(Hu P (ops.toList.take k)).map (Cn ops es fun j=>decide (j<k))++stf.own.map (Iz ops es fun j=>decide (j<k)) } a w (Ah0 _) hks inv.siz (fun i hi=>⟨hpre i,fun h=>hall i h hi⟩) inv.clo hKF hsat hcount
     ·refine TP hG hC hK (k:=ops.size) (Z:=[]) ?_ (fun z hz=>by cases hz) fuel ops.size listed { stF with own:=(Hu P (ops.toList.take k)).map (Cn ops es fun j=>decide (j<k))++stf.own.map (Iz ops es fun j=>decide (j<k)) } a w (Ah0 _) (Ah0 _) inv.siz (fun i hi=>⟨fun _=>hi,fun h=>hall i (by omega) hi⟩) inv.clo ?_ hsat hcount
      ·refine AhC.2 fun j hj=>?_;have:=AhB.1 hj;simp at this;simp[this]
      ·have e1:ops.toList.drop k = []:=List.drop_eq_nil_of_le (by simpa using hks);have e2:ops.toList.drop ops.size = []:=by simp
       rw[e2];rw[e1]at hKF;exact hKF
    induction fuel with
    |zero =>
      intro listed a w inv hpre hcount;refine phase2 0 listed a w inv hpre (fun i _ hi=>?_) hcount;cases hli:listed.getD i false with
      |true=>rfl
      |false =>
        exfalso;have:i∈(Ah5 ops.size).filter fun i=>!listed.getD i false:=rK.2 ⟨AhB.2 hi,by rw[hli];rfl⟩;have:=List.length_pos_of_mem this;unfold Em at hcount;omega
    |succ fuel ih =>
      intro listed a w inv hpre hcount
      by_cases hall:∀i,i<k->i<ops.size->listed.getD i false=true
      ·exact phase2 _ listed a w inv hpre hall hcount
      by_cases hz:∃z oz,z∈Z/\ops[z]? = some oz/\listed.getD z false=false/\∀e,e∈oz.after->Region.binds .any e=true->listed.getD e.on false=true
      ·obtain⟨z,oz,hzZ,ho,hun,haft⟩:=hz;obtain⟨z1,z2,z3,z4⟩:=hZ z hzZ;have hilt:z<listed.size:=by rw[inv.siz];exact z2
       obtain⟨d,s,hmv⟩:∃d s,Gi oz=some (d,s):=by
        have h3:=z3;unfold Ko at h3;rw[ho]at h3;simp only at h3;split at h3
        ·rename_i d s hm;exact⟨d,s,hm⟩
        ·cases h3
       have hlt:=I2 (n:=ops.size) z2 hilt hun;obtain⟨u,hrun,inv'⟩:=TQ ((step listed a w inv hpre z oz z1 ho hun haft).1 (PP hmv)) hmv;exact PS ho hmv z3 z4 hQ fuel listed a w (by
        rw[LS,Ah1 hilt]at hun ⊢;exact hun) haft hrun (ih _ _ w inv' (fun m hm=>by
         rcases Fo hm with rfl|hm
         ·exact z1
         ·exact hpre m hm) (by omega))
      refine⟨fun hr=>(hall ?_).elim,fun i hi=>?_⟩
      ·intro i
       induction i using Nat.strongRecOn with
       |_ i ih2 =>
         intro hik hi;cases hli:listed.getD i false with
         |true=>rfl
         |false =>
           exfalso;have hc:=(hchk' i ops[i] (taken hik (Ah1 hi))).1;have hmem:i∈Region.ready .any ops listed:=mem_ready.2 ⟨by
            have:i<listed.size:=by rw[inv.siz];exact hi
            rw[LS,Ah1 this]at hli ⊢;exact hli,ops[i],Ah1 hi,fun e he hb=>by
             have:=hc e he hb;exact ih2 e.on (by omega) (by omega) (by omega)⟩
           rw[hr]at hmem;cases hmem
      obtain⟨h0,o,ho,hafter⟩:=mem_ready.1 hi;have hisz:=(AhE.1 ho).1;have hilt:i<listed.size:=by rw[inv.siz];exact hisz
      have hunl:listed.getD i false=false:=by
       rw[LS,Ah1 hilt]at h0 ⊢;exact h0
      have hik:i<k:=by
       rcases Aio i k with h|h
       ·exact h
       ·exfalso;have hs1:HM Z ops.toList i=true:=by
         have:=AhC.1 hsuf i (AhB.2 (by simpa using hisz));simpa[show ¬ i<k by omega]using this
        refine hall fun m=>?_
        induction m using Nat.strongRecOn with
        |_ m ih2 =>
          intro hmk hms
          by_cases hmZ:m∈Z
          ·cases hlm:listed.getD m false with
           |true=>rfl
           |false =>
             exact absurd ⟨m,ops[m],hmZ,Ah1 hms,hlm,fun e he hb=>by
              have:=(hchk' m ops[m] (taken hmk (Ah1 hms))).1 e he hb;exact ih2 e.on this (by omega) (by omega)⟩ hz
          ·exact rZ inv.clo ho hs1 hafter m (by omega) hmZ
      obtain⟨k1,k2⟩:=step listed a w inv hpre i o hik ho hunl hafter;have hcount':Em ops.size (listed.setIfInBounds i true)<=fuel:=by have:=I2 (n:=ops.size) hisz hilt hunl;omega
      have next:∀a' w',Ju P G ops E st00 es (listed.setIfInBounds i true) a' w'->wpAnyIn (W ro) n P .any ops Q fuel (listed.setIfInBounds i true) a' w':=fun a' w' inv' =>
       ih _ a' w' inv' (fun m hm=>by
        rcases Fo hm with rfl|hm
        ·exact hik
        ·exact hpre m hm) hcount'
      unfold wpOpIn;rw[ho];simp only;split
      ·rename_i hw;have:=k1 hw;refine Nx (N:=wpAnyIn (W ro) n P .any ops Q fuel (listed.setIfInBounds i true)) ?_;obtain⟨l1,l2⟩:=this;refine⟨l1,?_⟩;rcases l2 with ⟨u,w',hr,hk⟩|⟨w',hr,hk⟩|⟨f,args,w',hr,hk⟩|⟨l,f,tmps,assign,body,w',hr,hk⟩
       ·exact .inl ⟨u,w',hr,next _ _ hk⟩
       ·exact .inr (.inl ⟨w',hr,next _ _ hk⟩)
       ·exact .inr (.inr (.inl ⟨f,args,w',hr,Gg hk fun e w'' ⟨v,he,hk⟩=>⟨v,he,next _ _ hk⟩⟩))
       ·exact .inr (.inr (.inr ⟨l,f,tmps,assign,body,w',hr,Kb hk fun e w'' ⟨v,he,hk⟩=>⟨v,he,next _ _ hk⟩⟩))
      ·rename_i hw;exact⟨fun _ _=>trivial,next _ _ (k2 hw)⟩
   refine main ops.size (AhZ ops.size false) a w ⟨by simp,fun j oj hj hl=>?_,stf,⟨h0yk.1.symm,h0yk.2.1.symm,h0yk.2.2.symm⟩,fun x=>⟨fun hx=>?_,fun hx=>?_⟩,fun x=>⟨fun hx=>.inl ⟨(h0T x).2 hx,fun j oj hj hl=>?_⟩,fun hx=>?_⟩,hsub⟩ (fun i hi=>?_) ?_
   ·have hj':=(AhE.1 hj).1;simp[LS,hj']at hl
   ·by_cases hc:(Hv ops x.1&&Kn x.2)=true
    ·exact .inr (.inr ⟨x, (hEm x).2 ⟨hx, hc⟩, (LU fun j hj =>by
     obtain⟨o',t',x',ho',_⟩:=G0 hj;have hj':=(AhE.1 ho').1;simp[LS,hj']).symm⟩)
    ·exact .inl ((h0O x).2 ⟨hx,by simpa using hc⟩)
   ·rcases hx with h1|⟨j,oj,hj,hl,_,_,_⟩|⟨y,hy,rfl⟩
    ·exact((h0O x).1 h1).1
    ·have hj':=(AhE.1 hj).1;simp[LS,hj']at hl
    ·rw[LU fun j hj =>by
      obtain⟨o',t',x',ho',_⟩:=G0 hj;have hj':=(AhE.1 ho').1;simp[LS,hj']]
     exact((hEm y).1 hy).1
   ·have hj':=(AhE.1 hj).1;simp[LS,hj']at hl
   ·rcases hx with ⟨h1,_⟩|⟨j,oj,hj,hl,_⟩
    ·exact(h0T x).1 h1
    ·have hj':=(AhE.1 hj).1;simp[LS,hj']at hl
   ·rcases Aio i ops.size with hlt|hge
    ·simp[LS,hlt]at hi
    ·simp[LS,show ¬ i<ops.size by omega]at hi
   ·exact Nat.le_trans (List.length_filter_le _ _) (by simp)
  ·exact h.elim
 ·exact h.elim
theorem sE (hG:Br G) {C:Aj} (hC:EB P G C) {ro:Option Nat} {n:Nat} {ops:Array Oper} {Q:Exit->Act->World->Prop} {K:St->Prop} (hK:∀st a w,K st->AO P G st a w->Q .normal a w)
  {st:St} (h:Nt P C ops st K) {a:Act} {w:World} (hs:AO P G st a w):wpAnyIn (W ro) n P .any ops Q ops.size (AhZ ops.size false) a w :=
 N2 (Q':=fun e a w=>(∀c,e ≠ .panic c)/\Q e a w) (fun _ _ _ h=>h.2) _ _ _ _
  (sD hG hC (fun st a w h hs=>⟨fun _ h=>(by cases h),hK st a w h hs⟩) (fun c _ _ h=>h.1 c rfl) h hs)
end
end Go.SE
