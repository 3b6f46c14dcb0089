/- Parts of the proof that the text of the row joins: a symbolic walk over the model. -/
import Derived.Test.YtdkpcdlnfobnnaaGreatE1
import Derived.MapKept
open List renaming getD_eq_getElem?_getD->AS,mem_filter->rK,getElem?_eq_getElem->Ahz,mem_map->Ah2,mem_cons->Ah4,range->Ah5,mem_singleton->Ah9,contains_iff_mem->AhA,all_eq_true->AhC,mem_cons_self->AhF,mem_append->AhG,mem_cons_of_mem->AhL,getElem?_append_left->AhP,getElem_of_mem->AhR,getElem?_append_right->AhT,length_append->AhU,getElem_mem->AhX,length_map->Aih,pairwise_iff_getElem->Aij,pairwise_map->Air,not_mem_nil->Ait,nodup_cons->Aiv,map_congr_left->Ai2,getElem?_take_of_lt->AiF,map_cons->AiJ
open Array renaming getD_eq_getD_getElem?->LS,getElem?_eq_getElem->Ah1,getElem?_push_size->AhS,getElem?_modify->Ai3,getElem?_push_lt->AiY
open Nat renaming not_lt_zero->oE,zero_le->rH,le_refl->Ah0,lt_of_lt_of_le->Ah3,mul_le_mul_right->AhI,zero_add->AhO,add_mul->Aia,le_trans->Aig,mul_comm->Ai7,lt_trichotomy->AiE,mod_lt->AiX
open Bool renaming and_eq_true->pR,not_eq_true'->Aib,or_eq_true->Aie,and_eq_true_iff->Ain
open Option renaming getD_some->Aix,map_some->AiB,isSome_iff_exists->AiM
namespace Go.SE
open Go.RowKit
section
variable {P:Program} {M:Nat->Prop} {w:World} {G:Bw} {st:St} {a:Act} {env:Ar} {X:Nat->Prop}
theorem Pw {t:TypeId} {y:Ty} (hy:Bg P t=some y):(Instr.alloc t true (.tuple #[])).run P w=.ok (.pointer (some ⟨w.heap.size,0,none⟩)) (w.alloc (.cells y.zero.cells t)):=by
 obtain⟨i,hi,hz,_⟩:=CV hy;simp[Instr.alloc,zeroValue,typeInfo,hi,hz,Go.newVar,newRow]
theorem SR (t:TypeId) (v:Value):(Instr.box t v).run P w=.ok (.pointer (some ⟨w.heap.size,0,none⟩)) (w.alloc (.cells v.cells t)):=by
 simp[Instr.box,Go.newVar,newRow]
theorem Px {t e:TypeId} {y:Ty} (hu:P.underlying t=some (.slice e)) (hy:Bg P e=some y) {len:Nat} (hle:len*y.size<=16777216) (hz:y.zero.cells.size=y.size) {parts:Array (Nat×Value)} {cells:List Value}
  (hf:Instr.fill (fun i=>some (i*y.size,y.size)) ((Ah5 (len*y.size)).map fun k=>y.zero.cells.getD (k % y.size) undef).toArray parts.toList=some cells.toArray) :
  (Instr.buildSlice t len parts).run P w=.ok (.slice (some ⟨w.heap.size,0,none⟩) len len) (w.alloc (.cells cells.toArray e)):=by
 obtain⟨i,hi,hzz,hs,hb,_⟩:=CV hy;have h1:¬ (16777216<len*y.size):=by omega
 have hm:∀z:Array Value,z.size=y.size->0<y.size->(Array.range (len*y.size)).map (fun x=>z[x % z.size]!)=((Ah5 (len*y.size)).map fun k=>z.getD (k % y.size) undef).toArray:=by
  intro z hzs hpos;apply Array.ext';simp only[Array.toList_map,Array.toList_range];apply Ai2;intro k _;rw[hzs];have:k % y.size<z.size:=by grind [AiX]
  simp[LS,this]
 by_cases h0:len*y.size=0
 ·have hf':Instr.fill (fun i=>some (i*y.size,y.size)) #[] parts.toList=some cells.toArray:=by grind
  simp[Instr.buildSlice,run_underlying hu,EY hi,hs,h0,hf',newRow,Array.range_zero']
 ·have hpos:0<y.size:=(by grind);have hm':=hm y.zero.cells hz hpos;simp only[Instr.buildSlice,Sem.run_bind,run_underlying hu,Result.andThen_ok,EY hi,hs];rw[if_neg (by simpa using h1)];simp only[Sem.run_pure,Sem.run_bind,Result.andThen_ok,if_neg h0,zeroValue,typeInfo,run_program,hi,hzz];rw[hm',hf];simp[newRow]
theorem SS {l:List SV} {sz len:Nat} (h:l.length=len*sz) (i:Nat) (hi:i<len):(AD l sz i).length=sz:=by
 unfold AD;have:=AhI sz (show i+1<=len by omega);grind
theorem SU (l:List SV) (sz i j:Nat) (hj:j<sz):SV.at (AD l sz i) j=SV.at l (i*sz+j):=Ll _ _ _ _ hj
theorem C6 {i j sz len:Nat} (hi:i<len) (hj:j<sz):i*sz+j<len*sz:=by
 have:=AhI sz (show i+1<=len by omega);grind
theorem pV {M':Nat->Prop} {w':World} {g:Nat} (hg:M' g) {e:TypeId} {cells:List Value} (hh:w'.heap[g]? = some (.cells cells.toArray e (0,0))) {cs:List SV} (hd:By M' w' cs cells) (h1:∀v,v∈cells->v.oneCell'=true)
  {len sz:Nat} (hl:cs.length=len*sz) (hm:len<=maxLen):Ax M' w' (.sl sz len (AD cs sz)) (.slice (some ⟨g,0,none⟩) len len):=by
 have hcl:=hd.1;refine .sl sz len _ _ len (fun i j=>cells.getD (i*sz+j) undef) (Ah0 _) hm (fun _=>⟨_,rfl,hg,fun i hi j hj=>?_⟩) (fun i hi=>SS hl i hi) (fun i hi j hj=>?_) (fun i hi j hj=>?_)
 ·have:=C6 hi hj;rw[Cw,AhO,Ec hh (by simp;omega)];simp[LS,AS]
 ·grind [C6,Ahz,AhX]
 ·have:=C6 hi hj;rw[SU _ _ _ _ hj];exact hd.2 _ (by omega)
theorem Ax.congr_sl {M':Nat->Prop} {w':World} {sz n:Nat} {get get':Nat->List SV} {v:Value} (h:Ax M' w' (.sl sz n get) v) (he:∀i,i<n->get' i=get i):Ax M' w' (.sl sz n get') v:=by
 cases h with
 |sl _ _ _ A cap vs hcap hm hA hg ho hd =>
   exact .sl _ _ _ A cap vs hcap hm hA (by grind) ho (by grind)
theorem L9 {n b:Nat} (hb:0<b) (h:n*b<=140737488355328):n<=maxLen:=by
 have:n<=n*b:=Nat.le_mul_of_pos_right n hb;unfold maxLen;omega
theorem SX (hG:Br G) (S:Al P G st a w env M X) {e:TypeId} {cs:List SV} {cells:List Value} (hd:By M w cs cells) (h1:∀v,v∈cells->v.oneCell'=true) {len sz:Nat} (hl:cs.length=len*sz) (hm:len<=maxLen) :
  ∃M' X',Al P G st a (w.alloc (.cells cells.toArray e)) env M' X'/\Ax M' (w.alloc (.cells cells.toArray e)) (.sl sz len (AD cs sz)) (.slice (some ⟨w.heap.size,0,none⟩) len len):=by
 have hs:=Iq w (.cells cells.toArray e);have hl':Be M (fun b=>M b\/b=w.heap.size) w (w.alloc (.cells cells.toArray e)):=⟨by simp,fun b hb=>hs.block b (S.mlt b hb) id,fun b hb=>.inl hb⟩;refine⟨fun b=>M b\/b=w.heap.size,_,S.grow hG hs (M':=fun b=>M b\/b=w.heap.size) (fun b h=>.inl h) (by grind) (fun b h=>by
  rcases h with h|h
  ·have:=S.mlt b h;simp;omega
  ·subst h;simp),?_⟩
 exact pV (.inr rfl) AhS (hd.later hl') h1 hl hm
theorem MZ (hG:Br G) (S:Al P G st a w env M X) {d:Nat} (hdn:d<st.nt) (hn:(st.forget d).noName d=true) {e:TypeId} {cur:Array Value} {n cap sz:Nat} {get:Nat->List SV} (hcs:cur.size=cap*sz) (hnc:n<=cap) (hcm:cap<=maxLen)
  (hgl:∀i,i<n->(get i).length=sz) (hd:∀i,i<n->∀j,j<sz->(cur.getD (i*sz+j) undef).oneCell'=true/\Ax M w (SV.at (get i) j) (cur.getD (i*sz+j) undef)) :
  ∃env' X',Al P G { st.forget d with own:=(d,.row e sz n get)::(st.forget d).own } a (w.alloc (.cells cur e)) env' M X'/\env'.rv d=.slice (some ⟨w.heap.size,0,none⟩) n cap:=by
 have hs:=Iq w (.cells cur e);have hl':Be M M w (w.alloc (.cells cur e)):=⟨by simp,fun b hb=>hs.block b (S.mlt b hb) id,fun b hb=>hb⟩;obtain⟨X',h⟩:=(S.forget d).newOwn hG hdn hn (fun s e h=>Ir h) hs (env':=env.set d w.heap.size (.slice (some ⟨w.heap.size,0,none⟩) n cap)) (Ar.set_other env d _ _) rfl
  (fun g hg=>by rw[Ar.set_at]at hg;cases hg;simp) (M':=M) (fun b h=>h) (fun b h=>.inl h) (fun b h=>by have:=S.mlt b h;simp;omega)
  (o:=.row e sz n get) ⟨by omega,hgl,.inr ⟨w.heap.size,cap,cur,Ar.set_at _ _ _ _,Ar.set_rv _ _ _ _,AhS,hnc,hcm,hcs,fun i hi j hj=>⟨(hd i hi j hj).1,(hd i hi j hj).2.later hl'⟩⟩⟩
 grind [Ar.set_rv]
theorem LA (S:Al P G st a w env M X) (k:Nat):Al P G (st.scrub k) a w env M X:=by
 have hmem:∀{k' o'},(k',o')∈(st.scrub k).own->∃o,(k',o)∈st.own/\((∃t cs,o=.blk t cs/\o'=.blk t (cs.map fun e=>if e.names k then .any else e))\/(o'=o/\∀t cs,o ≠ .blk t cs)):=by
  intro k' o' h;obtain⟨⟨k2,o2⟩,hm,he⟩:=Ah2.1 h;have hm:=(rK.1 hm).1;cases o2 with
  |blk t cs=>cases he;exact⟨_,hm,.inl ⟨t,cs,rfl,rfl⟩⟩
  |_=>cases he;exact⟨_,hm,.inr ⟨rfl,fun _ _ h=>by cases h⟩⟩
 have hh:∀{k' o'},(k',o')∈(st.scrub k).own->∃o,(k',o)∈st.own/\∀g,o'.has env k' g->o.has env k' g:=fun h=>by
  obtain⟨o,ho,⟨t,cs,rfl,rfl⟩|⟨rfl,_⟩⟩:=hmem h
  ·exact⟨_,ho,fun _ h=>h⟩
  ·exact⟨_,ho,fun _ h=>h⟩
 have hkeys:(st.scrub k).own.map (·.1)=(st.own.filter fun x=>!(x.2.hard k)).map (·.1):=by
  simp only[St.scrub,List.map_map];apply Ai2;rintro⟨k',o'⟩ _;cases o'<;>rfl
 have hnod:((st.scrub k).own.map (·.1)).Nodup:=by
  rw[hkeys];exact S.nod.sublist (List.filter_sublist.map _)
 refine⟨S.gam,S.mx,?_,?_,?_,hnod,S.mlt,S.xlt,S.siz,fun s e h=>S.tmp s e (rK.1 h).1,fun s e h=>S.grd s e (rK.1 h).1,?_,S.dno⟩
 ·intro k' o' h;obtain⟨o,ho,⟨t,cs,rfl,rfl⟩|⟨rfl,_⟩⟩:=hmem h
  ·obtain⟨g,vs,ha,hh,hz,hd⟩:=S.own _ _ ho;refine⟨g,vs,ha,hh,by simpa using hz,fun i hi=>?_⟩;simp only[Aih]at hi;refine⟨(hd i hi).1,?_⟩;have:EV.at (cs.map fun e=>if e.names k then .any else e) i=if (EV.at cs i).names k then .any else EV.at cs i:=by
    simp[EV.at,AS,hi]
   rw[this];split
   ·exact .any
   ·exact(hd i hi).2
  ·exact S.own _ _ ho
 ·intro k' o' h g hg;obtain⟨o,ho,hs⟩:=hh h;exact S.oat _ _ ho g (hs g hg)
 ·intro k1 o1 k2 o2 h1 h2 hne g hg hc;obtain⟨_,e1,s1⟩:=hh h1;obtain⟨_,e2,s2⟩:=hh h2;exact S.inj _ _ _ _ e1 e2 hne g (s1 g hg) (s2 g hc)
 ·intro d hd;obtain⟨D,e,h1,h2,h3,h4⟩:=S.dfr d hd;exact⟨D,e,h1,h2,h3,fun k' o' h hc=>by obtain⟨_,ho,hs⟩:=hh h;exact h4 _ _ ho (hs D hc)⟩
theorem Na {k s:Nat} {e:AK} (h:(s,e)∈(st.scrub k).T):e.v.names k=false:=by
 have:=(rK.1 h).2;grind
theorem SY (k:Nat):∀(cs:List EV),EV.names.namesL k (cs.map fun e=>if e.names k then .any else e)=false
 |[]=>rfl
 |e::cs=>by
   simp only[AiJ,EV.names.namesL,SY k cs,Bool.or_false];split
   ·rfl
   grind
theorem LB {k k':Nat} {o:Ah} (h:(k',o)∈(st.scrub k).own):o.names k=false:=by
 obtain⟨⟨k2,o2⟩,hm,he⟩:=Ah2.1 h;have hm:=(rK.1 hm).2;cases o2 with
 |blk t cs=>cases he;exact SY k cs
 |oblk b t cs=>cases he;simpa[Ah.hard,Ah.names]using hm
 |prow e n bs=>cases he;simpa[Ah.hard,Ah.names]using hm
 |_=>cases he;rfl
theorem Al.rerow (hG:Br G) (S:Al P G st a w env M X) {k:Nat} (hkn:k<st.nt) {o0 o:Ah} (hk:(k,o0)∈st.own) (hT:∀s e,(s,e)∈st.T->e.v.names k=false) (hO:∀k' o',(k',o')∈st.own->o'.names k=false) {w':World} {env':Ar}
  (hs:Same (fun b=>env.at_ k=some b) w w') (he:∀j,j≠k->env'.at_ j=env.at_ j/\env'.rv j=env.rv j) (hy:env'.yl=env.yl) (hg:∀g,env'.at_ k=some g->(env.at_ k=some g\/w.heap.size<=g)/\g<w'.heap.size)
  (ho:B8 P M w' env' k o) (hso:∀g,¬ o.sub g:=by exact fun _ h=>h):∃X',Al P G { st with own:=Cl st.own k o } a w' env' M X':=by
 have hMk:∀b,M b->env.at_ k≠some b:=fun b hb e=>(S.oat _ _ hk b (.inl e)).2.1 hb;have hl:Be M M w w':=⟨hs.size,fun b hb=>hs.block b (S.mlt b hb) (hMk b hb),fun b hb=>hb⟩;refine⟨fun b=>X b\/(w.heap.size<=b/\b<w'.heap.size),?_⟩;refine⟨⟨hG _ _ _ _ _ S.gam.1 ⟨hs.os,hs.tape,hs.output,hs.drawn,hs.size,fun b hb hx=>hs.block b hb (fun e=>hx (S.oat _ _ hk b (.inl e)).1)⟩ (fun b h=>.inl h) (fun b h=>by rcases h with h|h;exact .inl h;exact .inr h.1),S.gam.2.but hkn he⟩,fun b hb=>(S.mx b hb).imp id .inl,?_,?_,?_,by simp only[Jk];exact S.nod,
  fun b hb=>Ah3 (S.mlt b hb) hs.size,?_,S.siz,?_,S.grd,?_,S.dno⟩
 ·intro k' o' h;rcases EM h with ⟨rfl,rfl,_⟩|⟨hne,h⟩
  ·exact ho
  ·have h1:=S.own _ _ h;have h2:=S.oat _ _ h;have hng:∀g',o'.has env k' g'->env.at_ k≠some g':=fun g' hg' e=>S.inj _ _ _ _ h hk hne g' hg' (.inl e);exact h1.move hl (he _ hne).1 (he _ hne).2 (fun g' ha=>hs.block g' (h2 g' ha).2.2 (hng g' ha)) (fun j hj=>he j (fun e=>by rw[e,hO _ _ h]at hj;cases hj))
 ·intro k' o' h g' hg';rcases EM h with ⟨rfl,rfl,o'',h''⟩|⟨hne,h⟩
  ·obtain⟨h1,h2⟩:=hg g' (hg'.elim id (fun h=>(hso g' h).elim));rcases h1 with h1|h1
   ·obtain⟨h3,h4,_⟩:=S.oat _ _ h'' g' (.inl h1);exact⟨.inl h3,h4,h2⟩
   ·exact⟨.inr ⟨h1,h2⟩,fun hm=>by have:=S.mlt _ hm;omega,h2⟩
  ·rw[Ah.has_env (he _ hne).1]at hg';obtain⟨h1,h2,h3⟩:=S.oat _ _ h g' hg';exact⟨.inl h1,h2,Ah3 h3 hs.size⟩
 ·intro k1 o1 k2 o2 h1 h2 hne g' hg1;rcases EM h1 with ⟨rfl,rfl,o1',h1'⟩|⟨hn1,h1'⟩<;>rcases EM h2 with ⟨rfl,rfl,o2',h2'⟩|⟨hn2,h2'⟩
  ·exact absurd rfl hne
  ·rw[Ah.has_env (he _ hn2).1];intro hc;rcases(hg g' (hg1.elim id (fun h=>(hso g' h).elim))).1 with h5|h5
   ·exact S.inj _ _ _ _ h1' h2' hne g' (.inl h5) hc
   ·have:=(S.oat _ _ h2' g' hc).2.2;omega
  ·rw[Ah.has_env (he _ hn1).1]at hg1;intro hc;rcases(hg g' (hc.elim id (fun h=>(hso g' h).elim))).1 with h5|h5
   ·exact S.inj _ _ _ _ h1' h2' hne g' hg1 (.inl h5)
   ·have:=(S.oat _ _ h1' g' hg1).2.2;omega
  ·rw[Ah.has_env (he _ hn1).1]at hg1;rw[Ah.has_env (he _ hn2).1];exact S.inj _ _ _ _ h1' h2' hne g' hg1
 ·intro b hb';rcases hb' with h|h
  ·exact Ah3 (S.xlt b h) hs.size
  ·exact h.2
 ·intro s e h;obtain⟨h1,h2,h3⟩:=S.tmp s e h;exact⟨h1,fun ho'=>(h2 ho').reenv hl he hy (hT s e h),h3⟩
 ·intro d hd;obtain⟨D,e,h1,h2,h3,h4⟩:=S.dfr d hd;have hD:=S.xlt D h2;refine⟨D,e,(hs.block D hD (fun e=>h4 _ _ hk (.inl e))).trans h1,.inl h2,h3,?_⟩;intro k' o' h;rcases EM h with ⟨rfl,rfl,o'',h''⟩|⟨hne,h⟩
  ·intro hc;rcases(hg D (hc.elim id (fun h=>(hso D h).elim))).1 with h5|h5
   ·exact h4 _ _ h'' (.inl h5)
   ·omega
  ·rw[Ah.has_env (he _ hne).1];exact h4 _ _ h
theorem Al.remake (hG:Br G) (S:Al P G st a w env M X) {k:Nat} (hkn:k<st.nt) {D:Nat->Prop} {own':List (Nat×Ah)} {T':List (Nat×AK)} {o:Ah} (hnod:(own'.map (·.1)).Nodup)
  (hown':∀j q,(j,q)∈own'->(j=k/\q=o)\/(j≠k/\¬ D j/\∃q0,(j,q0)∈st.own/\(∀g,q.sub g->q0.sub g)/\q.names k=false/\B8 P M w env j q)) (hT':∀x,x∈T'->x∈st.T/\x.2.v.names k=false) {w':World} {env':Ar} {W:Nat->Prop}
  (hW:∀b,W b->∃o0,(k,o0)∈st.own/\o0.has env k b) (hs:Same W w w') (he:∀j,j≠k->env'.at_ j=env.at_ j/\env'.rv j=env.rv j) (hy:env'.yl=env.yl)
  (hg:∀g,o.has env' k g->g<w'.heap.size/\(w.heap.size<=g\/∃j o0,(j,o0)∈st.own/\(j=k\/D j)/\o0.has env j g)) (ho:B8 P M w' env' k o):∃X',Al P G { st with T:=T',own:=own' } a w' env' M X':=by
 have hWX:∀b,W b->X b/\¬ M b:=fun b hb=>by
  obtain⟨o0,h1,h2⟩:=hW b hb;exact⟨(S.oat _ _ h1 b h2).1,(S.oat _ _ h1 b h2).2.1⟩
 have hl:Be M M w w':=⟨hs.size,fun b hb=>hs.block b (S.mlt b hb) (fun h=>(hWX b h).2 hb),fun b hb=>hb⟩;have src:∀{g},o.has env' k g->(w.heap.size<=g/\g<w'.heap.size)\/∃j o0,(j,o0)∈st.own/\(j=k\/D j)/\o0.has env j g:=fun {g} h=>(hg g h).2.imp (fun q=>⟨q,(hg g h).1⟩) id;refine⟨fun b=>X b\/(w.heap.size<=b/\b<w'.heap.size),?_⟩;refine⟨⟨hG _ _ _ _ _ S.gam.1 ⟨hs.os,hs.tape,hs.output,hs.drawn,hs.size,fun b hb hx=>hs.block b hb (fun h=>hx (hWX b h).1)⟩ (fun b h=>.inl h) (fun b h=>by rcases h with h|h;exact .inl h;exact .inr h.1),S.gam.2.but hkn he⟩,fun b hb=>(S.mx b hb).imp id .inl,?_,?_,?_,hnod,
  fun b hb=>Ah3 (S.mlt b hb) hs.size,?_,S.siz,?_,fun s e h=>S.grd s e (hT' _ h).1,?_,S.dno⟩
 ·intro j q h;rcases hown' j q h with ⟨rfl,rfl⟩|⟨hne,hD,q0,h0,hq,hn,h1⟩
  ·exact ho
  ·exact h1.move hl (he _ hne).1 (he _ hne).2 (fun g hgg =>hs.block g (S.oat _ _ h0 g (hgg.imp id (hq g))).2.2 (fun hw =>by
   obtain⟨o0,h5,h6⟩:=hW g hw;exact S.inj _ _ _ _ h0 h5 hne g (hgg.imp id (hq g)) h6)) (fun i hi=>he i (fun e=>by rw[e,hn]at hi;cases hi))
 ·intro j q h g hgg;rcases hown' j q h with ⟨rfl,rfl⟩|⟨hne,hD,q0,h0,hq,hn,h1⟩
  ·rcases src hgg with h5|⟨i,o0,h5,_,h6⟩
   ·exact⟨.inr h5,fun hm=>by have:=S.mlt _ hm;omega,h5.2⟩
   ·obtain⟨x1,x2,x3⟩:=S.oat _ _ h5 g h6;exact⟨.inl x1,x2,Ah3 x3 hs.size⟩
  ·rw[Ah.has_env (he _ hne).1]at hgg;obtain⟨x1,x2,x3⟩:=S.oat _ _ h0 g (hgg.imp id (hq g));exact⟨.inl x1,x2,Ah3 x3 hs.size⟩
 ·have sep : ∀{j q}, (j≠k/\¬ D j/\∃q0, (j, q0)∈st.own/\(∀g, q.sub g->q0.sub g)/\q.names k = false/\B8 P M w env j q)->∀g, q.has env' j g->¬ o.has env' k g :=fun {j q} ⟨hne, hD, q0, h0, hq, _⟩ g hgg hc =>by
   rw[Ah.has_env (he _ hne).1]at hgg;have hgg:=hgg.imp id (hq g);rcases src hc with h5|⟨i,o0,h5,hi,h6⟩
   ·have:=(S.oat _ _ h0 g hgg).2.2;omega
   ·exact S.inj _ _ _ _ h0 h5 (fun e=>by rcases hi with hi|hi;exact hne (e.trans hi);exact hD (e ▸ hi)) g hgg h6
  intro j1 q1 j2 q2 h1 h2 hne g hg1 hc;rcases hown' _ _ h1 with ⟨rfl,rfl⟩|a1<;>rcases hown' _ _ h2 with ⟨rfl,rfl⟩|a2
  ·exact hne rfl
  ·exact sep a2 g hc hg1
  ·exact sep a1 g hg1 hc
  ·obtain⟨n1,_,p1,m1,s1,_⟩:=a1;obtain⟨n2,_,p2,m2,s2,_⟩:=a2;rw[Ah.has_env (he _ n1).1]at hg1;rw[Ah.has_env (he _ n2).1]at hc;exact S.inj _ _ _ _ m1 m2 hne g (hg1.imp id (s1 g)) (hc.imp id (s2 g))
 ·intro b hb';rcases hb' with h|h
  ·exact Ah3 (S.xlt b h) hs.size
  ·exact h.2
 ·intro s e h;obtain⟨hm,hn⟩:=hT' _ h;obtain⟨h1,h2,h3⟩:=S.tmp s e hm;exact⟨h1,fun ho'=>(h2 ho').reenv hl he hy hn,h3⟩
 ·intro d hd;obtain⟨F,e,h1,h2,h3,h4⟩:=S.dfr d hd;have hF:=S.xlt F h2;refine⟨F,e,(hs.block F hF (fun hw=>by
   obtain⟨o0,h5,h6⟩:=hW F hw;exact h4 _ _ h5 h6)).trans h1,.inl h2,h3,?_⟩
  intro j q h hc;rcases hown' _ _ h with ⟨rfl,rfl⟩|⟨hne,hD,q0,h0,hq,_⟩
  ·rcases src hc with h5|⟨i,o0,h5,_,h6⟩
   ·omega
   ·exact h4 _ _ h5 h6
  ·rw[Ah.has_env (he _ hne).1]at hc;exact h4 _ _ h0 (hc.imp id (hq F))
end
section
variable {P:Program} {M:Nat->Prop} {w:World} {G:Bw} {st:St} {a:Act} {env:Ar} {X:Nat->Prop}
def D8 (M:Nat->Prop) (env:Ar) (l:List Nat):Nat->Prop:=fun b=>M b\/∃r,r∈l/\env.at_ r=some b
theorem Nb (S:Al P G st a w env M X) {r:Nat} {e:TypeId} {sz n:Nat} {get:Nat->List SV} (h:(r,Ah.row e sz n get)∈st.own) {M':Nat->Prop} (hM:∀b,M b->M' b) (hr:∀g,env.at_ r=some g->M' g) :
  Ax M' w (.sl sz n get) (env.rv r):=by
 obtain⟨hm,hgl,h1⟩:=S.own _ _ h;rcases h1 with ⟨_,hrv,hn⟩|⟨g,cap,cur,hg,hrv,hh,hnc,hcm,hcs,hd⟩
 ·rw[hrv];subst hn;exact .sl _ _ _ _ _ (fun _ _=>undef) (Ah0 _) hm (fun h=>by omega) hgl (fun i hi=>by omega) (fun i hi=>by omega)
 ·rw[hrv];refine .sl _ _ _ _ _ (fun i j=>cur.getD (i*sz+j) undef) hnc hm (fun _=>⟨_,rfl,hr g hg,fun i hi j hj=>?_⟩) hgl (by grind) (fun i hi j hj=>(hd i hi j hj).2.weak hM);have:=C6 (sz:=sz) (len:=cap) (Ah3 hi hnc) hj;rw[Cw,AhO,Ec hh (by omega)]
theorem Py (S:Al P G st a w env M X) {r lo k:Nat} {e:TypeId} {sz n:Nat} {get:Nat->List SV} (h:(r,Ah.row e sz n get)∈st.own) {M':Nat->Prop} (hM:∀b,M b->M' b) (hr:∀g,env.at_ r=some g->M' g)
  (hk:lo+k<=n) {v:Value} (hv:Ap P M w env (.rsub r sz lo k) v):Ax M' w (.sl sz k (fun i=>get (lo+i))) v:=by
 obtain⟨hm,hgl,h1⟩:=S.own _ _ h;cases hv with
 |rsub A cap' hc' hm' hA =>
 rcases h1 with ⟨_,hrv,hn⟩|⟨g,cap,cur,hg,hrv,hh,hnc,hcm,hcs,hd⟩
 ·have:k=0:=by omega
  subst this;refine .sl _ _ _ A cap' (fun _ _=>undef) (by omega) (by omega) (fun h=>by omega) (fun i hi=>by omega) (fun i hi=>by omega) (fun i hi=>by omega)
 ·refine .sl _ _ _ A cap' (fun i j=>cur.getD ((lo+i)*sz+j) undef) hc' hm' (fun hpos=>?_) (by grind) (by grind) (fun i hi j hj=>(hd _ (by omega) j hj).2.weak hM);grind [C6,Cw,Aia,Nat.add_assoc,Ec]
theorem pW (S:Al P G st a w env M X) {r k:Nat} {e:TypeId} {sz n:Nat} {get:Nat->List SV} (h:(r,Ah.row e sz n get)∈st.own) {M':Nat->Prop} (hM:∀b,M b->M' b) (hr:∀g,env.at_ r=some g->M' g)
  (hk:k<=n) {v:Value} (hv:Ap P M w env (.rpre r k) v):Ax M' w (.sl sz k get) v:=by
 obtain⟨hm,hgl,h1⟩:=S.own _ _ h;cases hv with
 |@rpre _ _ N cap' g' hrv' hn' =>
 rcases h1 with ⟨_,hrv,_⟩|⟨g,cap,cur,hg,hrv,hh,hnc,hcm,hcs,hd⟩
 ·grind
 rw[hrv]at hrv';obtain⟨rfl,rfl,rfl⟩:g'=g/\N=n/\cap'=cap:=by grind
 refine .sl _ _ _ _ _ (fun i j=>cur.getD (i*sz+j) undef) (by omega) (by omega) (fun _=>⟨_,rfl,hr _ hg,fun i hi j hj=>?_⟩) (by grind) (by grind) (fun i hi j hj=>(hd i (by omega) j hj).2.weak hM);have:=C6 (i:=i) (sz:=sz) (len:=cap') (by omega) hj;rw[Cw,AhO,Ec hh (by omega)]
theorem Hr {M':Nat->Prop} {w':World} {s:SV} {v:Value} (h:Ax M w s v) (hn:D6 s=true):Ax M' w' s v:=by
 induction h with
 |int k n=>exact .int k n
 |bool b=>exact .bool b
 |raw v=>exact .raw v
 |agg cs vs hl _ ih=>exact .agg cs vs hl (fun i hi=>ih i hi (noMems_at hn i hi))
 |tup cs vs hl _ ih=>exact .tup cs vs hl (fun i hi=>ih i hi (noMems_at hn i hi))
 |clo|ref|sl=>simp[D6]at hn
where noMems_at:∀{cs:List SV},D6.noMems cs=true->∀i,i<cs.length->D6 (SV.at cs i)=true
 |[],_,i,hi=>by simp at hi
 |c::cs,h,i,hi=>by
   simp only[D6.noMems,pR]at h;cases i with
   |zero=>exact h.1
   |succ i=>exact noMems_at h.2 i (by grind)
theorem pX {C:Aj} (hC:∀f sp,C.specs f=some sp->Az P f sp/\An P f) {f:Nat} {caps:List SV} {pre:List EV->Prop} {res:List EV->SV} (hf:C.specs f=some (.fn pre res)) {v:Value} (hv:Ax M w (.clo f caps) v) :
  JP P M w ⟨fun as=>pre (as.map .p++caps.map .p),fun as=>res (as.map .p++caps.map .p)⟩ v:=by
 obtain⟨h1,h2⟩:=hC f _ hf;cases hv with
 |clo _ _ vs hl hd =>
 refine⟨f,#[],vs.toArray,rfl,h2,fun M' w' hl' hlt args vals hda hp=>?_⟩;have hdc:By M' w' caps vs:=By.later hl' ⟨hl,hd⟩;have hall:=Su hda hdc;have:=h1 M' w' (args.map .p++caps.map .p) (vals++vs) hlt ?_ hp
 ·grind
 ·rw[<- List.map_append];refine⟨by simpa using hall.1,fun i hi=>?_⟩;simp only[Aih]at hi;rw[Gv _ _ hi];exact⟨rfl,.p (hall.2 i hi)⟩
theorem pY {C:Aj} (hC:∀f sp,C.specs f=some sp->Az P f sp/\An P f) {f:Nat} {first:List SV} {pre:List EV->Prop} {res:List EV->SV} (hf:C.specs f=some (.fn pre res)) {vs:List Value} (hv:By M w first vs) :
  JP P M w (SA pre res first) (.func (.func f) vs.toArray #[]):=by
 obtain⟨h1,h2⟩:=hC f _ hf;refine⟨f,vs.toArray,#[],rfl,h2,fun M' w' hl' hlt args vals hda hp=>?_⟩;have hall:=Su (By.later hl' hv) hda;have hp:pre (first.map .p++args.map .p):=hp;have:=h1 M' w' (first.map .p++args.map .p) (vs++vals) hlt ?_ hp
 ·show CallsIn Fence.wide 0 P f (vs.toArray++vals.toArray ++ #[]) w' (Ig M' w' (res (first.map .p++args.map .p)));grind
 ·rw[<- List.map_append];refine⟨by simpa using hall.1,fun i hi=>?_⟩;simp only[Aih]at hi;rw[Gv _ _ hi];exact⟨rfl,.p (hall.2 i hi)⟩
theorem Pz {M':Nat->Prop}:∀(fs:List Field) (cs:List SV) (vs:List Value),By M' w cs vs->By M' w (Lu P fs cs) vs
 |[],_,_,h=>h
 |f::l,cs,vs,h=>by
   unfold Lu;split
   ·rename_i y hc hy;refine Pz l _ vs ⟨by rw[List.length_set];exact h.1,fun i hi=>?_⟩;rw[List.length_set]at hi;have h2:=h.2 i hi
    by_cases e:f.offset=i
    ·subst e;have e1:SV.at cs f.offset=.raw (.slice none 0 0):=by
      unfold SV.at;grind
     have e2:SV.at (cs.set f.offset (.sl y.size 0 (fun _=>[]))) f.offset=.sl y.size 0 (fun _=>[]):=by
      unfold SV.at;grind
     rw[e1]at h2;rw[e2];generalize vs.getD f.offset undef=v at h2;cases h2;exact .sl _ _ _ _ _ (fun _ _=>undef) (Ah0 _) (rH _) (fun h=>by omega) (fun i hi=>by omega) (fun i hi=>by omega) (fun i hi=>by omega)
    ·have e2 : SV.at (cs.set f.offset (.sl y.size 0 (fun _ =>[]))) i = SV.at cs i :=by
      unfold SV.at;grind
     grind
   ·exact Pz l _ vs h
theorem pZ {C:Aj} (hC:∀f sp,C.specs f=some sp->Az P f sp/\An P f) (S:Al P G st a w env M X) {t:TypeId} {e e':EV} {ps:List Prop} {ls:List Nat} (h:MR P C st t e=some (ps,e',ls)) (hp:all ps)
  {v:Value} (hv:Ap P M w env e v) {L:List Nat} (hL:∀r,r∈ls->r∈L):Lr e'=true/\Ap P (D8 M env L) w GJ e' v:=by
 have hw:∀b,M b->D8 M env L b:=fun b hb=>.inl hb;have hlat:Be M (D8 M env L) w w:=⟨Ah0 _,fun _ _=>rfl,hw⟩;unfold MR at h;split at h
 ·rename_i f caps;rcases hv with ⟨hv⟩;split at h
  ·split at h
   ·rename_i pre res hf;cases h;exact⟨rfl,.fn ((pX hC hf hv).later hlat)⟩
   ·cases h
  ·cases h;exact⟨rfl,.p (hv.weak hw)⟩
 ·rename_i v';rcases hv with ⟨hv⟩;split at h
  ·rename_i y hy;cases h;cases hv;exact⟨rfl,.p (.sl _ _ _ _ _ (fun _ _=>undef) (Ah0 _) (rH _) (fun h=>by omega) (fun i hi=>by omega) (fun i hi=>by omega) (fun i hi=>by omega))⟩
  ·cases h;exact⟨rfl,.p (hv.weak hw)⟩
 ·rename_i cs;rcases hv with ⟨hv⟩;split at h
  ·cases h;have hv:=hv.weak hw;cases hv with
   |agg _ vs hl hd =>
     rename_i fs _ _;have:=Pz (P:=P) fs.toList cs vs ⟨hl,hd⟩;exact⟨rfl,.p (.agg _ _ this.1 this.2)⟩
  ·cases h;exact⟨rfl,.p (hv.weak hw)⟩
 ·rcases hv with ⟨hv⟩;cases h;exact⟨rfl,.p (hv.weak hw)⟩
 ·cases h;cases hv with
  |fn hf=>exact⟨rfl,.fn (hf.later hlat)⟩
 ·cases h;cases hv with
  |full hf hq=>exact⟨rfl,.p (hf.weak hw)⟩
 ·rename_i r;split at h
  ·rename_i e1 sz n get hl;cases h;cases hv with
   |row hrv =>
   have:=Nb S (Bp hl) (M':=D8 M env L) hw (fun g hg=>.inr ⟨r,hL r (by simp),hg⟩);rw[hrv]at this;exact⟨rfl,.p this⟩
  ·cases h
 ·rename_i r sz lo n;split at h
  ·rename_i e1 sz' n' get hl;split at h
   ·rename_i hsz;subst hsz;cases h;exact⟨rfl,.p (Py S (Bp hl) (M':=D8 M env L) hw (fun g hg=>.inr ⟨r,hL r (by simp),hg⟩) (AC hp) hv)⟩
   ·cases h
  ·cases h
 ·rename_i r n;split at h
  ·rename_i e1 sz n' get hl;cases h;exact⟨rfl,.p (pW S (Bp hl) (M':=D8 M env L) hw (fun g hg=>.inr ⟨r,hL r (by simp),hg⟩) (AC hp) hv)⟩
  ·cases h
 ·cases h
theorem all_append {ps qs:List Prop} (h:all (ps++qs)):all ps/\all qs:=⟨fun p hp=>h p (by simp[hp]),fun p hp=>h p (by simp[hp])⟩
theorem Kc {C:Aj} (hC:∀f sp,C.specs f=some sp->Az P f sp/\An P f) (S:Al P G st a w env M X) {ρ:Operand->Option EV} (hρ:∀x e,ρ x=some e->Ap P M w env e (a.eval x)) {L:List Nat} :
  ∀(xs:List Operand) (ts:List TypeId) (ps:List Prop) (as:List EV) (ls:List Nat),Gc P C st ρ xs ts=some (ps,as,ls)->all ps->(∀r,r∈ls->r∈L)->FL P (D8 M env L) w as (xs.map a.eval)
 |[],ts,ps,as,ls,h,_,_=>by simp[Gc]at h;obtain⟨_,rfl,_⟩:=h;exact⟨rfl,fun i hi=>by simp at hi⟩
 |x::xs,ts,ps,as,ls,h,hp,hL=>by
   simp only[Gc]at h;split at h
   ·rename_i e he;split at h
    ·rename_i p a' l ps' as' ls' h1 h2;cases h;obtain⟨hp1,hp2⟩:=all_append hp;obtain⟨q1,q2⟩:=pZ hC S h1 hp1 (hρ _ _ he) (L:=L) (by grind);obtain⟨q3,q4⟩:=Kc hC S hρ xs _ _ _ _ h2 hp2 (fun r hr=>hL r (by simp[hr]));refine⟨by grind,fun i hi=>?_⟩;cases i with
     |zero=>exact⟨by simpa[EV.at]using q1,by simpa[EV.at]using q2⟩
     |succ i=>simpa[EV.at]using q4 i (by grind)
    ·cases h
   ·cases h
theorem SZ {M':Nat->Prop} {as bs:List EV} {us vs:List Value} (h:FL P M' w as us) (k:FL P M' w bs vs):FL P M' w (as++bs) (us++vs):=by
 refine⟨by simp[h.1,k.1],fun i hi=>?_⟩;simp only[EV.at,AS]
 by_cases hi':i<as.length
 ·rw[AhP hi',AhP (by rw[h.1];exact hi')];have:=h.2 i hi';simpa[EV.at,AS]using this
 ·rw[AhT (by omega),AhT (by rw[h.1];omega),h.1];have:=k.2 (i-as.length) (by grind);simpa[EV.at,AS]using this
theorem Ta {M':Nat->Prop} {ss:List SV} {vs:List Value} (h:By M' w ss vs):FL P M' w (ss.map .p) vs :=
 ⟨by simpa using h.1,fun i hi=>by simp only[Aih]at hi;rw[Gv _ _ hi];exact⟨rfl,.p (h.2 i hi)⟩⟩
theorem Nc (S:Al P G st a w env M X) {L:List Nat} (hL:∀r,r∈L->∃o,(r,o)∈st.own):∀b,D8 M env L b->b<w.heap.size:=fun b hb=>by
 rcases hb with hb|⟨r,hr,hg⟩
 ·exact S.mlt b hb
 ·obtain⟨o,ho⟩:=hL r hr;exact(S.oat _ _ ho b (.inl hg)).2.2
theorem LC {C:Aj} {ρ:Operand->Option EV}:∀(xs:List Operand) (ts:List TypeId) (ps:List Prop) (as:List EV) (ls:List Nat),Gc P C st ρ xs ts=some (ps,as,ls)->∀r,r∈ls->∃o,(r,o)∈st.own
 |[],ts,ps,as,ls,h,r,hr=>by simp[Gc]at h;grind
 |x::xs,ts,ps,as,ls,h,r,hr=>by
   simp only[Gc]at h;split at h
   ·split at h
    ·rename_i p a' l ps' as' ls' h1 h2;cases h;rcases AhG.1 hr with hr|hr
     ·unfold MR at h1;split at h1
      ·grind
      ·grind
      ·grind
      ·grind
      ·grind
      ·grind
      ·split at h1
       ·rename_i hl;cases h1;simp at hr;subst hr;exact⟨_,Bp hl⟩
       ·cases h1
      ·split at h1
       ·rename_i hl;split at h1
        ·cases h1;simp at hr;subst hr;exact⟨_,Bp hl⟩
        ·cases h1
       ·cases h1
      ·split at h1
       ·rename_i hl;cases h1;simp at hr;subst hr;exact⟨_,Bp hl⟩
       ·cases h1
      ·cases h1
     ·exact LC xs _ _ _ _ h2 r hr
    ·cases h
   ·cases h
theorem LD (hG:Br G) (S:Al P G st a w env M X) {gd:gdT} (hgd:EL a gd) (hh:CB gd) {dst:Option Nat} (hd:∀t,dst=some t->t<st.nt) (hq:∀q c x,gd=some (q,c,x)->dst≠some q)
  {L:List Nat} {r:SV} (hL:(L.isEmpty||D6 r)=true) {e:Ending} {w':World} (hg:Ig (D8 M env L) w r e w'):∃v,e=.returned v/\AO P G (st.put dst ⟨gd,.p r⟩) (a.put dst v) w':=by
 obtain⟨v,M',rfl,hb,h1,h2,h3,h4⟩:=hg;refine⟨v,rfl,?_⟩;cases hl:L.isEmpty with
 |true =>
   have hL0:L = []:=by grind
   subst hL0;have hM:∀b,M' b->M b\/w.heap.size<=b:=fun b hb=>by
    rcases h2 b hb with (h|⟨_,h,_⟩)|h
    ·exact .inl h
    ·simp at h
    grind
   have S':=S.grow hG (L6 hb) (M':=M') (fun b hb=>h1 b (.inl hb)) hM h3;exact⟨_,_,_,S'.putG hgd hd hq (fun _=>.p h4) (by grind)⟩
 |false =>
   have hn:D6 r=true:=by grind
   have S':=S.grow hG (L6 hb) (M':=M) (fun b h=>h) (fun b h=>.inl h) (fun b h=>Ah3 (S.mlt b h) hb.size);exact⟨_,_,_,S'.putG hgd hd hq (fun _=>.p (Hr h4 hn)) (by grind)⟩
end
section
variable {P:Program} {M:Nat->Prop} {w:World} {G:Bw} {st:St} {a:Act} {env:Ar} {X:Nat->Prop}
def LF (P:Program) (G:Bw) (C:Aj):Prop:=∀y,C.yld=some y->∀k X w vals,k<y.cnt->G.g k X w->(∀b,X b->b<w.heap.size)->By (fun _=>False) w (y.item k) vals ->
 ∃fn tmps assign body,(Instr.yield y.l vals.toArray).run P w=.ok (.round y.l fn tmps assign body) w /\
   RoundIn Fence.wide 0 P y.l fn tmps assign body w (fun e w'=>∃b,e=.returned (.bool b)/\w.heap.size<=w'.heap.size/\(∀c,c<w.heap.size->((b=true/\G.m0 c)\/X c)->w'.heap[c]? = w.heap[c]?)/\G.g (if b then k+1 else y.cnt+1) X w')
def HJ (P:Program) (f:Nat) (it:Ga):Prop:=∀(G:Bw),Br G->∀(l:Nat) (w:World) (caps:List SV) (vals:List Value),it.pre caps->(∀b,G.m0 b->b<w.heap.size)->By G.m0 w caps vals->G.g 0 (fun _=>False) w ->
 (∀C:Aj,C.yld=some ⟨l,it.cnt caps,it.item caps⟩->LF P G C) ->
 CallsIn Fence.wide 0 P f (#[.func (.yield l) #[] #[]]++vals.toArray) w (fun e w'=>∃v X,e=.returned v/\(G.g (it.cnt caps) X w'\/G.g (it.cnt caps+1) X w'))
def Fb (env:Ar) (own:List (Nat×Ah)) (b:Nat):Prop:=∃k o,(k,o)∈own/\env.at_ k=some b
def Tb (P:Program) (tr:Tr) (t:tr.T) (M:Nat->Prop) (w:World) (env:Ar) (e:Ending) (w':World):Prop :=
 ∃u v M',tr.post t u/\e=.returned v/\Same (Fb env (tr.own t)) w w'/\(∀b,M b->M' b)/\(∀b,M' b->M b\/w.heap.size<=b)/\(∀b,M' b->b<w'.heap.size)/\(∀k o,(k,o)∈tr.own' t u->B8 P M' w' env k o)/\Ap P M' w' env (tr.res t u) v
def Gf (P:Program) (f:Nat) (tr:Tr):Prop:=(∀t u,Bq (tr.own' t u)=Bq (tr.own t))/\∀t,tr.pre t->GL (tr.own t)=true->∀(M:Nat->Prop) (w:World) (env:Ar) (vals:List Value),(∀b,M b->b<w.heap.size)->(∀k o,(k,o)∈tr.own t->B8 P M w env k o) ->
 (∀k o,(k,o)∈tr.own t->∀g,env.at_ k=some g->¬ M g/\g<w.heap.size)->(∀k o k' o',(k,o)∈tr.own t->(k',o')∈tr.own t->k≠k'->∀g,env.at_ k=some g->env.at_ k'≠some g) ->
 vals.length=(tr.args t).length->(∀i,i<(tr.args t).length->Ap P M w env (EV.at (tr.args t) i) (vals.getD i undef))->CallsIn Fence.wide 0 P f vals.toArray w (Tb P tr t M w env)
def Tc (P:Program) (mk:Mk) (t:mk.T) (M:Nat->Prop) (w:World) (env:Ar) (e:Ending) (w':World):Prop :=
 ∃u v env' M',mk.post t u/\e=.returned v/\Same (Fb env (mk.lent t)) w w'/\(∀b,M b->M' b) /\
   (∀b,M' b->M b\/(w.heap.size<=b/\∀k,k∈mk.keys++C5 mk.mv->env'.at_ k≠some b)\/∃k,k∈C5 mk.mv/\env.at_ k=some b/\env'.at_ k≠some b)/\(∀b,M' b->b<w'.heap.size) /\
   (∀k,k∈mk.lkeys->k ∉ C5 mk.mv->env'.at_ k=env.at_ k/\env'.rv k=env.rv k) /\
   (∀k,k∈mk.keys->∀g,env'.at_ k=some g->w.heap.size<=g/\g<w'.heap.size)/\(∀k,k∈C5 mk.mv->∀g,env'.at_ k=some g->env.at_ k=some g\/(w.heap.size<=g/\g<w'.heap.size)) /\
   (∀k1 k2,k1∈mk.keys->k2∈mk.keys->k1≠k2->∀g,env'.at_ k1=some g->env'.at_ k2≠some g) /\
   (∀k o,(k,o)∈mk.lent' t u->B8 P M' w' env' k o)/\(∀k o,(k,o)∈mk.own t u->B8 P M' w' env' k o)/\Ap P M' w' env' (mk.res t u) v
def D9 (P:Program) (f:Nat) (mk:Mk):Prop:=((∀t,Bq (mk.lent t)=mk.lkeys)/\(∀t u,Bq (mk.lent' t u)=mk.lkeys)/\(∀t u,Bq (mk.own t u)=mk.keys) /\
  (∀t u,(mk.lent' t u).all (fun x=>x.2.within mk.lkeys)=true/\(mk.own t u).all (fun x=>x.2.within (mk.lkeys++mk.keys))=true/\(mk.res t u).within (mk.lkeys++mk.keys)=true)/\(mk.mv=none\/mk.keys = [])/\∀k,k∈C5 mk.mv->k∈mk.lkeys)/\∀t,mk.pre t->GL (mk.lent t)=true->∀(M:Nat->Prop) (w:World) (env:Ar) (vals:List Value),(∀b,M b->b<w.heap.size) ->
 (∀k o,(k,o)∈mk.lent t->B8 P M w env k o)->(∀k o,(k,o)∈mk.lent t->∀g,env.at_ k=some g->¬ M g/\g<w.heap.size)->(∀k o k' o',(k,o)∈mk.lent t->(k',o')∈mk.lent t->k≠k'->∀g,env.at_ k=some g->env.at_ k'≠some g) ->
 vals.length=(mk.args t).length->(∀i,i<(mk.args t).length->Ap P M w env (EV.at (mk.args t) i) (vals.getD i undef))->CallsIn Fence.wide 0 P f vals.toArray w (Tc P mk t M w env)
def Jl (P:Program) (f:Nat) (c:FM):Prop:=∀t,c.pre t->∀(M:Nat->Prop) (w:World) (env:Ar) (a b:Nat) (vals:List Value),(∀b,M b->b<w.heap.size)->env.at_ 0=some a->env.at_ 1=some b->a≠b->¬ M a->¬ M b->b<w.heap.size ->
 EH P M w env 0 c.t ((c.head t).map .p ++ [.mapv 1])->(∃dom,Gr M w env 1 dom (c.val t))->By M w (c.args t) vals ->
 CallsIn Fence.wide 0 P f (Value.pointer (some ⟨a,0,none⟩)::vals).toArray w (fun e w'=>∃v M',e=.returned v/\Same (fun x=>x=a\/x=b) w w'/\(∀b,M b->M' b)/\(∀b,M' b->M b\/w.heap.size<=b)/\(∀b,M' b->b<w'.heap.size) /\
  EH P M' w' env 0 c.t ((c.head t).map .p ++ [.mapv 1])/\(∃dom,Gr M' w' env 1 dom (c.val t))/\Ax M' w' (c.res t) v)
def Gy (P:Program) (C:Aj):Prop:=(∀g mk,C.mks g=some mk->D9 P g mk/\An P g)/\∀g c,C.fams g=some c->Jl P g c/\An P g
def AB (P:Program) (C:Aj):Prop:=(∀g tr,C.trs g=some tr->Gf P g tr/\An P g)/\Gy P C
def Kd (P:Program) (C:Aj):Prop:=(∀g it,C.iters g=some it->HJ P g it/\An P g)/\AB P C
abbrev EB (P:Program) (G:Bw) (C:Aj):Prop:=(∀f sp,C.specs f=some sp->Az P f sp/\An P f)/\LF P G C/\Kd P C
theorem Al.yielded {P:Program} {G:Bw} {st:St} {a:Act} {w w':World} {env:Ar} {M X:Nat->Prop} (S:Al P G st a w env M X) {k:Nat} (hsz:w.heap.size<=w'.heap.size) (hb:∀c,c<w.heap.size->(G.m0 c\/X c)->w'.heap[c]? = w.heap[c]?) (hg:G.g k X w') :
  Al P G { st with yk:=k } a w' env M X:=by
 have hM:∀b,M b->w'.heap[b]? = w.heap[b]?:=fun b h=>hb b (S.mlt b h) (S.mx b h);have hX:∀b,X b->w'.heap[b]? = w.heap[b]?:=fun b h=>hb b (S.xlt b h) (.inr h);have hl:Be M M w w':=⟨hsz,hM,fun _ h=>h⟩;refine⟨⟨hg,S.gam.2⟩,S.mx,fun k o h=>?_,fun k o h g hg=>?_,S.inj,S.nod,fun b h=>Ah3 (S.mlt b h) hsz,fun b h=>Ah3 (S.xlt b h) hsz,S.siz,?_,S.grd,?_,S.dno⟩
 ·have h1:=S.own k o h;have h2:=S.oat k o h;exact h1.move hl rfl rfl (by grind) (by grind)
 ·obtain⟨q1,q2,q3⟩:=S.oat k o h g hg;grind
 ·intro s e h;obtain⟨h1,h2,h3⟩:=S.tmp s e h;exact⟨h1,fun ho=>(h2 ho).later hl,h3⟩
 ·intro d h;obtain⟨D,e,q1,q2,q3,q4⟩:=S.dfr d h;grind
theorem qA {M M':Nat->Prop} {w w':World} {s:SV} {v:Value} (h:Ax M w s v) (hs:S8 s=true):Ax M' w' s v:=by
 cases h with
 |clo f cs vs hl hd =>
   cases cs with
   |nil=>exact .clo f [] vs hl (by grind)
   |cons c cs=>cases hs
 |int k n=>exact .int k n
 |bool b=>exact .bool b
 |raw v=>exact .raw v
 |agg cs vs hl hd=>exact Hr (.agg cs vs hl hd) hs
 |tup cs vs hl hd=>exact Hr (.tup cs vs hl hd) hs
 |ref=>cases hs
 |sl=>cases hs
theorem Al.yieldedF {P:Program} {G:Bw} {st:St} {a:Act} {w w':World} {env:Ar} {M X:Nat->Prop} (S:Al P G st a w env M X) {k:Nat} (hsz:w.heap.size<=w'.heap.size) (hb:∀c,c<w.heap.size->X c->w'.heap[c]? = w.heap[c]?) (hg:G.g k X w') :
  Al P G { st.bare with yk:=k } a w' env (fun _=>False) X:=by
 refine⟨⟨hg,S.gam.2⟩,fun b h=>h.elim,fun k o h=>(by cases h),fun k o h=>(by cases h),fun k o k' o' h=>(by cases h),List.nodup_nil,fun b h=>h.elim,fun b h=>Ah3 (S.xlt b h) hsz,S.siz,?_,fun s e h=>S.grd s e (rK.1 h).1,?_,S.dno⟩
 ·intro s e h;obtain⟨h0,hf⟩:=rK.1 h;obtain⟨h1,h2,h3⟩:=S.tmp s e h0;refine⟨h1,fun ho=>?_,h3⟩;have h4:=h2 ho;have hf:S9 e.v=true:=hf;show Ap P _ _ _ e.v _;generalize a.eval (.tmp s)=v at h4;generalize e.v=ev at h4 hf;cases h4 with
  |p hp=>exact .p (qA hp hf)
  |yield=>exact .yield
  |any=>exact .any
  |_=>cases hf
 ·intro d h;obtain⟨D,e,q1,q2,q3,q4⟩:=S.dfr d h;exact⟨D,e,(by grind),q2,fun h=>h,fun k o h=>(by cases h)⟩
theorem Td {gd:gdT} {p:Prop} (h:p):JX gd p:=by
 unfold JX;grind
theorem qB (hG:Br G) (S:Al P G st a w env M X) {C:Aj} {gd:gdT} (hgd:EL a gd) (hh:CB gd) {dst:Option Nat} (hd:∀t,dst=some t->t<st.nt) (hq:∀q c x,gd=some (q,c,x)->dst≠some q)
  {sides:List Prop} {args:List EV} {L:List Nat} {sp:Spec} {K:St->Prop} (h:Gd C st gd dst sides args L sp K) {f:Nat} {vals:List Value} (hargs:FL P (D8 M env L) w args vals) (hlt:∀b,D8 M env L b->b<w.heap.size)
  (hsp:Az P f sp) (hLown:∀r,r∈L->∃o,(r,o)∈st.own):CallsIn Fence.wide 0 P f vals.toArray w (fun e w'=>∃v,e=.returned v/\∃st',K st'/\AO P G st' (a.put dst v) w'):=by
 have mono:∀{R R':Ending->World->Prop},CallsIn Fence.wide 0 P f vals.toArray w R->(∀e w',R e w'->R' e w')->CallsIn Fence.wide 0 P f vals.toArray w R' :=
  fun h1 h2=>callsIn_wide.2 ((callsIn_wide.1 h1).mono h2)
 cases sp with
 |fn pre res =>
   simp only[Gd]at h;obtain⟨h1,h2⟩:=BD h;have h1:=Ge h1 hh;have hp:pre args:=h1 _ (by simp);split at h2
   ·rename_i hL;refine mono (hsp _ w args vals hlt hargs hp) fun e w' hg=>?_;obtain⟨v,rfl,hs⟩:=LD hG S hgd hh hd hq hL hg;grind
   grind
 |rel T t0 pre post res =>
   simp only[Gd]at h;obtain⟨h1,h2⟩:=BD h;have h1:=Ge h1 hh;have hp:pre args:=h1 _ (by simp);refine mono (hsp _ w args vals hlt hargs hp) fun e w' ⟨t,ht,hg⟩=>?_;have h3:=h2 t (Td ht);split at h3
   ·rename_i hL;obtain⟨v,rfl,hs⟩:=LD hG S hgd hh hd hq hL hg;grind
   grind
 |fresh T t0 pre post e0 sz n get =>
   simp only[Gd]at h;obtain⟨h1,h2⟩:=BD h;have h1:=Ge h1 hh;have hp:pre args:=h1 _ (by simp);refine mono (hsp _ w args vals hlt hargs hp) fun e w' ⟨t,ht,env',v,he,hb,ho,hrv,hat⟩=>?_;subst he;refine⟨v,rfl,?_⟩;have h30:=h2 t (Td ht);have hL:=(BD h30).1;have h3:=(BD h30).2;clear h30 h2;have hlt:∀b,D8 M env [] b->b<w.heap.size:=fun b hb=>hlt b (by
    rcases hb with hb|⟨_,hb,_⟩
    ·exact .inl hb
    ·simp at hb)
   have ho:B8 P (fun b=>D8 M env [] b\/(w.heap.size<=b/\b<w'.heap.size/\env'.at_ 0≠some b)) w' env' 0 (.row e0 sz (n args t) (get args t)):=by
    cases L with
    |nil=>exact ho
    |cons r L =>
      have hnm:∀i,i<n args t->D6.noMems (get args t i)=true:=AC hL;obtain⟨hm,hgl,h4⟩:=ho;refine⟨hm,hgl,?_⟩;grind [Hr,Hr.noMems_at]
   split at h3
   ·have S':=S.grow hG (L6 hb) (M':=M) (fun b h=>h) (fun b h=>.inl h) (fun b h=>Ah3 (S.mlt b h) hb.size);exact⟨_,h3,_,_,_,S'⟩
   ·rename_i d;have ho0:=ho;obtain⟨hm,hgl,h4⟩:=ho;have hr:∃A k c,v=.slice A k c:=by
     grind
    obtain⟨A,k,c,hv⟩:=hr;split at h3
    ·split at h3
     ·split at h3
      ·rename_i hn
       -- an own row
       let env2:Ar:={ env with at_:=fun j=>if j=d then env'.at_ 0 else env.at_ j,rv:=fun j=>if j=d then v else env.rv j };have e1:env2.at_ d=env'.at_ 0:=by simp[env2]
       have e2:env2.rv d=v:=by simp[env2]
       obtain⟨X',S'⟩:=(S.forget d).newOwn hG (hd d rfl) hn (fun s e h=>Ir h) (L6 hb) (env':=env2) (by grind) rfl
        (by grind) (M':=fun b=>D8 M env [] b\/(w.heap.size<=b/\b<w'.heap.size/\env'.at_ 0≠some b)) (fun b hb=>.inl (.inl hb))
        (fun b hb=>by
         rcases hb with (hb|⟨_,hb,_⟩)|hb
         ·exact .inl hb
         ·simp at hb
         grind)
        (fun b hb'=>by
         rcases hb' with hb'|hb'
         ·exact Ah3 (hlt b hb') hb.size
         grind)
        (o:=.row e0 sz (n args t) (get args t)) ⟨hm,hgl,by rw[e1,e2,<- hrv];exact h4⟩
       subst hv;exact⟨_,h3,_,_,_,S'.put0 hd (.row e2)⟩
      grind
     grind
    ·have S' :=S.grow hG (L6 hb) (M' :=fun b =>M b\/(w.heap.size<=b/\b<w'.heap.size)) (fun b h => .inl h) (by grind)
      (fun b h=>by rcases h with h|h;exact Ah3 (S.mlt b h) hb.size;exact h.2)
     refine⟨_,h3,_,_,_,S'.putG hgd hd hq (fun _=>.p ?_) (by grind)⟩;rw[<- hrv];have hw:∀b,(D8 M env [] b\/(w.heap.size<=b/\b<w'.heap.size/\env'.at_ 0≠some b))->(M b\/(w.heap.size<=b/\b<w'.heap.size)):=fun b hb=>by
      rcases hb with (hb|⟨_,hb,_⟩)|hb
      ·exact .inl hb
      ·simp at hb
      grind
     rcases h4 with ⟨_,hrv',hn0⟩|⟨g,cap,cur,hg',hrv',hh',hnc,hcm,hcs,hd'⟩
     ·rw[hrv',hn0];exact .sl _ _ _ _ _ (fun _ _=>undef) (Ah0 _) (rH _) (fun h=>by omega) (fun i hi=>by omega) (fun i hi=>by omega) (fun i hi=>by omega)
     ·rw[hrv'];refine .sl _ _ _ _ _ (fun i j=>cur.getD (i*sz+j) undef) hnc hm (fun _=>⟨_,rfl,.inr (hat g hg'),fun i hi j hj=>?_⟩) hgl (by grind) (fun i hi j hj=>(hd' i hi j hj).2.weak hw);have:=C6 (sz:=sz) (len:=cap) (Ah3 hi hnc) hj;rw[Cw,AhO,Ec hh' (by omega)]
theorem qC (S:Al P G st a w env M X) {sz:Nat} {e:EV} {ps:List Prop} {m:Nat} {get:Nat->List SV} (h:E9 st sz e=some (ps,m,get)) (hp:all ps)
  {v:Value} (hv:Ap P M w env e v):∃L,Ax (D8 M env L) w (.sl sz m get) v/\∀r,r∈L->∃o,(r,o)∈st.own:=by
 have hw:∀L b,M b->D8 M env L b:=fun L b hb=>.inl hb;cases e with
 |p s =>
   cases s with
   |sl sz' n' g' =>
     simp only[E9]at h;split at h
     ·rename_i hs;subst hs;cases h;rcases hv with ⟨hv⟩;exact⟨[],hv.weak (hw []),(by grind)⟩
     ·cases h
   |raw v' =>
     unfold E9 at h;split at h
     ·grind
     ·rename_i heq;cases heq;cases h;rcases hv with ⟨hv⟩;cases hv;exact⟨[],.sl _ _ _ _ _ (fun _ _=>undef) (Ah0 _) (rH _) (fun h=>by omega) (fun i hi=>by omega) (fun i hi=>by omega) (fun i hi=>by omega),(by grind)⟩
     ·grind
     ·grind
     ·grind
     ·cases h
   |_=>simp[E9]at h
 |full q sz' n' g' =>
   simp only[E9]at h;split at h
   ·rename_i hs;subst hs;cases h;cases hv with
    |full hv _=>exact⟨[],hv.weak (hw []),(by grind)⟩
   ·cases h
 |row r =>
   simp only[E9]at h;split at h
   ·rename_i e' sz' n' g' hl;split at h
    ·rename_i hs;subst hs;cases h;cases hv with
     |row hrv =>
     have:=Nb S (Bp hl) (M':=D8 M env [r]) (hw _) (fun g hg=>.inr ⟨r,by simp,hg⟩);rw[hrv]at this;exact⟨[r],this,fun r' hr'=>by simp at hr';subst hr';exact⟨_,Bp hl⟩⟩
    ·cases h
   ·cases h
 |rsub r sz1 lo n1 =>
   simp only[E9]at h;split at h
   ·rename_i e' sz' n' g' hl;split at h
    ·rename_i hs;obtain⟨rfl,rfl⟩:=hs;cases h;exact⟨[r],Py S (Bp hl) (M':=D8 M env [r]) (hw _) (fun g hg=>.inr ⟨r,by simp,hg⟩) (AC hp) hv,fun r' hr'=>by simp at hr';subst hr';exact⟨_,Bp hl⟩⟩
    ·cases h
   ·cases h
 |_=>simp[E9]at h
theorem Te {M':Nat->Prop} {sz m:Nat} {get:Nat->List SV} {v:Value} (h:Ax M' w (.sl sz m get) v):∃(A:Option Addr) (cap:Nat) (news:List Value),v=.slice A m cap/\m<=cap/\news.length=m*sz/\(A=none->m=0)/\(∀ad,A=some ad->0<m->∀j u,news[j]? = some u->w.cell? (ad.add j)=some u) /\
  (∀u:Value,u∈news->u.oneCell'=true)/\(∀i,i<m->(get i).length=sz)/\∀i,i<m->∀j,j<sz->Ax M' w (SV.at (get i) j) (news.getD (i*sz+j) undef):=by
 cases h with
 |sl _ _ _ A cap vs hcap hm hA hg ho hd =>
   have hAn:A=none->m=0:=(by grind)
   by_cases hsz:sz=0
   ·subst hsz;exact⟨A,cap,[],rfl,hcap,by simp,hAn,(by grind),(by grind),hg,(by grind)⟩
   have hpos:0<sz:=Nat.pos_of_ne_zero hsz;have key:∀k,k<m*sz->k / sz<m/\k % sz<sz/\k / sz*sz+k % sz=k:=fun k hk=>⟨Nat.div_lt_of_lt_mul (by grind),AiX _ hpos,by grind [Ai7,Nat.div_add_mod]⟩;refine⟨A,cap,(Ah5 (m*sz)).map fun k=>vs (k / sz) (k % sz),rfl,hcap,by simp,hAn,fun ad e h0 j u hu=>?_,fun u hu=>?_,hg,fun i hi j hj=>?_⟩
   ·grind
   ·grind
   ·have hlt:=C6 (sz:=sz) hi hj;grind
theorem qD {t ty e:TypeId} {y:Ty} (ht:P.underlying t=some (.slice e)) (hy:Bg P e=some y) {v:Value} {n:Nat} {xs:List Value} (hown:w.ownsRow 0 e y.size v n xs) (c:Nat) :
  (Builtin.append_ #[t,t] ty #[v,.slice none 0 c]).run P w=.ok v w:=by
 obtain⟨i,hi,hz,hs,hb,_⟩:=CV hy;rcases hown.2 with ⟨rfl,rfl⟩|⟨g,cap,cur,rfl,_,_,hnc,_⟩
 ·simp[Builtin.append_,run_underlying ht,sizeOf,typeInfo,hi,Builtin.lenOf,Builtin.firstCells]
 ·simp[Builtin.append_,run_underlying ht,sizeOf,typeInfo,hi,Builtin.lenOf,Builtin.firstCells,hnc,storeCells]
theorem qE {t ty e:TypeId} {y:Ty} (hy:Bg P e=some y) (ht:P.underlying t=some (.slice e)) {v:Value} {n:Nat} {xs:List Value} (hown:w.ownsRow 0 e y.size v n xs) (_:0<y.size) (_:y.zero.cells.size=y.size)
  {ad:Addr} {m cap:Nat} {news:List Value} (hl:news.length=m*y.size) (hc:∀j u,news[j]? = some u->w.cell? (ad.add j)=some u) (h1:∀u,u∈news->u.oneCell'=true)
  (h63:n+m<=maxLen) (hbytes:(n+m)*y.bytes<=140737488355328) {v':Value} {w':World} (hrun:(Builtin.append_ #[t,t] ty #[v,.slice (some ad) m cap]).run P w=.ok v' w'):w.drawn<=w'.drawn:=by
 obtain⟨i,hi,hz,hs,hb,_⟩:=CV hy;have hsmall:n+m<=9223372036854775807:=by simp only[maxLen]at h63;omega
 rcases hown.2 with ⟨rfl,rfl⟩|⟨g,cp,cur,rfl,_,hg,hnc,_,hcs,_⟩
 ·by_cases hm:m=0
  ·subst hm;have hn:news = []:=(by grind);subst hn;simp[Builtin.append_,run_underlying ht,sizeOf,typeInfo,hi,Builtin.lenOf,Builtin.firstCells,loadCells,loadCellsFrom]at hrun;grind
  ·have hr:=run_append_nil (P:=P) w t ty e i y.zero ht hi hz ad m cap news (by rw[hl,hs]) hc (by omega) (by omega) (by grind);rw[hr]at hrun;cases hrun;exact Nat.le_succ _
 ·by_cases hroom:n+m<=cp
  ·have hfit:n*i.size+news.length<=cur.size:=by rw[hl,hcs,hs,<- Aia];exact AhI _ hroom
   have hr:=run_append_room (P:=P) w t ty e i ht hi g n cp cur hg ad m cap news (by rw[hl,hs]) hc h1 hroom hfit;rw[hr]at hrun;cases hrun;exact Ah0 _
  ·have hr:=run_append_grow (P:=P) w t ty e i y.zero ht hi hz ⟨g,0,none⟩ n cp xs (by rw[hown.1,hs]) (fun j u hu=>hown.cells (g:=g) rfl j u hu) ad m cap news (by rw[hl,hs]) hc (by omega) (by omega) (growslice_fits (by omega) (by grind));rw[hr]at hrun;cases hrun;exact Nat.le_succ _
theorem P0 {t ty e:TypeId} {y:Ty} (ht:P.underlying t=some (.slice e)) (hy:Bg P e=some y) (hsz:0<y.size) (hzs:y.zero.cells.size=y.size) {v:Value} {n:Nat} {xs:List Value} (hown:w.ownsRow 0 e y.size v n xs)
  {A:Option Addr} {m cap:Nat} {news:List Value} (hl:news.length=m*y.size) (hA:A=none->m=0) (hc:∀ad,A=some ad->0<m->∀j u,news[j]? = some u->w.cell? (ad.add j)=some u) (h1:∀u,u∈news->u.oneCell'=true)
  (h63:n+m<=maxLen) (hbytes:(n+m)*y.bytes<=140737488355328) :
  ∃v' w',(Builtin.append_ #[t,t] ty #[v,.slice A m cap]).run P w=.ok v' w'/\w'.ownsRow 0 e y.size v' (n+m) (xs++news)/\w.grownBy w' v.ownBlock/\(v'.ownBlock=v.ownBlock\/v'.ownBlock=some w.heap.size)/\w.drawn<=w'.drawn:=by
 obtain⟨i,hi,hz,hs,hb,_⟩:=CV hy;cases A with
 |none =>
   have:=hA rfl;subst this;have:news = []:=(by grind);subst this;exact⟨v,w,qD ht hy hown cap,by grind,World.grownBy.refl w _,.inl rfl,Ah0 _⟩
 |some ad =>
   have hcells:∀j u,news[j]? = some u->w.cell? (ad.add j)=some u:=(by grind);obtain⟨v',w',h2,h3,h4,_,h5⟩:=run_append_own_at (P:=P) w 0 t ty e i y.zero y.size y.bytes ht hi hz hs hb hzs hsz v n xs hown ad m cap news hl hcells h1 h63 hbytes (rH _);exact⟨v',w',h2,h3,h4,h5,qE hy ht hown hsz hzs hl hcells h1 h63 hbytes h2⟩
end
section
variable {P:Program} {M:Nat->Prop} {w:World} {G:Bw} {st:St} {a:Act} {env:Ar} {X:Nat->Prop}
def Nd (M:Nat->Prop) (w:World) (sz m:Nat) (get:Nat->List SV) (v:Value):Prop :=
 ∃(A:Option Addr) (cap:Nat) (news:List Value),v=.slice A m cap/\news.length=m*sz/\(A=none->m=0)/\(∀ad,A=some ad->0<m->∀j u,news[j]? = some u->w.cell? (ad.add j)=some u) /\
   (∀u:Value,u∈news->u.oneCell'=true)/\(∀i,i<m->(get i).length=sz)/\∀i,i<m->∀j,j<sz->Ax M w (SV.at (get i) j) (news.getD (i*sz+j) undef)
theorem P1 {sz m:Nat} {get:Nat->List SV} {v:Value} (h:Ax M w (.sl sz m get) v):Nd M w sz m get v:=by
 obtain⟨A,cap,news,h1,_,h2⟩:=Te h;exact⟨A,cap,news,h1,h2⟩
theorem LG {sz m:Nat} {get:Nat->List SV} {v:Value} {M':Nat->Prop} (h:Nd M' w sz m get v) (f:Nat->Nat->Value) (hf:∀ad cap,v=.slice (some ad) m cap->∀i,i<m->∀j,j<sz->w.cell? (ad.add (i*sz+j))=some (f i j)/\Ax M w (SV.at (get i) j) (f i j)):Nd M w sz m get v:=by
 obtain⟨A,cap,news,rfl,h1,h2,h3,h4,h5,h6⟩:=h;refine⟨A,cap,news,rfl,h1,h2,h3,h4,h5,fun i hi j hj=>?_⟩;cases A with
 |none=>grind
 |some ad =>
   grind [C6,Ahz]
theorem Ke (S:Al P G st a w env M X) {sz:Nat} {e:EV} {ps:List Prop} {m:Nat} {get:Nat->List SV} (h:E9 st sz e=some (ps,m,get)) (hp:all ps)
  {v:Value} (hv:Ap P M w env e v):Nd M w sz m get v:=by
 have hv0:=hv;obtain⟨L,hd,_⟩:=qC S h hp hv;have hc:=P1 hd;cases e with
 |p s =>
   cases s with
   |sl sz' n' g' =>
     simp only[E9]at h;split at h
     ·rename_i hs;subst hs;cases h;rcases hv with ⟨hv⟩;exact P1 hv
     ·cases h
   |raw v' =>
     refine LG hc (fun _ _=>undef) (fun ad cap e i hi=>?_);unfold E9 at h;grind
   |_=>simp[E9]at h
 |full q sz' n' g' =>
   simp only[E9]at h;split at h
   ·rename_i hs;subst hs;cases h;cases hv with
    |full hv _=>exact P1 hv
   ·cases h
 |row r =>
   simp only[E9]at h;split at h
   ·rename_i e' sz' n' g' hl;split at h
    ·rename_i hs;subst hs;cases h;obtain⟨_,_,hO⟩:=S.own _ _ (Bp hl);cases hv with
     |row hrv =>
     rcases hO with ⟨_,hrv',hn⟩|⟨g,cap,cur,hg,hrv',hh,hnc,hcm,hcs,hd'⟩
     ·exact LG hc (fun _ _=>undef) (by grind)
     ·rw[hrv']at hrv;cases hrv;refine LG hc (fun i j=>cur.getD (i*sz'+j) undef) (fun ad cap' e i hi j hj=>?_);cases e;have:=C6 (sz:=sz') (Ah3 hi hnc) hj;exact⟨by rw[Cw,AhO,Ec hh (by omega)],(hd' i hi j hj).2⟩
    ·cases h
   ·cases h
 |rsub r sz1 lo n1 =>
   simp only[E9]at h;split at h
   ·rename_i e' sz' n' g' hl;split at h
    ·rename_i hs;obtain⟨rfl,rfl⟩:=hs;cases h;have hle:lo+m<=n':=AC hp;obtain⟨_,_,hO⟩:=S.own _ _ (Bp hl);cases hv with
     |rsub A cap0 hc0 hm0 hA =>
     rcases hO with ⟨_,hrv',hn⟩|⟨g,cap,cur,hg,hrv',hh,hnc,hcm,hcs,hd'⟩
     ·exact LG hc (fun _ _=>undef) (by grind)
     ·refine LG hc (fun i j=>cur.getD ((lo+i)*sz1+j) undef) (fun ad cap' e i hi j hj=>?_);grind [C6,Cw,Aia,Nat.add_assoc,Ec]
    ·cases h
   ·cases h
 |_=>simp[E9]at h
theorem Tf {e:TypeId} {y:Ty} {n m:Nat} {get get2:Nat->List SV} {xs news:List Value} {w':World} {v':Value} {env':Ar} {k:Nat} (hl:Be M M w w')
  (hxl:xs.length=n*y.size) (hgl:∀i,i<n->(get i).length=y.size) (hgl2:∀i,i<m->(get2 i).length=y.size) (hnl:news.length=m*y.size) (hx1:∀u,u∈xs->u.oneCell'=true) (hn1:∀u,u∈news->u.oneCell'=true)
  (hdx:∀i,i<n->∀j,j<y.size->Ax M w (SV.at (get i) j) (xs.getD (i*y.size+j) undef)) (hdn:∀i,i<m->∀j,j<y.size->Ax M w (SV.at (get2 i) j) (news.getD (i*y.size+j) undef))
  (hown:w'.ownsRow 0 e y.size v' (n+m) (xs++news)) (hm:n+m<=maxLen) (hat:env'.at_ k=v'.ownBlock) (hrv:env'.rv k=v'):B8 P M w' env' k (.row e y.size (n+m) (AH n get get2)):=by
 refine⟨hm,fun i hi=>?_,?_⟩
 ·unfold AH;grind
 ·rcases hown.2 with ⟨rfl,h0⟩|⟨g,cap,cur,rfl,_,hh,hnc,hcm,hcs,htake⟩
  ·exact .inl ⟨by rw[hat];rfl,hrv,h0⟩
  ·refine .inr ⟨g,cap,cur,by rw[hat];rfl,hrv,hh,hnc,hcm,hcs,fun i hi j hj=>?_⟩;have hlt:=C6 (sz:=y.size) hi hj;have hlt2:=C6 (sz:=y.size) (Ah3 hi hnc) hj;have e1:cur.getD (i*y.size+j) undef=(xs++news).getD (i*y.size+j) undef:=by
    grind [AiF,LS]
   rw[e1];unfold AH
   by_cases hin:i<n
   ·have hltn:=C6 (sz:=y.size) hin hj;rw[if_pos hin,AS,AhP (by omega),<- AS];refine⟨?_,(hdx i hin j hj).later hl⟩;grind
   ·have hge:n*y.size<=i*y.size:=AhI _ (by omega);have hsub:i*y.size+j-n*y.size=(i-n)*y.size+j:=by rw[Nat.sub_mul];omega
    have hltm:=C6 (i:=i-n) (sz:=y.size) (len:=m) (by omega) hj;rw[if_neg hin,AS,AhT (by omega),hxl,hsub,<- AS];refine⟨?_,(hdn _ (by omega) j hj).later hl⟩;grind
theorem qF {t ty e:TypeId} {y:Ty} (ht:P.underlying t=some (.slice e)) (hy:Bg P e=some y) {A0 A:Option Addr} {n m cap:Nat} {olds news:List Value} (hol:olds.length=n*y.size) (hA0:A0=none->n=0)
  (hoc:∀ad,A0=some ad->0<n->∀j u,olds[j]? = some u->w.cell? (ad.add j)=some u) (hl:news.length=m*y.size) (hA:A=none->m=0) (hc:∀ad,A=some ad->0<m->∀j u,news[j]? = some u->w.cell? (ad.add j)=some u)
  (hm0:0<m) (h63:n+m<=maxLen) (hbytes:(n+m)*y.bytes<=140737488355328) :
  ∃c zs,(Builtin.append_ #[t,t] ty #[.slice A0 n n,.slice A m cap]).run P w=.ok (.slice (some ⟨w.heap.size,0,none⟩) (n+m) c) (w.drew.alloc (.cells ((olds++news).toArray++zs) e))/\n+m<=c:=by
 obtain⟨i,hi,hz,hs,hb,_⟩:=CV hy;have hsmall:n+m<=9223372036854775807:=by simp only[maxLen]at h63;omega
 cases A with
 |none=>grind
 |some ad =>
   cases A0 with
   |none =>
     have:=hA0 rfl;subst this;have:olds = []:=(by grind);subst this;have hr:=run_append_nil (P:=P) w t ty e i y.zero ht hi hz ad m cap news (by rw[hl,hs]) (hc ad rfl hm0) hm0 (by omega) (by grind);refine⟨_,_,by rw[hr];simp only[AhO,List.nil_append];rfl,?_⟩;rw[AhO];grind [grownCap_ge]
   |some ad0 =>
     have hr:=run_append_grow (P:=P) w t ty e i y.zero ht hi hz ad0 n n olds (by rw[hol,hs]) (by grind) ad m cap news (by rw[hl,hs]) (hc ad rfl hm0) (by omega) (by omega) (growslice_fits (by omega) (by grind));grind [grownCap_ge]
theorem Tg (hG:Br G) (S:Al P G st a w env M X) {t e:TypeId} {y:Ty} {n m:Nat} {get get2:Nat->List SV}
  (hu:P.underlying t=some (.slice e)) (hy:Bg P e=some y) (_:0<y.size) (hm0:0<m) (hbytes:(n+m)*y.bytes<=140737488355328) (hmax:n+m<=maxLen)
  {A:Option Addr} {cap:Nat} {news:List Value} (c1:news.length=m*y.size) (c2:A=none->m=0) (c3:∀ad,A=some ad->0<m->∀j u,news[j]? = some u->w.cell? (ad.add j)=some u) (c4:∀u,u∈news->u.oneCell'=true)
  (c5:∀i,i<m->(get2 i).length=y.size) (c6:∀i,i<m->∀j,j<y.size->Ax M w (SV.at (get2 i) j) (news.getD (i*y.size+j) undef)) {A0:Option Addr} (hs:Ax M w (.sl y.size n get) (.slice A0 n n)) (ty:TypeId) :
  ∃v' w' M' X',(Builtin.append_ #[t,t] ty #[.slice A0 n n,.slice A m cap]).run P w=.ok v' w'/\Al P G st a w' env M' X'/\Ax M' w' (.sl y.size (n+m) (AH n get get2)) v':=by
 obtain⟨A1,cap1,olds,he,_,o1,o2,o3,o4,o5,o6⟩:=Te hs;cases he;obtain⟨c,zs,hrun,hc⟩:=qF (P:=P) (w:=w) (ty:=ty) (cap:=cap) hu hy o1 o2 o3 c1 c2 c3 hm0 hmax hbytes;have hs1:=SJ w;have hs2:=Iq w.drew (.cells ((olds++news).toArray++zs) e);have hsame:Same (fun _=>False) w (w.drew.alloc (.cells ((olds++news).toArray++zs) e)):=⟨hs2.os.trans hs1.os,hs2.tape.trans hs1.tape,hs2.output.trans hs1.output,Aig hs1.drawn hs2.drawn,Aig hs1.size hs2.size,fun b hb h=>(hs2.block b hb h).trans (hs1.block b hb h)⟩;have hsize:(w.drew.alloc (.cells ((olds++news).toArray++zs) e)).heap.size=w.heap.size+1:=by simp
 have hnew:(w.drew.alloc (.cells ((olds++news).toArray++zs) e)).heap[w.heap.size]? = some (.cells ((olds++news).toArray++zs) e (0,0)):=heap_alloc_new w.drew _;have S':=S.grow hG hsame (M':=fun b=>M b\/b=w.heap.size) (fun b h=>.inl h) (by grind) (fun b h=>by rcases h with h|h;exact Ah3 (S.mlt b h) hsame.size;grind);have hlat:Be M (fun b=>M b\/b=w.heap.size) w (w.drew.alloc (.cells ((olds++news).toArray++zs) e)):=⟨hsame.size,fun b hb=>hsame.block b (S.mlt b hb) id,fun b hb=>.inl hb⟩;refine⟨_,_,_,_,hrun,S',?_⟩;have hlen:(olds++news).length=(n+m)*y.size:=by grind
 have hget:∀k,k<(n+m)*y.size->(((olds++news).toArray++zs).getD k undef)=(olds++news).getD k undef:=fun k hk=>by
  rw[LS,Array.getElem?_append_left (by simpa[hlen]using hk),AS];simp
 have key:∀i,i<n+m->∀j,j<y.size->((((olds++news).toArray++zs).getD (i*y.size+j) undef).oneCell'=true/\Ax M w (SV.at (AH n get get2 i) j) (((olds++news).toArray++zs).getD (i*y.size+j) undef)):=fun i hi j hj=>by
  have hlt:=C6 (sz:=y.size) hi hj;rw[hget _ hlt];unfold AH
  by_cases hin:i<n
  ·have hltn:=C6 (sz:=y.size) hin hj;grind
  ·have hge:n*y.size<=i*y.size:=AhI _ (by omega);have hsub:i*y.size+j-n*y.size=(i-n)*y.size+j:=by rw[Nat.sub_mul];omega
   grind
 refine .sl _ _ _ _ _ (fun i j=>((olds++news).toArray++zs).getD (i*y.size+j) undef) hc hmax (fun _=>⟨_,rfl,.inr rfl,fun i hi j hj=>?_⟩) (fun i hi=>?_) (by grind) (fun i hi j hj=>(key i hi j hj).2.later hlat)
 ·have hlt:=C6 (sz:=y.size) hi hj;rw[Cw,AhO,Ec hnew (by grind)]
 ·unfold AH;grind
theorem qG (hG:Br G) (S:Al P G st a w env M X) {t:TypeId} {d:Nat} {s x:EV} {K:St->Prop} (h:OV P st t d s x K) (hd:d<st.nt) {vs vx:Value} (hs:Ap P M w env s vs) (hx:Ap P M w env x vx) (ty:TypeId) :
  ∃v' w',(Builtin.append_ #[t,t] ty #[vs,vx]).run P w=.ok v' w'/\∃st',K st'/\AO P G st' (a.put (some d) v') w':=by
 unfold OV at h;split at h
 ·rename_i e hu;split at h
  ·rename_i y hy;split at h
   ·rename_i sides m get2 hsl;split at h
    ·rename_i hc;obtain⟨hb,hsz,hzs⟩:=hc;split at h
     ·rename_i r;split at h
      ·rename_i e' sz n get hl;split at h
       ·rename_i hc2;obtain⟨rfl,rfl,hxr,hrn⟩:=hc2;obtain⟨hp,hk⟩:=BD h;obtain⟨hp1,hp2⟩:=all_append hp;have hbytes:(n+m)*y.bytes<=140737488355328:=AC hp2;have hmax:=L9 hb hbytes;obtain⟨A,cap,news,rfl,c1,c2,c3,c4,c5,c6⟩:=Ke S hsl hp1 hx;have hmem:=Bp hl;obtain⟨hm,hgl,hO⟩:=S.own _ _ hmem;cases hs with
        |row hrv =>
        obtain⟨xs,hxo,hx1,hxd,hob⟩:∃xs,w.ownsRow 0 e' y.size (env.rv r) n xs/\(∀u,u∈xs->u.oneCell'=true)/\(∀i,i<n->∀j,j<y.size->Ax M w (SV.at (get i) j) (xs.getD (i*y.size+j) undef))/\(env.rv r).ownBlock=env.at_ r:=by
         rcases hO with ⟨h1,h2,h3⟩|⟨g,cap',cur,hg,hrv',hh,hnc,hcm,hcs,hd'⟩
         ·subst h3;exact⟨[],by rw[h2];exact World.ownsRow_nil w 0 e' y.size,fun u hu=>by simp at hu,fun i hi=>by omega,by rw[h2,h1];rfl⟩
         ·have hle:n*y.size<=cap'*y.size:=AhI _ hnc;refine⟨cur.toList.take (n*y.size),⟨by simp;omega,.inr ⟨g,cap',cur,hrv',rH _,hh,hnc,hcm,hcs,rfl⟩⟩,fun u hu=>?_,fun i hi j hj=>?_,by rw[hrv',hg];rfl⟩
          ·obtain⟨k,hk,rfl⟩:=AhR hu;have hk':k<n*y.size:=by simp at hk;omega
           have h1:k / y.size<n:=Nat.div_lt_of_lt_mul (by rw[Ai7];exact hk');have h2:=(hd' _ h1 _ (AiX k hsz)).1;rw[show k / y.size*y.size+k % y.size=k by rw[Ai7];exact Nat.div_add_mod k y.size]at h2;rw[LS,Ah1 (by omega)]at h2;simpa using h2
          ·have:=C6 (sz:=y.size) hi hj;rw[AS,AiF this];have:=(hd' i hi j hj).2;rw[LS]at this;simpa using this
        obtain⟨v',w',hrun,hown',hgr,hblk,hdr⟩:=P0 (P:=P) (ty:=ty) (cap:=cap) hu hy hsz hzs hxo c1 c2 c3 c4 hmax hbytes;rw[hrv]at hrun;let env2:Ar:={ env with at_:=fun j=>if j=r then v'.ownBlock else env.at_ j,rv:=fun j=>if j=r then v' else env.rv j };have e1:env2.at_ r=v'.ownBlock:=by simp[env2]
        have e2:env2.rv r=v':=by simp[env2]
        have hs':Same (fun b=>env.at_ r=some b) w w':=⟨hgr.os,hgr.tape,hgr.output,hdr,hgr.size,fun b hb hne=>hgr.block b hb (fun e=>hne (by rw[<- hob];exact e.symm))⟩;have hlat:Be M M w w':=⟨hgr.size,fun b hb=>hs'.block b (S.mlt b hb) (fun e=>(S.oat _ _ hmem b (.inl e)).2.1 hb),fun b hb=>hb⟩;have hnew:=Tf (P:=P) (env':=env2) (k:=r) hlat hxo.1 hgl c5 c1 hx1 c4 hxd c6 hown' hmax e1 e2;have hmem':∃o,(r,o)∈(st.scrub r).own:=⟨.row e' y.size n get,Ah2.2 ⟨(r,.row e' y.size n get),rK.2 ⟨hmem,rfl⟩,rfl⟩⟩;obtain⟨o0,ho0⟩:=hmem';have hlt':∀g,v'.ownBlock=some g->g<w'.heap.size:=fun g hg=>(hown'.lt g hg).2;obtain⟨X',S'⟩:=(LA S r).rerow hG hrn ho0 (fun s e h=>Na h) (fun k' o' h=>LB h) hs' (env':=env2) (fun j hj=>by simp[env2,hj]) rfl
         (fun g hg=>by
          rw[e1]at hg;refine⟨?_,hlt' g hg⟩;rcases hblk with hb'|hb'
          ·left;rw[<- hob,<- hb'];exact hg
          ·right;rw[hb']at hg;cases hg;exact Ah0 _) hnew
        have hv':∃A k c,v'=.slice A k c:=by
         rcases hown'.2 with ⟨h,_⟩|⟨_,_,_,h,_⟩<;>rw[h]<;>exact⟨_,_,_,rfl⟩
        obtain⟨A',k',c',rfl⟩:=hv';exact⟨_,w',hrun,_,hk,_,_,_,S'.put0 (by intro t' ht;cases ht;exact hd) (.row e2)⟩
       ·exact h.elim
      ·exact h.elim
     ·split at h
      ·rename_i hn;obtain⟨hp,hk⟩:=BD h;obtain⟨hp1,hp2⟩:=all_append hp;have hbytes:m*y.bytes<=140737488355328:=AC hp2;have hmax:=L9 hb hbytes;obtain⟨A,cap,news,rfl,c1,c2,c3,c4,c5,c6⟩:=Ke S hsl hp1 hx;rcases hs with ⟨hs⟩;cases hs;obtain⟨v',w',hrun,hown',hgr,hblk,hdr⟩:=P0 (P:=P) (ty:=ty) (cap:=cap) hu hy hsz hzs (World.ownsRow_nil w 0 e y.size) c1 c2 c3 c4 (by omega) (by simpa using hbytes);simp only[AhO,List.nil_append]at hown';let env2:Ar:={ env with at_:=fun j=>if j=d then v'.ownBlock else env.at_ j,rv:=fun j=>if j=d then v' else env.rv j };have e1:env2.at_ d=v'.ownBlock:=by simp[env2]
       have e2:env2.rv d=v':=by simp[env2]
       have hs':Same (fun _=>False) w w':=⟨hgr.os,hgr.tape,hgr.output,hdr,hgr.size,fun b hb _=>hgr.block b hb (by simp[Value.ownBlock])⟩;have hlat:Be M M w w':=⟨hgr.size,fun b hb=>hs'.block b (S.mlt b hb) id,fun b hb=>hb⟩;have hnew:=Tf (P:=P) (M:=M) (w:=w) (e:=e) (y:=y) (n:=0) (m:=m) (get:=fun _=>[]) (get2:=get2) (xs:=[]) (news:=news) (w':=w') (v':=v') (env':=env2) (k:=d) hlat (by simp) (fun i hi=>by omega) c5 c1 (fun u hu=>by simp at hu) c4 (fun i hi=>by omega) c6 (by simpa using hown') (by omega) e1 e2;have hnew':B8 P M w' env2 d (.row e y.size m get2):=by
        have:AH 0 (fun _=>[]) get2=get2:=by funext i;simp[AH]
        rw[this,AhO]at hnew;exact hnew
       have hv':∃A k c,v'=.slice A k c:=by
        rcases hown'.2 with ⟨h,_⟩|⟨_,_,_,h,_⟩<;>rw[h]<;>exact⟨_,_,_,rfl⟩
       obtain⟨X',S'⟩:=(S.forget d).newOwn hG hd hn (fun s e h=>Ir h) hs' (env':=env2) (fun j hj=>by simp[env2,hj]) rfl
        (fun g hg=>by
         rw[e1]at hg;rcases hblk with hb'|hb'
         ·rw[hb']at hg;cases hg
         ·rw[hb']at hg;cases hg;exact⟨Ah0 _,(hown'.lt _ hb').2⟩)
        (M':=M) (fun b h=>h) (fun b h=>.inl h) (fun b h=>Ah3 (S.mlt b h) hgr.size) hnew'
       obtain⟨A',k',c',rfl⟩:=hv';exact⟨_,w',hrun,_,hk,_,_,_,S'.put0 (by intro t' ht;cases ht;exact hd) (.row e2)⟩
      ·exact h.elim
     ·rename_i r n;split at h
      ·rename_i e' sz N get hl;split at h
       ·rename_i hc2;obtain⟨rfl,rfl,hxr⟩:=hc2;obtain⟨hp,hk⟩:=BD h;obtain⟨hp1,hp2⟩:=all_append hp;obtain⟨hm0,hle⟩:=AC hp2;obtain⟨A,cap,news,rfl,c1,c2,c3,c4,c5,c6⟩:=Ke S hsl hp1 hx;have hmem:=Bp hl;obtain⟨hm,hgl,hO⟩:=S.own _ _ hmem;cases hs with
        |@rpre _ _ N' cap' g' hrv' hn' =>
        rcases hO with ⟨_,hrv,_⟩|⟨g,capr,cur,hg,hrv,hh,hnc,hcm,hcs,hd'⟩
        ·rw[hrv]at hrv';cases hrv'
        have hrv0:=hrv';rw[hrv]at hrv';obtain⟨rfl,rfl,rfl⟩:g'=g/\N'=N/\cap'=capr:=by injection hrv' with e1 e2 e3;injection e1 with e1;injection e1 with e1;exact⟨e1.symm,e2.symm,e3.symm⟩
        cases A with
        |none=>exact absurd (c2 rfl) (by omega)
        |some ad =>
        obtain⟨i,hi,hz,hs1,hb1,_⟩:=CV hy;have hfit:n*y.size+news.length<=cur.size:=by rw[c1,hcs,<- Aia];exact AhI _ (by omega)
        have hrun:=run_append_room (P:=P) w t ty e' i hu hi g' n cap' cur hh ad m cap news (by rw[c1,hs1]) (c3 ad rfl hm0) c4 (by omega) (by rw[hs1];exact hfit);rw[hs1]at hrun;obtain⟨hsm,hss⟩:=It (w:=w) (g:=g') (cur.toList.take (n*y.size)++news++cur.toList.drop (n*y.size+news.length)).toArray;have hl':Be M M w (w.setRow g' (cur.toList.take (n*y.size)++news++cur.toList.drop (n*y.size+news.length)).toArray):=
         ⟨by omega,fun b hb=>hsm.block b (S.mlt b hb) (fun e=>(S.oat _ _ hmem g' (.inl hg)).2.1 (e ▸ hb)),fun b hb=>hb⟩
        have hnew:B8 P M (w.setRow g' (cur.toList.take (n*y.size)++news++cur.toList.drop (n*y.size+news.length)).toArray) env r (.row e' y.size N' (fun i=>if n<=i/\i<n+m then get2 (i-n)else get i)):=by
         refine⟨hm,fun j hj=>?_,.inr ⟨g',cap',_,hg,hrv0,setRow_heap w g' cur _ _ _ hh,hnc,hcm,by simp;omega,fun j hj k hk2=>?_⟩⟩
         ·by_cases hr:n<=j/\j<n+m
          ·show(if n<=j/\j<n+m then get2 (j-n)else get j).length=_;rw[if_pos hr];exact c5 _ (by omega)
          ·show(if n<=j/\j<n+m then get2 (j-n)else get j).length=_;rw[if_neg hr];exact hgl j hj
         ·have hlt:=C6 (sz:=y.size) (Ah3 hj hnc) hk2;rw[Is cur _ _ hfit _ (by omega)];show _/\Ax M _ (SV.at (if n<=j/\j<n+m then get2 (j-n)else get j) k) _
          by_cases hr:n<=j/\j<n+m
          ·have h5:n*y.size<=j*y.size:=AhI _ hr.1;have h6:(j-n)*y.size+k<m*y.size:=C6 (by omega) hk2;have h7:j*y.size+k-n*y.size=(j-n)*y.size+k:=by rw[Nat.sub_mul];omega
           rw[if_pos hr,if_pos (by rw[Nat.sub_mul]at h6;omega),h7];refine⟨?_,(c6 _ (by omega) k hk2).later hl'⟩;rw[AS,Ahz (by omega)];exact c4 _ (AhX _)
          ·have hne : ¬ (n*y.size<=j*y.size+k/\j*y.size+k<n*y.size+news.length):=by
            rw[c1,<- Aia];intro hx;rcases Nat.lt_or_ge j n with h5|h5
            ·have:=C6 (sz:=y.size) h5 hk2;omega
            ·have:=AhI y.size (show n+m<=j by omega);omega
           rw[if_neg hr,if_neg hne];exact⟨(hd' j hj k hk2).1,(hd' j hj k hk2).2.later hl'⟩
        exact⟨_,_,hrun,_,hk,_,_,_,(S.write hG hmem hg hsm hss hnew).put0 (by intro t' ht;cases ht;exact hd) (.rpre hrv0 hle)⟩
       ·exact h.elim
      ·exact h.elim
     ·rename_i sz n get;split at h
      ·rename_i hs2;subst hs2;obtain⟨hp,hk⟩:=BD h;obtain⟨hp1,hp2⟩:=all_append hp;obtain⟨hm0,hbytes⟩:=AC hp2;have hmax:=L9 hb hbytes;obtain⟨A,cap,news,rfl,c1,c2,c3,c4,c5,c6⟩:=Ke S hsl hp1 hx;cases hs with
       |full hs hq =>
       obtain rfl:=hq.1 rfl;obtain⟨v',w',M',X',hrun,S',hden⟩:=Tg hG S hu hy hsz hm0 hbytes hmax c1 c2 c3 c4 c5 c6 hs ty;exact⟨v',w',hrun,_,hk,_,_,_,S'.put0 (by intro t' ht;cases ht;exact hd) (.p hden)⟩
      ·exact h.elim
     ·exact h.elim
    ·exact h.elim
   ·exact h.elim
  ·exact h.elim
 ·exact h.elim
theorem qH {t t' ty e:TypeId} {i:TypeInfo} {z:Value} {k' kk:IntKind} (ht:P.underlying t=some (.slice e)) (ht':P.underlying t'=some (.int k')) (hi:P.info? e=some i) (hz:i.zero=some z)
  {n:Int} (h0:0<n) (h63:n<=9223372036854775807) (h48:n*(i.bytes:Int)<=281474976710656) (hsz:0<i.size) :
  (Builtin.append_ #[t,t'] ty #[.slice none 0 0,.int kk n]).run P w =
   .ok (.slice (some ⟨w.heap.size,0,none⟩) n.toNat (grownCap w n.toNat 0 e)) (w.drew.alloc (.cells (Builtin.zeroCells z.cells n.toNat++Builtin.zeroCells z.cells (grownCap w n.toNat 0 e-n.toNat)) e)):=by
 have hw:IntKind.i64.wrap n=n:=by simp only[IntKind.wrap,IntKind.bits,IntKind.signed];simp;omega
 have h1:¬ n<0:=by omega
 have h2:¬ (281474976710656<n*(i.bytes:Int)):=by omega
 have h4:¬ (9223372036854775807<max n 0):=by omega
 have h6:¬ n<=0:=by omega
 have h5:¬ (281474976710656<Builtin.nextslicecap n.toNat 0*i.bytes):=by
  grind [nextslicecap_zero,Int.natCast_mul,Int.toNat_of_nonneg]
 simp[Builtin.append_,run_underlying ht,run_underlying ht',sizeOf,typeInfo,zeroValue,hi,hz,asInt,asIntOf,hw,h1,h2,h4,h5,h6,Question.forced,Builtin.firstCells,newRow,grownCap];intro h8;exact absurd h8 (Nat.ne_of_gt (Nat.mul_pos (by omega) hsz))
theorem qI {z:Array Value} {n k:Nat} (hz:0<z.size) (hk:k<n*z.size):(Builtin.zeroCells z n).getD k undef=z.getD (k % z.size) undef:=by
 have hm:k % z.size<z.size:=AiX _ hz;simp only[Builtin.zeroCells,LS];grind
theorem qJ (hG:Br G) (S:Al P G st a w env M X) {t t':TypeId} {d:Nat} {s x:EV} {K:St->Prop} (h:OW P st t t' d s x K) (hd:d<st.nt) {vs vx:Value} (hs:Ap P M w env s vs) (hx:Ap P M w env x vx) (ty:TypeId) :
  ∃v' w',(Builtin.append_ #[t,t'] ty #[vs,vx]).run P w=.ok v' w'/\∃st',K st'/\AO P G st' (a.put (some d) v') w':=by
 unfold OW at h;split at h
 ·rename_i e k' kk n hu hu';split at h
  ·rename_i y hy;split at h
   ·rename_i hc;obtain⟨⟨hb,hsz,hzs,hone⟩,hn⟩:=hc;obtain⟨hp,hk⟩:=BD h;obtain⟨h0,h47⟩:=AC hp;obtain⟨i,hi,hz,hsi,hby,_⟩:=CV hy;rcases hs with ⟨hs⟩;cases hs;rcases hx with ⟨hx⟩;cases hx;have hnb:n<=140737488355328:=by
     have:n*1<=n*(y.bytes:Int):=Int.mul_le_mul_of_nonneg_left (by omega) (by omega);omega
    have hrun:=qH (P:=P) (w:=w) (ty:=ty) (kk:=kk) hu hu' hi hz h0 (by omega) (by grind) (by grind);have hge:=grownCap_ge w n.toNat 0 e;have hcm:grownCap w n.toNat 0 e<=maxLen:=grownCap_le_maxLen w n.toNat 0 e (by unfold maxLen;omega);generalize hcap:grownCap w n.toNat 0 e=cap at hrun hge hcm;let cur:=Builtin.zeroCells y.zero.cells n.toNat++Builtin.zeroCells y.zero.cells (cap-n.toNat);let w':=w.drew.alloc (.cells cur e);let v':Value:=.slice (some ⟨w.heap.size,0,none⟩) n.toNat cap;let env2:Ar:={ env with at_:=fun j=>if j=d then v'.ownBlock else env.at_ j,rv:=fun j=>if j=d then v' else env.rv j };have e1:env2.at_ d=some w.heap.size:=by simp[env2,v',Value.ownBlock]
    have e2:env2.rv d=v':=by simp[env2]
    have hs':Same (fun _=>False) w w':=⟨rfl,rfl,rfl,Nat.le_succ _,by simp[w'],fun b hb _=>heap_alloc_old w.drew _ (by simpa using hb)⟩;have hlat:Be M M w w':=⟨hs'.size,fun b hb=>hs'.block b (S.mlt b hb) id,fun b hb=>hb⟩;have hnew:B8 P M w' env2 d (.row e y.size n.toNat (fun _=>y.zero.cells.toList.map Cx)):=by
     refine⟨by grind,(by grind),.inr ⟨w.heap.size,cap,cur,e1,e2,heap_alloc_new w.drew _,hge,hcm,?_,fun i hi j hj=>?_⟩⟩
     ·simp only[cur,Array.size_append,size_zeroCells,hzs,<- Aia];grind
     ·have hlt:=C6 (sz:=y.size) (len:=n.toNat) (i:=i) hi hj;have hg:cur.getD (i*y.size+j) undef=y.zero.cells.getD j undef:=by
       have hl:i*y.size+j<(Builtin.zeroCells y.zero.cells n.toNat).size:=by grind [size_zeroCells]
       have h1:cur.getD (i*y.size+j) undef=(Builtin.zeroCells y.zero.cells n.toNat).getD (i*y.size+j) undef:=by
        simp only[cur,LS];grind
       grind [Ai7,Nat.mul_add_mod,Nat.mod_eq_of_lt,qI]
      rw[hg];have hj':j<y.zero.cells.size:=by omega
      have hd':=(Gw (M:=M) (w:=w') y.zero.cells.toList).2 j (by grind);rw[LS,Ah1 hj'];grind
    obtain⟨X',S'⟩:=(S.forget d).newOwn hG hd hn (fun s e h=>Ir h) hs' (env':=env2) (by grind) rfl
     (fun g hg=>by
      rw[e1]at hg;cases hg;exact⟨Ah0 _,by simp[w']⟩)
     (M':=M) (fun b h=>h) (fun b h=>.inl h) (fun b h=>Ah3 (S.mlt b h) hs'.size) hnew
    exact⟨v',w',hrun,_,hk,_,_,_,S'.put0 (by intro t' ht;cases ht;exact hd) (.row e2)⟩
   grind
  grind
 grind
end
section
variable {P:Program} {M:Nat->Prop} {w:World} {G:Bw} {st:St} {a:Act} {env:Ar} {X:Nat->Prop}
theorem all_cons {p:Prop} {ps:List Prop} (h:all (p::ps)):p/\all ps:=⟨h p (by simp),fun q hq=>h q (by simp[hq])⟩
theorem LH {s t:SV} (h:all (HH s t)) {v:Value} (hd:Ax M w s v):Ax M w t v:=by
 unfold HH at h;split at h
 ·grind [AC]
 ·grind [AC]
 ·split at h
  ·rename_i hk;subst hk;obtain⟨rfl,he⟩:=AC h;exact hd.congr_sl (by grind)
  grind [AC]
 ·unfold SB at h;split at h
  ·grind [AC]
  ·split at h
   ·have:=AC h;subst this;cases hd;exact .sl _ _ _ _ _ (fun _ _=>undef) (Ah0 _) (rH _) (by grind) (by grind) (by grind) (by grind)
   grind [AC]
  grind [AC]
 grind [AC]
theorem Hs {e e':EV} (h:all (fitE e e')) {v:Value} (hd:Ap P M w env e v):Ap P M w env e' v:=by
 unfold fitE at h;split at h
 ·rcases hd with ⟨hd⟩;exact .p (LH h hd)
 ·grind [AC]
 ·grind [AC]
 ·grind [AC]
 ·split at h
  ·rename_i hb;simp only[pR,beq_iff_eq]at hb;grind [AC]
  grind [AC]
 ·grind [AC]
 ·grind [AC]
 ·split at h
  ·rename_i hb;simp only[pR,beq_iff_eq]at hb;grind [AC]
  grind [AC]
 ·grind [AC]
 ·grind [AC]
 ·grind [AC]
 ·rcases hd with ⟨hd⟩;unfold SC at h;split at h
  ·grind [AC]
  ·split at h
   ·split at h
    ·rename_i hk;subst hk;obtain⟨rfl,h0,he⟩:=AC h;have hd2:=hd.congr_sl (fun i hi=>(he i hi).symm);cases hd with
     |sl=>exact .full hd2 (by grind)
    grind [AC]
   ·split at h
    ·have:=AC h;subst this;cases hd;exact .full (.sl _ _ _ _ _ (fun _ _=>undef) (Ah0 _) (rH _) (by grind) (by grind) (by grind) (by grind)) (by grind)
    grind [AC]
   grind [AC]
 ·split at h
  ·rename_i hk;obtain⟨rfl,rfl⟩:=hk;obtain⟨rfl,he⟩:=AC h;cases hd with
   |full hd hq=>exact .full (hd.congr_sl (by grind)) hq
  grind [AC]
 ·cases hd with
  |full hd hq=>exact .p (LH h hd)
 ·exact .any
 grind [AC]
theorem Jm:∀{l m:List EV},all (HI l m)->l.length=m.length/\∀i,i<m.length->all (fitE (EV.at l i) (EV.at m i))
 |[],[],_=>(by grind)
 |a::l,b::m,h=>by
   simp only[HI]at h;obtain⟨h1,h2⟩:=all_append h;obtain⟨h3,h4⟩:=Jm h2;refine⟨by simp[h3],fun i hi=>?_⟩;cases i with
   |zero=>exact h1
   |succ i=>exact h4 i (by grind)
 |[],_::_,h=>(AC h).elim
 |_::_,[],h=>(AC h).elim
theorem qK {k:Nat} {o o':Ah} (h:all (JY o o')) (ho:B8 P M w env k o):B8 P M w env k o':=by
 unfold JY at h;split at h
 ·rename_i t cs t' cs';split at h
  ·rename_i ht;simp at ht;subst ht;obtain⟨h1,h2⟩:=Jm h;obtain⟨g,vs,ha,hh,hz,hd⟩:=ho;exact⟨g,vs,ha,hh,hz.trans h1,fun i hi=>⟨(hd i (by omega)).1,Hs (h2 i hi) (hd i (by omega)).2⟩⟩
  ·exact(AC h).elim
 ·split at h
  ·rename_i ht;simp at ht;obtain⟨rfl,rfl⟩:=ht;obtain⟨rfl,he⟩:=AC h;obtain⟨hm,hgl,h1⟩:=ho;refine⟨hm,fun i hi=>by rw[<- he i hi];exact hgl i hi,?_⟩;rcases h1 with h1|⟨g,cap,cur,ha,hr,hh,h3,h4,h5,h6⟩
   ·exact .inl h1
   ·exact .inr ⟨g,cap,cur,ha,hr,hh,h3,h4,h5,fun i hi j hj=>by rw[<- he i hi];exact h6 i hi j hj⟩
  ·exact(AC h).elim
 ·split at h
  ·rename_i ht;simp at ht;subst ht;obtain⟨rfl,he⟩:=AC h;obtain⟨g,es,clock,ha,hh,hz,hd⟩:=ho;exact⟨g,es,clock,ha,hh,hz,fun i hi=>by rw[<- he i hi];exact hd i hi⟩
  ·exact(AC h).elim
 ·split at h
  ·rename_i ht;simp at ht;obtain⟨rfl,rfl⟩:=ht;have e1:=h _ (AhF ..);have e2:=h _ (AhL _ (AhF ..));obtain⟨g,es,clock,ha,hh,hz,hd⟩:=ho;exact⟨g,es,clock,ha,hh,fun key hk=>hz key (by rw[e1];exact hk),fun i hi=>by
    obtain⟨key,q1,q2,q3⟩:=hd i hi;exact⟨key,q1,by rw[<- e1];exact q2,by rw[<- e2 key q2];exact q3⟩⟩
  ·exact(AC h).elim
 ·split at h
  ·rename_i ht;simp at ht;subst ht;have e0:=h _ (AhF ..);obtain⟨h1,h2⟩:=Jm (fun p hp=>h p (AhL _ hp));subst e0;refine⟨fun e=>?_,ho.2⟩;obtain⟨g,vs,ha,hh,hz,hd⟩:=ho.1 e;exact⟨g,vs,ha,hh,hz.trans h1,fun i hi=>⟨(hd i (by omega)).1,Hs (h2 i hi) (hd i (by omega)).2⟩⟩
  ·exact(AC h).elim
 ·split at h
  ·rename_i ht;simp at ht;obtain⟨rfl,rfl⟩:=ht;have e0:=h _ (AhF ..);have e2:=h _ (AhL _ (AhF ..));subst e0;refine⟨fun e=>?_,ho.2⟩;obtain⟨dom,g,es,clock,ha,hh,hz,hd⟩:=ho.1 e;exact⟨dom,g,es,clock,ha,hh,hz,fun i hi=>by
    obtain⟨key,q1,q2,q3⟩:=hd i hi;exact⟨key,q1,q2,by rw[<- e2 key];exact q3⟩⟩
  ·exact(AC h).elim
 ·split at h
  ·rename_i ht;simp at ht;obtain⟨rfl,rfl⟩:=ht;have hq:=AC h;obtain⟨g,es,clock,ha,hh,hd⟩:=ho;exact⟨g,es,clock,ha,hh,fun i hi=>by
    obtain⟨a,b,q1,q2,q3⟩:=hd i hi;exact⟨a,b,q1,hq a b q2,q3⟩⟩
  ·exact(AC h).elim
 ·split at h
  ·rename_i ht;simp at ht;obtain⟨rfl,rfl⟩:=ht;have:=AC h;subst this;exact ho
  ·exact(AC h).elim
 ·split at h
  ·rename_i ht;simp at ht;obtain⟨⟨rfl,rfl⟩,rfl⟩:=ht;obtain⟨rfl,he⟩:=AC h;obtain⟨h1,h2,h3,h4⟩:=ho;refine⟨h1,fun i j hi hj e=>h2 i j hi hj (by rw[(he i hi).1,(he j hj).1];exact e),fun i hi=>by rw[<- (he i hi).1];exact h3 i hi,h4.imp id ?_⟩;rintro⟨g,cap,cur,q1,q2,q3,q4,q5,q6,q7⟩;refine⟨g,cap,cur,q1,q2,q3,q4,q5,q6,fun i hi=>?_⟩;obtain⟨e1,e2,e3,e4⟩:=he i hi;obtain⟨r1,r2,r3,c,r4,r5,r6⟩:=q7 i hi;rw[<- e1,<- e2,<- e3];exact⟨r1,r2,fun j hj=>by rw[<- e4 j hj];exact r3 j hj,c,r4,r5,fun j hj u hu=>by rw[<- e4 j hj];exact r6 j hj u hu⟩
  ·exact(AC h).elim
 ·split at h
  ·rename_i ht;simp at ht;obtain⟨rfl,rfl⟩:=ht;obtain⟨rfl,rfl⟩:=AC h;obtain⟨h1,h2,h3⟩:=ho;refine⟨h1,fun i j hi=>absurd hi (oE _),fun i hi=>absurd hi (oE _),h3.imp id ?_⟩;rintro⟨g,cap,cur,q1,q2,q3,q4,q5,q6,q7⟩;exact⟨g,cap,cur,q1,q2,q3,q4,q5,by omega,fun i hi=>absurd hi (oE _)⟩
  ·exact(AC h).elim
 ·exact(AC h).elim
theorem qL {o o':Ah} (h:all (JY o o')) {g:Nat} (hg:o'.sub g):o.sub g:=by
 cases o' with
 |rr e' e2' sz' n' bl' cp' len' get' =>
   obtain⟨i,hi,eb⟩:=hg;cases o with
   |rr e e2 sz n bl cp len get =>
     unfold JY at h;dsimp only at h;split at h
     ·obtain⟨rfl,he⟩:=AC h;exact⟨i,hi,(he i hi).1.trans eb⟩
     ·exact(AC h).elim
   |row e sz n get =>
     unfold JY at h;dsimp only at h;split at h
     ·obtain⟨_,rfl⟩:=AC h;exact absurd hi (oE _)
     ·exact(AC h).elim
   |_=>exact(AC h).elim
 |_=>exact hg.elim
theorem Jn {own:List (Nat×Ah)}:∀{l:List (Nat×Ah)},all (Eu own l)->∀k o,(k,o)∈l->∃o',(k,o')∈own/\∀g,o.sub g->o'.sub g
 |[],_,k,o,hm=>by cases hm
 |(k0,o0)::l,h,k,o,hm=>by
   simp only[Eu]at h;obtain⟨h1,h2⟩:=all_append h;rcases Ah4.1 hm with hm|hm
   ·cases hm;split at h1
    ·rename_i o' hl;exact⟨o',Bp hl,fun g hg=>qL h1 hg⟩
    ·exact(AC h1).elim
   ·exact Jn h2 k o hm
theorem LI {o:Ah} {k:Nat}:∀{l:List (Nat×Ah)},GL l=true->(k,o)∈l->∀g,¬ o.sub g
 |(k0,o0)::l,h,hm,g=>by
   simp only[GL,pR]at h;rcases Ah4.1 hm with hm|hm
   ·cases hm;cases o with
    |rr=>cases h.1
    |_=>exact fun h=>h
   ·exact LI h.2 hm g
theorem Ah.ren_sub {f:Nat->Nat} {o:Ah} {g:Nat}:(o.ren f).sub g↔o.sub g:=by cases o<;>exact Iff.rfl
theorem GO (S:Al P G st a w env M X):∀{l:List (Nat×Ah)},all (Eu st.own l)->∀k o,(k,o)∈l->(∃o',(k,o')∈st.own)/\B8 P M w env k o
 |[],_,k,o,hm=>by cases hm
 |(k0,o0)::l,h,k,o,hm=>by
   simp only[Eu]at h;obtain⟨h1,h2⟩:=all_append h;rcases Ah4.1 hm with hm|hm
   ·cases hm;split at h1
    ·rename_i o' hl;exact⟨⟨o',Bp hl⟩,qK h1 (S.own _ _ (Bp hl))⟩
    grind [AC]
   ·exact GO S h2 k o hm
theorem qM (S:Al P G st a w env M X) {l:List (Nat×Ah)} (h:all (Eu st.own l)) (k:Nat) (o:Ah) (hm:(k,o)∈l):(∃o',(k,o')∈st.own/\∀g,o.sub g->o'.sub g)/\B8 P M w env k o :=
 ⟨Jn h k o hm,(GO S h k o hm).2⟩
theorem F8:∀{l:List Nat},Dk l=true->l.Nodup
 |[],_=>List.nodup_nil
 |k::ks,h=>by
   simp only[Dk,pR]at h;refine Aiv.2 ⟨by grind,F8 h.2⟩
theorem Gg {f:Nat} {args:Array Value} {R R':Ending->World->Prop} (h:CallsIn Fence.wide 0 P f args w R) (k:∀e w',R e w'->R' e w'):CallsIn Fence.wide 0 P f args w R' :=
 callsIn_wide.2 ((callsIn_wide.1 h).mono k)
def Ar.via (env:Ar) (f:Nat->Nat):Ar:={ at_:=fun k=>env.at_ (f k),rv:=fun k=>env.rv (f k),yl:=env.yl }
theorem Gz (f:Nat->Nat):∀(l:List EV),(EV.ren.renL f l).length=l.length
 |[]=>rfl
 |e::l=>by simp[EV.ren.renL,Gz f l]
theorem HK (f:Nat->Nat):∀(l:List EV) (i:Nat),i<l.length->EV.at (EV.ren.renL f l) i=(EV.at l i).ren f
 |[],i,hi=>by simp at hi
 |e::l,0,_=>rfl
 |e::l,i+1,hi=>HK f l i (by grind)
theorem Nf {f:Nat->Nat} {bs:List Nat} {j:Nat} (h:j<bs.length):(bs.map f).getD j 0=f (bs.getD j 0):=by
 grind
theorem Ng {f:Nat->Nat} {e:EV} {v:Value} (h:Ap P M w (env.via f) e v):Ap P M w env (e.ren f) v:=by
 induction h with
 |p h=>exact .p h
 |loc h=>exact .loc h
 |row h=>exact .row h
 |mapv h=>exact .mapv h
 |rsub A cap hc hm hA=>exact .rsub A cap hc hm hA
 |rptr h=>exact .rptr h
 |rpre h hn=>exact .rpre h hn
 |fptr hi h=>exact .fptr (by simpa using hi) (by rw[Nf hi];exact h)
 |ag q cs vs hl _ ih=>exact .ag q _ vs (by rw[Gz];exact hl) (fun i hi=>by rw[Gz]at hi;rw[HK f cs i hi];exact ih i hi)
 |cl g cs vs hl _ ih=>exact .cl g _ vs (by rw[Gz];exact hl) (fun i hi=>by rw[Gz]at hi;rw[HK f cs i hi];exact ih i hi)
 |fn h=>exact .fn h
 |yield=>exact .yield
 |any=>exact .any
 |rrow=>exact .rrow
 |rrptr=>exact .rrptr
 |full h hq=>exact .full h hq
theorem qN (l:List EV) (i:Nat) (hi:i<l.length):SizeOf.sizeOf (EV.at l i)<SizeOf.sizeOf l:=by
 have:EV.at l i∈l:=by grind [SO,AhX]
 exact List.sizeOf_lt_of_mem this
theorem Kf {f:Nat->Nat}:∀(e:EV) (v:Value),Ap P M w env (e.ren f) v->Ap P M w (env.via f) e v
 | .p s,v,h=>by cases h with|p h=>exact .p h
 | .loc b off,v,h=>by unfold EV.ren at h;cases h with|loc h=>exact .loc h
 | .row r,v,h=>by unfold EV.ren at h;cases h with|row h=>exact .row h
 | .mapv r,v,h=>by unfold EV.ren at h;cases h with|mapv h=>exact .mapv h
 | .rsub r sz lo n,v,h=>by unfold EV.ren at h;cases h with|rsub A cap hc hm hA=>exact .rsub A cap hc hm hA
 | .rptr r sz i off,v,h=>by unfold EV.ren at h;cases h with|rptr h=>exact .rptr h
 | .rpre r n,v,h=>by unfold EV.ren at h;cases h with|rpre h hn=>exact .rpre h hn
 | .rrow k i b n c,v,h=>by unfold EV.ren at h;cases h;exact .rrow
 | .rrptr k i j b,v,h=>by unfold EV.ren at h;cases h;exact .rrptr
 | .fptr bs i,v,h=>by
   unfold EV.ren at h;cases h with
   |fptr hi h =>
     have hi:2*i<bs.length:=by simpa using hi
     rw[Nf hi]at h;exact .fptr hi h
 | .cl g cs,v,h=>by
   unfold EV.ren at h;cases h with
   |cl _ _ vs hl hc =>
     rw[Gz]at hl hc;refine .cl g cs vs hl (fun i hi=>?_);have:=hc i hi;rw[HK f cs i hi]at this;exact Kf (EV.at cs i) _ this
 | .ag q cs,v,h=>by
   unfold EV.ren at h;cases h with
   |ag _ _ vs hl hc =>
     rw[Gz]at hl hc;refine .ag q cs vs hl (fun i hi=>?_);have:=hc i hi;rw[HK f cs i hi]at this;exact Kf (EV.at cs i) _ this
 | .fn sp,v,h=>by cases h with|fn h=>exact .fn h
 | .yield l,v,h=>by cases h with|yield=>exact .yield
 | .any,v,h=>.any
 | .full q sz n get,v,h=>by cases h with|full h hq=>exact .full h hq
termination_by e=>SizeOf.sizeOf e
decreasing_by
 all_goals
  have:=qN cs i hi;simp only[EV.cl.sizeOf_spec,EV.ag.sizeOf_spec];omega
theorem Fc {f:Nat->Nat} {k:Nat} {o:Ah}:∀{l:List (Nat×Ah)},(k,o)∈l->(f k,o.ren f)∈Cy f l
 |[],h=>by cases h
 |(k',o')::l,h=>by
   rcases Ah4.1 h with h|h
   ·cases h;simp[Cy]
   ·simp only[Cy];exact AhL _ (Fc h)
theorem Gh {f:Nat->Nat} {k:Nat} {o:Ah}:∀{l:List (Nat×Ah)},(k,o)∈Cy f l->∃k' o',(k',o')∈l/\k=f k'/\o=o'.ren f
 |[],h=>by cases h
 |(k',o')::l,h=>by
   simp only[Cy]at h;rcases Ah4.1 h with h|h
   ·grind
   ·obtain⟨k2,o2,h1,h2⟩:=Gh h;grind
theorem Iu (f:Nat->Nat):∀(l:List (Nat×Ah)),Bq (Cy f l)=(Bq l).map f
 |[]=>rfl
 |(k,o)::l=>by
   have:=Iu f l;simp only[Bq]at this;simp[Cy,Bq,this]
theorem Th {f:Nat->Nat} {k:Nat} {t:TypeId} {cs:List EV} (h:EH P M w (env.via f) k t cs):EH P M w env (f k) t (EV.ren.renL f cs):=by
 obtain⟨g,vs,ha,hh,hz,hd⟩:=h;exact⟨g,vs,ha,hh,by grind [Gz],fun i hi=>by grind [Gz,HK,Ng]⟩
theorem Ti {f:Nat->Nat} {k:Nat} {t:TypeId} {cs:List EV} (h:EH P M w env (f k) t (EV.ren.renL f cs)):EH P M w (env.via f) k t cs:=by
 obtain⟨g,vs,ha,hh,hz,hd⟩:=h;rw[Gz]at hz hd;exact⟨g,vs,ha,hh,hz,fun i hi=>by grind [HK,Kf]⟩
theorem Kg {f:Nat->Nat} {k:Nat} {o:Ah} (h:B8 P M w (env.via f) k o):B8 P M w env (f k) (o.ren f):=by
 cases o with
 |blk t cs=>exact Th h
 |oblk b t cs=>exact⟨fun e=>Th (h.1 e),h.2⟩
 |prow e n bs =>
   obtain⟨hm,hn,g,cap,cur,h1,h2,hh,h3,h4,h5,h6⟩:=h;exact⟨hm,by grind,g,cap,cur,h1,h2,hh,h3,h4,h5,fun i hi=>by rw[Nf (by omega)];exact h6 i hi⟩
 |_=>exact h
theorem Kh {f:Nat->Nat} {k:Nat} {o:Ah} (h:B8 P M w env (f k) (o.ren f)):B8 P M w (env.via f) k o:=by
 cases o with
 |blk t cs=>exact Ti h
 |oblk b t cs=>exact⟨fun e=>Ti (h.1 e),h.2⟩
 |prow e n bs =>
   obtain⟨hm,hn,g,cap,cur,h1,h2,hh,h3,h4,h5,h6⟩:=h;have hn:2*n<=bs.length:=by grind
   exact⟨hm,hn,g,cap,cur,h1,h2,hh,h3,h4,h5,fun i hi=>by have:=h6 i hi;rw[Nf (by omega)]at this;exact this⟩
 |_=>exact h
theorem Nh:∀(l own:List (Nat×Ah)),(EK own l).map (·.1)=own.map (·.1)
 |[],own=>rfl
 |(k,o)::l,own=>by simp only[EK];rw[Nh l,Jk]
theorem Jo:∀(l own:List (Nat×Ah)) {k:Nat} {o:Ah},(k,o)∈EK own l->(∃o',(k,o')∈own)/\((k,o)∈l\/((k,o)∈own/\k ∉ Bq l))
 |[],own,k,o,h=>⟨⟨o,h⟩,.inr ⟨h,by simp[Bq]⟩⟩
 |(k',o')::l,own,k,o,h=>by
   simp only[EK]at h;obtain⟨⟨o1,h1⟩,h2⟩:=Jo l _ h;have hex:∃o',(k,o')∈own:=by
    grind [EM]
   refine⟨hex,?_⟩;rcases h2 with h2|⟨h2,h3⟩
   ·grind
   ·rcases EM h2 with ⟨rfl,rfl,_⟩|⟨hne,h4⟩
    ·grind
    ·refine .inr ⟨h4,?_⟩;simp only[Bq,AiJ,Ah4,not_or];exact⟨hne,h3⟩
theorem Ki {ρ:Operand->Option EV} (hρ:∀x e,ρ x=some e->Ap P M w env e (a.eval x)):∀{xs:List Operand} {l:List EV},Jg ρ xs=some l->(xs.map a.eval).length=l.length/\∀i,i<l.length->Ap P M w env (EV.at l i) ((xs.map a.eval).getD i undef)
 |[],l,h=>by
   simp only[Jg,Option.some.injEq]at h;grind
 |x::xs,l,h=>by
   simp only[Jg]at h;split at h
   ·rename_i e l' he hl;cases h;obtain⟨h1,h2⟩:=Ki hρ hl;refine⟨by grind,fun i hi=>?_⟩;cases i with
    |zero=>exact hρ x e he
    |succ i=>exact h2 i (by grind)
   ·cases h
theorem Ni {as bs:List EV} {us vs:List Value} (h1:us.length=as.length) (h2:∀i,i<as.length->Ap P M w env (EV.at as i) (us.getD i undef)) (k1:vs.length=bs.length) (k2:∀i,i<bs.length->Ap P M w env (EV.at bs i) (vs.getD i undef)) :
  (us++vs).length=(as++bs).length/\∀i,i<(as++bs).length->Ap P M w env (EV.at (as++bs) i) ((us++vs).getD i undef):=by
 refine⟨by simp[h1,k1],fun i hi=>?_⟩;simp only[EV.at,AS]
 by_cases hlt:i<as.length
 ·rw[AhP hlt,AhP (by omega)];have:=h2 i hlt;simpa[EV.at,AS]using this
 ·rw[AhT (by omega),AhT (by omega)];have:=k2 (i-as.length) (by simp at hi;omega);rw[h1];simpa[EV.at,AS]using this
theorem Al.lentX (hG:Br G) (S:Al P G st a w env M X) {L L':List (Nat×Ah)} {w':World} {M':Nat->Prop} (hL:∀k o,(k,o)∈L->∃o',(k,o')∈st.own) (hk:Bq L'=Bq L)
  (hs:Same (Fb env L) w w') (hM:∀b,M b->M' b) (hM':∀b,M' b->M b\/w.heap.size<=b) (hMl:∀b,M' b->b<w'.heap.size) (ho:∀k o,(k,o)∈L'->B8 P M' w' env k o) (hso:∀k o,(k,o)∈L'->∀g,¬ o.sub g) :
  Al P G { st with own:=EK st.own L' } a w' env M' (fun b=>X b\/(w.heap.size<=b/\b<w'.heap.size)):=by
 have hlX:∀b,Fb env L b->X b/\¬ M b:=fun b ⟨k,o,h1,h2⟩=>by
  obtain⟨o',h3⟩:=hL k o h1;obtain⟨q1,q2,_⟩:=S.oat k o' h3 b (.inl h2);exact⟨q1,q2⟩
 have hl:Be M M' w w':=⟨hs.size,fun b hb=>hs.block b (S.mlt b hb) (fun e=>(hlX b e).2 hb),hM⟩;have old:∀{k o},(k,o)∈EK st.own L'->∃o',(k,o')∈st.own/\∀g,o.has env k g->o'.has env k g:=fun {k o} h=>by
  obtain⟨⟨o',h'⟩,h2⟩:=Jo _ _ h;rcases h2 with h2|⟨h2,_⟩
  ·exact⟨o',h',fun g hg=>.inl (hg.elim id (fun q=>(hso k o h2 g q).elim))⟩
  ·exact⟨o,h2,fun _ h=>h⟩
 refine⟨⟨hG _ _ _ _ _ S.gam.1 ⟨hs.os,hs.tape,hs.output,hs.drawn,hs.size,fun b hb hx=>hs.block b hb (fun e=>hx (hlX b e).1)⟩ (fun b h=>.inl h) (fun b h=>by rcases h with h|h;exact .inl h;exact .inr h.1),S.gam.2⟩,
  fun b hb=>?_,?_,?_,?_,by rw[Nh];exact S.nod,hMl,?_,S.siz,?_,S.grd,?_,S.dno⟩
 ·rcases hM' b hb with h|h
  ·exact(S.mx b h).imp id .inl
  ·exact .inr (.inr ⟨h,hMl b hb⟩)
 ·intro k o h;obtain⟨_,h⟩:=Jo _ _ h;rcases h with h|⟨h,hn⟩
  ·exact ho k o h
  ·have h1:=S.own _ _ h;have h2:=S.oat _ _ h;have hng:∀g',o.has env k g'->¬ Fb env L g':=fun g' hg' ⟨k2,o2,q1,q2⟩=>by
    obtain⟨o3,q3⟩:=hL k2 o2 q1;have hne:k≠k2:=fun e=>hn (by rw[hk,e];exact Ah2.2 ⟨(k2,o2),q1,rfl⟩);exact S.inj k o k2 o3 h q3 hne g' hg' (.inl q2)
   exact h1.move hl rfl rfl (fun g' ha=>hs.block g' (h2 g' ha).2.2 (hng g' ha)) (fun _ _=>⟨rfl,rfl⟩)
 ·intro k o h g hg;obtain⟨o',h',hh⟩:=old h;obtain⟨q1,q2,q3⟩:=S.oat k o' h' g (hh g hg);refine⟨.inl q1,fun hm=>?_,Ah3 q3 hs.size⟩;rcases hM' g hm with h4|h4
  ·exact q2 h4
  ·omega
 ·intro k o k' o' h h' hne g hg hc;obtain⟨_,e1,f1⟩:=old h;obtain⟨_,e2,f2⟩:=old h';exact S.inj _ _ _ _ e1 e2 hne g (f1 g hg) (f2 g hc)
 ·intro b hb;rcases hb with h|h
  ·exact Ah3 (S.xlt b h) hs.size
  ·exact h.2
 ·intro s e h;obtain⟨h1,h2,h3⟩:=S.tmp s e h;exact⟨h1,fun ho'=>(h2 ho').later hl,h3⟩
 ·intro d hd;obtain⟨D,e,h1,h2,h3,h4⟩:=S.dfr d hd;have hD:=S.xlt D h2;refine⟨D,e,(hs.block D hD (fun⟨k,o,q1,q2⟩=>?_)).trans h1,.inl h2,fun hm=>?_,fun k o h=>?_⟩
  ·obtain⟨o',q3⟩:=hL k o q1;exact h4 k o' q3 (.inl q2)
  ·rcases hM' D hm with h5|h5
   ·exact h3 h5
   ·omega
  ·obtain⟨_,e1,f1⟩:=old h;exact fun hc=>h4 _ _ e1 (f1 D hc)
theorem Al.lent (hG:Br G) (S:Al P G st a w env M X) {L L':List (Nat×Ah)} {w':World} {M':Nat->Prop} (hL:∀k o,(k,o)∈L->∃o',(k,o')∈st.own) (hk:Bq L'=Bq L)
 (hs:Same (Fb env L) w w') (hM:∀b,M b->M' b) (hM':∀b,M' b->M b\/w.heap.size<=b) (hMl:∀b,M' b->b<w'.heap.size) (ho:∀k o,(k,o)∈L'->B8 P M' w' env k o) (hso:∀k o,(k,o)∈L'->∀g,¬ o.sub g) :
 ∃X',Al P G { st with own:=EK st.own L' } a w' env M' X':=⟨_,S.lentX hG hL hk hs hM hM' hMl ho hso⟩
theorem Tj {f:Nat->Nat} {L:List (Nat×Ah)} (hnd:(Bq (Cy f L)).Nodup):∀k o k' o',(k,o)∈L->(k',o')∈L->k≠k'->f k≠f k':=fun k o k' o' h h' hne e=>by
 rw[Iu]at hnd;have:=(Air.1 hnd);have hm1:k∈Bq L:=Ah2.2 ⟨_,h,rfl⟩;have hm2:k'∈Bq L:=Ah2.2 ⟨_,h',rfl⟩;grind [Aij,AhR,AiE]
theorem Tk (hG:Br G) (S:Al P G st a w env M X) {C:Aj} {dst:Option Nat} (hd:∀t,dst=some t->t<st.nt) {as:List EV} {vals:List Value} (hv1:vals.length=as.length) (hv2:∀i,i<as.length->Ap P M w env (EV.at as i) (vals.getD i undef))
  {g:Nat} {tr:Tr} (hT:Gf P g tr) {K:St->Prop} (h:OX C st dst as tr K) {N:Act->World->Prop} (hN:∀st' a' w',K st'->AO P G st' a' w'->N a' w') :
  CallsIn Fence.wide 0 P g vals.toArray w (fun e w'=>∃v,e=.returned v/\N (a.put dst v) w'):=by
 obtain⟨t,h⟩:=h;split at h;rotate_left
 ·exact h.elim
 rename_i hnd;obtain⟨hpl0,hnd⟩:=Ain.1 hnd;obtain⟨h1,hpre,hpost⟩:=BD h;obtain⟨hA,hO⟩:=all_append h1;obtain⟨hk,hT⟩:=hT;obtain⟨l1,l2⟩:=Jm hA;rw[Gz]at l1 l2;have hO':=GO S hO;have hnd:=F8 hnd;have inj:=Tj hnd;refine Gg (hT t hpre hpl0 M w (env.via C.ren) vals S.mlt (fun k o h=>Kh (hO' _ _ (Fc h)).2) (fun k o h g hg=>?_) (fun k o k' o' h h' hne g hg=>?_) (by omega) (fun i hi=>?_)) ?_
 ·obtain⟨⟨o',h'⟩,_⟩:=hO' _ _ (Fc (f:=C.ren) h);obtain⟨_,q2,q3⟩:=S.oat _ _ h' g (.inl hg);exact⟨q2,q3⟩
 ·obtain⟨⟨o1,h1⟩,_⟩:=hO' _ _ (Fc (f:=C.ren) h);obtain⟨⟨o2,h2⟩,_⟩:=hO' _ _ (Fc (f:=C.ren) h');exact fun hc=>S.inj _ _ _ _ h1 h2 (inj k o k' o' h h' hne) g (.inl hg) (.inl hc)
 ·have:=l2 i hi;rw[HK _ _ _ hi]at this;exact Kf _ _ (Hs this (hv2 i (by omega)))
 ·rintro e w' ⟨u,v,M',hp,rfl,hs,hM,hM',hMl,ho,hr⟩;have hpost:=hpost u hp;split at hpost;rotate_left
  ·exact hpost.elim
  rename_i hpl;refine⟨v,rfl,hN _ _ _ hpost ?_⟩;have hl:∀b,Fb (env.via C.ren) (tr.own t) b->Fb env (Cy C.ren (tr.own t)) b:=fun b ⟨k,o,h,hg⟩=>⟨_,_,Fc h,hg⟩;obtain⟨X',S'⟩:=S.lent hG (L:=Cy C.ren (tr.own t)) (L':=Cy C.ren (tr.own' t u)) (fun k o h=>(hO' k o h).1) (by rw[Iu,Iu,hk]) ⟨hs.os,hs.tape,hs.output,hs.drawn,hs.size,fun b hb hn=>hs.block b hb (fun e=>hn (hl b e))⟩ hM hM' hMl (fun k o h=>by
   obtain⟨k',o',h',rfl,rfl⟩:=Gh h;exact Kg (ho k' o' h')) (fun k o h g hg=>by
   obtain⟨k',o',h',rfl,rfl⟩:=Gh h;exact LI hpl h' g (Ah.ren_sub.1 hg))
  exact⟨env,M',X',S'.put0 hd (Ng hr)⟩
theorem Al.lentV (hG:Br G) (S:Al P G st a w env M X) {L L':List (Nat×Ah)} {w':World} {M':Nat->Prop} {env1:Ar} {mvs:Nat->Prop} (hL:∀k o,(k,o)∈L->∃o',(k,o')∈st.own) (hk:Bq L'=Bq L)
  (hs:Same (Fb env L) w w') (hM:∀b,M b->M' b) (hM':∀b,M' b->M b\/(w.heap.size<=b/\∀j,mvs j->env1.at_ j≠some b)\/∃j,mvs j/\env.at_ j=some b/\env1.at_ j≠some b) (hMl:∀b,M' b->b<w'.heap.size)
  (he:∀j,¬ mvs j->env1.at_ j=env.at_ j/\env1.rv j=env.rv j) (hy:env1.yl=env.yl) (hone:∀i j,mvs i->mvs j->i=j) (hmk:∀j,mvs j->j<st.nt/\∃o,(j,o)∈L)
  (hmg:∀j,mvs j->∀g,env1.at_ j=some g->env.at_ j=some g\/(w.heap.size<=g/\g<w'.heap.size)) (hT:∀j,mvs j->∀s e,(s,e)∈st.T->e.v.names j=false) (hO:∀j,mvs j->∀k o,(k,o)∈st.own->k ∉ Bq L->o.names j=false)
  (ho:∀k o,(k,o)∈L'->B8 P M' w' env1 k o) (hso:∀k o,(k,o)∈L'->∀g,¬ o.sub g) :
  Al P G { st with own:=EK st.own L' } a w' env1 M' (fun b=>X b\/(w.heap.size<=b/\b<w'.heap.size)):=by
 have hlX:∀b,Fb env L b->X b/\¬ M b:=fun b ⟨k,o,h1,h2⟩=>by
  obtain⟨o',h3⟩:=hL k o h1;obtain⟨q1,q2,_⟩:=S.oat k o' h3 b (.inl h2);exact⟨q1,q2⟩
 have hl:Be M M' w w':=⟨hs.size,fun b hb=>hs.block b (S.mlt b hb) (fun e=>(hlX b e).2 hb),hM⟩;have hmvp:∀{k o},(k,o)∈EK st.own L'->mvs k->∀g,¬ o.sub g:=fun {k o} h hm=>by
  obtain⟨_,h2⟩:=Jo _ _ h;rcases h2 with h2|⟨_,h2⟩
  ·exact hso k o h2
  ·obtain⟨_,o2,h3⟩:=hmk k hm;exact(h2 (by rw[hk];exact Ah2.2 ⟨(k,o2),h3,rfl⟩)).elim
 have old:∀{k o},(k,o)∈EK st.own L'->∃o',(k,o')∈st.own/\∀g,o.has env k g->o'.has env k g:=fun {k o} h=>by
  obtain⟨⟨o',h'⟩,h2⟩:=Jo _ _ h;rcases h2 with h2|⟨h2,_⟩
  ·exact⟨o',h',fun g hg=>.inl (hg.elim id (fun q=>(hso k o h2 g q).elim))⟩
  ·exact⟨o,h2,fun _ h=>h⟩
 have hmo:∀j,mvs j->∃o,(j,o)∈st.own:=fun j h=>by
  obtain⟨_,o,h1⟩:=hmk j h;exact hL j o h1
 refine⟨⟨hG _ _ _ _ _ S.gam.1 ⟨hs.os,hs.tape,hs.output,hs.drawn,hs.size,fun b hb hx=>hs.block b hb (fun e=>hx (hlX b e).1)⟩ (fun b h=>.inl h) (fun b h=>by rcases h with h|h;exact .inl h;exact .inr h.1),fun j hj=>?_⟩,
  fun b hb=>?_,?_,?_,?_,by rw[Nh];exact S.nod,hMl,?_,S.siz,?_,S.grd,?_,S.dno⟩
 ·obtain⟨h1,h2,h3⟩:=S.gam.2 j hj;obtain⟨e1,e2⟩:=he j (fun hm=>by have:=(hmk j hm).1;omega);exact⟨h1,e1.trans h2,e2.trans h3⟩
 ·rcases hM' b hb with h|h|⟨j,h1,h2,_⟩
  ·exact(S.mx b h).imp id .inl
  ·exact .inr (.inr ⟨h.1,hMl b hb⟩)
  ·obtain⟨o,h3⟩:=hmo j h1;exact .inr (.inl (S.oat j o h3 b (.inl h2)).1)
 ·intro k o h;obtain⟨_,h⟩:=Jo _ _ h;rcases h with h|⟨h,hn⟩
  ·exact ho k o h
  ·have h1:=S.own _ _ h;have h2:=S.oat _ _ h;have hng:∀g',o.has env k g'->¬ Fb env L g':=fun g' hg' ⟨k2,o2,q1,q2⟩=>by
    obtain⟨o3,q3⟩:=hL k2 o2 q1;have hne:k≠k2:=fun e=>hn (by rw[hk,e];exact Ah2.2 ⟨(k2,o2),q1,rfl⟩);exact S.inj k o k2 o3 h q3 hne g' hg' (.inl q2)
   have hnk:¬ mvs k:=fun hm=>by
    obtain⟨_,o2,h3⟩:=hmk k hm;exact hn (by rw[hk];exact Ah2.2 ⟨(k,o2),h3,rfl⟩)
   exact h1.move hl (he k hnk).1 (he k hnk).2 (fun g' ha=>hs.block g' (h2 g' ha).2.2 (hng g' ha)) (fun j hj=>he j (fun hm=>by
    have:=hO j hm k o h (by rw[<- hk];exact hn);rw[this]at hj;cases hj))
 ·intro k o h g hg0;obtain⟨o',h',hh⟩:=old h
  by_cases hm:mvs k
  ·have hg:env1.at_ k=some g:=hg0.elim id (fun q=>(hmvp h hm g q).elim);rcases hmg k hm g hg with h4|h4
   ·obtain⟨q1,q2,q3⟩:=S.oat k o' h' g (.inl h4);refine⟨.inl q1,fun hm'=>?_,Ah3 q3 hs.size⟩;rcases hM' g hm' with h5|h5|⟨j,h5,h6,h7⟩
    ·exact q2 h5
    ·omega
    ·obtain rfl:=hone j k h5 hm;exact h7 hg
   ·refine⟨.inr h4,fun hm'=>?_,h4.2⟩;rcases hM' g hm' with h5|h5|⟨j,h5,h6,h7⟩
    ·have:=S.mlt g h5;omega
    ·exact h5.2 k hm hg
    ·obtain rfl:=hone j k h5 hm;exact h7 hg
  ·rw[Ah.has_env (he k hm).1]at hg0;have hg:=hh g hg0;obtain⟨q1,q2,q3⟩:=S.oat k o' h' g hg;refine⟨.inl q1,fun hm'=>?_,Ah3 q3 hs.size⟩;rcases hM' g hm' with h5|h5|⟨j,h5,h6,h7⟩
   ·exact q2 h5
   ·omega
   ·obtain⟨o2,h8⟩:=hmo j h5;exact S.inj k o' j o2 h' h8 (fun e=>hm (e ▸ h5)) g hg (.inl h6)
 ·intro k o k' o' h h' hne g hg;obtain⟨o1,e1,f1⟩:=old h;obtain⟨o2,e2,f2⟩:=old h'
  by_cases hm:mvs k
  ·have hm':¬ mvs k':=fun h=>hne (hone k k' hm h);rw[Ah.has_env (he k' hm').1];rcases hmg k hm g (hg.elim id (fun q=>(hmvp h hm g q).elim))with h4|h4
   ·exact fun hc=>S.inj k o1 k' o2 e1 e2 hne g (.inl h4) (f2 g hc)
   ·intro h5;have:=(S.oat k' o2 e2 g (f2 g h5)).2.2;omega
  ·rw[Ah.has_env (he k hm).1]at hg
   by_cases hm':mvs k'
   ·intro h5;rcases hmg k' hm' g (h5.elim id (fun q=>(hmvp h' hm' g q).elim))with h4|h4
    ·exact S.inj k o1 k' o2 e1 e2 hne g (f1 g hg) (.inl h4)
    ·have:=(S.oat k o1 e1 g (f1 g hg)).2.2;omega
   ·rw[Ah.has_env (he k' hm').1];exact fun hc=>S.inj k o1 k' o2 e1 e2 hne g (f1 g hg) (f2 g hc)
 ·intro b hb;rcases hb with h|h
  ·exact Ah3 (S.xlt b h) hs.size
  ·exact h.2
 ·intro s e h;obtain⟨h1,h2,h3⟩:=S.tmp s e h;exact⟨h1,fun ho'=>(h2 ho').mono hl (fun j hj=>he j (fun hm=>by rw[hT j hm s e h]at hj;cases hj)) hy,h3⟩
 ·intro d hd;obtain⟨D,e,h1,h2,h3,h4⟩:=S.dfr d hd;have hD:=S.xlt D h2;refine⟨D,e,(hs.block D hD (fun⟨k,o,q1,q2⟩=>?_)).trans h1,.inl h2,fun hm=>?_,fun k o h hc=>?_⟩
  ·obtain⟨o',q3⟩:=hL k o q1;exact h4 k o' q3 (.inl q2)
  ·rcases hM' D hm with h5|h5|⟨j,h5,h6,_⟩
   ·exact h3 h5
   ·omega
   ·obtain⟨o,h7⟩:=hmo j h5;exact h4 j o h7 (.inl h6)
  ·obtain⟨o',h',hh⟩:=old h
   by_cases hm:mvs k
   ·rcases hmg k hm D (hc.elim id (fun q=>(hmvp h hm D q).elim))with h5|h5
    ·exact h4 k o' h' (.inl h5)
    ·omega
   ·rw[Ah.has_env (he k hm).1]at hc;exact h4 k o' h' (hh D hc)
end
section
variable {P:Program} {M:Nat->Prop} {w:World} {G:Bw} {st:St} {a:Act} {env:Ar} {X:Nat->Prop}
theorem Tl {t:TypeId} {v:Value} (h:(∃k,P.underlying t=some (.int k))\/P.underlying t=some .bool) (hv:(∃k n,v=.int k n)\/∃b,v=.bool b) (em:Bool) (n:Nat) (w:World):(Instr.checkKey em (n+1) t v).run P w=.ok () w:=by
 unfold Instr.checkKey;rcases h with ⟨k,h⟩|h<;>rcases hv with ⟨k',m,rfl⟩|⟨b,rfl⟩<;>simp[run_underlying h]
theorem Nj:∀{cs:List SV},FN cs=true->∀i,i<cs.length->(∃k n,SV.at cs i=.int k n)\/∃b,SV.at cs i=.bool b
 | .int k n::l,h,0,_=>.inl ⟨k,n,rfl⟩
 | .bool b::l,h,0,_=>.inr ⟨b,rfl⟩
 | .int k n::l,h,i+1,hi=>Nj (cs:=l) (by simpa[FN]using h) i (by grind)
 | .bool b::l,h,i+1,hi=>Nj (cs:=l) (by simpa[FN]using h) i (by grind)
 |[],_,i,hi=>by simp at hi
 | .agg _::_,h,_,_ | .tup _::_,h,_,_ | .sl .. :: _,h,_,_ | .ref .. :: _,h,_,_ | .clo .. :: _,h,_,_ | .raw _::_,h,_,_=>by simp[FN]at h
theorem qO {kt:TypeId} {fs:Array Field} (hk:P.underlying kt=some (.struct fs)) {cs:List SV} {vs:List Value} (hi:FN cs=true) (hok:MT P cs fs.toList=true) (hl:vs.length=cs.length) (hd:∀i,i<cs.length->Ax M w (SV.at cs i) (vs.getD i undef)) (em:Bool) (n:Nat) :
   (Instr.checkKey em (n+2) kt (.agg vs.toArray)).run P w=.ok () w:=by
 unfold Instr.checkKey;simp only[Sem.run_bind,run_underlying hk,Result.andThen_ok];rw[<- Array.forIn_toList];generalize fs.toList=l at hok
 induction l with
 |nil=>simp
 |cons f l ih =>
   simp only[MT,pR]at hok;obtain⟨h1,h2⟩:=hok;have key:∃v,(part f.type vs.toArray f.offset).run P w=.ok v w/\(Instr.checkKey em (n+1) f.type v).run P w=.ok () w:=by
     have fin:∀y,Bg P f.type=some y->Eb y.desc=false->(Fm y cs f.offset).isSome=true->((∃k,P.underlying f.type=some (.int k))\/P.underlying f.type=some .bool)->∃v,(part f.type vs.toArray f.offset).run P w=.ok v w/\(Instr.checkKey em (n+1) f.type v).run P w=.ok () w:=by
       intro y hy hag hs hu;obtain⟨s,hs⟩:=AiM.1 hs;obtain⟨v,r,d⟩:=JQ (M:=M) (w:=w) hy hl hs hd;refine⟨v,r w,Tl hu ?_ em n w⟩;unfold Fm at hs;rw[hag]at hs;simp only[Bool.false_eq_true,if_false]at hs;have hlt:f.offset<cs.length:=(by grind);have hat:SV.at cs f.offset=s:=by simp[SV.at,AS,hs]
       rcases Nj hi f.offset hlt with ⟨k,m,e⟩|⟨b,e⟩
       · rw[hat]at e;subst e;cases d;grind
       · rw[hat]at e;subst e;cases d;grind
     split at h1
     · rename_i y k hy hu
       refine fin y hy ?_ h1 (.inl ⟨k,hu⟩);obtain⟨_,_,_,_,_,e⟩:=CV hy;rw[hu]at e;injection e with e;rw[<- e];rfl
     · rename_i y hy hu
       refine fin y hy ?_ h1 (.inr hu);obtain⟨_,_,_,_,_,e⟩:=CV hy;rw[hu]at e;injection e with e;rw[<- e];rfl
     · cases h1
   obtain⟨v,r1,r2⟩:=key;simp only[List.forIn_cons,Sem.run_bind]
   by_cases hn:f.name = "_"
   · simpa[hn]using ih h2
   · simpa[hn,r1,r2]using ih h2
theorem qP {M':Nat->Prop} {w':World}:∀{s:SV} {u v:Value},(∃k n,s=.int k n)\/(∃b,s=.bool b)->Ax M w s u->Ax M' w' s v->u=v/\∀n,Instr.sameBits n u v=true
 |_,u,v,.inl ⟨k,n,rfl⟩,h1,h2=>by cases h1;cases h2;exact⟨rfl,fun n=>by cases n<;>simp[Instr.sameBits]⟩
 |_,u,v,.inr ⟨b,rfl⟩,h1,h2=>by cases h1;cases h2;exact⟨rfl,fun n=>by cases n<;>simp[Instr.sameBits]⟩
theorem qQ {M':Nat->Prop} {w':World} {cs:List SV} (hi:FN cs=true) {u v:Value} (h1:Ax M w (.agg cs) u) (h2:Ax M' w' (.agg cs) v):u=v/\∀n,Instr.sameBits (n+1) u v=true:=by
 cases h1 with
 |agg _ us hl1 hd1 =>
 cases h2 with
 |agg _ vs hl2 hd2 =>
 have key:∀i,i<cs.length->us.getD i undef=vs.getD i undef/\∀n,Instr.sameBits n (us.getD i undef) (vs.getD i undef)=true:=fun i hlt=>qP (Nj hi i hlt) (hd1 i hlt) (hd2 i hlt);have he:us=vs:=by
  grind [List.ext_getElem]
 subst he;refine⟨rfl,fun n=>?_⟩;simp only[Instr.sameBits,beq_self_eq_true,Bool.true_and,AhC];grind [AhR,Prod.mk.injEq]
theorem Tm:∀{cs ds:List SV},GM cs ds=true->FN cs=true->cs=ds
 |[],[],_,_=>rfl
 |s::l,t::m,h,hi=>by
   have h12:MS s t=true/\GM l m=true:=by
    unfold GM at h;split at h
    ·exact⟨h,rfl⟩
    grind
   have hl:FN l=true:=by
    cases s<;>simp_all [FN]
   have:=Tm h12.2 hl;subst this;have h1:=h12.1;unfold MS at h1;grind
 |[],_::_,h,_=>by simp[GM]at h
 |_::_,[],h,_=>by simp[GM]at h
theorem Tn {kt:TypeId} {cs:List SV} {key:Value} (hk:Ax M w (.agg cs) key) (get:Nat->List SV) :
  ∀(es:List MapEntry) (o:Nat),(∀i,i<es.length->Pd P kt cs (get (o+i))/\Ax (fun _=>False) w (.agg (get (o+i))) (es.getD i default).key) ->
    (∃j,o<=j/\j<o+es.length/\GM cs (get j)=true/\∃v,(Instr.findAsking kt key es o).run P w=.ok (some (j,v)) w)\/((∀j,o<=j->j<o+es.length->GM cs (get j)=false)/\(Instr.findAsking kt key es o).run P w=.ok none w)
 |[],o,_=>.inr ⟨(by grind),rfl⟩
 |e::es,o,h=>by
   obtain⟨h1,h2⟩:=h 0 (by simp);simp only[Nat.add_zero,List.getD_cons_zero]at h1 h2;unfold Pd at h1;split at h1;rotate_left
   ·exact h1.elim
   rename_i b hb;have hrun:(Op.equal kt key e.key).run P w=.ok b w:=by
    unfold Op.equal;exact OR (P:=P) (M:=M) 3 kt _ _ b hb _ _ hk h2.still _ w (by decide)
   unfold Instr.findAsking;simp only[Sem.run_bind,hrun,Result.andThen_ok];cases b with
   |true=>exact .inl ⟨o,Ah0 _,by simp,h1.symm,e.val,by simp⟩
   |false =>
     have ih:=Tn hk get es (o+1) (fun i hi=>by
      have:=h (i+1) (by simpa using hi);rw[show o+1+i=o+(i+1)by omega];simpa using this)
     grind
theorem Jp {g:Nat} {o o':Obj} (hb:w.heap[g]? = some o):Same (fun b=>b=g) w { w with heap:=w.heap.setIfInBounds g o' }/\({ w with heap:=w.heap.setIfInBounds g o' }:World).heap.size=w.heap.size/\({ w with heap:=w.heap.setIfInBounds g o' }:World).heap[g]? = some o':=by
 obtain⟨h1,h2⟩:=MapKept.heap_set (o':=o') hb;exact⟨⟨rfl,rfl,rfl,Ah0 _,by simp,fun b _ hne=>h2 b hne⟩,by simp,h1⟩
theorem qR (hG:Br G) (S:Al P G st a w env M X) {t:TypeId} {m k:EV} {K:St->Prop} (h:Pe P st t m k K) {vm vk:Value} (hm:Ap P M w env m vm) (hk:Ap P M w env k vk) (vv:Value) :
  ∃w' st',(Instr.mapUpdate t vm vk vv).run P w=.ok () w'/\K st'/\AO P G st' a w':=by
 unfold Pe at h;split at h;rotate_left
 ·exact h.elim
 rename_i kt e r cs ht;split at h;rotate_left
 ·exact h.elim
 rename_i kt' n get fs hl hfs;split at h;rotate_left
 ·exact h.elim
 rename_i hc;obtain⟨rfl,hi,hko⟩:=hc;obtain⟨hsym,hold,hnew⟩:=h;rcases hk with ⟨hk⟩;cases hm with
 |@mapv _ g hg =>
 have hmem:=Bp hl;obtain⟨g',es,clock,ha,hh,hz,hd⟩:=S.own _ _ hmem;rw[hg]at ha;cases ha;obtain⟨us,rfl,hul,hud⟩:∃us:List Value,vk=.agg us.toArray/\us.length=cs.length/\∀i,i<cs.length->Ax M w (SV.at cs i) (us.getD i undef):=by
  cases hk with|agg _ us h1 h2=>grind
 have hchk:=qO (w:=w) hfs hi hko hul hud false 9998;have hfind:=Tn (P:=P) (kt:=kt') hk get es.toList 0 (fun i hi'=>by
  rw[AhO];grind [LS])
 have hfk:(Instr.findKey kt' (.agg us.toArray) es.toList).run P w=(Instr.findAsking kt' (.agg us.toArray) es.toList 0).run P w:=by
  cases hes:es.toList with
  |nil=>simp[Instr.findKey,run_underlying hfs,Instr.findNow,Instr.findAsking]
  |cons x l=>simp[Instr.findKey,run_underlying hfs,Instr.findNow,Instr.sameNow]
 rcases hfind with ⟨j,_,hj,hc,v,hrun⟩|⟨hno,hrun⟩
 ·-- there already
  have hj:j<n:=by grind
  have hcs:=Tm hc hi;have hkey:=(hd j hj).2;have hlt:j<es.size:=by omega
  have hkey':Ax (fun _=>False) w (.agg cs) (es[j]).key:=by
   rw[hcs];rw[LS,Ah1 hlt]at hkey;exact hkey
  obtain⟨hsame,hbits⟩:=qQ hi hkey' hk;have hstay:∀w',(Instr.keyThatStays (es[j]).key (.agg us.toArray)).run P w'=.ok (.agg us.toArray) w':=fun w'=>by
   unfold Instr.keyThatStays;rw[if_pos (hbits 9999)];rfl
  obtain⟨s1,s2,s3⟩:=Jp (w:=w) (g:=g) (o':=.map (es.modify j fun e=>{ e with key:=.agg us.toArray,val:=vv }) clock) hh;refine⟨{ w with heap:=w.heap.setIfInBounds g (.map (es.modify j fun e=>{ e with key:=.agg us.toArray,val:=vv }) clock) },st,?_,hold ⟨j,hj,hc⟩,?_⟩
  ·unfold Instr.mapUpdate;simp only[Sem.run_bind,run_underlying ht,Result.andThen_ok,MapKept.run_getObj_map hh,hchk,hfk,hrun];grind [Ah1,Result.andThen_ok,MapKept.run_setObj_map]
  ·have:=S.write hG hmem hg s1 s2 (o:=.mp kt' n get) ⟨g,_,clock,hg,s3,by grind,fun i hi'=>⟨(hd i hi').1,?_⟩⟩
   ·have hid : Cl st.own r (.mp kt' n get)= st.own :=by
     have hn:=S.nod;apply List.ext_getElem (by simp[Cl]);intro q h1 h2;simp only[Cl,List.getElem_map];grind [AhX,AhR,Aij,AiE]
    rw[hid]at this;exact⟨env,M,X,this⟩
   ·have hi2:i<es.size:=by omega
    rw[LS,Ai3]
    by_cases hij:j=i
    ·subst hij;simp only[if_true,Ah1 hlt,AiB,Aix];rw[<- hcs,<- hsame];exact hkey'.still
    ·simp only[if_neg hij];have:=(hd i hi').2;rw[LS]at this;exact this.still
 ·obtain⟨s1,s2,s3⟩:=Jp (w:=w) (g:=g) (o':=.map (es.push { key:=.agg us.toArray,val:=vv,born:=clock }) (clock+1)) hh;refine⟨{ w with heap:=w.heap.setIfInBounds g (.map (es.push { key:=.agg us.toArray,val:=vv,born:=clock }) (clock+1)) },_,?_,hnew (fun i hi'=>hno i (rH _) (by simp;omega)),env,M,X,S.write hG hmem hg s1 s2 ⟨g,_,clock+1,hg,s3,by simp[hz],fun i hi'=>?_⟩⟩
  ·unfold Instr.mapUpdate;simp only[Sem.run_bind,run_underlying ht,Result.andThen_ok,MapKept.run_getObj_map hh,hchk,hfk,hrun];exact MapKept.run_setObj_map _ hh
  ·unfold AH;have hnm:∀{l:List SV},FN l=true->D6.noMems l=true:=fun {l} h=>by
    induction l with
    |nil=>rfl
    |cons s l ih=>cases s<;>simp_all [FN,D6.noMems,D6]
   split
   ·rename_i hlt;refine⟨(hd i hlt).1,?_⟩;have:=(hd i hlt).2;rw[LS,AiY (by omega)];rw[LS,Ah1 (by omega)]at this;exact this.still
   ·have:i=es.size:=by omega
    subst this;refine⟨hnm hi,?_⟩;rw[LS,AhS];exact Hr hk (by simpa[D6]using hnm hi)
theorem qS (hG:Br G) (S:Al P G st a w env M X) {d:Nat} (hdn:d<st.nt) (hn:(st.forget d).noName d=true) (q:Option (Int->SV)) (q2:Option (Int->Int->Prop)) (kt vt:TypeId) :
  AO P G ({ st.forget d with own:=(d,Pf q q2 kt vt)::(st.forget d).own }.put (some d) ⟨none,.mapv d⟩) (a.put (some d) (.map (some w.heap.size))) (w.alloc (.map #[] 0)):=by
 have hs:=Iq w (.map #[] 0);obtain⟨X',h⟩:=(S.forget d).newOwn hG hdn hn (fun s e h=>Ir h) hs (env':=env.set d w.heap.size undef) (Ar.set_other env d _ _) rfl
  (fun g hg=>by rw[Ar.set_at]at hg;cases hg;simp) (M':=M) (fun b h=>h) (fun b h=>.inl h) (fun b h=>by have:=S.mlt b h;simp;omega)
  (hso:=by cases q2 with|some _=>exact fun _ h=>h|none=>cases q with|some _=>exact fun _ h=>h|none=>exact fun _ h=>h) (o:=Pf q q2 kt vt) (by
   cases q2 with
   |some ok=>exact⟨w.heap.size,#[],0,Ar.set_at _ _ _ _,AhS,fun i hi=>absurd hi (oE _)⟩
   |none =>
   cases q with
   |none=>exact⟨w.heap.size,#[],0,Ar.set_at _ _ _ _,AhS,rfl,fun i hi=>by omega⟩
   |some val=>exact⟨w.heap.size,#[],0,Ar.set_at _ _ _ _,AhS,(fun key h=>by cases h),fun i hi=>absurd hi (oE _)⟩)
 exact⟨_,M,X',h.put0 (fun t ht=>by cases ht;exact hdn) (.mapv (Ar.set_at _ _ _ _))⟩
theorem Nk {C:Aj} {o:Oper} {gd:gdT} {d:Nat} {t:TypeId} {x hi:Operand} (h:Pb C o gd=some (d,t,x,hi)):o.op=.slice t x none (some hi) none/\o.dst=some d/\gd=none:=by
 unfold Pb at h;grind
theorem To (hG:Br G) (S:Al P G st a w env M X) {d:Nat} {t:TypeId} {x hi:Operand} {K:St->Prop} (h:Pc P st d t x hi K) (hd:d<st.nt) :
  ∃v st',(Instr.sliceAt t (a.eval x) none (some (a.eval hi)) none).run P w=.ok v w/\K st'/\AO P G st' (a.put (some d) v) w:=by
 have hρ:∀x e,st.rho none x=some e->Ap P M w env e (a.eval x):=fun x e hx=>Bc S (gd:=none) (fun _ _ _ h=>by cases h) trivial hx;unfold Pc at h;split at h;rotate_left
 ·exact h.elim
 rename_i e r z hu hx hz;split at h;rotate_left
 ·exact h.elim
 rename_i e' sz n get y hl hy;split at h;rotate_left
 ·exact h.elim
 rename_i hrn;obtain⟨hp,hk⟩:=BD h;obtain⟨h1,h2⟩:=AC hp;have hb:Jc none (some hi) (st.rho none) n=some (0,z):=by simp[Jc,hz]
 have hmem:=Bp hl;obtain⟨hm,hgl,hO⟩:=S.own _ _ hmem;have hmem':∃o,(r,o)∈(st.scrub r).own:=⟨.row e' sz n get,Ah2.2 ⟨(r,.row e' sz n get),rK.2 ⟨hmem,rfl⟩,rfl⟩⟩;obtain⟨o0,ho0⟩:=hmem';have e1:=hρ _ _ hx;generalize hev:a.eval x=q at e1;cases e1 with
 |@row _ A' n' c hrow =>
 have hsame:Same (fun b=>env.at_ r=some b) w w:=⟨rfl,rfl,rfl,Ah0 _,Ah0 _,fun _ _ _=>rfl⟩;rcases hO with ⟨hat,hrv,hn0⟩|⟨g,cap,cur,hg,hrv,hh,hnc,hcm,hcs,hd'⟩
 ·subst hn0;rw[hrv]at hrow;cases hrow;have hz0:z.toNat=0:=by omega
  have hrun:=JV (P:=P) (w:=w) hρ hu hy hb none 0 (Ah0 _) (Int.le_refl _) h1 h2;simp only[Option.map_none,AiB,Int.toNat_zero,Nat.sub_zero,if_true,hz0]at hrun;obtain⟨X',S'⟩:=(LA S r).rerow hG hrn ho0 (fun s e h=>Na h) (fun k' o' h=>LB h) hsame (env':=env) (fun j hj=>⟨rfl,rfl⟩) rfl
   (fun g hg=>⟨.inl hg,(S.oat _ _ hmem g (.inl hg)).2.2⟩) (o:=.row e' sz z.toNat get) ⟨by omega,fun i hi=>by omega,.inl ⟨hat,hrv,hz0⟩⟩
  refine⟨_,_,hrun,hk,env,M,X',S'.put0 (fun t ht=>by cases ht;exact hd) ?_⟩;exact .row hrv
 ·rw[hrv]at hrow;cases hrow;have hrun:=JV (P:=P) (w:=w) hρ hu hy hb (some ⟨g,0,none⟩) c hnc (Int.le_refl _) h1 h2;have hA:(if c=(0:Int).toNat then some (⟨g,0,none⟩:Addr)else(some (⟨g,0,none⟩:Addr)).map (·.add ((0:Int).toNat*y.size)))=some ⟨g,0,none⟩:=by
   split
   ·rfl
   ·simp[Addr.add]
  rw[hA]at hrun;simp only[Option.map_none,AiB,Int.toNat_zero,Nat.sub_zero]at hrun;let env2:Ar:={ env with rv:=fun j=>if j=r then .slice (some ⟨g,0,none⟩) z.toNat c else env.rv j };have e2:env2.rv r=.slice (some ⟨g,0,none⟩) z.toNat c:=by simp[env2]
  obtain⟨X',S'⟩:=(LA S r).rerow hG hrn ho0 (fun s e h=>Na h) (fun k' o' h=>LB h) hsame (env':=env2) (fun j hj=>⟨rfl,by simp[env2,hj]⟩) rfl
   (fun g hg=>⟨.inl hg,(S.oat _ _ hmem g (.inl hg)).2.2⟩) (o:=.row e' sz z.toNat get) ⟨by omega,fun i hi=>hgl i (by omega),.inr ⟨g,c,cur,hg,e2,hh,by omega,hcm,hcs,fun i hi j hj=>hd' i (by omega) j hj⟩⟩
  exact⟨_,_,hrun,hk,env2,M,X',S'.put0 (fun t ht=>by cases ht;exact hd) (.row e2)⟩
end
section
variable {P:Program} {M:Nat->Prop} {w:World} {env:Ar}
theorem Tp {es:Array MapEntry} {dom:Int->Bool} {val:Int->SV} (hd:∀i,i<es.size->∃key,(es.getD i default).key=.int .i64 key/\dom key=true/\Ax M w (val key) (es.getD i default).val):∀x∈es.toList,MapKept.IsKey (.int .i64) x.key:=by
 intro x hx;obtain⟨i,hi,rfl⟩:=AhR hx;have hi:i<es.size:=by grind
 obtain⟨key,h1,_,_⟩:=hd i hi;rw[LS,Ah1 hi]at h1;simp only[Aix]at h1;rw[Array.getElem_toList,h1];exact(rfl:IntKind.i64=IntKind.i64)
theorem qT {t kt vt kt' vt':TypeId} (ht:P.underlying t=some (.map kt vt)) (hk:P.underlying kt=some (.int .i64)) {r g:Nat} {dom:Int->Bool} {val:Int->SV} (ho:B8 P M w env r (.mq kt' vt' dom val)) (hg:env.at_ r=some g) (key:Int) :
  (dom key=true->∃v,Ax M w (val key) v/\∀co,(Instr.lookup t (.map (some g)) (.int .i64 key) co).run P w=.ok (if co then .tuple #[v,.bool true]else v) w) /\
  (dom key=false->∀z,(zeroValue vt).run P w=.ok z w->∀co,(Instr.lookup t (.map (some g)) (.int .i64 key) co).run P w=.ok (if co then .tuple #[z,.bool false]else z) w):=by
 obtain⟨g',es,clock,ha,hh,hin,hd⟩:=ho;rw[hg]at ha;cases ha;have hkeys:=Tp hd;have hck:∀e,(Instr.checkKey e 10000 kt (.int .i64 key)).run P w=.ok () w:=fun e=>MapKept.run_checkKey hk (show MapKept.IsKey (.int .i64) (.int .i64 key)from rfl) e 9999;rcases MapKept.findNow_spec (d:=.int .i64) (k:=.int .i64 key) (show MapKept.IsKey (.int .i64) (.int .i64 key)from rfl) es.toList 0 hkeys with ⟨h1,h2⟩|⟨j,e,h1,h2,h3⟩
 ·have hf:=MapKept.run_findKey (w:=w) hk h1;refine⟨fun h=>?_,fun _ z hz co=>?_⟩
  ·obtain⟨i,hi,h4⟩:=hin key h;rw[LS,Ah1 hi]at h4;grind
  ·unfold Instr.lookup;simp only[Sem.run_bind,run_underlying ht,Result.andThen_ok,MapKept.run_getObj_map hh,Sem.run_pure,hck,hf,hz]
   try (cases co<;>rfl)
 ·have hf:=MapKept.run_findKey (w:=w) hk h1;have hj:j<es.size:=by grind
  have he:es.getD j default=e:=by
   rw[Array.getElem?_toList]at h2;rw[LS,h2];rfl
  obtain⟨key',q1,q2,q3⟩:=hd j hj;rw[he]at q1 q3;have:key'=key:=by grind
  subst this;refine⟨fun _=>⟨e.val,q3,fun co=>?_⟩,fun h=>?_⟩
  ·unfold Instr.lookup;simp only[Sem.run_bind,run_underlying ht,Result.andThen_ok,MapKept.run_getObj_map hh,Sem.run_pure,hck,hf]
   try (cases co<;>rfl)
  grind
theorem qU {t kt vt kt' vt':TypeId} (ht:P.underlying t=some (.map kt vt)) (hk:P.underlying kt=some (.int .i64)) {r g:Nat} {dom:Int->Bool} {val:Int->SV} (ho:B8 P M w env r (.mq kt' vt' dom val)) (hg:env.at_ r=some g) (hM:¬ M g) (hlt:∀b,M b->b<w.heap.size) (key:Int) {v:Value} (hv:Ax M w (val key) v) :
  ∃w',(Instr.mapUpdate t (.map (some g)) (.int .i64 key) v).run P w=.ok () w'/\Same (fun b=>b=g) w w'/\w'.heap.size=w.heap.size/\B8 P M w' env r (.mq kt' vt' (fun x=>decide (x=key)||dom x) val):=by
 obtain⟨g',es,clock,ha,hh,hin,hd⟩:=ho;rw[hg]at ha;cases ha;have hkeys:=Tp hd;have hck:∀e,(Instr.checkKey e 10000 kt (.int .i64 key)).run P w=.ok () w:=fun e=>MapKept.run_checkKey hk (show MapKept.IsKey (.int .i64) (.int .i64 key)from rfl) e 9999;have lat:∀{o':Obj},Be M M w { w with heap:=w.heap.setIfInBounds g o' }:=fun {o'}=>by
  obtain⟨s1,s2,s3⟩:=Jp (w:=w) (g:=g) (o':=o') hh;exact⟨s1.size,fun b hb=>s1.block b (hlt b hb) (fun e=>hM (e ▸ hb)),fun b hb=>hb⟩
 rcases MapKept.findNow_spec (d:=.int .i64) (k:=.int .i64 key) (show MapKept.IsKey (.int .i64) (.int .i64 key)from rfl) es.toList 0 hkeys with ⟨h1,h2⟩|⟨j,e,h1,h2,h3⟩
 ·have hf:=MapKept.run_findKey (w:=w) hk h1;obtain⟨s1,s2,s3⟩:=Jp (w:=w) (g:=g) (o':=.map (es.push { key:=.int .i64 key,val:=v,born:=clock }) (clock+1)) hh;refine⟨_,?_,s1,s2,g,_,_,hg,s3,fun x hx=>?_,fun i hi=>?_⟩
  ·unfold Instr.mapUpdate;simp only[Sem.run_bind,run_underlying ht,Result.andThen_ok,MapKept.run_getObj_map hh,hck,hf];exact MapKept.run_setObj_map _ hh
  ·by_cases e:x=key
   ·refine⟨es.size,by simp,?_⟩;rw[LS,AhS,e];rfl
   ·have hx:dom x=true:=by grind
    obtain⟨i,hi,h4⟩:=hin x hx;refine⟨i,by simp;omega,?_⟩;rw[LS]at h4 ⊢;grind
  ·have hi:i<es.size+1:=by grind
   rcases Nat.lt_succ_iff_lt_or_eq.1 hi with h'|rfl
   ·obtain⟨key',q1,q2,q3⟩:=hd i h';rw[LS,Ah1 h']at q1 q3;refine⟨key',?_,by simp[q2],?_⟩
    ·rw[LS,AiY h'];exact q1
    ·rw[LS,AiY h'];exact q3.later lat
   ·refine⟨key,?_,by simp,?_⟩
    ·rw[LS,AhS];rfl
    ·rw[LS,AhS];exact hv.later lat
 ·have hf:=MapKept.run_findKey (w:=w) hk h1;have hj:j<es.size:=by grind
  have he:es[j]=e:=by
   grind
  have hstay:∀w',(Instr.keyThatStays (es[j]).key (.int .i64 key)).run P w'=.ok (.int .i64 key) w':=fun w'=>by
   rw[he,h3];unfold Instr.keyThatStays;rw[if_pos (show Instr.sameBits (9999+1) (.int .i64 key) (.int .i64 key)=true by simp[Instr.sameBits])];rfl
  obtain⟨s1,s2,s3⟩:=Jp (w:=w) (g:=g) (o':=.map (es.modify j fun e=>{ e with key:=.int .i64 key,val:=v }) clock) hh;refine⟨_,?_,s1,s2,g,_,_,hg,s3,fun x hx=>?_,fun i hi=>?_⟩
  ·unfold Instr.mapUpdate;simp only[Sem.run_bind,run_underlying ht,Result.andThen_ok,MapKept.run_getObj_map hh,hck,hf];simp only[AhO,Ah1 hj,AiB,Aix,hstay,Result.andThen_ok];exact MapKept.run_setObj_map _ hh
  ·by_cases e':x=key
   ·refine⟨j,by grind,?_⟩;rw[LS,Ai3,Ah1 hj,e'];simp
   ·have hx:dom x=true:=by grind
    obtain⟨i,hi,h4⟩:=hin x hx;refine⟨i,by grind,?_⟩;rw[LS,Ah1 hi]at h4;rw[LS,Ai3,Ah1 hi];grind
  ·have hi:i<es.size:=by grind
   rw[LS,Ai3,Ah1 hi]
   by_cases hij:j=i
   ·subst hij;exact⟨key,by simp,by simp,by simpa using hv.later lat⟩
   ·obtain⟨key',q1,q2,q3⟩:=hd i hi;rw[LS,Ah1 hi]at q1 q3;exact⟨key',by grind,by simp[q2],by simpa[hij]using q3.later lat⟩
theorem qV {G:Bw} {st:St} {a:Act} {X:Nat->Prop} (hG:Br G) (S:Al P G st a w env M X) {t:TypeId} {m k v:EV} {K:St->Prop} (h:Pi P st t m k v K) {vm vk vv:Value} (hm:Ap P M w env m vm) (hk:Ap P M w env k vk) (hv:Ap P M w env v vv) :
  ∃w' st',(Instr.mapUpdate t vm vk vv).run P w=.ok () w'/\K st'/\AO P G st' a w':=by
 unfold Pi at h;split at h;rotate_left
 ·exact h.elim
 rename_i kt vt r key ht;split at h;rotate_left
 ·exact h.elim
 rename_i kt' vt' dom val hl hkt;obtain⟨h1,h2⟩:=BD h;rcases hk with ⟨hk⟩;cases hk;cases hm with
 |@mapv _ g hg =>
 have hmem:=Bp hl;obtain⟨q1,q2,q3⟩:=S.oat _ _ hmem g (.inl hg);rcases Hs h1 hv with ⟨hv⟩;obtain⟨w',hr,hs,hz,ho⟩:=qU ht hkt (S.own _ _ hmem) hg q2 S.mlt key hv;exact⟨w',_,hr,h2,env,M,X,S.write hG hmem hg hs hz ho⟩
theorem qW {G:Bw} {st:St} {a:Act} {X:Nat->Prop} (S:Al P G st a w env M X) {t:TypeId} {d:Nat} {m k:EV} {co:Bool} {K:St->Prop} (h:Pj P st t d m k co K) {vm vk:Value} (hm:Ap P M w env m vm) (hk:Ap P M w env k vk) :
  ∃s v,(Instr.lookup t vm vk co).run P w=.ok v w/\Ax M w s v/\K (st.put (some d) ⟨none,.p s⟩):=by
 unfold Pj at h;split at h;rotate_left
 ·exact h.elim
 rename_i kt vt r key ht;split at h;rotate_left
 ·exact h.elim
 rename_i kt' vt' dom val y hl hkt hy;obtain⟨h1,h2⟩:=h;rcases hk with ⟨hk⟩;cases hk;cases hm with
 |@mapv _ g hg =>
 have hmem:=Bp hl;obtain⟨l1,l2⟩:=qT ht hkt (S.own _ _ hmem) hg key;have two:∀{s:SV} {v:Value} (b:Bool),Ax M w s v->Ax M w (.tup [s,.bool b]) (.tuple #[v,.bool b]):=fun {s v} b hs =>
  .tup [s,.bool b] [v,.bool b] rfl (fun i hi=>by
   match i,hi with
   |0,_=>exact hs
   |1,_=>exact .bool _)
 cases hd:dom key with
 |true =>
   grind
 |false =>
   obtain⟨i,hi,hz,_⟩:=CV hy;have hr:=l2 hd y.zero (by simp[zeroValue,typeInfo,hi,hz]);cases co with
   |true=>exact⟨_,_,hr true,two false (Lo _),h2 hd⟩
   |false=>exact⟨_,_,hr false,Lo _,h2 hd⟩
theorem Ap.reenvs {M':Nat->Prop} {w':World} {env':Ar} {keys:List Nat} (hl:Be M M' w w') (he:∀j,j ∉ keys->env'.at_ j=env.at_ j/\env'.rv j=env.rv j) (hy:env'.yl=env.yl) {e:EV} {v:Value}
  (hn:∀k,k∈keys->e.names k=false) (h:Ap P M w env e v):Ap P M' w' env' e v :=
 h.mono hl (by grind) hy
end
section
variable {P:Program}
mutual
theorem Tq {ks:List Nat}:∀(e:EV),e.within ks=true->∀k,e.names k=true->k∈ks
 | .loc b _,h,k,hk=>by simp only[EV.within,EV.names,beq_iff_eq]at h hk;subst hk;simpa using h
 | .row b,h,k,hk=>by simp only[EV.within,EV.names,beq_iff_eq]at h hk;subst hk;simpa using h
 | .rsub b _ _ _,h,k,hk=>by simp only[EV.within,EV.names,beq_iff_eq]at h hk;subst hk;simpa using h
 | .rptr b _ _ _,h,k,hk=>by simp only[EV.within,EV.names,beq_iff_eq]at h hk;subst hk;simpa using h
 | .mapv b,h,k,hk=>by simp only[EV.within,EV.names,beq_iff_eq]at h hk;subst hk;simpa using h
 | .rpre b _,h,k,hk=>by simp only[EV.within,EV.names,beq_iff_eq]at h hk;subst hk;simpa using h
 | .fptr bs _,h,k,hk=>by
   simp only[EV.within,EV.names,AhC,AhA]at h hk;exact h k hk
 | .cl _ cs,h,k,hk=>LJ cs h k hk
 | .ag _ cs,h,k,hk=>LJ cs h k hk
 | .p _,_,_,hk | .fn _,_,_,hk | .yield _,_,_,hk | .any,_,_,hk | .full ..,_,_,hk=>by cases hk
theorem LJ {ks:List Nat}:∀(l:List EV),EV.within.withinL ks l=true->∀k,EV.names.namesL k l=true->k∈ks
 |[],_,_,hk=>by cases hk
 |e::l,h,k,hk=>by
   simp only[EV.within.withinL,EV.names.namesL,pR,Aie]at h hk;rcases hk with hk|hk
   ·exact Tq e h.1 k hk
   ·exact LJ l h.2 k hk
end
theorem P2 {ks:List Nat} {o:Ah} (h:o.within ks=true):∀k,o.names k=true->k∈ks:=fun k hk=>by
 cases o with
 |blk t cs=>exact LJ cs h k hk
 |oblk b t cs=>exact LJ cs h k hk
 |prow e n bs =>
   simp only[Ah.within,Ah.names,AhC,AhA]at h hk;exact h k hk
 |_=>cases hk
theorem Ap.turn {M M':Nat->Prop} {w w':World} {env env':Ar} {ks:List Nat} (hl:Be M M' w w') (he:∀k,k∈ks->env'.at_ k=env.at_ k/\env'.rv k=env.rv k)
 {e:EV} {v:Value} (h:Ap P M w env e v) (hw:e.within ks=true):Ap P M' w' env' e v:=h.go hl (fun k hk=>he k (Tq e hw k hk))
def Ar.adopt (env env':Ar) (f:Nat->Nat) (keys:List Nat):Ar :=
 { at_:=fun j=>match keys.find? (fun k=>f k == j)with|some k=>env'.at_ k|none=>env.at_ j
   rv:=fun j=>match keys.find? (fun k=>f k == j)with|some k=>env'.rv k|none=>env.rv j
   yl:=env.yl }
theorem LK {env env':Ar} {f:Nat->Nat} {keys:List Nat} {j:Nat} (h:j ∉ keys.map f):(env.adopt env' f keys).at_ j=env.at_ j/\(env.adopt env' f keys).rv j=env.rv j:=by
 have:keys.find? (fun k=>f k == j)=none:=by
  grind
 unfold Ar.adopt;grind
theorem Nl {env env':Ar} {f:Nat->Nat} {keys:List Nat} (hnd:(keys.map f).Nodup) {k:Nat} (hk:k∈keys):(env.adopt env' f keys).at_ (f k)=env'.at_ k/\(env.adopt env' f keys).rv (f k)=env'.rv k:=by
 have:keys.find? (fun q=>f q == f k)=some k:=by
  induction keys with
  |nil=>cases hk
  |cons q l ih =>
    grind
 unfold Ar.adopt;grind
theorem Al.newOwnsAt {G:Bw} {st:St} {a:Act} {w:World} {env:Ar} {M X:Nat->Prop} (S:Al P G st a w env M X) {L:List (Nat×Ah)} (hnd:(Bq L).Nodup) (hkn:∀k,k∈Bq L->k<st.nt) (hk:∀k,k∈Bq L->st.noName k=true)
  (hT:∀k,k∈Bq L->∀s e,(s,e)∈st.T->e.v.names k=false) {env':Ar} (he:∀j,j ∉ Bq L->env'.at_ j=env.at_ j/\env'.rv j=env.rv j) (hy:env'.yl=env.yl) {n0:Nat}
  (hlo:∀k o,(k,o)∈st.own->∀g,o.has env k g->g<n0) (hdl:∀d,d∈a.defers->∀D,d = { target:=.collected D,args:=#[] }->D<n0)
  (hg:∀k,k∈Bq L->∀g,env'.at_ k=some g->n0<=g/\X g/\¬ M g/\g<w.heap.size)
  (hinj:∀k1 k2,k1∈Bq L->k2∈Bq L->k1≠k2->∀g,env'.at_ k1=some g->env'.at_ k2≠some g)
  (ho:∀k o,(k,o)∈L->B8 P M w env' k o) (hso:∀k o,(k,o)∈L->∀g,¬ o.sub g):Al P G { st with own:=L++st.own } a w env' M X:=by
 have hl:Be M M w w:=⟨Ah0 _,fun _ _=>rfl,fun _ h=>h⟩;have at_of:∀{k o g},(k,o)∈L->o.has env' k g->env'.at_ k=some g:=fun {k o g} h hg=>hg.elim id (fun q=>(hso k o h g q).elim);have key:∀{k o},(k,o)∈L->k∈Bq L:=fun {k o} h=>Ah2.2 ⟨(k,o),h,rfl⟩;have hold:∀{k' o'},(k',o')∈st.own->k' ∉ Bq L/\∀k,k∈Bq L->o'.names k=false:=fun {k' o'} h =>
  ⟨fun hm=>(Hq (hk _ hm) h).1 rfl,fun k hm=>(Hq (hk _ hm) h).2⟩
 have hpin:Ih G env' st.nt:=fun j hj=>by
  obtain⟨h1,h2,h3⟩:=S.gam.2 j hj;obtain⟨e1,e2⟩:=he j (fun hm=>by have:=hkn j hm;omega);exact⟨h1,e1.trans h2,e2.trans h3⟩
 refine⟨⟨S.gam.1,hpin⟩,S.mx,?_,?_,?_,?_,S.mlt,S.xlt,S.siz,?_,S.grd,?_,S.dno⟩
 ·intro k' o' h;rcases AhG.1 h with h|h
  ·exact ho _ _ h
  ·obtain⟨hne,hnn⟩:=hold h;have h1:=S.own _ _ h;exact h1.move hl (he _ hne).1 (he _ hne).2 (fun _ _=>rfl) (fun j hj=>he j (fun e=>by rw[hnn j e]at hj;cases hj))
 ·intro k' o' h g hg';rcases AhG.1 h with h|h
  ·exact(hg _ (key h) g (at_of h hg')).2
  ·rw[Ah.has_env (he _ (hold h).1).1]at hg';exact S.oat _ _ h g hg'
 ·intro k1 o1 k2 o2 h1 h2 hne g hg1;rcases AhG.1 h1 with h1|h1<;>rcases AhG.1 h2 with h2|h2
  ·exact fun hc=>hinj _ _ (key h1) (key h2) hne g (at_of h1 hg1) (at_of h2 hc)
  ·rw[Ah.has_env (he _ (hold h2).1).1];intro hc;have:=hlo _ _ h2 g hc;have:=(hg _ (key h1) g (at_of h1 hg1)).1;omega
  ·rw[Ah.has_env (he _ (hold h1).1).1]at hg1;intro hc;have:=hlo _ _ h1 g hg1;have:=(hg _ (key h2) g (at_of h2 hc)).1;omega
  ·rw[Ah.has_env (he _ (hold h1).1).1]at hg1;rw[Ah.has_env (he _ (hold h2).1).1];exact S.inj _ _ _ _ h1 h2 hne g hg1
 ·rw[List.map_append,List.nodup_append];refine⟨hnd,S.nod,fun x hx y hy' e=>?_⟩;obtain⟨z,hz,rfl⟩:=Ah2.1 hy';exact(hold (k':=z.1) (o':=z.2) hz).1 (e ▸ hx)
 ·intro s e h;obtain⟨h1,h2,h3⟩:=S.tmp s e h;exact⟨h1,fun ho'=>Ap.reenvs hl he hy (fun k hm=>hT k hm s e h) (h2 ho'),h3⟩
 ·intro d hd;obtain⟨D,e,h1,h2,h3,h4⟩:=S.dfr d hd;have hD:=hdl d hd D e;refine⟨D,e,h1,h2,h3,?_⟩;intro k' o' h;rcases AhG.1 h with h|h
  ·intro hc;have:=(hg _ (key h) D (at_of h hc)).1;omega
  ·rw[Ah.has_env (he _ (hold h).1).1];exact h4 _ _ h
theorem Ts {mv:Option (Nat×Nat)} {i j:Nat} (h:i∈C5 mv) (h':j∈C5 mv):i=j:=by
 cases mv with
 |none=>cases h
 |some x =>
   obtain⟨k,s⟩:=x;simp only[C5,Ah9]at h h';rw[h,h']
theorem qX {G:Bw} {st:St} {a:Act} {w:World} {env:Ar} {M X:Nat->Prop} (S:Al P G st a w env M X) {f:Nat->Nat} {mv:Option (Nat×Nat)} {ks:List Nat} (hk:∀k,k∈ks->∃o,(k,o)∈st.own) (h:OY (st.mvd f mv) f mv ks=true) :
  Al P G (st.mvd f mv) a w env M X/\(st.mvd f mv).nt=st.nt/\(∀k,k∈ks->∃o,(k,o)∈(st.mvd f mv).own) /\
   ∀k,k∈C5 mv->f k<st.nt/\(∀s e,(s,e)∈(st.mvd f mv).T->e.v.names (f k)=false)/\∀k' o,(k',o)∈(st.mvd f mv).own->o.names (f k)=false:=by
 cases mv with
 |none=>exact⟨S,rfl,hk,fun k hk=>by cases hk⟩
 |some x =>
   obtain⟨k0,s0⟩:=x;simp only[OY,pR,decide_eq_true_eq,AhC]at h;refine⟨LA S _,rfl,fun k hk=>?_,fun k hk=>?_⟩
   ·obtain⟨o,ho⟩:=AiM.1 (h.2 k hk);exact⟨o,Bp ho⟩
   ·simp only[C5,Ah9]at hk;subst hk;exact⟨h.1,fun s e h=>Na h,fun k' o h=>LB h⟩
theorem Tt {G:Bw} {st:St} {a:Act} {w:World} {env:Ar} {M X:Nat->Prop} (hG:Br G) (S:Al P G st a w env M X) {C:Aj} {dst:Option Nat} (hd:∀t,dst=some t->t<st.nt) {as:List EV} {vals:List Value} (hv1:vals.length=as.length) (hv2:∀i,i<as.length->Ap P M w env (EV.at as i) (vals.getD i undef))
  {g:Nat} {mk:Mk} (hT:D9 P g mk) {K:St->Prop} (h:OZ C st dst as mk K) {N:Act->World->Prop} (hN:∀st' a' w',K st'->AO P G st' a' w'->N a' w') :
  CallsIn Fence.wide 0 P g vals.toArray w (fun e w'=>∃v,e=.returned v/\N (a.put dst v) w'):=by
 obtain⟨t,h⟩:=h;split at h;rotate_left
 ·exact h.elim
 rename_i hc;obtain⟨hpl0,hc⟩:=Ain.1 hc;obtain⟨hndl,hnd⟩:=Ain.1 hc;have hnd:=F8 hnd;have hndl:=F8 hndl;obtain⟨h1,hpre,hpost⟩:=BD h;obtain⟨hA,hO⟩:=all_append h1;obtain⟨⟨hk,hk',hkn,hin,hmv,hmvl⟩,hT⟩:=hT;obtain⟨l1,l2⟩:=Jm hA;rw[Gz]at l1 l2;have hO':=GO S hO;have inj:=Tj hndl;refine Gg (hT t hpre hpl0 M w (env.via C.ren) vals S.mlt (fun k o h=>Kh (hO' _ _ (Fc h)).2) (fun k o h g hg=>?_) (fun k o k' o' h h' hne g hg=>?_) (by omega) (fun i hi=>?_)) ?_
 ·obtain⟨⟨o',h'⟩,_⟩:=hO' _ _ (Fc (f:=C.ren) h);obtain⟨_,q2,q3⟩:=S.oat _ _ h' g (.inl hg);exact⟨q2,q3⟩
 ·obtain⟨⟨o1,h1⟩,_⟩:=hO' _ _ (Fc (f:=C.ren) h);obtain⟨⟨o2,h2⟩,_⟩:=hO' _ _ (Fc (f:=C.ren) h');exact fun hc=>S.inj _ _ _ _ h1 h2 (inj k o k' o' h h' hne) g (.inl hg) (.inl hc)
 ·have:=l2 i hi;rw[HK _ _ _ hi]at this;exact Kf _ _ (Hs this (hv2 i (by omega)))
 rintro e w' ⟨u,v,env',M',hp,rfl,hs,hM,hM',hMl,hpin,hg,hmg,hinj,ho,hon,hr⟩;have hK:=hpost u hp;split at hK;rotate_left
 ·exact hK.elim
 rename_i hfree;obtain⟨hmvo,hfree⟩:=Ain.1 hfree;obtain⟨hpl,hmvo⟩:=Ain.1 hmvo;obtain⟨hpl1,hpl2⟩:=Ain.1 hpl;have pl2:∀k o,(k,o)∈Cy C.ren (mk.lent' t u)->∀g,¬ o.sub g:=fun k o h g hg=>by
  obtain⟨k',o',h',rfl,rfl⟩:=Gh h;exact LI hpl2 h' g (Ah.ren_sub.1 hg)
 refine⟨v,rfl,hN _ _ _ hK ?_⟩
 -- the lent ones,by their names
 have lk:∀k,k∈mk.lkeys->∃o,(k,o)∈mk.lent t:=fun k hm=>by
  rw[<- hk t]at hm;obtain⟨⟨k2,o2⟩,h2,e2⟩:=Ah2.1 hm;cases e2;exact⟨o2,h2⟩
 have lkS:∀k,k∈mk.lkeys->∃o,(C.ren k,o)∈st.own:=fun k hm=>by
  obtain⟨o,h2⟩:=lk k hm;exact(hO' _ _ (Fc h2)).1
 obtain⟨S0,hnt0,lk0,F⟩:=qX S (fun k hm=>by
  obtain⟨q,hq,rfl⟩:=Ah2.1 hm;exact lkS q hq) hmvo
 have hd0:∀t,dst=some t->t<(st.mvd C.ren mk.mv).nt:=fun t h=>by rw[hnt0];exact hd t h
 rw[<- hnt0]at F;generalize st.mvd C.ren mk.mv=Ao at *;have ndm:((C5 mk.mv).map C.ren).Nodup:=by cases mk.mv<;>simp[C5]
 have injL:∀q k,q∈mk.lkeys->k∈mk.lkeys->C.ren q=C.ren k->q=k:=fun q k hq hk2 e=>by
  obtain⟨o1,h1⟩:=lk q hq;obtain⟨o2,h2⟩:=lk k hk2;exact Decidable.byContradiction fun hne=>inj q o1 k o2 h1 h2 hne e
 have hlat:Be M' M' w' w':=⟨Ah0 _,fun _ _=>rfl,fun _ h=>h⟩;have hnm:∀k,k∈C5 mk.mv->((env.adopt env' C.ren (C5 mk.mv)).at_ (C.ren k)=env'.at_ k):=fun k hm=>(Nl ndm hm).1;have hag1:∀k,k∈mk.lkeys->((env.adopt env' C.ren (C5 mk.mv)).via C.ren).at_ k=env'.at_ k/\((env.adopt env' C.ren (C5 mk.mv)).via C.ren).rv k=env'.rv k:=fun k hm=>by
  by_cases hmm:k∈C5 mk.mv
  ·exact Nl ndm hmm
  ·have hno : C.ren k ∉ (C5 mk.mv).map C.ren :=fun hc =>by
    obtain⟨q,hq,e⟩:=Ah2.1 hc;exact hmm (injL q k (hmvl q hq) hm e ▸ hq)
   obtain⟨p1,p2⟩:=hpin k hm hmm;obtain⟨q1,q2⟩:=LK (env:=env) (env':=env') hno;exact⟨q1.trans p1.symm,q2.trans p2.symm⟩
 have hl:∀b,Fb (env.via C.ren) (mk.lent t) b->Fb env (Cy C.ren (mk.lent t)) b:=fun b ⟨k,o,h,hg⟩=>⟨_,_,Fc h,hg⟩;have S1:=S0.lentV hG (L:=Cy C.ren (mk.lent t)) (L':=Cy C.ren (mk.lent' t u)) (env1:=env.adopt env' C.ren (C5 mk.mv)) (mvs:=fun j=>j∈(C5 mk.mv).map C.ren) (M':=M') (w':=w')
  (fun k o h=>by
   obtain⟨k',o',h',rfl,rfl⟩:=Gh h;exact lk0 _ (Ah2.2 ⟨k',by rw[<- hk t];exact Ah2.2 ⟨_,h',rfl⟩,rfl⟩))
  (by rw[Iu,Iu,hk,hk']) ⟨hs.os,hs.tape,hs.output,hs.drawn,hs.size,fun b hb hn=>hs.block b hb (fun e=>hn (hl b e))⟩ hM
  (fun b hb=>by
   rcases hM' b hb with h|⟨h,h2⟩|⟨k,h,h2,h3⟩
   ·exact .inl h
   ·refine .inr (.inl ⟨h,fun j hj=>?_⟩);obtain⟨k,hk2,rfl⟩:=Ah2.1 hj;rw[hnm k hk2];exact h2 k (List.mem_append_right _ hk2)
   ·exact .inr (.inr ⟨C.ren k,Ah2.2 ⟨k,h,rfl⟩,h2,by rw[hnm k h];exact h3⟩)) hMl
  (fun j hj=>LK hj) rfl (fun i j hi hj=>by
   obtain⟨p,hp,rfl⟩:=Ah2.1 hi;obtain⟨q,hq,rfl⟩:=Ah2.1 hj;rw[Ts hp hq])
  (fun j hj=>by
   obtain⟨k,hk2,rfl⟩:=Ah2.1 hj;obtain⟨o,h2⟩:=lk k (hmvl k hk2);exact⟨(F k hk2).1,_,Fc h2⟩)
  (fun j hj g hg'=>by
   obtain⟨k,hk2,rfl⟩:=Ah2.1 hj;rw[hnm k hk2]at hg';exact hmg k hk2 g hg')
  (fun j hj=>by
   obtain⟨k,hk2,rfl⟩:=Ah2.1 hj;exact(F k hk2).2.1)
  (fun j hj k' o h _=>by
   obtain⟨k,hk2,rfl⟩:=Ah2.1 hj;exact(F k hk2).2.2 k' o h)
  (fun k o h=>by
   obtain⟨k',o',h',rfl,rfl⟩:=Gh h;have hkk:k'∈mk.lkeys:=by rw[<- hk' t u];exact Ah2.2 ⟨_,h',rfl⟩
   have hw:=AhC.1 (hin t u).1 _ h';obtain⟨p1,p2⟩:=hag1 k' hkk;exact Kg ((ho k' o' h').move hlat p1 p2 (fun _ _=>rfl) (fun j hj=>hag1 j (P2 hw j hj)))) pl2
 generalize henv1:env.adopt env' C.ren (C5 mk.mv)=env1 at *;have hkeys:Bq (Cy C.ren (mk.own t u))=mk.keys.map C.ren:=by rw[Iu,hkn]
 have fr2:∀k,k∈mk.keys.map C.ren->({ Ao with own:=EK Ao.own (Cy C.ren (mk.lent' t u)) }:St).noName k=true/\(∀s e,(s,e)∈Ao.T->e.v.names k=false)/\k<Ao.nt:=fun k hm=>by
  have:=AhC.1 hfree k hm;unfold JZ at this;simp only[pR,decide_eq_true_eq]at this;refine⟨this.1.1,fun s e he=>?_,this.2⟩;have:=AhC.1 this.1.2 _ he;simpa using this
 have hnew:∀k,k∈mk.keys->((env1.adopt env' C.ren mk.keys).via C.ren).at_ k=env'.at_ k/\((env1.adopt env' C.ren mk.keys).via C.ren).rv k=env'.rv k:=fun k hm=>Nl hnd hm;have hag:∀k,k∈mk.lkeys++mk.keys->((env1.adopt env' C.ren mk.keys).via C.ren).at_ k=env'.at_ k/\((env1.adopt env' C.ren mk.keys).via C.ren).rv k=env'.rv k:=fun k hm=>by
  rcases AhG.1 hm with hm|hm
  ·have hno : C.ren k ∉ mk.keys.map C.ren :=fun hc =>by
    obtain⟨o,h6⟩:=lk0 _ (Ah2.2 ⟨k,hm,rfl⟩);have h7:C.ren k∈(EK Ao.own (Cy C.ren (mk.lent' t u))).map (·.1):=by
     rw[Nh];exact Ah2.2 ⟨_,h6,rfl⟩
    obtain⟨⟨k8,o8⟩,h8,e8⟩:=Ah2.1 h7;exact(Hq (fr2 _ hc).1 h8).1 e8
   obtain⟨p1,p2⟩:=hag1 k hm;obtain⟨q1,q2⟩:=LK (env:=env1) (env':=env') hno;exact⟨q1.trans p1,q2.trans p2⟩
  ·exact hnew k hm
 have hownE:∀k o,(k,o)∈mk.own t u->B8 P M' w' ((env1.adopt env' C.ren mk.keys).via C.ren) k o:=fun k o hm=>by
  have hkk:k∈mk.keys:=by rw[<- hkn t u];exact Ah2.2 ⟨_,hm,rfl⟩
  have hw:=AhC.1 (hin t u).2.1 _ hm;obtain⟨p1,p2⟩:=hnew k hkk;exact(hon k o hm).move hlat p1 p2 (fun _ _=>rfl) (fun j hj=>hag j (P2 hw j hj))
 have inv:∀j,j∈Bq (Cy C.ren (mk.own t u))->∃k,k∈mk.keys/\C.ren k=j/\(env1.adopt env' C.ren mk.keys).at_ j=env'.at_ k:=fun j hj=>by
  rw[hkeys]at hj;obtain⟨k,hm,rfl⟩:=Ah2.1 hj;exact⟨k,hm,rfl,(Nl hnd hm).1⟩
 obtain⟨n0,hlo,hdl,hg0⟩:∃n0,(∀k o,(k,o)∈EK Ao.own (Cy C.ren (mk.lent' t u))->∀g,o.has env1 k g->g<n0)/\(∀d,d∈a.defers->∀D,d = { target:=.collected D,args:=#[] }->D<n0)/\∀k,k∈mk.keys->∀g,env'.at_ k=some g->n0<=g:=by
  have hdl:∀d,d∈a.defers->∀D,d = { target:=.collected D,args:=#[] }->D<w.heap.size:=fun d hd D e=>by
   obtain⟨D',e',_,h2,_⟩:=S0.dfr d hd;rw[e']at e;cases e;exact S0.xlt _ h2
  rcases hmv with hmv|hkz
  ·refine⟨w.heap.size,fun k o h g hg'=>?_,hdl,fun k hm g hg'=>(hg k hm g hg').1⟩;obtain⟨⟨o',h'⟩,h2⟩:=Jo _ _ h;rw[<- henv1,hmv,Ah.has_env (LK (keys:=C5 none) (by simp[C5])).1]at hg';rcases h2 with h2|⟨h2,_⟩
   ·exact(S0.oat k o' h' g (.inl (hg'.elim id (fun q=>(pl2 k o h2 g q).elim)))).2.2
   ·exact(S0.oat k o h2 g hg').2.2
  ·exact⟨w'.heap.size,fun k o h g hg'=>(S1.oat k o h g hg').2.2,fun d hd D e=>Ah3 (hdl d hd D e) hs.size,fun k hm=>by rw[hkz]at hm;cases hm⟩
 have S2:=S1.newOwnsAt (L:=Cy C.ren (mk.own t u)) (by rw[hkeys];exact hnd) (fun k hm=>(fr2 k (hkeys ▸ hm)).2.2) (fun k hm=>(fr2 k (hkeys ▸ hm)).1) (fun k hm=>(fr2 k (hkeys ▸ hm)).2.1) (env':=env1.adopt env' C.ren mk.keys)
  (fun j hj=>LK (by rw[<- hkeys];exact hj)) rfl (n0:=n0) hlo hdl
  (fun k hm g hg'=>by
   obtain⟨q,q1,rfl,q3⟩:=inv k hm;rw[q3]at hg';obtain⟨r1,r2⟩:=hg q q1 g hg';refine⟨hg0 q q1 g hg',.inr ⟨r1,r2⟩,fun hm'=>?_,r2⟩;rcases hM' g hm' with h|h|⟨k,h,h2,h3⟩
   ·have:=S.mlt g h;omega
   ·exact h.2 q (List.mem_append_left _ q1) hg'
   ·rcases hmv with hmv|hkz
    ·rw[hmv]at h;cases h
    ·rw[hkz]at q1;cases q1)
  (fun k1 k2 h1 h2 hne g hg'=>by
   obtain⟨q1,a1,rfl,a3⟩:=inv k1 h1;obtain⟨q2,b1,rfl,b3⟩:=inv k2 h2;rw[a3]at hg';rw[b3];exact hinj q1 q2 a1 b1 (fun e=>hne (by rw[e])) g hg')
  (fun k o hm=>by
   obtain⟨k',o',h',rfl,rfl⟩:=Gh hm;exact Kg (hownE k' o' h')) (fun k o h g hg=>by
   obtain⟨k',o',h',rfl,rfl⟩:=Gh h;exact LI hpl1 h' g (Ah.ren_sub.1 hg))
 exact⟨_,M',_,S2.put0 hd0 (Ng (hr.turn hlat hag (hin t u).2.2))⟩
section
variable {M:Nat->Prop} {w:World} {G:Bw} {st:St} {a:Act} {env:Ar} {X:Nat->Prop}
theorem P3 (k:Nat) (o:Ah):∀(l:List EV) (i:Nat),i<l.length->EV.at (EV.frz.frzL k o l) i=(EV.at l i).frz k o
 |[],i,hi=>by simp at hi
 |e::l,0,_=>rfl
 |e::l,i+1,hi=>P3 k o l i (by grind)
theorem Kj (k:Nat) (o:Ah):∀(l:List EV),(EV.frz.frzL k o l).length=l.length
 |[]=>rfl
 |e::l=>by simp[EV.frz.frzL,Kj k o l]
theorem qY (S:Al P G st a w env M X) {r:Nat} {e e2:TypeId} {sz n:Nat} {bl cp len:Nat->Nat} {get:Nat->Nat->List SV} (h:(r,Ah.rr e e2 sz n bl cp len get)∈st.own) {M':Nat->Prop} (hM:∀b,M b->M' b) (hr:∀g,(Ah.rr e e2 sz n bl cp len get).has env r g->M' g) :
  Ax M' w (.sl 1 n (fun i=>[.sl sz (len i) (get i)])) (env.rv r):=by
 obtain⟨hm,_,_,h1⟩:=S.own _ _ h;rcases h1 with ⟨_,hrv,hn⟩|⟨g,cap,cur,hg,hrv,hh,hnc,hcm,hcs,hd⟩
 ·rw[hrv];subst hn;exact .sl _ _ _ _ _ (fun _ _=>undef) (Ah0 _) hm (fun h=>by omega) (fun _ _=>rfl) (fun i hi=>by omega) (fun i hi=>by omega)
 ·rw[hrv];refine .sl _ _ _ _ _ (fun i _=>cur.getD i undef) hnc hm (fun _=>⟨_,rfl,hr g (.inl hg),fun i hi j hj=>?_⟩) (fun _ _=>rfl) (fun i hi j hj=>?_) (fun i hi j hj=>?_)
  ·rw[Cw,AhO,show i*1+j=i by omega,Ec hh (by omega)]
  ·rw[(hd i hi).v];rfl
  ·obtain rfl:j=0:=by omega
   obtain⟨h1,h2,h3,c,h4,h5,h6⟩:=hd i hi;show Ax M' w (.sl sz (len i) (get i)) _;rw[h1];refine .sl _ _ _ _ _ (fun j u=>c.getD (j*sz+u) undef) h2.1 (Aig h2.1 h2.2) (fun _=>⟨_,rfl,hr _ (.inr ⟨i,hi,rfl⟩),fun j hj u hu=>?_⟩) h3 (fun j hj u hu=>(h6 j hj u hu).1) (fun j hj u hu=>(h6 j hj u hu).2.weak hM);have:=C6 (sz:=sz) (len:=cp i) (Ah3 hj h2.1) hu;rw[Cw,AhO,Ec h4 (by omega)]
theorem Tu (S:Al P G st a w env M X) {k:Nat} {o:Ah} (hk:(k,o)∈st.own) (hf:SF o=true) {M':Nat->Prop} (hM:∀b,M b->M' b) (hg:∀g,o.has env k g->M' g)
  {e:EV} {v:Value} (h:Ap P M w env e v):Ap P M' w env (e.frz k o) v:=by
 have hl:Be M M' w w:=⟨Ah0 _,fun _ _=>rfl,hM⟩
 induction h with
 |p h=>exact .p (h.weak hM)
 |@loc b off g h =>
   unfold EV.frz;split
   ·rename_i hb;have hb:b=k:=by simpa using hb
    subst hb;cases o with
    |blk t cs =>
      simp only;split
      ·rename_i ss hss;obtain⟨g',vs,hg',hh,hz,hd⟩:=S.own _ _ hk;rw[h]at hg';cases hg';have:=HF hss;subst this;simp only[Aih]at hz hd;have hp:=Ax.ref (M:=M') (w:=w) ss off (fun j=>vs.getD j undef) ⟨g,0,none⟩ (hg g (.inl h)) (fun j hj=>by rw[Cw,AhO];exact Ec hh (by omega)) (fun j hj=>(hd j hj).1) (fun j hj=>by
        have:=(hd j hj).2;rw[Gv _ _ hj]at this;rcases this with ⟨this⟩;exact this.weak hM)
       rw[Cw,AhO]at hp;exact .p hp
      ·exact .any
    |_=>exact .any
   ·exact .loc h
 |@mapv r g h =>
   unfold EV.frz;split
   ·exact .any
   ·exact .mapv h
 |@row r A n c h =>
   unfold EV.frz;split
   ·rename_i hb;have hb:r=k:=by simpa using hb
    subst hb;cases o with
    |row e sz n' get =>
      have:=Nb S hk hM (fun g h=>hg g (.inl h));rw[h]at this;exact .p this
    |rr e e2 sz n' bl cp len get =>
      have:=qY S hk hM hg;rw[h]at this;exact .p this
    |_=>exact .any
   ·exact .row h
 |@rsub r sz lo n A cap hc hm hA =>
   unfold EV.frz;split
   ·exact .any
   ·exact .rsub A cap hc hm hA
 |@rpre r n N cap g h hn =>
   unfold EV.frz;split
   ·exact .any
   ·exact .rpre h hn
 |@fptr bs i v hi h=>exact .fptr hi h
 |@rptr r sz i off g h =>
   unfold EV.frz;split
   ·exact .any
   ·exact .rptr h
 |cl f cs vs hlen _ ih =>
   have hc:∀i,i<(EV.frz.frzL k o cs).length->Ap P M' w env (EV.at (EV.frz.frzL k o cs) i) (vs.getD i undef):=fun i hi=>by
    rw[Kj]at hi;rw[P3 _ _ _ _ hi];exact ih i hi
   unfold EV.frz;split
   ·rename_i ss hss;have:=Jd hss (by rw[Kj];exact hlen) hc;exact .p (.clo f ss _ this.1 this.2)
   ·exact .cl f _ _ (by rw[Kj];exact hlen) hc
 |ag q cs vs hlen _ ih =>
   unfold EV.frz;exact .ag q _ _ (by rw[Kj];exact hlen) (fun i hi=>by
    rw[Kj]at hi;rw[P3 _ _ _ _ hi];exact ih i hi)
 |fn h=>exact .fn (h.later hl)
 |yield=>exact .yield
 |any=>exact .any
 |rrow=>exact .rrow
 |rrptr=>exact .rrptr
 |full h hq=>exact .full (h.later hl) hq
theorem Al.frz (S:Al P G st a w env M X) (k:Nat):∃M',Al P G (st.frz k) a w env M' X:=by
 unfold St.frz;split
 ·rename_i o hl;split
  ·rename_i hf;have hk:=Bp hl;have hM:∀b,M b->M b\/o.has env k b:=fun b h=>.inl h;have hg:∀g,o.has env k g->M g\/o.has env k g:=fun g h=>.inr h;have hmem:∀{k' o'},(k',o')∈((st.own.filter fun x=>!(x.1 == k)).map fun x=>(x.1,Ah.frz k o x.2))->∃o'',(k',o'')∈st.own/\k'≠k/\o'=Ah.frz k o o'':=by
    intro k' o' h;obtain⟨⟨k2,o2⟩,hm,he⟩:=Ah2.1 h;obtain⟨h1,h2⟩:=rK.1 hm;cases he;exact⟨o2,h1,by simpa using h2,rfl⟩
   have hfr:∀{k':Nat} {q:Ah} {g:Nat},(Ah.frz k o q).has env k' g↔q.has env k' g:=fun {k' q g}=>by cases q<;>exact Iff.rfl
   have hl':Be M (fun b=>M b\/o.has env k b) w w:=⟨Ah0 _,fun _ _=>rfl,hM⟩;refine⟨fun b=>M b\/o.has env k b,S.gam,fun b hb=>by rcases hb with hb|hb;exact S.mx b hb;exact .inr (S.oat _ _ hk b hb).1,?_,?_,?_,?_,?_,S.xlt,S.siz,?_,?_,?_,S.dno⟩
   ·intro k' o' h;obtain⟨o'',ho,hne,rfl⟩:=hmem h;have h1:=S.own _ _ ho;have hmv:=h1.move hl' rfl rfl (fun _ _=>rfl) (fun _ _=>⟨rfl,rfl⟩);have hblk:∀{t cs},EH P M w env k' t cs->EH P (fun b=>M b\/o.has env k b) w env k' t (cs.map (EV.frz k o)):=fun {t cs} ⟨g,vs,ha,hh,hz,hd⟩=>by
     refine⟨g,vs,ha,hh,by simpa using hz,fun i hi=>?_⟩;simp only[Aih]at hi;refine⟨(hd i hi).1,?_⟩;have:EV.at (cs.map (EV.frz k o)) i=(EV.at cs i).frz k o:=by simp[EV.at,AS,hi]
     rw[this];exact Tu S hk hf hM hg (hd i hi).2
    cases o'' with
    |blk t cs=>exact hblk h1
    |oblk b t cs=>exact⟨fun e=>hblk (h1.1 e),h1.2⟩
    |_=>exact hmv
   ·intro k' o' h g hg';obtain⟨o'',ho,hne,rfl⟩:=hmem h;have hg':=hfr.1 hg';obtain⟨h1,h2,h3⟩:=S.oat _ _ ho g hg';refine⟨h1,fun hm=>?_,h3⟩;rcases hm with hm|hm
    ·exact h2 hm
    ·exact S.inj _ _ _ _ ho hk hne g hg' hm
   ·intro k1 o1 k2 o2 h1 h2 hne g hg1 hc;obtain⟨_,e1,_,rfl⟩:=hmem h1;obtain⟨_,e2,_,rfl⟩:=hmem h2;exact S.inj _ _ _ _ e1 e2 hne g (hfr.1 hg1) (hfr.1 hc)
   ·have : ((st.own.filter fun x => !(x.1 == k)).map fun x =>(x.1, Ah.frz k o x.2)).map (·.1)= (st.own.filter fun x => !(x.1 == k)).map (·.1):=by
     rw[List.map_map];rfl
    simp only[this];exact S.nod.sublist (List.Sublist.map _ List.filter_sublist)
   ·intro b hb;rcases hb with hb|hb
    ·exact S.mlt b hb
    ·exact(S.oat _ _ hk b hb).2.2
   ·intro s e h;obtain⟨⟨s',e'⟩,hm,he⟩:=Ah2.1 h;cases he;obtain⟨h1,h2,h3⟩:=S.tmp _ _ hm;exact⟨h1,fun ho=>Tu S hk hf hM hg (h2 ho),h3⟩
   ·intro s e h q c v hq;obtain⟨⟨s',e'⟩,hm,he⟩:=Ah2.1 h;cases he;exact S.grd _ _ hm q c v hq
   ·intro d hd;obtain⟨D,e,h1,h2,h3,h4⟩:=S.dfr d hd;refine⟨D,e,h1,h2,fun hm=>?_,fun k' o' h=>?_⟩
    ·rcases hm with hm|hm
     ·exact h3 hm
     ·exact h4 _ _ hk hm
    ·obtain⟨_,e1,_,rfl⟩:=hmem h;exact fun hc=>h4 _ _ e1 (hfr.1 hc)
  ·exact⟨M,S⟩
 ·exact⟨M,S⟩
theorem AO.frzs {st:St} {a:Act} {w:World} (h:AO P G st a w):∀ks,AO P G (st.frzs ks) a w:=fun ks=>by
 induction ks generalizing st with
 |nil=>exact h
 |cons k ks ih =>
   obtain⟨env,M,X,S⟩:=h;obtain⟨M',S'⟩:=S.frz k;exact ih ⟨_,_,_,S'⟩
theorem qZ (S:Al P G st a w env M X) (e:EV):∃M',Al P G (Ly st e) a w env M' X:=by
 cases e with
 |row r=>exact S.frz r
 |_=>exact⟨M,S⟩
end
def Ar.rek (env:Ar) (a b:Nat):Ar:={ at_:=fun k=>if k=b then env.at_ a else env.at_ k,rv:=fun k=>if k=b then env.rv a else env.rv k,yl:=env.yl }
theorem Nm {env:Ar} {a b k:Nat} (h:k≠b):((env.rek a b).via (F5 a b)).at_ k=env.at_ k/\((env.rek a b).via (F5 a b)).rv k=env.rv k:=by
 show(if F5 a b k=b then env.at_ a else env.at_ (F5 a b k))=env.at_ k/\(if F5 a b k=b then env.rv a else env.rv (F5 a b k))=env.rv k;unfold F5;grind
section
variable {M:Nat->Prop} {w:World} {G:Bw} {st:St} {a:Act} {env:Ar} {X:Nat->Prop}
theorem Al.rekey (S:Al P G st a w env M X) (p q:Nat):∃env',Al P G (st.rekey p q) a w env' M X:=by
 unfold St.rekey;split;rotate_left
 ·exact⟨env,S⟩
 rename_i hf;unfold JZ at hf;simp only[pR,decide_eq_true_eq]at hf;obtain⟨⟨hn,hT⟩,hq⟩:=hf;have hT:∀x,x∈st.T->x.2.v.names q=false:=fun x hx=>by simpa using AhC.1 hT x hx
 have den:∀{e:EV} {v:Value},e.names q=false->Ap P M w env e v->Ap P M w (env.rek p q) (e.ren (F5 p q)) v:=fun {e v} hne h =>
  Ng (h.mono (Be.refl M w) (fun k hk=>Nm (fun e'=>by rw[e',hne]at hk;cases hk)) rfl)
 have okey:∀{k o},(k,o)∈st.own->k≠q/\o.names q=false:=fun {k o} h=>Hq hn h;have hrk:∀{k:Nat} {o:Ah} {g:Nat},k≠q->(o.ren (F5 p q)).has (env.rek p q) (F5 p q k) g->o.has env k g:=fun {k o g} hk hg=>by
  rcases hg with hg|hg
  ·have hg:((env.rek p q).via (F5 p q)).at_ k=some g:=hg;rw[(Nm hk).1]at hg;exact .inl hg
  ·exact .inr (Ah.ren_sub.1 hg)
 refine⟨env.rek p q,⟨⟨S.gam.1,fun j hj=>?_⟩,S.mx,fun k o h=>?_,fun k o h g hg=>?_,fun k1 o1 k2 o2 h1 h2 hne g hg=>?_,?_,S.mlt,S.xlt,S.siz,fun s e h=>?_,fun s e h=>?_,fun d hd=>?_,S.dno⟩⟩
 ·obtain⟨h1,h2,h3⟩:=S.gam.2 j hj;have:j≠q:=by omega
  refine⟨h1,?_,?_⟩
  ·show(if j=q then env.at_ p else env.at_ j)=_;rw[if_neg this];exact h2
  ·show(if j=q then env.rv p else env.rv j)=_;rw[if_neg this];exact h3
 ·obtain⟨k',o',h',rfl,rfl⟩:=Gh h;obtain⟨hk,ho⟩:=okey h';refine Kg ?_;have h1:=S.own k' o' h';obtain⟨p1,p2⟩:=Nm (env:=env) (a:=p) hk;exact h1.move (Be.refl M w) p1 p2 (fun _ _=>rfl) (fun j hj=>Nm (fun e=>by rw[e,ho]at hj;cases hj))
 ·obtain⟨k',o',h',rfl,rfl⟩:=Gh h;exact S.oat k' o' h' g (hrk (okey h').1 hg)
 ·obtain⟨k1',o1',h1',rfl,rfl⟩:=Gh h1;obtain⟨k2',o2',h2',rfl,rfl⟩:=Gh h2;exact fun hc=>S.inj k1' o1' k2' o2' h1' h2' (fun e=>hne (by rw[e])) g (hrk (okey h1').1 hg) (hrk (okey h2').1 hc)
 ·show(Bq (Cy (F5 p q) st.own)).Nodup;rw[Iu];refine Air.2 ((Air.1 S.nod |> fun h=>Air.2 h).imp_of_mem ?_);intro x y hx hy hne e;obtain⟨⟨k1,o1⟩,m1,rfl⟩:=Ah2.1 hx;obtain⟨⟨k2,o2⟩,m2,rfl⟩:=Ah2.1 hy;have q1:=(okey m1).1;have q2:=(okey m2).1;simp only at hne e q1 q2;unfold F5 at e;split at e<;>split at e<;>omega
 ·obtain⟨x,hx,he⟩:=Ah2.1 h;obtain⟨s',e'⟩:=x;simp only[Prod.mk.injEq]at he;obtain⟨rfl,rfl⟩:=he;obtain⟨h1,h2,h3⟩:=S.tmp s' e' hx;exact⟨h1,fun ho=>den (hT _ hx) (h2 ho),h3⟩
 ·obtain⟨x,hx,he⟩:=Ah2.1 h;obtain⟨s',e'⟩:=x;simp only[Prod.mk.injEq]at he;obtain⟨rfl,rfl⟩:=he;exact S.grd s' e' hx
 ·obtain⟨D,e,h1,h2,h3,h4⟩:=S.dfr d hd;refine⟨D,e,h1,h2,h3,fun k o h hc=>?_⟩;obtain⟨k',o',h',rfl,rfl⟩:=Gh h;exact h4 k' o' h' (hrk (okey h').1 hc)
theorem AO.rekeys {st:St} {a:Act} {w:World} (h:AO P G st a w):∀l,AO P G (st.rekeys l) a w:=fun l=>by
 induction l generalizing st with
 |nil=>exact h
 |cons x l ih =>
   obtain⟨env,M,X,S⟩:=h;obtain⟨env',S'⟩:=S.rekey x.1 x.2;exact ih ⟨_,_,_,S'⟩
end
end
section
variable {P:Program} {M:Nat->Prop} {w:World} {G:Bw} {st:St} {a:Act} {env:Ar} {X:Nat->Prop}
theorem GP {k:Nat} {o:Ah}:∀{l:List (Nat×Ah)},(l.map (·.1)).Nodup->(k,o)∈l->BL l k=some o
 |[],_,h=>by cases h
 |(k',o')::l,hn,h=>by
   simp only[AiJ,Aiv]at hn;simp only[BL];rcases Ah4.1 h with h|h
   ·cases h;simp
   ·have:k'≠k:=(by grind);rw[if_neg (by simpa using this)];exact GP hn.2 h
theorem P4 {l:List (Nat×Ah)} {k:Nat} {o o0:Ah} (h:(k,o0)∈l):(k,o)∈Cl l k o:=Ah2.2 ⟨(k,o0),h,by simp⟩
theorem LL:∀{cs:List EV} {b:Nat} {hs:List SV},Gx cs=some (b,hs)->cs=hs.map .p ++ [.mapv b]
 |[.mapv b'],b,hs,h=>by simp[Gx]at h;grind
 | .p s::l,b,hs,h=>by
   simp only[Gx,Option.map_eq_some_iff]at h;obtain⟨⟨b',hs'⟩,h1,h2⟩:=h;simp only[Prod.mk.injEq]at h2;obtain⟨rfl,rfl⟩:=h2;rw[LL h1];rfl
 |[],_,_,h=>by simp[Gx]at h
 | .mapv _::_::_,_,_,h=>by simp[Gx]at h
 | .loc _ _::_,_,_,h | .row _::_,_,_,h | .rsub .. :: _,_,_,h | .rptr .. :: _,_,_,h | .rpre .. :: _,_,_,h | .fptr .. :: _,_,_,h | .cl .. :: _,_,_,h | .ag .. :: _,_,_,h | .fn _::_,_,_,h | .yield _::_,_,_,h | .any::_,_,_,h | .full .. :: _,_,_,h=>by simp[Gx]at h
theorem Tv:∀{ps:List Prop},Po ps->all ps
 |[],_=>Lh
 |[p],h=>fun q hq=>by rw[Ah9.1 hq];exact h
 |p::q::ps,h=>fun r hr=>by
   rcases Ah4.1 hr with rfl|hr
   ·exact h.1
   ·exact Tv h.2 r hr
theorem Tw:∀{l m:List SV},all (L1 l m)->l.length=m.length/\∀i,i<m.length->∀{M:Nat->Prop} {w:World} {v:Value},Ax M w (SV.at l i) v->Ax M w (SV.at m i) v
 |[],[],_=>(by grind)
 |s::l,t::m,h=>by
   simp only[L1]at h;obtain⟨h1,h2⟩:=all_append h;obtain⟨h3,h4⟩:=Tw h2;refine⟨by simp[h3],fun i hi=>?_⟩;cases i with
   |zero=>exact fun hd=>LH h1 hd
   |succ i=>exact h4 i (by grind)
 |[],_::_,h=>(AC h).elim
 |_::_,[],h=>(AC h).elim
theorem P5 {own:List (Nat×Ah)}:∀{bs:List Nat} {fs:List F6},Jj own bs=some fs->bs.length=2*fs.length/\∀j f,fs[j]? = some f->bs.getD (2*j) 0=f.a/\bs.getD (2*j+1) 0=f.b/\(f.a,Ah.oblk f.x f.t f.cs)∈own/\(f.b,Ah.omq f.y f.kt f.vt f.val)∈own
 |[],fs,h=>by simp[Jj]at h;grind
 |[_],_,h=>by simp[Jj]at h
 |p::q::l,fs,h=>by
   simp only[Jj]at h;split at h
   ·rename_i x t cs y kt vt val fs' h1 h2 h3;cases h;obtain⟨e1,e2⟩:=P5 h3;grind [Bp]
   ·cases h
theorem P6 {M M':Nat->Prop} {w w':World} {env env':Ar} {k k' b b':Nat} {t:TypeId} {hs hs':List SV} (h:EH P M w env k t (hs.map .p ++ [.mapv b])) (hl:Be M M' w w') (hk:env'.at_ k'=env.at_ k) (hb:env'.at_ b'=env.at_ b)
  (hh:∀g,env.at_ k=some g->w'.heap[g]? = w.heap[g]?) (hs1:hs.length=hs'.length) (hs2:∀i,i<hs'.length->∀{v:Value},Ax M w (SV.at hs i) v->Ax M w (SV.at hs' i) v):EH P M' w' env' k' t (hs'.map .p ++ [.mapv b']):=by
 obtain⟨g,vs,h1,h2,h3,h4⟩:=h;simp only[AhU,Aih,List.length_singleton]at h3 h4;refine⟨g,vs,hk.trans h1,(hh g h1).trans h2,by simp;omega,fun i hi=>?_⟩;simp only[AhU,Aih,List.length_singleton]at hi;obtain⟨e1,e2⟩:=h4 i (by omega);refine⟨e1,?_⟩
 by_cases hlt:i<hs'.length
 ·have q1:EV.at (hs.map .p ++ [.mapv b]) i=.p (SV.at hs i):=by simp[EV.at,SV.at,AS,AhP,show i<hs.length by omega]
  have q2:EV.at (hs'.map .p ++ [.mapv b']) i=.p (SV.at hs' i):=by simp[EV.at,SV.at,AS,AhP,hlt]
  rw[q1]at e2;rw[q2];rcases e2 with ⟨e2⟩;exact .p ((hs2 i hlt e2).later hl)
 ·have q1 : EV.at (hs.map .p ++ [.mapv b]) i = .mapv b :=by
   simp only[EV.at,AS];grind
  have q2:EV.at (hs'.map .p ++ [.mapv b']) i=.mapv b':=by
   simp only[EV.at,AS];grind
  rw[q1]at e2;rw[q2];generalize vs.getD i undef=v at e2;cases e2 with
  |mapv e2=>exact .mapv (hb.trans e2)
theorem P7 {M M':Nat->Prop} {w w':World} {env env':Ar} {k k':Nat} {dom:Int->Bool} {val val':Int->SV} (h:Gr M w env k dom val) (hl:Be M M' w w') (hk:env'.at_ k'=env.at_ k)
  (hh:∀g,env.at_ k=some g->w'.heap[g]? = w.heap[g]?) (hv:∀x,dom x=true->val x=val' x):Gr M' w' env' k' dom val':=by
 obtain⟨g,es,clock,h1,h2,h3,h4⟩:=h;exact⟨g,es,clock,hk.trans h1,(hh g h1).trans h2,h3,fun i hi=>by
  obtain⟨key,q1,q2,q3⟩:=h4 i hi;exact⟨key,q1,q2,by rw[<- hv key q2];exact q3.later hl⟩⟩
theorem Tx {c:FM} {t:c.T} {i:Nat}:∀{fs:List F6} {j:Nat},all (MV c t i j fs)->∀k f,fs[k]? = some f->∃hs,Gx f.cs=some (f.b,hs)/\f.t=c.t/\f.kt=c.kt/\f.vt=c.vt/\(i=j+k->f.x=true/\f.y=true/\hs=c.head t/\∀x,f.val x=c.val t x)
 |[],_,_,_,_,h=>by simp at h
 |f0::l,j,h,k,f,hk=>by
   simp only[MV]at h;obtain⟨h1,h2⟩:=all_append h;cases k with
   |zero =>
     simp at hk;subst hk;split at h1
     ·rename_i b' hs hlm;split at h1
      ·rename_i hc;simp only[pR,beq_iff_eq]at hc;grind [AC]
      grind [AC]
     grind [AC]
   |succ k =>
     obtain⟨hs,e1,e2,e3,e4,e5⟩:=Tx h2 k f (by grind);grind
theorem rA (hG:Br G) (S:Al P G st a w env M X) {gd:gdT} (hgd:EL a gd) (hh:CB gd) {dst:Option Nat} (hd:∀t,dst=some t->t<st.nt) (hq:∀q c x,gd=some (q,c,x)->dst≠some q)
  {bs:List Nat} {i:Nat} {as:List EV} {c:FM} {g:Nat} (hT:Jl P g c) {K:St->Prop} (h:L2 st gd dst bs i as c K) {v0:Value} (hv0:Ap P M w env (.fptr bs i) v0) {vals:List Value} (hl:vals.length=as.length) (hv:∀j,j<as.length->Ap P M w env (EV.at as j) (vals.getD j undef))
  {N:Act->World->Prop} (hN:∀st' a' w',K st'->AO P G st' a' w'->N a' w'):CallsIn Fence.wide 0 P g (v0::vals).toArray w (fun e w'=>∃v,e=.returned v/\N (a.put dst v) w'):=by
 unfold L2 at h;split at h;rotate_left
 ·exact h.elim
 rename_i fs hfs;obtain⟨t,h⟩:=h;obtain⟨h1,hK⟩:=BD h;obtain⟨h1,hpre⟩:=all_append (Ge h1 hh);obtain⟨h1,hA⟩:=all_append h1;obtain⟨h1,hF⟩:=all_append h1;have hi:i<fs.length:=AC h1;have hpre:c.pre t:=AC hpre;obtain⟨e1,e2⟩:=P5 hfs;obtain⟨f,hf⟩:∃f,fs[i]? = some f:=⟨fs[i],Ahz hi⟩;obtain⟨ba,bb,ma,mb⟩:=e2 i f hf;obtain⟨hs,hlm,ht,hkt,hvt,hcc⟩:=Tx hF i f hf;obtain⟨hx,hy,hhs,hval⟩:=hcc (by omega);have oa:=S.own _ _ ma;have ob:=S.own _ _ mb;rw[hx]at oa;rw[hy]at ob;have oa:=oa.1 rfl;obtain⟨dom,ob⟩:=ob.1 rfl;have hcs:=LL hlm;rw[hcs]at oa;have oa0:=oa;have ob0:=ob;obtain⟨ga,va,ha1,ha2,_⟩:=oa0;obtain⟨gb,es,clock,hb1,hb2,_⟩:=ob0;have hab:f.a≠f.b:=fun e=>by
  have h3:=GP S.nod ma;have h4:=GP S.nod mb;rw[e,h4]at h3;cases h3
 have hne:ga≠gb:=fun e=>S.inj _ _ _ _ ma mb hab ga (.inl ha1) (.inl (e ▸ hb1));obtain⟨xa,na,la⟩:=S.oat _ _ ma ga (.inl ha1);obtain⟨xb,nb,lb⟩:=S.oat _ _ mb gb (.inl hb1);let envF:Ar:={ at_:=fun k=>if k=0 then some ga else some gb,rv:=fun _=>undef,yl:=0 };have hlat:Be M M w w:=Be.refl M w;have bF:EH P M w envF 0 c.t ((c.head t).map .p ++ [.mapv 1]):=by
  rw[<- ht,<- hhs];exact P6 oa hlat (by simp[envF,ha1]) (by simp[envF,hb1]) (fun _ _=>rfl) rfl (fun i _ _ hd=>hd)
 have mF:Gr M w envF 1 dom (c.val t):=P7 ob hlat (by simp[envF,hb1]) (fun _ _=>rfl) (fun x _=>hval x);cases hv0 with
 |fptr hi2 hv0 =>
 rw[ba,ha1]at hv0;subst hv0;obtain⟨l1,l2⟩:=Jm hA;have hdl:By M w (c.args t) vals:=by
  refine⟨by rw[hl,l1];simp,fun j hj=>?_⟩;have:=Hs (l2 j (by simpa using hj)) (hv j (by rw[l1];simpa using hj));rw[Gv _ _ hj]at this;rcases this with ⟨this⟩;exact this
 refine Gg (hT t hpre M w envF ga gb vals S.mlt (by simp[envF]) (by simp[envF]) hne na nb lb bF ⟨dom,mF⟩ hdl) ?_;rintro e w' ⟨v,M',rfl,hs',hM,hM',hMl,bF',⟨dom',mF'⟩,hr⟩;refine⟨v,rfl,hN _ _ _ hK ?_⟩;have hlat':Be M' M' w' w':=Be.refl M' w';have S' :=S.lentX hG (hso :=fun k o h =>by
  simp only[Ah4,Ait,or_false,Prod.mk.injEq]at h;rcases h with ⟨rfl,rfl⟩|⟨rfl,rfl⟩<;>exact fun _ h=>h) (L:=[(f.a,.oblk f.x f.t f.cs),(f.b,.omq f.y f.kt f.vt f.val)]) (L':=[(f.a,.oblk f.x f.t f.cs),(f.b,.omq f.y f.kt f.vt f.val)]) (w':=w') (M':=M') (fun k o h=>by
  simp only[Ah4,Ait,or_false,Prod.mk.injEq]at h;rcases h with ⟨rfl,rfl⟩|⟨rfl,rfl⟩
  ·exact⟨_,ma⟩
  ·exact⟨_,mb⟩) rfl ⟨hs'.os,hs'.tape,hs'.output,hs'.drawn,hs'.size,fun b hb hn=>hs'.block b hb (fun e=>hn (by
  rcases e with rfl|rfl
  ·exact⟨_,_,AhF ..,ha1⟩
  ·exact⟨_,_,AhL _ (AhF ..),hb1⟩))⟩ hM hM' hMl (fun k o h=>by
  simp only[Ah4,Ait,or_false,Prod.mk.injEq]at h;rcases h with ⟨rfl,rfl⟩|⟨rfl,rfl⟩
  ·rw[hx];refine⟨fun _=>?_,fun e=>by cases e⟩;rw[hcs,ht];rw[hhs];exact P6 bF' hlat' (by simp[envF,ha1]) (by simp[envF,hb1]) (fun _ _=>rfl) rfl (fun i _ _ hd=>hd)
  ·rw[hy];exact⟨fun _=>⟨dom',P7 mF' hlat' (by simp[envF,hb1]) (fun _ _=>rfl) (fun x _=>(hval x).symm)⟩,fun e=>by cases e⟩)
 have hown:EK st.own [(f.a,.oblk f.x f.t f.cs),(f.b,.omq f.y f.kt f.vt f.val)]=st.own:=by
  have up:∀{k:Nat} {o:Ah},(k,o)∈st.own->Cl st.own k o=st.own:=fun {k o} hm=>by
   unfold Cl
   conv=>rhs;rw[<- List.map_id st.own]
   apply Ai2;rintro⟨k',o'⟩ hm'
   by_cases e:k'=k
   ·subst e;have h3:=GP S.nod hm;rw[GP S.nod hm']at h3;cases h3;simp
   ·simp[e]
  show Cl (Cl st.own f.a _) f.b _=st.own;rw[up ma,up mb]
 rw[hown]at S';exact⟨_,_,_,S'.putG hgd hd hq (fun _=>.p hr) (fun hn=>absurd hh hn)⟩
theorem rB (S:Al P G st a w env M X) {gd:gdT} (hgd:EL a gd) (hh:¬ CB gd) {dst:Option Nat} (hd:∀t,dst=some t->t<st.nt) (hq:∀q c x,gd=some (q,c,x)->dst≠some q)
  {bs:List Nat} {i:Nat} {as:List EV} {c:FM} {K:St->Prop} (h:L2 st gd dst bs i as c K):∃st',K st'/\AO P G st' (a.put dst undef) w:=by
 unfold L2 at h;split at h
 ·obtain⟨t,h⟩:=h;exact⟨_,(BD h).2,_,_,_,S.putG hgd hd hq (fun h=>absurd h hh) (fun _=>rfl)⟩
 grind
theorem P8 {F:JW}:∀{bs:List Nat} {j:Nat} {k:Nat} {o:Ah},(k,o)∈Ho F j bs->k∈bs/\∀q,o.names q=true->q∈bs
 |[],_,_,_,h=>by simp[Ho]at h
 |[_],_,_,_,h=>by simp[Ho]at h
 |p::q::l,j,k,o,h=>by
   simp only[Ho,Ah4,Prod.mk.injEq]at h;rcases h with ⟨rfl,rfl⟩|⟨rfl,rfl⟩|h
   ·refine⟨AhF ..,fun x hx=>?_⟩;have nl:∀(hs:List SV),EV.names.namesL x (hs.map .p ++ [.mapv q])=(q == x):=fun hs=>by
     induction hs with
     |nil=>simp[EV.names.namesL,EV.names]
     |cons s l ih=>simpa[EV.names.namesL,EV.names]using ih
    have hx:EV.names.namesL x ((F.head j).map .p ++ [.mapv q])=true:=hx;grind
   ·exact⟨(by grind),fun x hx=>by cases hx⟩
   ·obtain⟨h1,h2⟩:=P8 h;grind
theorem P9 {l:List (Nat×Ah)} {k:Nat} (h:st.noName k=true) (hl:∀k' o,(k',o)∈l->k'≠k/\o.names k=false):({ st with own:=l++st.own }:St).noName k=true:=by
 unfold St.noName;rw[List.all_append,pR];refine⟨AhC.2 fun x hx=>?_,h⟩;grind
theorem Tz (hG:Br G) {F:JW}:∀(bs:List Nat) (j:Nat) {env:Ar} {X:Nat->Prop},Al P G st a w env M X->bs.Nodup->(∀k,k∈bs->k<st.nt/\st.noName k=true/\∀s e,(s,e)∈st.T->e.v.names k=false) ->
  ∃env' X',Al P G { st with own:=Ho F j bs++st.own } a w env' M X'/\(∀k,k ∉ bs->env'.at_ k=env.at_ k/\env'.rv k=env.rv k)/\∀i,2*i+1<bs.length->env'.at_ (bs.getD (2*i) 0)=none
 |[],j,env,X,S,_,_=>⟨env,X,S,(by grind),(by grind)⟩
 |[p],j,env,X,S,_,_=>⟨env,X,S,(by grind),(by grind)⟩
 |p::q::l,j,env,X,S,hnd,hk=>by
   rw[Aiv,Aiv]at hnd;obtain⟨hp,hq,hnd⟩:=hnd;obtain⟨e1,X1,S1,k1,k2⟩:=Tz hG l (j+1) S hnd (by grind);have hpq:p≠q:=(by grind);have hpl:p ∉ l:=(by grind);obtain⟨a1,a2,a3⟩:=hk q (AhL _ (AhF ..));obtain⟨b1,b2,b3⟩:=hk p (AhF ..);have nn:∀{k},k ∉ l->∀k' o,(k',o)∈Ho F (j+1) l->k'≠k/\o.names k=false:=fun {k} hkl k' o hm=>by
    obtain⟨h1,h2⟩:=P8 hm;grind
   have hsame:Same (fun _=>False) w w:=⟨rfl,rfl,rfl,Ah0 _,Ah0 _,fun _ _ _=>rfl⟩;let e2:Ar:={ e1 with at_:=fun k=>if k=q then none else e1.at_ k };obtain⟨X2,S2⟩:=S1.newOwn hG (k:=q) a1 (P9 a2 (nn hq)) a3 hsame (env':=e2) (by grind) rfl (by grind) (M':=M) (fun _ h=>h) (fun _ h=>.inl h) S.mlt (o:=.omq false F.kt F.vt (F.val j)) ⟨fun e=>(by cases e),fun _=>(by simp[e2])⟩;let e3:Ar:={ e2 with at_:=fun k=>if k=p then none else e2.at_ k };have np:({ st with own:=(q,Ah.omq false F.kt F.vt (F.val j))::(Ho F (j+1) l++st.own) }:St).noName p=true:=by
    have:=P9 b2 (nn hpl);unfold St.noName at this ⊢;rw[List.all_cons,this];simp[Ah.names,Ne.symm hpq]
   obtain⟨X3,S3⟩:=S2.newOwn hG (k:=p) b1 np b3 hsame (env':=e3) (by grind) rfl (by grind) (M':=M) (fun _ h=>h) (fun _ h=>.inl h) S.mlt (o:=.oblk false F.t ((F.head j).map .p ++ [.mapv q])) ⟨fun e=>(by cases e),fun _=>(by simp[e3])⟩;refine⟨e3,X3,S3,fun k hm=>?_,fun i hi=>?_⟩
   ·grind
   ·cases i with
    |zero=>simp[e3]
    |succ i =>
      have e:(p::q::l).getD (2*(i+1)) 0=l.getD (2*i) 0:=by grind
      grind
theorem T0 {z:Array Value} {sz n k:Nat} (hz:z.size=sz) (hsz:0<sz) (hk:k<n):(madeCells z n).getD k undef=z.getD (k % sz) undef:=by
 have hmod:k % sz<z.size:=by rw[hz];exact AiX _ hsz
 simp only[madeCells,LS];grind
theorem rC (hG:Br G) (S:Al P G st a w env M X) {C:Aj} {d:Nat} (hd:d<st.nt) {t:TypeId} {l c:Operand} {K:St->Prop} (h:Pq P C st d t l c K) :
  ∃v w',(Instr.makeSlice t (a.eval l) (a.eval c)).run P w=.ok v w'/\∃st',K st'/\AO P G st' (a.put (some d) v) w':=by
 have hgd:EL a none:=fun q c x h=>by cases h
 unfold Pq at h;split at h
 ·rename_i e k1 n k2 m hu hl hc;split at h
  ·rename_i y hy;split at h
   ·rename_i hcd;obtain⟨hsz,hzs,hb,hone,hn⟩:=hcd;obtain⟨i,hi,hz,hs,hby,_⟩:=CV hy;have el:=Bc S hgd trivial hl;have ec:=Bc S hgd trivial hc;rcases el with ⟨el⟩;rcases ec with ⟨ec⟩;generalize hel:a.eval l=vl at el;generalize hec:a.eval c=vc at ec;cases el;cases ec;have hrun:0<=n->n<=m->m*(y.bytes:Int)<=140737488355328->(Instr.makeSlice t (.int k1 n) (.int k2 m)).run P w=.ok (.slice (some ⟨w.heap.size,0,none⟩) n.toNat m.toNat) (w.alloc (.cells (madeCells y.zero.cells (m.toNat*y.size)) e))/\m.toNat<=maxLen:=fun p1 p2 p3=>by
     have hmb:m<=140737488355328:=by
      have:m*1<=m*(y.bytes:Int):=Int.mul_le_mul_of_nonneg_left (by omega) (by omega);omega
     have hrun:=run_make (P:=P) w t e i y.zero hu hi hz k1 k2 n m p1 p2 (by grind) (by omega);rw[hs]at hrun;exact⟨hrun,by unfold maxLen;omega⟩
    split at h
    ·obtain⟨h1,h2⟩:=BD h;obtain⟨p1,p2,p3⟩:=AC h1;obtain⟨r1,r2⟩:=hrun p1 p2 p3;obtain⟨env',X',S',hrv⟩:=MZ hG S hd hn (e:=e) (cur:=madeCells y.zero.cells (m.toNat*y.size)) (n:=m.toNat) (cap:=m.toNat) (sz:=y.size) (get:=fun _=>y.zero.cells.toList.map Cx) (size_madeCells _ _) (Ah0 _) r2 (by grind) (fun i hi j hj=>by
      have:=C6 (sz:=y.size) (len:=m.toNat) (i:=i) hi hj;rw[T0 hzs hsz this];have hmod:(i*y.size+j) % y.size=j:=by rw[Ai7,Nat.mul_add_mod,Nat.mod_eq_of_lt hj]
      rw[hmod];have hj':j<y.zero.cells.size:=by omega
      have hd':=(Gw (M:=M) (w:=w) y.zero.cells.toList).2 j (by grind);rw[LS,Ah1 hj'];grind)
     exact⟨_,_,r1,_,h2,_,_,_,S'.put0 (by intro t' ht;cases ht;exact hd) (.rpre hrv (by omega))⟩
    ·rename_i F hF;split at h;rotate_left
     ·exact h.elim
     rename_i hzp;split at h;rotate_left
     ·exact h.elim
     rename_i hfr;simp only[pR,Aib,AhC]at hfr;obtain⟨⟨f1,f2⟩,f3⟩:=hfr;obtain⟨h1,h2⟩:=BD h;obtain⟨p1,p2,p3⟩:=h1 _ (AhF ..);have p4:=h1 _ (AhL _ (AhF ..));obtain⟨r1,r2⟩:=hrun p1 p2 p3;have hsz1:y.size=1:=by
      have:=congrArg List.length hzp;grind
     have hdn:d ∉ F.bs:=by
      grind
     have hfree:∀k,k∈F.bs->k<(st.forget d).nt/\(st.forget d).noName k=true/\∀s e,(s,e)∈(st.forget d).T->e.v.names k=false:=fun k hm=>by
      have:=f3 k hm;unfold JZ at this;grind
     obtain⟨e1,X1,S1,k1',k2'⟩:=Tz hG F.bs 0 (F:=F) (S.forget d) (F8 f1) hfree;have hnd:({ st.forget d with own:=Ho F 0 F.bs++(st.forget d).own }:St).noName d=true:=P9 hn (fun k' o hm=>by
      obtain⟨q1,q2⟩:=P8 hm;grind)
     have hsm:=Iq w (.cells (madeCells y.zero.cells (m.toNat*y.size)) e);let e2:=e1.set d w.heap.size (.slice (some ⟨w.heap.size,0,none⟩) n.toNat m.toNat);have hne:∀j,j≠d->e2.at_ j=e1.at_ j/\e2.rv j=e1.rv j:=Ar.set_other e1 d _ _;obtain⟨X',S'⟩:=S1.newOwn hG (k:=d) hd hnd (fun s e h=>Ir h) hsm (env':=e2) hne rfl (fun g hg=>by rw[Ar.set_at]at hg;cases hg;simp) (M':=M) (fun b h=>h) (fun b h=>.inl h) (fun b h=>by have:=S.mlt b h;simp;omega)
      (o:=.prow e n.toNat F.bs) ⟨by omega,p4,w.heap.size,m.toNat,_,Ar.set_at _ _ _ _,Ar.set_rv _ _ _ _,AhS,by omega,r2,by rw[size_madeCells,hsz1,Nat.mul_one],fun i hi=>by
       have hm:=Lf (bs:=F.bs) (j:=2*i) (by omega);rw[(hne _ (fun e=>hdn (e ▸ hm))).1,k2' i (by omega),T0 hzs hsz (by grind),hsz1,Nat.mod_one,LS];have:y.zero.cells = #[.pointer none]:=by grind
       grind⟩
     exact⟨_,_,r1,_,h2,_,_,_,S'.put0 (by intro t' ht;cases ht;exact hd) (.row (Ar.set_rv _ _ _ _))⟩
   grind
  grind
 grind
theorem Al.reowned (S:Al P G st a w env M X) {T':List (Nat×AK)} {own':List (Nat×Ah)} {env':Ar} (φ:Nat->Nat) (hT:∀x,x∈T'->x∈st.T/\∀k,x.2.v.names k=true->env'.at_ k=env.at_ k/\env'.rv k=env.rv k)
  (hnod:(own'.map (·.1)).Nodup) (hφ:∀k o,(k,o)∈own'->(∃o0,(φ k,o0)∈st.own)/\env'.at_ k=env.at_ (φ k)) (hsub:∀k o,(k,o)∈own'->(∀g,¬ o.sub g)\/(φ k,o)∈st.own) (hinj:∀k1 o1 k2 o2,(k1,o1)∈own'->(k2,o2)∈own'->k1≠k2->φ k1≠φ k2)
  (hown:∀k o,(k,o)∈own'->B8 P M w env' k o) (hpin:Ih G env' st.nt):Al P G { st with T:=T',own:=own' } a w env' M X:=by
 have old:∀{k o},(k,o)∈own'->∃o0,(φ k,o0)∈st.own/\∀g,o.has env' k g->o0.has env (φ k) g:=fun {k o} h=>by
  obtain⟨⟨o0,q1⟩,q2⟩:=hφ k o h;rcases hsub k o h with h2|h2
  ·exact⟨o0,q1,fun g hg=>.inl (hg.elim (fun h=>q2 ▸ h) (fun h=>(h2 g h).elim))⟩
  ·exact⟨o,h2,fun g hg=>hg.imp (fun h=>q2 ▸ h) id⟩
 refine⟨⟨S.gam.1,hpin⟩,S.mx,hown,fun k o h g hg=>?_,fun k1 o1 k2 o2 h1 h2 hne g hg1=>?_,hnod,S.mlt,S.xlt,S.siz,fun s e h=>?_,fun s e h=>S.grd s e (hT _ h).1,fun d hd=>?_,S.dno⟩
 ·obtain⟨o0,q1,q2⟩:=old h;exact S.oat _ _ q1 g (q2 g hg)
 ·obtain⟨p0,q1,q2⟩:=old h1;obtain⟨p1,q3,q4⟩:=old h2;exact fun hc=>S.inj _ _ _ _ q1 q3 (hinj _ _ _ _ h1 h2 hne) g (q2 g hg1) (q4 g hc)
 ·obtain⟨q1,q2⟩:=hT _ h;obtain⟨h1,h2,h3⟩:=S.tmp s e q1;exact⟨h1,fun ho=>(h2 ho).go (Be.refl M w) q2,h3⟩
 ·obtain⟨D,e,h1,h2,h3,h4⟩:=S.dfr d hd;refine⟨D,e,h1,h2,h3,fun k o h=>?_⟩;obtain⟨o0,q1,q2⟩:=old h;exact fun hc=>h4 _ _ q1 (q2 D hc)
theorem T1 (i:Nat):∀(fs:List F6) (j:Nat) (own:List (Nat×Ah)),(Ip i j fs own).map (·.1)=own.map (·.1)
 |[],_,_=>rfl
 |f::l,j,own=>by simp only[Ip];rw[T1 i l,Jk,Jk]
theorem T2 {i:Nat}:∀(fs:List F6) (j:Nat) (own:List (Nat×Ah)) {k:Nat} {o:Ah},(k,o)∈Ip i j fs own ->
  (∃(q:Nat) (f:F6),fs[q]? = some f/\((k=f.a/\o=.oblk (f.x||decide (i=j+q)) f.t f.cs)\/(k=f.b/\o=.omq (f.y||decide (i=j+q)) f.kt f.vt f.val)))\/((k,o)∈own/\∀(q:Nat) (f:F6),fs[q]? = some f->k≠f.a/\k≠f.b)
 |[],_,_,_,_,h=>.inr ⟨h,(by grind)⟩
 |f0::l,j,own,k,o,h=>by
   simp only[Ip]at h;rcases T2 l (j+1) _ h with ⟨q,f,h1,h2⟩|⟨h1,h2⟩
   ·refine .inl ⟨q+1,f,by grind,?_⟩;grind
   ·rcases EM h1 with ⟨e1,e2,_⟩|⟨hb,h1⟩
    ·exact .inl ⟨0,f0,rfl,.inr ⟨e1,e2⟩⟩
    ·rcases EM h1 with ⟨e1,e2,_⟩|⟨ha,h1⟩
     ·exact .inl ⟨0,f0,rfl,.inl ⟨e1,e2⟩⟩
     grind
theorem PA {i:Nat} {tA kt vt:TypeId} {hs:List SV} {dom:Int->Bool} {val:Int->SV}:∀{fs:List F6} {j:Nat},all (MW i tA kt vt hs dom val j fs)->∀k f,fs[k]? = some f ->
  ∃hs',Gx f.cs=some (f.b,hs')/\f.t=tA/\f.kt=kt/\f.vt=vt/\(i=j+k->f.x=false/\f.y=false/\(∀x,dom x=true->val x=f.val x)/\all (L1 hs hs'))
 |[],_,_,_,_,h=>by simp at h
 |f0::l,j,h,k,f,hk=>by
   simp only[MW]at h;obtain⟨h1,h2⟩:=all_append h;cases k with
   |zero =>
     simp at hk;subst hk;split at h1
     ·rename_i b' hs' hlm;split at h1
      ·rename_i hc;simp only[pR,beq_iff_eq]at hc;grind [AC,Tv]
      grind [AC]
     grind [AC]
   |succ k =>
     obtain⟨hs',e1,e2,e3,e4,e5⟩:=PA h2 k f (by grind);grind
theorem LM {bs:List Nat} (h:bs.Nodup) {i j:Nat} (hi:i<bs.length) (hj:j<bs.length) (e:bs.getD i 0=bs.getD j 0):i=j:=by
 grind [Aij,Ahz,AiE]
theorem T3 {x b:Nat}:∀(hs:List SV),EV.names.namesL x (hs.map .p ++ [.mapv b])=(b == x)
 |[]=>by simp[EV.names.namesL,EV.names]
 |s::l=>by simpa[EV.names.namesL,EV.names]using T3 l
theorem rD (hG:Br G) (S:Al P G st a w env M X) {t:TypeId} {r i A:Nat} {K:St->Prop} (h:Pp P st t r i A K) {vp vx:Value} (hp:Ap P M w env (.rptr r 1 i 0) vp) (hx:Ap P M w env (.loc A 0) vx) :
  ∃w',(Instr.storeAt t vp vx).run P w=.ok () w'/\∃st',K st'/\AO P G st' a w':=by
 unfold Pp at h;split at h;rotate_left
 ·exact h.elim
 rename_i e n bs tA csA hr hA;split at h;rotate_left
 ·exact h.elim
 rename_i fs B hs hfs hlm;split at h;rotate_left
 ·exact h.elim
 rename_i kt vt dom val y hB hy;split at h;rotate_left
 ·exact h.elim
 rename_i hc;obtain⟨⟨hys,hrA,hrB,hAB⟩,hc⟩:=hc;simp only[pR,Aib,AhC,Aie,beq_iff_eq,decide_eq_true_eq]at hc;obtain⟨⟨⟨⟨⟨⟨c1,c2⟩,c3⟩,c4⟩,c5⟩,c6⟩,c7⟩:=hc;have c1:=F8 c1;have nin:∀{k},bs.contains k=false->k ∉ bs:=fun {k} h hm=>by rw[<- AhA,h]at hm;cases hm
 have c3:=nin c3;have c4:=nin c4;have c5:=nin c5;obtain⟨h1,hK⟩:=BD h;obtain⟨h1,hC⟩:=all_append h1;have hin:i<n:=AC h1;obtain⟨e1,e2⟩:=P5 hfs;have mr:=Bp hr;have mA:=Bp hA;have mB:=Bp hB;obtain⟨hm0,hbs,g,cap,cur,hg,hrv,hh,hnc,hcm,hcs,hd⟩:=S.own _ _ mr;have hifs:i<fs.length:=by omega
 obtain⟨f,hf⟩:∃f,fs[i]? = some f:=⟨fs[i],Ahz hifs⟩;obtain⟨ba,bb,ma,mb⟩:=e2 i f hf;obtain⟨hs',hlm',ht,hkt,hvt,hcc⟩:=PA hC i f hf;obtain⟨hxf,hyf,hval,hfit⟩:=hcc (by omega);cases hp with
 |@rptr _ _ _ _ g' hg' =>
 rw[hg]at hg';cases hg';cases hx with
 |@loc _ _ gA hgA =>
 -- the write
 have hrun:=L8 (P:=P) (w:=w) hy (g:=g) (o:=i*1+0) hh (v:=.pointer (some ⟨gA,0,none⟩)) (by rw[hys];rfl) (by omega) (fun u hu=>by simp[Value.cells]at hu;subst hu;rfl);obtain⟨hsm,hss⟩:=It (w:=w) (g:=g) (cur.toList.take (i*1+0)++(Value.pointer (some ⟨gA,0,none⟩)).cells.toList++cur.toList.drop (i*1+0+(Value.pointer (some ⟨gA,0,none⟩)).cells.toList.length)).toArray;have hheap:=setRow_heap w g cur (cur.toList.take (i*1+0)++(Value.pointer (some ⟨gA,0,none⟩)).cells.toList++cur.toList.drop (i*1+0+(Value.pointer (some ⟨gA,0,none⟩)).cells.toList.length)).toArray e _ hh;have hcell:∀j,j<n->(cur.toList.take (i*1+0)++(Value.pointer (some ⟨gA,0,none⟩)).cells.toList++cur.toList.drop (i*1+0+(Value.pointer (some ⟨gA,0,none⟩)).cells.toList.length)).toArray.getD j undef=if j=i then Value.pointer (some ⟨gA,0,none⟩)else cur.getD j undef:=fun j hj=>by
  rw[Is cur (i*1+0) (Value.pointer (some ⟨gA,0,none⟩)).cells.toList (by simp[Value.cells];omega) j (by omega)];have e:(Value.pointer (some ⟨gA,0,none⟩)).cells.toList = [Value.pointer (some ⟨gA,0,none⟩)]:=rfl;rw[e]
  by_cases hji:j=i
  ·subst hji;rw[if_pos rfl,if_pos ⟨by omega,by simp⟩];simp
  ·rw[if_neg hji,if_neg (by simp;omega)]
 have hsz':(cur.toList.take (i*1+0)++(Value.pointer (some ⟨gA,0,none⟩)).cells.toList++cur.toList.drop (i*1+0+(Value.pointer (some ⟨gA,0,none⟩)).cells.toList.length)).toArray.size=cap:=by simp[Value.cells];omega
 generalize (cur.toList.take (i*1+0)++(Value.pointer (some ⟨gA,0,none⟩)).cells.toList++cur.toList.drop (i*1+0+(Value.pointer (some ⟨gA,0,none⟩)).cells.toList.length)).toArray=cur' at *;have S1:=S.write hG mr hg hsm hss (o:=.row e 1 n (fun j=>[.raw (cur'.getD j undef)])) ⟨hm0,fun _ _=>rfl,.inr ⟨g,cap,cur',hg,hrv,hheap,hnc,hcm,by omega,fun j hj k hk=>by
  obtain rfl:k=0:=by omega
  rw[show j*1+0=j by omega];refine⟨?_,.raw _⟩;rw[hcell j hj];split
  ·rfl
  ·rw[hd j hj];rfl⟩⟩
 generalize w.setRow g cur'=w' at *;let env':Ar:={ env with at_:=fun k=>if k=f.a then env.at_ A else if k=f.b then env.at_ B else env.at_ k };have hfb:∀(q:Nat) (fq:F6),fs[q]? = some fq->2*q+1<bs.length/\fq.a∈bs/\fq.b∈bs:=fun q fq hq=>by
  have hlt:q<fs.length:=(List.getElem?_eq_some_iff.1 hq).1;obtain⟨q1,q2,_⟩:=e2 q fq hq;exact⟨by omega,q1 ▸ Lf (by omega),q2 ▸ Lf (by omega)⟩
 have hab:f.a≠f.b:=fun e=>by
  have:=LM c1 (i:=2*i) (j:=2*i+1) (by omega) (by omega) (by rw[ba,bb,e]);omega
 have hdis:∀(q:Nat) (fq:F6),fs[q]? = some fq->q≠i->fq.a≠f.a/\fq.a≠f.b/\fq.b≠f.a/\fq.b≠f.b:=fun q fq hq hne=>by
  obtain⟨q1,q2,_⟩:=e2 q fq hq;obtain⟨q3,_⟩:=hfb q fq hq;refine⟨fun e=>?_,fun e=>?_,fun e=>?_,fun e=>?_⟩
  ·have:=LM c1 (i:=2*q) (j:=2*i) (by omega) (by omega) (by rw[q1,ba,e]);omega
  ·have:=LM c1 (i:=2*q) (j:=2*i+1) (by omega) (by omega) (by rw[q1,bb,e]);omega
  ·have:=LM c1 (i:=2*q+1) (j:=2*i) (by omega) (by omega) (by rw[q2,ba,e]);omega
  ·have:=LM c1 (i:=2*q+1) (j:=2*i+1) (by omega) (by omega) (by rw[q2,bb,e]);omega
 have envA:env'.at_ f.a=env.at_ A:=by simp[env']
 have envB:env'.at_ f.b=env.at_ B:=by simp[env',Ne.symm hab]
 have envO:∀k,k≠f.a->k≠f.b->env'.at_ k=env.at_ k/\env'.rv k=env.rv k:=fun k h1 h2=>by simp[env',h1,h2]
 have nbs:∀k,k ∉ bs->k≠f.a/\k≠f.b:=fun k hk=>⟨fun e=>hk (e ▸ (hfb i f hf).2.1),fun e=>hk (e ▸ (hfb i f hf).2.2)⟩;have hlat:Be M M w' w':=Be.refl M w';have mem1:∀{k o},(k,o)∈st.own->k≠r->(k,o)∈Cl st.own r (.row e 1 n (fun j=>[.raw (cur'.getD j undef)])):=fun {k o} hm hne=>Ah2.2 ⟨(k,o),hm,by simp[hne]⟩;have hkr:∀{k},k∈bs->k≠r:=fun hm e=>c5 (e ▸ hm);refine⟨w',hrun,_,hK,env',M,X,?_⟩;have own1:∀k o,(k,o)∈Ip i 0 fs (st.own.filter fun x=>!(x.1 == A) && !(x.1 == B))->(∃(q:Nat) (fq:F6),fs[q]? = some fq/\((k=fq.a/\o=.oblk (fq.x||decide (i=0+q)) fq.t fq.cs)\/(k=fq.b/\o=.omq (fq.y||decide (i=0+q)) fq.kt fq.vt fq.val)))\/((k,o)∈st.own/\k≠A/\k≠B/\∀(q:Nat) (fq:F6),fs[q]? = some fq->k≠fq.a/\k≠fq.b):=fun k o hm=>by
  rcases T2 _ _ _ hm with h|⟨h1,h2⟩
  ·exact .inl h
  ·obtain⟨q1,q2⟩:=rK.1 h1;simp only[pR,Aib,beq_eq_false_iff_ne,ne_eq]at q2;exact .inr ⟨q1,q2.1,q2.2,h2⟩
 refine S1.reowned (fun k=>if k=f.a then A else if k=f.b then B else k) (hsub:=fun k o hm=>by
  rcases own1 k o hm with ⟨q,fq,hq,⟨_,rfl⟩|⟨_,rfl⟩⟩|⟨h1,_,_,h4⟩
  ·exact .inl fun _ h=>h
  ·exact .inl fun _ h=>h
  ·by_cases hk:k=r
   ·subst hk;have:=GP S.nod h1;rw[hr]at this;cases this;exact .inl fun _ h=>h
   ·obtain⟨q1,q2⟩:=h4 i f hf;refine .inr ?_;rw[if_neg q1,if_neg q2];exact mem1 h1 hk) (fun x hx=>?_) ?_ (fun k o hm=>?_) (fun k1 o1 k2 o2 h1 h2 hne=>?_) (fun k o hm=>?_) (fun k hk=>?_)
 ·refine⟨(rK.1 (rK.1 hx).1).1,fun k hk=>?_⟩;have:=c6 x hx;refine envO k (fun e=>?_) (fun e=>?_)
  ·have:=this _ (hfb i f hf).2.1;rw[e,this]at hk;cases hk
  ·have:=this _ (hfb i f hf).2.2;rw[e,this]at hk;cases hk
 ·rw[T1];exact S.nod.sublist (List.filter_sublist.map _)
 ·simp only
  by_cases q1:k=f.a
  ·rw[if_pos q1,q1];exact⟨⟨_,mem1 mA (Ne.symm hrA)⟩,envA⟩
  ·by_cases q2:k=f.b
   ·rw[if_neg q1,if_pos q2,q2];exact⟨⟨_,mem1 mB (Ne.symm hrB)⟩,envB⟩
   ·rw[if_neg q1,if_neg q2];refine⟨?_,(envO k q1 q2).1⟩;rcases own1 k o hm with ⟨q,fq,hq,⟨rfl,_⟩|⟨rfl,_⟩⟩|⟨h1,_⟩
    ·exact⟨_,mem1 (e2 q fq hq).2.2.1 (hkr (hfb q fq hq).2.1)⟩
    ·exact⟨_,mem1 (e2 q fq hq).2.2.2 (hkr (hfb q fq hq).2.2)⟩
    ·by_cases hk:k=r
     ·subst hk;exact⟨_,P4 h1⟩
     ·exact⟨_,mem1 h1 hk⟩
 ·have hk : ∀k o, (k, o)∈Ip i 0 fs (st.own.filter fun x => !(x.1 == A) && !(x.1 == B))->k≠A/\k≠B :=fun k o hm =>by
   rcases own1 k o hm with ⟨q,fq,hq,⟨rfl,_⟩|⟨rfl,_⟩⟩|⟨_,h1,h2,_⟩
   ·exact⟨fun e=>c3 (e ▸ (hfb q fq hq).2.1),fun e=>c4 (e ▸ (hfb q fq hq).2.1)⟩
   ·exact⟨fun e=>c3 (e ▸ (hfb q fq hq).2.2),fun e=>c4 (e ▸ (hfb q fq hq).2.2)⟩
   ·exact⟨h1,h2⟩
  have:=hk _ _ h1;have:=hk _ _ h2;have ph:∀k,(k=f.a/\(if k=f.a then A else if k=f.b then B else k)=A)\/(k=f.b/\(if k=f.a then A else if k=f.b then B else k)=B)\/(if k=f.a then A else if k=f.b then B else k)=k:=fun k=>by
   by_cases p1:k=f.a
   ·exact .inl ⟨p1,if_pos p1⟩
   ·by_cases p2:k=f.b
    ·exact .inr (.inl ⟨p2,by rw[if_neg p1,if_pos p2]⟩)
    ·exact .inr (.inr (by rw[if_neg p1,if_neg p2]))
  intro e;have e:(if k1=f.a then A else if k1=f.b then B else k1)=(if k2=f.a then A else if k2=f.b then B else k2):=e;rcases ph k1 with ⟨x1,x2⟩|⟨x1,x2⟩|x2<;>rcases ph k2 with ⟨y1,y2⟩|⟨y1,y2⟩|y2<;>rw[x2,y2]at e<;>omega
 ·rcases own1 k o hm with ⟨q,fq,hq,hko⟩|⟨h1,h2,h3,h4⟩
  ·obtain⟨hsq,hlq,_⟩:=PA hC q fq hq;obtain⟨_,_,mqa,mqb⟩:=e2 q fq hq;rw[AhO]at hko
   by_cases hqi:q=i
   ·subst hqi;rw[hf]at hq;cases hq;rcases hko with ⟨rfl,rfl⟩|⟨rfl,rfl⟩
    ·refine⟨fun _=>?_,fun e=>by simp at e⟩;have oA:=S1.own _ _ (mem1 mA (Ne.symm hrA));have oA:EH P M w' env A tA csA:=oA;rw[LL hlm]at oA;rw[LL hlm',ht];obtain⟨l1,l2⟩:=Tw hfit;exact P6 oA hlat envA envB (fun _ _=>rfl) l1 (fun i hi _ hd=>l2 i hi hd)
    ·refine⟨fun _=>⟨dom,?_⟩,fun e=>by simp at e⟩;have oB:Gr M w' env B dom val:=S1.own _ _ (mem1 mB (Ne.symm hrB));exact P7 oB hlat envB (fun _ _=>rfl) hval
   ·obtain⟨d1,d2,d3,d4⟩:=hdis q fq hq hqi;have hdec:decide (i=q)=false:=decide_eq_false (fun e=>hqi e.symm);rcases hko with ⟨rfl,rfl⟩|⟨rfl,rfl⟩
    ·rw[hdec,Bool.or_false];refine(S1.own _ _ (mem1 mqa (hkr (hfb q fq hq).2.1))).move hlat (envO _ d1 d2).1 (envO _ d1 d2).2 (fun _ _=>rfl) (fun j hj=>?_);have hj:EV.names.namesL j fq.cs=true:=hj;rw[LL hlq,T3]at hj;obtain rfl:fq.b=j:=by simpa using hj
     exact envO _ d3 d4
    ·rw[hdec,Bool.or_false];exact(S1.own _ _ (mem1 mqb (hkr (hfb q fq hq).2.2))).move hlat (envO _ d3 d4).1 (envO _ d3 d4).2 (fun _ _=>rfl) (fun j hj=>by cases hj)
  ·by_cases hk:k=r
   ·subst hk;have:=GP S.nod h1;rw[hr]at this;cases this;obtain⟨n1,n2⟩:=nbs k c5;refine⟨hm0,hbs,g,cap,cur',(envO k n1 n2).1.trans hg,(envO k n1 n2).2.trans hrv,hheap,hnc,hcm,hsz',fun j hj=>?_⟩;rw[hcell j hj];obtain⟨fj,hfj⟩:∃fj,fs[j]? = some fj:=⟨fs[j]'(by omega),Ahz (by omega)⟩;have hbj:=(e2 j fj hfj).1
    by_cases hji:j=i
    ·subst hji;rw[if_pos rfl,ba,envA,hgA];rfl
    ·obtain⟨d1,d2,_⟩:=hdis j fj hfj hji;rw[if_neg hji,hbj,(envO _ d1 d2).1,<- hbj];exact hd j hj
   ·have hkn : k ∉ bs :=fun hm =>by
     have hi2:∃q,q<bs.length/\bs.getD q 0=k:=by
      obtain⟨q,hq,e⟩:=AhR hm;exact⟨q,hq,by rw[AS,Ahz hq];exact e⟩
     obtain⟨q,hq,e⟩:=hi2;obtain⟨fq,hfq⟩:∃fq,fs[q / 2]? = some fq:=⟨fs[q / 2]'(by omega),Ahz (by omega)⟩;obtain⟨x1,x2,_⟩:=e2 _ _ hfq;obtain⟨y1,y2⟩:=h4 _ _ hfq;rcases Nat.mod_two_eq_zero_or_one q with hz|hz
     ·exact y1 (by rw[<- x1,<- e];congr 1;omega)
     ·exact y2 (by rw[<- x2,<- e];congr 1;omega)
    have hnn:=c7 (k,o) h1;rcases hnn with (h5|h5)|h5
    ·exact absurd h5 hk
    ·exact absurd (AhA.1 h5) hkn
    obtain⟨n1,n2⟩:=nbs k hkn;refine(S1.own _ _ (mem1 h1 hk)).move hlat (envO k n1 n2).1 (envO k n1 n2).2 (fun _ _=>rfl) (fun j hj=>envO j (fun e=>?_) (fun e=>?_))
    ·have:=h5 _ (hfb i f hf).2.1;rw[e,this]at hj;cases hj
    ·have:=h5 _ (hfb i f hf).2.2;rw[e,this]at hj;cases hj
 ·obtain⟨p1,p2,p3⟩:=S.gam.2 k hk;have q1:=c2 _ (hfb i f hf).2.1;have q2:=c2 _ (hfb i f hf).2.2;obtain⟨z1,z2⟩:=envO k (by omega) (by omega);exact⟨p1,z1.trans p2,z2.trans p3⟩
end
end Go.SE
