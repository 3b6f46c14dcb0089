/- A symbolic walk over the model, and what it shows of functions of the program: parts of the proof that the text of the row joins. -/
import Derived.Test.YtinfalehnaejbaaGreatE3
import Derived.ProofKit
import Derived.Shelf.SlSortCmp.NoneTotal
import Derived.ScopeJumps
import Derived.Laws.IdiomCopy
import Derived.Lib.SliceRun
import Derived.WalkKit
import Derived.Deep.RegionLaw
import Derived.Lib.Walk
import Derived.Shelf.RegionOpenPlain
import Derived.Shelf.Slices.In.SortAlone
namespace Go.SE
open Go.RowKit Go.ChangeShapes Go.WideShapes
inductive Sh where
 | int
 | bool
 | st (l:List Sh)
 | sl (e:Sh)
def Sh.size:Sh -> Nat
 | .int=>1
 | .bool=>1
 | .sl _=>1
 | .st l=>sizes l
where sizes:List Sh -> Nat
 | []=>0
 | s :: l=>s.size+sizes l
def Fit:Sh -> List SV -> Prop
 | .int,l=>∃ n,l = [.int .i64 n] /\ InK .i64 n
 | .bool,l=>∃ b,l = [.bool b]
 | .sl e,l=>∃ n g,l = [.sl e.size n g] /\ n <= maxLen /\ ∀ i,i < n -> Fit e (g i)
 | .st ss,l=>fits ss l
where fits:List Sh -> List SV -> Prop
 | [],l=>l = []
 | s :: ss,l=>∃ a b,l=a ++ b /\ Fit s a /\ fits ss b
def ShOk (P:Program):Sh -> TypeId -> Bool
 | .int,t=>match P.underlying t with | some (.int .i64)=>true | _=>false
 | .bool,t=>match P.underlying t with | some .bool=>true | _=>false
 | .sl e,t=>match P.underlying t with | some (.slice et)=>P.cellsOf et == e.size && decide (0 < e.size) && ShOk P e et | _=>false
 | .st ss,t=>match P.underlying t with | some (.struct fs)=>P.cellsOf t == Sh.size.sizes ss && fields P ss fs.toList 0 | _=>false
where fields (P:Program):List Sh -> List Field -> Nat -> Bool
 | [],[],_=>true
 | s :: ss,f :: fs,off=>f.offset == off && P.cellsOf f.type == s.size && ShOk P s f.type && fields P ss fs (off+s.size)
 | _,_,_=>false
variable {H:Type} {enc:TypeId × Value -> H} {P:Program} {w:World} {base:Nat} {spare:Nat -> Bool} {held:Bool}
def Reads (w:World) (sh:Sh) (cs:List Value):Prop:=∃ ss,Fit sh ss /\ ss.length=sh.size /\ DenL (fun b=>b < w.heap.size) w ss cs /\ ∀ v,v ∈ cs -> v.oneCell'=true
theorem denL_app {M:Nat -> Prop} {xs0 bs:List SV} {us vs:List Value} (h1:DenL M w xs0 us) (h2:DenL M w bs vs):DenL M w (xs0 ++ bs) (us ++ vs):=by
 refine ⟨by simp [h1.1,h2.1],fun i hi=>?_⟩
 simp only [SV.at,List.getD_eq_getElem?_getD]
 by_cases hlt:i < xs0.length
 · rw [List.getElem?_append_left hlt,List.getElem?_append_left (by have:=h1.1;omega)]
   have:=h1.2 i hlt
   simpa [SV.at,List.getD_eq_getElem?_getD] using this
 · have e:=h1.1
   rw [List.getElem?_append_right (by omega),List.getElem?_append_right (by omega),e]
   have:=h2.2 (i - xs0.length) (by simp at hi;omega)
   simpa [SV.at,List.getD_eq_getElem?_getD] using this
theorem block_lt' {a:Addr} {v:Value} (h:w.cell? a=some v):a.block < w.heap.size:=by
 rcases Nat.lt_or_ge a.block w.heap.size with h' | h'
 · exact h'
 · simp [World.cell?,Array.getElem?_eq_none h'] at h
theorem int_wf {n:Int} (h:(Lit.int .i64 n).wf=true):InK .i64 n:=by
 simp [Lit.wf] at h
 have e1:IntKind.i64.min = -9223372036854775808:=rfl
 have e2:IntKind.i64.max=9223372036854775807:=rfl
 exact ⟨by omega,by omega⟩
mutual
theorem reads_of_trod:∀ (sh:Sh) {t:TypeId} {fuel:Nat} {cs:List Value} {x:DataW H × List MemPlace},ShOk P sh t=true -> DataW.trod enc P w base spare held fuel t cs=some x -> Reads w sh cs
 | .int,t,fuel,cs,x,hs,h=>by
   unfold ShOk at hs
   split at hs
   · rename_i ht
     obtain ⟨n,rfl,_,hw⟩:=DataW.trod_int ht h
     exact ⟨[.int .i64 n],⟨n,rfl,int_wf hw⟩,rfl,⟨rfl,fun i hi=>by
       obtain rfl:i=0:=by simpa using hi
       exact .int _ _⟩,fun v hv=>by simp at hv;subst hv;rfl⟩
   · cases hs
 | .bool,t,fuel,cs,x,hs,h=>by
   unfold ShOk at hs
   split at hs
   · rename_i ht
     obtain ⟨b,rfl,_⟩:=DataW.trod_bool ht h
     exact ⟨[.bool b],⟨b,rfl⟩,rfl,⟨rfl,fun i hi=>by
       obtain rfl:i=0:=by simpa using hi
       exact .bool _⟩,fun v hv=>by simp at hv;subst hv;rfl⟩
   · cases hs
 | .sl e,t,fuel,cs,x,hs,h=>by
   unfold ShOk at hs
   split at hs
   rotate_left
   · cases hs
   rename_i et ht
   simp only [Bool.and_eq_true,beq_iff_eq,decide_eq_true_eq] at hs
   obtain ⟨⟨hc,hpos⟩,hs⟩:=hs
   rcases DataW.trod_slice ht h with ⟨rfl,_⟩ | ⟨a,len,cap,elems,rest,n,_,rfl,_,hb,hl,hm,hlen,hel,_,_⟩
   · refine ⟨[.sl e.size 0 (fun _=>[])],⟨0,_,rfl,Nat.zero_le _,fun i hi=>absurd hi (Nat.not_lt_zero _)⟩,rfl,⟨rfl,fun i hi=>?_⟩,fun v hv=>by simp at hv;subst hv;rfl⟩
     obtain rfl:i=0:=by simpa using hi
     exact .sl _ _ _ _ _ (fun _ _=>undef) (Nat.le_refl _) (Nat.zero_le _) (fun h=>absurd h (Nat.lt_irrefl _)) (fun i hi=>absurd hi (Nat.not_lt_zero _)) (fun i hi=>absurd hi (Nat.not_lt_zero _)) (fun i hi=>absurd hi (Nat.not_lt_zero _))
   · have each : ∀ i, i < len -> ∃ ci, w.cells? base (a.add (i * e.size)) e.size = some ci /\ Reads w e ci := fun i hi => by
       have h1:=hel i hi
       rw [List.getElem?_eq_getElem (by omega),hc,Option.bind_eq_some_iff] at h1
       obtain ⟨ci,h2,h3⟩:=h1
       exact ⟨ci,h2,reads_of_trod e hs h3⟩
     let ci:Nat -> List Value:=fun i=>if h:i < len then Classical.choose (each i h) else []
     have hci:∀ i,i < len -> w.cells? base (a.add (i * e.size)) e.size=some (ci i) /\ Reads w e (ci i):=fun i hi=>by
       simp only [ci,hi,dif_pos];exact Classical.choose_spec (each i hi)
     let si:Nat -> List SV:=fun i=>if h:i < len then Classical.choose (hci i h).2 else []
     have hsi:∀ i,i < len -> Fit e (si i) /\ (si i).length=e.size /\ DenL (fun b=>b < w.heap.size) w (si i) (ci i) /\ ∀ v,v ∈ ci i -> v.oneCell'=true:=fun i hi=>by
       simp only [si,hi,dif_pos];exact Classical.choose_spec (hci i hi).2
     refine ⟨[.sl e.size len si],⟨len,si,rfl,by omega,fun i hi=>(hsi i hi).1⟩,rfl,⟨rfl,fun i hi=>?_⟩,fun v hv=>by simp at hv;subst hv;rfl⟩
     obtain rfl:i=0:=by simpa using hi
     refine .sl _ _ _ _ _ (fun i j=>(ci i).getD j undef) hl (by omega) (fun hn=>⟨a,rfl,?_,fun i hi j hj=>?_⟩) (fun i hi=>(hsi i hi).2.1) (fun i hi j hj=>?_) (fun i hi j hj=>?_)
     · obtain ⟨_,h2,h3⟩:=World.cells?_some (hci 0 hn).1
       have h4:=h3 0 hpos
       rw [List.getElem?_eq_getElem (by omega)] at h4
       have:=block_lt' h4
       rw [block_add,block_add] at this;exact this
     · obtain ⟨_,h2,h3⟩:=World.cells?_some (hci i hi).1
       have h4:=h3 j hj
       rw [add_add] at h4
       rw [h4,List.getD_eq_getElem?_getD,List.getElem?_eq_getElem (by omega)];rfl
     · obtain ⟨_,h2,_⟩:=World.cells?_some (hci i hi).1
       rw [List.getD_eq_getElem?_getD,List.getElem?_eq_getElem (by omega)]
       exact (hsi i hi).2.2.2 _ (List.getElem_mem _)
     · exact (hsi i hi).2.2.1.2 j (by rw [(hsi i hi).2.1];exact hj)
 | .st ss,t,fuel,cs,x,hs,h=>by
   unfold ShOk at hs
   split at hs
   rotate_left
   · cases hs
   rename_i fs ht
   simp only [Bool.and_eq_true,beq_iff_eq] at hs
   obtain ⟨hc,hs⟩:=hs
   obtain ⟨xs,n,_,_,hlen,hxl,hf⟩:=DataW.trod_struct ht h
   have:=reads_of_fields ss hs (cs:=cs) (by rw [hlen,hc,Nat.zero_add]) (fun i f hi=>by
     have h1:=hf i f (by simpa using hi)
     have hlt:i < fs.size:=by
       have:=(List.getElem?_eq_some_iff.1 hi).1
       simpa using this
     rw [List.getElem?_eq_getElem (by omega)] at h1
     exact ⟨n,_,h1⟩)
   obtain ⟨l,h1,h2,h3,h4⟩:=this
   exact ⟨l,by unfold Fit;exact h1,by unfold Sh.size;exact h2,by simpa using h3,by simpa using h4⟩
theorem reads_of_fields:∀ (ss:List Sh) {fs:List Field} {off:Nat} {cs:List Value},ShOk.fields P ss fs off=true -> cs.length=off+Sh.size.sizes ss ->
   (∀ (i:Nat) (f:Field),fs[i]? = some f -> ∃ n x,DataW.trod enc P w base spare held n f.type ((cs.drop f.offset).take (P.cellsOf f.type))=some x) ->
   ∃ l,Fit.fits ss l /\ l.length=Sh.size.sizes ss /\ DenL (fun b=>b < w.heap.size) w l (cs.drop off) /\ ∀ v,v ∈ cs.drop off -> v.oneCell'=true
 | [],fs,off,cs,hs,hl,hf=>by
   cases fs with
   | cons f fs=>simp [ShOk.fields] at hs
   | nil =>
     have e:cs.drop off = []:=List.drop_eq_nil_of_le (by simp [Sh.size.sizes] at hl;omega)
     exact ⟨[],by simp [Fit.fits],rfl,by rw [e];exact ⟨rfl,fun i hi=>by simp at hi⟩,by rw [e];intro v hv;cases hv⟩
 | s :: ss,fs,off,cs,hs,hl,hf=>by
   cases fs with
   | nil=>simp [ShOk.fields] at hs
   | cons f fs =>
     simp only [ShOk.fields,Bool.and_eq_true,beq_iff_eq] at hs
     obtain ⟨⟨⟨h1,h2⟩,h3⟩,h4⟩:=hs
     obtain ⟨n,x,hx⟩:=hf 0 f rfl
     rw [h1,h2] at hx
     obtain ⟨a,ra,rl,rd,r1⟩:=reads_of_trod s h3 hx
     simp only [Sh.size.sizes] at hl
     obtain ⟨b,qa,ql,qd,q1⟩:=reads_of_fields ss h4 (cs:=cs) (by omega) (fun i g hi=>hf (i+1) g (by simpa using hi))
     have e:cs.drop off=(cs.drop off).take s.size ++ cs.drop (off+s.size):=by
       rw [<- List.drop_drop];exact (List.take_append_drop s.size (cs.drop off)).symm
     refine ⟨a ++ b,by simp only [Fit.fits];exact ⟨a,b,rfl,ra,qa⟩,by simp [rl,ql,Sh.size.sizes],?_,fun v hv=>?_⟩
     · rw [e];exact denL_app rd qd
     · rw [e] at hv
       rcases List.mem_append.1 hv with hv | hv
       · exact r1 v hv
       · exact q1 v hv
end
def shArg:Sh -> List SV -> EV
 | .st _,ss=>.p (.agg ss)
 | _,ss=>.p (SV.at ss 0)
theorem arg_of {sh:Sh} {r:Reach} {b0:Nat} {t:TypeId} {v:Value} {d:DataW H} {ps:List MemPlace} (hs:ShOk P sh t=true) (hval:Value.okWide P w r b0 t v) (hd:DataW.Trod enc P w base spare held t v d ps) :
   ∃ ss,Fit sh ss /\ argOk (shArg sh ss)=true /\ DenE P (fun b=>b < w.heap.size) w env0 (shArg sh ss) v:=by
 obtain ⟨fuel,hf⟩:=hd
 obtain ⟨ss,h1,h2,h3,_⟩:=reads_of_trod sh hs hf
 refine ⟨ss,h1,?_,?_⟩
 · cases sh <;> rfl
 · have scalar : v.cells.toList = [v] -> sh.size = 1 -> DenE P (fun b => b < w.heap.size) w env0 (.p (SV.at ss 0)) v := fun e hsz => by
     rw [e] at h3
     have:=h3.2 0 (by omega)
     exact .p this
   cases sh with
   | int =>
     unfold ShOk at hs
     split at hs
     · rename_i ht
       obtain ⟨n,rfl⟩:=okWide_int ht hval
       exact scalar rfl rfl
     · cases hs
   | bool =>
     unfold ShOk at hs
     split at hs
     · rename_i ht
       obtain ⟨n,rfl⟩:=okWide_bool ht hval
       exact scalar rfl rfl
     · cases hs
   | sl e =>
     unfold ShOk at hs
     split at hs
     · rename_i et ht
       obtain ⟨a,n,c,rfl⟩:=okWide_slice ht hval
       exact scalar rfl rfl
     · cases hs
   | st l =>
     unfold ShOk at hs
     split at hs
     · rename_i fs ht
       obtain ⟨cs,rfl,_⟩:=okWide_struct ht hval
       have e:(Value.agg cs).cells.toList=cs.toList:=rfl
       rw [e] at h3
       exact .p (.agg _ _ h3.1 h3.2)
     · cases hs
def AllFit:List Sh -> List EV -> Prop
 | [],es=>es = []
 | s :: l,es=>∃ ss es',es=shArg s ss :: es' /\ Fit s ss /\ AllFit l es'
def shAll (P:Program):List Sh -> List TypeId -> Bool
 | [],[]=>true
 | s :: l,t :: ts=>ShOk P s t && shAll P l ts
 | _,_=>false
theorem args_of:∀ (shs:List Sh) {ts:List TypeId} {vs:List Value} {ds:List (DataW H)} {ps:List MemPlace} {r:Reach} {b0:Nat},shAll P shs ts=true -> (∀ (j:Nat) t v,ts[j]? = some t -> vs[j]? = some v -> Value.okWide P w r b0 t v) ->
   DataW.TrodAll enc P w base spare held ts vs ds ps -> ∃ es,AllFit shs es /\ ArgsOk P (fun b=>b < w.heap.size) w es vs
 | [],ts,vs,ds,ps,r,b0,hs,hval,h=>by
   cases ts with
   | cons t ts=>simp [shAll] at hs
   | nil =>
     cases vs <;> cases ds <;> simp [DataW.TrodAll] at h
     exact ⟨[],rfl,rfl,fun i hi=>by simp at hi⟩
 | s :: shs,ts,vs,ds,ps,r,b0,hs,hval,h=>by
   cases ts with
   | nil=>simp [shAll] at hs
   | cons t ts =>
     simp only [shAll,Bool.and_eq_true] at hs
     obtain ⟨v,vs',d,ds',p,q,rfl,rfl,_,h1,h2⟩:=trodAll_cons h
     obtain ⟨ss,a1,a2,a3⟩:=arg_of hs.1 (hval 0 t v rfl rfl) h1
     obtain ⟨es,b1,b2⟩:=args_of shs hs.2 (fun j t v ht hv=>hval (j+1) t v (by simpa using ht) (by simpa using hv)) h2
     refine ⟨shArg s ss :: es,⟨ss,es,rfl,a1,b1⟩,by simp [b2.1],fun i hi=>?_⟩
     cases i with
     | zero=>exact ⟨a2,a3⟩
     | succ i=>exact b2.2 i (by simpa using hi)
theorem trodAll_below (hl:laidOutB P=true) {W W':World} (hb:Below W.heap.size W W'):∀ {ts:List TypeId} {vs:List Value} {ds:List (DataW H)} {ps:List MemPlace},(ts.all fun t=>P.readableRec t && decide (t < P.types.size))=true ->
   DataW.TrodAll enc P W 0 (fun _=>true) true ts vs ds ps -> (∀ p ∈ ps,p.block < W.heap.size) -> DataW.TrodAll enc P W' 0 (fun b=>decide (b < W.heap.size)) true ts vs ds ps
 | [],vs,ds,ps,_,h,_=>by
   cases vs <;> cases ds <;> simp [DataW.TrodAll] at h ⊢
   exact h
 | t :: ts,vs,ds,ps,ht,h,hlt=>by
   simp only [List.all_cons,Bool.and_eq_true,decide_eq_true_eq] at ht
   obtain ⟨v,vs',d,ds',p,q,rfl,rfl,rfl,h1,h2⟩:=trodAll_cons h
   exact ⟨p,q,Below.trod hl ht.1.1 ht.1.2 h1 hb (fun x hx=>hlt x (by simp [hx])),trodAll_below hl hb (by simpa using ht.2) h2 (fun x hx=>hlt x (by simp [hx])),rfl⟩
theorem law_calls {C:Checked} {f:Nat} {fn:Func} {s:ChangeSpec} {apart:Bool} {shs:List Sh} {sp:List EV -> Option (Prop × SV)} (hspec:SpecOk C.prog f (specO sp)) (hfit:∀ es,AllFit shs es -> preO sp es /\ resO sp es=.bool true)
   (hl:laidOutB C.prog=true) (hvars:s.vars = []) (hsh:shAll C.prog shs fn.params.toList=true) (hrd:(fn.params.toList.all fun t=>C.prog.readableRec t && decide (t < C.prog.types.size))=true)
   {bt:TypeId} (hres:fn.resultTypes = #[bt]) (hbt:C.prog.underlying bt=some .bool) (hsay:∀ ds:List (DataW H),ds.length=fn.params.size -> s.fn H (ds ++ []) = { results:=[.lit (.bool true)],args:=ds,vars:=[] })
   {W:World} {b0:Nat} {r:Reach} {args:Array Value} {ds gs:List (DataW H)} {before:List MemPlace} (hval:∀ (j:Nat) t v,fn.params[j]? = some t -> args[j]? = some v -> Value.okWide C.prog W r b0 t v)
   (hW:DataW.Whole enc C.prog fn.params.toList s.vars apart W args.toList ds gs before) :
   Calls C.prog f args W fun e W'=>∃ v,e=.returned v /\ s.post enc C.prog fn apart true false false W args v W':=by
 have hW':=hW
 obtain ⟨p,q,hA,hV,hpq,hfz,hnd⟩:=hW
 rw [hvars] at hV
 obtain ⟨rfl,rfl⟩:=trodVars_none hV
 obtain ⟨es,h1,h2⟩:=args_of (enc:=enc) (base:=0) (spare:=fun _=>true) (held:=true) shs hsh (fun j t v ht hv=>hval j t v (by simpa using ht) (by simpa using hv)) hA
 obtain ⟨k1,k2⟩:=hfit es h1
 have hc:=hspec (fun b=>b < W.heap.size) W es args.toList (fun b h=>h) h2 k1
 have:=callsIn_wide.1 hc
 refine Calls.mono (by simpa using this) (fun e W' hg=>?_)
 obtain ⟨v,M',rfl,hb,_,_,_,hd⟩:=hg
 rw [k2] at hd
 cases hd
 have hdl:ds.length=fn.params.size:=by
   have:∀ {ts:List TypeId} {vs:List Value} {ds:List (DataW H)} {ps:List MemPlace},DataW.TrodAll enc C.prog W 0 (fun _=>true) true ts vs ds ps -> ds.length=ts.length:=by
     intro ts
     induction ts with
     | nil=>intro vs ds ps h;cases vs <;> cases ds <;> simp [DataW.TrodAll] at h <;> rfl
     | cons t ts ih =>
       intro vs ds ps h
       obtain ⟨v,vs',d,ds',p,q,rfl,rfl,_,_,h2⟩:=trodAll_cons h
       simp [ih h2]
   have:=this hA
   simpa using this
 have hlt:∀ x ∈ p,x.block < W.heap.size:=fun x hx=>hW'.lt x (by rw [hpq];simp [hx])
 refine ⟨_,rfl,ds,[],p ++ [],[],p,[],?_,?_,?_,?_,hb.bel.frame _,fun h=>by cases h⟩
 · rw [hpq] at hW';exact hW'
 · rw [hsay ds hdl,hres]
   exact trodAll_mk1 (shut_bool hbt true)
 · rw [hsay ds hdl]
   exact trodAll_below hl hb.bel hrd hA hlt
 · rw [hsay ds hdl,hvars];rfl
end Go.SE
set_option linter.unusedSectionVars false
namespace Go.SE
open Go.Proofs Go.Shelf Go.RowKit Go.Lib Go.Sort
variable {P:Program} {A:Type} [Inhabited A]
def encV (enc:A -> List Int) (a:A):List Value:=(enc a).map (Value.int .i64)
def encS (enc:A -> List Int) (a:A):List SV:=(enc a).map (SV.int .i64)
theorem den_enc {M:Nat -> Prop} {w:World} (enc:A -> List Int) (a:A):DenL M w (encS enc a) (encV enc a):=by
 refine ⟨by simp [encS,encV],fun i hi=>?_⟩
 simp only [encS,List.length_map] at hi
 simp only [encS,encV,SV.at,List.getD_eq_getElem?_getD,List.getElem?_map,List.getElem?_eq_getElem hi,Option.map_some,Option.getD_some]
 exact .int _ _
theorem encV_one (enc:A -> List Int) (a:A):∀ v,v ∈ encV enc a -> v.oneCell'=true:=fun v hv=>by
 simp only [encV,List.mem_map] at hv
 obtain ⟨n,_,rfl⟩:=hv
 rfl
theorem grow_of {W w':World} (h:Bl W.heap.size W w'):∃ q os,w'=grow (W.drewN q) os:=by
 refine ⟨w'.drawn - W.drawn,w'.heap.extract W.heap.size w'.heap.size,?_⟩
 obtain ⟨heap,tape,drawn,os,output⟩:=w'
 obtain ⟨h1,h2,h3,h4,h5,h6⟩:=h
 simp only at h1 h2 h3 h4 h5 h6
 subst h1 h2 h3
 have e1:W.drawn+(drawn - W.drawn)=drawn:=by omega
 have e2:W.heap ++ heap.extract W.heap.size heap.size=heap:=by
   apply Array.ext_getElem?
   intro i
   by_cases hi:i < W.heap.size
   · rw [Array.getElem?_append_left hi,h6 i hi]
   · rw [Array.getElem?_append_right (by omega),Array.getElem?_extract]
     by_cases h7:i < heap.size
     · rw [if_pos (by omega),show W.heap.size+(i - W.heap.size)=i by omega]
     · rw [if_neg (by omega),Array.getElem?_eq_none (by omega)]
 show World.mk _ _ _ _ _=World.mk (W.heap ++ heap.extract W.heap.size heap.size) W.tape (W.drawn+(drawn - W.drawn)) W.os W.output
 rw [e1,e2]
theorem cmpLays_of {g:Nat} {enc:A -> List Int} {k:Nat} {cf:A -> A -> Int} {pre:List EV -> Prop} {res:List EV -> SV} (hs:SpecOk P g (.fn pre res))
   (hp:∀ x y,pre [.p (.agg (encS enc x)),.p (.agg (encS enc y))]) (hr:∀ x y,res [.p (.agg (encS enc x)),.p (.agg (encS enc y))]=.int .i64 (cf x y)) (blk off size:Nat) (w:World) :
   CmpLays P g #[] (encV enc) k cf blk off size w:=by
 intro m os dk _ x y
 have hx:∀ a:A,DenP (fun _=>False) (sortWorldK (encV enc) k w blk off m dk os) (.agg (encS enc a)) (.agg (encV enc a).toArray):=fun a=>by
   have h:=den_enc (M:=fun _=>False) (w:=sortWorldK (encV enc) k w blk off m dk os) enc a
   exact .agg _ _ h.1 h.2
 have:=hs (fun _=>False) (sortWorldK (encV enc) k w blk off m dk os) [.p (.agg (encS enc x)),.p (.agg (encS enc y))] [.agg (encV enc x).toArray,.agg (encV enc y).toArray] (fun b h=>h.elim)
   ⟨rfl,fun i hi=>by
     match i,hi with
     | 0,_=>exact ⟨rfl,.p (hx x)⟩
     | 1,_=>exact ⟨rfl,.p (hx y)⟩⟩ (hp x y)
 refine (callsIn_wide (n:=0)).1 (callsIn_mono this fun e w' hg=>?_)
 obtain ⟨v,M',rfl,hb,_,_,_,hd⟩:=hg
 rw [hr] at hd
 cases hd
 exact ⟨rfl,grow_of hb⟩
def arrOf (n:Nat) (f:Nat -> A):Array A:=((List.range n).map f).toArray
theorem arrOf_size (n:Nat) (f:Nat -> A):(arrOf n f).size=n:=by simp [arrOf]
theorem arrOf_get {n:Nat} {f:Nat -> A} {i:Nat} (h:i < n):(arrOf n f)[i]! = f i:=by
 rw [getElem!_pos _ i (by rw [arrOf_size];exact h)]
 simp [arrOf]
structure SortedBy (cf:A -> A -> Int) (n:Nat) (f u:Nat -> A):Prop where
 perm:((List.range n).map u).Perm ((List.range n).map f)
 asc:∀ i j,i < j -> j < n -> ¬ cf (u j) (u i) < 0
theorem int_of_den {M:Nat -> Prop} {w:World} {enc:A -> List Int} {a:A} {j:Nat} (hj:j < (enc a).length) {v:Value} (h:DenP M w (SV.at (encS enc a) j) v):v=(encV enc a)[j]!:=by
 have e1:SV.at (encS enc a) j=.int .i64 ((enc a)[j]'hj):=by
   simp [encS,SV.at,List.getD_eq_getElem?_getD,List.getElem?_map,List.getElem?_eq_getElem hj]
 have e2:(encV enc a)[j]! = .int .i64 ((enc a)[j]'hj):=by
   simp [encV,List.getElem!_eq_getElem?_getD,List.getElem?_map,List.getElem?_eq_getElem hj]
 rw [e1] at h
 cases h
 exact e2.symm
theorem getD_get! {c:Array Value} {i:Nat} (h:i < c.size):c.getD i undef=c[i]'h:=by
 rw [Array.getD_eq_getD_getElem?,Array.getElem?_eq_getElem h];rfl
theorem sort_core {ρ:Ren} (L:SlLaysF0.n6 P ρ) {k:Nat} (hk0:0 < k) (aE:∀ w,(isAgg (ρ.t 24)).run P w=.ok true w) (zE:∀ w,(Go.sizeOf (ρ.t 24)).run P w=.ok k w) {enc:A -> List Int} (hk:∀ x,(enc x).length=k)
   {cf:A -> A -> Int} (hO:SWO (ltOf cf)) {g:Nat} {pre:List EV -> Prop} {res:List EV -> SV} (hs:SpecOk P g (.fn pre res)) (he:Enters P g)
   (hp:∀ x y,pre [.p (.agg (encS enc x)),.p (.agg (encS enc y))]) (hr:∀ x y,res [.p (.agg (encS enc x)),.p (.agg (encS enc y))]=.int .i64 (cf x y))
   {M:Nat -> Prop} {w:World} {env:Env} {key:Nat} {e:TypeId} {n:Nat} {f:Nat -> A} (hn:n < 4611686018427387904) (hown:OwnOk P M w env key (.row e k n (fun i=>encS enc (f i))))
   (hat:∀ b,env.at_ key=some b -> ¬ M b /\ b < w.heap.size) :
   Calls P (ρ.f 6) #[env.rv key,.func (.func g) #[] #[]] w (fun en w'=>∃ u:Nat -> A,SortedBy cf n f u /\ en=.returned (.tuple #[]) /\ Same (fun b=>env.at_ key=some b) w w' /\ OwnOk P M w' env key (.row e k n (fun i=>encS enc (u i)))):=by
 obtain ⟨hm,hgl,hcase⟩:=hown
 rcases hcase with ⟨h1,h2,h3⟩ | ⟨b,cap,cur,hb,hrv,hh,hnc,hcm,hcs,hd⟩
 · subst h3
   rw [h2]
   refine (AnyF.slices_SortFunc_none L none 0 _ w).mono ?_
   rintro en w' ⟨rfl,rfl⟩
   exact ⟨f,⟨List.Perm.refl _,fun i j _ hj=>absurd hj (Nat.not_lt_zero _)⟩,rfl,⟨rfl,rfl,rfl,Nat.le_refl _,Nat.le_refl _,fun _ _ _=>rfl⟩,hm,hgl,.inl ⟨h1,h2,rfl⟩⟩
 · rw [hrv]
   have hds:=arrOf_size n f
   have hkV:∀ x,(encV enc x).length=k:=fun x=>by simp [encV,hk]
   have hnk:n * k <= cur.size:=by rw [hcs];exact Nat.mul_le_mul_right _ hnc
   have hH:HoldsK (encV enc) k w b 0 (arrOf n f):=by
     intro j hj
     rw [size_flatK,hds] at hj
     have hjc:j < cur.size:=by omega
     have hi:j / k < n:=Nat.div_lt_of_lt_mul (by rw [Nat.mul_comm];exact hj)
     have hr2:j % k < k:=Nat.mod_lt _ hk0
     have h1:=(hd (j / k) hi (j % k) hr2).2
     have e0:j / k * k+j % k=j:=by rw [Nat.mul_comm];exact Nat.div_add_mod j k
     rw [e0,getD_get! hjc] at h1
     have h2:=int_of_den (by rw [hk];exact hr2) h1
     constructor
     · rw [get_flatK _ _ _ _ (by rw [hds];exact hj),arrOf_get hi,<- h2]
       simp only [World.cell?,hh,Nat.zero_add,id]
       rw [Array.getElem?_eq_getElem hjc];rfl
     · simp [World.frozen?,hh]
   have hc:=AnyQ.slices_SortFunc L k aE zE (encV enc) hkV (encV_one enc) cf hO g #[] b 0 cap (arrOf n f) w he (cmpLays_of hs hp hr b 0 _ w) hH (hat b hb).2 (by rw [hds];exact hn)
   rw [hds] at hc
   refine hc.mono ?_
   rintro en w' ⟨rfl,d',m,os,⟨hsz,_,hperm⟩,hasc,rfl⟩
   rw [hds] at hsz
   have hheap:(sortWorldK (encV enc) k w b 0 m d' os).heap=w.heap.modify b (onCells (putCells id 0 (flatK (encV enc) k d'))) ++ os:=rfl
   have hbl:=(hat b hb).2
   have hd'l:∀ d0:Array A,d0.size=n -> (List.range n).map (fun i=>d0[i]!)=(d0.extract 0 n).toList:=fun d0 h0=>by
     apply List.ext_getElem?
     intro i
     by_cases hi:i < n
     · rw [List.getElem?_map,List.getElem?_range hi]
       simp only [Option.map_some,Array.getElem?_toList,Array.getElem?_extract]
       rw [if_pos (by omega),Nat.zero_add,Array.getElem?_eq_getElem (by omega),getElem!_pos d0 i (by omega)]
     · rw [List.getElem?_eq_none (by simp;omega),List.getElem?_eq_none (by simp;omega)]
   refine ⟨fun i=>d'[i]!,⟨?_,fun i j hij hj=>?_⟩,rfl,⟨rfl,rfl,rfl,?_,?_,fun c hc hne=>?_⟩,hm,fun i _=>by simp [encS,hk],.inr ⟨b,cap,putCells id 0 (flatK (encV enc) k d') cur,hb,hrv,?_,hnc,hcm,by simp [putCells,hcs],fun i hi j hj=>?_⟩⟩
   · rw [hd'l d' hsz]
     refine hperm.trans ?_
     rw [<- hd'l (arrOf n f) hds]
     have:(List.range n).map (fun i=>(arrOf n f)[i]!)=(List.range n).map f:=List.map_congr_left (fun i hi=>arrOf_get (List.mem_range.1 hi))
     rw [this]
   · have:=hasc i j (Nat.zero_le _) hij (by omega)
     exact of_decide_eq_false this
   · show w.drawn <= w.drawn+m
     omega
   · rw [hheap];simp
   · have hne:¬ b=c:=fun e=>hne (e ▸ hb)
     rw [hheap,Array.getElem?_append_left (by simpa using hc),Array.getElem?_modify,if_neg hne]
   · rw [hheap,Array.getElem?_append_left (by simpa using hbl),Array.getElem?_modify,if_pos rfl,hh];rfl
   · have hlt:i * k+j < n * k:=idx_lt hi hj
     have hlc:i * k+j < cur.size:=by omega
     have e1:(putCells id 0 (flatK (encV enc) k d') cur).getD (i * k+j) undef=(encV enc d'[i]!)[j]!:=by
       rw [Array.getD_eq_getD_getElem?]
       simp only [putCells,Array.getElem?_mapIdx,Array.getElem?_eq_getElem hlc,Option.map_some,Option.getD_some]
       rw [if_pos ⟨Nat.zero_le _,by rw [size_flatK,hsz];omega⟩,Nat.sub_zero,get_flatK _ _ _ _ (by rw [hsz];exact hlt)]
       have h1:(i * k+j) / k=i:=by rw [Nat.mul_comm,Nat.mul_add_div hk0,Nat.div_eq_of_lt hj,Nat.add_zero]
       have h2:(i * k+j) % k=j:=by rw [Nat.mul_comm,Nat.mul_add_mod,Nat.mod_eq_of_lt hj]
       rw [h1,h2];rfl
     rw [e1]
     have hj2:j < (enc d'[i]!).length:=by rw [hk];exact hj
     have e2:(encV enc d'[i]!)[j]! = .int .i64 ((enc d'[i]!)[j]'hj2):=by
       simp [encV,List.getElem!_eq_getElem?_getD,List.getElem?_map,List.getElem?_eq_getElem hj2]
     have e3:SV.at (encS enc d'[i]!) j=.int .i64 ((enc d'[i]!)[j]'hj2):=by
       simp [encS,SV.at,List.getD_eq_getElem?_getD,List.getElem?_map,List.getElem?_eq_getElem hj2]
     show ((encV enc d'[i]!)[j]!).oneCell'=true /\ DenP M _ (SV.at (encS enc d'[i]!) j) ((encV enc d'[i]!)[j]!)
     rw [e2,e3]
     exact ⟨rfl,.int _ _⟩
def sortTr (e:TypeId) (k g key:Nat) (enc:A -> List Int) (cf:A -> A -> Int):Tr where
 T:=Nat × (Nat -> A)
 U:=Nat -> A
 args:=fun _=>[.row key,.p (.clo g [])]
 own:=fun t=>[(key,.row e k t.1 (fun i=>encS enc (t.2 i)))]
 pre:=fun t=>t.1 <= 1000000
 post:=fun t u=>SortedBy cf t.1 t.2 u
 own':=fun t u=>[(key,.row e k t.1 (fun i=>encS enc (u i)))]
 res:=fun _ _=>.p (.tup [])
theorem sortTr_ok {ρ:Ren} (L:SlLaysF0.n6 P ρ) {k:Nat} (hk0:0 < k) (aE:∀ w,(isAgg (ρ.t 24)).run P w=.ok true w) (zE:∀ w,(Go.sizeOf (ρ.t 24)).run P w=.ok k w) {enc:A -> List Int} (hk:∀ x,(enc x).length=k)
   {cf:A -> A -> Int} (hO:SWO (ltOf cf)) {g:Nat} {pre:List EV -> Prop} {res:List EV -> SV} (hs:SpecOk P g (.fn pre res)) (he:Enters P g)
   (hp:∀ x y,pre [.p (.agg (encS enc x)),.p (.agg (encS enc y))]) (hr:∀ x y,res [.p (.agg (encS enc x)),.p (.agg (encS enc y))]=.int .i64 (cf x y)) (e:TypeId) (key:Nat):TrOk P (ρ.f 6) (sortTr e k g key enc cf):=by
 refine ⟨fun _ _=>rfl,fun t hpre M w env vals hM hown hat _ hl hv=>?_⟩
 obtain ⟨n,f⟩:=t
 have hpre:n <= 1000000:=hpre
 have ho:=hown key _ (List.mem_singleton.2 rfl)
 have ha:=hat key _ (List.mem_singleton.2 rfl)
 have hl:vals.length=2:=hl
 match vals,hl with
 | [v0,v1],_ =>
   have h0:DenE P M w env (.row key) v0:=hv 0 (by show 0 < 2;omega)
   have h1:DenE P M w env (.p (.clo g [])) v1:=hv 1 (by show 1 < 2;omega)
   rcases h1 with ⟨h1⟩
   cases h1 with
   | clo _ _ vs hvl _ =>
   have hvs:vs = []:=List.eq_nil_of_length_eq_zero hvl
   subst hvs
   have e0:v0=env.rv key:=by cases h0 with | row h=>exact h.symm
   subst e0
   refine callsIn_wide.2 ((sort_core L hk0 aE zE hk hO hs he hp hr (by omega) ho ha).mono ?_)
   rintro en w' ⟨u,hu,rfl,hsame,hown'⟩
   refine ⟨u,.tuple #[],M,hu,rfl,?_,fun _ h=>h,fun _ h=>.inl h,fun b hb=>Nat.lt_of_lt_of_le (hM b hb) hsame.size,fun k' o' h'=>?_,.p (.tup [] [] rfl (fun i hi=>absurd hi (Nat.not_lt_zero _)))⟩
   · exact ⟨hsame.os,hsame.tape,hsame.output,hsame.drawn,hsame.size,fun c hc hne=>hsame.block c hc (fun e=>hne ⟨key,_,List.mem_singleton.2 rfl,e⟩)⟩
   · obtain ⟨rfl,rfl⟩:=Prod.mk.inj (List.mem_singleton.1 h')
     exact hown'
end Go.SE
namespace Go.SE
open Go.RowKit
variable {P:Program}
theorem stepR_scope {b:Frame} {a:Act} {k:List Item} {cs:List Frame} {w:World} {c:Code}:step P (lone (b.atR a (.code (.scope c) :: k)) cs w)=.next (lone (b.atR a (.code c :: .inScope c :: k)) cs w) :=
 step_lone_go (by simp [stepG,stepG.exec,Frame.atR])
theorem stepR_inScope {b:Frame} {a:Act} {k:List Item} {cs:List Frame} {w:World} {c:Code}:step P (lone (b.atR a (.inScope c :: k)) cs w)=.next (lone (b.atR a k) cs w) :=
 step_lone_go (by simp [stepG,stepG.exec,Frame.atR])
theorem wpIn_scope_ghost {F:Fence} {n:Nat} {Q:Exit -> Act -> World -> Prop} {a:Act} {w:World} {c rest:Code} (l:Nat) (I:Nat -> Act -> World -> Prop) (hf:findLabel c l=some rest)
   (first:c.wpIn F n P (Exit.jump l (fun a w=>∃ m,I m a w) Q) a w)
   (pass:∀ m a w,I m a w -> rest.wpIn F n P (Exit.jump l (fun a' w'=>∃ m',m' < m /\ I m' a' w') Q) a w):(Code.scope c).wpIn F n P Q a w:=by
 intro b k cs hro hb hr
 have hg:gotoIn l (.inScope c :: k)=some (.code rest :: .inScope c :: k):=by simp [gotoIn,hf]
 have fin:∀ (m:Machine) (e:Exit) (a₁:Act) (w₁:World),Q e a₁ w₁ -> (∀ l',e ≠ .goto l') -> ArrivesIn (Machine.fenced P F) P m b (.inScope c :: k) cs e a₁ w₁ -> ArrivesIn (Machine.fenced P F) P m b k cs e a₁ w₁:=by
   intro m e a₁ w₁ _ hne harr
   cases e with
   | normal=>exact StepsIn.trans harr (.one (fenced_calm hb hr rfl) stepR_inScope)
   | exit id=>exact ⟨fun k' hk=>harr.1 k' (by simp [exitTo,hk]),fun hr' hk=>harr.2 hr' (by simp [exitTo,hk])⟩
   | goto l'=>exact absurd rfl (hne l')
   | ret=>exact harr
   | panic ch=>exact harr
   | outgrown=>exact harr
 have key:∀ m a w,I m a w -> ∃ e a' w',Q e a' w' /\ ArrivesIn (Machine.fenced P F) P (lone (b.atR a (.code rest :: .inScope c :: k)) cs w) b k cs e a' w':=by
   intro m
   induction m using Nat.strongRecOn with
   | _ m ih =>
     intro a w hI
     obtain ⟨e,a₁,w₁,hq,harr⟩:=pass m a w hI b (.inScope c :: k) cs hro hb hr
     cases e with
     | goto l' =>
       obtain ⟨rfl,m',hlt,hI'⟩:=hq
       obtain ⟨e₂,a₂,w₂,hq₂,harr₂⟩:=ih m' hlt a₁ w₁ hI'
       exact ⟨e₂,a₂,w₂,hq₂,.of_steps (harr.1 _ hg) harr₂⟩
     | normal=>exact ⟨_,a₁,w₁,hq,fin _ _ _ _ hq (by simp) harr⟩
     | exit id=>exact ⟨_,a₁,w₁,hq,fin _ _ _ _ hq (by simp) harr⟩
     | ret=>exact ⟨_,a₁,w₁,hq,fin _ _ _ _ hq (by simp) harr⟩
     | panic ch=>exact ⟨_,a₁,w₁,hq,fin _ _ _ _ hq (by simp) harr⟩
     | outgrown=>exact ⟨_,a₁,w₁,hq,fin _ _ _ _ hq (by simp) harr⟩
 have h0:StepsIn (Machine.fenced P F) P (lone (b.atR a (.code (.scope c) :: k)) cs w) (lone (b.atR a (.code c :: .inScope c :: k)) cs w):=.one (fenced_calm hb hr rfl) stepR_scope
 obtain ⟨e,a₁,w₁,hq,harr⟩:=first b (.inScope c :: k) cs hro hb hr
 cases e with
 | goto l' =>
   obtain ⟨rfl,m,hI⟩:=hq
   obtain ⟨e₂,a₂,w₂,hq₂,harr₂⟩:=key m a₁ w₁ hI
   exact ⟨e₂,a₂,w₂,hq₂,.of_steps (h0.trans (harr.1 _ hg)) harr₂⟩
 | normal=>exact ⟨_,a₁,w₁,hq,.of_steps h0 (fin _ _ _ _ hq (by simp) harr)⟩
 | exit id=>exact ⟨_,a₁,w₁,hq,.of_steps h0 (fin _ _ _ _ hq (by simp) harr)⟩
 | ret=>exact ⟨_,a₁,w₁,hq,.of_steps h0 (fin _ _ _ _ hq (by simp) harr)⟩
 | panic ch=>exact ⟨_,a₁,w₁,hq,.of_steps h0 (fin _ _ _ _ hq (by simp) harr)⟩
 | outgrown=>exact ⟨_,a₁,w₁,hq,.of_steps h0 (fin _ _ _ _ hq (by simp) harr)⟩
def noLbl:Code -> Bool
 | .seq a b=>noLbl a && noLbl b
 | .label _=>false
 | _=>true
theorem noLbl_find:∀ {c:Code},noLbl c=true -> ∀ l,findLabel c l=none:=by
 intro c
 induction c with
 | seq a b iha ihb =>
   intro h l
   simp only [noLbl,Bool.and_eq_true] at h
   simp [findLabel,iha h.1 l,ihb h.2 l]
 | label l'=>intro h;cases h
 | _=>intro _ _;rfl
def cutL:Code -> Option (Nat × Code)
 | .seq x y=>match x with
   | .label l=>some (l,y)
   | x=>if noLbl x then cutL y else none
 | _=>none
def subCell (own:List (Nat × Own)):EV -> EV
 | .row r=>match lookupO own r with
   | some (.row _ sz n _)=>.rsub r sz 0 n
   | _=>.row r
 | e=>e
def subOwn1 (own:List (Nat × Own)):Own -> Own
 | .blk t cs=>.blk t (cs.map (subCell own))
 | o=>o
def St.subR (st:St):St:={ st with own:=st.own.map fun x=>(x.1,subOwn1 st.own x.2) }
theorem subCell_den {G:Ctx} {st:St} {a:Act} {w:World} {env:Env} {M X:Nat -> Prop} (S:SatC P G st a w env M X) {e:EV} {v:Value} (h:DenE P M w env e v):DenE P M w env (subCell st.own e) v:=by
 unfold subCell
 split
 · rename_i r
   split
   · rename_i e' sz n get hl
     obtain ⟨hm,_,hO⟩:=S.own _ _ (lookupO_mem hl)
     cases h with
     | row hrv =>
     rcases hO with ⟨_,hrv',hn⟩ | ⟨g,cap,cur,hg,hrv',_,hnc,_,_,_⟩
     · rw [hrv'] at hrv;subst hn;cases hrv
       exact .rsub none 0 (Nat.le_refl _) hm (fun h=>absurd h (Nat.lt_irrefl _))
     · rw [hrv'] at hrv;cases hrv
       exact .rsub _ _ hnc hm (fun _=>⟨g,hg,by rw [Nat.zero_mul]⟩)
   · exact h
 · exact h
theorem subR_ok {G:Ctx} {st:St} {a:Act} {w:World} (hs:Sat P G st a w):Sat P G st.subR a w:=by
 obtain ⟨env,M,X,S⟩:=hs
 have kk:∀ k o,(k,o) ∈ st.subR.own -> ∃ o',(k,o') ∈ st.own /\ o=subOwn1 st.own o':=fun k o hm=>by
   obtain ⟨⟨k',o'⟩,h1,h2⟩:=List.mem_map.1 hm
   cases h2
   exact ⟨o',h1,rfl⟩
 have hk:st.subR.own.map (·.1)=st.own.map (·.1):=by
   show (st.own.map _).map _=_
   rw [List.map_map];rfl
 refine ⟨env,M,X,S.gam,S.mx,fun k o hm=>?_,fun k o hm=>?_,fun k o k' o' h h'=>?_,by rw [hk];exact S.nod,S.mlt,S.xlt,S.siz,S.tmp,S.grd,fun d hd=>?_,S.dno⟩
 · obtain ⟨o',h1,rfl⟩:=kk k o hm
   have h2:=S.own _ _ h1
   cases o' with
   | blk t cs =>
     obtain ⟨g,vs,hg,hh,hl,hc⟩:=h2
     refine ⟨g,vs,hg,hh,by simp [hl],fun i hi=>?_⟩
     have hi:i < cs.length:=by simpa using hi
     have e:EV.at (cs.map (subCell st.own)) i=subCell st.own (EV.at cs i):=by
       simp [EV.at,List.getD_eq_getElem?_getD,hi]
     rw [e]
     exact ⟨(hc i hi).1,subCell_den S (hc i hi).2⟩
   | row _ _ _ _=>exact h2
   | mp _ _ _=>exact h2
   | mq _ _ _ _=>exact h2
 · obtain ⟨o',h1,rfl⟩:=kk k o hm
   exact S.oat _ _ h1
 · obtain ⟨o1,h1,rfl⟩:=kk k o h
   obtain ⟨o2,h2,rfl⟩:=kk k' o' h'
   exact S.inj _ _ _ _ h1 h2
 · obtain ⟨D,h1,h2,h3,h4,h5⟩:=S.dfr d hd
   exact ⟨D,h1,h2,h3,h4,fun k o hm=>by
     obtain ⟨o',h6,rfl⟩:=kk k o hm
     exact h5 _ _ h6⟩
theorem cutL_find:∀ {c:Code} {l:Nat} {r:Code},cutL c=some (l,r) -> findLabel c l=some (.seq .skip r):=by
 intro c
 induction c with
 | seq x y _ ihy =>
   intro l r h
   unfold cutL at h
   split at h
   · cases h
     simp [findLabel]
   · split at h
     · rename_i hn
       simp [findLabel,noLbl_find hn l,ihy h]
     · cases h
 | _=>intro l r h;cases h
section
variable {G:Ctx}
end
end Go.SE
namespace Go.SE
open Go.RowKit
variable {P:Program}
theorem RF.fin {R:RF} (hR:R.Ok) {fn:Nat} {ps:Array Nat} {a b:Code} (hrc:R.rc=fun s p=>{ state:=s,pending:=p,fn:=fn,tmps:=R.a0.tmps,params:=ps,assign:=a,body:=b,defers:=R.n0 })
   {stX:St} {s:LoopState} {p:Option Code} {Xit:Nat -> Prop} {w2:World} (hc:R.Core P stX s p Xit w2) (hsb:s ≠ .busy):∃ w3,(Instr.endLoop (R.n0+1)).run P w2=.ok p w3 /\
     Sat P R.G stX { R.a0 with defers:=[{ target:=.collected R.n0,args:=#[] }] ++ R.a0.defers } w3:=by
 obtain ⟨env2,M2,S2,⟨r1,r2⟩,hx,hMd,hMl,ho⟩:=hc
 have hend:=run_endLoop (P:=P) r1 (by rw [hrc];exact hsb)
 have hpend:(R.rc s p).pending=p:=by rw [hrc]
 rw [hpend] at hend
 obtain ⟨o2,hend⟩:∃ o2,(Instr.endLoop (R.n0+1)).run P w2=.ok p (w2.putObj (R.n0+1) o2):=⟨_,hend⟩
 refine ⟨_,hend,?_⟩
 have hblk:∀ b,b ≠ R.n0+1 -> (w2.putObj (R.n0+1) o2).heap[b]? = w2.heap[b]?:=fun b h=>World.putObj_heap_other h
 have hsz:(w2.putObj (R.n0+1) o2).heap.size=w2.heap.size:=by simp
 have hn1:=lt_of_some r1
 have hxL:R.xp w2 (R.n0+1):=.inr ⟨by omega,hn1⟩
 have hxD:R.xp w2 R.n0:=.inr ⟨by omega,by omega⟩
 have S3:SatC P R.G stX R.a0 (w2.putObj (R.n0+1) o2) env2 M2 (R.xp w2):=by
   refine S2.recast (Y:=fun b=>b=R.n0+1) ⟨hR.st _ _ w2 _ _ S2.gam.1 ⟨rfl,rfl,rfl,Nat.le_refl _,by omega,fun b hb hx'=>hblk b (fun e=>hx' (e ▸ hxL))⟩ (fun b h=>h) (fun b h=>.inl h),S2.gam.2⟩ (fun b h=>.inl h) (by omega) (fun b _ h=>hblk b h) (fun b e hm=>hMl (e ▸ hm))
     (fun k o hk' g' hg' e=>(ho k o g' hk' hg').2.2.2 e) (fun D hD e=>?_) (fun b h=>h) (fun b h=>by rw [hsz];exact S2.xlt b h)
   have:=hR.dlt D hD
   omega
 refine ⟨env2,M2,R.xp w2,S3.gam,S3.mx,S3.own,S3.oat,S3.inj,S3.nod,S3.mlt,S3.xlt,S3.siz,fun s' e h=>S3.tmp s' e h,fun s' e h=>S3.grd s' e h,fun d hd=>?_,?_⟩
 · rcases List.mem_append.1 hd with hd | hd
   · simp only [List.mem_singleton] at hd
     exact ⟨R.n0,hd,(hblk _ (by omega)).trans r2,hxD,hMd,fun k o hk' e=>(ho k o _ hk' e).2.2.1 rfl⟩
   · exact S3.dfr d hd
 · refine List.nodup_cons.2 ⟨fun hm=>?_,S3.dno⟩
   have:=hR.dlt _ hm
   omega
theorem nodupB_of:∀ {l:List Nat},l.Nodup -> nodupB l=true
 | [],_=>rfl
 | x :: l,h=>by
   obtain ⟨h1,h2⟩:=List.nodup_cons.1 h
   simp only [nodupB,Bool.and_eq_true,Bool.not_eq_true',List.contains_eq_mem,decide_eq_false_iff_not]
   exact ⟨h1,nodupB_of h2⟩
def RF.JT (P:Program) (R R':RF) (I:RfInv) (st:St) (cnt:Nat) (KT:Exit -> St -> Prop):Ctx :=
 { m0:=R.M0,g:=fun k Xit w=>(k <= cnt /\ ∃ t,I.inv k t /\ nodupB (keysO (I.own k t ++ I.keptO st))=true /\ R.Core P (I.head st k t) .ready none Xit w) \/ (k=cnt+1 /\ ∃ e c stJ,jumps e c /\ KT e stJ /\ R'.Core P stJ .done (some c) Xit w) }
theorem RF.JT_stable {R R':RF} (h:R.Ok) (h':R'.Ok) (I:RfInv) (st:St) (cnt:Nat) (KT:Exit -> St -> Prop):Stable (R.JT P R' I st cnt KT):=by
 intro k X w X' w' hg hs h1 h2
 rcases hg with ⟨hk,t,hi,hn,hc⟩ | ⟨hk,e,c,stJ,hj,hK,hc⟩
 · exact .inl ⟨hk,t,hi,hn,RF.core_stable h hc hs h1 h2⟩
 · exact .inr ⟨hk,e,c,stJ,hj,hK,RF.core_stable h' hc hs h1 h2⟩
def rfThaw (P:Program) (C:Cfg) (th:Nat -> Bool) (I IT:RfInv) (stF stT:St) (thawed:St -> Prop) (f:Operand) (ps:Array Nat) (a b:Code) (K KT:Exit -> St -> Prop):Prop :=
 match stF.rho none f with
 | some (.p (.clo g caps))=>match C.iters g with
   | some it => if noRf a && noRf b && C.yld.isNone && (I.keptT stF).all (fun x => !(ps.toList.contains x.1)) && (IT.keptT stT).all (fun x => !(ps.toList.contains x.1)) && nodupB ps.toList && ps.toList.all (fun p => decide (p < stF.nt)) && (stT.nt == stF.nt) then
       (it.pre caps /\ ∃ t:I.T,conj (fitO stF.own (I.own 0 t ++ I.keptO stF)) (I.inv 0 t)) /\
       (∀ k t,I.inv k t -> nodupB (keysO (I.own k t ++ I.keptO stF))=true /\ thawed (I.head stF k t)) /\
       (∀ k t,I.inv k t -> th k=true -> ∃ t',IT.inv k t') /\
       (∀ k t,th k=true -> IT.inv (k+1) t -> False) /\
       (∀ k,th k=false -> RoundVcK P C I stF ps (it.cnt caps) (it.item caps) a b (fun _ _=>False) k) /\
       (∀ k,th k=true -> RoundVcK P C IT stT ps (it.cnt caps) (it.item caps) a b KT k) /\
       (∀ t:I.T,I.inv (it.cnt caps) t -> K .normal (I.head stF (it.cnt caps) t))
     else False
   | none=>False
 | _=>False
theorem rfThaw_ok {G Gf:Ctx} (hG:Stable G) (hGf:Stable Gf) {C:Cfg} (hsp:∀ f sp,C.specs f=some sp -> SpecOk P f sp /\ Enters P f) (hit:ItersOk P C) {n:Nat} {th:Nat -> Bool} {I IT:RfInv} {stF stT:St} {f:Operand} {ps:Array Nat} {a b:Code} {K KT:Exit -> St -> Prop} {Q:Exit -> Act -> World -> Prop} {ac:Act} {w:World} {D:Nat -> Prop} {thawed:St -> Prop}
   (ha:Carries P C a) (hb:Carries P C b) (h:rfThaw P C th I IT stF stT thawed f ps a b K KT) (hD:∀ b,D b -> b < w.heap.size) (hIT:∀ k t,IT.own k t = []) (hndT:(stT.own.map (·.1)).Nodup)
   (hth:∀ (k:Nat) (t:I.T) (w':World) (env:Env) (M X:Nat -> Prop),thawed (I.head stF k t) -> SatC P Gf (I.head stF k t) ac w' env M X -> ∃ env',SatC P G stT ac w' env' (fun _=>False) (fun b=>X b \/ D b) /\
     ∀ kk o g,(kk,o) ∈ stT.own -> env'.at_ kk=some g -> D g \/ ∃ o',(kk,o') ∈ (I.head stF k t).own /\ env.at_ kk=some g)
   (hq:∀ e st' a' w',K e st' -> Sat P Gf st' a' w' -> Q e a' w') (hqT:∀ e st' a' w',KT e st' -> Sat P G st' a' w' -> Q e a' w') (hs:Sat P Gf stF ac w):(Code.rangeFunc f ps a b).wpIn (W none) n P Q ac w:=by
 unfold rfThaw at h
 split at h
 rotate_left
 · exact h.elim
 rename_i g caps hf
 split at h
 rotate_left
 · exact h.elim
 rename_i it hitg
 split at h
 rotate_left
 · exact h.elim
 rename_i hc
 simp only [Bool.and_eq_true,List.all_eq_true,decide_eq_true_eq,Bool.not_eq_true',List.contains_eq_mem,decide_eq_false_iff_not,Option.isNone_iff_eq_none,beq_iff_eq] at hc
 obtain ⟨⟨⟨⟨⟨⟨_,hcy⟩,hk⟩,hkT⟩,hnp⟩,hp⟩,hnt⟩:=hc
 obtain ⟨⟨hpre,t0,h0⟩,hnd,hto,hno,hvF,hvT,hdone⟩:=h
 obtain ⟨hO0,hinv0⟩:=conj_spec h0
 obtain ⟨env,M,X,S⟩:=hs
 obtain ⟨hitok,hen⟩:=hit.1 g it hitg
 have hfd:=rho_ok S (gd:=none) (fun q c v hq=>by cases hq) trivial hf
 rcases hfd with ⟨hfd⟩
 generalize hev:ac.eval f=vf at hfd
 cases hfd with
 | clo _ _ cvs hcl hcd =>
 refine wpIn_rangeFunc ?_
 intro fn hfn
 obtain ⟨R,hRd⟩:∃ R:RF,R = { G:=Gf,a0:=ac,M0:=M,X0:=X,n0:=w.heap.size,rc:=fun s p=>{ state:=s,pending:=p,fn:=fn,tmps:=ac.tmps,params:=ps,assign:=a,body:=b,defers:=w.heap.size } }:=⟨_,rfl⟩
 obtain ⟨R',hRd'⟩:∃ R':RF,R' = { G:=G,a0:=ac,M0:=fun _=>False,X0:=fun b=>X b \/ D b,n0:=w.heap.size,rc:=fun s p=>{ state:=s,pending:=p,fn:=fn,tmps:=ac.tmps,params:=ps,assign:=a,body:=b,defers:=w.heap.size } }:=⟨_,rfl⟩
 have hR:R.Ok:=by
   subst hRd
   refine ⟨hGf,S.mlt,S.xlt,fun D hD=>?_⟩
   obtain ⟨D',e,_,q,_⟩:=S.dfr _ hD
   have:D=D':=by simpa using e
   subst this;exact q
 have hR':R'.Ok:=by
   subst hRd'
   refine ⟨hG,fun b h=>h.elim,fun b h=>h.elim (S.xlt b) (hD b),fun D hD=>?_⟩
   obtain ⟨D',e,_,q,_⟩:=S.dfr _ hD
   have:D=D':=by simpa using e
   subst this;exact .inl q
 obtain ⟨W1,hW1⟩:∃ W1,(w.alloc (.deferred (some []))).alloc (.loop (R.rc .ready none))=W1:=⟨_,rfl⟩
 have hn0:R.n0=w.heap.size:=by rw [hRd]
 have hn0':R'.n0=w.heap.size:=by rw [hRd']
 have ha0:R.a0=ac:=by rw [hRd]
 have ha0':R'.a0=ac:=by rw [hRd']
 have hgx:R.G=Gf:=by rw [hRd]
 have hgx':R'.G=G:=by rw [hRd']
 have hrc:R.rc=fun s p=>{ state:=s,pending:=p,fn:=fn,tmps:=R.a0.tmps,params:=ps,assign:=a,body:=b,defers:=R.n0 }:=by rw [hRd]
 have hrc':R'.rc=fun s p=>{ state:=s,pending:=p,fn:=fn,tmps:=R'.a0.tmps,params:=ps,assign:=a,body:=b,defers:=R'.n0 }:=by rw [hRd']
 have hrr:R'.rc=R.rc:=by rw [hRd,hRd']
 have hL1:W1.heap[w.heap.size+1]? = some (.loop (R.rc .ready none)):=by
   rw [<- hW1];have:=World.alloc_heap_new (w.alloc (.deferred (some []))) (.loop (R.rc .ready none));rwa [World.size_alloc] at this
 have hK1:W1.heap[w.heap.size]? = some (.deferred (some [])):=by
   rw [<- hW1];exact (Below.heap_alloc _ _ _ (by simp)).trans (World.alloc_heap_new w _)
 have hbel:Below w.heap.size w W1:=by
   rw [<- hW1];exact (((Below.refl _ w).alloc (Nat.le_refl _) _).alloc (by simp) _)
 have hsame:Same (fun _=>False) w W1:=⟨hbel.os,hbel.tape,hbel.output,by rw [<- hW1];exact Nat.le_refl _,hbel.size,fun b hb _=>hbel.block b hb⟩
 have hsz1:W1.heap.size=w.heap.size+2:=by rw [<- hW1];simp [World.size_alloc]
 have S1:SatC P Gf stF ac W1 env M (R.xp W1):=by
   refine S.step hGf hsame (M':=M) (fun b h=>h) (fun b h=>.inl h) (fun b h=>by have:=S.mlt b h;omega) (fun b h=>.inl h) (fun b h=>by rw [hRd];exact .inl h) (fun b h=>?_) (fun b h=>?_)
   · rw [hRd] at h
     rcases h with h | h
     · exact .inl h
     · exact .inr h.1
   · rw [hRd] at h
     rcases h with h | h
     · have:=S.xlt b h;omega
     · exact h.2
 have hcore0:R.Core P (I.head stF 0 t0) .ready none (fun _=>False) W1:=by
   have hm0:R.M0=M:=by rw [hRd]
   refine ⟨env,M,?_,⟨by rw [hn0];exact hL1,by rw [hn0];exact hK1⟩,fun b h=>h.elim,fun h=>by have:=S.mlt _ h;omega,fun h=>by have:=S.mlt _ h;omega,fun k o g' hk' hg'=>?_⟩
   · rw [hgx,ha0]
     refine S1.refit (fun s e hm=>?_) (fun k o hm=>?_) (nodupB_ok (hnd 0 t0 hinv0).1) rfl rfl
     · obtain ⟨m1,m2⟩:=List.mem_filter.1 hm
       simp only [Bool.and_eq_true] at m2
       obtain ⟨q1,q2,_⟩:=S1.tmp _ _ m1
       have hgn:e.g=none:=by simpa [Ent.plain] using m2.2
       exact ⟨hgn,q1,q2 (ok_of_holds (by rw [hgn];trivial))⟩
     · exact fitO_ok S1 hO0 k o hm
   · obtain ⟨o',ho'⟩:=(fitO_ok S hO0 k o hk').1
     obtain ⟨q1,q2,q3⟩:=S.oat k o' ho' g' hg'
     exact ⟨by rw [hm0];exact q2,fun h=>h,by omega,by omega⟩
 -- a thawed round
 have thaw:∀ (k:Nat) (t:I.T) (t':IT.T) (Xit:Nat -> Prop) (w':World),I.inv k t -> R.Core P (I.head stF k t) .ready none Xit w' -> R'.Core P (IT.head stT k t') .ready none Xit w':=by
   intro k t t' Xit w' hinv ⟨env2,M2,S2,⟨r1,r2⟩,hx,hMd,hMl,ho⟩
   rw [hgx,ha0] at S2
   obtain ⟨env3,S3,hown⟩:=hth k t w' env2 M2 _ (hnd k t hinv).2 S2
   have hxp:(fun b=>R.xp w' b \/ D b)=R'.xp w':=by
     funext b
     refine propext ?_
     unfold RF.xp
     rw [hRd,hRd']
     constructor
     · rintro ((h | h) | h)
       · exact .inl (.inl h)
       · exact .inr h
       · exact .inl (.inr h)
     · rintro ((h | h) | h)
       · exact .inl (.inl h)
       · exact .inr h
       · exact .inl (.inr h)
   rw [hxp] at S3
   have hsub:∀ kk o,(kk,o) ∈ (IT.head stT k t').own -> (kk,o) ∈ stT.own:=fun kk o hm=>by
     have hm:(kk,o) ∈ IT.own k t' ++ IT.keptO stT:=hm
     rw [hIT,List.nil_append] at hm
     exact (List.mem_filter.1 hm).1
   refine ⟨env3,fun _=>False,?_,⟨by rw [hn0',hrr,<- hn0];exact r1,by rw [hn0',<- hn0];exact r2⟩,fun b hb=>⟨by rw [hn0',<- hn0];exact (hx b hb).1,fun h=>h⟩,fun h=>h,fun h=>h,fun kk o g' hk' hg'=>?_⟩
   · rw [hgx',ha0']
     refine S3.refit (fun s e hm=>?_) (fun kk o hm=>⟨⟨o,hsub kk o hm⟩,S3.own kk o (hsub kk o hm)⟩) ?_ rfl rfl
     · obtain ⟨m1,m2⟩:=List.mem_filter.1 hm
       simp only [Bool.and_eq_true] at m2
       obtain ⟨q1,q2,_⟩:=S3.tmp _ _ m1
       have hgn:e.g=none:=by simpa [Ent.plain] using m2.2
       exact ⟨hgn,q1,q2 (ok_of_holds (by rw [hgn];trivial))⟩
     · show ((IT.own k t' ++ IT.keptO stT).map (·.1)).Nodup
       rw [hIT,List.nil_append]
       exact hndT.sublist (List.Sublist.map _ List.filter_sublist)
   · refine ⟨by rw [hRd'];exact fun h=>h,?_⟩
     rw [hn0']
     rcases hown kk o g' (hsub kk o hk') hg' with hd | ⟨o',ho',hg2⟩
     · have:=hD g' hd
       exact ⟨fun e=>by have:=(hx g' e).1;omega,by omega,by omega⟩
     · obtain ⟨_,q2,q3,q4⟩:=ho kk o' g' ho' hg2
       exact ⟨q2,by rw [<- hn0];exact q3,by rw [<- hn0];exact q4⟩
 have hsizF:R.a0.tmps.size=stF.nt:=by rw [ha0];exact S.siz
 have hsizT:R'.a0.tmps.size=stT.nt:=by rw [ha0',hnt];exact S.siz
 have hyo:∀ C':Cfg,C'.yld=some ⟨w.heap.size+1,it.cnt caps,it.item caps⟩ -> YieldsOk P (R.JT P R' I stF (it.cnt caps) KT) C':=by
   intro C' hy y hy' k Xit w' vals hlt hg hXl hd
   rw [hy] at hy'
   cases hy'
   simp only at hlt hd
   rcases hg with ⟨_,t,hinv,_,hco⟩ | ⟨he,_⟩
   rotate_left
   · omega
   cases htk:th k with
   | false =>
     obtain ⟨fn1,tm,asg,bo,e1,e2⟩:=RF.round_at hR hsp hcy hit hrc ha hb (hvF k htk) (fun k t _ hi=>(hnd k t hi).1) hnp hp (fun x h=>hk x h) (by rw [ha0];exact S.dno) hsizF hlt hinv hco hXl hd
     rw [hn0] at e1 e2
     refine ⟨fn1,tm,asg,bo,e1,roundIn_mono e2 fun e w2 ⟨bb,q1,q2,q3,q4⟩=>⟨bb,q1,q2,?_,?_⟩⟩
     · exact q3
     · rcases q4 with q4 | ⟨_,_,_,_,_,q5,_⟩
       · exact .inl q4
       · exact q5.elim
   | true =>
     obtain ⟨t',hit'⟩:=hto k t hinv htk
     have hndI:∀ k t,k <= it.cnt caps -> IT.inv k t -> nodupB (keysO (IT.own k t ++ IT.keptO stT))=true:=fun k t _ _=>by
       rw [hIT,List.nil_append]
       exact nodupB_of (hndT.sublist (List.Sublist.map _ List.filter_sublist))
     obtain ⟨fn1,tm,asg,bo,e1,e2⟩:=RF.round_at hR' hsp hcy hit hrc' ha hb (hvT k htk) hndI hnp (fun p h=>by rw [hnt];exact hp p h) (fun x h=>hkT x h) (by rw [ha0'];exact S.dno) hsizT hlt hit' (thaw k t t' Xit w' hinv hco) hXl hd
     rw [hn0'] at e1 e2
     refine ⟨fn1,tm,asg,bo,e1,roundIn_mono e2 fun e w2 ⟨bb,q1,q2,q3,q4⟩=>?_⟩
     rcases q4 with ⟨q4,t2,q5,_⟩ | ⟨q4,q5⟩
     · cases bb with
       | true=>exact (hno k t2 htk q5).elim
       | false=>exact absurd q4 (by show ¬ it.cnt caps+1 <= it.cnt caps;omega)
     · cases bb with
       | true=>exact absurd q4 (by show ¬ k+1=it.cnt caps+1;omega)
       | false=>exact ⟨false,q1,q2,fun c hc h=>q3 c hc (h.imp (fun h=>by cases h.1) id),.inr ⟨q4,q5⟩⟩
 have hcall:=hitok (R.JT P R' I stF (it.cnt caps) KT) (RF.JT_stable hR hR' I stF (it.cnt caps) KT) (w.heap.size+1) W1 caps cvs hpre (fun b h=>by rw [show (R.JT P R' I stF (it.cnt caps) KT).m0=M by rw [hRd];rfl] at h;have:=S.mlt b h;omega)
   ⟨hcl,fun i hi=>by rw [show (R.JT P R' I stF (it.cnt caps) KT).m0=M by rw [hRd];rfl];exact (hcd i hi).later ⟨hsame.size,fun b hb=>hsame.block b (S.mlt b hb) (fun h=>h),fun _ h=>h⟩⟩
   (.inl ⟨Nat.zero_le _,t0,hinv0,(hnd 0 t0 hinv0).1,hcore0⟩) hyo
 refine ⟨w.heap.size+1,[{ target:=.collected w.heap.size,args:=#[] }],W1,{ target:=.fn (.func g) cvs.toArray,args:=#[.func (.yield (w.heap.size+1)) #[] #[]] },W1,g,#[.func (.yield (w.heap.size+1)) #[] #[]] ++ cvs.toArray,W1,?_,?_,fun _ _=>trivial,?_,fun hx=>by simp [W,Fence.wide] at hx,?_⟩
 · have:=run_enterLoop_outer (P:=P) (w:=w) fn ac.tmps ps a b
   rw [show (W none).round=none from rfl,this,<- hW1,hRd]
 · simp only [resolve,hev]
   simp [go_sem]
 · simp only [invoke,go_sem]
   simp
   exact hen _ W1
 · refine calls_W (callsIn_mono hcall ?_)
   rintro e w2 ⟨v,Xit,rfl,hg | hg⟩
   · rcases hg with ⟨_,t,hinv,_,hcore⟩ | ⟨he,_⟩
     rotate_left
     · omega
     obtain ⟨w3,hend,hs3⟩:=RF.fin hR hrc hcore (by simp)
     rw [hn0] at hend hs3
     rw [hgx,ha0] at hs3
     exact ⟨none,w3,hend,hq _ _ _ _ (hdone t hinv) hs3⟩
   · rcases hg with ⟨he,_⟩ | ⟨_,e,c,stJ,hj,hK,hcore⟩
     · omega
     obtain ⟨w3,hend,hs3⟩:=RF.fin hR' hrc' hcore (by simp)
     rw [hn0'] at hend hs3
     rw [hgx',ha0'] at hs3
     refine ⟨some c,w3,hend,?_⟩
     cases e with
     | ret=>subst hj;exact wpIn_ret (hqT _ _ _ _ hK hs3)
     | exit id=>subst hj;exact wpIn_exit (hqT _ _ _ _ hK hs3)
     | goto l=>subst hj;exact wpIn_goto (hqT _ _ _ _ hK hs3)
     | normal=>exact hj.elim
     | panic _=>exact hj.elim
     | outgrown=>exact hj.elim
structure Lend where
 s:Nat
 k:Nat
 r:Nat
 tS:TypeId
 e:TypeId
 sz:Nat
 n:Nat
 m:Nat
 get:Nat -> List SV
 TR:List (Nat × Ent)
 OR:List (Nat × Own)
def Lend.thawed (L:Lend) (st:St):St:={ st with T:=(L.s,⟨none,.loc L.k 0⟩) :: L.TR,own:=(L.k,.blk L.tS [.rsub L.r L.sz 0 L.m]) :: (L.r,.row L.e L.sz L.n L.get) :: L.OR }
def Lend.frozen (L:Lend) (st:St) (v:Value):St:={ st with T:=(L.s,⟨none,.p (.ref [.sl L.sz L.m L.get] 0)⟩) :: (L.s,⟨none,.p (.raw v)⟩) :: L.TR,own:=L.OR }
def restE (k r:Nat) (x:Nat × Ent):Bool:=x.2.g.isNone && (match x.2.v with
 | .loc k' _=>!(k' == k) && !(k' == r)
 | e=>scalE e)
def restO (k r:Nat) (x:Nat × Own):Bool:=!(x.1 == k) && !(x.1 == r) && (match x.2 with
 | .blk _ cs=>cs.all scalE
 | _=>false)
def Lend.fine (L:Lend) (st:St):Bool:=L.TR.all (restE L.k L.r) && L.OR.all (restO L.k L.r) && !(L.k == L.r) && decide (L.k < st.nt) && decide (L.r < st.nt) && decide (L.s < st.nt) && nodupB (L.OR.map (·.1)) && decide (0 < L.n) && decide (L.m <= L.n)
def Lend.plain (L:Lend):Prop:=∀ i,i < L.n -> noMem.noMems (L.get i)=true
def lentCtx (G:Ctx) (D:Nat -> Prop) (w:World):Ctx :=
 { m0:=fun b=>G.m0 b \/ D b,pin:=G.pin,pe:=G.pe,g:=fun k X w'=>G.g k (fun b=>X b \/ D b) w' /\ ∀ b,D b -> ¬ X b /\ b < w'.heap.size /\ w'.heap[b]? = w.heap[b]? }
theorem lentCtx_stable {G:Ctx} (hG:Stable G) (D:Nat -> Prop) (w:World):Stable (lentCtx G D w):=by
 intro k X w1 X' w' ⟨h1,h2⟩ hs hx hx'
 refine ⟨hG _ _ w1 _ _ h1 ⟨hs.os,hs.tape,hs.output,hs.drawn,hs.size,fun b hb hn=>hs.block b hb (fun e=>hn (.inl e))⟩ (fun b hb=>hb.imp (hx b) id) (fun b hb=>?_),fun b hb=>?_⟩
 · rcases hb with hb | hb
   · exact (hx' b hb).imp .inl id
   · exact .inl (.inr hb)
 · obtain ⟨q1,q2,q3⟩:=h2 b hb
   refine ⟨fun e=>?_,Nat.lt_of_lt_of_le q2 hs.size,(hs.block b q2 q1).trans q3⟩
   rcases hx' b e with h | h
   · exact q1 h
   · omega
theorem unlend {G:Ctx} {D:Nat -> Prop} {w0:World} {st:St} {a:Act} {w:World} (hs:Sat P (lentCtx G D w0) st a w):Sat P G st a w:=by
 obtain ⟨env,M,X,S⟩:=hs
 obtain ⟨⟨g1,g2⟩,gp⟩:=S.gam
 refine ⟨env,M,fun b=>X b \/ D b,⟨g1,gp⟩,fun b hb=>?_,S.own,fun k o h g hg=>⟨.inl (S.oat k o h g hg).1,(S.oat k o h g hg).2⟩,S.inj,S.nod,S.mlt,fun b hb=>hb.elim (S.xlt b) (fun h=>(g2 b h).2.1),S.siz,S.tmp,S.grd,fun d hd=>?_,S.dno⟩
 · rcases S.mx b hb with (h | h) | h
   · exact .inl h
   · exact .inr (.inr h)
   · exact .inr (.inl h)
 · obtain ⟨D',e,q1,q2,q3,q4⟩:=S.dfr d hd
   exact ⟨D',e,q1,.inl q2,q3,q4⟩
theorem scalE_den {M M':Nat -> Prop} {w w':World} {env env':Env} {e:EV} {v:Value} (hs:scalE e=true) (h:DenE P M w env e v):DenE P M' w' env' e v:=by
 cases h with
 | p hp=>exact .p (scalS_ok hp hs)
 | yield=>exact .yield
 | any=>exact .any
 | _=>cases hs
theorem restE_den {M M':Nat -> Prop} {w w':World} {env env':Env} {k r:Nat} {x:Nat × Ent} {v:Value} (hx:restE k r x=true) (he:∀ q,q ≠ k -> q ≠ r -> env'.at_ q=env.at_ q) (h:DenE P M w env x.2.v v):DenE P M' w' env' x.2.v v:=by
 unfold restE at hx
 simp only [Bool.and_eq_true] at hx
 obtain ⟨_,hx⟩:=hx
 generalize x.2.v=e at hx h
 cases h with
 | loc h1 =>
   simp only [Bool.and_eq_true,Bool.not_eq_true',beq_eq_false_iff_ne,ne_eq] at hx
   exact .loc ((he _ hx.1 hx.2).trans h1)
 | p hp=>exact scalE_den hx (.p hp:DenE P M w env _ _)
 | yield=>exact .yield
 | any=>exact .any
 | _=>cases hx
theorem fine_spec {L:Lend} {st:St} (h:L.fine st=true):(∀ x,x ∈ L.TR -> restE L.k L.r x=true) /\ (∀ x,x ∈ L.OR -> restO L.k L.r x=true) /\ L.k ≠ L.r /\ (L.k < st.nt /\ L.r < st.nt /\ L.s < st.nt) /\ (L.OR.map (·.1)).Nodup /\ 0 < L.n /\ L.m <= L.n:=by
 unfold Lend.fine at h
 simp only [Bool.and_eq_true,List.all_eq_true,Bool.not_eq_true',beq_eq_false_iff_ne,ne_eq,decide_eq_true_eq] at h
 obtain ⟨⟨⟨⟨⟨⟨⟨⟨h1,h2⟩,h3⟩,h4⟩,h5⟩,h6⟩,h7⟩,h8⟩,h9⟩:=h
 exact ⟨h1,h2,h3,⟨h4,h5,h6⟩,nodupB_ok h7,h8,h9⟩
theorem restO_spec {k r:Nat} {k':Nat} {o:Own} (h:restO k r (k',o)=true):k' ≠ k /\ k' ≠ r /\ ∃ t cs,o=.blk t cs /\ ∀ c,c ∈ cs -> scalE c=true:=by
 unfold restO at h
 simp only [Bool.and_eq_true,Bool.not_eq_true',beq_eq_false_iff_ne,ne_eq] at h
 obtain ⟨⟨h1,h2⟩,h3⟩:=h
 cases o with
 | blk t cs=>exact ⟨h1,h2,t,cs,rfl,List.all_eq_true.1 h3⟩
 | row _ _ _ _=>cases h3
 | mp _ _ _=>cases h3
 | mq _ _ _ _=>cases h3
theorem evAt_mem {cs:List EV} {i:Nat} (h:i < cs.length):EV.at cs i ∈ cs:=by
 simp only [EV.at,List.getD_eq_getElem?_getD,List.getElem?_eq_getElem h,Option.getD_some]
 exact List.getElem_mem h
theorem restO_own {k r:Nat} {k':Nat} {o:Own} (h:restO k r (k',o)=true) {M M':Nat -> Prop} {w w':World} {env env':Env} (he:∀ q,q ≠ k -> q ≠ r -> env'.at_ q=env.at_ q) (hb:∀ g,env.at_ k'=some g -> w'.heap[g]? = w.heap[g]?) (ho:OwnOk P M w env k' o):OwnOk P M' w' env' k' o:=by
 obtain ⟨h1,h2,t,cs,rfl,h3⟩:=restO_spec h
 obtain ⟨g,vs,ha,hh,hz,hd⟩:=ho
 exact ⟨g,vs,(he k' h1 h2).trans ha,(hb g ha).trans hh,hz,fun i hi=>⟨(hd i hi).1,scalE_den (h3 _ (evAt_mem hi)) (hd i hi).2⟩⟩
theorem lend_ok {G:Ctx} {L:Lend} {st:St} (hf:L.fine st=true) (hp:L.plain) {a:Act} {w:World} (hs:Sat P G (L.thawed st) a w) :
   ∃ (v:Value) (D:Nat -> Prop),(∀ b,D b -> b < w.heap.size) /\ Sat P (lentCtx G D w) (L.frozen st v) a w /\
     ∀ (stK:St) (a':Act) (w':World) (env:Env) (M X:Nat -> Prop),stK.nt=st.nt -> stK.yk=st.yk -> all (fitT stK.T (L.frozen st v).T ++ fitO stK.own L.OR) -> SatC P (lentCtx G D w) stK a' w' env M X ->
       ∃ env',SatC P G (L.thawed st) a' w' env' (fun _=>False) (fun b=>X b \/ D b) /\ ∀ kk o g,(kk,o) ∈ (L.thawed st).own -> env'.at_ kk=some g -> D g \/ ∃ o',(kk,o') ∈ stK.own /\ env.at_ kk=some g:=by
 obtain ⟨hTR,hOR,hkr,⟨hkn,hrn,hsn⟩,hndO,hn0,hmn⟩:=fine_spec hf
 obtain ⟨env,M,X,S⟩:=hs
 have mk:(L.k,Own.blk L.tS [.rsub L.r L.sz 0 L.m]) ∈ (L.thawed st).own:=List.mem_cons_self ..
 have mr:(L.r,Own.row L.e L.sz L.n L.get) ∈ (L.thawed st).own:=List.mem_cons_of_mem _ (List.mem_cons_self ..)
 have mo:∀ x,x ∈ L.OR -> x ∈ (L.thawed st).own:=fun x h=>List.mem_cons_of_mem _ (List.mem_cons_of_mem _ h)
 obtain ⟨g2,vs,hk2,hh2,hl2,hc2⟩:=S.own _ _ mk
 obtain ⟨hmx,hgl,alt⟩:=S.own _ _ mr
 rcases alt with ⟨_,_,h0⟩ | ⟨gR,cap,cur,hkR,hrv,hhR,hnc,hcm,hcs,hcells⟩
 · omega
 obtain ⟨xk,yk1,zk⟩:=S.oat _ _ mk g2 hk2
 obtain ⟨xr,yr,zr⟩:=S.oat _ _ mr gR hkR
 have hne:g2 ≠ gR:=fun e=>S.inj _ _ _ _ mk mr hkr g2 hk2 (e ▸ hkR)
 have hv0:=hc2 0 (by simp)
 obtain ⟨v0,hv0e⟩:∃ v0,vs.getD 0 undef=v0:=⟨_,rfl⟩
 rw [hv0e] at hv0
 have hsz1:vs.size=1:=hl2
 have hvs0:vs[0]? = some v0:=by
   have:vs.getD 0 undef=v0:=hv0e
   simp only [Array.getD_eq_getD_getElem?] at this
   rw [Array.getElem?_eq_getElem (by omega)] at this ⊢
   exact congrArg some this
 obtain ⟨hoc,hden⟩:=hv0
 have hden:DenE P M w env (.rsub L.r L.sz 0 L.m) v0:=hden
 have hslot:=(S.tmp L.s _ (List.mem_cons_self ..)).2.1 trivial
 have hslot:DenE P M w env (.loc L.k 0) (a.eval (.tmp L.s)):=hslot
 obtain ⟨v,hv⟩:∃ v,a.eval (.tmp L.s)=v:=⟨_,rfl⟩
 rw [hv] at hslot
 have hvp:v=.pointer (some ⟨g2,0,none⟩):=by
   cases hslot with
   | loc h=>rw [hk2] at h;cases h;rfl
 have sO:∀ k' o g,(k',o) ∈ L.OR -> env.at_ k'=some g -> g ≠ g2 /\ g ≠ gR:=fun k' o g ho hg=>by
   obtain ⟨n1,n2,_⟩:=restO_spec (hOR _ ho)
   exact ⟨fun e=>S.inj _ _ _ _ (mo _ ho) mk n1 g hg (e ▸ hk2),fun e=>S.inj _ _ _ _ (mo _ ho) mr n2 g hg (e ▸ hkR)⟩
 have hcells':∀ (M':Nat -> Prop) (w':World),w'.heap[gR]? = w.heap[gR]? -> ∀ i,i < L.n -> ∀ j,j < L.sz -> w'.cell? ⟨gR,i * L.sz+j,none⟩=some (cur.getD (i * L.sz+j) undef) /\ (cur.getD (i * L.sz+j) undef).oneCell'=true /\ DenP M' w' (SV.at (L.get i) j) (cur.getD (i * L.sz+j) undef):=fun M' w' hw i hi j hj=>by
   obtain ⟨q1,q2⟩:=hcells i hi j hj
   have hlt:i * L.sz+j < cur.size:=by
     rw [hcs]
     have h1:(i+1) * L.sz <= cap * L.sz:=Nat.mul_le_mul_right _ (by omega)
     rw [Nat.add_mul] at h1
     omega
   refine ⟨?_,q1,noMem_ok q2 ?_⟩
   · rw [cell_blk (hw.trans hhR),Array.getElem?_eq_getElem hlt,Array.getD_eq_getD_getElem?,Array.getElem?_eq_getElem hlt];rfl
   · exact noMem_ok.noMems_at (hp i hi) j (by rw [hgl i hi];exact hj)
 refine ⟨v,fun b=>b=g2 \/ b=gR,fun b hb=>by rcases hb with rfl | rfl <;> assumption,⟨env,fun b=>b=g2 \/ b=gR,fun b=>X b /\ ¬ (b=g2 \/ b=gR),?_⟩,?_⟩
 · have hX : (fun b => (X b /\ ¬ (b = g2 \/ b = gR)) \/ (b = g2 \/ b = gR)) = X := by
     funext b
     refine propext ⟨fun h=>?_,fun h=>?_⟩
     · rcases h with h | rfl | rfl
       · exact h.1
       · exact xk
       · exact xr
     · by_cases hb:b=g2 \/ b=gR
       · exact .inr hb
       · exact .inl ⟨h,hb⟩
   refine ⟨⟨⟨by rw [hX];exact S.gam.1,fun b hb=>⟨fun h=>h.2 hb,by rcases hb with rfl | rfl <;> assumption,rfl⟩⟩,S.gam.2⟩,fun b hb=>.inl (.inr hb),fun k' o ho=>restO_own (hOR _ ho) (fun _ _ _=>rfl) (fun _ _=>rfl) (S.own _ _ (mo _ ho)),fun k' o ho g hg=>?_,fun k1 o1 k2 o2 h1 h2=>S.inj _ _ _ _ (mo _ h1) (mo _ h2),hndO,fun b hb=>by rcases hb with rfl | rfl <;> assumption,fun b hb=>S.xlt b hb.1,S.siz,?_,?_,fun d hd=>?_,S.dno⟩
   · obtain ⟨q1,q2,q3⟩:=S.oat _ _ (mo _ ho) g hg
     obtain ⟨n1,n2⟩:=sO k' o g ho hg
     have hn:¬ (g=g2 \/ g=gR):=fun h=>h.elim n1 n2
     exact ⟨⟨q1,hn⟩,hn,q3⟩
   · intro s' e' hm
     have hm:(s',e') ∈ (L.s,(⟨none,.p (.ref [.sl L.sz L.m L.get] 0)⟩:Ent)) :: (L.s,⟨none,.p (.raw v)⟩) :: L.TR:=hm
     rcases List.mem_cons.1 hm with hm | hm
     · cases hm
       refine ⟨hsn,fun _=>?_,fun h=>absurd trivial h⟩
       rw [hv,hvp]
       refine .p (.ref [.sl L.sz L.m L.get] 0 (fun _=>v0) ⟨g2,0,none⟩ (.inl rfl) (fun j hj=>?_) (fun j hj=>hoc) (fun j hj=>?_))
       · obtain rfl:j=0:=by simpa using hj
         show w.cell? ⟨g2,0,none⟩=some v0
         rw [cell_blk hh2];exact hvs0
       · obtain rfl:j=0:=by simpa using hj
         show DenP _ w (.sl L.sz L.m L.get) v0
         cases hden with
         | rsub A cap' hc hm hA =>
           refine .sl _ _ _ A cap' (fun i j=>cur.getD (i * L.sz+j) undef) hc hm (fun hpos=>?_) (fun i hi=>hgl i (by omega)) (fun i hi j hj=>(hcells' (fun _=>False) w rfl i (by omega) j hj).2.1) (fun i hi j hj=>(hcells' _ w rfl i (by omega) j hj).2.2)
           obtain ⟨g',hg',hA'⟩:=hA hpos
           rw [hkR] at hg';cases hg'
           rw [Nat.zero_mul] at hA'
           refine ⟨⟨gR,0,none⟩,hA',.inr rfl,fun i hi j hj=>?_⟩
           rw [Addr.add_lit,Nat.zero_add]
           exact (hcells' (fun _=>False) w rfl i (by omega) j hj).1
     · rcases List.mem_cons.1 hm with hm | hm
       · cases hm
         exact ⟨hsn,fun _=>by rw [hv];exact .p (.raw v),fun h=>absurd trivial h⟩
       · obtain ⟨q1,q2,q3⟩:=S.tmp s' e' (List.mem_cons_of_mem _ hm)
         exact ⟨q1,fun ho=>restE_den (hTR _ hm) (fun _ _ _=>rfl) (q2 ho),q3⟩
   · intro s' e' hm q c x hq
     have hm:(s',e') ∈ (L.s,(⟨none,.p (.ref [.sl L.sz L.m L.get] 0)⟩:Ent)) :: (L.s,⟨none,.p (.raw v)⟩) :: L.TR:=hm
     rcases List.mem_cons.1 hm with hm | hm
     · cases hm;cases hq
     · rcases List.mem_cons.1 hm with hm | hm
       · cases hm;cases hq
       · exact S.grd s' e' (List.mem_cons_of_mem _ hm) q c x hq
   · obtain ⟨D',e,q1,q2,q3,q4⟩:=S.dfr d hd
     have hn:¬ (D'=g2 \/ D'=gR):=fun h=>h.elim (fun h=>q4 _ _ mk (h ▸ hk2)) (fun h=>q4 _ _ mr (h ▸ hkR))
     exact ⟨D',e,q1,⟨q2,hn⟩,hn,fun k' o ho=>q4 _ _ (mo _ ho)⟩
 · intro stK a' w' env1 M1 X1 hnt hyk hfit S1
   obtain ⟨hT,hO⟩:=all_append hfit
   obtain ⟨⟨gg1,gg2⟩,gp⟩:=S1.gam
   obtain ⟨d1,d2,d3⟩:=gg2 g2 (.inl rfl)
   obtain ⟨r1,r2,r3⟩:=gg2 gR (.inr rfl)
   have fT:=fitT_ok S1 hT
   have fO:=fitO_ok S1 hO
   let env':Env:={ env1 with at_:=fun q=>if q=L.k then some g2 else if q=L.r then some gR else env1.at_ q,rv:=fun q=>if q=L.r then .slice (some ⟨gR,0,none⟩) L.n cap else env1.rv q }
   have e1:env'.at_ L.k=some g2:=if_pos rfl
   have e2:env'.at_ L.r=some gR:=by show (if L.r=L.k then _ else _)=_;rw [if_neg (fun h=>hkr h.symm),if_pos rfl]
   have e3:∀ q,q ≠ L.k -> q ≠ L.r -> env'.at_ q=env1.at_ q:=fun q h1 h2=>by show (if q=L.k then _ else _)=_;rw [if_neg h1,if_neg h2]
   have e4:env'.rv L.r=.slice (some ⟨gR,0,none⟩) L.n cap:=if_pos rfl
   have cases3:∀ k' o,(k',o) ∈ (L.thawed st).own -> (k'=L.k /\ o=.blk L.tS [.rsub L.r L.sz 0 L.m]) \/ (k'=L.r /\ o=.row L.e L.sz L.n L.get) \/ (k',o) ∈ L.OR:=fun k' o hm=>by
     rcases List.mem_cons.1 hm with hm | hm
     · cases hm;exact .inl ⟨rfl,rfl⟩
     · rcases List.mem_cons.1 hm with hm | hm
       · cases hm;exact .inr (.inl ⟨rfl,rfl⟩)
       · exact .inr (.inr hm)
   have atO:∀ k' o g,(k',o) ∈ L.OR -> env'.at_ k'=some g -> env1.at_ k'=some g /\ ∃ o',(k',o') ∈ stK.own:=fun k' o g ho hg=>by
     obtain ⟨n1,n2,_⟩:=restO_spec (hOR _ ho)
     rw [e3 k' n1 n2] at hg
     exact ⟨hg,(fO k' o ho).1⟩
   have raw:a'.eval (.tmp L.s)=v:=by
     have:=(fT L.s _ (List.mem_cons_of_mem _ (List.mem_cons_self ..))).2.2
     have:DenE P M1 w' env1 (.p (.raw v)) (a'.eval (.tmp L.s)):=this
     generalize a'.eval (.tmp L.s)=u at this
     rcases this with ⟨this⟩
     cases this;rfl
   refine ⟨env',⟨⟨by show G.g st.yk _ w';rw [<- hyk];exact gg1,fun q hq=>?_⟩,fun b hb=>hb.elim,fun k' o hm=>?_,fun k' o hm g hg=>?_,fun k1 o1 k2 o2 h1 h2 hk12 g hg1 hg2=>?_,S.nod,fun b hb=>hb.elim,fun b hb=>?_,by rw [S1.siz];exact hnt,fun s' e' hm=>?_,fun s' e' hm q c x hq=>?_,fun d hd=>?_,S1.dno⟩,fun kk o g hm hg=>?_⟩
   · obtain ⟨p1,p2,p3⟩:=gp q hq
     have p1:st.nt <= q:=by rw [<- hnt];exact p1
     have n1:q ≠ L.k:=by omega
     have n2:q ≠ L.r:=by omega
     refine ⟨p1,(e3 q n1 n2).trans p2,?_⟩
     show (if q=L.r then _ else env1.rv q)=_
     rw [if_neg n2];exact p3
   · rcases cases3 k' o hm with ⟨rfl,rfl⟩ | ⟨rfl,rfl⟩ | hm
     · refine ⟨g2,vs,e1,d3.trans hh2,hl2,fun i hi=>?_⟩
       obtain rfl:i=0:=by simpa using hi
       rw [hv0e]
       refine ⟨hoc,?_⟩
       show DenE P _ w' env' (.rsub L.r L.sz 0 L.m) v0
       cases hden with
       | rsub A cap' hc hm hA =>
         exact .rsub A cap' hc hm (fun hpos=>by
           obtain ⟨g',hg',hA'⟩:=hA hpos
           rw [hkR] at hg';cases hg'
           exact ⟨gR,e2,hA'⟩)
     · exact ⟨hmx,hgl,.inr ⟨gR,cap,cur,e2,e4,r3.trans hhR,hnc,hcm,hcs,fun i hi j hj=>⟨(hcells' (fun _=>False) w' r3 i hi j hj).2.1,(hcells' _ w' r3 i hi j hj).2.2⟩⟩⟩
     · exact restO_own (hOR _ hm) e3 (fun _ _=>rfl) (fO k' o hm).2
   · rcases cases3 k' o hm with ⟨rfl,rfl⟩ | ⟨rfl,rfl⟩ | hm
     · rw [e1] at hg;cases hg;exact ⟨.inr (.inl rfl),fun h=>h,d2⟩
     · rw [e2] at hg;cases hg;exact ⟨.inr (.inr rfl),fun h=>h,r2⟩
     · obtain ⟨hg,o',ho'⟩:=atO k' o g hm hg
       obtain ⟨q1,_,q3⟩:=S1.oat _ _ ho' g hg
       exact ⟨.inl q1,fun h=>h,q3⟩
   · have out : ∀ k' o, (k', o) ∈ L.OR -> env'.at_ k' = some g -> g ≠ g2 /\ g ≠ gR := fun k' o ho hg => by
       obtain ⟨hg,o',ho'⟩:=atO k' o g ho hg
       have q1:=(S1.oat _ _ ho' g hg).1
       exact ⟨fun e=>d1 (e ▸ q1),fun e=>r1 (e ▸ q1)⟩
     rcases cases3 k1 o1 h1 with ⟨rfl,rfl⟩ | ⟨rfl,rfl⟩ | h1' <;> rcases cases3 k2 o2 h2 with ⟨rfl,rfl⟩ | ⟨rfl,rfl⟩ | h2'
     · exact hk12 rfl
     · rw [e1] at hg1;rw [e2] at hg2;cases hg1;cases hg2;exact hne rfl
     · rw [e1] at hg1;cases hg1;exact (out k2 o2 h2' hg2).1 rfl
     · rw [e2] at hg1;rw [e1] at hg2;cases hg1;cases hg2;exact hne rfl
     · exact hk12 rfl
     · rw [e2] at hg1;cases hg1;exact (out k2 o2 h2' hg2).2 rfl
     · rw [e1] at hg2;cases hg2;exact (out k1 o1 h1' hg1).1 rfl
     · rw [e2] at hg2;cases hg2;exact (out k1 o1 h1' hg1).2 rfl
     · obtain ⟨hg1,o1',ho1⟩:=atO k1 o1 g h1' hg1
       obtain ⟨hg2,o2',ho2⟩:=atO k2 o2 g h2' hg2
       exact S1.inj _ _ _ _ ho1 ho2 hk12 g hg1 hg2
   · rcases hb with hb | rfl | rfl
     · exact S1.xlt b hb
     · exact d2
     · exact r2
   · have hm:(s',e') ∈ (L.s,(⟨none,.loc L.k 0⟩:Ent)) :: L.TR:=hm
     rcases List.mem_cons.1 hm with hm | hm
     · cases hm
       exact ⟨hsn,fun _=>by rw [raw,hvp];exact .loc e1,fun h=>absurd trivial h⟩
     · obtain ⟨q1,q2,q3⟩:=fT s' e' (List.mem_cons_of_mem _ (List.mem_cons_of_mem _ hm))
       refine ⟨by show s' < st.nt;rw [<- hnt];exact q2,fun _=>restE_den (hTR _ hm) e3 q3,fun h=>absurd (ok_of_holds (by rw [q1];trivial)) h⟩
   · have hm:(s',e') ∈ (L.s,(⟨none,.loc L.k 0⟩:Ent)) :: L.TR:=hm
     rcases List.mem_cons.1 hm with hm | hm
     · cases hm;cases hq
     · rw [(fT s' e' (List.mem_cons_of_mem _ (List.mem_cons_of_mem _ hm))).1] at hq;cases hq
   · obtain ⟨D',e,q1,q2,q3,q4⟩:=S1.dfr d hd
     refine ⟨D',e,q1,.inl q2,fun h=>h,fun k' o hm hg=>?_⟩
     rcases cases3 k' o hm with ⟨rfl,rfl⟩ | ⟨rfl,rfl⟩ | hm
     · rw [e1] at hg;cases hg;exact d1 q2
     · rw [e2] at hg;cases hg;exact r1 q2
     · obtain ⟨hg,o',ho'⟩:=atO k' o D' hm hg
       exact q4 _ _ ho' hg
   · rcases cases3 kk o hm with ⟨rfl,rfl⟩ | ⟨rfl,rfl⟩ | hm
     · rw [e1] at hg;cases hg;exact .inl (.inl rfl)
     · rw [e2] at hg;cases hg;exact .inl (.inr rfl)
     · obtain ⟨hg,o',ho'⟩:=atO kk o g hm hg
       exact .inr ⟨o',ho',hg⟩
theorem fine_nod {L:Lend} {st:St} (h:L.fine st=true):((L.thawed st).own.map (·.1)).Nodup:=by
 obtain ⟨_,hOR,hkr,_,hnd,_⟩:=fine_spec h
 have out:∀ q,(∀ k' o,(k',o) ∈ L.OR -> k' ≠ q) -> q ∉ L.OR.map (·.1):=fun q hq hm=>by
   obtain ⟨⟨k',o⟩,hm,e⟩:=List.mem_map.1 hm
   exact hq k' o hm e
 refine List.nodup_cons.2 ⟨fun hm=>?_,List.nodup_cons.2 ⟨out L.r fun k' o hm=>(restO_spec (hOR _ hm)).2.1,hnd⟩⟩
 rcases List.mem_cons.1 hm with hm | hm
 · exact hkr hm
 · exact out L.k (fun k' o hm=>(restO_spec (hOR _ hm)).1) hm
structure ThInv where
 T:Type
 ld:T -> Lend
 inv:T -> Prop
 mu:T -> Nat
 th:T -> Nat -> Bool
 I:T -> RfInv
 IT:T -> RfInv
def ThInv.enter (H:ThInv) (st st':St) (p:H.T -> Prop):Prop:=∃ g:H.T,conj (fitSt st st'.subR ++ fitT st'.subR.T ((H.ld g).thawed st).T ++ fitO st'.subR.own ((H.ld g).thawed st).own) (H.inv g /\ p g)
def vcTh (P:Program) (C:Cfg) (H:ThInv):Code -> St -> (Exit -> St -> Prop) -> Prop
 | .seq (.region i0 o0 d0) (.scope (.seq (.region i1 o1 d1) (.seq (.label l) (.seq (.seq r2 (.block id (.rangeFunc f ps a b))) z)))),st,K =>
   (vc P C (.region i0 o0 d0) st fun e st1=>match e with
     | .normal=>vc P C (.region i1 o1 d1) st1 fun e st2=>match e with
       | .normal=>H.enter st st2 fun _=>True
       | _=>False
     | _=>False) /\
   ∀ (g:H.T) (v:Value),H.inv g -> (H.ld g).fine st=true /\ (H.ld g).plain /\ (∀ k t,(H.IT g).own k t = []) /\
     vc P C r2 ((H.ld g).frozen st v) fun e st2=>match e with
       | .normal => rfThaw P C (H.th g) (H.I g) (H.IT g) st2 ((H.ld g).thawed st) (fun stK => conj (fitSt st stK ++ fitT stK.T ((H.ld g).frozen st v).T ++ fitO stK.own (H.ld g).OR) True) f ps a b
           (fun e st3=>match e with
             | .normal=>vc P C z st3 fun e st4=>match e with
               | .goto _=>False
               | e=>K e st4
             | _=>False)
           (fun e st'=>match e with
             | .goto l'=>if l'=l then H.enter st st' fun g'=>H.mu g' < H.mu g else False
             | _=>False)
       | _=>False
 | _,_,_=>False
theorem enter_ok {G:Ctx} {H:ThInv} {st st':St} {p:H.T -> Prop} (h:H.enter st st' p) (hfine:∀ g,H.inv g -> (H.ld g).fine st=true) {a:Act} {w:World} (hs:Sat P G st' a w):∃ g,H.inv g /\ p g /\ Sat P G ((H.ld g).thawed st) a w:=by
 obtain ⟨g,hg⟩:=h
 obtain ⟨h12,hinv,hp⟩:=conj_spec hg
 obtain ⟨h1',h3⟩:=all_append h12
 obtain ⟨h1,h2⟩:=all_append h1'
 obtain ⟨env,M,X,S⟩:=subR_ok hs
 unfold fitSt at h1
 split at h1
 · rename_i he
   simp at he
   refine ⟨g,hinv,hp,env,M,X,S.refit (fun s e hm=>fitT_ok S h2 s e hm) (fun k o hm=>fitO_ok S h3 k o hm) (fine_nod (hfine g hinv)) he.1.2.symm he.1.1.symm⟩
 · exact (all_one h1).elim
theorem carries_of {C:Cfg} (hm:P.follows .mixedOrders=true) {c:Code} (h:noRf c=true):Carries P C c:=fun G hG hC ro n st K Q _ h' hq a w hs=>vc_ok_all hm c G hG hC ro n (.inr h) st K Q h' hq a w hs
theorem rfThaw_noRf {C:Cfg} {th:Nat -> Bool} {I IT:RfInv} {stF stT:St} {thawed:St -> Prop} {f:Operand} {ps:Array Nat} {a b:Code} {K KT:Exit -> St -> Prop} (h:rfThaw P C th I IT stF stT thawed f ps a b K KT):noRf a=true /\ noRf b=true:=by
 unfold rfThaw at h
 split at h
 · split at h
   · split at h
     · rename_i hc
       simp only [Bool.and_eq_true] at hc
       exact hc.1.1.1.1.1.1
     · exact h.elim
   · exact h.elim
 · exact h.elim
theorem vcTh_ok {G:Ctx} (hG:Stable G) {C:Cfg} (hsp:∀ f sp,C.specs f=some sp -> SpecOk P f sp /\ Enters P f) (hcy:C.yld=none) (hit:ItersOk P C) (hm:P.follows .mixedOrders=true) {n:Nat} {H:ThInv} (c:Code) (st:St) (K:Exit -> St -> Prop) (Q:Exit -> Act -> World -> Prop) (h:vcTh P C H c st K)
   (hq:∀ e st' a' w',K e st' -> Sat P G st' a' w' -> Q e a' w'):∀ a w,Sat P G st a w -> c.wpIn (W none) n P Q a w:=by
 intro a w hs
 have sp:∀ G,SpecsOk P G C:=fun G=>⟨hsp,fun y hy=>by rw [hcy] at hy;(cases hy),hit⟩
 unfold vcTh at h
 split at h
 rotate_left
 · exact h.elim
 rename_i i0 o0 d0 i1 o1 d1 l r2 id f ps ca cb z
 obtain ⟨h0,hr⟩:=h
 have hfine:∀ g,H.inv g -> (H.ld g).fine st=true:=fun g hi=>(hr g undef hi).1
 have hcut:cutL (.seq (.region i1 o1 d1) (.seq (.label l) (.seq (.seq r2 (.block id (.rangeFunc f ps ca cb))) z)))=some (l,.seq (.seq r2 (.block id (.rangeFunc f ps ca cb))) z):=rfl
 -- one pass
 have pass : ∀ (m:Nat) (a : Act) (w : World), (∃ g : H.T, H.mu g = m /\ H.inv g /\ Sat P G ((H.ld g).thawed st) a w) ->
     (Code.seq (.seq r2 (.block id (.rangeFunc f ps ca cb))) z).wpIn (W none) n P (Exit.jump l (fun a' w'=>∃ m',m' < m /\ ∃ g:H.T,H.mu g=m' /\ H.inv g /\ Sat P G ((H.ld g).thawed st) a' w') Q) a w:=by
   rintro m a w ⟨g,rfl,hinv,hs⟩
   obtain ⟨hf,hp,_⟩:=hr g undef hinv
   obtain ⟨v,D,hD,hsF,hback⟩:=lend_ok hf hp hs
   obtain ⟨_,_,hITo,h2⟩:=hr g v hinv
   have hGf:=lentCtx_stable hG D w
   refine wpIn_seq (wpIn_seq (vc_ok hGf (sp _) hm r2 _ _ _ h2 (fun e st2 a2 w2 hk2 hs2=>?_) a w hsF))
   cases e with
   | normal =>
     obtain ⟨na,nb⟩:=rfThaw_noRf hk2
     refine wpIn_block (rfThaw_ok hG hGf hsp hit (D:=D) (carries_of hm na) (carries_of hm nb) hk2 ?_ hITo (fine_nod hf) ?_ ?_ ?_ hs2)
     · obtain ⟨env2,M2,X2,S2⟩:=hs2
       exact fun b hb=>(S2.gam.1.2 b hb).2.1
     · intro k t w' env M X hth S
       obtain ⟨hall,_⟩:=conj_spec hth
       obtain ⟨h1',h3⟩:=all_append hall
       obtain ⟨h1,h2⟩:=all_append h1'
       have hall2:=hall
       unfold fitSt at h1
       split at h1
       · rename_i he
         simp at he
         exact hback _ _ w' env M X he.1.1 he.1.2 (fun p hp=>by
           rcases List.mem_append.1 hp with hp | hp
           · exact h2 p hp
           · exact h3 p hp) S
       · exact (all_one h1).elim
     · intro e st3 a3 w3 hk3 hs3
       cases e with
       | normal =>
         refine vc_ok hGf (sp _) hm z _ _ _ hk3 (fun e st' a' w' hk hs'=>?_) a3 w3 hs3
         cases e with
         | goto l'=>exact hk.elim
         | normal=>exact hq _ _ _ _ hk (unlend hs')
         | exit id=>exact hq _ _ _ _ hk (unlend hs')
         | ret=>exact hq _ _ _ _ hk (unlend hs')
         | panic ch=>exact hq _ _ _ _ hk (unlend hs')
         | outgrown=>exact hq _ _ _ _ hk (unlend hs')
       | _=>exact hk3.elim
     · intro e st' a' w' hk hs'
       cases e with
       | goto l' =>
         dsimp only at hk
         split at hk
         · rename_i hl
           subst hl
           obtain ⟨g',hinv',hmu,hs2⟩:=enter_ok hk hfine hs'
           exact ⟨rfl,H.mu g',hmu,g',rfl,hinv',hs2⟩
         · exact hk.elim
       | _=>exact hk.elim
   | _=>exact hk2.elim
 refine wpIn_seq (vc_ok hG (sp _) hm _ _ _ _ h0 (fun e st1 a1 w1 hk1 hs1=>?_) a w hs)
 cases e with
 | normal =>
   refine wpIn_scope_ghost l (fun m a w=>∃ g:H.T,H.mu g=m /\ H.inv g /\ Sat P G ((H.ld g).thawed st) a w) (cutL_find hcut) ?_ (fun m a w hI=>wpIn_seq (wpIn_skip (pass m a w hI)))
   refine wpIn_seq (vc_ok hG (sp _) hm _ _ _ _ hk1 (fun e st2 a2 w2 hk2 hs2=>?_) a1 w1 hs1)
   cases e with
   | normal =>
     obtain ⟨g,hinv,_,hs3⟩:=enter_ok hk2 hfine hs2
     refine wpIn_seq (wpIn_label ?_)
     refine wpIn_mono (pass (H.mu g) a2 w2 ⟨g,rfl,hinv,hs3⟩) fun e a' w' hj=>?_
     cases e with
     | goto l'=>obtain ⟨e1,m',_,hJ⟩:=hj;exact ⟨e1,m',hJ⟩
     | _=>exact hj
   | _=>exact hk2.elim
 | _=>exact hk1.elim
theorem body_okT {f:Nat} {fn:Func} {c:Code} (hf:P.funcs[f]? = some fn) (hb:fn.body=some c) {C:Cfg} {H:ThInv} (hC:SpecsOk0 P C) (hm:P.follows .mixedOrders=true) {K:Exit -> St -> Prop} {args:List EV} (h:vcTh P C H c (st0 fn args) K)
   {M:Nat -> Prop} {w:World} {vals:List Value} (hlt:∀ b,M b -> b < w.heap.size) (hargs:ArgsOk P M w args vals) {R:Ending -> World -> Prop} (hK:∀ e st,K e st -> e=.normal \/ e=.ret)
   (hR:∀ e st a w' tmps,K e st -> tmps=a.tmps -> Sat P (plainG M w) st a w' -> ∃ v,(results fn tmps).run P w'=.ok v w' /\ R (.returned v) w'):CallsIn Fence.wide 0 P f vals.toArray w R:=by
 have hG:=plainG_stable M w
 refine callsIn_of_wp_marks hf hb trivial ?_ rfl
 refine vcTh_ok hG hC.1 hC.2.1 hC.2.2 hm c (st0 fn args) K _ h (fun e st' a' w' hk hs=>?_) _ _ (init_sat hlt hargs)
 have fin:LeavesInM Fence.wide 0 P fn a'.tmps R a'.defers .returning w':=leave_ok hG a'.defers a' w' rfl hs (fun a2 w2 ha hs2=>hR e st' a2 w2 _ hk ha.symm hs2)
 rcases hK e st' hk with rfl | rfl <;> exact fin
theorem fn_okT {f:Nat} {fn:Func} {c:Code} (hf:P.funcs[f]? = some fn) (hb:fn.body=some c) {C:Cfg} {H:ThInv} (hC:SpecsOk0 P C) (hm:P.follows .mixedOrders=true) {pre:List EV -> Prop} {res:List EV -> SV}
   (h:∀ args,pre args -> vcTh P C H c (st0 fn args) (retFn P fn (res args))):SpecOk P f (.fn pre res):=by
 intro M w args vals hlt hargs hp
 refine body_okT hf hb hC hm (h args hp) hlt hargs (fun e st hk=>?_) (fun e st a w' tmps hk ht hs=>?_)
 · cases e <;> first | exact .inl rfl | exact .inr rfl | exact hk.elim
 · obtain ⟨env,M',X,S⟩:=hs
   have key:(match resS P st fn.results.toList with | some (ps,s)=>andL (ps ++ fitAll s (res args)) | none=>False) -> ∃ v,(results fn tmps).run P w'=.ok v w' /\ Gives M w (res args) (.returned v) w':=by
     intro hz
     split at hz
     · rename_i ps s hr
       obtain ⟨h1,h2⟩:=all_append (andL_all hz)
       obtain ⟨v,hv,hd⟩:=results_den S hr h1 ht
       exact ⟨v,hv,gives_of hlt S (fitAll_ok h2 hd)⟩
     · exact hz.elim
   cases e <;> first | exact key hk | exact hk.elim
theorem fnT {f:Nat} {fn:Func} {c:Code} (hf:P.funcs[f]? = some fn) (hb:fn.body=some c) (hm:P.follows .mixedOrders=true) {s:List EV -> Option (Prop × SV)}
   (h:∀ args p r,s args=some (p,r) -> p -> ∃ args' C H,vcTh P C H c (st0 fn args') (retFn P fn r) /\ ExtL args args' /\ SpecsOk0 P C):SpecOk P f (specO s):=by
 intro M w args vals hlt ha hp
 cases hs:s args with
 | none=>simp [preO,hs] at hp
 | some q =>
   obtain ⟨p,r⟩:=q
   simp only [preO,resO,hs] at hp ⊢
   obtain ⟨args',C,H,hv,hx,hC⟩:=h args p r hs hp
   exact fn_okT hf hb hC hm (pre:=fun a=>a=args') (res:=fun _=>r) (fun a e=>e ▸ hv) M w args' vals hlt (hx.args ha) rfl
end Go.SE
namespace Go.SE
open Go.RowKit
variable {P:Program}
theorem zero2 (z:Value) (n:Nat):(Builtin.zeroCells #[z,z] n).toList=List.replicate (n * 2) z:=by
 apply List.ext_getElem
 · simp [Builtin.zeroCells]
 · intro i h1 h2
   simp only [Builtin.zeroCells,List.getElem_replicate,Array.toList_map,List.getElem_map,Array.toList_range,List.getElem_range]
   have:i % 2 < 2:=Nat.mod_lt _ (by decide)
   rcases (by omega:i % 2=0 \/ i % 2=1) with h | h <;> simp [h]
theorem run_clear2 (w:World) (t e ty:TypeId) (z zv:Value) (ht:P.underlying t=some (.slice e)) (hv:∀ w,(zeroValue e).run P w=.ok zv w) (hz:zv.cells = #[z,z]) (h1:z.oneCell'=true) (b o n c:Nat) (hn:0 < n)
   (hc:∀ j,j < n * 2 -> (w.cell? ⟨b,o+j,none⟩).isSome=true) (hf:∀ j,j < n * 2 -> w.frozen? ⟨b,o+j,none⟩=false) :
   (Builtin.clear_ #[t] ty #[.slice (some ⟨b,o,none⟩) n c]).run P w=.ok (.tuple #[]) (w.setCells b o (List.replicate (n * 2) z)):=by
 have hzc:(Builtin.zeroCells zv.cells n).toList=List.replicate (n * 2) z:=by rw [hz];exact zero2 z n
 have hst:=run_storeCells_cells (P:=P) b o (List.replicate (n * 2) z) 0 w (by simpa using hc) (by simpa using hf) (by intro v hv';rw [List.eq_of_mem_replicate hv'];exact h1)
 simp only [Nat.add_zero] at hst
 obtain ⟨m,rfl⟩:∃ m,n=m+1:=⟨n - 1,by omega⟩
 simp [Builtin.clear_,run_underlying ht,hv,hzc,hst]
theorem setCell_heap {w:World} {b o:Nat} {cur:Array Value} {t:TypeId} {fr:Nat × Nat} (hb:w.heap[b]? = some (.cells cur t fr)) (v:Value) :
   (w.setCell ⟨b,o,none⟩ v).heap[b]? = some (.cells (cur.setIfInBounds o v) t fr):=by
 have hlt:b < w.heap.size:=(Array.getElem?_eq_some_iff.1 hb).1
 have hv:w.heap[b]=.cells cur t fr:=(Array.getElem?_eq_some_iff.1 hb).2
 rw [Array.getElem?_eq_getElem (by simpa [World.setCell] using hlt)]
 simp [World.setCell,Array.getElem_modify,hv]
theorem setCell_same (w:World) (b o:Nat) (v:Value):Same (fun c=>c=b) w (w.setCell ⟨b,o,none⟩ v):=by
 refine ⟨rfl,rfl,rfl,Nat.le_refl _,by simp [World.setCell],fun c hc hn=>?_⟩
 simp [World.setCell,Array.getElem?_modify,show ¬ b=c from fun e=>hn e.symm]
theorem Same.trans' {X:Nat -> Prop} {a b c:World} (h:Same X a b) (k:Same X b c):Same X a c :=
 ⟨k.os.trans h.os,k.tape.trans h.tape,k.output.trans h.output,Nat.le_trans h.drawn k.drawn,Nat.le_trans h.size k.size,fun d hd hn=>(k.block d (Nat.lt_of_lt_of_le hd h.size) hn).trans (h.block d hd hn)⟩
theorem setCells_row {b:Nat} {t:TypeId} {fr:Nat × Nat}:∀ (vs:List Value) (o:Nat) (w:World) (cur:Array Value),w.heap[b]? = some (.cells cur t fr) -> o+vs.length <= cur.size ->
   Same (fun c=>c=b) w (w.setCells b o vs) /\ ∃ cur',(w.setCells b o vs).heap[b]? = some (.cells cur' t fr) /\ cur'.size=cur.size /\ ∀ k,cur'.getD k undef=if o <= k /\ k < o+vs.length then vs.getD (k - o) undef else cur.getD k undef
 | [],o,w,cur,hb,_=>⟨⟨rfl,rfl,rfl,Nat.le_refl _,Nat.le_refl _,fun _ _ _=>rfl⟩,cur,hb,rfl,fun k=>by rw [if_neg (by simp only [List.length_nil];omega)]⟩
 | v :: vs,o,w,cur,hb,hl=>by
   have hl:o+(vs.length+1) <= cur.size:=hl
   obtain ⟨q1,cur',q2,q3,q4⟩:=setCells_row vs (o+1) (w.setCell ⟨b,o,none⟩ v) (cur.setIfInBounds o v) (setCell_heap hb v) (by rw [Array.size_setIfInBounds];omega)
   refine ⟨(setCell_same w b o v).trans' q1,cur',q2,by rw [q3,Array.size_setIfInBounds],fun k=>?_⟩
   rw [q4 k]
   by_cases h1:o+1 <= k /\ k < o+1+vs.length
   · rw [if_pos h1,if_pos (by simp only [List.length_cons];omega),show k - o=(k - (o+1))+1 by omega,List.getD_cons_succ]
   · rw [if_neg h1]
     by_cases h2:k=o
     · subst h2
       rw [if_pos (by simp),Nat.sub_self,List.getD_cons_zero]
       simp [Array.getD_eq_getD_getElem?,Array.getElem?_setIfInBounds,show k < cur.size by omega]
     · rw [if_neg (by simp only [List.length_cons];omega)]
       simp [Array.getD_eq_getD_getElem?,Array.getElem?_setIfInBounds,show ¬ o=k from fun e=>h2 e.symm]
def moved2 (cur:Array Value) (i n:Nat):List Value:=(cur.toList.drop ((i+1) * 2)).take ((n - (i+1)) * 2)
theorem moved2_length {cur:Array Value} {i n:Nat} (h:n * 2 <= cur.size):(moved2 cur i n).length=(n - (i+1)) * 2:=by
 unfold moved2;simp;omega
theorem moved2_get {cur:Array Value} {i n j:Nat} (hj:j < (n - (i+1)) * 2):(moved2 cur i n)[j]? = cur[(i+1) * 2+j]?:=by
 unfold moved2
 rw [List.getElem?_take_of_lt hj,List.getElem?_drop,Array.getElem?_toList]
def DelWalk (P:Program) (f e:Nat):Prop:=∀ (blk n cap i:Nat) (cur:Array Value) (w:World),w.heap[blk]? = some (.cells cur e (0,0)) -> i < n -> n <= cap -> n <= 4611686018427387904 -> n * 2 <= cur.size -> (∀ t,t < n * 2 -> (cur.getD t undef).oneCell'=true) ->
 Calls P f #[.slice (some ⟨blk,0,none⟩) n cap,.int .i64 i,.int .i64 ((i:Int)+1)] w fun en w'=>en=.returned (.slice (some ⟨blk,0,none⟩) (i+(n - (i+1))) cap) /\
   w'=(w.drew.setCells blk (0+i * 2) (moved2 cur i n)).setCells blk ((i+(n - (i+1))) * 2) (List.replicate (1 * 2) (.int .i64 0))
def delGet (get:Nat -> List SV) (i m:Nat):Nat -> List SV:=fun k=>if k < i then get k else if k+1 < m then get (k+1) else if k+1=m then [.int .i64 0,.int .i64 0] else get k
abbrev delTr (e:Nat):Tr :=
 ⟨Nat × Nat × Nat × (Nat -> List SV),Nat,fun t=>[.rsub 1005 2 0 t.2.1,.p (.int .i64 (t.2.2.1:Int)),.p (.int .i64 ((t.2.2.1:Int)+1))],
   fun t=>[(1005,.row e 2 t.1 t.2.2.2)],fun t=>t.2.2.1 < t.2.1 /\ t.2.1 <= t.1 /\ t.2.1 <= 1000000,fun _ _=>True,fun t _=>[(1005,.row e 2 t.1 (delGet t.2.2.2 t.2.2.1 t.2.1))],fun t _=>.rsub 1005 2 0 (t.2.1 - 1)⟩
theorem del_tok {f e:Nat} (hw:DelWalk P f e):TrOk P f (delTr e):=by
 refine ⟨fun t u=>rfl,?_⟩
 rintro ⟨n,m,i,get⟩ ⟨hi,hmn,hm6⟩ M w env vals hlt hown hat hinj hlen hargs
 have hi:i < m:=hi
 have hmn:m <= n:=hmn
 have hm6:m <= 1000000:=hm6
 obtain ⟨v0,v1,v2,rfl⟩:∃ a b c,vals = [a,b,c]:=by
   match vals,hlen with
   | [a,b,c],_=>exact ⟨a,b,c,rfl⟩
 have a0:DenE P M w env (.rsub 1005 2 0 m) v0:=hargs 0 (show 0 < 3 by decide)
 have a1:DenE P M w env (.p (.int .i64 (i:Int))) v1:=hargs 1 (show 1 < 3 by decide)
 have a2:DenE P M w env (.p (.int .i64 ((i:Int)+1))) v2:=hargs 2 (show 2 < 3 by decide)
 rcases a1 with ⟨a1⟩
 rcases a2 with ⟨a2⟩
 cases a1;cases a2
 have mr:(1005,Own.row e 2 n get) ∈ ([(1005,.row e 2 n get)]:List (Nat × Own)):=List.mem_cons_self ..
 obtain ⟨hmx,hgl,alt⟩:=hown 1005 _ mr
 rcases alt with ⟨_,_,h0⟩ | ⟨g,cap,cur,hg,hrv,hh,hnc,hcm,hcs,hcells⟩
 · omega
 obtain ⟨ng,gl⟩:=hat 1005 _ mr g hg
 cases a0 with
 | rsub A cap' hc hm hA =>
 obtain ⟨g',hg',hA'⟩:=hA (by omega)
 rw [hg] at hg';cases hg'
 rw [Nat.zero_mul] at hA'
 subst hA'
 have hsz:m * 2 <= cur.size:=by rw [hcs];exact Nat.mul_le_mul_right _ (by omega)
 have key:=hw g m cap' i cur w hh hi hc (by omega) hsz (fun t ht=>by
   have:=(hcells (t / 2) (by omega) (t % 2) (Nat.mod_lt _ (by decide))).1
   rwa [show t / 2 * 2+t % 2=t by omega] at this)
 refine (callsIn_wide (n:=0)).2 (key.mono ?_)
 rintro en w' ⟨rfl,rfl⟩
 obtain ⟨s1,c1,h1,z1,k1⟩:=setCells_row (moved2 cur i m) (0+i * 2) w.drew cur (by exact hh) (by rw [moved2_length hsz];omega)
 obtain ⟨s2,c2,h2,z2,k2⟩:=setCells_row (List.replicate (1 * 2) (.int .i64 0)) ((i+(m - (i+1))) * 2) _ c1 h1 (by rw [List.length_replicate,z1];omega)
 have hS:Same (fun c=>c=g) w ((w.drew.setCells g (0+i * 2) (moved2 cur i m)).setCells g ((i+(m - (i+1))) * 2) (List.replicate (1 * 2) (.int .i64 0))):=by
   exact Same.trans' (b:=w.drew) ⟨rfl,rfl,rfl,Nat.le_succ _,Nat.le_refl _,fun _ _ _=>rfl⟩ (s1.trans' s2)
 have hS2:Same (lentB env ((delTr e).own (n,m,i,get))) w ((w.drew.setCells g (0+i * 2) (moved2 cur i m)).setCells g ((i+(m - (i+1))) * 2) (List.replicate (1 * 2) (.int .i64 0))) :=
   ⟨hS.os,hS.tape,hS.output,hS.drawn,hS.size,fun b hb hn=>hS.block b hb (fun h=>hn ⟨1005,_,mr,h ▸ hg⟩)⟩
 have hl:Later M M w ((w.drew.setCells g (0+i * 2) (moved2 cur i m)).setCells g ((i+(m - (i+1))) * 2) (List.replicate (1 * 2) (.int .i64 0))):=⟨hS.size,fun b hb=>hS.block b (hlt b hb) (fun h=>ng (h ▸ hb)),fun _ h=>h⟩
 refine ⟨(0:Nat),_,M,trivial,rfl,hS2,fun _ h=>h,fun _ h=>.inl h,fun b hb=>Nat.lt_of_lt_of_le (hlt b hb) hS.size,fun k o hm'=>?_,?_⟩
 · have hm':(k,o) ∈ ([(1005,.row e 2 n (delGet get i m))]:List (Nat × Own)):=hm'
   obtain ⟨rfl,rfl⟩:k=1005 /\ o=.row e 2 n (delGet get i m):=by simpa using hm'
   refine ⟨hmx,fun j hj=>?_,.inr ⟨g,cap,c2,hg,hrv,h2,hnc,hcm,by rw [z2,z1,hcs],fun j hj q hq=>?_⟩⟩
   · unfold delGet
     split
     · exact hgl j hj
     · split
       · exact hgl _ (by omega)
       · split
         · rfl
         · exact hgl j hj
   · have old:∀ j',j' < n -> (cur.getD (j' * 2+q) undef).oneCell'=true /\ DenP M _ (SV.at (get j') q) (cur.getD (j' * 2+q) undef):=fun j' hj'=>⟨(hcells j' hj' q hq).1,(hcells j' hj' q hq).2.later hl⟩
     rw [k2,k1,List.length_replicate,moved2_length hsz]
     unfold delGet
     by_cases b1:j < i
     · rw [if_pos b1,if_neg (by omega),if_neg (by omega)]
       exact old j hj
     · rw [if_neg b1]
       by_cases b2:j+1 < m
       · rw [if_pos b2,if_neg (by omega),if_pos (by omega),List.getD_eq_getElem?_getD,moved2_get (by omega),show (i+1) * 2+(j * 2+q - (0+i * 2))=(j+1) * 2+q by omega,<- Array.getD_eq_getD_getElem?]
         exact old (j+1) (by omega)
       · rw [if_neg b2]
         by_cases b3:j+1=m
         · rw [if_pos b3,if_pos (by omega)]
           have:(List.replicate (1 * 2) (Value.int .i64 0)).getD (j * 2+q - (i+(m - (i+1))) * 2) undef=.int .i64 0:=by
             rw [List.getD_eq_getElem?_getD,List.getElem?_replicate,if_pos (by omega)];rfl
           rw [this]
           have e:SV.at [.int .i64 0,.int .i64 0] q=.int .i64 0:=by
             rcases (by omega:q=0 \/ q=1) with rfl | rfl <;> rfl
           rw [e]
           exact ⟨rfl,.int _ _⟩
         · rw [if_neg b3,if_neg (by omega),if_neg (by omega)]
           exact old j hj
 · show DenE P M _ env (.rsub 1005 2 0 (m - 1)) (.slice (some ⟨g,0,none⟩) (i+(m - (i+1))) cap')
   rw [show i+(m - (i+1))=m - 1 by omega]
   exact .rsub _ _ (by omega) (by omega) (fun _=>⟨g,hg,by rw [Nat.zero_mul]⟩)
end Go.SE
namespace Go.SE
open Go.Proofs Go.Shelf Go.RowKit Go.Lib Go.Sort
variable {P:Program}
theorem sortI_core {ρ:Ren} (L:Lays.n189 P ρ) {M:Nat -> Prop} {w:World} {env:Env} {key:Nat} {e:TypeId} {n:Nat} {f:Nat -> Int} (h1:1 <= n) (hn:n < 4611686018427387904) (hown:OwnOk P M w env key (.row e 1 n (fun i=>[.int .i64 (f i)])))
   (hat:∀ b,env.at_ key=some b -> ¬ M b /\ b < w.heap.size) :
   Calls P (ρ.f 189) #[env.rv key] w (fun en w'=>∃ u:Nat -> Int,(List.range n).map u=((List.range n).map f).mergeSort (fun x y=>decide (x <= y)) /\ en=.returned (.tuple #[]) /\ Same (fun b=>env.at_ key=some b) w w' /\ OwnOk P M w' env key (.row e 1 n (fun i=>[.int .i64 (u i)]))):=by
 obtain ⟨hm,hgl,hcase⟩:=hown
 rcases hcase with ⟨_,_,h3⟩ | ⟨b,cap,cur,hb,hrv,hh,hnc,hcm,hcs,hd⟩
 · omega
 · rw [hrv]
   obtain ⟨zs,hzs⟩:∃ zs,(List.range n).map f=zs:=⟨_,rfl⟩
   have hzl:zs.length=n:=by rw [<- hzs];simp
   have hzg:∀ j,j < n -> zs.toArray[j]! = f j:=fun j hj=>by
     rw [<- hzs,getElem!_pos _ j (by simp;omega)];simp
   have hH:Holds (Value.int .i64) w b 0 zs.toArray:=by
     intro j hj
     have hj:j < n:=by simpa [hzl] using hj
     have hjc:j < cur.size:=by omega
     have hv:=(hd j hj 0 (by omega)).2
     rw [show j * 1+0=j by omega,getD_get! hjc] at hv
     have hv:DenP M w (.int .i64 (f j)) (cur[j]'hjc):=hv
     constructor
     · rw [hzg j hj]
       simp only [World.cell?,hh,Nat.zero_add]
       rw [Array.getElem?_eq_getElem hjc]
       generalize cur[j]'hjc=v at hv
       cases hv;rfl
     · simp [World.frozen?,hh]
   have hc:=calls_of_every_depth (fun D=>AnyS.slices_Sort_int_alone L D b 0 cap zs w hH (hat b hb).2 (by omega))
   rw [hzl] at hc
   refine hc.mono ?_
   rintro en w' ⟨rfl,m,os,rfl⟩
   obtain ⟨ds,hds⟩:∃ ds,zs.mergeSort (fun x y=>decide (x <= y))=ds:=⟨_,rfl⟩
   have hdl:ds.length=n:=by rw [<- hds,List.length_mergeSort,hzl]
   rw [hds]
   have hheap:(grow (putRow (Value.int .i64) (Sort.ahead w m) b 0 ds.toArray) os).heap=w.heap.modify b (onCells (putCells (Value.int .i64) 0 ds.toArray)) ++ os:=rfl
   have hbl:=(hat b hb).2
   refine ⟨fun i=>ds.toArray[i]!,?_,rfl,⟨rfl,rfl,rfl,?_,?_,fun c hc hne=>?_⟩,hm,fun i _=>rfl,.inr ⟨b,cap,putCells (Value.int .i64) 0 ds.toArray cur,hb,hrv,?_,hnc,hcm,by simp [putCells,hcs],fun i hi j hj=>?_⟩⟩
   · rw [hzs,hds]
     apply List.ext_getElem (by simp [hdl])
     intro i h1 h2
     have hi:i < ds.length:=h2
     rw [List.getElem_map,List.getElem_range,getElem!_pos ds.toArray i (by simpa using hi)]
     rfl
   · show w.drawn <= w.drawn+m
     omega
   · rw [hheap];simp
   · have hne:¬ b=c:=fun e=>hne (e ▸ hb)
     rw [hheap,Array.getElem?_append_left (by simpa using hc),Array.getElem?_modify,if_neg hne]
   · rw [hheap,Array.getElem?_append_left (by simpa using hbl),Array.getElem?_modify,if_pos rfl,hh];rfl
   · obtain rfl:j=0:=by omega
     have hic:i < cur.size:=by omega
     have e1:(putCells (Value.int .i64) 0 ds.toArray cur).getD (i * 1+0) undef=.int .i64 (ds.toArray[i]!):=by
       rw [show i * 1+0=i by omega,Array.getD_eq_getD_getElem?]
       simp only [putCells,Array.getElem?_mapIdx,Array.getElem?_eq_getElem hic,Option.map_some,Option.getD_some]
       rw [if_pos ⟨Nat.zero_le _,by simp [hdl];omega⟩,Nat.sub_zero]
     rw [e1]
     exact ⟨rfl,.int _ _⟩
def L.isSort (n:Nat) (f u:Nat -> Int):Prop:=(List.range n).map u=((List.range n).map f).mergeSort (fun x y=>decide (x <= y))
def sortITr (e:TypeId) (key:Nat):Tr where
 T:=Nat × (Nat -> Int)
 U:=Nat -> Int
 args:=fun _=>[.row key]
 own:=fun t=>[(key,.row e 1 t.1 (fun i=>[.int .i64 (t.2 i)]))]
 pre:=fun t=>1 <= t.1 /\ t.1 <= 1000000
 post:=fun t u=>L.isSort t.1 t.2 u
 own':=fun t u=>[(key,.row e 1 t.1 (fun i=>[.int .i64 (u i)]))]
 res:=fun _ _=>.p (.tup [])
theorem sortITr_ok {ρ:Ren} (L:Lays.n189 P ρ) (e:TypeId) (key:Nat):TrOk P (ρ.f 189) (sortITr e key):=by
 refine ⟨fun _ _=>rfl,fun t hpre M w env vals hM hown hat _ hl hv=>?_⟩
 obtain ⟨n,f⟩:=t
 have hpre:1 <= n /\ n <= 1000000:=hpre
 have ho:=hown key _ (List.mem_singleton.2 rfl)
 have ha:=hat key _ (List.mem_singleton.2 rfl)
 have hl:vals.length=1:=hl
 match vals,hl with
 | [v0],_ =>
   have h0:DenE P M w env (.row key) v0:=hv 0 (by show 0 < 1;omega)
   have e0:v0=env.rv key:=by cases h0 with | row h=>exact h.symm
   subst e0
   refine callsIn_wide.2 ((sortI_core L hpre.1 (by omega) ho ha).mono ?_)
   rintro en w' ⟨u,hu,rfl,hsame,hown'⟩
   refine ⟨u,.tuple #[],M,hu,rfl,?_,fun _ h=>h,fun _ h=>.inl h,fun b hb=>Nat.lt_of_lt_of_le (hM b hb) hsame.size,fun k' o' h'=>?_,.p (.tup [] [] rfl (fun i hi=>absurd hi (Nat.not_lt_zero _)))⟩
   · exact ⟨hsame.os,hsame.tape,hsame.output,hsame.drawn,hsame.size,fun c hc hne=>hsame.block c hc (fun e=>hne ⟨key,_,List.mem_singleton.2 rfl,e⟩)⟩
   · obtain ⟨rfl,rfl⟩:=Prod.mk.inj (List.mem_singleton.1 h')
     exact hown'
end Go.SE
