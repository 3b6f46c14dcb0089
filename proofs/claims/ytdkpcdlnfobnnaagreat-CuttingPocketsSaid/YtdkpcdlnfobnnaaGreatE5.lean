/- Parts of the proof that the text of the row joins: a symbolic walk over the model. -/
import Derived.Test.YtdkpcdlnfobnnaaGreatE4
import Derived.ProofKit
import Derived.Shelf.SlSortCmp.NoneTotal
import Derived.ScopeJumps
import Derived.Laws.IdiomCopy
import Derived.Lib.SliceRun
import Derived.WalkKit
open List renaming getD_eq_getElem?_getD->AS,getElem?_eq_getElem->Ahz,mem_cons->Ah4,range->Ah5,mem_singleton->Ah9,mem_cons_self->AhF,getElem?_append_left->AhP,getElem?_append_right->AhT,not_mem_nil->Ait,getElem?_map->Aiw
open Array renaming getD_eq_getD_getElem?->LS,getElem?_eq_getElem->Ah1,getElem?_modify->Ai3,getElem?_append_left->Ai9
open Nat renaming not_lt_zero->oE,zero_le->rH,le_refl->Ah0,zero_add->AhO,mul_comm->Ai7
open Bool renaming and_eq_true->pR
open Option renaming getD_some->Aix,map_some->AiB
namespace Go.SE
open Go.RowKit Go.ChangeShapes Go.WideShapes
section
inductive Sh where
 |int
 |bool
 |st (l:List Sh)
 |sl (e:Sh)
def Sh.size:Sh->Nat
 | .int=>1
 | .bool=>1
 | .sl _=>1
 | .st l=>sizes l
where sizes:List Sh->Nat
 |[]=>0
 |s::l=>s.size+sizes l
def GU:Sh->List SV->Prop
 | .int,l=>∃n,l = [.int .i64 n]/\Ab .i64 n
 | .bool,l=>∃b,l = [.bool b]
 | .sl e,l=>∃n g,l = [.sl e.size n g]/\n<=maxLen/\∀i,i<n->GU e (g i)
 | .st ss,l=>fits ss l
where fits:List Sh->List SV->Prop
 |[],l=>l = []
 |s::ss,l=>∃a b,l=a++b/\GU s a/\fits ss b
def Fe (P:Program):Sh->TypeId->Bool
 | .int,t=>match P.underlying t with|some (.int .i64)=>true|_=>false
 | .bool,t=>match P.underlying t with|some .bool=>true|_=>false
 | .sl e,t=>match P.underlying t with|some (.slice et)=>P.cellsOf et == e.size&&decide (0<e.size)&&Fe P e et|_=>false
 | .st ss,t=>match P.underlying t with|some (.struct fs)=>P.cellsOf t == Sh.size.sizes ss&&fields P ss fs.toList 0|_=>false
where fields (P:Program):List Sh->List Field->Nat->Bool
 |[],[],_=>true
 |s::ss,f::fs,off=>f.offset == off&&P.cellsOf f.type == s.size&&Fe P s f.type&&fields P ss fs (off+s.size)
 |_,_,_=>false
variable {H:Type} {enc:TypeId×Value->H} {P:Program} {w:World} {base:Nat} {spare:Nat->Bool} {held:Bool}
def Qn (w:World) (sh:Sh) (cs:List Value):Prop:=∃ss,GU sh ss/\ss.length=sh.size/\By (fun b=>b<w.heap.size) w ss cs/\∀v,v∈cs->v.oneCell'=true
theorem tN {M:Nat->Prop} {xs0 bs:List SV} {us vs:List Value} (h1:By M w xs0 us) (h2:By M w bs vs):By M w (xs0++bs) (us++vs):=by
 refine⟨by simp[h1.1,h2.1],fun i hi=>?_⟩;simp only[SV.at,AS]
 by_cases hlt:i<xs0.length
 ·rw[AhP hlt,AhP (by have:=h1.1;omega)];have:=h1.2 i hlt;simpa[SV.at,AS]using this
 ·have e:=h1.1;rw[AhT (by omega),AhT (by omega),e];have:=h2.2 (i-xs0.length) (by grind);simpa[SV.at,AS]using this
theorem tO {a:Addr} {v:Value} (h:w.cell? a=some v):a.block<w.heap.size:=by
 rcases Nat.lt_or_ge a.block w.heap.size with h'|h'
 ·exact h'
 ·simp[World.cell?,Array.getElem?_eq_none h']at h
theorem tP {n:Int} (h:(Lit.int .i64 n).wf=true):Ab .i64 n:=by
 simp[Lit.wf]at h;have e1:IntKind.i64.min = -9223372036854775808:=rfl;have e2:IntKind.i64.max=9223372036854775807:=rfl;exact⟨by omega,by omega⟩
mutual
theorem Qo:∀(sh:Sh) {t:TypeId} {fuel:Nat} {cs:List Value} {x:DataW H×List MemPlace},Fe P sh t=true->DataW.trod enc P w base spare held fuel t cs=some x->Qn w sh cs
 | .int,t,fuel,cs,x,hs,h=>by
   unfold Fe at hs;split at hs
   ·rename_i ht;obtain⟨n,rfl,_,hw⟩:=DataW.trod_int ht h;exact⟨[.int .i64 n],⟨n,rfl,tP hw⟩,rfl,⟨rfl,fun i hi=>by
     obtain rfl:i=0:=by simpa using hi
     exact .int _ _⟩,fun v hv=>by simp at hv;subst hv;rfl⟩
   ·cases hs
 | .bool,t,fuel,cs,x,hs,h=>by
   unfold Fe at hs;split at hs
   ·rename_i ht;obtain⟨b,rfl,_⟩:=DataW.trod_bool ht h;exact⟨[.bool b],⟨b,rfl⟩,rfl,⟨rfl,fun i hi=>by
     obtain rfl:i=0:=by simpa using hi
     exact .bool _⟩,fun v hv=>by simp at hv;subst hv;rfl⟩
   ·cases hs
 | .sl e,t,fuel,cs,x,hs,h=>by
   unfold Fe at hs;split at hs;rotate_left
   ·cases hs
   rename_i et ht;simp only[pR,beq_iff_eq,decide_eq_true_eq]at hs;obtain⟨⟨hc,hpos⟩,hs⟩:=hs;rcases DataW.trod_slice ht h with ⟨rfl,_⟩|⟨a,len,cap,elems,rest,n,_,rfl,_,hb,hl,hm,hlen,hel,_,_⟩
   ·refine⟨[.sl e.size 0 (fun _=>[])],⟨0,_,rfl,rH _,fun i hi=>absurd hi (oE _)⟩,rfl,⟨rfl,fun i hi=>?_⟩,fun v hv=>by simp at hv;subst hv;rfl⟩;obtain rfl:i=0:=by simpa using hi
    exact .sl _ _ _ _ _ (fun _ _=>undef) (Ah0 _) (rH _) (fun h=>absurd h (Nat.lt_irrefl _)) (fun i hi=>absurd hi (oE _)) (fun i hi=>absurd hi (oE _)) (fun i hi=>absurd hi (oE _))
   ·have each : ∀i, i<len->∃ci, w.cells? base (a.add (i*e.size)) e.size = some ci/\Qn w e ci :=fun i hi =>by
     have h1:=hel i hi;rw[Ahz (by omega),hc,Option.bind_eq_some_iff]at h1;obtain⟨ci,h2,h3⟩:=h1;exact⟨ci,h2,Qo e hs h3⟩
    let ci:Nat->List Value:=fun i=>if h:i<len then Classical.choose (each i h)else [];have hci:∀i,i<len->w.cells? base (a.add (i*e.size)) e.size=some (ci i)/\Qn w e (ci i):=fun i hi=>by
     simp only[ci,hi,dif_pos];exact Classical.choose_spec (each i hi)
    let si:Nat->List SV:=fun i=>if h:i<len then Classical.choose (hci i h).2 else [];have hsi:∀i,i<len->GU e (si i)/\(si i).length=e.size/\By (fun b=>b<w.heap.size) w (si i) (ci i)/\∀v,v∈ci i->v.oneCell'=true:=fun i hi=>by
     simp only[si,hi,dif_pos];exact Classical.choose_spec (hci i hi).2
    refine⟨[.sl e.size len si],⟨len,si,rfl,by omega,fun i hi=>(hsi i hi).1⟩,rfl,⟨rfl,fun i hi=>?_⟩,fun v hv=>by simp at hv;subst hv;rfl⟩;obtain rfl:i=0:=by simpa using hi
    refine .sl _ _ _ _ _ (fun i j=>(ci i).getD j undef) hl (by omega) (fun hn=>⟨a,rfl,?_,fun i hi j hj=>?_⟩) (fun i hi=>(hsi i hi).2.1) (fun i hi j hj=>?_) (fun i hi j hj=>?_)
    ·obtain⟨_,h2,h3⟩:=World.cells?_some (hci 0 hn).1;have h4:=h3 0 hpos;rw[Ahz (by omega)]at h4;have:=tO h4;rw[JO,JO]at this;exact this
    ·obtain⟨_,h2,h3⟩:=World.cells?_some (hci i hi).1;have h4:=h3 j hj;rw[Hk]at h4;rw[h4,AS,Ahz (by omega)];rfl
    ·obtain⟨_,h2,_⟩:=World.cells?_some (hci i hi).1;rw[AS,Ahz (by omega)];exact(hsi i hi).2.2.2 _ (List.getElem_mem _)
    ·exact(hsi i hi).2.2.1.2 j (by rw[(hsi i hi).2.1];exact hj)
 | .st ss,t,fuel,cs,x,hs,h=>by
   unfold Fe at hs;split at hs;rotate_left
   ·cases hs
   rename_i fs ht;simp only[pR,beq_iff_eq]at hs;obtain⟨hc,hs⟩:=hs;obtain⟨xs,n,_,_,hlen,hxl,hf⟩:=DataW.trod_struct ht h;have:=U7 ss hs (cs:=cs) (by rw[hlen,hc,AhO]) (fun i f hi=>by
    have h1:=hf i f (by simpa using hi);have hlt:i<fs.size:=by
     have:=(List.getElem?_eq_some_iff.1 hi).1;simpa using this
    rw[Ahz (by omega)]at h1;exact⟨n,_,h1⟩)
   obtain⟨l,h1,h2,h3,h4⟩:=this;exact⟨l,by unfold GU;exact h1,by unfold Sh.size;exact h2,by simpa using h3,by simpa using h4⟩
theorem U7:∀(ss:List Sh) {fs:List Field} {off:Nat} {cs:List Value},Fe.fields P ss fs off=true->cs.length=off+Sh.size.sizes ss ->
  (∀(i:Nat) (f:Field),fs[i]? = some f->∃n x,DataW.trod enc P w base spare held n f.type ((cs.drop f.offset).take (P.cellsOf f.type))=some x) ->
  ∃l,GU.fits ss l/\l.length=Sh.size.sizes ss/\By (fun b=>b<w.heap.size) w l (cs.drop off)/\∀v,v∈cs.drop off->v.oneCell'=true
 |[],fs,off,cs,hs,hl,hf=>by
   cases fs with
   |cons f fs=>simp[Fe.fields]at hs
   |nil =>
     have e:cs.drop off = []:=List.drop_eq_nil_of_le (by simp[Sh.size.sizes]at hl;omega);exact⟨[],by simp[GU.fits],rfl,by rw[e];exact⟨rfl,fun i hi=>by simp at hi⟩,by rw[e];intro v hv;cases hv⟩
 |s::ss,fs,off,cs,hs,hl,hf=>by
   cases fs with
   |nil=>simp[Fe.fields]at hs
   |cons f fs =>
     simp only[Fe.fields,pR,beq_iff_eq]at hs;obtain⟨⟨⟨h1,h2⟩,h3⟩,h4⟩:=hs;obtain⟨n,x,hx⟩:=hf 0 f rfl;rw[h1,h2]at hx;obtain⟨a,ra,rl,rd,r1⟩:=Qo s h3 hx;simp only[Sh.size.sizes]at hl;obtain⟨b,qa,ql,qd,q1⟩:=U7 ss h4 (cs:=cs) (by omega) (fun i g hi=>hf (i+1) g (by simpa using hi));have e:cs.drop off=(cs.drop off).take s.size++cs.drop (off+s.size):=by
      rw[<- List.drop_drop];exact(List.take_append_drop s.size (cs.drop off)).symm
     refine⟨a++b,by simp only[GU.fits];exact⟨a,b,rfl,ra,qa⟩,by simp[rl,ql,Sh.size.sizes],?_,fun v hv=>?_⟩
     ·rw[e];exact tN rd qd
     ·rw[e]at hv;rcases List.mem_append.1 hv with hv|hv
      ·exact r1 v hv
      ·exact q1 v hv
end
def Mm:Sh->List SV->EV
 | .st _,ss=>.p (.agg ss)
 |_,ss=>.p (SV.at ss 0)
theorem tQ {sh:Sh} {r:Reach} {b0:Nat} {t:TypeId} {v:Value} {d:DataW H} {ps:List MemPlace} (hs:Fe P sh t=true) (hval:Value.okWide P w r b0 t v) (hd:DataW.Trod enc P w base spare held t v d ps) :
  ∃ss,GU sh ss/\Lr (Mm sh ss)=true/\Ap P (fun b=>b<w.heap.size) w GJ (Mm sh ss) v:=by
 obtain⟨fuel,hf⟩:=hd;obtain⟨ss,h1,h2,h3,_⟩:=Qo sh hs hf;refine⟨ss,h1,?_,?_⟩
 ·cases sh<;>rfl
 ·have scalar : v.cells.toList = [v]->sh.size = 1->Ap P (fun b =>b<w.heap.size) w GJ (.p (SV.at ss 0)) v :=fun e hsz =>by
   rw[e]at h3;have:=h3.2 0 (by omega);exact .p this
  cases sh with
  |int =>
    unfold Fe at hs;split at hs
    ·rename_i ht;obtain⟨n,rfl⟩:=okWide_int ht hval;exact scalar rfl rfl
    ·cases hs
  |bool =>
    unfold Fe at hs;split at hs
    ·rename_i ht;obtain⟨n,rfl⟩:=okWide_bool ht hval;exact scalar rfl rfl
    ·cases hs
  |sl e =>
    unfold Fe at hs;split at hs
    ·rename_i et ht;obtain⟨a,n,c,rfl⟩:=okWide_slice ht hval;exact scalar rfl rfl
    ·cases hs
  |st l =>
    unfold Fe at hs;split at hs
    ·rename_i fs ht;obtain⟨cs,rfl,_⟩:=okWide_struct ht hval;have e:(Value.agg cs).cells.toList=cs.toList:=rfl;rw[e]at h3;exact .p (.agg _ _ h3.1 h3.2)
    ·cases hs
def Mn:List Sh->List EV->Prop
 |[],es=>es = []
 |s::l,es=>∃ss es',es=Mm s ss::es'/\GU s ss/\Mn l es'
def K1 (P:Program):List Sh->List TypeId->Bool
 |[],[]=>true
 |s::l,t::ts=>Fe P s t&&K1 P l ts
 |_,_=>false
theorem U8:∀(shs:List Sh) {ts:List TypeId} {vs:List Value} {ds:List (DataW H)} {ps:List MemPlace} {r:Reach} {b0:Nat},K1 P shs ts=true->(∀(j:Nat) t v,ts[j]? = some t->vs[j]? = some v->Value.okWide P w r b0 t v) ->
  DataW.TrodAll enc P w base spare held ts vs ds ps->∃es,Mn shs es/\FL P (fun b=>b<w.heap.size) w es vs
 |[],ts,vs,ds,ps,r,b0,hs,hval,h=>by
   cases ts with
   |cons t ts=>simp[K1]at hs
   |nil =>
     cases vs<;>cases ds<;>simp[DataW.TrodAll]at h;exact⟨[],rfl,rfl,(by grind)⟩
 |s::shs,ts,vs,ds,ps,r,b0,hs,hval,h=>by
   cases ts with
   |nil=>simp[K1]at hs
   |cons t ts =>
     simp only[K1,pR]at hs;obtain⟨v,vs',d,ds',p,q,rfl,rfl,_,h1,h2⟩:=trodAll_cons h;obtain⟨ss,a1,a2,a3⟩:=tQ hs.1 (hval 0 t v rfl rfl) h1;obtain⟨es,b1,b2⟩:=U8 shs hs.2 (fun j t v ht hv=>hval (j+1) t v (by grind) (by grind)) h2;refine⟨Mm s ss::es,⟨ss,es,rfl,a1,b1⟩,by simp[b2.1],fun i hi=>?_⟩;cases i with
     |zero=>exact⟨a2,a3⟩
     |succ i=>exact b2.2 i (by grind)
theorem U9 (hl:laidOutB P=true) {W W':World} (hb:Below W.heap.size W W'):∀{ts:List TypeId} {vs:List Value} {ds:List (DataW H)} {ps:List MemPlace},(ts.all fun t=>P.readableRec t&&decide (t<P.types.size))=true ->
  DataW.TrodAll enc P W 0 (fun _=>true) true ts vs ds ps->(∀p∈ps,p.block<W.heap.size)->DataW.TrodAll enc P W' 0 (fun b=>decide (b<W.heap.size)) true ts vs ds ps
 |[],vs,ds,ps,_,h,_=>by
   cases vs<;>cases ds<;>simp[DataW.TrodAll]at h ⊢;exact h
 |t::ts,vs,ds,ps,ht,h,hlt=>by
   simp only[List.all_cons,pR,decide_eq_true_eq]at ht;obtain⟨v,vs',d,ds',p,q,rfl,rfl,rfl,h1,h2⟩:=trodAll_cons h;exact⟨p,q,Below.trod hl ht.1.1 ht.1.2 h1 hb (by grind),U9 hl hb (by grind) h2 (by grind),rfl⟩
theorem UA {C:Checked} {f:Nat} {fn:Func} {s:ChangeSpec} {apart:Bool} {shs:List Sh} {sp:List EV->Option (Prop×SV)} (hspec:Az C.prog f (AM sp)) (hfit:∀es,Mn shs es->DA sp es/\En sp es=.bool true)
  (hl:laidOutB C.prog=true) (hvars:s.vars = []) (hsh:K1 C.prog shs fn.params.toList=true) (hrd:(fn.params.toList.all fun t=>C.prog.readableRec t&&decide (t<C.prog.types.size))=true)
  {bt:TypeId} (hres:fn.resultTypes = #[bt]) (hbt:C.prog.underlying bt=some .bool) (hsay:∀ds:List (DataW H),ds.length=fn.params.size->s.fn H (ds ++ [])= { results:=[.lit (.bool true)],args:=ds,vars:=[] })
  {W:World} {b0:Nat} {r:Reach} {args:Array Value} {ds gs:List (DataW H)} {before:List MemPlace} (hval:∀(j:Nat) t v,fn.params[j]? = some t->args[j]? = some v->Value.okWide C.prog W r b0 t v)
  (hW:DataW.Whole enc C.prog fn.params.toList s.vars apart W args.toList ds gs before) :
  Calls C.prog f args W fun e W'=>∃v,e=.returned v/\s.post enc C.prog fn apart true false false W args v W':=by
 have hW':=hW;obtain⟨p,q,hA,hV,hpq,hfz,hnd⟩:=hW;rw[hvars]at hV;obtain⟨rfl,rfl⟩:=trodVars_none hV;obtain⟨es,h1,h2⟩:=U8 (enc:=enc) (base:=0) (spare:=fun _=>true) (held:=true) shs hsh (fun j t v ht hv=>hval j t v (by simpa using ht) (by simpa using hv)) hA;obtain⟨k1,k2⟩:=hfit es h1;have hc:=hspec (fun b=>b<W.heap.size) W es args.toList (fun b h=>h) h2 k1;have:=callsIn_wide.1 hc;refine Calls.mono (by simpa using this) (fun e W' hg=>?_);obtain⟨v,M',rfl,hb,_,_,_,hd⟩:=hg;rw[k2]at hd;cases hd;have hdl:ds.length=fn.params.size:=by
  have:∀{ts:List TypeId} {vs:List Value} {ds:List (DataW H)} {ps:List MemPlace},DataW.TrodAll enc C.prog W 0 (fun _=>true) true ts vs ds ps->ds.length=ts.length:=by
   intro ts
   induction ts with
   |nil=>intro vs ds ps h;cases vs<;>cases ds<;>simp[DataW.TrodAll]at h<;>rfl
   |cons t ts ih =>
     grind [trodAll_cons]
  grind
 have hlt:∀x∈p,x.block<W.heap.size:=fun x hx=>hW'.lt x (by grind);refine⟨_,rfl,ds,[],p ++ [],[],p,[],?_,?_,?_,?_,hb.bel.frame _,fun h=>by cases h⟩
 ·grind
 ·rw[hsay ds hdl,hres];exact trodAll_mk1 (shut_bool hbt true)
 ·rw[hsay ds hdl];exact U9 hl hb.bel hrd hA hlt
 ·rw[hsay ds hdl,hvars];rfl
end
set_option linter.unusedSectionVars false
section
open Go.Proofs Go.Shelf Go.RowKit Go.Lib Go.Sort
variable {P:Program} {A:Type} [Inhabited A]
def Dl (enc:A->List Int) (a:A):List Value:=(enc a).map (Value.int .i64)
def CX (enc:A->List Int) (a:A):List SV:=(enc a).map (SV.int .i64)
theorem tR {M:Nat->Prop} {w:World} (enc:A->List Int) (a:A):By M w (CX enc a) (Dl enc a):=by
 refine⟨by simp[CX,Dl],fun i hi=>?_⟩;simp only[CX,List.length_map]at hi;simp only[CX,Dl,SV.at,AS,Aiw,Ahz hi,AiB,Aix];exact .int _ _
theorem tS (enc:A->List Int) (a:A):∀v,v∈Dl enc a->v.oneCell'=true:=fun v hv=>by
 simp only[Dl,List.mem_map]at hv;obtain⟨n,_,rfl⟩:=hv;rfl
theorem tT {W w':World} (h:Bl W.heap.size W w'):∃q os,w'=grow (W.drewN q) os:=by
 refine⟨w'.drawn-W.drawn,w'.heap.extract W.heap.size w'.heap.size,?_⟩;obtain⟨heap,tape,drawn,os,output⟩:=w';obtain⟨h1,h2,h3,h4,h5,h6⟩:=h;simp only at h1 h2 h3 h4 h5 h6;subst h1 h2 h3;have e1:W.drawn+(drawn-W.drawn)=drawn:=by omega
 have e2:W.heap++heap.extract W.heap.size heap.size=heap:=by
  apply Array.ext_getElem?;intro i
  by_cases hi:i<W.heap.size
  ·rw[Ai9 hi,h6 i hi]
  ·rw[Array.getElem?_append_right (by omega),Array.getElem?_extract]
   by_cases h7:i<heap.size
   ·rw[if_pos (by omega),show W.heap.size+(i-W.heap.size)=i by omega]
   ·rw[if_neg (by omega),Array.getElem?_eq_none (by omega)]
 show World.mk _ _ _ _ _=World.mk (W.heap++heap.extract W.heap.size heap.size) W.tape (W.drawn+(drawn-W.drawn)) W.os W.output;rw[e1,e2]
theorem tU {g:Nat} {enc:A->List Int} {k:Nat} {cf:A->A->Int} {pre:List EV->Prop} {res:List EV->SV} (hs:Az P g (.fn pre res))
  (hp:∀x y,pre [.p (.agg (CX enc x)),.p (.agg (CX enc y))]) (hr:∀x y,res [.p (.agg (CX enc x)),.p (.agg (CX enc y))]=.int .i64 (cf x y)) (blk off size:Nat) (w:World) :
  CmpLays P g #[] (Dl enc) k cf blk off size w:=by
 intro m os dk _ x y;have hx:∀a:A,Ax (fun _=>False) (sortWorldK (Dl enc) k w blk off m dk os) (.agg (CX enc a)) (.agg (Dl enc a).toArray):=fun a=>by
  have h:=tR (M:=fun _=>False) (w:=sortWorldK (Dl enc) k w blk off m dk os) enc a;exact .agg _ _ h.1 h.2
 have:=hs (fun _=>False) (sortWorldK (Dl enc) k w blk off m dk os) [.p (.agg (CX enc x)),.p (.agg (CX enc y))] [.agg (Dl enc x).toArray,.agg (Dl enc y).toArray] (fun b h=>h.elim)
  ⟨rfl,fun i hi=>by
   match i,hi with
   |0,_=>exact⟨rfl,.p (hx x)⟩
   |1,_=>exact⟨rfl,.p (hx y)⟩⟩ (hp x y)
 refine(callsIn_wide (n:=0)).1 (Gg this fun e w' hg=>?_);obtain⟨v,M',rfl,hb,_,_,_,hd⟩:=hg;rw[hr]at hd;cases hd;exact⟨rfl,tT hb⟩
def IA (n:Nat) (f:Nat->A):Array A:=((Ah5 n).map f).toArray
theorem UB (n:Nat) (f:Nat->A):(IA n f).size=n:=by simp[IA]
theorem UC {n:Nat} {f:Nat->A} {i:Nat} (h:i<n):(IA n f)[i]! = f i:=by
 rw[getElem!_pos _ i (by rw[UB];exact h)];simp[IA]
structure D0 (cf:A->A->Int) (n:Nat) (f u:Nat->A):Prop where
 perm:((Ah5 n).map u).Perm ((Ah5 n).map f)
 asc:∀i j,i<j->j<n->¬ cf (u j) (u i)<0
theorem tV {M:Nat->Prop} {w:World} {enc:A->List Int} {a:A} {j:Nat} (hj:j<(enc a).length) {v:Value} (h:Ax M w (SV.at (CX enc a) j) v):v=(Dl enc a)[j]!:=by
 have e1:SV.at (CX enc a) j=.int .i64 ((enc a)[j]'hj):=by
  simp[CX,SV.at,AS,Aiw,Ahz hj]
 have e2:(Dl enc a)[j]! = .int .i64 ((enc a)[j]'hj):=by
  simp[Dl,List.getElem!_eq_getElem?_getD,Aiw,Ahz hj]
 rw[e1]at h;cases h;exact e2.symm
theorem getD_get! {c:Array Value} {i:Nat} (h:i<c.size):c.getD i undef=c[i]'h:=by
 rw[LS,Ah1 h];rfl
theorem tW {ρ:Ren} (L:SlLaysF0.n6 P ρ) {k:Nat} (hk0:0<k) (aE:∀w,(isAgg (ρ.t 24)).run P w=.ok true w) (zE:∀w,(Go.sizeOf (ρ.t 24)).run P w=.ok k w) {enc:A->List Int} (hk:∀x,(enc x).length=k)
  {cf:A->A->Int} (hO:SWO (ltOf cf)) {g:Nat} {pre:List EV->Prop} {res:List EV->SV} (hs:Az P g (.fn pre res)) (he:An P g)
  (hp:∀x y,pre [.p (.agg (CX enc x)),.p (.agg (CX enc y))]) (hr:∀x y,res [.p (.agg (CX enc x)),.p (.agg (CX enc y))]=.int .i64 (cf x y))
  {M:Nat->Prop} {w:World} {env:Ar} {key:Nat} {e:TypeId} {n:Nat} {f:Nat->A} (hn:n<4611686018427387904) (hown:B8 P M w env key (.row e k n (fun i=>CX enc (f i))))
  (hat:∀b,env.at_ key=some b->¬ M b/\b<w.heap.size) :
  Calls P (ρ.f 6) #[env.rv key,.func (.func g) #[] #[]] w (fun en w'=>∃u:Nat->A,D0 cf n f u/\en=.returned (.tuple #[])/\Same (fun b=>env.at_ key=some b) w w'/\B8 P M w' env key (.row e k n (fun i=>CX enc (u i)))):=by
 obtain⟨hm,hgl,hcase⟩:=hown;rcases hcase with ⟨h1,h2,h3⟩|⟨b,cap,cur,hb,hrv,hh,hnc,hcm,hcs,hd⟩
 ·subst h3;rw[h2];refine(AnyF.slices_SortFunc_none L none 0 _ w).mono ?_;rintro en w' ⟨rfl,rfl⟩;exact⟨f,⟨List.Perm.refl _,fun i j _ hj=>absurd hj (oE _)⟩,rfl,⟨rfl,rfl,rfl,Ah0 _,Ah0 _,fun _ _ _=>rfl⟩,hm,hgl,.inl ⟨h1,h2,rfl⟩⟩
 ·rw[hrv];have hds:=UB n f;have hkV:∀x,(Dl enc x).length=k:=fun x=>by simp[Dl,hk]
  have hnk:n*k<=cur.size:=by rw[hcs];exact Nat.mul_le_mul_right _ hnc
  have hH:HoldsK (Dl enc) k w b 0 (IA n f):=by
   intro j hj;rw[size_flatK,hds]at hj;have hjc:j<cur.size:=by omega
   have hi:j / k<n:=Nat.div_lt_of_lt_mul (by rw[Ai7];exact hj);have hr2:j % k<k:=Nat.mod_lt _ hk0;have h1:=(hd (j / k) hi (j % k) hr2).2;have e0:j / k*k+j % k=j:=by rw[Ai7];exact Nat.div_add_mod j k
   rw[e0,getD_get! hjc]at h1;have h2:=tV (by rw[hk];exact hr2) h1;constructor
   ·rw[get_flatK _ _ _ _ (by rw[hds];exact hj),UC hi,<- h2];simp only[World.cell?,hh,AhO,id];rw[Ah1 hjc];rfl
   ·simp[World.frozen?,hh]
  have hc:=AnyQ.slices_SortFunc L k aE zE (Dl enc) hkV (tS enc) cf hO g #[] b 0 cap (IA n f) w he (tU hs hp hr b 0 _ w) hH (hat b hb).2 (by rw[hds];exact hn);rw[hds]at hc;refine hc.mono ?_;rintro en w' ⟨rfl,d',m,os,⟨hsz,_,hperm⟩,hasc,rfl⟩;rw[hds]at hsz;have hheap:(sortWorldK (Dl enc) k w b 0 m d' os).heap=w.heap.modify b (onCells (putCells id 0 (flatK (Dl enc) k d')))++os:=rfl;have hbl:=(hat b hb).2;have hd'l:∀d0:Array A,d0.size=n->(Ah5 n).map (fun i=>d0[i]!)=(d0.extract 0 n).toList:=fun d0 h0=>by
   apply List.ext_getElem?;intro i
   by_cases hi:i<n
   ·rw[Aiw,List.getElem?_range hi];simp only[AiB,Array.getElem?_toList,Array.getElem?_extract];rw[if_pos (by omega),AhO,Ah1 (by omega),getElem!_pos d0 i (by omega)]
   ·rw[List.getElem?_eq_none (by simp;omega),List.getElem?_eq_none (by simp;omega)]
  refine⟨fun i=>d'[i]!,⟨?_,fun i j hij hj=>?_⟩,rfl,⟨rfl,rfl,rfl,?_,?_,fun c hc hne=>?_⟩,hm,fun i _=>by simp[CX,hk],.inr ⟨b,cap,putCells id 0 (flatK (Dl enc) k d') cur,hb,hrv,?_,hnc,hcm,by simp[putCells,hcs],fun i hi j hj=>?_⟩⟩
  ·rw[hd'l d' hsz];refine hperm.trans ?_;rw[<- hd'l (IA n f) hds];have:(Ah5 n).map (fun i=>(IA n f)[i]!)=(Ah5 n).map f:=List.map_congr_left (fun i hi=>UC (List.mem_range.1 hi));rw[this]
  ·have:=hasc i j (rH _) hij (by omega);exact of_decide_eq_false this
  ·show w.drawn<=w.drawn+m;omega
  ·rw[hheap];simp
  ·have hne:¬ b=c:=fun e=>hne (e ▸ hb);rw[hheap,Ai9 (by simpa using hc),Ai3,if_neg hne]
  ·rw[hheap,Ai9 (by simpa using hbl),Ai3,if_pos rfl,hh];rfl
  ·have hlt:i*k+j<n*k:=C6 hi hj;have hlc:i*k+j<cur.size:=by omega
   have e1:(putCells id 0 (flatK (Dl enc) k d') cur).getD (i*k+j) undef=(Dl enc d'[i]!)[j]!:=by
    rw[LS];simp only[putCells,Array.getElem?_mapIdx,Ah1 hlc,AiB,Aix];rw[if_pos ⟨rH _,by rw[size_flatK,hsz];omega⟩,Nat.sub_zero,get_flatK _ _ _ _ (by rw[hsz];exact hlt)];have h1:(i*k+j) / k=i:=by rw[Ai7,Nat.mul_add_div hk0,Nat.div_eq_of_lt hj,Nat.add_zero]
    have h2:(i*k+j) % k=j:=by rw[Ai7,Nat.mul_add_mod,Nat.mod_eq_of_lt hj]
    rw[h1,h2];rfl
   rw[e1];have hj2:j<(enc d'[i]!).length:=by rw[hk];exact hj
   have e2:(Dl enc d'[i]!)[j]! = .int .i64 ((enc d'[i]!)[j]'hj2):=by
    simp[Dl,List.getElem!_eq_getElem?_getD,Aiw,Ahz hj2]
   have e3:SV.at (CX enc d'[i]!) j=.int .i64 ((enc d'[i]!)[j]'hj2):=by
    simp[CX,SV.at,AS,Aiw,Ahz hj2]
   show((Dl enc d'[i]!)[j]!).oneCell'=true/\Ax M _ (SV.at (CX enc d'[i]!) j) ((Dl enc d'[i]!)[j]!);rw[e2,e3];exact⟨rfl,.int _ _⟩
def NJ (e:TypeId) (k g key:Nat) (enc:A->List Int) (cf:A->A->Int):Tr where
 T:=Nat×(Nat->A)
 U:=Nat->A
 args:=fun _=>[.row key,.p (.clo g [])]
 own:=fun t=>[(key,.row e k t.1 (fun i=>CX enc (t.2 i)))]
 pre:=fun t=>t.1<=1000000
 post:=fun t u=>D0 cf t.1 t.2 u
 own':=fun t u=>[(key,.row e k t.1 (fun i=>CX enc (u i)))]
 res:=fun _ _=>.p (.tup [])
theorem Qp {ρ:Ren} (L:SlLaysF0.n6 P ρ) {k:Nat} (hk0:0<k) (aE:∀w,(isAgg (ρ.t 24)).run P w=.ok true w) (zE:∀w,(Go.sizeOf (ρ.t 24)).run P w=.ok k w) {enc:A->List Int} (hk:∀x,(enc x).length=k)
  {cf:A->A->Int} (hO:SWO (ltOf cf)) {g:Nat} {pre:List EV->Prop} {res:List EV->SV} (hs:Az P g (.fn pre res)) (he:An P g)
  (hp:∀x y,pre [.p (.agg (CX enc x)),.p (.agg (CX enc y))]) (hr:∀x y,res [.p (.agg (CX enc x)),.p (.agg (CX enc y))]=.int .i64 (cf x y)) (e:TypeId) (key:Nat):Gf P (ρ.f 6) (NJ e k g key enc cf):=by
 refine⟨fun _ _=>rfl,fun t hpre _ M w env vals hM hown hat _ hl hv=>?_⟩;obtain⟨n,f⟩:=t;have hpre:n<=1000000:=hpre;have ho:=hown key _ (Ah9.2 rfl);have ha:=hat key _ (Ah9.2 rfl);have hl:vals.length=2:=hl
 match vals,hl with
 |[v0,v1],_ =>
   have h0:Ap P M w env (.row key) v0:=hv 0 (by show 0<2;omega);have h1:Ap P M w env (.p (.clo g [])) v1:=hv 1 (by show 1<2;omega);rcases h1 with ⟨h1⟩;cases h1 with
   |clo _ _ vs hvl _ =>
   have hvs:vs = []:=List.eq_nil_of_length_eq_zero hvl;subst hvs;have e0:v0=env.rv key:=by cases h0 with|row h=>exact h.symm
   subst e0;refine callsIn_wide.2 ((tW L hk0 aE zE hk hO hs he hp hr (by omega) ho ha).mono ?_);rintro en w' ⟨u,hu,rfl,hsame,hown'⟩;refine⟨u,.tuple #[],M,hu,rfl,?_,fun _ h=>h,fun _ h=>.inl h,fun b hb=>Nat.lt_of_lt_of_le (hM b hb) hsame.size,fun k' o' h'=>?_,.p (.tup [] [] rfl (fun i hi=>absurd hi (oE _)))⟩
   ·exact⟨hsame.os,hsame.tape,hsame.output,hsame.drawn,hsame.size,fun c hc hne=>hsame.block c hc (fun e=>hne ⟨key,_,Ah9.2 rfl,e⟩)⟩
   ·obtain⟨rfl,rfl⟩:=Prod.mk.inj (Ah9.1 h');exact hown'
end
section
open Go.RowKit
variable {P:Program}
section
variable {G:Bw}
end
end
section
open Go.RowKit
variable {P:Program}
theorem Qq (f:Nat->Nat) (k:Nat):∀(hs:List SV),EV.ren.renL f (hs.map EV.p ++ [.mapv k])=hs.map EV.p ++ [.mapv (f k)]
 |[]=>rfl
 |s::l=>by simp only[List.map_cons,List.cons_append,EV.ren.renL,Qq f k l];rfl
theorem tX {f:Nat} {mk:Mk} {c:FM} (k0 k1:Nat) (h01:k0≠k1) (hM:D9 P f mk) (φ:c.T->(Int->Bool)->mk.T) (δ:c.T->(Int->Bool)->mk.U->Int->Bool) (hmv:mk.mv=none) (hks:mk.keys = []) (hlk:mk.lkeys = [k0,k1])
  (ha:∀t d,mk.args (φ t d)=.loc k0 0::(c.args t).map .p) (hl:∀t d,mk.lent (φ t d)= [(k0,.blk c.t ((c.head t).map .p ++ [.mapv k1])),(k1,.mq c.kt c.vt d (c.val t))])
  (hl':∀t d u,mk.lent' (φ t d) u = [(k0,.blk c.t ((c.head t).map .p ++ [.mapv k1])),(k1,.mq c.kt c.vt (δ t d u) (c.val t))]) (hp:∀t d,c.pre t->mk.pre (φ t d)) (hr:∀t d u,mk.res (φ t d) u=.p (c.res t)):Jl P f c:=by
 intro t hpre M w env a b vals hMw e0 e1 hab hMa hMb hb hblk ⟨dom,hmq⟩ hargs;have hsz:a<w.heap.size:=by
  obtain⟨g,vs,h1,h2,_⟩:=hblk;rw[e0]at h1;cases h1;exact(Array.getElem?_eq_some_iff.1 h2).1
 let g:Nat->Nat:=fun k=>if k=k0 then 0 else 1;have g0:g k0=0:=if_pos rfl;have g1:g k1=1:=if_neg (fun e=>h01 e.symm);have at0:(env.via g).at_ k0=some a:=by show env.at_ (g k0)=_;rw[g0];exact e0
 have at1:(env.via g).at_ k1=some b:=by show env.at_ (g k1)=_;rw[g1];exact e1
 have hb0:B8 P M w (env.via g) k0 (.blk c.t ((c.head t).map .p ++ [.mapv k1])):=Kh (by
  show EH P M w env (g k0) c.t (EV.ren.renL g _);rw[Qq,g0,g1];exact hblk)
 have hb1:B8 P M w (env.via g) k1 (.mq c.kt c.vt dom (c.val t)):=Kh (by
  show Gr M w env (g k1) dom (c.val t);rw[g1];exact hmq)
 refine Gg (hM.2 (φ t dom) (hp t dom hpre) (by rw[hl];rfl) M w (env.via g) (Value.pointer (some ⟨a,0,none⟩)::vals) hMw (fun k o hk=>?_) (fun k o hk x hx=>?_) (fun k o k' o' hk hk' hne x hx=>?_) (by rw[ha];simp[hargs.1]) (fun i hi=>?_)) ?_
 ·rw[hl]at hk;simp only[Ah4,Prod.mk.injEq,Ait,or_false]at hk;rcases hk with ⟨rfl,rfl⟩|⟨rfl,rfl⟩
  ·exact hb0
  ·exact hb1
 ·rw[hl]at hk;simp only[Ah4,Prod.mk.injEq,Ait,or_false]at hk;rcases hk with ⟨rfl,rfl⟩|⟨rfl,rfl⟩
  ·rw[at0]at hx;cases hx;exact⟨hMa,hsz⟩
  ·rw[at1]at hx;cases hx;exact⟨hMb,hb⟩
 ·rw[hl]at hk hk';simp only[Ah4,Prod.mk.injEq,Ait,or_false]at hk hk';rcases hk with ⟨rfl,rfl⟩|⟨rfl,rfl⟩<;>rcases hk' with ⟨rfl,rfl⟩|⟨rfl,rfl⟩
  ·exact absurd rfl hne
  ·rw[at0]at hx;cases hx;rw[at1];exact fun e=>hab (by cases e;rfl)
  ·rw[at1]at hx;cases hx;rw[at0];exact fun e=>hab (by cases e;rfl)
  ·exact absurd rfl hne
 ·rw[ha]at hi ⊢;cases i with
  |zero=>exact .loc at0
  |succ i=>exact Je hargs i (by simpa using hi)
 ·rintro e w' ⟨u,v,env',M',_,rfl,hs,hM1,hM2,hM3,hpin,_,_,_,ho,_,hres⟩;rw[hmv]at hM2 hpin;rw[hks]at hM2;rw[hlk]at hpin;rw[hr]at hres;have ho:∀k o,(k,o)∈mk.lent' (φ t dom) u->B8 P M' w' (env.via g) k o:=fun k o hk=>by
   have h1:=ho k o hk;rw[hl']at hk;have hag:∀j,j=k0\/j=k1->(env.via g).at_ j=env'.at_ j/\(env.via g).rv j=env'.rv j:=fun j hj=>by
    obtain⟨p1,p2⟩:=hpin j (by simpa using hj) (by simp[C5]);exact⟨p1.symm,p2.symm⟩
   simp only[Ah4,Prod.mk.injEq,Ait,or_false]at hk;have hkk:k=k0\/k=k1:=hk.imp (·.1) (·.1);refine h1.move ⟨Ah0 _,fun _ _=>rfl,fun _ h=>h⟩ (hag k hkk).1 (hag k hkk).2 (fun _ _=>rfl) (fun j hj=>hag j ?_);rcases hk with ⟨rfl,rfl⟩|⟨rfl,rfl⟩
   ·right;have:EV.names.namesL j ((c.head t).map .p ++ [.mapv k1])=true:=hj;have hn:∀(l:List SV),EV.names.namesL j (l.map EV.p ++ [.mapv k1])=(j == k1)\/EV.names.namesL j (l.map EV.p ++ [.mapv k1])=(k1 == j):=fun l=>by
     induction l with
     |nil=>simp[EV.names.namesL,EV.names]
     |cons s l ih=>simpa[EV.names.namesL,EV.names]using ih
    rcases hn (c.head t)with h|h<;>rw[h]at this<;>simp at this
    ·exact this
    ·exact this.symm
   ·cases hj
  refine⟨v,M',rfl,⟨hs.os,hs.tape,hs.output,hs.drawn,hs.size,fun x hx hn=>hs.block x hx (fun⟨k,o,hk,hx2⟩=>hn ?_)⟩,hM1,fun x hx=>?_,hM3,?_,⟨δ t dom u,?_⟩,by cases hres with|p h=>exact h⟩
  ·rw[hl]at hk;simp only[Ah4,Prod.mk.injEq,Ait,or_false]at hk;rcases hk with ⟨rfl,rfl⟩|⟨rfl,rfl⟩
   ·rw[at0]at hx2;cases hx2;exact .inl rfl
   ·rw[at1]at hx2;cases hx2;exact .inr rfl
  ·rcases hM2 x hx with h|h|⟨k,h,_⟩
   ·exact .inl h
   ·exact .inr h.1
   ·cases h
  ·have h1:=Kg (f:=g) (ho k0 _ (by rw[hl'];exact AhF));have h2:EH P M' w' env (g k0) c.t (EV.ren.renL g ((c.head t).map .p ++ [.mapv k1])):=h1;rw[Qq,g0,g1]at h2;exact h2
  ·have h1:=Kg (f:=g) (ho k1 _ (by rw[hl'];exact List.mem_cons_of_mem _ AhF));have h2:Gr M' w' env (g k1) (δ t dom u) (c.val t):=h1;rw[g1]at h2;exact h2
end
end Go.SE
