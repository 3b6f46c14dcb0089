/- A symbolic walk over the model, and what it shows of functions of the program: parts of the proof that the text of the row joins. -/
import Derived.WalkKit
import Derived.CallsIn
import Derived.Below
import Derived.Laws.AppendOwn
import Derived.WalkSpells
import Derived.WalkLawsBesides
import Derived.Laws.StructEq
import Derived.MapKept
import Derived.TacticsIn
import Derived.Maps.AppendAt
import Derived.Laws.CopyRow
open List renaming getD_eq_getElem?_getD->AS,getElem?_eq_getElem->rH,mem_filter->Adn,mem_map->Ado,mem_cons->Adq,mem_cons_of_mem->Adr,range->Adu,contains_iff_mem->Adv,all_eq_true->Ad0,mem_singleton->Ad2,getElem?_append_left->Ad7,getElem?_append_right->Ad8,getElem_mem->AdC,getElem?_eq_some_iff->AdH,getElem_of_mem->AdM,eq_nil_of_length_eq_zero->AdT,length_map->AdW,map_cons->Aea,length_cons->Aeg,getElem?_take_of_lt->Aeq,getElem?_toArray->Ae5,getElem?_drop->AeB,map_congr_left->AeI
open Array renaming getD_eq_getD_getElem?->LS,getElem?_push_size->AdI,ext'->AdJ
open Bool renaming and_eq_true->pR,false_eq_true->AeC
open Nat renaming le_refl->Adp,lt_of_lt_of_le->Adt,mul_le_mul_right->Ad5,zero_add->AdE,add_mul->AdK,le_trans->Aec,add_zero->AeH,add_assoc->AeQ
open Option renaming map_eq_some_iff->Adx,getD_some->AdU
namespace Go.SE
open Go.RowKit
inductive SV where
 |int (k:IntKind) (n:Int)
 |bool (b:Bool)
 |agg (cs:List SV)
 |tup (vs:List SV)
 |sl (sz n:Nat) (get:Nat->List SV)
 |ref (cs:List SV) (off:Nat)
 |clo (f:Nat) (caps:List SV)
 |raw (v:Value)
def SV.at (l:List SV) (i:Nat):SV:=l.getD i (.raw undef)
inductive Av (M:Nat->Prop) (w:World):SV->Value->Prop
 |int (k n):Av M w (.int k n) (.int k n)
 |bool (b):Av M w (.bool b) (.bool b)
 |raw (v):Av M w (.raw v) v
 |agg (cs:List SV) (vs:List Value) (hl:vs.length=cs.length) (h:∀i,i<cs.length->Av M w (SV.at cs i) (vs.getD i undef)):Av M w (.agg cs) (.agg vs.toArray)
 |tup (cs:List SV) (vs:List Value) (hl:vs.length=cs.length) (h:∀i,i<cs.length->Av M w (SV.at cs i) (vs.getD i undef)):Av M w (.tup cs) (.tuple vs.toArray)
 |clo (f:Nat) (cs:List SV) (vs:List Value) (hl:vs.length=cs.length) (h:∀i,i<cs.length->Av M w (SV.at cs i) (vs.getD i undef)):Av M w (.clo f cs) (.func (.func f) #[] vs.toArray)
 |ref (cs : List SV) (off:Nat) (vs : Nat->Value) (ad : Addr) (hM : M ad.block) (hc : ∀j, j<cs.length->w.cell? (ad.add j)= some (vs j))
  (ho:∀j,j<cs.length->(vs j).oneCell'=true) (hd:∀j,j<cs.length->Av M w (SV.at cs j) (vs j)):Av M w (.ref cs off) (.pointer (some (ad.add off)))
 |sl (sz n:Nat) (get : Nat->List SV) (A : Option Addr) (cap:Nat) (vs : Nat->Nat->Value) (hcap : n<=cap) (hm : n<=maxLen)
  (hA:0<n->∃ad,A=some ad/\M ad.block/\∀i,i<n->∀j,j<sz->w.cell? (ad.add (i*sz+j))=some (vs i j))
  (hg:∀i,i<n->(get i).length=sz) (ho:∀i,i<n->∀j,j<sz->(vs i j).oneCell'=true) (hd:∀i,i<n->∀j,j<sz->Av M w (SV.at (get i) j) (vs i j)):Av M w (.sl sz n get) (.slice A n cap)
theorem Ra {w w':World} {p:Addr} (h:w'.heap[p.block]? = w.heap[p.block]?):w'.cell? p=w.cell? p:=World.cell?_of_block (w:=w) h
theorem Jl (a:Addr) (n:Nat):(a.add n).block=a.block:=by unfold Addr.add;split<;>rfl
theorem GF (a:Addr) (m n:Nat):(a.add m).add n=a.add (m+n):=by
 unfold Addr.add
 by_cases hm:m=0<;>by_cases hn:n=0<;>simp[hm,hn,AeQ]
theorem Av.mono {M M':Nat->Prop} {w w':World} (hs:∀b,M b->w'.heap[b]? = w.heap[b]?) (hM:∀b,M b->M' b) {s:SV} {v:Value} (h:Av M w s v):Av M' w' s v:=by
 induction h with
 |int k n=>exact .int k n
 |bool b=>exact .bool b
 |raw v=>exact .raw v
 |agg cs vs hl _ ih=>exact .agg cs vs hl ih
 |tup cs vs hl _ ih=>exact .tup cs vs hl ih
 |clo f cs vs hl _ ih=>exact .clo f cs vs hl ih
 |ref cs off vs ad hb hc ho _ ih =>
   exact .ref cs off vs ad (hM _ hb) (fun j hj=>(Ra (by rw[Jl];exact hs _ hb)).trans (hc j hj)) ho ih
 |sl sz n get A cap vs hcap hm hA hg ho _ ih =>
   refine .sl sz n get A cap vs hcap hm (fun hn=>?_) hg ho ih;obtain⟨ad,e,hb,hc⟩:=hA hn;exact⟨ad,e,hM _ hb,fun i hi j hj=>(Ra (by rw[Jl];exact hs _ hb)).trans (hc i hi j hj)⟩
theorem Av.still {M':Nat->Prop} {w w':World} {s:SV} {v:Value} (h:Av (fun _=>False) w s v):Av M' w' s v:=h.mono (fun _ h=>h.elim) (fun _ h=>h.elim)
theorem Av.weak {M M':Nat->Prop} {w:World} (hM:∀b,M b->M' b) {s:SV} {v:Value} (h:Av M w s v):Av M' w s v:=h.mono (fun _ _=>rfl) hM
structure B1 where
 pre:List SV->Prop
 res:List SV->SV
inductive EV where
 |p (s:SV)
 |loc (b off:Nat)
 |row (r:Nat)
 |mapv (r:Nat)
 |rsub (r sz lo n:Nat)
 |rptr (r sz i off:Nat)
 |rpre (r n:Nat)
 |fptr (bs:List Nat) (i:Nat)
 |cl (f:Nat) (caps:List EV)
 |ag (q:Bool) (cs:List EV)
 |fn (sp:B1)
 |yield (l:Nat)
 |any
 |full (q:Bool) (sz n:Nat) (get:Nat->List SV)
structure As where
 at_:Nat->Option Nat
 rv:Nat->Value
 yl:Nat
def Bm (M:Nat->Prop) (w:World) (cs:List SV) (vs:List Value):Prop:=vs.length=cs.length/\∀i,i<cs.length->Av M w (SV.at cs i) (vs.getD i undef)
def Bg (M M':Nat->Prop) (w w':World):Prop:=w.heap.size<=w'.heap.size/\(∀b,M b->w'.heap[b]? = w.heap[b]?)/\∀b,M b->M' b
theorem Bg.refl (M:Nat->Prop) (w:World):Bg M M w w:=⟨Adp _,fun _ _=>rfl,fun _ h=>h⟩
theorem Bg.trans {M M' M'':Nat->Prop} {w w' w'':World} (h:Bg M M' w w') (k:Bg M' M'' w' w''):Bg M M'' w w'' :=
 ⟨Aec h.1 k.1,fun b hb=>(k.2.1 b (h.2.2 b hb)).trans (h.2.1 b hb),fun b hb=>k.2.2 b (h.2.2 b hb)⟩
theorem Av.later {M M':Nat->Prop} {w w':World} (h:Bg M M' w w') {s:SV} {v:Value} (hd:Av M w s v):Av M' w' s v:=hd.mono h.2.1 h.2.2
theorem Bm.later {M M':Nat->Prop} {w w':World} (h:Bg M M' w w') {cs:List SV} {vs:List Value} (hd:Bm M w cs vs):Bm M' w' cs vs:=⟨hd.1,fun i hi=>(hd.2 i hi).later h⟩
structure Bl (B:Nat) (w w':World):Prop where
 os:w'.os=w.os
 tape:w'.tape=w.tape
 output:w'.output=w.output
 drawn:w.drawn<=w'.drawn
 size:w.heap.size<=w'.heap.size
 block:∀k,k<B->w'.heap[k]? = w.heap[k]?
theorem Bl.refl (B:Nat) (w:World):Bl B w w:=⟨rfl,rfl,rfl,Adp _,Adp _,fun _ _=>rfl⟩
theorem Bl.trans {B:Nat} {a b c:World} (h:Bl B a b) (k:Bl B b c):Bl B a c :=
 ⟨k.os.trans h.os,k.tape.trans h.tape,k.output.trans h.output,Aec h.drawn k.drawn,Aec h.size k.size,fun i hi=>(k.block i hi).trans (h.block i hi)⟩
theorem Bl.bel {B:Nat} {w w':World} (h:Bl B w w'):Below B w w':=⟨h.os,h.tape,h.output,h.size,h.block⟩
def HD (M:Nat->Prop) (w:World) (r:SV) (e:Ending) (w':World):Prop :=
 ∃v M',e=.returned v/\Bl w.heap.size w w'/\(∀b,M b->M' b)/\(∀b,M' b->M b\/w.heap.size<=b)/\(∀b,M' b->b<w'.heap.size)/\Av M' w' r v
def Ao (P:Program) (f:Nat):Prop:=∀args w,(callFunc f args).run P w=.ok (.enter f args) w
def Jm (P:Program) (M:Nat->Prop) (w:World) (sp:B1) (v:Value):Prop :=
 ∃f first caps,v=.func (.func f) first caps/\Ao P f/\∀(M':Nat->Prop) (w':World),Bg M M' w w'->(∀b,M' b->b<w'.heap.size)->∀args vals,Bm M' w' args vals->sp.pre args ->
   CallsIn Fence.wide 0 P f (first++vals.toArray++caps) w' (HD M' w' (sp.res args))
theorem Jm.later {P:Program} {M M':Nat->Prop} {w w':World} {sp:B1} {v:Value} (h:Jm P M w sp v) (hl:Bg M M' w w'):Jm P M' w' sp v:=by
 obtain⟨f,first,caps,e,hn,hc⟩:=h;exact⟨f,first,caps,e,hn,fun M'' w'' hl' hlt args vals hd hp=>hc M'' w'' (hl.trans hl') hlt args vals hd hp⟩
def EV.at (l:List EV) (i:Nat):EV:=l.getD i (.p (.raw undef))
inductive Am (P:Program) (M:Nat->Prop) (w:World) (env:As):EV->Value->Prop
 |p {s v} (h:Av M w s v):Am P M w env (.p s) v
 |loc {b off g} (h:env.at_ b=some g):Am P M w env (.loc b off) (.pointer (some ⟨g,off,none⟩))
 |row {r A n c} (h:env.rv r=.slice A n c):Am P M w env (.row r) (.slice A n c)
 |mapv {r g} (h:env.at_ r=some g):Am P M w env (.mapv r) (.map (some g))
 |rsub {r sz lo n:Nat} (A:Option Addr) (cap:Nat) (hc:n<=cap) (hm:n<=maxLen) (hA:0<n->∃g,env.at_ r=some g/\A=some ⟨g,lo*sz,none⟩):Am P M w env (.rsub r sz lo n) (.slice A n cap)
 |rptr {r sz i off g} (h:env.at_ r=some g):Am P M w env (.rptr r sz i off) (.pointer (some ⟨g,i*sz+off,none⟩))
 |rpre {r n N cap:Nat} {g} (h:env.rv r=.slice (some ⟨g,0,none⟩) N cap) (hn:n<=N):Am P M w env (.rpre r n) (.slice (some ⟨g,0,none⟩) n cap)
 |fptr {bs i v} (hi:2*i<bs.length) (h:v=.pointer ((env.at_ (bs.getD (2*i) 0)).map fun a=>⟨a,0,none⟩)):Am P M w env (.fptr bs i) v
 |cl (f:Nat) (cs:List EV) (vs:List Value) (hl:vs.length=cs.length) (h:∀i,i<cs.length->Am P M w env (EV.at cs i) (vs.getD i undef)):Am P M w env (.cl f cs) (.func (.func f) #[] vs.toArray)
 |ag (q:Bool) (cs:List EV) (vs:List Value) (hl:vs.length=cs.length) (h:∀i,i<cs.length->Am P M w env (EV.at cs i) (vs.getD i undef)):Am P M w env (.ag q cs) (bif q then .tuple vs.toArray else .agg vs.toArray)
 |fn {sp v} (h:Jm P M w sp v):Am P M w env (.fn sp) v
 |yield {l}:Am P M w env (.yield l) (.func (.yield l) #[] #[])
 |any {v}:Am P M w env .any v
 |full {q sz n get A c} (h:Av M w (.sl sz n get) (.slice A n c)) (hq:(q=true->c=n)/\(q=false->n=0->A=none/\c=0)):Am P M w env (.full q sz n get) (.slice A n c)
def EV.names (k:Nat):EV->Bool
 | .loc b _=>b == k
 | .row r | .rsub r _ _ _ | .rptr r _ _ _ | .mapv r | .rpre r _=>r == k
 | .fptr bs _=>bs.contains k
 | .cl _ cs=>namesL k cs
 | .ag _ cs=>namesL k cs
 |_=>false
where namesL (k:Nat):List EV->Bool
 |[]=>false
 |e::l=>e.names k||namesL k l
theorem LN {k:Nat}:∀{l:List EV},EV.names.namesL k l=false->∀i,i<l.length->(EV.at l i).names k=false
 |[],_,i,hi=>by simp at hi
 |e::l,h,i,hi=>by
   simp only[EV.names.namesL,Bool.or_eq_false_iff]at h;cases i with
   |zero=>simpa[EV.at]using h.1
   |succ i=>simpa[EV.at]using LN h.2 i (by simpa using hi)
theorem Jn {bs:List Nat} {j:Nat} (h:j<bs.length):bs.getD j 0∈bs:=by
 rw[AS,rH h];exact AdC h
theorem Am.go {P:Program} {M M':Nat->Prop} {w w':World} {env env':As} (hl:Bg M M' w w')
  {e:EV} {v:Value} (h:Am P M w env e v) (he:∀k,e.names k=true->env'.at_ k=env.at_ k/\env'.rv k=env.rv k):Am P M' w' env' e v:=by
 induction h with
 |p h=>exact .p (h.later hl)
 |@loc b off g h=>exact .loc (by rw[(he b (by simp[EV.names])).1];exact h)
 |@mapv r g h=>exact .mapv (by rw[(he r (by simp[EV.names])).1];exact h)
 |@row r A n c h=>exact .row (by rw[(he r (by simp[EV.names])).2];exact h)
 |@rsub r sz lo n A cap hc hm hA=>exact .rsub A cap hc hm (fun hn=>by obtain⟨g,hg,e⟩:=hA hn;exact⟨g,by rw[(he r (by simp[EV.names])).1];exact hg,e⟩)
 |@rptr r sz i off g h=>exact .rptr (by rw[(he r (by simp[EV.names])).1];exact h)
 |@rpre r n N cap g h hn=>exact .rpre (by rw[(he r (by simp[EV.names])).2];exact h) hn
 |@fptr bs i v hi h=>exact .fptr hi (by rw[(he _ (by unfold EV.names;rw[Adv];exact Jn hi)).1];exact h)
 |cl f cs vs hlen _ ih =>
   refine .cl f cs vs hlen (fun i hi=>ih i hi (fun k hk=>he k ?_));simp only[EV.names];cases hx:EV.names.namesL k cs with
   |true=>rfl
   |false=>rw[LN hx i hi]at hk;cases hk
 |ag q cs vs hlen _ ih =>
   refine .ag q cs vs hlen (fun i hi=>ih i hi (fun k hk=>he k ?_));simp only[EV.names];cases hx:EV.names.namesL k cs with
   |true=>rfl
   |false=>rw[LN hx i hi]at hk;cases hk
 |fn h=>exact .fn (h.later hl)
 |yield=>exact .yield
 |any=>exact .any
 |full h hq=>exact .full (h.later hl) hq
theorem Am.mono {P:Program} {M M':Nat->Prop} {w w':World} {env env':As} (hl:Bg M M' w w')
 {e:EV} {v:Value} (h:Am P M w env e v) (he:∀k,e.names k=true->env'.at_ k=env.at_ k/\env'.rv k=env.rv k) (_hy:env'.yl=env.yl):Am P M' w' env' e v:=h.go hl he
theorem Am.later {P:Program} {M M':Nat->Prop} {w w':World} {env:As} (hl:Bg M M' w w') {e:EV} {v:Value} (h:Am P M w env e v):Am P M' w' env e v :=
 h.mono hl (fun _ _=>⟨rfl,rfl⟩) rfl
def Db:SV->Bool
 | .int .. | .bool _ | .raw _=>true
 | .agg l | .tup l=>noMems l
 |_=>false
where noMems:List SV->Bool
 |[]=>true
 |s::l=>Db s&&noMems l
inductive Al where
 |blk (t:TypeId) (cs:List EV)
 |row (e:TypeId) (sz n:Nat) (get:Nat->List SV)
 |mp (kt:TypeId) (n:Nat) (get:Nat->List SV)
 |mq (kt vt:TypeId) (dom:Int->Bool) (val:Int->SV)
 |oblk (b:Bool) (t:TypeId) (cs:List EV)
 |omq (b:Bool) (kt vt:TypeId) (val:Int->SV)
 |ms (kt vt:TypeId) (ok:Int->Int->Prop)
 |prow (e:TypeId) (n:Nat) (bs:List Nat)
structure AE where
 g:Option (Nat×Bool×Bool)
 v:EV
def AE.ok (e:AE):Prop:=match e.g with|none=>True|some (_,_,b)=>b=true
structure St where
 T:List (Nat×AE)
 own:List (Nat×Al)
 yk:Nat
 stop:Bool
 nt:Nat
def GG (l:List (Nat×AE)) (t:Nat):Option AE:=match l with
 |[]=>none
 |(s,e)::l=>if s == t then some e else GG l t
def BC (l:List (Nat×Al)) (t:Nat):Option Al:=match l with
 |[]=>none
 |(s,e)::l=>if s == t then some e else BC l t
theorem HE {l:List (Nat×AE)} {t:Nat} {e:AE} (h:GG l t=some e):(t,e)∈l:=by
 induction l with
 |nil=>simp[GG]at h
 |cons x l ih =>
   obtain⟨s,e'⟩:=x;simp only[GG]at h;split at h
   ·rename_i hs;simp at hs;subst hs;cases h;simp
   ·exact Adr _ (ih h)
theorem Bq {l:List (Nat×Al)} {t:Nat} {e:Al} (h:BC l t=some e):(t,e)∈l:=by
 induction l with
 |nil=>simp[BC]at h
 |cons x l ih =>
   obtain⟨s,e'⟩:=x;simp only[BC]at h;split at h
   ·rename_i hs;simp at hs;subst hs;cases h;simp
   ·exact Adr _ (ih h)
structure Bn where
 g:Nat->(Nat->Prop)->World->Prop
 m0:Nat->Prop
 pin:Nat->Prop:=fun _=>False
 pe:As:={ at_:=fun _=>none,rv:=fun _=>undef,yl:=0 }
structure Same (X:Nat->Prop) (w w':World):Prop where
 os:w'.os=w.os
 tape:w'.tape=w.tape
 output:w'.output=w.output
 drawn:w.drawn<=w'.drawn
 size:w.heap.size<=w'.heap.size
 block:∀b,b<w.heap.size->¬ X b->w'.heap[b]? = w.heap[b]?
def Bp (G:Bn):Prop:=∀k X w X' w',G.g k X w->Same X w w'->(∀b,X b->X' b)->(∀b,X' b->X b\/w.heap.size<=b)->G.g k X' w'
abbrev FL (M:Nat->Prop) (w:World) (env:As) (k:Nat) (dom:Int->Bool) (val:Int->SV):Prop :=
 ∃g es clock,env.at_ k=some g/\w.heap[g]? = some (.map es clock)/\(∀key,dom key=true->∃i,i<es.size/\(es.getD i default).key=.int .i64 key)/\∀i,i<es.size->∃key,(es.getD i default).key=.int .i64 key/\dom key=true/\Av M w (val key) (es.getD i default).val
abbrev El (P:Program) (M:Nat->Prop) (w:World) (env:As) (k:Nat) (t:TypeId) (cs:List EV):Prop :=
 ∃g vs,env.at_ k=some g/\w.heap[g]? = some (.cells vs t (0,0))/\vs.size=cs.length/\∀i,i<cs.length->(vs.getD i undef).oneCell'=true/\Am P M w env (EV.at cs i) (vs.getD i undef)
abbrev gH (w:World) (env:As) (k:Nat) (ok:Int->Int->Prop):Prop :=
 ∃g es clock,env.at_ k=some g/\w.heap[g]? = some (.map es clock)/\∀i,i<es.size->∃a b,(es.getD i default).key=.agg #[.int .i64 a,.int .i64 b]/\ok a b/\(es.getD i default).val=.bool true
def B3 (P:Program) (M:Nat->Prop) (w:World) (env:As) (k:Nat):Al->Prop
 | .oblk b t cs=>(b=true->El P M w env k t cs)/\(b=false->env.at_ k=none)
 | .omq b _ _ val=>(b=true->∃dom,FL M w env k dom val)/\(b=false->env.at_ k=none)
 | .prow e n bs =>n<=maxLen/\2*n<=bs.length/\∃g cap cur, env.at_ k = some g/\env.rv k = .slice (some ⟨g, 0, none⟩) n cap/\w.heap[g]? = some (.cells cur e (0, 0))/\n<=cap/\cap<=maxLen/\cur.size = cap /\
  ∀i,i<n->cur.getD i undef=.pointer ((env.at_ (bs.getD (2*i) 0)).map fun a=>⟨a,0,none⟩)
 | .mp _ n get=>∃g es clock,env.at_ k=some g/\w.heap[g]? = some (.map es clock)/\es.size=n/\∀i,i<n->Db.noMems (get i)=true/\Av (fun _=>False) w (.agg (get i)) (es.getD i default).key
 | .mq _ _ dom val=>FL M w env k dom val
 | .ms _ _ ok=>gH w env k ok
 | .blk t cs=>El P M w env k t cs
 | .row e sz n get =>n<=maxLen/\(∀i, i<n->(get i).length = sz)/\((env.at_ k = none/\env.rv k = .slice none 0 0/\n = 0) \/
  ∃g cap cur,env.at_ k=some g/\env.rv k=.slice (some ⟨g,0,none⟩) n cap/\w.heap[g]? = some (.cells cur e (0,0))/\n<=cap/\cap<=maxLen/\cur.size=cap*sz /\
    ∀i,i<n->∀j,j<sz->(cur.getD (i*sz+j) undef).oneCell'=true/\Av M w (SV.at (get i) j) (cur.getD (i*sz+j) undef))
def Al.names (k:Nat):Al->Bool
 | .blk _ cs=>EV.names.namesL k cs
 | .row ..=>false
 | .mp ..=>false
 | .mq ..=>false
 | .oblk _ _ cs=>EV.names.namesL k cs
 | .omq ..=>false
 | .ms ..=>false
 | .prow _ _ bs=>bs.contains k
theorem B3.move {P:Program} {M M':Nat->Prop} {w w':World} {env env':As} {k:Nat} {o:Al} (h:B3 P M w env k o) (hl:Bg M M' w w') (ha:env'.at_ k=env.at_ k) (hr:env'.rv k=env.rv k)
  (hb:∀g,env.at_ k=some g->w'.heap[g]? = w.heap[g]?) (he:∀j,o.names j=true->env'.at_ j=env.at_ j/\env'.rv j=env.rv j):B3 P M' w' env' k o:=by
 have mq:∀{dom val},FL M w env k dom val->FL M' w' env' k dom val:=fun {dom val} ⟨g,es,clock,h1,hh,hz,hd⟩=>
  ⟨g,es,clock,ha.trans h1,(hb g h1).trans hh,hz,fun i hi=>by obtain⟨key,q1,q2,q3⟩:=hd i hi;exact⟨key,q1,q2,q3.later hl⟩⟩
 have blk:∀{t cs},(∀j,EV.names.namesL j cs=true->env'.at_ j=env.at_ j/\env'.rv j=env.rv j)->El P M w env k t cs->El P M' w' env' k t cs:=fun {t cs} hn ⟨g,vs,h1,hh,hz,hd⟩=>
  ⟨g,vs,ha.trans h1,(hb g h1).trans hh,hz,fun i hi=>⟨(hd i hi).1,(hd i hi).2.go hl (fun j hj=>hn j (by
   cases hx:EV.names.namesL j cs with
   |true=>rfl
   |false=>rw[LN hx i hi]at hj;cases hj))⟩⟩
 cases o with
 |mp kt n get =>
   obtain⟨g,es,clock,h1,hh,hz,hd⟩:=h;exact⟨g,es,clock,ha.trans h1,(hb g h1).trans hh,hz,fun i hi=>⟨(hd i hi).1,(hd i hi).2.still⟩⟩
 |mq kt vt dom val=>exact mq h
 |ms kt vt ok =>
   obtain⟨g,es,clock,h1,hh,hd⟩:=h;exact⟨g,es,clock,ha.trans h1,(hb g h1).trans hh,hd⟩
 |omq b kt vt val=>exact⟨fun e=>by obtain⟨dom,h1⟩:=h.1 e;exact⟨dom,mq h1⟩,fun e=>ha.trans (h.2 e)⟩
 |blk t cs=>exact blk he h
 |oblk b t cs=>exact⟨fun e=>blk he (h.1 e),fun e=>ha.trans (h.2 e)⟩
 |prow e n bs =>
   obtain⟨hm,hn,g,cap,cur,h1,h2,hh,h3,h4,h5,h6⟩:=h;exact⟨hm,hn,g,cap,cur,ha.trans h1,hr.trans h2,(hb g h1).trans hh,h3,h4,h5,fun i hi=>by
    rw[(he (bs.getD (2*i) 0) (by unfold Al.names;rw[Adv];exact Jn (by omega))).1];exact h6 i hi⟩
 |row e sz n get =>
   obtain⟨hm,hgl,h1⟩:=h;refine⟨hm,hgl,?_⟩;rw[ha,hr];rcases h1 with h1|⟨g,cap,cur,h1,h2,hh,h3,h4,h5,h6⟩
   ·exact .inl h1
   ·exact .inr ⟨g,cap,cur,h1,h2,(hb g h1).trans hh,h3,h4,h5,fun i hi j hj=>⟨(h6 i hi j hj).1,(h6 i hi j hj).2.later hl⟩⟩
def HF (G:Bn) (env:As) (nt:Nat):Prop:=∀k,G.pin k->nt<=k/\env.at_ k=G.pe.at_ k/\env.rv k=G.pe.rv k
structure Ak (P:Program) (G:Bn) (st:St) (a:Act) (w:World) (env:As) (M X:Nat->Prop):Prop where
 gam:G.g st.yk X w/\HF G env st.nt
 mx:∀b,M b->G.m0 b\/X b
 own:∀k o,(k,o)∈st.own->B3 P M w env k o
 oat:∀k o,(k,o)∈st.own->∀g,env.at_ k=some g->X g/\¬ M g/\g<w.heap.size
 inj:∀k o k' o',(k,o)∈st.own->(k',o')∈st.own->k≠k'->∀g,env.at_ k=some g->env.at_ k'≠some g
 nod:(st.own.map (·.1)).Nodup
 mlt:∀b,M b->b<w.heap.size
 xlt:∀b,X b->b<w.heap.size
 siz:a.tmps.size=st.nt
 tmp:∀s e,(s,e)∈st.T->s<st.nt/\(e.ok->Am P M w env e.v (a.eval (.tmp s)))/\(¬ e.ok->a.eval (.tmp s)=undef)
 grd:∀s e,(s,e)∈st.T->∀q c v,e.g=some (q,c,v)->(v=true↔a.eval (.tmp q)=.bool c)
 dfr:∀d,d∈a.defers->∃D,d = { target:=.collected D,args:=#[] }/\w.heap[D]? = some (.deferred (some []))/\X D/\¬ M D/\∀k o,(k,o)∈st.own->env.at_ k≠some D
 dno:a.defers.Nodup
def AI (P:Program) (G:Bn) (st:St) (a:Act) (w:World):Prop:=∃env M X,Ak P G st a w env M X
theorem Ak.step {P:Program} {G:Bn} {st:St} {a:Act} {w w':World} {env:As} {M X M' X':Nat->Prop} (hG:Bp G) (h:Ak P G st a w env M X)
  (hs:Same (fun _=>False) w w') (hM:∀b,M b->M' b) (hM':∀b,M' b->M b\/w.heap.size<=b) (hMl:∀b,M' b->b<w'.heap.size) (hMX:∀b,M' b->M b\/X' b)
  (hX:∀b,X b->X' b) (hX':∀b,X' b->X b\/w.heap.size<=b) (hXl:∀b,X' b->b<w'.heap.size):Ak P G st a w' env M' X':=by
 have hl:Bg M M' w w':=⟨hs.size,fun b hb=>hs.block b (h.mlt b hb) (fun f=>f),hM⟩;have hb:∀g,g<w.heap.size->w'.heap[g]? = w.heap[g]?:=fun g hg=>hs.block g hg (fun f=>f);refine⟨⟨hG _ _ _ _ _ h.gam.1 ⟨hs.os,hs.tape,hs.output,hs.drawn,hs.size,fun b hb _=>hs.block b hb (fun f=>f)⟩ hX hX',h.gam.2⟩,fun b hb=>by rcases hMX b hb with hb|hb;exact(h.mx b hb).imp id (hX b);exact .inr hb,?_,?_,h.inj,h.nod,hMl,hXl,h.siz,?_,h.grd,?_,h.dno⟩
 ·intro k o ho;exact(h.own k o ho).move hl rfl rfl (fun g hg=>hb g (h.oat k o ho g hg).2.2) (fun _ _=>⟨rfl,rfl⟩)
 ·intro k o ho g hg;obtain⟨h1,h2,h3⟩:=h.oat k o ho g hg;exact⟨hX _ h1,fun hm=>by rcases hM' _ hm with hm|hm;exact h2 hm;omega,Adt h3 hs.size⟩
 ·intro s e hse;exact⟨(h.tmp s e hse).1,fun he=>((h.tmp s e hse).2.1 he).later hl,(h.tmp s e hse).2.2⟩
 ·intro d hd;obtain⟨D,e,h1,h2,h3,h4⟩:=h.dfr d hd;have hD:D<w.heap.size:=h.xlt D h2;exact⟨D,e,(hb D hD).trans h1,hX _ h2,fun hm=>by rcases hM' _ hm with hm|hm;exact h3 hm;omega,h4⟩
theorem Ak.sub {P:Program} {G:Bn} {st st':St} {a:Act} {w:World} {env:As} {M X:Nat->Prop} (h:Ak P G st a w env M X)
  (hT:∀x,x∈st'.T->x∈st.T) (hO:∀x,x∈st'.own->x∈st.own) (hn:(st'.own.map (·.1)).Nodup) (hy:st'.yk=st.yk) (ht:st'.nt=st.nt):Ak P G st' a w env M X :=
 ⟨by rw[hy,ht];exact h.gam,h.mx,fun k o ho=>h.own k o (hO _ ho),fun k o ho=>h.oat k o (hO _ ho),fun k o k' o' ho ho'=>h.inj k o k' o' (hO _ ho) (hO _ ho'),hn,h.mlt,h.xlt,
  by rw[ht];exact h.siz,fun s e hs=>by rw[ht];exact h.tmp s e (hT _ hs),fun s e hs=>h.grd s e (hT _ hs),fun d hd=>by obtain⟨D,e,h1,h2,h3,h4⟩:=h.dfr d hd;exact⟨D,e,h1,h2,h3,fun k o ho=>h4 k o (hO _ ho)⟩,h.dno⟩
def AE.by (e:AE) (d:Nat):Bool:=match e.g with|some (q,_,_)=>q == d|none=>false
def St.put (st:St) (d:Option Nat) (e:AE):St:=match d with
 |none=>st
 |some d=>{ st with T:=(d,e)::st.T.filter (fun x=>!(x.1 == d) && !(x.2.by d)) }
theorem Rb {a:Act} {d:Nat} {v:Value} (h:d<a.tmps.size):(a.put (some d) v).eval (.tmp d)=v:=by
 simp[Act.put,Act.eval,h]
theorem LO {a:Act} {d s:Nat} {v:Value} (h:s≠d):(a.put (some d) v).eval (.tmp s)=a.eval (.tmp s):=by
 simp only[Act.put,Act.eval,LS,Array.getElem?_setIfInBounds];rw[if_neg (fun e=>h e.symm)]
theorem gI {a:Act} {d:Option Nat} {v:Value}:(a.put d v).tmps.size=a.tmps.size:=by cases d<;>simp[Act.put]
theorem Rc {a:Act} {d:Option Nat} {v:Value}:(a.put d v).defers=a.defers:=by cases d<;>simp[Act.put]
theorem Ak.put {P:Program} {G:Bn} {st:St} {a:Act} {w:World} {env:As} {M X:Nat->Prop} (h:Ak P G st a w env M X) {d:Option Nat} {e:AE} {v:Value}
  (hd:∀t,d=some t->t<st.nt) (he:e.ok->Am P M w env e.v v) (hu:¬ e.ok->v=undef)
  (hg:∀q c x,e.g=some (q,c,x)->d≠some q/\(x=true↔a.eval (.tmp q)=.bool c)):Ak P G (st.put d e) (a.put d v) w env M X:=by
 cases d with
 |none=>exact h
 |some t =>
   refine⟨h.gam,h.mx,h.own,h.oat,h.inj,h.nod,h.mlt,h.xlt,gI.trans h.siz,?_,?_,by rw[Rc];exact h.dfr,by rw[Rc];exact h.dno⟩
   ·intro s e' hs;simp only[St.put,Adq,Adn,Prod.mk.injEq]at hs;rcases hs with ⟨rfl,rfl⟩|⟨hs,hne⟩
    ·have hlt:=hd _ rfl;refine⟨hlt,fun ho=>?_,fun ho=>?_⟩
     ·rw[Rb (by rw[h.siz];exact hlt)];exact he ho
     ·rw[Rb (by rw[h.siz];exact hlt)];exact hu ho
    ·have hne':s≠t:=by simp at hne;exact hne.1
     obtain⟨h1,h2,h3⟩:=h.tmp s e' hs;exact⟨h1,fun ho=>by rw[LO hne'];exact h2 ho,fun ho=>by rw[LO hne'];exact h3 ho⟩
   ·intro s e' hs q c x hq;simp only[St.put,Adq,Adn,Prod.mk.injEq]at hs;rcases hs with ⟨rfl,rfl⟩|⟨hs,hne⟩
    ·obtain⟨h1,h2⟩:=hg q c x hq;have hqt:q≠s:=fun e=>h1 (by rw[e]);rw[LO hqt];exact h2
    ·have hqt:q≠t:=by simp[AE.by,hq]at hne;exact hne.2
     rw[LO hqt];exact h.grd s e' hs q c x hq
structure Ty where
 desc:TypeDesc
 zero:Value
 size:Nat
 bytes:Nat
def Bf (P:Program) (t:TypeId):Option Ty:=match P.info? t,P.underlying t with
 |some i,some d=>match i.zero with|some z=>some ⟨d,z,i.size,i.bytes⟩|none=>none
 |_,_=>none
theorem C5 {P:Program} {t:TypeId} {y:Ty} (h:Bf P t=some y) :
  ∃i,P.info? t=some i/\i.zero=some y.zero/\i.size=y.size/\i.bytes=y.bytes/\P.underlying t=some y.desc:=by
 unfold Bf at h;split at h
 ·rename_i i d hi hd;split at h
  ·rename_i z hz;cases h;exact⟨i,hi,hz,rfl,rfl,hd⟩
  ·cases h
 ·cases h
def DO:TypeDesc->Bool
 | .struct _ | .array _ _=>true
 |_=>false
theorem K1 {P:Program} {t:TypeId} {d:TypeDesc} (h:P.underlying t=some d) (w:World):(isAgg t).run P w=.ok (DO d) w:=by
 cases d<;>simp[isAgg,run_underlying h,DO]
theorem E3 {P:Program} {t:TypeId} {i:TypeInfo} (h:P.info? t=some i) (w:World):(sizeOf t).run P w=.ok i.size w:=by
 simp[sizeOf,typeInfo,h]
def Ac (k:IntKind) (n:Int):Prop:=match k with
 | .i64=>-9223372036854775808<=n/\n<=9223372036854775807
 |k=>k.wrap n=n
theorem Ac.wrap {k:IntKind} {n:Int} (h:Ac k n):k.wrap n=n:=by
 cases k<;>first|exact h|exact IntWalk.i64_in n h
abbrev HG:=Option (List Prop×EV)
def all (ps:List Prop):Prop:=∀p,p∈ps->p
theorem K2:all []:=fun p h=>by cases h
def EJ (y:Ty) (cs:List SV) (off:Nat):Option SV :=
 if DO y.desc then(if off+y.size<=cs.length then some (.agg ((cs.drop off).take y.size))else none)else cs[off]?
def K3 (P:Program) (eq:TypeId->SV->SV->Option Bool):List Field->List SV->List SV->Option Bool
 |[],_,_=>some true
 | f :: l,xs,ys=>if f.name = "_" then none else match Bf P f.type with
   |none=>none
   |some y=>match EJ y xs f.offset,EJ y ys f.offset with
     |some a,some b=>match eq f.type a b with
       |none=>none
       |some e=>match K3 P eq l xs ys with
         |none=>none
         |some r=>some (match l with|[]=>e|_::_=>e&&r)
     |_,_=>none
def Iy (P:Program):Nat->TypeId->SV->SV->Option Bool
 |0,_,_,_=>none
 |d+1,t,x,y=>match P.underlying t,x,y with
   |some .bool,.bool a,.bool b=>some (a == b)
   |some (.int _),.int k a,.int k' b=>if k=k' then some (decide (a=b))else none
   |some (.struct fs),.agg xs,.agg ys=>if P.stoodInHeld t then none else K3 P (Iy P d) fs.toList xs ys
   |_,_,_=>none
def Em (a b:Int):Int:=IntKind.i64.wrap ((BitVec.ofInt 64 a &&& BitVec.ofInt 64 b).toNat:Int)
def FM (a b:Int):Int:=IntKind.i64.wrap ((BitVec.ofInt 64 a ||| BitVec.ofInt 64 b).toNat:Int)
def Dj (a b:Int):Int:=IntKind.i64.wrap ((BitVec.ofInt 64 a &&& ~~~BitVec.ofInt 64 b).toNat:Int)
def Dc (a b:Int):Int:=a*2 ^ min b.toNat 64
def FN (a b:Int):Int:=a.fdiv (2 ^ min b.toNat 64)
def NO (P:Program) (op:BinOp) (t:TypeId) (x y:SV):Option (List Prop×SV):=match x,y with
 | .int k a, .int k' b =>if k = k' then match op with
   | .add=>some ([Ac k (a+b)],.int k (a+b))
   | .sub=>some ([Ac k (a-b)],.int k (a-b))
   | .mul=>some ([Ac k (a*b)],.int k (a*b))
   | .quo=>some ([b≠0,Ac k (a.tdiv b)],.int k (a.tdiv b))
   | .rem=>some ([b≠0],.int k (a.tmod b))
   | .lss=>some ([],.bool (decide (a<b)))
   | .leq=>some ([],.bool (decide (a<=b)))
   | .gtr=>some ([],.bool (decide (b<a)))
   | .geq=>some ([],.bool (decide (b<=a)))
   | .eql=>some ([],.bool (decide (a=b)))
   | .neq=>some ([],.bool (!decide (a=b)))
   | .and=>if k=.i64 then some ([],.int k (Em a b))else none
   | .or=>if k=.i64 then some ([],.int k (FM a b))else none
   | .andNot=>if k=.i64 then some ([],.int k (Dj a b))else none
   | .shl=>if k=.i64 then some ([0<=b,Ac k (Dc a b)],.int k (Dc a b))else none
   | .shr=>if k=.i64 then some ([0<=b],.int k (FN a b))else none
   |_=>none
  else none
 | .bool a, .bool b =>match P.underlying t, op with
  |some .bool,.eql=>some ([],.bool (a == b))
  |some .bool,.neq=>some ([],.bool (!(a == b)))
  |_,_=>none
 | .agg xs, .agg ys =>if P.eqGuardType P.depth t then none else match op with
  | .eql=>(Iy P 9 t (.agg xs) (.agg ys)).map fun b=>([],.bool b)
  | .neq=>(Iy P 9 t (.agg xs) (.agg ys)).map fun b=>([],.bool (!b))
  |_=>none
 |_,_=>none
def allP:List EV->Option (List SV)
 |[]=>some []
 | .p s::l=>(allP l).map (s :: ·)
 |_::_=>none
def NP (l:List Int) (j:Nat):Int:=l.getD j 0
def K4 (k:IntKind):List SV->Option (List Int)
 |[]=>some []
 | .int k' n::l=>if k'=k then(K4 k l).map (n :: ·)else none
 |_=>none
def K5 (c:List SV) (j:Nat):SV:=match c with
 | .int k _::_=>match K4 k c with
   |some l=>.int k (NP l j)
   |none=>SV.at c j
 |_=>SV.at c j
theorem Re {k:IntKind}:∀{c:List SV} {l:List Int},K4 k c=some l->∀j,j<c.length->SV.at c j=.int k (NP l j)
 |[],_,_,j,hj=>by simp at hj
 |s::c,l,h,j,hj=>by
   cases s with
   |int k' n =>
     simp only[K4]at h;split at h
     ·rename_i hk;subst hk;simp only[Adx]at h;obtain⟨l',h1,rfl⟩:=h;cases j with
      |zero=>rfl
      |succ j=>simpa[SV.at,NP]using Re h1 j (by simpa using hj)
     ·cases h
   |_=>simp[K4]at h
theorem Rf {c:List SV} {j:Nat} (hj:j<c.length):K5 c j=SV.at c j:=by
 unfold K5;split
 ·split
  ·rename_i h;exact(Re h j hj).symm
  ·rfl
 ·rfl
def FO (own:List (Nat×Al)) (y:Ty):EV->HG
 | .p (.ref cs off)=>(EJ y cs off).map fun s=>([],.p s)
 | .loc b off=>match BC own b with
   |some (.blk _ cs)=>if DO y.desc then(if off+y.size<=cs.length then(allP ((cs.drop off).take y.size)).map fun l=>([],.p (.agg l))else none)else cs[off]?.map fun e=>([],e)
   |_=>none
 | .rptr r sz i off=>match BC own r with
   |some (.row _ sz' n get)=>if sz' = sz/\off+y.size<=sz then
     (if DO y.desc then some ([i<n],.p (.agg (((get i).drop off).take y.size)))else if y.size=1 then some ([i<n],.p (SV.at (get i) off))else none)
    else if sz'=1/\sz=1/\i=0/\off=0/\y.size=n/\DO y.desc=true then some ([],.p (.agg ((Adu n).map fun j=>SV.at (get j) 0)))else none
   |some (.prow _ n bs)=>if sz=1/\off=0/\y.size=1/\DO y.desc=false then some ([i<n],.fptr bs i)else none
   |_=>none
 |_=>none
def FP (fo:Nat):EV->HG
 | .p (.ref cs off)=>some ([],.p (.ref cs (off+fo)))
 | .loc b off=>some ([],.loc b (off+fo))
 | .rptr r sz i off=>some ([],.rptr r sz i (off+fo))
 |_=>none
section
variable {P:Program} {M:Nat->Prop} {w:World}
theorem K6 (cs:List SV) (off n i:Nat) (hi:i<n):SV.at ((cs.drop off).take n) i=SV.at cs (off+i):=by
 simp only[SV.at,AS];rw[Aeq hi,AeB]
theorem gJ (vs:List Value) (off n i:Nat) (hi:i<n):((vs.drop off).take n).getD i undef=vs.getD (off+i) undef:=by
 simp only[AS];rw[Aeq hi,AeB]
theorem FQ {α:Type} (vs:List α) (off n:Nat) (h:off+n<=vs.length):((vs.drop off).take n).length=n:=by
 simp;omega
theorem Jo {y:Ty} {t:TypeId} {cs:List SV} {off:Nat} {s:SV} {vs:List Value} (hy:Bf P t=some y) (hl:vs.length=cs.length) (h:EJ y cs off=some s)
  (hd:∀i,i<cs.length->Av M w (SV.at cs i) (vs.getD i undef)):∃v,(∀w,(part t vs.toArray off).run P w=.ok v w)/\Av M w s v:=by
 obtain⟨i,hi,hz,hs,hb,hu⟩:=C5 hy;unfold EJ at h
 by_cases ha:DO y.desc=true
 ·rw[if_pos ha]at h;split at h
  ·rename_i hle;cases h;refine⟨.agg ((vs.drop off).take y.size).toArray,fun w=>?_,.agg _ _ ?_ ?_⟩
   ·simp only[part,Sem.run_bind,K1 hu,ha,Result.andThen_ok,if_true,E3 hi,hs,Sem.run_pure,List.extract_toArray,List.extract_eq_take_drop,Nat.add_sub_cancel_left]
   ·rw[FQ _ _ _ (by omega),FQ _ _ _ hle]
   ·rw[FQ _ _ _ hle];intro j hj;rw[K6 _ _ _ _ hj,gJ _ _ _ _ hj];exact hd _ (by omega)
  ·cases h
 ·rw[if_neg ha]at h;simp only[Bool.not_eq_true]at ha;have hlt:off<cs.length:=(AdH.1 h).1;refine⟨vs.getD off undef,fun w=>?_,?_⟩
  ·have hv:vs[off]? = some (vs.getD off undef):=by rw[AS,rH (by omega)];rfl
   simp only[part,Sem.run_bind,K1 hu,ha,Result.andThen_ok,AeC,if_false,Ae5];rw[hv];rfl
  ·have:=hd off hlt;rwa[show SV.at cs off=s by simp[SV.at,AS,h]]at this
theorem FR {y:Ty} {t:TypeId} (hy:Bf P t=some y) (a:Addr) (f:Nat->Value) (h:∀j,j<(if DO y.desc then y.size else 1)->w.cell? (a.add j)=some (f j)) :
  (loadVar t a).run P w=.ok (if DO y.desc then .agg ((Adu y.size).map f).toArray else f 0) w:=by
 obtain⟨i,hi,hz,hs,hb,hu⟩:=C5 hy
 by_cases ha:DO y.desc=true
 ·rw[if_pos ha]at h ⊢;have:=run_loadCells (P:=P) w a y.size f h;simp[loadVar,K1 hu,ha,E3 hi,hs,this]
 ·rw[if_neg ha]at h ⊢;have h0:=h 0 (by omega);simp only[Bool.not_eq_true]at ha;rw[show a.add 0=a from rfl]at h0;simp[loadVar,K1 hu,ha,h0]
theorem FS {t:TypeId} {a:Addr} {u:Value} (h:(loadVar t a).run P w=.ok u w):(Instr.loadAt t (.pointer (some a))).run P w=.ok u w:=by
 simpa[Instr.loadAt,Instr.sureAddr]using h
theorem Jp (f:Nat->Value) (n i:Nat) (hi:i<n):((Adu n).map f).getD i undef=f i:=by
 simp[AS,hi]
theorem gK {y:Ty} {t:TypeId} (hy:Bf P t=some y) {cs:List SV} {off:Nat} {s:SV} (h:EJ y cs off=some s) {v:Value} (hv:Av M w (.ref cs off) v) :
  ∃u,(Instr.loadAt t v).run P w=.ok u w/\Av M w s u:=by
 cases hv with
 |ref _ _ vs ad hM hc ho hd =>
   unfold EJ at h
   by_cases ha:DO y.desc=true
   ·rw[if_pos ha]at h;split at h
    ·rename_i hle;cases h;have:=FR (w:=w) hy (ad.add off) (fun j=>vs (off+j)) (by rw[if_pos ha];intro j hj;rw[GF];exact hc _ (by omega));rw[if_pos ha]at this;refine⟨_,FS this,.agg _ _ ?_ ?_⟩
     ·rw[FQ _ _ _ hle];simp
     ·rw[FQ _ _ _ hle];intro j hj;rw[K6 _ _ _ _ hj,Jp _ _ _ hj];exact hd _ (by omega)
    ·cases h
   ·rw[if_neg ha]at h;have hlt:off<cs.length:=(AdH.1 h).1;have:=FR (w:=w) hy (ad.add off) (fun j=>vs (off+j)) (by rw[if_neg ha];intro j hj;rw[GF];exact hc _ (by omega));rw[if_neg ha]at this;refine⟨_,FS this,?_⟩;have:=hd off hlt;rwa[show SV.at cs off=s by simp[SV.at,AS,h]]at this
theorem Hj:∀{l:List EV} {cs:List SV},allP l=some cs->l=cs.map .p
 |[],cs,h=>by simp[allP]at h;subst h;rfl
 | .p s::l,cs,h=>by
   simp only[allP,Adx]at h;obtain⟨c,hc,rfl⟩:=h;rw[Hj hc];rfl
 | .loc _ _::_,_,h | .row _::_,_,h | .rsub .. :: _,_,h | .rptr .. :: _,_,h | .cl .. :: _,_,h | .ag .. :: _,_,h | .fn _::_,_,h | .yield _::_,_,h | .any::_,_,h=>by simp[allP]at h
theorem CB (g o j:Nat):((⟨g,o,none⟩:Addr)).add j=⟨g,o+j,none⟩:=by unfold Addr.add;split<;>simp_all
theorem gL {g j:Nat} {vs:Array Value} {t:TypeId} {fr:Nat×Nat} (h:w.heap[g]? = some (.cells vs t fr)):w.cell? ⟨g,j,none⟩=vs[j]?:=by simp[World.cell?,h]
theorem E4 {g j:Nat} {vs:Array Value} {t:TypeId} {fr:Nat×Nat} (h:w.heap[g]? = some (.cells vs t fr)) (hj:j<vs.size):w.cell? ⟨g,j,none⟩=some (vs.getD j undef):=by
 rw[gL h];simp[LS,hj]
theorem FT (cs:List SV) (i:Nat) (h:i<cs.length):EV.at (cs.map .p) i=.p (SV.at cs i):=by
 simp[EV.at,SV.at,AS,h]
theorem NQ {G:Bn} {st:St} {a:Act} {env:As} {X:Nat->Prop} (S:Ak P G st a w env M X) {y:Ty} {t:TypeId} (hy:Bf P t=some y) {e r:EV} {ps:List Prop}
  (h:FO st.own y e=some (ps,r)) (hp:all ps) {v:Value} (hv:Am P M w env e v):∃u,(Instr.loadAt t v).run P w=.ok u w/\Am P M w env r u:=by
 cases e with
 |p s =>
   cases s<;>simp only[FO,Adx,reduceCtorEq]at h;rename_i cs off;obtain⟨s,hs,he⟩:=h;cases he;cases hv with
   |p hv =>
     obtain⟨u,h1,h2⟩:=gK hy hs hv;exact⟨u,h1,.p h2⟩
 |loc b off =>
   cases hv with
   |@loc _ _ g hg =>
   simp only[FO]at h;split at h
   ·rename_i t' cs hl;obtain⟨g',vs,hg',hh,hz,hd⟩:=S.own _ _ (Bq hl);rw[hg]at hg';cases hg'
    by_cases ha:DO y.desc=true
    ·rw[if_pos ha]at h;split at h
     ·rename_i hle;simp only[Adx]at h;obtain⟨l,hl',he⟩:=h;cases he;have hl':=Hj hl';have hll:l.length=y.size:=by have:=congrArg List.length hl';rw[FQ _ _ _ hle]at this;simpa using this.symm
      have:=FR (P:=P) (w:=w) hy (⟨g,off,none⟩) (fun j=>vs.getD (off+j) undef) (by rw[if_pos ha];intro j hj;rw[CB];exact E4 hh (by omega));rw[if_pos ha]at this;refine⟨_,FS this,.p (.agg _ _ (by simp[hll]) ?_)⟩;intro j hj;rw[hll]at hj;rw[Jp _ _ _ hj];have h1:=(hd (off+j) (by omega)).2;have h2:EV.at cs (off+j)=.p (SV.at l j):=by
       rw[<- FT l j (by omega),<- hl'];simp only[EV.at,AS];rw[Aeq hj,AeB]
      rw[h2]at h1;cases h1 with|p h1=>exact h1
     ·cases h
    ·rw[if_neg ha]at h;simp only[Adx]at h;obtain⟨e,he,h'⟩:=h;obtain⟨rfl,rfl⟩:ps = []/\e=r:=by simpa[eq_comm]using h'
     have hlt:off<cs.length:=(AdH.1 he).1;have:=FR (P:=P) (w:=w) hy (⟨g,off,none⟩) (fun j=>vs.getD (off+j) undef) (by rw[if_neg ha];intro j hj;rw[CB];exact E4 hh (by omega));rw[if_neg ha]at this;refine⟨_,FS this,?_⟩;have:=(hd off hlt).2;rwa[show EV.at cs off=e by simp[EV.at,AS,he]]at this
   ·cases h
 |rptr r' sz i off =>
   cases hv with
   |@rptr _ _ _ _ g hg =>
   simp only[FO]at h;split at h
   ·rename_i e' sz' n get hl;split at h
    ·rename_i hc;obtain⟨rfl,hoff⟩:=hc;obtain⟨hm,hgl,ho⟩:=S.own _ _ (Bq hl);rcases ho with ⟨hn,_⟩|⟨g',cap,cur,hg',hrv,hh,hnc,hcm,hcs,hd⟩
     ·rw[hn]at hg;cases hg
     rw[hg]at hg';cases hg';have hin:i<n:=by
      by_cases ha:DO y.desc=true
      ·rw[if_pos ha]at h;cases h;exact hp _ (Ad2.2 rfl)
      ·rw[if_neg ha]at h;split at h
       ·cases h;exact hp _ (Ad2.2 rfl)
       ·cases h
     have hcur:∀j,off+j<sz'->i*sz'+off+j<cur.size:=fun j hj=>by
      have:(i+1)*sz'<=cap*sz':=Ad5 _ (by omega);rw[AdK]at this;omega
     by_cases ha:DO y.desc=true
     ·rw[if_pos ha]at h;cases h;have:=FR (P:=P) (w:=w) hy (⟨g,i*sz'+off,none⟩) (fun j=>cur.getD (i*sz'+off+j) undef) (by rw[if_pos ha];intro j hj;rw[CB];exact E4 hh (hcur j (by omega)));rw[if_pos ha]at this;refine⟨_,FS this,.p (.agg _ _ ?_ ?_)⟩
      ·rw[FQ _ _ _ (by rw[hgl i hin];omega)];simp
      ·rw[FQ _ _ _ (by rw[hgl i hin];omega)];intro j hj;rw[K6 _ _ _ _ hj,Jp _ _ _ hj,AeQ];have hj':off+j<sz':=by omega
       exact(hd i hin _ hj').2
     ·rw[if_neg ha]at h;split at h
      ·rename_i h1;cases h;have:=FR (P:=P) (w:=w) hy (⟨g,i*sz'+off,none⟩) (fun j=>cur.getD (i*sz'+off+j) undef) (by rw[if_neg ha];intro j hj;rw[CB];exact E4 hh (hcur j (by omega)));rw[if_neg ha]at this;refine⟨_,FS this,.p ?_⟩;exact(hd i hin off (by omega)).2
      ·cases h
    ·split at h
     ·rename_i hc;obtain⟨rfl,rfl,rfl,rfl,hyn,ha⟩:=hc;cases h;obtain⟨hm,hgl,ho⟩:=S.own _ _ (Bq hl);rcases ho with ⟨hn,_⟩|⟨g',cap,cur,hg',hrv,hh,hnc,hcm,hcs,hd⟩
      ·rw[hn]at hg;cases hg
      rw[hg]at hg';cases hg';have:=FR (P:=P) (w:=w) hy (⟨g,0*1+0,none⟩) (fun j=>cur.getD (0*1+0+j) undef) (by rw[if_pos ha];intro j hj;rw[CB];exact E4 hh (by omega));rw[if_pos ha]at this;refine⟨_,FS this,.p (.agg _ _ ?_ ?_)⟩
      ·simp[hyn]
      ·simp only[AdW,List.length_range];intro j hj;rw[Jp _ _ _ (by omega),show SV.at ((Adu n).map fun j=>SV.at (get j) 0) j=SV.at (get j) 0 by simp[SV.at,AS,hj]];have:=(hd j hj 0 (by omega)).2;rwa[show j*1+0=0*1+0+j by omega]at this
     ·cases h
   ·rename_i e' n bs hl;split at h
    ·rename_i hc;obtain⟨rfl,rfl,hys,ha⟩:=hc;cases h;have hin:i<n:=hp _ (Ad2.2 rfl);obtain⟨hm,hbs,g',cap,cur,hg',hrv,hh,hnc,hcm,hcs,hd⟩:=S.own _ _ (Bq hl);rw[hg]at hg';cases hg';have:=FR (P:=P) (w:=w) hy (⟨g,i*1+0,none⟩) (fun j=>cur.getD (i*1+0+j) undef) (by rw[if_neg (by rw[ha];decide)];intro j hj;rw[CB];exact E4 hh (by omega));rw[if_neg (by rw[ha];decide)]at this;refine⟨_,FS this,.fptr (by omega) ?_⟩;rw[show i*1+0+0=i by omega];exact hd i hin
    ·cases h
   ·cases h
 |rpre _ _|fptr _ _|row _|mapv _|rsub _ _ _ _|cl _ _|ag _|fn _|yield|any|full _ _=>simp[FO]at h
end
def cellsOf:SV->List SV
 | .agg cs=>cs
 | .raw (.agg vs)=>vs.toList.map .raw
 |s=>[s]
def Gs:List SV->Nat->List SV->List SV
 |cs,_,[]=>cs
 |cs,off,c::l=>Gs (cs.set off c) (off+1) l
def Fm (place:Nat->Option (Nat×Nat)):List SV->List (Nat×SV)->Option (List SV)
 |cs,[]=>some cs
 |cs,(i,s)::l=>match place i with
   |none=>none
   |some (off,sz)=>let c:=cellsOf s
     if c.length=sz/\off+sz<=cs.length then Fm place (Gs cs off c) l else none
def Cc:Value->SV
 | .int k n=>.int k n
 | .bool b=>.bool b
 |v=>.raw v
def Jq (P:Program):TypeDesc->Option (Nat->Option (Nat×Nat))
 | .struct fs=>(fs.toList.mapM (fun f=>(P.info? f.type).map fun i=>(f.offset,i.size))).map fun places=>fun i=>places.toArray[i]?
 | .array _ e=>(P.info? e).map fun ie=>fun i=>some (i*ie.size,ie.size)
 |_=>none
def CD:EV->Bool
 | .p (.agg _) | .p (.tup _)=>false
 | .p (.raw v)=>v.oneCell'
 | .any=>false
 | .ag ..=>false
 |_=>true
def BG:EV->List EV
 | .p s=>(cellsOf s).map .p
 | .ag false cs=>cs
 |e=>[e]
def En (cs:List EV) (off:Nat):List EV->List EV
 |[]=>cs
 |e::l=>En (cs.set off e) (off+1) l
def K7 (f:Operand->Option EV):List (Nat×Operand)->Option (List (Nat×EV))
 |[]=>some []
 |(i,x)::l=>match f x with|some e=>(K7 f l).map ((i,e) :: ·)|none=>none
def K8 (place:Nat->Option (Nat×Nat)):List EV->List (Nat×EV)->Option (List EV)
 |cs,[]=>some cs
 |cs,(i,e)::l=>match place i with
   |none=>none
   |some (off,sz)=>if (BG e).all CD=true/\(BG e).length=sz/\off+sz<=cs.length then K8 place (En cs off (BG e)) l else none
def HH (f:Operand->Option EV):List (Nat×Operand)->Option (List (Nat×SV))
 |[]=>some []
 |(i,x)::l=>match f x with|some (.p s)=>(HH f l).map ((i,s) :: ·)|_=>none
def Iz (f:Operand->Option EV):List Operand->Option (List EV)
 |[]=>some []
 |x::l=>match f x with|some e=>(Iz f l).map (e :: ·)|_=>none
def Gt:Option EV->Option Int
 |some (.p (.int _ n))=>some n
 |_=>none
def I1 (lo hi:Option Operand) (ρ:Operand->Option EV) (n:Nat):Option (Int×Int):=
 match lo,hi with
 |none,none=>some (0,n)
 |some l,none=>(Gt (ρ l)).map fun a=>(a,n)
 |none,some h=>(Gt (ρ h)).map fun b=>(0,b)
 |some l,some h=>match Gt (ρ l),Gt (ρ h)with|some a,some b=>some (a,b)|_,_=>none
def NR:List SV->Option SV
 |[.int k a,.int k' b]=>if k=k' then some (.int k (min a b))else none
 |[.int k a,.int k' b,.int k'' c]=>if k=k'/\k=k'' then some (.int k (min (min a b) c))else none
 |_=>none
def NS:List SV->Option SV
 |[.int k a,.int k' b]=>if k=k' then some (.int k (max a b))else none
 |[.int k a,.int k' b,.int k'' c]=>if k=k'/\k=k'' then some (.int k (max (max a b) c))else none
 |_=>none
def HI (P:Program) (own:List (Nat×Al)) (ρ:Operand->Option EV):Op->HG
 | .move x | .assign x=>(ρ x).map fun e=>([],e)
 | .load t x=>match Bf P t,ρ x with
   |some y,some e=>FO own y e
   |_,_=>none
 | .fieldAddr t x i=>match P.underlying t,ρ x with
   |some (.struct fs),some e=>match fs.toList[i]? with
     |some f=>match Bf P f.type with
       |some y=>if y.size=0 then none else FP f.offset e
       |none=>none
     |none=>none
   |_,_=>none
 | .indexAddr t x i=>match P.underlying t,ρ x,ρ i with
   |some (.slice e),some (.p (.sl sz n get)),some (.p (.int _ z))=>match Bf P e with
     |some y=>if y.size=sz then some ([0<=z/\z<(n:Int)],.p (.ref (get z.toNat) 0))else none
     |none=>none
   |some (.slice e),some (.row r),some (.p (.int _ z))=>match Bf P e,BC own r with
     |some y,some (.row _ sz n _)=>if y.size=sz then some ([0<=z/\z<(n:Int)],.rptr r sz z.toNat 0)else none
     |some y,some (.prow _ n _)=>if y.size=1 then some ([0<=z/\z<(n:Int)],.rptr r 1 z.toNat 0)else none
     |_,_=>none
   |some (.slice e),some (.rsub r sz lo n),some (.p (.int _ z))=>match Bf P e with
     |some y=>if y.size=sz then some ([0<=z/\z<(n:Int)],.rptr r sz (lo+z.toNat) 0)else none
     |none=>none
   |some (.array n e),some (.p (.ref cs off)),some (.p (.int _ z))=>match Bf P e with
     |some y=>if 1<n then some ([0<=z/\z<(n:Int)],.p (.ref cs (off+z.toNat*y.size)))else none
     |none=>none
   |some (.array n e),some (.loc b off),some (.p (.int _ z))=>match Bf P e with
     |some y=>if 1<n then some ([0<=z/\z<(n:Int)],.loc b (off+z.toNat*y.size))else none
     |none=>none
   |some (.array n e),some (.rptr r sz i 0),some (.p (.int _ z))=>match Bf P e with
     |some y=>if 1<n/\sz=y.size then some ([0<=z/\z<(n:Int)],.rptr r sz (i+z.toNat) 0)else none
     |none=>none
   |_,_,_=>none
 | .field t x i=>match P.underlying t,ρ x with
   |some (.struct fs),some (.p (.agg cs))=>match fs.toList[i]? with
     |some f=>match Bf P f.type with
       |some y=>(EJ y cs f.offset).map fun s=>([],.p s)
       |none=>none
     |none=>none
   |_,_=>none
 | .index t x i=>match P.underlying t,ρ x,ρ i with
   |some (.array n e),some (.p (.agg cs)),some (.p (.int _ z))=>match Bf P e with
     |some y =>if DO y.desc then(EJ y cs (z.toNat*y.size)).map fun s =>([0<=z/\z<(n:Int)], .p s)
      else if y.size=1/\n<=cs.length then some ([0<=z/\z<(n:Int)],.p (K5 cs z.toNat))else none
     |none=>none
   |_,_,_=>none
 | .binOp op t x y _=>match ρ x,ρ y with
   |some (.p a),some (.p b)=>(NO P op t a b).map fun r=>(r.1,.p r.2)
   |_,_=>none
 | .unOp op _ x=>match op,ρ x with
   | .not,some (.p (.bool b))=>some ([],.p (.bool (!b)))
   | .neg,some (.p (.int k n))=>some ([Ac k (0-n)],.p (.int k (0-n)))
   |_,_=>none
 | .convert src dst x=>match ρ x with
   |some (.p (.int _ n))=>match P.underlying src,P.underlying dst with
     |some (.int _),some (.int k)=>some ([Ac k n],.p (.int k n))
     |_,_=>none
   |_=>none
 | .makeFunc (.func f) first caps =>if first.size = 0 then(Iz ρ caps.toList).map fun l =>match allP l with
  |some ss=>([],.p (.clo f ss))
  |none=>([],.cl f l)else none
 | .extract x i=>match ρ x with
   |some (.p (.tup vs))=>vs[i]?.map fun s=>([],.p s)
   |some (.ag true es)=>es[i]?.map fun e=>([],e)
   |_=>none
 | .nilCheck x=>match ρ x with
   |some (.p (.ref cs off))=>some ([],.p (.ref cs off))
   |some (.loc b off)=>some ([],.loc b off)
   |some (.rptr r sz i off)=>some ([],.rptr r sz i off)
   |_=>none
 | .build t parts=>match Bf P t,HH ρ parts.toList with
   |some y,some l=>match Jq P y.desc with
     |some pl=>(Fm pl (y.zero.cells.toList.map Cc) l).map fun cs=>([],.p (.agg cs))
     |none=>none
   |some y,none=>match Jq P y.desc,K7 ρ parts.toList with
     |some pl,some l=>(K8 pl (y.zero.cells.toList.map fun v=>.p (Cc v)) l).map fun cs=>([],.ag false cs)
     |_,_=>none
   |_,_=>none
 | .slice t x lo hi none=>match P.underlying t,ρ x with
   |some (.slice e),some (.p (.sl sz n get))=>match Bf P e,I1 lo hi ρ n with
     |some y,some (l,h)=>if y.size=sz then some ([0<=l/\l<=h/\h<=(n:Int)],.p (.sl sz (h-l).toNat (fun i=>get (l.toNat+i))))else none
     |_,_=>none
   |some (.slice e),some (.row r)=>match Bf P e,BC own r with
     |some y,some (.row _ sz n _)=>match I1 lo hi ρ n with
       |some (l,h)=>if y.size=sz then some ([0<=l/\l<=h/\h<=(n:Int)],.rsub r sz l.toNat (h-l).toNat)else none
       |none=>none
     |_,_=>none
   |some (.slice e),some (.p (.raw (.slice none 0 0)))=>match Bf P e,I1 lo hi ρ 0 with
     |some _,some (l,h)=>some ([0<=l/\l<=h/\h<=0],.p (.raw (.slice none 0 0)))
     |_,_=>none
   |_,_=>none
 | .slice t x none (some hi) (some mx)=>match P.underlying t,ρ x,Gt (ρ hi),Gt (ρ mx)with
   |some (.slice e),some (.p (.sl sz n get)),some h,some m=>match Bf P e with
     |some _=>some ([0<=h/\h<=(n:Int)/\h=m],.full true sz h.toNat get)
     |none=>none
   |_,_,_,_=>none
 | .call { callee:=.builtin .cap,args:=args,argTypes:=ts }=>match args.toList,ts.toList with
   |[x],[t]=>match P.underlying t,ρ x with
     |some (.slice _),some (.p (.raw (.slice _ _ c)))=>some ([],.p (.int .i64 c))
     |_,_=>none
   |_,_=>none
 | .call { callee:=.builtin .len,args:=args,argTypes:=ts }=>match args.toList,ts.toList with
   |[x],[t]=>match P.underlying t,ρ x with
     |some (.slice _),some (.p (.sl _ n _))=>some ([],.p (.int .i64 n))
     |some (.slice _),some (.p (.raw (.slice _ n _)))=>some ([],.p (.int .i64 n))
     |some (.slice _),some (.row r)=>match BC own r with|some (.row _ _ n _)=>some ([],.p (.int .i64 n))|_=>none
     |some (.slice _),some (.rsub _ _ _ n)=>some ([],.p (.int .i64 n))
     |some (.slice _),some (.full _ _ n _)=>some ([],.p (.int .i64 n))
     |some (.array n _),some _=>some ([],.p (.int .i64 n))
     |some (.map _ _),some (.mapv r)=>match BC own r with|some (.mp _ n _)=>some ([],.p (.int .i64 n))|_=>none
     |_,_=>none
   |_,_=>none
 | .call { callee:=.builtin .min,args:=args,argTypes:=_ }=>match Iz ρ args.toList with
   |some l=>match allP l with|some ss=>(NR ss).map fun s=>([],.p s)|none=>none
   |none=>none
 | .call { callee:=.builtin .max,args:=args,argTypes:=_ }=>match Iz ρ args.toList with
   |some l=>match allP l with|some ss=>(NS ss).map fun s=>([],.p s)|none=>none
   |none=>none
 |_=>none
section
variable {P:Program} {M:Nat->Prop} {w:World}
theorem Hk:Bm M w [] []:=⟨rfl,fun i hi=>by simp at hi⟩
theorem GH {c:SV} {cs:List SV} {v:Value} {vs:List Value} (h:Av M w c v) (k:Bm M w cs vs):Bm M w (c::cs) (v::vs):=
 ⟨by simp[k.1],fun i hi=>by cases i with|zero=>simpa[SV.at]using h|succ i=>simpa[SV.at]using k.2 i (by simpa using hi)⟩
theorem Bm.agg {cs:List SV} {vs:List Value} (h:Bm M w cs vs):Av M w (.agg cs) (.agg vs.toArray):=.agg _ _ h.1 h.2
theorem gM {cs:List SV} {vs:List Value} (h:Bm M w cs vs) (n:Nat) {c:SV} {v:Value} (hc:Av M w c v):Bm M w (cs.set n c) (vs.set n v):=by
 refine⟨by simp[h.1],fun i hi=>?_⟩;simp only[List.length_set]at hi;have:=h.2 i hi;simp only[SV.at,AS,List.getElem?_set]at this ⊢
 by_cases he:n=i
 ·subst he;simp[hi,h.1,hc]
 ·simp[he,this]
theorem Rg {cs ds:List SV} {vs us:List Value} (h:Bm M w cs vs) (k:Bm M w ds us):Bm M w (cs++ds) (vs++us):=by
 refine⟨by simp[h.1,k.1],fun i hi=>?_⟩;simp only[SV.at,AS]
 by_cases hi':i<cs.length
 ·rw[Ad7 hi',Ad7 (by rw[h.1];exact hi')];have:=h.2 i hi';simpa[SV.at,AS]using this
 ·rw[Ad8 (by omega),Ad8 (by rw[h.1];omega),h.1];have:=k.2 (i-cs.length) (by simp at hi;omega);simpa[SV.at,AS]using this
theorem K9 (v:Value):Av M w (Cc v) v:=by
 cases v<;>first|exact .int _ _|exact .bool _|exact .raw _
theorem Gu:∀(vs:List Value),Bm M w (vs.map Cc) vs
 |[]=>Hk
 |v::vs=>GH (K9 v) (Gu vs)
theorem Rh:∀(vs:List Value),Bm M w (vs.map .raw) vs
 |[]=>Hk
 |v::vs=>GH (.raw v) (Rh vs)
theorem LP {s:SV} {v:Value} (h:Av M w s v):Bm M w (cellsOf s) v.cells.toList:=by
 cases h with
 |agg cs vs hl h=>exact⟨by simpa[Value.cells,cellsOf]using hl,by simpa[Value.cells,cellsOf]using h⟩
 |raw v =>
   cases v with
   |agg vs=>simpa[cellsOf,Value.cells]using Rh (M:=M) (w:=w) vs.toList
   |_=>exact GH (.raw _) Hk
 |int k n=>exact GH (.int k n) Hk
 |bool b=>exact GH (.bool b) Hk
 |tup cs vs hl h=>exact GH (.tup cs vs hl h) Hk
 |clo f cs vs hl h=>exact GH (.clo f cs vs hl h) Hk
 |ref cs off vs ad h1 h2 h3 h4=>exact GH (.ref cs off vs ad h1 h2 h3 h4) Hk
 |sl sz n get A cap vs h1 h2 h3 h4 h5 h6=>exact GH (.sl sz n get A cap vs h1 h2 h3 h4 h5 h6) Hk
theorem Ri:∀(us:List Value) (ds:List SV),Bm M w ds us->∀(off k:Nat) (cs:List SV) (vs:List Value),Bm M w cs vs ->
  ∃vs',(us.zipIdx k).foldl (fun cs (x:Value×Nat)=>cs.setIfInBounds (off+x.2) x.1) vs.toArray=vs'.toArray/\Bm M w (Gs cs (off+k) ds) vs'
 |[],ds,h,off,k,cs,vs,hv=>by
   have:ds = []:=AdT (by simpa using h.1.symm);subst this;exact⟨vs,rfl,hv⟩
 |u::us,[],h,_,_,_,_,_=>by simp[Bm]at h
 |u::us,d::ds,h,off,k,cs,vs,hv=>by
   have hd:Av M w d u:=by simpa[SV.at]using h.2 0 (by simp)
   have ht:Bm M w ds us:=⟨by simpa using h.1,fun i hi=>by simpa[SV.at]using h.2 (i+1) (by simpa using hi)⟩;obtain⟨vs',h1,h2⟩:=Ri us ds ht off (k+1) (cs.set (off+k) d) (vs.set (off+k) u) (gM hv _ hd);refine⟨vs',?_,?_⟩
   ·rw[List.zipIdx_cons,List.foldl_cons,List.setIfInBounds_toArray];exact h1
   ·rw[Gs];exact h2
theorem LQ (place:Nat->Option (Nat×Nat)):∀(ps:List (Nat×SV)) (us:List (Nat×Value)),us.length=ps.length ->
  (∀i (hi:i<ps.length) (hj:i<us.length),us[i].1=ps[i].1/\Av M w ps[i].2 us[i].2) ->
  ∀(cs cs':List SV) (vs:List Value),Bm M w cs vs->Fm place cs ps=some cs'->∃vs',Instr.fill place vs.toArray us=some vs'.toArray/\Bm M w cs' vs'
 |[],[],_,_,cs,cs',vs,hv,h=>by simp[Fm]at h;subst h;exact⟨vs,rfl,hv⟩
 |[],u::us,hl,_,_,_,_,_,_=>by simp at hl
 |p::ps,[],hl,_,_,_,_,_,_=>by simp at hl
 |(i,s)::ps,(i',v)::us,hl,hd,cs,cs',vs,hv,h=>by
   obtain⟨h0,hs⟩:=hd 0 (by simp) (by simp);simp only[List.getElem_cons_zero]at h0 hs;subst h0;simp only[Fm]at h;cases hp:place i' with
   |none=>simp[hp]at h
   |some q =>
     obtain⟨off,sz⟩:=q;simp only[hp]at h;split at h
     ·rename_i hc;obtain⟨hc1,hc2⟩:=hc;have hcell:=LP hs;have hsz:v.cells.size=sz:=by have:=hcell.1;rw[hc1]at this;simpa using this
      obtain⟨vs1,e1,d1⟩:=Ri v.cells.toList (cellsOf s) hcell off 0 cs vs hv;obtain⟨vs',e2,d2⟩:=LQ place ps us (by simpa using hl) (fun j hj hj'=>hd (j+1) (by simpa using hj) (by simpa using hj')) _ cs' vs1 d1 h;refine⟨vs',?_,d2⟩;simp only[Instr.fill,hp];have hvl:=hv.1;rw[if_neg (by simp[hsz,hvl];omega)];rw[<- e2,<- e1];congr 1;rw[<- Array.foldl_toList,Array.toList_zipIdx]
     ·cases h
theorem LR {ρ:Operand->Option EV} {env:As} {a:Act} (hρ:∀x e,ρ x=some e->Am P M w env e (a.eval x)):∀(l:List (Nat×Operand)) (ss:List (Nat×SV)),HH ρ l=some ss ->
  (l.map fun x=>(x.1,a.eval x.2)).length=ss.length/\∀i (hi:i<ss.length) (hj:i<(l.map fun x=>(x.1,a.eval x.2)).length),(l.map fun x=>(x.1,a.eval x.2))[i].1=ss[i].1/\Av M w ss[i].2 (l.map fun x=>(x.1,a.eval x.2))[i].2
 |[],ss,h=>by simp[HH]at h;subst h;exact⟨rfl,fun i hi=>by simp at hi⟩
 |(i,x)::l,ss,h=>by
   simp only[HH]at h;split at h
   ·rename_i s hs;simp only[Adx]at h;obtain⟨ss',h1,rfl⟩:=h;obtain⟨h2,h3⟩:=LR hρ l ss' h1;refine⟨by simpa using h2,fun j hj hj'=>?_⟩;cases j with
    |zero =>
      have:=hρ _ _ hs;cases this with|p this=>exact⟨rfl,by simpa using this⟩
    |succ j=>exact h3 j (by simpa using hj) (by simpa using hj')
   ·cases h
theorem LU {ρ:Operand->Option EV} {env:As} {a:Act} (hρ:∀x e,ρ x=some e->Am P M w env e (a.eval x)):∀(l:List Operand) (es:List EV),Iz ρ l=some es ->
  (l.map a.eval).length=es.length/\∀i,i<es.length->Am P M w env (EV.at es i) ((l.map a.eval).getD i undef)
 |[],es,h=>by simp[Iz]at h;subst h;exact⟨rfl,fun i hi=>by simp at hi⟩
 |x::l,es,h=>by
   simp only[Iz]at h;split at h
   ·rename_i e he;simp only[Adx]at h;obtain⟨es',h1,rfl⟩:=h;obtain⟨h2,h3⟩:=LU hρ l es' h1;refine⟨by simpa using h2,fun j hj=>?_⟩;cases j with
    |zero=>simpa[EV.at]using hρ _ _ he
    |succ j=>simpa[EV.at]using h3 j (by simpa using hj)
   ·cases h
theorem I2 {env:As} {es:List EV} {ss:List SV} {vs:List Value} (h:allP es=some ss) (hl:vs.length=es.length) (hd:∀i,i<es.length->Am P M w env (EV.at es i) (vs.getD i undef)):Bm M w ss vs:=by
 have:=Hj h;subst this;simp only[AdW]at hl hd;refine⟨hl,fun i hi=>?_⟩;have:=hd i hi;rw[FT _ _ hi]at this;cases this with|p this=>exact this
theorem NT:∀(d:Nat) (t:TypeId) (x y:SV) (b:Bool),Iy P d t x y=some b->∀(u v:Value),Av M w x u->Av M w y v->∀D w',d<=D->(Op.equalIn D t u v).run P w'=.ok b w':=by
 intro d
 induction d with
 |zero=>intro t x y b h;simp[Iy]at h
 |succ d ih =>
   intro t x y b h u v hu hv D w' hD;obtain⟨D,rfl⟩:∃D',D=D'+1:=⟨D-1,by omega⟩;simp only[Iy]at h;split at h
   ·rename_i a b' hty;cases h;cases hu with|bool=>cases hv with|bool=>exact run_equalIn_bool w' D t _ _ hty
   ·rename_i k a k' b' hty;split at h
    ·rename_i hk;subst hk;cases h;cases hu with|int=>cases hv with|int=>rw[run_equalIn_int w' D t _ _ _ _ hty];congr 1
    ·cases h
   ·rename_i fs xs ys hty;split at h
    ·cases h
    ·rename_i hst;cases hu with
     |agg _ us hul hud =>
     cases hv with
     |agg _ vs hvl hvd =>
     have hfo:P.fieldsOf t=fs:=by simp[Program.fieldsOf,hty]
     rw[run_equalIn_struct w' D t _ _ (by rw[hfo];exact hty) (by simpa using hst),hfo];clear hfo hty;generalize fs.toList=l at h
     induction l generalizing b with
     |nil=>simp[K3]at h;subst h;simp[Op.eqFields]
     |cons f l ihl =>
       simp only[K3]at h;split at h
       ·cases h
       rename_i hname;split at h
       ·cases h
       rename_i y hy;split at h
       ·rename_i a' b' ha hb;split at h
        ·cases h
        rename_i e he;split at h
        ·cases h
        rename_i r hr;obtain⟨va,ra,da⟩:=Jo (M:=M) (w:=w) hy hul ha hud;obtain⟨vb,rb,db⟩:=Jo (M:=M) (w:=w) hy hvl hb hvd;have h1:=ih f.type a' b' e he va vb da db D w' (by omega);have h2:=ihl r hr;cases h;simp only[Op.eqFields,ne_eq,hname,not_false_eq_true,if_true,Sem.run_bind,ra,rb,Result.andThen_ok,h1];cases e
        ·simp;cases l<;>rfl
        ·simp only[Bool.not_true,AeC,if_false,h2];cases l
         ·simp[K3]at hr;subst hr;rfl
         ·simp
       ·cases h
   ·cases h
section
variable {P:Program} {env:As}
theorem I3 {ss:List SV} {vs:List Value} (h:Bm M w ss vs):∀i,i<(ss.map EV.p).length->Am P M w env (EV.at (ss.map .p) i) (vs.getD i undef):=fun i hi=>by
 simp only[AdW]at hi;rw[FT _ _ hi];exact .p (h.2 i hi)
theorem LV {e:EV} {v:Value} (h:Am P M w env e v) (ho:(BG e).all CD=true):v.cells.toList.length=(BG e).length/\∀i,i<(BG e).length->Am P M w env (EV.at (BG e) i) (v.cells.toList.getD i undef):=by
 cases h with
 |p h =>
   have:=LP h;exact⟨by simpa[BG]using this.1,by simpa[BG]using I3 this⟩
 |fn h =>
   have h0:=h;obtain⟨f,first,caps,rfl,_⟩:=h0;refine⟨rfl,fun i hi=>?_⟩;simp[BG]at hi;subst hi;exact .fn h
 |any=>simp[BG,CD]at ho
 |loc hg=>exact⟨rfl,fun i hi=>by simp[BG]at hi;subst hi;exact .loc hg⟩
 |row hg=>exact⟨rfl,fun i hi=>by simp[BG]at hi;subst hi;exact .row hg⟩
 |mapv hg=>exact⟨rfl,fun i hi=>by simp[BG]at hi;subst hi;exact .mapv hg⟩
 |rsub A cap hc hm hA=>exact⟨rfl,fun i hi=>by simp[BG]at hi;subst hi;exact .rsub A cap hc hm hA⟩
 |rptr hg=>exact⟨rfl,fun i hi=>by simp[BG]at hi;subst hi;exact .rptr hg⟩
 |rpre hg hn=>exact⟨rfl,fun i hi=>by simp[BG]at hi;subst hi;exact .rpre hg hn⟩
 |fptr hi h=>subst h;exact⟨rfl,fun i hi'=>by simp[BG]at hi';subst hi';exact .fptr hi rfl⟩
 |ag q cs vs hl hd=>cases q with
   |true=>exact absurd ho (by simp[BG,CD])
   |false=>exact⟨by simpa[BG,Value.cells]using hl,by simpa[BG,Value.cells]using hd⟩
 |cl f cs vs hl hd=>exact⟨rfl,fun i hi=>by simp[BG]at hi;subst hi;exact .cl f cs vs hl hd⟩
 |yield=>exact⟨rfl,fun i hi=>by simp[BG]at hi;subst hi;exact .yield⟩
 |full hg hq=>exact⟨rfl,fun i hi=>by simp[BG]at hi;subst hi;exact .full hg hq⟩
def GI (P:Program) (M:Nat->Prop) (w:World) (env:As) (cs:List EV) (vs:List Value):Prop:=vs.length=cs.length/\∀i,i<cs.length->Am P M w env (EV.at cs i) (vs.getD i undef)
theorem gN {cs:List EV} {vs:List Value} (h:GI P M w env cs vs) (n:Nat) {c:EV} {v:Value} (hc:Am P M w env c v):GI P M w env (cs.set n c) (vs.set n v):=by
 refine⟨by simp[h.1],fun i hi=>?_⟩;simp only[List.length_set]at hi;have:=h.2 i hi;simp only[EV.at,AS,List.getElem?_set]at this ⊢
 by_cases he:n=i
 ·subst he;simp[hi,h.1,hc]
 ·simp[he,this]
theorem Rj:∀(us:List Value) (ds:List EV),GI P M w env ds us->∀(off k:Nat) (cs:List EV) (vs:List Value),GI P M w env cs vs ->
  ∃vs',(us.zipIdx k).foldl (fun cs (x:Value×Nat)=>cs.setIfInBounds (off+x.2) x.1) vs.toArray=vs'.toArray/\GI P M w env (En cs (off+k) ds) vs'
 |[],ds,h,off,k,cs,vs,hv=>by
   have:ds = []:=AdT (by simpa using h.1.symm);subst this;exact⟨vs,rfl,hv⟩
 |u::us,[],h,_,_,_,_,_=>by simp[GI]at h
 |u::us,d::ds,h,off,k,cs,vs,hv=>by
   have hd:Am P M w env d u:=by simpa[EV.at]using h.2 0 (by simp)
   have ht:GI P M w env ds us:=⟨by simpa using h.1,fun i hi=>by simpa[EV.at]using h.2 (i+1) (by simpa using hi)⟩;obtain⟨vs',h1,h2⟩:=Rj us ds ht off (k+1) (cs.set (off+k) d) (vs.set (off+k) u) (gN hv _ hd);refine⟨vs',?_,?_⟩
   ·rw[List.zipIdx_cons,List.foldl_cons,List.setIfInBounds_toArray];exact h1
   ·rw[En];exact h2
theorem Rk (place:Nat->Option (Nat×Nat)):∀(ps:List (Nat×EV)) (us:List (Nat×Value)),us.length=ps.length ->
  (∀i (hi:i<ps.length) (hj:i<us.length),us[i].1=ps[i].1/\Am P M w env ps[i].2 us[i].2) ->
  ∀(cs cs':List EV) (vs:List Value),GI P M w env cs vs->K8 place cs ps=some cs'->∃vs',Instr.fill place vs.toArray us=some vs'.toArray/\GI P M w env cs' vs'
 |[],[],_,_,cs,cs',vs,hv,h=>by simp[K8]at h;subst h;exact⟨vs,rfl,hv⟩
 |[],u::us,hl,_,_,_,_,_,_=>by simp at hl
 |p::ps,[],hl,_,_,_,_,_,_=>by simp at hl
 |(i,s)::ps,(i',v)::us,hl,hd,cs,cs',vs,hv,h=>by
   obtain⟨h0,hs⟩:=hd 0 (by simp) (by simp);simp only[List.getElem_cons_zero]at h0 hs;subst h0;simp only[K8]at h;cases hp:place i' with
   |none=>simp[hp]at h
   |some q =>
     obtain⟨off,sz⟩:=q;simp only[hp]at h;split at h
     ·rename_i hc;obtain⟨hc0,hc1,hc2⟩:=hc;have hcell:=LV hs hc0;have hsz:v.cells.size=sz:=by have:=hcell.1;rw[hc1]at this;simpa using this
      obtain⟨vs1,e1,d1⟩:=Rj v.cells.toList (BG s) hcell off 0 cs vs hv;obtain⟨vs',e2,d2⟩:=Rk place ps us (by simpa using hl) (fun j hj hj'=>hd (j+1) (by simpa using hj) (by simpa using hj')) _ cs' vs1 d1 h;refine⟨vs',?_,d2⟩;simp only[Instr.fill,hp];have hvl:=hv.1;rw[if_neg (by simp[hsz,hvl];omega)];rw[<- e2,<- e1];congr 1;rw[<- Array.foldl_toList,Array.toList_zipIdx]
     ·cases h
theorem Rl {ρ:Operand->Option EV} {a:Act} (hρ:∀x e,ρ x=some e->Am P M w env e (a.eval x)):∀(l:List (Nat×Operand)) (ss:List (Nat×EV)),K7 ρ l=some ss ->
  (l.map fun x=>(x.1,a.eval x.2)).length=ss.length/\∀i (hi:i<ss.length) (hj:i<(l.map fun x=>(x.1,a.eval x.2)).length),(l.map fun x=>(x.1,a.eval x.2))[i].1=ss[i].1/\Am P M w env ss[i].2 (l.map fun x=>(x.1,a.eval x.2))[i].2
 |[],ss,h=>by simp[K7]at h;subst h;exact⟨rfl,fun i hi=>by simp at hi⟩
 |(i,x)::l,ss,h=>by
   simp only[K7]at h;split at h
   ·rename_i e he;simp only[Adx]at h;obtain⟨ss',h1,rfl⟩:=h;obtain⟨h2,h3⟩:=Rl hρ l ss' h1;refine⟨by simpa using h2,fun j hj hj'=>?_⟩;cases j with
    |zero=>exact⟨rfl,by simpa using hρ _ _ he⟩
    |succ j=>exact h3 j (by simpa using hj) (by simpa using hj')
   ·cases h
end
end
section
variable {P:Program} {M:Nat->Prop} {w:World} {G:Bn} {st:St} {a:Act} {env:As} {X:Nat->Prop}
theorem gO {t:TypeId} {fs:Array Field} {f:Field} {y:Ty} {i:Nat} (hu:P.underlying t=some (.struct fs)) (hf:fs.toList[i]? = some f) (hy:Bf P f.type=some y) (hz:¬ y.size=0)
  {e r:EV} {ps:List Prop} (h:FP f.offset e=some (ps,r)) {v:Value} (hv:Am P M w env e v):∃u,(Instr.fieldAt t v i).run P w=.ok u w/\Am P M w env r u:=by
 obtain⟨j,hi,_,hs,_,_⟩:=C5 hy;have hf':fs[i]? = some f:=by simpa using hf
 have key:∀ad:Addr,(Instr.fieldAt t (.pointer (some ad)) i).run P w=.ok (.pointer (some (ad.add f.offset))) w:=fun ad=>by
  have hj:¬ j.size=0:=by rw[hs];exact hz
  simp[Instr.fieldAt,run_underlying hu,hf',Instr.sureAddr,fieldPlace,E3 hi,hj]
 cases e with
 |p s =>
   cases s<;>simp only[FP,reduceCtorEq]at h;cases h;cases hv with
   |p hv =>
   cases hv with
   |ref cs off vs ad hM hc ho hd =>
     exact⟨_,key _,by rw[GF];exact .p (.ref _ _ vs ad hM hc ho hd)⟩
 |loc b off =>
   simp only[FP]at h;cases h;cases hv with
   |loc hg=>exact⟨_,key _,by rw[CB];exact .loc hg⟩
 |rptr r' sz i' off =>
   simp only[FP]at h;cases h;cases hv with
   |rptr hg=>exact⟨_,key _,by rw[CB,AeQ];exact .rptr hg⟩
 |_=>simp[FP]at h
theorem LW {t e:TypeId} {y:Ty} (hu:P.underlying t=some (.slice e)) (hy:Bf P e=some y) (ad:Addr) (n cap:Nat) (k:IntKind) (z:Int) (h0:0<=z) (h1:z<(n:Int)) :
  (Instr.indexAt t (.slice (some ad) n cap) (.int k z)).run P w=.ok (.pointer (some (ad.add (z.toNat*y.size)))) w:=by
 obtain⟨j,hi,_,hs,_,_⟩:=C5 hy;simp[Instr.indexAt,asIntOf,run_underlying hu,h0,h1,E3 hi,hs]
theorem NU {t e:TypeId} {y:Ty} {n:Nat} (hu:P.underlying t=some (.array n e)) (hy:Bf P e=some y) (ad:Addr) (k:IntKind) (z:Int) (h0:0<=z) (h1:z<(n:Int)) :
  (Instr.indexAt t (.pointer (some ad)) (.int k z)).run P w=.ok (.pointer (some (ad.add (z.toNat*y.size)))) w:=by
 obtain⟨j,hi,_,hs,_,_⟩:=C5 hy;simp[Instr.indexAt,asIntOf,run_underlying hu,Instr.sureAddr,h0,h1,E3 hi,hs]
theorem Ay {p:Prop} (h:all [p]):p:=h p (by simp)
theorem gP {t e:TypeId} {y:Ty} {sz n:Nat} {get:Nat->List SV} {z:Int} {k:IntKind} {v:Value} (hu:P.underlying t=some (.slice e)) (hy:Bf P e=some y) (hsz:y.size=sz)
  (hv:Av M w (.sl sz n get) v) (h0:0<=z) (h1:z<(n:Int)):∃u,(Instr.indexAt t v (.int k z)).run P w=.ok u w/\Av M w (.ref (get z.toNat) 0) u:=by
 cases hv with
 |sl _ _ _ A cap vs hcap hm hA hg ho' hd =>
   obtain⟨ad,rfl,hM,hc⟩:=hA (by omega);have hz:z.toNat<n:=by omega
   refine⟨_,LW hu hy ad n cap k z h0 h1,?_⟩;subst hsz;have:=Av.ref (w:=w) (get z.toNat) 0 (vs z.toNat) (ad.add (z.toNat*y.size)) (by rw[Jl];exact hM) (fun j hj=>by rw[GF];exact hc _ hz j (by rw[<- hg _ hz];exact hj)) (fun j hj=>ho' _ hz j (by rw[<- hg _ hz];exact hj)) (fun j hj=>hd _ hz j (by rw[<- hg _ hz];exact hj));exact this
theorem Jr {x:Option EV} {n:Int} (h:Gt x=some n):∃k,x=some (.p (.int k n)):=by
 unfold Gt at h;split at h
 ·cases h;exact⟨_,rfl⟩
 ·cases h
theorem Js {ρ:Operand->Option EV} (hρ:∀x e,ρ x=some e->Am P M w env e (a.eval x)) {t e:TypeId} {y:Ty} (hu:P.underlying t=some (.slice e)) (hy:Bf P e=some y)
  {lo hi:Option Operand} {n:Nat} {l h:Int} (hb:I1 lo hi ρ n=some (l,h)) (A:Option Addr) (cap:Nat) (hcap:n<=cap) (h0:0<=l) (h1:l<=h) (h2:h<=(n:Int)) :
  (Instr.sliceAt t (.slice A n cap) (lo.map a.eval) (hi.map a.eval) none).run P w=.ok (.slice (if cap=l.toNat then A else A.map (·.add (l.toNat*y.size))) (h.toNat-l.toNat) (cap-l.toNat)) w:=by
 obtain⟨j,hi',_,hs,_,_⟩:=C5 hy;have hsb:∀(k:IntKind) (x:Int) (b:Nat) (c:BoundsCode),0<=x->x<=(b:Int)->(Instr.sliceBound (.int k x) b c).run P w=.ok x.toNat w:=fun k x b c p q=>by
  simp[Instr.sliceBound,asIntOf,p,q]
 have key:(Instr.sliceBounds true n cap (lo.map a.eval) (hi.map a.eval) none).run P w=.ok (l.toNat,h.toNat,cap) w:=by
  unfold I1 at hb;split at hb
  ·cases hb;simp[Instr.sliceBounds]
  ·rename_i lo';simp only[Adx]at hb;obtain⟨a',ha,hb⟩:=hb;cases hb;obtain⟨k,hk⟩:=Jr ha;have:=hρ _ _ hk;rcases this with ⟨h⟩;generalize hev:a.eval lo'=q at h;cases h;simp[Instr.sliceBounds,hev,hsb k l n _ h0 h1]
  ·rename_i hi'';simp only[Adx]at hb;obtain⟨a',ha,hb⟩:=hb;cases hb;obtain⟨k,hk⟩:=Jr ha;have:=hρ _ _ hk;rcases this with ⟨h'⟩;generalize hev:a.eval hi''=q at h';cases h';simp[Instr.sliceBounds,hev,hsb k h cap _ h1 (by omega)]
  ·rename_i lo' hi'';split at hb
   ·rename_i a' b' ha hb';cases hb;obtain⟨k,hk⟩:=Jr ha;obtain⟨k',hk'⟩:=Jr hb';have e1:=hρ _ _ hk;have e2:=hρ _ _ hk';rcases e1 with ⟨e1⟩;rcases e2 with ⟨e2⟩;generalize hev:a.eval lo'=q at e1;generalize hev':a.eval hi''=q' at e2;cases e1;cases e2;simp[Instr.sliceBounds,hev,hev',hsb k' h cap _ (by omega) (by omega),hsb k l h.toNat _ h0 (by omega)]
   ·cases hb
 simp[Instr.sliceAt,Instr.slice,run_underlying hu,key,E3 hi',hs]
theorem gQ {ρ:Operand->Option EV} (hρ:∀x e,ρ x=some e->Am P M w env e (a.eval x)) {t e:TypeId} {y:Ty} (hu:P.underlying t=some (.slice e)) (hy:Bf P e=some y)
  {hi mx:Operand} {n:Nat} {h:Int} (hh:Gt (ρ hi)=some h) (hm:Gt (ρ mx)=some h) (A:Option Addr) (cap:Nat) (hcap:h<=(cap:Int)) (h0:0<=h) :
  (Instr.sliceAt t (.slice A n cap) none (some (a.eval hi)) (some (a.eval mx))).run P w=.ok (.slice A h.toNat h.toNat) w:=by
 obtain⟨j,hi',_,hs,_,_⟩:=C5 hy;have hsb:∀(k:IntKind) (x:Int) (b:Nat) (c:BoundsCode),0<=x->x<=(b:Int)->(Instr.sliceBound (.int k x) b c).run P w=.ok x.toNat w:=fun k x b c p q=>by
  simp[Instr.sliceBound,asIntOf,p,q]
 obtain⟨k,hk⟩:=Jr hh;obtain⟨k',hk'⟩:=Jr hm;have e1:=hρ _ _ hk;have e2:=hρ _ _ hk';rcases e1 with ⟨e1⟩;rcases e2 with ⟨e2⟩;generalize hev:a.eval hi=q at e1;generalize hev':a.eval mx=q' at e2;cases e1;cases e2;have key:(Instr.sliceBounds true n cap none (some (.int k h)) (some (.int k' h))).run P w=.ok (0,h.toNat,h.toNat) w:=by
  simp[Instr.sliceBounds,hsb k h h.toNat _ h0 (by omega),hsb k' h cap _ h0 hcap]
 have e3:∀x:Nat,(if h.toNat=0 then A else A.map (·.add (0*x)))=A:=fun x=>by
  split
  ·rfl
  ·cases A<;>simp[Addr.add]
 simp[Instr.sliceAt,Instr.slice,run_underlying hu,key,E3 hi',hs]
 try (cases A<;>simp[Addr.add])
theorem gR {ss:List SV} {s:SV} (h:NR ss=some s) {vs:List Value} (hd:Bm M w ss vs) (ts:Array TypeId) (t:TypeId):∃u,(Builtin.min_ ts t vs.toArray).run P w=.ok u w/\Av M w s u:=by
 obtain⟨hl,hd⟩:=hd;unfold NR at h;split at h
 ·rename_i k a' k' b';split at h
  ·rename_i hk;subst hk;cases h
   match vs,hl with
   |[x,y],_ =>
     have h0:=hd 0 (by simp);have h1:=hd 1 (by simp);simp[SV.at]at h0 h1;cases h0;cases h1;refine⟨.int k (min a' b'),?_,.int _ _⟩;simp only[Builtin.min_,List.foldlM,Builtin.min2,Sem.run_pure,Sem.run_bind,Result.andThen_ok];congr 2;split<;>omega
  ·cases h
 ·rename_i k a' k' b' k'' c';split at h
  ·rename_i hk;obtain⟨rfl,rfl⟩:=hk;cases h
   match vs,hl with
   |[x,y,z],_ =>
     have h0:=hd 0 (by simp);have h1:=hd 1 (by simp);have h2:=hd 2 (by simp);simp[SV.at]at h0 h1 h2;cases h0;cases h1;cases h2;refine⟨.int k (min (min a' b') c'),?_,.int _ _⟩;simp only[Builtin.min_,List.foldlM,Builtin.min2,Sem.run_pure,Sem.run_bind,Result.andThen_ok];congr 2;split<;>split<;>omega
  ·cases h
 ·cases h
theorem gS {ss:List SV} {s:SV} (h:NS ss=some s) {vs:List Value} (hd:Bm M w ss vs) (ts:Array TypeId) (t:TypeId):∃u,(Builtin.max_ ts t vs.toArray).run P w=.ok u w/\Av M w s u:=by
 obtain⟨hl,hd⟩:=hd;unfold NS at h;split at h
 ·rename_i k a' k' b';split at h
  ·rename_i hk;subst hk;cases h
   match vs,hl with
   |[x,y],_ =>
     have h0:=hd 0 (by simp);have h1:=hd 1 (by simp);simp[SV.at]at h0 h1;cases h0;cases h1;refine⟨.int k (max a' b'),?_,.int _ _⟩;simp only[Builtin.max_,List.foldlM,Builtin.max2,Sem.run_pure,Sem.run_bind,Result.andThen_ok];congr 2;split<;>omega
  ·cases h
 ·rename_i k a' k' b' k'' c';split at h
  ·rename_i hk;obtain⟨rfl,rfl⟩:=hk;cases h
   match vs,hl with
   |[x,y,z],_ =>
     have h0:=hd 0 (by simp);have h1:=hd 1 (by simp);have h2:=hd 2 (by simp);simp[SV.at]at h0 h1 h2;cases h0;cases h1;cases h2;refine⟨.int k (max (max a' b') c'),?_,.int _ _⟩;simp only[Builtin.max_,List.foldlM,Builtin.max2,Sem.run_pure,Sem.run_bind,Result.andThen_ok];congr 2;split<;>split<;>omega
  ·cases h
 ·cases h
theorem gT {t:TypeId} {n m:Int} (h0:0<=m) (h1:Ac .i64 (Dc n m)):∃r,((do pure ();binOp .shl t (.int .i64 n) (.int .i64 m)):Sem Value).run P w=.ok r w/\Av M w (.int .i64 (Dc n m)) r:=by
 refine⟨.int .i64 (Dc n m),?_,.int _ _⟩;have e:IntKind.i64.wrap (n*2 ^ min m.toNat 64)=Dc n m:=h1.wrap;simp[binOp,Op.shift,Int.not_lt.2 h0];exact e
theorem gU {t:TypeId} {n m:Int} (h0:0<=m):∃r,((do pure ();binOp .shr t (.int .i64 n) (.int .i64 m)):Sem Value).run P w=.ok r w/\Av M w (.int .i64 (FN n m)) r:=by
 refine⟨.int .i64 (FN n m),?_,.int _ _⟩;simp[binOp,Op.shift,Int.not_lt.2 h0];rfl
theorem gV {op:BinOp} {t:TypeId} {x y s:SV} {ps:List Prop} (h:NO P op t x y=some (ps,s)) (hp:all ps) {u v:Value} (hu:Av M w x u) (hv:Av M w y v) (X Y:Operand) :
  ∃r,((do eqGuard op t X Y u v;binOp op t u v):Sem Value).run P w=.ok r w/\Av M w s r:=by
 unfold NO at h;split at h
 ·rename_i k n k' m;split at h
  ·rename_i hk;subst hk;cases hu;cases hv;rw[eqGuard_at_int];cases op<;>simp only[reduceCtorEq]at h
   case add=>cases h;refine⟨_,?_,.int _ _⟩;simp[binOp,Op.intArith,(hp _ (Ad2.2 rfl)).wrap]
   case sub=>cases h;refine⟨_,?_,.int _ _⟩;simp[binOp,Op.intArith,(hp _ (Ad2.2 rfl)).wrap]
   case mul=>cases h;refine⟨_,?_,.int _ _⟩;simp[binOp,Op.intArith,(hp _ (Ad2.2 rfl)).wrap]
   case quo =>
    cases h;have h0:m≠0:=hp _ (by simp);have h1:Ac k (n.tdiv m):=hp _ (by simp);refine⟨_,?_,.int _ _⟩;simp[binOp,Op.intDiv,h0,h1.wrap]
   case rem =>
    cases h;have h0:m≠0:=hp _ (by simp);refine⟨_,?_,.int _ _⟩;simp[binOp,Op.intDiv,h0]
   case and =>
    split at h
    ·rename_i hk;subst hk;cases h;exact⟨_,by simp[binOp,Op.intBits,Em];rfl,.int _ _⟩
    ·cases h
   case or =>
    split at h
    ·rename_i hk;subst hk;cases h;exact⟨_,by simp[binOp,Op.intBits,FM];rfl,.int _ _⟩
    ·cases h
   case andNot =>
    split at h
    ·rename_i hk;subst hk;cases h;exact⟨_,by simp[binOp,Op.intBits,Dj];rfl,.int _ _⟩
    ·cases h
   case shl =>
    split at h
    ·rename_i hk;subst hk;cases h;exact gT (t:=t) (hp _ (by simp)) (hp _ (by simp))
    ·cases h
   case shr =>
    split at h
    ·rename_i hk;subst hk;cases h;exact gU (t:=t) (hp _ (by simp))
    ·cases h
   case eql=>cases h;refine⟨.bool (decide (n=m)),?_,.bool _⟩;simp[binOp,Op.intCmp];rfl
   case neq=>cases h;refine⟨.bool (!decide (n=m)),?_,.bool _⟩;simp[binOp,Op.intCmp];rfl
   all_goals (cases h;refine⟨_,?_,.bool _⟩;simp[binOp,Op.intCmp])
  ·cases h
 ·rename_i b c;split at h
  ·rename_i hty;cases h;cases hu;cases hv;refine⟨.bool (b == c),?_,.bool _⟩;rw[eqGuard_at_bool];simp[binOp,Op.equal,Op.maxDepth,run_equalIn_bool w 9999 t _ _ hty]
  ·rename_i hty;cases h;cases hu;cases hv;refine⟨.bool (!(b == c)),?_,.bool _⟩;rw[eqGuard_at_bool];simp[binOp,Op.equal,Op.maxDepth,run_equalIn_bool w 9999 t _ _ hty]
  ·cases h
 ·rename_i xs ys;split at h
  ·cases h
  rename_i hg;have hg:P.eqGuardType P.depth t=false:=by simpa using hg
  have hu':=hu;have hv':=hv;cases hu with|agg _ us _ _=>cases hv with|agg _ vs _ _ =>
  have hgr:=fun op=>run_eqGuard_agg (P:=P) w op t X Y us.toArray vs.toArray hg;split at h
  ·simp only[Adx]at h;obtain⟨b,hb,he⟩:=h;cases he;have:=NT 9 t _ _ b hb _ _ hu' hv' 10000 w (by omega);refine⟨_,?_,.bool _⟩;simp only[Sem.run_bind,hgr,Result.andThen_ok,binOp,Op.equal,Op.maxDepth,this,Sem.run_pure]
  ·simp only[Adx]at h;obtain⟨b,hb,he⟩:=h;cases he;have:=NT 9 t _ _ b hb _ _ hu' hv' 10000 w (by omega);refine⟨_,?_,.bool _⟩;simp only[Sem.run_bind,hgr,Result.andThen_ok,binOp,Op.equal,Op.maxDepth,this,Sem.run_pure]
  ·cases h
 ·cases h
theorem Rm {t:TypeId} {y:Ty} (hy:Bf P t=some y) {pl:Nat->Option (Nat×Nat)} (h:Jq P y.desc=some pl) (parts:List (Nat×Value)):P.built t parts=Instr.fill pl y.zero.cells parts:=by
 obtain⟨i,hi,hz,hs,hb,hu⟩:=C5 hy;generalize y.desc=d at h hu;cases d with
 |struct fs =>
   simp only[Jq,Adx]at h;obtain⟨places,hp,rfl⟩:=h;simp only[Program.built,hi,hu,hz,hp]
 |array n e =>
   simp only[Jq,Adx]at h;obtain⟨ie,hp,rfl⟩:=h;simp only[Program.built,hi,hu,hz,hp]
 |_=>simp[Jq]at h
theorem CS {s:Sem Value} {v:Value} (h:s.run P w=.ok v w):(do pure (Next.value (<- s)):Sem Next).run P w=.ok (.value v) w:=by simp[h]
theorem gW (S:Ak P G st a w env M X) {ρ:Operand->Option EV} (hρ:∀x e,ρ x=some e->Am P M w env e (a.eval x)) {op:Op} {ps:List Prop} {r:EV}
  (h:HI P st.own ρ op=some (ps,r)) (hp:all ps) (o:Oper) (ho:o.op=op):∃u,(execOp a.eval o).run P w=.ok (.value u) w/\Am P M w env r u:=by
 unfold HI at h;split at h
 ·simp only[Adx]at h;obtain⟨e,he,h⟩:=h;cases h;exact⟨_,by simp[execOp,ho],hρ _ _ he⟩
 ·simp only[Adx]at h;obtain⟨e,he,h⟩:=h;cases h;exact⟨_,by simp[execOp,ho],hρ _ _ he⟩
 ·split at h
  ·rename_i y e hy he;obtain⟨u,h1,h2⟩:=NQ S hy h hp (hρ _ _ he);exact⟨u,by simp only[execOp,ho];exact CS h1,h2⟩
  ·cases h
 ·split at h
  ·rename_i fs e hu he;split at h
   ·rename_i f hf;split at h
    ·rename_i y hy;split at h
     ·cases h
     ·rename_i hz;obtain⟨u,h1,h2⟩:=gO (w:=w) hu hf hy hz h (hρ _ _ he);exact⟨u,by simp only[execOp,ho];exact CS h1,h2⟩
    ·cases h
   ·cases h
  ·cases h
 ·-- indexAddr
  rename_i t x i;split at h
  ·rename_i e sz n get k z hu hx hi;split at h
   ·rename_i y hy;split at h
    ·rename_i hsz;cases h;obtain⟨h0,h1⟩:=Ay hp;have e1:=hρ _ _ hx;have e2:=hρ _ _ hi;rcases e1 with ⟨e1⟩;rcases e2 with ⟨e2⟩;generalize hev:a.eval i=q at e2;cases e2;obtain⟨u,r1,r2⟩:=gP (k:=k) hu hy hsz e1 h0 h1;exact⟨u,by simp only[execOp,ho,hev];exact CS r1,.p r2⟩
    ·cases h
   ·cases h
  ·rename_i e r' k z hu hx hi;split at h
   ·rename_i y e' sz n get hy hl;split at h
    ·rename_i hsz;cases h;obtain⟨h0,h1⟩:=Ay hp;have e1:=hρ _ _ hx;have e2:=hρ _ _ hi;rcases e2 with ⟨e2⟩;generalize hev:a.eval i=q at e2;cases e2;obtain⟨hm,hgl,hO⟩:=S.own _ _ (Bq hl);generalize hev':a.eval x=q' at e1;cases e1 with
     |@row _ A' n' c' hrow =>
     rcases hO with ⟨_,_,hn⟩|⟨g,cap,cur,hg,hrv,_⟩
     ·omega
     ·rw[hrv]at hrow;cases hrow;have:=LW (P:=P) (w:=w) hu hy ⟨g,0,none⟩ n c' k z h0 h1;rw[CB,AdE,hsz]at this;exact⟨_,by simp only[execOp,ho,hev,hev'];exact CS this,.rptr hg⟩
    ·cases h
   ·rename_i y e' n bs hy hl;split at h
    ·rename_i hsz;cases h;obtain⟨h0,h1⟩:=Ay hp;have e1:=hρ _ _ hx;have e2:=hρ _ _ hi;rcases e2 with ⟨e2⟩;generalize hev:a.eval i=q at e2;cases e2;obtain⟨hm,hbs,g,cap,cur,hg,hrv,_⟩:=S.own _ _ (Bq hl);generalize hev':a.eval x=q' at e1;cases e1 with
     |@row _ A' n' c' hrow =>
     rw[hrv]at hrow;cases hrow;have:=LW (P:=P) (w:=w) hu hy ⟨g,0,none⟩ n cap k z h0 h1;rw[CB,AdE,hsz]at this;exact⟨_,by simp only[execOp,ho,hev,hev'];exact CS this,.rptr hg⟩
    ·cases h
   ·cases h
  ·rename_i e r' sz lo n k z hu hx hi;split at h
   ·rename_i y hy;split at h
    ·rename_i hsz;cases h;obtain⟨h0,h1⟩:=Ay hp;have e1:=hρ _ _ hx;have e2:=hρ _ _ hi;rcases e2 with ⟨e2⟩;generalize hev:a.eval i=q at e2;cases e2;generalize hev':a.eval x=q' at e1;cases e1 with
     |rsub A c' _ _ hA =>
     obtain⟨g,hg,rfl⟩:=hA (by omega);have:=LW (P:=P) (w:=w) hu hy ⟨g,lo*sz,none⟩ n c' k z h0 h1;rw[CB,hsz,<- AdK]at this;refine⟨_,by simp only[execOp,ho,hev,hev'];exact CS this,?_⟩;have:=@Am.rptr P M w env r' sz (lo+z.toNat) 0 g hg;rwa[AeH]at this
    ·cases h
   ·cases h
  ·rename_i n e cs off k z hu hx hi;split at h
   ·rename_i y hy;split at h
    ·cases h;obtain⟨h0,h1⟩:=Ay hp;have e1:=hρ _ _ hx;have e2:=hρ _ _ hi;rcases e1 with ⟨e1⟩;rcases e2 with ⟨e2⟩;generalize hev:a.eval i=q at e2;cases e2;generalize hev':a.eval x=q' at e1;cases e1 with
     |ref _ _ vs ad hM hc ho' hd =>
     have:=NU (P:=P) (w:=w) hu hy (ad.add off) k z h0 h1;rw[GF]at this;exact⟨_,by simp only[execOp,ho,hev,hev'];exact CS this,.p (.ref _ _ vs ad hM hc ho' hd)⟩
    ·cases h
   ·cases h
  ·rename_i n e b off k z hu hx hi;split at h
   ·rename_i y hy;split at h
    ·cases h;obtain⟨h0,h1⟩:=Ay hp;have e1:=hρ _ _ hx;have e2:=hρ _ _ hi;rcases e2 with ⟨e2⟩;generalize hev:a.eval i=q at e2;cases e2;generalize hev':a.eval x=q' at e1;cases e1 with
     |@loc _ _ g hg =>
     have:=NU (P:=P) (w:=w) hu hy ⟨g,off,none⟩ k z h0 h1;rw[CB]at this;exact⟨_,by simp only[execOp,ho,hev,hev'];exact CS this,.loc hg⟩
    ·cases h
   ·cases h
  ·rename_i n e r' sz i' k z hu hx hi;split at h
   ·rename_i y hy;split at h
    ·rename_i hc;obtain⟨_,hsz⟩:=hc;cases h;obtain⟨h0,h1⟩:=Ay hp;have e1:=hρ _ _ hx;have e2:=hρ _ _ hi;rcases e2 with ⟨e2⟩;generalize hev:a.eval i=q at e2;cases e2;generalize hev':a.eval x=q' at e1;cases e1 with
     |@rptr _ _ _ _ g hg =>
     have:=NU (P:=P) (w:=w) hu hy ⟨g,i'*sz+0,none⟩ k z h0 h1;rw[CB,<- hsz,AeH,<- AdK]at this;exact⟨_,by simp only[execOp,ho,hev,hev',AeH];exact CS this,.rptr hg⟩
    ·cases h
   ·cases h
  ·cases h
 ·-- field
  rename_i t x i;split at h
  ·rename_i fs cs hu hx;split at h
   ·rename_i f hf;split at h
    ·rename_i y hy;simp only[Adx]at h;obtain⟨s,hs,h⟩:=h;cases h;have e1:=hρ _ _ hx;rcases e1 with ⟨e1⟩;generalize hev:a.eval x=q at e1;cases e1 with
     |agg _ vs hl hd =>
     obtain⟨u,h1,h2⟩:=Jo hy hl hs hd;refine⟨u,?_,.p h2⟩;simp only[execOp,ho,hev];refine CS ?_;have hf':fs[i]? = some f:=by simpa using hf
     simp[Instr.field,run_underlying hu,hf',asAgg,h1]
    ·cases h
   ·cases h
  ·cases h
 ·-- index
  rename_i t x i;split at h
  ·rename_i n e cs k z hu hx hi;split at h
   ·rename_i y hy;have e1:=hρ _ _ hx;have e2:=hρ _ _ hi;rcases e1 with ⟨e1⟩;rcases e2 with ⟨e2⟩;generalize hev:a.eval i=q at e2;cases e2;generalize hev':a.eval x=q' at e1;cases e1 with
    |agg _ vs hl hd =>
    obtain⟨j,hi',_,hs,_,hu'⟩:=C5 hy
    by_cases ha:DO y.desc=true
    ·rw[if_pos ha]at h;simp only[Adx]at h;obtain⟨s,hs',h⟩:=h;cases h;obtain⟨h0,h1⟩:=Ay hp;obtain⟨u,r1,r2⟩:=Jo hy hl hs' hd;refine⟨u,?_,.p r2⟩;simp only[execOp,ho,hev,hev'];refine CS ?_;simp[Instr.index,asIntOf,run_underlying hu,h0,h1,E3 hi',hs,r1]
    ·rw[if_neg ha]at h;split at h
     ·rename_i hc;obtain⟨hc1,hc2⟩:=hc;cases h;obtain⟨h0,h1⟩:=Ay hp;have hlt:z.toNat<cs.length:=by omega
      obtain⟨u,r1,r2⟩:=Jo (M:=M) (w:=w) hy hl (s:=SV.at cs z.toNat) (off:=z.toNat) (by unfold EJ;rw[if_neg ha];simp[SV.at,AS,rH hlt]) hd;refine⟨u,?_,.p (by rw[Rf hlt];exact r2)⟩;simp only[execOp,ho,hev,hev'];refine CS ?_;simp[Instr.index,asIntOf,run_underlying hu,h0,h1,E3 hi',hs,hc1,r1]
     ·cases h
   ·cases h
  ·cases h
 ·-- binOp
  split at h
  ·rename_i x y hx hy;simp only[Adx]at h;obtain⟨⟨ps',s⟩,hs,h⟩:=h;cases h;have e1:=hρ _ _ hx;have e2:=hρ _ _ hy;rcases e1 with ⟨e1⟩;rcases e2 with ⟨e2⟩;obtain⟨u,h1,h2⟩:=gV hs hp e1 e2 _ _;exact⟨u,by simp only[execOp,ho];exact CS h1,.p h2⟩
  ·cases h
 ·-- unOp
  split at h
  ·rename_i b hx;cases h;have e1:=hρ _ _ hx;rcases e1 with ⟨e1⟩;generalize hev:a.eval _=q at e1;cases e1;exact⟨_,by simp only[execOp,ho,hev];exact CS (by simp[Op.unary]),.p (.bool _)⟩
  ·rename_i k n hx;cases h;have e1:=hρ _ _ hx;rcases e1 with ⟨e1⟩;generalize hev:a.eval _=q at e1;cases e1;have:=(Ay hp).wrap;exact⟨_,by simp only[execOp,ho,hev];exact CS (by simp only[Op.unary,Op.intArith,this];rfl),.p (.int _ _)⟩
  ·cases h
 ·-- convert
  split at h
  ·rename_i k n hx;split at h
   ·rename_i k1 k2 h1 h2;cases h;have e1:=hρ _ _ hx;rcases e1 with ⟨e1⟩;generalize hev:a.eval _=q at e1;cases e1;have:=(Ay hp).wrap;exact⟨_,by simp only[execOp,ho,hev];exact CS (by simp[convert,run_underlying h1,run_underlying h2,Conv.intToInt,this]),.p (.int _ _)⟩
   ·cases h
  ·cases h
 ·-- makeFunc
  rename_i f first caps;split at h
  ·rename_i hf;simp only[Adx]at h;obtain⟨es,hes,h⟩:=h;have hf':first = #[]:=Array.eq_empty_of_size_eq_zero hf;subst hf';obtain⟨h1,h2⟩:=LU hρ _ _ hes;have hrun:(execOp a.eval o).run P w=.ok (.value (.func (.func f) #[] (caps.toList.map a.eval).toArray)) w:=by
    simp only[execOp,ho];refine CS ?_;simp only[Instr.makeFunc,Sem.run_pure,Array.map_empty];congr 3;apply AdJ;simp
   split at h
   ·rename_i ss hss;cases h;have:=I2 hss h1 h2;exact⟨_,hrun,.p (.clo f ss _ this.1 this.2)⟩
   ·cases h;exact⟨_,hrun,.cl f es _ h1 h2⟩
  ·cases h
 ·-- extract
  rename_i x ix;split at h
  ·rename_i vs hx;simp only[Adx]at h;obtain⟨s,hs,h⟩:=h;cases h;have e1:=hρ _ _ hx;rcases e1 with ⟨e1⟩;generalize hev:a.eval _=q at e1;cases e1 with
   |tup _ us hl hd =>
   have hlt:=(AdH.1 hs).1;have hu:us[ix]? = some (us.getD ix undef):=by rw[AS,rH (by omega)];rfl
   refine⟨_,by simp only[execOp,ho,hev];exact CS (by simp only[Instr.extract,Ae5];rw[hu];rfl),.p ?_⟩;have:=hd _ hlt;rwa[show SV.at vs ix=s by simp[SV.at,AS,hs]]at this
  ·rename_i es hx;simp only[Adx]at h;obtain⟨e,he,h⟩:=h;cases h;have e1:=hρ _ _ hx;generalize hev:a.eval _=q at e1;cases e1 with
   |ag _ _ us hl hd =>
   have hlt:=(AdH.1 he).1;have hu:us[ix]? = some (us.getD ix undef):=by rw[AS,rH (by omega)];rfl
   refine⟨_,by simp only[execOp,ho,hev,cond_true];exact CS (by simp only[Instr.extract,Ae5];rw[hu];rfl),?_⟩;have:=hd _ hlt;have he2:EV.at es ix=r:=by simp[EV.at,AS,he]
   rwa[he2]at this
  ·cases h
 ·-- nilCheck
  split at h
  ·rename_i hx;cases h;have e1:=hρ _ _ hx;have e0:=e1;rcases e1 with ⟨e1⟩;generalize hev:a.eval _=q at e1 e0;cases e1;exact⟨_,by simp[execOp,ho,hev],e0⟩
  ·rename_i hx;cases h;have e1:=hρ _ _ hx;have e0:=e1;generalize hev:a.eval _=q at e1 e0;cases e1;exact⟨_,by simp[execOp,ho,hev],e0⟩
  ·rename_i hx;cases h;have e1:=hρ _ _ hx;have e0:=e1;generalize hev:a.eval _=q at e1 e0;cases e1;exact⟨_,by simp[execOp,ho,hev],e0⟩
  ·cases h
 ·-- build
  rename_i t parts;split at h
  ·rename_i y l hy hl;split at h
   ·rename_i pl hpl;simp only[Adx]at h;obtain⟨cs,hcs,h⟩:=h;cases h;obtain⟨h1,h2⟩:=LR hρ _ _ hl;obtain⟨vs',r1,r2⟩:=LQ pl l _ h1 h2 _ _ y.zero.cells.toList (Gu _) hcs;refine⟨.agg vs'.toArray,?_,.p r2.agg⟩;simp only[execOp,ho];refine CS (run_build w t _ _ ?_);rw[Rm hy hpl,<- r1];simp
   ·cases h
  ·rename_i y hy hl;split at h
   ·rename_i pl l hpl hl;simp only[Adx]at h;obtain⟨cs,hcs,h⟩:=h;cases h;obtain⟨h1,h2⟩:=Rl hρ _ _ hl;have hz:GI P M w env (y.zero.cells.toList.map fun v=>.p (Cc v)) y.zero.cells.toList:=by
     have:=Gu (M:=M) (w:=w) y.zero.cells.toList;refine⟨by simp,fun i hi=>?_⟩;have e:(y.zero.cells.toList.map fun v=>EV.p (Cc v))=(y.zero.cells.toList.map Cc).map .p:=by simp
     rw[e]at hi ⊢;exact I3 this i hi
    obtain⟨vs',r1,r2⟩:=Rk pl l _ h1 h2 _ _ y.zero.cells.toList hz hcs;refine⟨.agg vs'.toArray,?_,.ag false cs vs' r2.1 r2.2⟩;simp only[execOp,ho];refine CS (run_build w t _ _ ?_);rw[Rm hy hpl,<- r1];simp
   ·cases h
  ·cases h
 ·-- slice
  rename_i t x lo hi;split at h
  ·rename_i e sz n get hu hx;split at h
   ·rename_i y l h' hy hb;split at h
    ·rename_i hsz;cases h;obtain⟨h0,h1,h2⟩:=Ay hp;have e1:=hρ _ _ hx;rcases e1 with ⟨e1⟩;generalize hev:a.eval x=q at e1;cases e1 with
     |sl _ _ _ A cap vs hcap hm hA hg ho' hd =>
     refine⟨_,by simp only[execOp,ho,hev];exact CS (Js hρ hu hy hb A cap hcap h0 h1 h2),.p ?_⟩;have hn:h'.toNat-l.toNat=(h'-l).toNat:=by omega
     rw[hn];refine .sl _ _ _ _ _ (fun i j=>vs (l.toNat+i) j) (by omega) (by omega) (fun hpos=>?_) (fun i hi=>hg _ (by omega)) (fun i hi j hj=>ho' _ (by omega) j hj) (fun i hi j hj=>hd _ (by omega) j hj);obtain⟨ad,rfl,hM,hc⟩:=hA (by omega);rw[if_neg (by omega)];refine⟨_,rfl,by rw[Jl];exact hM,fun i hi j hj=>?_⟩;rw[GF,hsz];have:=hc (l.toNat+i) (by omega) j hj;rwa[AdK,AeQ]at this
    ·cases h
   ·cases h
  ·rename_i e r' hu hx;split at h
   ·rename_i y e' sz n get hy hl;split at h
    ·rename_i l h' hb;split at h
     ·rename_i hsz;cases h;obtain⟨h0,h1,h2⟩:=Ay hp;have e1:=hρ _ _ hx;generalize hev:a.eval x=q at e1;rcases e1 with _|_|⟨hrow⟩;obtain⟨hm,hgl,hO⟩:=S.own _ _ (Bq hl);have hn:h'.toNat-l.toNat=(h'-l).toNat:=by omega
      rcases hO with ⟨_,hrv,hn0⟩|⟨g,cap,cur,hg,hrv,hh,hnc,_⟩
      ·subst hn0;rw[hrv]at hrow;cases hrow;refine⟨_,by simp only[execOp,ho,hev];exact CS (Js hρ hu hy hb none 0 (Adp _) h0 h1 h2),?_⟩;rw[hn];exact .rsub _ _ (by omega) (by omega) (fun hpos=>by omega)
      ·rw[hrv]at hrow;cases hrow;refine⟨_,by simp only[execOp,ho,hev];exact CS (Js hρ hu hy hb _ _ hnc h0 h1 h2),?_⟩;rw[hn];refine .rsub _ _ (by omega) (by omega) (fun hpos=>⟨g,hg,?_⟩);rw[if_neg (by omega)];simp only[Option.map_some,CB,AdE,hsz]
     ·cases h
    ·cases h
   ·cases h
  ·rename_i e hu hx;split at h
   ·rename_i y l h' hy hb;cases h;obtain⟨h0,h1,h2⟩:=Ay hp;have e1:=hρ _ _ hx;rcases e1 with ⟨e1⟩;generalize hev:a.eval x=q at e1;cases e1;refine⟨_,by simp only[execOp,ho,hev];exact CS (Js hρ hu hy hb none 0 (Adp _) h0 h1 h2),?_⟩;rw[show h'.toNat-l.toNat=0 by omega,show 0-l.toNat=0 by omega];have:∀f:Addr->Addr,(if 0=l.toNat then(none:Option Addr)else Option.map f none)=none:=fun f=>by split<;>rfl
    rw[this];exact .p (.raw _)
   ·cases h
  ·cases h
 ·-- a slice with a bound
  rename_i t x hi mx;split at h
  ·rename_i e sz n get h' m hu hx hh hm;split at h
   ·rename_i y hy;cases h;obtain⟨h0,h1,h2⟩:=Ay hp;subst h2;have e1:=hρ _ _ hx;rcases e1 with ⟨e1⟩;generalize hev:a.eval x=q at e1;cases e1 with
    |sl _ _ _ A cap vs hcap hmx hA hg ho' hd =>
    have r:=gQ (P:=P) (w:=w) (n:=n) hρ hu hy hh hm A cap (by omega) h0;refine⟨_,by simp only[execOp,ho,hev];exact CS r,.full ?_ ⟨fun _=>rfl,fun hf=>by cases hf⟩⟩;exact .sl _ _ _ _ _ (fun i j=>vs i j) (Adp _) (by omega) (fun hpos=>by
     obtain⟨ad,e,hM,hc⟩:=hA (by omega);exact⟨ad,e,hM,fun i hi j hj=>hc i (by omega) j hj⟩) (fun i hi=>hg _ (by omega)) (fun i hi j hj=>ho' _ (by omega) j hj) (fun i hi j hj=>hd _ (by omega) j hj)
   ·cases h
  ·cases h
 ·-- cap
  rename_i args ts;split at h
  ·rename_i x t hx ht;have hargs:args = #[x]:=by apply AdJ;simpa using hx
   have hts:ts = #[t]:=by apply AdJ;simpa using ht
   subst hargs hts;split at h
   ·rename_i e A n cap hu hx;cases h;have e1:=hρ _ _ hx;rcases e1 with ⟨e1⟩;generalize hev:a.eval x=q at e1;cases e1;refine⟨_,?_,.p (.int _ _)⟩;simp[execOp,ho,resolve,invoke,builtin,hev,Builtin.cap_,run_underlying hu,goInt]
   ·cases h
  ·cases h
 ·-- len
  rename_i args ts;split at h
  ·rename_i x t hx ht;have hargs:args = #[x]:=by apply AdJ;simpa using hx
   have hts:ts = #[t]:=by apply AdJ;simpa using ht
   subst hargs hts;have hrun:∀u:Value,(Builtin.len_ #[t] o.type #[a.eval x]).run P w=.ok u w->(execOp a.eval o).run P w=.ok (.value u) w:=fun u hu=>by
    simp[execOp,ho,resolve,invoke,builtin,hu]
   split at h
   ·rename_i e sz n get hu hx;cases h;have e1:=hρ _ _ hx;rcases e1 with ⟨e1⟩;generalize hev:a.eval x=q at e1 hrun;cases e1;exact⟨_,hrun _ (by simp[Builtin.len_,run_underlying hu,goInt]),.p (.int _ _)⟩
   ·rename_i e A n cap hu hx;cases h;have e1:=hρ _ _ hx;rcases e1 with ⟨e1⟩;generalize hev:a.eval x=q at e1 hrun;cases e1;exact⟨_,hrun _ (by simp[Builtin.len_,run_underlying hu,goInt]),.p (.int _ _)⟩
   ·rename_i e r' hu hx;split at h
    ·rename_i e' sz n get hl;cases h;have e1:=hρ _ _ hx;generalize hev:a.eval x=q at e1 hrun;rcases e1 with _|_|⟨hrow⟩;obtain⟨hm,hgl,hO⟩:=S.own _ _ (Bq hl);rcases hO with ⟨_,hrv,hn0⟩|⟨g,cap,cur,hg,hrv,_⟩
     ·subst hn0;rw[hrv]at hrow;cases hrow;exact⟨_,hrun _ (by simp[Builtin.len_,run_underlying hu,goInt]),.p (.int _ _)⟩
     ·rw[hrv]at hrow;cases hrow;exact⟨_,hrun _ (by simp[Builtin.len_,run_underlying hu,goInt]),.p (.int _ _)⟩
    ·cases h
   ·rename_i e r' sz lo n hu hx;cases h;have e1:=hρ _ _ hx;generalize hev:a.eval x=q at e1 hrun;cases e1;exact⟨_,hrun _ (by simp[Builtin.len_,run_underlying hu,goInt]),.p (.int _ _)⟩
   ·rename_i e q' sz n get hu hx;cases h;have e1:=hρ _ _ hx;generalize hev:a.eval x=q at e1 hrun;cases e1;exact⟨_,hrun _ (by simp[Builtin.len_,run_underlying hu,goInt]),.p (.int _ _)⟩
   ·rename_i n e ev hu hx;cases h;exact⟨_,hrun _ (by simp[Builtin.len_,run_underlying hu,goInt]),.p (.int _ _)⟩
   ·rename_i kt e r' hu hx;split at h
    ·rename_i kt' n get hl;cases h;have e1:=hρ _ _ hx;generalize hev:a.eval x=q at e1 hrun;cases e1 with
     |mapv hg =>
     obtain⟨g,es,clock,ha,hh,hz,_⟩:=S.own _ _ (Bq hl);rw[hg]at ha;cases ha;exact⟨_,hrun _ (by simp[Builtin.len_,run_underlying hu,goInt,MapKept.run_getObj_map hh,hz]),.p (.int _ _)⟩
    ·cases h
   ·cases h
  ·cases h
 ·-- min
  rename_i args ts;split at h
  ·rename_i es hes;split at h
   ·rename_i ss hss;simp only[Adx]at h;obtain⟨s,hs,h⟩:=h;cases h;obtain⟨h1,h2⟩:=LU hρ _ _ hes;obtain⟨u,r1,r2⟩:=gR (P:=P) hs (I2 hss h1 h2) ts o.type;refine⟨u,?_,.p r2⟩;have:args.map a.eval=(args.toList.map a.eval).toArray:=by apply AdJ;simp
    simp[execOp,ho,resolve,invoke,builtin,this,r1]
   ·cases h
  ·cases h
 ·-- max
  rename_i args ts;split at h
  ·rename_i es hes;split at h
   ·rename_i ss hss;simp only[Adx]at h;obtain⟨s,hs,h⟩:=h;cases h;obtain⟨h1,h2⟩:=LU hρ _ _ hes;obtain⟨u,r1,r2⟩:=gS (P:=P) hs (I2 hss h1 h2) ts o.type;refine⟨u,?_,.p r2⟩;have:args.map a.eval=(args.toList.map a.eval).toArray:=by apply AdJ;simp
    simp[execOp,ho,resolve,invoke,builtin,this,r1]
   ·cases h
  ·cases h
 ·cases h
end
inductive Spec where
 |fn (pre:List EV->Prop) (res:List EV->SV)
 |rel (T:Type) (t0:T) (pre:List EV->Prop) (post:List EV->T->Prop) (res:List EV->T->SV)
 |fresh (T:Type) (t0:T) (pre:List EV->Prop) (post:List EV->T->Prop) (e:TypeId) (sz:Nat) (n:List EV->T->Nat) (get:List EV->T->Nat->List SV)
def Gv:As:={ at_:=fun _=>none,rv:=fun _=>undef,yl:=0 }
def KA:EV->Bool
 | .p _ | .fn _=>true
 |_=>false
def Fo (P:Program) (M:Nat->Prop) (w:World) (args:List EV) (vals:List Value):Prop :=
 vals.length=args.length/\∀i,i<args.length->KA (EV.at args i)=true/\Am P M w Gv (EV.at args i) (vals.getD i undef)
def AB (P:Program) (f:Nat):Spec->Prop
 | .fn pre res=>∀(M:Nat->Prop) (w:World) args vals,(∀b,M b->b<w.heap.size)->Fo P M w args vals->pre args->CallsIn Fence.wide 0 P f vals.toArray w (HD M w (res args))
 | .rel T _ pre post res =>∀(M : Nat->Prop) (w : World) args vals, (∀b, M b->b<w.heap.size)->Fo P M w args vals->pre args ->
  CallsIn Fence.wide 0 P f vals.toArray w (fun e w'=>∃t:T,post args t/\HD M w (res args t) e w')
 | .fresh T _ pre post e sz n get =>∀(M : Nat->Prop) (w : World) args vals, (∀b, M b->b<w.heap.size)->Fo P M w args vals->pre args ->
  CallsIn Fence.wide 0 P f vals.toArray w (fun en w'=>∃t:T,post args t/\∃env v,en=.returned v/\Bl w.heap.size w w'/\B3 P (fun b=>M b\/(w.heap.size<=b/\b<w'.heap.size/\env.at_ 0≠some b)) w' env 0 (.row e sz (n args t) (get args t))/\env.rv 0=v /\
   (∀g,env.at_ 0=some g->w.heap.size<=g/\g<w'.heap.size))
structure E5 where
 T:Type
 keep:List Nat
 keepO:List Nat
 chg:T->List (Nat×EV)
 own:T->List (Nat×Al)
 inv:T->Prop
 mu:T->Nat
 yk:Option (T->Nat):=none
 tie:T->List (Nat×SV):=fun _=>[]
def EV.ren (f:Nat->Nat):EV->EV
 | .loc b off=>.loc (f b) off
 | .row r=>.row (f r)
 | .mapv r=>.mapv (f r)
 | .rsub r sz lo n=>.rsub (f r) sz lo n
 | .rptr r sz i off=>.rptr (f r) sz i off
 | .rpre r n=>.rpre (f r) n
 | .fptr bs i=>.fptr (bs.map f) i
 | .cl g caps=>.cl g (renL f caps)
 | .ag q cs=>.ag q (renL f cs)
 |e=>e
where renL (f:Nat->Nat):List EV->List EV
 |[]=>[]
 |e::l=>e.ren f::renL f l
def Al.ren (f:Nat->Nat):Al->Al
 | .blk t cs=>.blk t (EV.ren.renL f cs)
 | .row e sz n get=>.row e sz n get
 | .mp kt n get=>.mp kt n get
 | .mq kt vt dom val=>.mq kt vt dom val
 | .oblk b t cs=>.oblk b t (EV.ren.renL f cs)
 | .omq b kt vt val=>.omq b kt vt val
 | .ms kt vt ok=>.ms kt vt ok
 | .prow e n bs=>.prow e n (bs.map f)
def Cf (f:Nat->Nat):List (Nat×Al)->List (Nat×Al)
 |[]=>[]
 |(k,o)::l=>(f k,o.ren f)::Cf f l
def Bh (l:List (Nat×Al)):List Nat:=l.map (·.1)
structure Tr where
 T:Type
 U:Type
 args:T->List EV
 own:T->List (Nat×Al)
 pre:T->Prop
 post:T->U->Prop
 own':T->U->List (Nat×Al)
 res:T->U->EV
def EV.within (ks:List Nat):EV->Bool
 | .loc b _=>ks.contains b
 | .row r | .rsub r _ _ _ | .rptr r _ _ _ | .mapv r | .rpre r _=>ks.contains r
 | .fptr bs _=>bs.all ks.contains
 | .cl _ cs=>withinL ks cs
 | .ag _ cs=>withinL ks cs
 |_=>true
where withinL (ks:List Nat):List EV->Bool
 |[]=>true
 |e::l=>e.within ks&&withinL ks l
def Al.within (ks:List Nat):Al->Bool
 | .blk _ cs=>EV.within.withinL ks cs
 | .row ..=>true
 | .mp ..=>true
 | .mq ..=>true
 | .oblk _ _ cs=>EV.within.withinL ks cs
 | .omq ..=>true
 | .ms ..=>true
 | .prow _ _ bs=>bs.all ks.contains
structure Mk where
 T:Type
 U:Type
 args:T->List EV
 lkeys:List Nat
 keys:List Nat
 lent:T->List (Nat×Al)
 pre:T->Prop
 post:T->U->Prop
 lent':T->U->List (Nat×Al)
 own:T->U->List (Nat×Al)
 res:T->U->EV
 mv:Option (Nat×Nat):=none
 nilr:List (Nat×Nat×TypeId×Nat):=[]
def Ci (mv:Option (Nat×Nat)):List Nat:=match mv with
 |some (k,_)=>[k]
 |none=>[]
def Eb (mv:Option (Nat×Nat)):Nat->Nat:=match mv with
 |some (k,s)=>fun j=>if j=k then s else j
 |none=>fun j=>j
structure Fp where
 T:Type
 args:T->List SV
 t:TypeId
 kt:TypeId
 vt:TypeId
 head:T->List SV
 val:T->Int->SV
 pre:T->Prop
 res:T->SV
structure Jt where
 bs:List Nat
 t:TypeId
 kt:TypeId
 vt:TypeId
 head:Nat->List SV
 val:Nat->Int->SV
structure F0 where
 pre:List SV->Prop
 cnt:List SV->Nat
 item:List SV->Nat->List SV
structure CT where
 T:Type
 keep:List Nat
 keepO:List Nat
 own:Nat->T->List (Nat×Al)
 inv:Nat->T->Prop
 tie:T->List (Nat×SV):=fun _=>[]
structure gX where
 l:Nat
 cnt:Nat
 item:Nat->List SV
structure Aj where
 muts:List Nat
 frz:Nat->List Nat
 specs:Nat->Option Spec
 loops:Nat->Option E5
 iters:Nat->Option F0
 rfs:Nat->Option CT
 yld:Option gX:=none
 nils:Nat->List (Nat×Nat×TypeId×Nat):=fun _=>[]
 nilsL:Nat->List (Nat×Nat×TypeId×Nat):=fun _=>[]
 rek:Nat->List (Nat×Nat):=fun _=>[]
 mqs:Nat->Option (Int->SV):=fun _=>none
 mss:Nat->Option (Int->Int->Prop):=fun _=>none
 trs:Nat->Option Tr:=fun _=>none
 mks:Nat->Option Mk:=fun _=>none
 ren:Nat->Nat:=fun k=>k
 cuts:List Nat:=[]
 arrs:List Nat:=[]
 raws:List Nat:=[]
 anys:List Nat:=[]
 pres:List Nat:=[]
 prows:Nat->Option Jt:=fun _=>none
 fams:Nat->Option Fp:=fun _=>none
 joins:Nat->Option E5:=fun _=>none
def Bz:List Prop->Prop->Prop
 |[],K=>K
 |p::ps,K=>p/\Bz ps K
theorem B0:∀{ps:List Prop} {K:Prop},Bz ps K->all ps/\K
 |[],_,h=>⟨K2,h⟩
 | p :: ps, K, h => ⟨fun q hq => by
     rcases Adq.1 hq with rfl|hq
     ·exact h.1
     ·exact(B0 h.2).1 q hq,(B0 h.2).2⟩
def St.ent (st:St):Operand->Option AE
 | .tmp t=>GG st.T t
 | .const (.int k n)=>some ⟨none,.p (.int k n)⟩
 | .const (.bool b)=>some ⟨none,.p (.bool b)⟩
 | .const v=>some ⟨none,.p (.raw v)⟩
 | .func f=>some ⟨none,.p (.clo f [])⟩
 | .global _=>none
def free (gd g:Option (Nat×Bool×Bool)):Bool:=match g,gd with
 |none,_=>true
 |some (s,b,_),some (s',b',_)=>s == s'&&b == b'
 |some _,none=>false
def St.rho (st:St) (gd:Option (Nat×Bool×Bool)) (x:Operand):Option EV:=match st.ent x with
 |some e=>if free gd e.g then some e.v else none
 |none=>none
def Co:Option (Nat×Bool×Bool)->Prop
 |none=>True
 |some (_,_,b)=>b=true
def KB (want b:Bool):Option (Nat×Bool×Bool)->Bool
 |none=>if want then b else !b
 |some (_,_,b0)=>b0&&(if want then b else !b)
def HJ (ops:Array Oper) (st:St) (o:Oper):Option (Option (Nat×Bool×Bool)):=match o.guard with
 |none=>some none
 |some (j,want)=>match ops.toList[j]? with
   |some oj=>match oj.dst with
     |some d=>match GG st.T d with
       |some ⟨g,.p (.bool b)⟩=>some (some (d,want,KB want b g))
       |_=>none
     |none=>none
   |none=>none
def wrapG (gd:Option (Nat×Bool×Bool)) (ps:List Prop):List Prop:=match gd with
 |none=>ps
 |some (_,_,b)=>ps.map fun p=>b=true->p
def NV (c:Bool):SV->SV->Option SV
 | .bool x,.bool y=>some (.bool (bif c then x else y))
 | .int k n,.int k' m=>if k=k' then some (.int k (bif c then n else m))else none
 |_,_=>none
def LX (cs:Nat) (c:Bool) (gd g:Option (Nat×Bool×Bool)) (want:Bool):Option (List Prop):=
 if free gd g then some []else match g with
 |none=>some []
 |some (s,w,b)=>if s == cs&&w == want then some []else some [c=want->b=true]
def NW (st:St) (gd:Option (Nat×Bool×Bool)) (c x y:Operand):HG:=match c with
 | .tmp t=>match st.rho gd (.tmp t),st.ent x,st.ent y with
   |some (.p (.bool b)),some ⟨gx,.p sx⟩,some ⟨gy,.p sy⟩=>match NV b sx sy,LX t b gd gx true,LX t b gd gy false with
     |some s,some p1,some p2=>some (p1++p2,.p s)
     |_,_,_=>none
   |_,_,_=>none
 |_=>none
def F3 (P:Program) (st:St) (gd:Option (Nat×Bool×Bool)) (op:Op):HG:=match op with
 | .pick c x y=>NW st gd c x y
 |op=>HI P st.own (st.rho gd) op
def St.forget (st:St) (k:Nat):St:={ st with T:=st.T.filter (fun x=>!(x.2.v.names k)) }
def St.noName (st:St) (k:Nat):Bool:=st.own.all fun x=>!(x.1 == k) && !(x.2.names k)
def newVar (C:Aj) (t:TypeId) (cs:List EV) (st:St) (d:Nat) (gd:Option (Nat×Bool×Bool)) (K:St->Prop):Prop :=
 if cs.all CD then
  if C.muts.contains d then(match gd with
   |none=>if (st.forget d).noName d && !(cs.any (·.names d))then K ({ st.forget d with own:=(d,.blk t cs)::st.own }.put (some d) ⟨none,.loc d 0⟩)else False
   |some _=>False)
  else match allP cs with
   |some ss=>K (st.put (some d) ⟨gd,.p (.ref ss 0)⟩)
   |none=>False
 else False
def KC (k:IntKind):List Value->Bool
 |[]=>true
 | .int k' z::l=>decide (k'=k)&&decide (z=0)&&KC k l
 |_=>false
def LY (P:Program) (t:TypeId) (y:Ty) (st:St) (d:Nat) (gd:Option (Nat×Bool×Bool)) (K:St->Prop):Prop:=match gd,P.underlying t with
 |none,some (.array n e)=>match P.underlying e with
   |some (.int k)=>if (y.zero.cells.size = n/\n<=16777216/\KC k y.zero.cells.toList = true)/\(st.forget d).noName d = true then
    K ({ st.forget d with own:=(d,.row t 1 n (fun _=>[.int k 0]))::(st.forget d).own }.put (some d) ⟨none,.rptr d 1 0 0⟩)else False
   |_=>False
 |_,_=>False
def Cd (l:List (Nat×Al)) (k:Nat) (o:Al):List (Nat×Al):=l.map fun x=>if x.1 == k then(k,o)else x
def setRow (get:Nat->List SV) (i off:Nat) (l:List SV):Nat->List SV:=fun j=>if j=i then Gs (get j) off l else get j
def Hl (st:St) (y:Ty) (p:EV) (e:EV):Option (List Prop×St):=match p with
 | .loc b off=>match BC st.own b with
   |some (.blk t cs)=>let c:=BG e
     if c.length=y.size/\off+y.size<=cs.length/\c.all CD then some ([],{ st with own:=Cd st.own b (.blk t (En cs off c)) })else none
   |_=>none
 | .rptr r sz i off=>match BC st.own r,e with
   |some (.row t sz' n get),.p s=>let c:=cellsOf s
     if sz'=sz/\c.length=y.size/\off+y.size<=sz/\c.all (fun s=>CD (.p s))then some ([i<n],{ st with own:=Cd st.own r (.row t sz n (setRow get i off c)) })
     else if sz'=1/\sz=1/\i=0/\off=0/\c.length=n/\y.size=n/\c.all (fun s=>CD (.p s))then some ([],{ st with own:=Cd st.own r (.row t 1 n (fun j=>[K5 c j])) })else none
   |_,_=>none
 |_=>none
def gY:Option TypeDesc->Bool
 |some (.func ..)=>true
 |_=>false
def Rn (P:Program) (t:TypeId):Option Ty:=match P.underlying t with
 |some (.slice e)=>Bf P e
 |_=>none
def Ro:List SV->Bool
 |[]=>false
 | .raw (.slice none 0 0)::_=>true
 |_::l=>Ro l
def KD (P:Program):List Field->List SV->List SV
 |[],cs=>cs
 |f::l,cs=>match cs[f.offset]?,Rn P f.type with
   |some (.raw (.slice none 0 0)),some y=>KD P l (cs.set f.offset (.sl y.size 0 (fun _=>[])))
   |_,_=>KD P l cs
def LZ (P:Program) (C:Aj) (st:St) (t:TypeId):EV->Option (List Prop×EV×List Nat)
 | .p (.clo f caps)=>if gY (P.underlying t)then(match C.specs f with
  |some (.fn pre res)=>some ([],.fn ⟨fun as=>pre (as.map .p++caps.map .p),fun as=>res (as.map .p++caps.map .p)⟩,[])
  |_=>none)else some ([],.p (.clo f caps),[])
 | .p (.raw v)=>match v,Rn P t with
   | .slice none 0 0,some y=>some ([],.p (.sl y.size 0 (fun _=>[])),[])
   |_,_=>some ([],.p (.raw v),[])
 | .p (.agg cs)=>match Ro cs,P.underlying t with
   |true,some (.struct fs)=>some ([],.p (.agg (KD P fs.toList cs)),[])
   |_,_=>some ([],.p (.agg cs),[])
 | .p s=>some ([],.p s,[])
 | .fn sp=>some ([],.fn sp,[])
 | .full _ sz n get=>some ([],.p (.sl sz n get),[])
 | .row r=>match BC st.own r with
   |some (.row _ sz n get)=>some ([],.p (.sl sz n get),[r])
   |_=>none
 | .rsub r sz lo n=>match BC st.own r with
   |some (.row _ sz' n' get)=>if sz=sz' then some ([lo+n<=n'],.p (.sl sz n (fun i=>get (lo+i))),[r])else none
   |_=>none
 | .rpre r n=>match BC st.own r with
   |some (.row _ sz n' get)=>some ([n<=n'],.p (.sl sz n get),[r])
   |_=>none
 |_=>none
def F4 (P:Program) (C:Aj) (st:St) (ρ:Operand->Option EV):List Operand->List TypeId->Option (List Prop×List EV×List Nat)
 |[],_=>some ([],[],[])
 |x::xs,ts=>match ρ x with
   |some e=>match LZ P C st (ts.headD 0) e,F4 P C st ρ xs (ts.drop 1)with
     |some (p,a,l),some (ps,as,ls)=>some (p++ps,a::as,l++ls)
     |_,_=>none
   |none=>none
def gZ (C:Aj) (f:Operand) (ts:List TypeId):List TypeId:=match f with
 | .func g=>if C.raws.contains g then []else ts
 |_=>ts
def I4 (P:Program) (C:Aj) (st:St) (gd:Option (Nat×Bool×Bool)) (f:Operand) (args:List Operand) (ts:List TypeId):Option (List Prop×List EV×List Nat):=match st.rho gd f with
 |some (.p (.clo g _))=>match C.specs g with
   |none=>some ([],[],[])
   |some _=>F4 P C st (st.rho gd) args ts
 |_=>F4 P C st (st.rho gd) args ts
theorem hJ {P:Program} {C:Aj} {st:St} {gd:Option (Nat×Bool×Bool)} {f:Operand} {args:List Operand} {ts:List TypeId} {g:Nat} {caps:List SV} {sp:Spec} (hf:st.rho gd f=some (.p (.clo g caps))) (hs:C.specs g=some sp) :
 I4 P C st gd f args ts=F4 P C st (st.rho gd) args ts:=by unfold I4;rw[hf];simp only;rw[hs]
theorem iA {P:Program} {C:Aj} {st:St} {gd:Option (Nat×Bool×Bool)} {f:Operand} {args:List Operand} {ts:List TypeId} {sp:B1} (hf:st.rho gd f=some (.fn sp)) :
 I4 P C st gd f args ts=F4 P C st (st.rho gd) args ts:=by unfold I4;rw[hf]
theorem iB {P:Program} {C:Aj} {st:St} {gd:Option (Nat×Bool×Bool)} {f:Operand} {args:List Operand} {ts:List TypeId} {l:Nat} (hf:st.rho gd f=some (.yield l)) :
 I4 P C st gd f args ts=F4 P C st (st.rho gd) args ts:=by unfold I4;rw[hf]
def Ju (gd:Option (Nat×Bool×Bool)) (p:Prop):Prop:=match gd with
 |none=>p
 |some (_,_,b)=>b=true->p
def Ba (n:Nat) (get get2:Nat->List SV):Nat->List SV:=fun i=>if i<n then get i else get2 (i-n)
def F5 (C:Aj) (st:St) (gd:Option (Nat×Bool×Bool)) (dst:Option Nat) (sides:List Prop) (args:List EV) (lent:List Nat) (sp:Spec) (K:St->Prop):Prop:=match sp with
 | .fn pre res=>Bz (wrapG gd (sides ++ [pre args])) (if lent.isEmpty||Db (res args)then K (st.put dst ⟨gd,.p (res args)⟩)else False)
 | .rel T _ pre post res=>Bz (wrapG gd (sides ++ [pre args])) (∀t:T,Ju gd (post args t)->if lent.isEmpty||Db (res args t)then K (st.put dst ⟨gd,.p (res args t)⟩)else False)
 | .fresh T _ pre post e sz n get =>Bz (wrapG gd (sides ++ [pre args])) (∀t : T, Ju gd (post args t)->Bz (if lent.isEmpty then []else [∀i, i<n args t->Db.noMems (get args t i)= true]) (
  match dst with
  |none=>K st
  |some d =>if C.muts.contains d then(match gd with
    |none=>if (st.forget d).noName d then K ({ st.forget d with own:=(d,.row e sz (n args t) (get args t))::st.own }.put (some d) ⟨none,.row d⟩)else False
    |some _=>False)
   else K (st.put (some d) ⟨gd,.p (.sl sz (n args t) (get args t))⟩)))
def Ec (st:St) (sz:Nat):EV->Option (List Prop×Nat×(Nat->List SV))
 | .p (.sl sz' m get)=>if sz'=sz then some ([],m,get)else none
 | .p (.raw (.slice none 0 0))=>some ([],0,fun _=>[])
 | .full _ sz' m get=>if sz'=sz then some ([],m,get)else none
 | .row r=>match BC st.own r with|some (.row _ sz' m get)=>if sz'=sz then some ([],m,get)else none|_=>none
 | .rsub r sz1 lo m=>match BC st.own r with|some (.row _ sz' n' get)=>if sz1=sz'/\sz'=sz then some ([lo+m<=n'],m,fun i=>get (lo+i))else none|_=>none
 |_=>none
def Al.hard (k:Nat):Al->Bool
 | .oblk _ _ cs=>EV.names.namesL k cs
 | .prow _ _ bs=>bs.contains k
 |_=>false
def St.scrub (st:St) (k:Nat):St:={ st with T:=st.T.filter (fun x=>!(x.2.v.names k)),own:=(st.own.filter fun x=>!(x.2.hard k)).map fun x=>match x.2 with | .blk t cs=>(x.1,.blk t (cs.map fun e=>if e.names k then .any else e))|o=>(x.1,o) }
def NX (P:Program) (st:St) (t:TypeId) (d:Nat) (s x:EV) (K:St->Prop):Prop:=match P.underlying t with
 |some (.slice e)=>match Bf P e with
  |some y=>match Ec st y.size x with
   |some (sides, m, get2)=>if 0<y.bytes/\0<y.size/\y.zero.cells.size = y.size then match s with
     | .row r=>match BC st.own r with
       |some (.row e' sz n get)=>if e' = e/\sz = y.size /\ !(x.names r)/\r<st.nt then
        Bz (sides ++ [(n+m)*y.bytes<=140737488355328]) (K ({ (st.scrub r)with own:=Cd (st.scrub r).own r (.row e sz (n+m) (Ba n get get2)) }.put (some d) ⟨none,.row r⟩))else False
       |_=>False
     | .p (.raw (.slice none 0 0))=>if (st.forget d).noName d then
      Bz (sides ++ [m*y.bytes<=140737488355328]) (K ({ st.forget d with own:=(d,.row e y.size m get2)::st.own }.put (some d) ⟨none,.row d⟩))else False
     | .rpre r n=>match BC st.own r with
       |some (.row e' sz N get)=>if e' = e/\sz = y.size /\ !(x.names r)then
        Bz (sides ++ [0<m/\n+m<=N]) (K ({ st with own:=Cd st.own r (.row e sz N (fun i=>if n<=i/\i<n+m then get2 (i-n)else get i)) }.put (some d) ⟨none,.rpre r (n+m)⟩))else False
       |_=>False
     | .full true sz n get=>if sz=y.size then Bz (sides ++ [0<m/\(n+m)*y.bytes<=140737488355328]) (K (st.put (some d) ⟨none,.p (.sl sz (n+m) (Ba n get get2))⟩))else False
     |_=>False
    else False
   |_=>False
  |_=>False
 |_=>False
def Rp:SV->Bool
 | .clo _ []=>true
 |s=>Db s
def Rq:EV->Bool
 | .p s=>Rp s
 | .yield _=>true
 | .any=>true
 |_=>false
def St.bare (st:St):St:={ st with T:=st.T.filter fun x=>Rq x.2.v,own:=[] }
def Rr (pre:List EV->Prop) (res:List EV->SV) (ss:List SV):B1:=⟨fun xs=>pre (ss.map .p++xs.map .p),fun xs=>res (ss.map .p++xs.map .p)⟩
def NY (P:Program) (st:St) (t t':TypeId) (d:Nat) (s x:EV) (K:St->Prop):Prop:=match P.underlying t,P.underlying t',s,x with
 |some (.slice e),some (.int _),.p (.raw (.slice none 0 0)),.p (.int _ n)=>match Bf P e with
   |some y =>if (0<y.bytes/\0<y.size/\y.zero.cells.size = y.size/\y.zero.cells.all (·.oneCell')= true)/\(st.forget d).noName d = true then
    Bz [0<n/\n*(y.bytes:Int)<=140737488355328] (K ({ st.forget d with own:=(d,.row e y.size n.toNat (fun _=>y.zero.cells.toList.map Cc))::st.own }.put (some d) ⟨none,.row d⟩))else False
   |none=>False
 |_,_,_,_=>False
def KE (ρ:Operand->Option EV):List Operand->Option (List SV)
 |[]=>some []
 |x::l=>match ρ x,KE ρ l with
   |some (.p s),some ss=>some (s::ss)
   |_,_=>none
def Rs (v:Value):SV->List Prop
 | .raw v'=>[v=v']
 | .sl sz n get=>match v with
   | .slice none 0 0=>[n=0]
   |v=>[SV.raw v=.sl sz n get]
 |t=>[SV.raw v=t]
def Hm:SV->SV->List Prop
 | .int k n,.int k' m=>if k=k' then [n=m]else [False]
 | .bool a,.bool b=>[a=b]
 | .sl sz n get,.sl sz' n' get'=>if sz=sz' then [n=n'/\∀i,i<n->get i=get' i]else [False]
 | .raw v,t=>Rs v t
 |s,t=>[s=t]
def Rt (s:SV) (q:Bool) (sz n:Nat) (get:Nat->List SV):List Prop:=match q with
 |true=>[False]
 |false=>match s with
   | .sl sz' n' get'=>if sz'=sz then [n'=n/\0<n'/\∀i,i<n'->get' i=get i]else [False]
   | .raw v=>match v with
     | .slice none 0 0=>[n=0]
     |_=>[False]
   |_=>[False]
def fitE:EV->EV->List Prop
 | .p s,.p t=>Hm s t
 | .loc b off,.loc b' off'=>if b == b' then [off=off']else [False]
 | .row r,.row r'=>if r == r' then []else [False]
 | .mapv r,.mapv r'=>if r == r' then []else [False]
 | .rptr r sz i off,.rptr r' sz' i' off'=>if r == r'&&sz == sz' then [i=i'/\off=off']else [False]
 | .rpre r n,.rpre r' n'=>if r == r' then [n=n']else [False]
 | .fptr bs i,.fptr bs' i'=>if bs == bs' then [i=i']else [False]
 | .rsub r sz lo n,.rsub r' sz' lo' n'=>if r == r'&&sz == sz' then [lo=lo'/\n=n']else [False]
 | .cl f cs,.cl f' cs'=>[EV.cl f cs=EV.cl f' cs']
 | .fn sp,.fn sp'=>[sp=sp']
 | .yield l,.yield l'=>[l=l']
 | .p s,.full q sz n get=>Rt s q sz n get
 | .full q sz n get,.full q' sz' n' get'=>if q=q'/\sz=sz' then [n=n'/\∀i,i<n->get i=get' i]else [False]
 | .full _ sz n get,.p t=>Hm (.sl sz n get) t
 |_,.any=>[]
 |_,_=>[False]
def Hn:List EV->List EV->List Prop
 |[],[]=>[]
 |a::l,b::m=>fitE a b++Hn l m
 |_,_=>[False]
def NZ:Al->Al->List Prop
 | .blk t cs,.blk t' cs'=>if t == t' then Hn cs cs' else [False]
 | .row e sz n get,.row e' sz' n' get'=>if e == e'&&sz == sz' then [n=n'/\∀i,i<n->get i=get' i]else [False]
 | .mp e n get,.mp e' n' get'=>if e == e' then [n=n'/\∀i,i<n->get i=get' i]else [False]
 | .mq kt vt dom val,.mq kt' vt' dom' val'=>if kt == kt'&&vt == vt' then [∀x,dom x=dom' x,∀x,dom x=true->val x=val' x]else [False]
 | .oblk b t cs,.oblk b' t' cs'=>if t == t' then [b=b']++Hn cs cs' else [False]
 | .omq b kt vt val,.omq b' kt' vt' val'=>if kt == kt'&&vt == vt' then [b=b',∀x,val x=val' x]else [False]
 | .ms kt vt ok,.ms kt' vt' ok'=>if kt == kt'&&vt == vt' then [∀a b,ok a b->ok' a b]else [False]
 | .prow e n bs,.prow e' n' bs'=>if e == e'&&bs == bs' then [n=n']else [False]
 |_,_=>[False]
def E6 (own:List (Nat×Al)):List (Nat×Al)->List Prop
 |[]=>[]
 |(k,o)::l=>(match BC own k with
   |some o'=>NZ o' o
   |none=>[False])++E6 own l
def CE:List Nat->Bool
 |[]=>true
 |k::ks=>!(ks.contains k)&&CE ks
def Fa (own:List (Nat×Al)):List (Nat×Al)->List (Nat×Al)
 |[]=>own
 |(k,o)::l=>Fa (Cd own k o) l
def I5 (ρ:Operand->Option EV):List Operand->Option (List EV)
 |[]=>some []
 |x::xs=>match ρ x,I5 ρ xs with
   |some e,some l=>some (e::l)
   |_,_=>none
def Oa (C:Aj) (st:St) (dst:Option Nat) (as:List EV) (tr:Tr) (K:St->Prop):Prop :=
 ∃t:tr.T,if CE (Bh (Cf C.ren (tr.own t)))then Bz (Hn as (EV.ren.renL C.ren (tr.args t))++E6 st.own (Cf C.ren (tr.own t))) (tr.pre t/\∀u:tr.U,tr.post t u->K ({ st with own:=Fa st.own (Cf C.ren (tr.own' t u)) }.put dst ⟨none,(tr.res t u).ren C.ren⟩))else False
def Jv (st:St) (k:Nat):Bool:=st.noName k&&st.T.all (fun x=>!x.2.v.names k)&&decide (k<st.nt)
def St.mvd (st:St) (f:Nat->Nat) (mv:Option (Nat×Nat)):St:=match mv with
 |some (k,_)=>st.scrub (f k)
 |none=>st
def Ob (st:St) (f:Nat->Nat) (mv:Option (Nat×Nat)) (ks:List Nat):Bool:=match mv with
 |some (k,_)=>decide (f k<st.nt)&&ks.all fun j=>(BC st.own j).isSome
 |none=>true
def Oc (C:Aj) (st:St) (dst:Option Nat) (as:List EV) (mk:Mk) (K:St->Prop):Prop :=
 ∃t:mk.T,if CE (Bh (Cf C.ren (mk.lent t)))&&CE (mk.keys.map C.ren)then Bz (Hn as (EV.ren.renL C.ren (mk.args t))++E6 st.own (Cf C.ren (mk.lent t))) (mk.pre t/\∀u:mk.U,mk.post t u ->
   if Ob (st.mvd C.ren mk.mv) C.ren mk.mv (mk.lkeys.map C.ren)&&(mk.keys.map C.ren).all (Jv { st.mvd C.ren mk.mv with own:=Fa (st.mvd C.ren mk.mv).own (Cf C.ren (mk.lent' t u)) })then K ({ st.mvd C.ren mk.mv with own:=Cf C.ren (mk.own t u)++Fa (st.mvd C.ren mk.mv).own (Cf C.ren (mk.lent' t u)) }.put dst ⟨none,(mk.res t u).ren C.ren⟩)else False)else False
def EK (a b k:Nat):Nat:=if k=a then b else k
def St.rekey (st:St) (a b:Nat):St:=if Jv st b then { st with T:=st.T.map fun x=>(x.1,{ x.2 with v:=x.2.v.ren (EK a b) }),own:=Cf (EK a b) st.own }else st
def St.rekeys (st:St):List (Nat×Nat)->St
 |[]=>st
 |(a,b)::l=>(st.rekey a b).rekeys l
def Ru:List (Nat×(Int->Int->Prop))->Nat->Option (Int->Int->Prop)
 |[],_=>none
 |(k,v)::l,j=>if k == j then some v else Ru l j
def Ma:List (Nat×List (Nat×Nat))->Nat->List (Nat×Nat)
 |[],_=>[]
 |(k,v)::l,j=>if k == j then v else Ma l j
def KF (st:St) (gd:Option (Nat×Bool×Bool)) (dst:Option Nat) (p:Prop) (K:St->Prop):Prop:=match gd with
 |none=>p
 |some (q,c,b)=>(b=true->p)/\(b=false->K (st.put dst ⟨some (q,c,b),.p (.bool false)⟩))
def Od (C:Aj) (o:Oper) (gd:Option (Nat×Bool×Bool)):Option (Nat×TypeId×Operand×Operand):=match o.op,o.dst,gd with
 | .slice t x none (some hi) none,some d,none=>if C.cuts.contains d then some (d,t,x,hi)else none
 |_,_,_=>none
def Oe (P:Program) (st:St) (d:Nat) (t:TypeId) (x hi:Operand) (K:St->Prop):Prop:=match P.underlying t,st.rho none x,Gt (st.rho none hi)with
 |some (.slice e),some (.row r),some h=>match BC st.own r,Bf P e with
   |some (.row e' sz n get),some _=>if r<st.nt then Bz [0<=h/\h<=(n:Int)] (K ({ (st.scrub r)with own:=Cd (st.scrub r).own r (.row e' sz h.toNat get) }.put (some d) ⟨none,.row r⟩))else False
   |_,_=>False
 |_,_,_=>False
def Bb (l:List SV) (sz:Nat):Nat->List SV:=fun i=>(l.drop (i*sz)).take sz
def Fq:List SV->Bool
 |[]=>true
 | .int _ _::l=>Fq l
 | .bool _::l=>Fq l
 |_=>false
def Mb:SV->SV->Bool
 | .int k a,.int k' b=>if k=k' then decide (a=b)else false
 | .bool a,.bool b=>a == b
 |_,_=>false
def Gw:List SV->List SV->Bool
 |[],[]=>true
 |s::l,t::m=>match l,m with
   |[],[]=>Mb s t
   |_,_=>Mb s t&&Gw l m
 |_,_=>false
def Mc (P:Program) (cs:List SV):List Field->Bool
 |[]=>true
 |f::l=>(match Bf P f.type,P.underlying f.type with
   |some y,some (.int _)=>(EJ y cs f.offset).isSome
   |some y,some .bool=>(EJ y cs f.offset).isSome
   |_,_=>false)&&Mc P cs l
def Of (P:Program) (kt:TypeId) (cs ds:List SV):Prop:=match Iy P 3 kt (.agg cs) (.agg ds)with
 |some b=>b=Gw cs ds
 |none=>False
def Og (P:Program) (st:St) (t:TypeId) (m k:EV) (K:St->Prop):Prop:=match P.underlying t,m,k with
 |some (.map kt _),.mapv r,.p (.agg cs)=>match BC st.own r,P.underlying kt with
   |some (.mp kt' n get), some (.struct fs)=>if kt' = kt/\Fq cs = true/\Mc P cs fs.toList = true then
     (∀i,i<n->Of P kt cs (get i))/\((∃i,i<n/\Gw cs (get i)=true)->K st)/\((∀i,i<n->Gw cs (get i)=false)->K { st with own:=Cd st.own r (.mp kt (n+1) (Ba n get (fun _=>cs))) })
    else False
   |_,_=>False
 |_,_,_=>False
def EV.frz (k:Nat) (o:Al):EV->EV
 | .loc b off=>if b == k then(match o with
   | .blk _ cs=>match allP cs with
     |some ss=>.p (.ref ss off)
     |none=>.any
   |_=>.any)else .loc b off
 | .mapv r=>if r == k then .any else .mapv r
 | .row r=>if r == k then(match o with
   | .row _ sz n get=>.p (.sl sz n get)
   |_=>.any)else .row r
 | .rsub r sz lo n=>if r == k then .any else .rsub r sz lo n
 | .rptr r sz i off=>if r == k then .any else .rptr r sz i off
 | .rpre r n=>if r == k then .any else .rpre r n
 | .fptr bs i=>.fptr bs i
 | .cl f caps=>match allP (frzL k o caps)with
   |some ss=>.p (.clo f ss)
   |none=>.cl f (frzL k o caps)
 | .ag q cs=>.ag q (frzL k o cs)
 | .p s=>.p s
 | .fn sp=>.fn sp
 | .yield l=>.yield l
 | .any=>.any
 | .full q sz n get=>.full q sz n get
where frzL (k:Nat) (o:Al):List EV->List EV
 |[]=>[]
 |e::l=>e.frz k o::frzL k o l
def Al.frz (k:Nat) (o:Al):Al->Al
 | .blk t cs=>.blk t (cs.map (EV.frz k o))
 | .row e sz n get=>.row e sz n get
 | .mp kt n get=>.mp kt n get
 | .mq kt vt dom val=>.mq kt vt dom val
 | .oblk b t cs=>.oblk b t (cs.map (EV.frz k o))
 | .omq b kt vt val=>.omq b kt vt val
 | .ms kt vt ok=>.ms kt vt ok
 | .prow e n bs=>.prow e n bs
def Rv:Al->Bool
 | .blk _ cs=>(allP cs).isSome
 | .row ..=>true
 |_=>false
def St.frz (st:St) (k:Nat):St:=match BC st.own k with
 |some o=>if Rv o then { st with T:=st.T.map fun x=>(x.1,{ x.2 with v:=x.2.v.frz k o }),own:=(st.own.filter fun x=>!(x.1 == k)).map fun x=>(x.1,Al.frz k o x.2) }else st
 |none=>st
def St.frzs (st:St):List Nat->St
 |[]=>st
 |k::ks=>(st.frz k).frzs ks
def KG (st:St):EV->St
 | .row r=>st.frz r
 |_=>st
def Oh (q:Option (Int->SV)) (q2:Option (Int->Int->Prop)) (kt vt:TypeId):Al:=match q2 with
 |some ok=>.ms kt vt ok
 |none=>match q with
   |none=>.mp kt 0 (fun _=>[])
   |some val=>.mq kt vt (fun _=>false) val
def Rw (st:St):EV->Bool
 | .mapv r=>match BC st.own r with
   |some (.ms ..)=>true
   |_=>false
 |_=>false
def HK (P:Program) (kt:TypeId):Bool:=match P.underlying kt with
 |some (.array 2 el)=>match P.underlying el,Bf P el with
   |some (.int .i64),some y=>decide (y.size=1)
   |_,_=>false
 |_=>false
def Oi (P:Program) (st:St) (t:TypeId) (m k v:EV) (K:St->Prop):Prop:=match P.underlying t,m,k with
 |some (.map kt _),.mapv r,.p (.agg [.int .i64 a,.int .i64 b])=>match BC st.own r,v with
   |some (.ms _ _ ok),.p (.bool x)=>if HK P kt then Bz [x=true,ok a b] (K st)else False
   |_,_=>False
 |_,_,_=>False
def Oj (P:Program) (st:St) (t:TypeId) (d:Nat) (m k:EV) (co:Bool) (K:St->Prop):Prop:=match P.underlying t,m,k with
 |some (.map kt vt),.mapv r,.p (.agg [.int .i64 a,.int .i64 b])=>match BC st.own r,Bf P vt with
   |some (.ms _ _ ok), some y =>if HK P kt then
    (ok a b->K (st.put (some d) ⟨none,.p (if co then .tup [.bool true,.bool true]else .bool true)⟩)) /\
    K (st.put (some d) ⟨none,.p (if co then .tup [Cc y.zero,.bool false]else Cc y.zero)⟩)else False
   |_,_=>False
 |_,_,_=>False
def iC (st:St):EV->Bool
 | .mapv r=>match BC st.own r with
   |some (.mq ..)=>true
   |_=>false
 |_=>false
def Ol (P:Program) (st:St) (t:TypeId) (m k v:EV) (K:St->Prop):Prop:=match P.underlying t,m,k with
 |some (.map kt _),.mapv r,.p (.int .i64 key)=>match BC st.own r,P.underlying kt with
   |some (.mq kt' vt' dom val),some (.int .i64)=>Bz (fitE v (.p (val key))) (K { st with own:=Cd st.own r (.mq kt' vt' (fun x=>decide (x=key)||dom x) val) })
   |_,_=>False
 |_,_,_=>False
def Om (P:Program) (st:St) (t:TypeId) (d:Nat) (m k:EV) (co:Bool) (K:St->Prop):Prop:=match P.underlying t,m,k with
 |some (.map kt vt),.mapv r,.p (.int .i64 key)=>match BC st.own r,P.underlying kt,Bf P vt with
   |some (.mq _ _ dom val), some (.int .i64), some y =>
    (dom key=true->K (st.put (some d) ⟨none,.p (if co then .tup [val key,.bool true]else val key)⟩)) /\
    (dom key=false->K (st.put (some d) ⟨none,.p (if co then .tup [Cc y.zero,.bool false]else Cc y.zero)⟩))
   |_,_,_=>False
 |_,_,_=>False
def I6 (lo n:Nat) (z:List SV) (get:Nat->List SV):Nat->List SV:=fun i=>if lo<=i/\i<lo+n then z else get i
def On (P:Program) (st:St) (t:TypeId) (e:EV) (K:St->Prop):Prop:=match P.underlying t,e with
 |some (.slice el),.rsub r sz lo n=>match Bf P el,BC st.own r with
   |some y, some (.row e' sz' n' get)=>if sz' = sz/\sz = y.size/\0<y.size/\y.zero.cells.size = y.size/\y.zero.cells.all (·.oneCell')= true then
    Bz [lo+n<=n'] (K { st with own:=Cd st.own r (.row e' sz' n' (I6 lo n (y.zero.cells.toList.map Cc) get)) })else False
   |_,_=>False
 |_,_=>False
def KH (lo m:Nat) (get2 get:Nat->List SV):Nat->List SV:=fun i=>if lo<=i/\i<lo+m then get2 (i-lo)else get i
def I7 (st:St):EV->Option (Nat×Nat×Nat×Nat)
 | .rsub r sz lo n=>some (r,sz,lo,n)
 | .row r=>match BC st.own r with
   |some (.row _ sz n _)=>some (r,sz,0,n)
   |_=>none
 |_=>none
def Oo (P:Program) (st:St) (t:TypeId) (d:Nat) (e x:EV) (K:St->Prop):Prop:=match P.underlying t with
 |some (.slice el)=>match Bf P el with
   |some y=>match Ec st y.size x,I7 st e with
     |some (sides,m,get2),some (r,sz,lo,n)=>match BC st.own r with
       |some (.row e' sz' n' get)=>if sz' = sz/\sz = y.size/\0<y.size/\x.names r = false then
        Bz (sides ++ [lo+n<=n',m<=n]) (K ({ st with own:=Cd st.own r (.row e' sz' n' (KH lo m get2 get)) }.put (some d) ⟨none,.p (.int .i64 m)⟩))else False
       |_=>False
     |_,_=>False
   |none=>False
 |_=>False
def Md (P:Program) (st:St) (d:Nat) (t:TypeId) (neg:Bool) (x y:EV) (K:St->Prop):Prop:=match P.underlying t,x,y with
 |some (.slice _),.p (.sl _ n _),.p (.raw (.slice none 0 0))=>∀b:Bool,(b=(!neg)->n=0)->K (st.put (some d) ⟨none,.p (.bool b)⟩)
 |some (.slice _),.full false _ n _,.p (.raw (.slice none 0 0))=>K (st.put (some d) ⟨none,.p (.bool (bif neg then !(decide (n=0))else decide (n=0)))⟩)
 |_,_,_=>False
def KI (P:Program) (C:Aj) (st:St) (gd:Option (Nat×Bool×Bool)) (o:Oper) (K:St->Prop):Prop:=match o.op,o.dst with
 | .alloc t,some d=>match Bf P t with
   |some y=>if C.arrs.contains d then LY P t y st d gd K else newVar { C with muts:=[d] } t (y.zero.cells.toList.map fun v=>.p (Cc v)) st d gd K
   |none=>False
 | .box t x,some d=>match st.rho gd x with
   |some e=>newVar C t (BG e) st d gd K
   |none=>False
 | .store t p x,none=>match gd,Bf P t,st.rho none p,st.rho none x with
   |none,some y,some ep,some ex=>match Hl st y ep ex with
     |some (ps,st')=>Bz ps (K st')
     |none=>False
   |_,_,_,_=>False
 | .buildSlice t len parts,some d=>match P.underlying t,HH (st.rho gd) parts.toList with
   |some (.slice e),some l=>match Bf P e with
     |some y=>match Fm (fun i=>some (i*y.size,y.size)) ((Adu (len*y.size)).map fun k=>Cc (y.zero.cells.getD (k % y.size) undef)) l with
       |some cs =>if len*y.size<=16777216/\0<y.size/\y.zero.cells.size = y.size/\cs.all (fun s =>CD (.p s))then
        (if C.muts.contains d then(match gd with
         |none=>if (st.forget d).noName d then K ({ st.forget d with own:=(d,.row e y.size len (Bb cs y.size))::st.own }.put (some d) ⟨none,.row d⟩)else False
         |some _=>False)
        else K (st.put (some d) ⟨gd,.p (.sl y.size len (if len=1 then fun _=>cs else Bb cs y.size))⟩))else False
       |none=>False
     |none=>False
   |_,_=>False
 | .makeSlice t l c,some d=>match gd,P.underlying t,st.rho none l,st.rho none c with
   |none,some (.slice e),some (.p (.int _ n)),some (.p (.int _ m))=>match Bf P e with
     |some y =>if 0<y.size/\y.zero.cells.size = y.size/\0<y.bytes/\y.zero.cells.all (·.oneCell')/\(st.forget d).noName d then
      Bz [0<=n/\n<=m/\m*(y.bytes:Int)<=140737488355328] (K ({ st.forget d with own:=(d,.row e y.size n.toNat (fun _=>y.zero.cells.toList.map Cc))::(st.forget d).own }.put (some d) ⟨none,.row d⟩))else False
     |none=>False
   |_,_,_,_=>False
 | .makeMap t none,some d=>match gd,P.underlying t with
   |none,some (.map kt vt)=>if (st.forget d).noName d then K ({ st.forget d with own:=(d,Oh (C.mqs d) (C.mss d) kt vt)::(st.forget d).own }.put (some d) ⟨none,.mapv d⟩)else False
   |_,_=>False
 | .mapUpdate t m k v,none=>match gd,st.rho none m,st.rho none k with
   |none,some em,some ek=>if iC st em then(match st.rho none v with
     |some ev=>(match (KG st ev).rho none m,(KG st ev).rho none k,(KG st ev).rho none v with
       |some em,some ek,some ev'=>Ol P (KG st ev) t em ek ev' K
       |_,_,_=>False)
     |none=>False)else if Rw st em then(match st.rho none v with
     |some ev=>Oi P st t em ek ev K
     |none=>False)else Og P st t em ek K
   |_,_,_=>False
 | .lookup t m k co,some d=>match gd,st.rho none m,st.rho none k with
   |none,some em,some ek=>if Rw st em then Oj P st t d em ek co K else Om P st t d em ek co K
   |_,_,_=>False
 | .call { callee:=.builtin .append,args:=args,argTypes:=ts },some d=>match gd,args.toList,ts.toList with
   |none,[s,x],[t,t']=>if t=t' then(match st.rho none s,st.rho none x with
     |some es,some ex=>NX P st t d es ex K
     |_,_=>False)else(match st.rho none s,st.rho none x with
     |some es,some ex=>NY P st t t' d es ex K
     |_,_=>False)
   |_,_,_=>False
 | .call { callee:=.builtin .clear,args:=args,argTypes:=ts },none=>match gd,args.toList,ts.toList with
   |none,[x],[t]=>match st.rho none x with
     |some ex=>On P st t ex K
     |none=>False
   |_,_,_=>False
 | .call { callee:=.builtin .copy,args:=args,argTypes:=ts },some d=>match gd,args.toList,ts.toList with
   |none,[s,x],[t,_]=>match st.rho none s,st.rho none x with
     |some es,some ex=>Oo P st t d es ex K
     |_,_=>False
   |_,_,_=>False
 | .binOp .eql t x y _,some d=>match gd,st.rho none x,st.rho none y with
   |none,some ex,some ey=>Md P st d t false ex ey K
   |_,_,_=>False
 | .binOp .neq t x y _,some d=>match gd,st.rho none x,st.rho none y with
   |none,some ex,some ey=>Md P st d t true ex ey K
   |_,_,_=>False
 | .makeFunc (.func f) first caps,some d=>match gd,C.specs f,KE (st.rho none) first.toList with
   |none,some (.fn pre res),some ss=>if caps.size=0 then K (st.put (some d) ⟨none,.fn (Rr pre res ss)⟩)else False
   |_,_,_=>False
 | .call { callee:=.value f,args:=args,argTypes:=ts },dst=>match st.rho gd f,I4 P C st gd f args.toList (gZ C f ts.toList)with
   |some (.p (.clo g caps)),some (ps,as,lent)=>match C.specs g with
     |some sp=>F5 C st gd dst ps (as++caps.map .p) lent sp K
     |none=>match C.trs g,I5 (st.rho gd) args.toList with
       |some tr,some as=>KF st gd dst (Oa C st dst (as++caps.map .p) tr K) K
       |none,some as=>match C.mks g with
         |some mk=>KF st gd dst (Oc C st dst (as++caps.map .p) mk K) K
         |none=>False
       |_,_=>False
   |some (.cl g caps),_=>match C.trs g,I5 (st.rho gd) args.toList with
     |some tr,some as=>KF st gd dst (Oa C st dst (as++caps) tr K) K
     |none,some as=>match C.mks g with
       |some mk=>KF st gd dst (Oc C st dst (as++caps) mk K) K
       |none=>False
     |_,_=>False
   |some (.fn sp),some (ps,as,lent)=>match allP as with
     |some _=>F5 C st gd dst ps as lent (.fn (fun as=>match allP as with|some ss=>sp.pre ss|none=>False) (fun as=>match allP as with|some ss=>sp.res ss|none=>.raw undef)) K
     |none=>False
   |some (.yield l),some (ps,as,lent)=>match gd,C.yld,allP as with
     |none,some y,some ss=>if lent.isEmpty&&Db.noMems ss then Bz (ps ++ [l=y.l,st.yk<y.cnt,ss=y.item st.yk]) (K ({ st with yk:=st.yk+1 }.put dst ⟨none,.p (.bool true)⟩)/\K ({ st.bare with yk:=y.cnt+1 }.put dst ⟨none,.p (.bool false)⟩))else False
     |_,_,_=>False
   |_,_=>False
 |_,_=>False
def Ed (st:St) (dst:Option Nat) (gd:Option (Nat×Bool×Bool)):Bool:=match dst,gd with
 |some d,some (q,_,_)=>decide (d<st.nt) && !(d == q)
 |some d,none=>decide (d<st.nt)
 |none,_=>true
structure Fb where
 a:Nat
 b:Nat
 x:Bool
 t:TypeId
 cs:List EV
 y:Bool
 kt:TypeId
 vt:TypeId
 val:Int->SV
def I8 (own:List (Nat×Al)):List Nat->Option (List Fb)
 |[]=>some []
 |[_]=>none
 |a::b::l=>match BC own a,BC own b,I8 own l with
   |some (.oblk x t cs),some (.omq y kt vt val),some fs=>some (⟨a,b,x,t,cs,y,kt,vt,val⟩::fs)
   |_,_,_=>none
def FU:List EV->Option (Nat×List SV)
 |[.mapv b]=>some (b,[])
 | .p s::l=>(FU l).map fun x=>(x.1,s::x.2)
 |_=>none
def KJ:List SV->List SV->List Prop
 |[],[]=>[]
 |s::l,t::m=>Hm s t++KJ l m
 |_,_=>[False]
def Oq:List Prop->Prop
 |[]=>True
 |[p]=>p
 |p::ps=>p/\Oq ps
def Me (c:Fp) (t:c.T) (i:Nat):Nat->List Fb->List Prop
 |_,[]=>[]
 |j,f::l=>(match FU f.cs with
   |some (b',hs)=>if b' == f.b&&f.t == c.t&&f.kt == c.kt&&f.vt == c.vt then [i=j->f.x=true/\f.y=true/\hs=c.head t/\∀x,f.val x=c.val t x]else [False]
   |none=>[False])++Me c t i (j+1) l
def KK (st:St) (gd:Option (Nat×Bool×Bool)) (dst:Option Nat) (bs:List Nat) (i:Nat) (as:List EV) (c:Fp) (K:St->Prop):Prop:=match I8 st.own bs with
 |some fs=>∃t:c.T,Bz (wrapG gd ([i<fs.length]++Me c t i 0 fs++Hn as ((c.args t).map .p) ++ [c.pre t])) (K (st.put dst ⟨gd,.p (c.res t)⟩))
 |none=>False
def Mf (i:Nat) (tA kt vt:TypeId) (hs:List SV) (dom:Int->Bool) (val:Int->SV):Nat->List Fb->List Prop
 |_,[]=>[]
 |j,f::l=>(match FU f.cs with
   |some (b',hs')=>if b' == f.b&&f.t == tA&&f.kt == kt&&f.vt == vt then [i=j->f.x=false/\f.y=false/\(∀x,dom x=true->val x=f.val x)/\Oq (KJ hs hs')]else [False]
   |none=>[False])++Mf i tA kt vt hs dom val (j+1) l
def HL (i:Nat):Nat->List Fb->List (Nat×Al)->List (Nat×Al)
 |_,[],own=>own
 |j,f::l,own=>HL i (j+1) l (Cd (Cd own f.a (.oblk (f.x||decide (i=j)) f.t f.cs)) f.b (.omq (f.y||decide (i=j)) f.kt f.vt f.val))
def Ot (P:Program) (st:St) (t:TypeId) (r i A:Nat) (K:St->Prop):Prop:=match BC st.own r,BC st.own A with
 |some (.prow _ n bs),some (.blk tA csA)=>match I8 st.own bs,FU csA with
   |some fs,some (B,hs)=>match BC st.own B,Bf P t with
     |some (.mq kt vt dom val), some y =>if (y.size = 1/\r≠A/\r≠B/\A≠B)/\(CE bs&&bs.all (fun b =>decide (b<st.nt)) && !(bs.contains A) && !(bs.contains B) && !(bs.contains r)&&((st.forget A).forget B).T.all (fun x =>bs.all fun b => !(x.2.v.names b)) &&
       st.own.all (fun x=>x.1 == r||bs.contains x.1||bs.all fun b=>!(x.2.names b)))=true then
      Bz ([i<n]++Mf i tA kt vt hs dom val 0 fs) (K { (st.forget A).forget B with own:=HL i 0 fs (st.own.filter fun x=>!(x.1 == A) && !(x.1 == B)) })else False
     |_,_=>False
   |_,_=>False
 |_,_=>False
def GJ (F:Jt):Nat->List Nat->List (Nat×Al)
 |j,a::b::l=>(a,.oblk false F.t ((F.head j).map .p ++ [.mapv b]))::(b,.omq false F.kt F.vt (F.val j))::GJ F (j+1) l
 |_,_=>[]
def Ou (P:Program) (C:Aj) (st:St) (d:Nat) (t:TypeId) (l c:Operand) (K:St->Prop):Prop:=match P.underlying t,st.rho none l,st.rho none c with
 |some (.slice e),some (.p (.int _ n)),some (.p (.int _ m))=>match Bf P e with
   |some y =>if 0<y.size/\y.zero.cells.size = y.size/\0<y.bytes/\y.zero.cells.all (·.oneCell')/\(st.forget d).noName d then
     match C.prows d with
     |none=>Bz [0<=n/\n<=m/\m*(y.bytes:Int)<=140737488355328] (K ({ st.forget d with own:=(d,.row e y.size m.toNat (fun _=>y.zero.cells.toList.map Cc))::(st.forget d).own }.put (some d) ⟨none,.rpre d n.toNat⟩))
     |some F=>match y.zero.cells.toList with
       |[.pointer none]=>if CE F.bs && !(F.bs.contains d)&&F.bs.all (Jv (st.forget d))then
        Bz [0<=n/\n<=m/\m*(y.bytes:Int)<=140737488355328,2*n.toNat<=F.bs.length] (K ({ st.forget d with own:=(d,.prow e n.toNat F.bs)::(GJ F 0 F.bs++(st.forget d).own) }.put (some d) ⟨none,.row d⟩))else False
       |_=>False
    else False
   |none=>False
 |_,_,_=>False
def iD (C:Aj) (st:St) (gd:Option (Nat×Bool×Bool)) (o:Oper):Bool:=match o.op,o.dst,gd with
 | .makeSlice _ _ _,some d,none=>C.pres.contains d||(C.prows d).isSome
 | .store _ p _,none,none=>match st.rho none p with
   |some (.rptr r _ _ _)=>(match BC st.own r with
     |some (.prow ..)=>true
     |_=>false)
   |_=>false
 | .call { callee:=.value f,.. },_,gd=>match st.rho gd f with
   |some (.p (.clo g _))=>(C.fams g).isSome
   |_=>false
 |_,_,_=>false
def KL (P:Program) (C:Aj) (st:St) (gd:Option (Nat×Bool×Bool)) (o:Oper) (K:St->Prop):Prop:=match o.op,o.dst,gd with
 | .makeSlice t l c,some d,none=>Ou P C st d t l c K
 | .store t p x,none,none=>match st.rho none p,st.rho none x with
   |some (.rptr r 1 i 0),some (.loc A 0)=>Ot P st t r i A K
   |_,_=>False
 | .call { callee:=.value f,args:=args,.. },dst,gd=>match st.rho gd f,I5 (st.rho gd) args.toList with
   |some (.p (.clo g [])),some (.fptr bs i::as)=>match C.fams g with
     |some c=>KK st gd dst bs i as c K
     |none=>False
   |_,_=>False
 |_,_,_=>False
def E7 (P:Program) (C:Aj) (ops:Array Oper):List Oper->St->(St->Prop)->Prop
 |[],st,K=>K st
 |o::rest,st,K=>match HJ ops st o with
   |none=>False
   |some gd=>if Ed st o.dst gd then(match Od C o gd with
     |some (d,t,x,hi)=>Oe P st d t x hi (fun st'=>E7 P C ops rest st' K)
     |none=>if iD C st gd o then KL P C st gd o (fun st'=>E7 P C ops rest st' K)else match F3 P st gd o.op with
       |some (ps,e)=>Bz (wrapG gd ps) (E7 P C ops rest (st.put o.dst ⟨gd,e⟩) K)
       |none=>KI P C st gd o (fun st'=>E7 P C ops rest st' K))else False
section
variable {P:Program} {M:Nat->Prop} {w:World} {G:Bn} {st:St} {a:Act} {env:As} {X:Nat->Prop}
theorem Ov (S:Ak P G st a w env M X) {x:Operand} {e:AE} (h:st.ent x=some e) :
  (e.ok->Am P M w env e.v (a.eval x))/\(∀q c v,e.g=some (q,c,v)->(v=true↔a.eval (.tmp q)=.bool c)):=by
 cases x with
 |tmp t=>exact⟨fun ho=>(S.tmp _ _ (HE h)).2.1 ho,fun q c v hq=>S.grd _ _ (HE h) q c v hq⟩
 |const v =>
   cases v<;>simp only[St.ent,Option.some.injEq]at h<;>subst h<;>refine⟨fun _=>?_,fun q c v hq=>by simp at hq⟩ <;>
    first|exact .p (.int _ _)|exact .p (.bool _)|exact .p (.raw _)
 |func f =>
   simp only[St.ent,Option.some.injEq]at h;subst h;exact⟨fun _=>.p (.clo f [] [] rfl (fun i hi=>by simp at hi)),fun q c v hq=>by simp at hq⟩
 |global g=>simp[St.ent]at h
def Eo (a:Act) (gd:Option (Nat×Bool×Bool)):Prop:=∀q c v,gd=some (q,c,v)->(v=true↔a.eval (.tmp q)=.bool c)
theorem Rx {gd g:Option (Nat×Bool×Bool)} (hgd:Eo a gd) (hh:Co gd) (hg:∀q c v,g=some (q,c,v)->(v=true↔a.eval (.tmp q)=.bool c)) (h:free gd g=true):Co g:=by
 cases g with
 |none=>trivial
 |some g =>
   obtain⟨s,b,v⟩:=g;cases gd with
   |none=>simp[free]at h
   |some gd =>
     obtain⟨s',b',v'⟩:=gd;simp only[free,pR,beq_iff_eq]at h;obtain⟨rfl,rfl⟩:=h;exact(hg _ _ _ rfl).2 ((hgd _ _ _ rfl).1 hh)
theorem GK {e:AE} (h:Co e.g):e.ok:=by
 unfold AE.ok;unfold Co at h;split<;>simp_all
theorem iE {e:AE} (h:e.ok):Co e.g:=by
 unfold AE.ok at h;unfold Co;split<;>simp_all
theorem Bc (S:Ak P G st a w env M X) {gd:Option (Nat×Bool×Bool)} (hgd:Eo a gd) (hh:Co gd) {x:Operand} {e:EV} (h:st.rho gd x=some e):Am P M w env e (a.eval x):=by
 unfold St.rho at h;split at h
 ·rename_i en hen;split at h
  ·rename_i hf;cases h;obtain⟨h1,h2⟩:=Ov S hen;exact h1 (GK (Rx hgd hh h2 hf))
  ·cases h
 ·cases h
theorem Ry (want b:Bool):((if want then b else !b)=true)↔b=want:=by cases want<;>cases b<;>simp
theorem iF (c:Bool):undef≠Value.bool c:=by intro h;unfold undef at h;cases h
theorem KM (S:Ak P G st a w env M X) {ops:Array Oper} {o:Oper} {gd:Option (Nat×Bool×Bool)} (h:HJ ops st o=some gd) :
  Eo a gd/\(Region.wanted o (yielded ops a.tmps)=true↔Co gd):=by
 unfold HJ at h;split at h
 ·rename_i hg;cases h;exact⟨fun q c v hq=>by simp at hq,by simp[Region.wanted,hg,Co]⟩
 ·rename_i j want hg;split at h
  ·rename_i oj hj;split at h
   ·rename_i d hd;split at h
    ·rename_i g b hl;cases h;have hm:=HE hl;obtain⟨hlt,h1,h2⟩:=S.tmp _ _ hm;have hj':ops[j]? = some oj:=by simpa using hj
     have hev:a.tmps[d]? = some (a.eval (.tmp d)):=by simp[Act.eval,LS,S.siz,hlt]
     have hy:yielded ops a.tmps j=match a.eval (.tmp d)with | .bool b=>some b|_=>none:=by
      unfold yielded;rw[hj'];simp only[Option.bind_some,hd,hev];cases a.eval (.tmp d)<;>rfl
     have key:KB want b g=true↔a.eval (.tmp d)=.bool want:=by
      clear hl hm hy hev;revert h1 h2;generalize a.eval (.tmp d)=q;intro h1 h2;cases g with
      |none =>
        have hd:=h1 trivial;rcases hd with ⟨hd⟩;cases hd;simp only[KB,Ry];constructor
        ·intro e;rw[e]
        ·intro e;injection e
      |some g =>
        obtain⟨s,b',b0⟩:=g;cases b0 with
        |false =>
          have hu:=h2 (by simp[AE.ok]);rw[hu];simp[KB,iF]
        |true =>
          have hd:=h1 rfl;rcases hd with ⟨hd⟩;cases hd;simp only[KB,Bool.true_and,Ry];constructor
          ·intro e;rw[e]
          ·intro e;injection e
     refine⟨fun q c v hq=>by cases hq;exact key,?_⟩;simp only[Region.wanted,hg,Co,hy];rw[key];constructor
     ·intro e;split at e
      ·rename_i b' hb;simp at e;rw[hb,e]
      ·simp at e
     ·intro e;rw[e];simp
    ·cases h
   ·cases h
  ·cases h
theorem F6 {gd:Option (Nat×Bool×Bool)} {ps:List Prop} (h:all (wrapG gd ps)) (hh:Co gd):all ps:=by
 cases gd with
 |none=>exact h
 |some gd=>obtain⟨q,c,b⟩:=gd;intro p hp;exact h (b=true->p) (by simp only[wrapG,Ado];exact⟨p,hp,rfl⟩) hh
theorem iG {c:Bool} {s t r:SV} (h:NV c s t=some r) {u v:Value} (hu:c=true->Av M w s u) (hv:c=false->Av M w t v):Av M w r (if c then u else v):=by
 unfold NV at h;split at h
 ·cases h;cases c
  ·have:=hv rfl;cases this;exact .bool _
  ·have:=hu rfl;cases this;exact .bool _
 ·split at h
  ·rename_i hk;subst hk;cases h;cases c
   ·have:=hv rfl;cases this;exact .int _ _
   ·have:=hu rfl;cases this;exact .int _ _
  ·cases h
 ·cases h
theorem iH (S:Ak P G st a w env M X) {gd:Option (Nat×Bool×Bool)} (hgd:Eo a gd) (hh:Co gd) {c x y:Operand} {ps:List Prop} {r:EV}
  (h:NW st gd c x y=some (ps,r)) (hp:all ps) (o:Oper) (ho:o.op=.pick c x y):∃u,(execOp a.eval o).run P w=.ok (.value u) w/\Am P M w env r u:=by
 unfold NW at h;split at h
 ·rename_i t;split at h
  ·rename_i b gx sx gy sy hc hx hy;split at h
   ·rename_i s p1 p2 hs h1 h2;cases h;have hcd:=Bc S hgd hh hc;rcases hcd with ⟨hcd⟩;generalize hev:a.eval (.tmp t)=q at hcd;cases hcd;have hx':=Ov S hx;have hy':=Ov S hy;have part:∀(g:Option (Nat×Bool×Bool)) (want:Bool) (p:List Prop),LX t b gd g want=some p->all p->(∀q c v,g=some (q,c,v)->(v=true↔a.eval (.tmp q)=.bool c))->b=want->Co g:=by
     intro g want p hpk hall hgr hb;unfold LX at hpk;split at hpk
     ·rename_i hf;exact Rx hgd hh hgr hf
     ·split at hpk
      ·trivial
      ·rename_i s' w' b';split at hpk
       ·rename_i hsw;simp only[pR,beq_iff_eq]at hsw;obtain⟨rfl,rfl⟩:=hsw;exact(hgr _ _ _ rfl).2 (by rw[hev,hb])
       ·cases hpk;exact Ay hall hb
    have hres :=iG (M :=M) (w :=w) (u :=a.eval x) (v :=a.eval y) hs (fun hb =>by
      have:=hx'.1 (GK (part gx true p1 h1 (fun p hp'=>hp p (by simp[hp'])) hx'.2 hb));rcases this with ⟨this⟩;exact this)
     (fun hb=>by
      have:=hy'.1 (GK (part gy false p2 h2 (fun p hp'=>hp p (by simp[hp'])) hy'.2 hb));rcases this with ⟨this⟩;exact this)
    refine⟨_,?_,.p hres⟩;simp[execOp,ho,hev,asBool]
   ·cases h
  ·cases h
 ·cases h
theorem KN (S:Ak P G st a w env M X) {gd:Option (Nat×Bool×Bool)} (hgd:Eo a gd) (hh:Co gd) {op:Op} {ps:List Prop} {r:EV}
  (h:F3 P st gd op=some (ps,r)) (hp:all ps) (o:Oper) (ho:o.op=op):∃u,(execOp a.eval o).run P w=.ok (.value u) w/\Am P M w env r u:=by
 unfold F3 at h;split at h
 ·exact iH S hgd hh h hp o ho
 ·exact gW S (fun x e hx=>Bc S hgd hh hx) h hp o ho
end
section
variable {P:Program} {M:Nat->Prop} {w:World} {G:Bn} {st:St} {a:Act} {env:As} {X:Nat->Prop}
theorem I9 (w:World) (o:Obj):Same (fun _=>False) w (w.alloc o):=⟨rfl,rfl,rfl,Adp _,by simp,fun b hb _=>Below.heap_alloc w o b hb⟩
theorem KO {w w':World} (h:Bl w.heap.size w w'):Same (fun _=>False) w w':=⟨h.os,h.tape,h.output,h.drawn,h.size,fun b hb _=>h.block b hb⟩
theorem Rz (w:World):Same (fun _=>False) w w.drew:=⟨rfl,rfl,rfl,Nat.le_succ _,Adp _,fun _ _ _=>rfl⟩
theorem Ak.grow (hG:Bp G) (S:Ak P G st a w env M X) {w':World} (hs:Same (fun _=>False) w w') {M':Nat->Prop} (hM:∀b,M b->M' b) (hM':∀b,M' b->M b\/w.heap.size<=b) (hMl:∀b,M' b->b<w'.heap.size) :
  Ak P G st a w' env M' (fun b=>X b\/(w.heap.size<=b/\b<w'.heap.size)):=
 S.step hG hs hM hM' hMl (fun b h=>by rcases hM' b h with h'|h';exact .inl h';exact .inr (.inr ⟨h',hMl b h⟩)) (fun b h=>.inl h) (fun b h=>by rcases h with h|h;exact .inl h;exact .inr h.1) (fun b h=>by
  rcases h with h|h
  ·exact Adt (S.xlt b h) hs.size
  ·exact h.2)
theorem KP {s:SV} (h:CD (.p s)=true) {v:Value} (hd:Av M w s v):v.oneCell'=true:=by
 cases hd with
 |agg|tup=>simp[CD]at h
 |raw v=>simpa[CD]using h
 |_=>rfl
theorem iI {e:EV} (h:CD e=true) {v:Value} (hd:Am P M w env e v):v.oneCell'=true:=by
 cases hd with
 |p h'=>exact KP h h'
 |fn h'=>obtain⟨f,first,caps,rfl,_⟩:=h';rfl
 |any=>simp[CD]at h
 |ag=>simp[CD]at h
 |fptr _ h'=>rw[h'];rfl
 |_=>rfl
theorem Ak.newRef (hG:Bp G) (S:Ak P G st a w env M X) {ss:List SV} {vs:List Value} (hd:Bm M w ss vs) (h1:∀v,v∈vs->v.oneCell'=true) (t:TypeId) :
  ∃M' X',Ak P G st a (w.alloc (.cells vs.toArray t)) env M' X'/\Av M' (w.alloc (.cells vs.toArray t)) (.ref ss 0) (.pointer (some ⟨w.heap.size,0,none⟩))/\Bg M M' w (w.alloc (.cells vs.toArray t)):=by
 have hs:=I9 w (.cells vs.toArray t);have hl:Bg M (fun b=>M b\/b=w.heap.size) w (w.alloc (.cells vs.toArray t)):=⟨by simp,fun b hb=>hs.block b (S.mlt b hb) id,fun b hb=>.inl hb⟩;refine⟨fun b=>M b\/b=w.heap.size,_,S.grow hG hs (M':=fun b=>M b\/b=w.heap.size) (fun b h=>.inl h) (fun b h=>by rcases h with h|h;exact .inl h;exact .inr (by omega)) (fun b h=>by
  rcases h with h|h
  ·have:=S.mlt b h;simp;omega
  ·subst h;simp),?_,hl⟩
 refine .ref ss 0 (fun j=>vs.getD j undef) ⟨w.heap.size,0,none⟩ (.inr rfl) (fun j hj=>?_) (fun j hj=>?_) (fun j hj=>(hd.2 j hj).later hl)
 ·rw[CB,AdE,World.cell?_alloc_new];have:j<vs.length:=by rw[hd.1];exact hj
  simp[AS,this]
 ·have:j<vs.length:=by rw[hd.1];exact hj
  rw[AS,rH this];exact h1 _ (AdC this)
theorem Ho {k:Nat} (h:st.noName k=true) {k':Nat} {o:Al} (ho:(k',o)∈st.own):k'≠k/\o.names k=false:=by
 have:=Ad0.1 h _ ho;simpa using this
theorem Am.reenv {w':World} {M':Nat->Prop} {env':As} {k:Nat} (hl:Bg M M' w w') (he:∀j,j≠k->env'.at_ j=env.at_ j/\env'.rv j=env.rv j) (hy:env'.yl=env.yl) {e:EV} {v:Value}
  (hn:e.names k=false) (h:Am P M w env e v):Am P M' w' env' e v :=
 h.mono hl (fun j hj=>he j (fun e'=>by subst e';rw[hn]at hj;cases hj)) hy
theorem HF.but {env':As} {nt k:Nat} (h:HF G env nt) (hk:k<nt) (he:∀j,j≠k->env'.at_ j=env.at_ j/\env'.rv j=env.rv j):HF G env' nt:=fun j hj=>by
 obtain⟨h1,h2,h3⟩:=h j hj;obtain⟨e1,e2⟩:=he j (by omega);exact⟨h1,e1.trans h2,e2.trans h3⟩
theorem Ak.newOwn (hG:Bp G) (S:Ak P G st a w env M X) {k:Nat} (hkn:k<st.nt) (hk:st.noName k=true) (hT:∀s e,(s,e)∈st.T->e.v.names k=false) {w':World} (hs:Same (fun _=>False) w w') {env':As}
  (he:∀j,j≠k->env'.at_ j=env.at_ j/\env'.rv j=env.rv j) (hy:env'.yl=env.yl) (hg:∀g,env'.at_ k=some g->w.heap.size<=g/\g<w'.heap.size) {M':Nat->Prop}
  (hM:∀b,M b->M' b) (hM':∀b,M' b->M b\/(w.heap.size<=b/\env'.at_ k≠some b)) (hMl:∀b,M' b->b<w'.heap.size)
  {o:Al} (ho:B3 P M' w' env' k o):∃X',Ak P G { st with own:=(k,o)::st.own } a w' env' M' X':=by
 have hl:Bg M M' w w':=⟨hs.size,fun b hb=>hs.block b (S.mlt b hb) id,hM⟩;have hb:∀g,g<w.heap.size->w'.heap[g]? = w.heap[g]?:=fun g hg=>hs.block g hg id;have hold:∀{k' o'},(k',o')∈st.own->k'≠k/\o'.names k=false:=fun h=>Ho hk h;refine⟨fun b=>X b\/(w.heap.size<=b/\b<w'.heap.size),?_⟩;refine⟨⟨hG _ _ _ _ _ S.gam.1 ⟨hs.os,hs.tape,hs.output,hs.drawn,hs.size,fun b hb _=>hs.block b hb id⟩ (fun b h=>.inl h) (fun b h=>by rcases h with h|h;exact .inl h;exact .inr h.1),S.gam.2.but hkn he⟩,fun b hb=>by rcases hM' b hb with h'|h';exact(S.mx b h').imp id .inl;exact .inr (.inr ⟨h'.1,hMl b hb⟩),?_,?_,?_,?_,hMl,?_,S.siz,?_,S.grd,?_,S.dno⟩
 ·intro k' o' h;rcases Adq.1 h with h|h
  ·cases h;exact ho
  ·obtain⟨hne,hnn⟩:=hold h;have h1:=S.own _ _ h;have h2:=S.oat _ _ h;exact h1.move hl (he _ hne).1 (he _ hne).2 (fun g ha=>hb g (h2 g ha).2.2) (fun j hj=>he j (fun e=>by rw[e,hnn]at hj;cases hj))
 ·intro k' o' h g hg';rcases Adq.1 h with h|h
  ·cases h;obtain⟨h1,h2⟩:=hg g hg';refine⟨.inr ⟨h1,h2⟩,fun hm=>?_,h2⟩;rcases hM' g hm with h3|h3
   ·have:=S.mlt g h3;omega
   ·exact h3.2 hg'
  ·obtain⟨hne,_⟩:=hold h;rw[(he _ hne).1]at hg';obtain⟨h1,h2,h3⟩:=S.oat _ _ h g hg';refine⟨.inl h1,fun hm=>?_,Adt h3 hs.size⟩;rcases hM' g hm with h4|h4
   ·exact h2 h4
   ·omega
 ·intro k1 o1 k2 o2 h1 h2 hne g hg1;rcases Adq.1 h1 with h1|h1<;>rcases Adq.1 h2 with h2|h2
  ·cases h1;cases h2;exact absurd rfl hne
  ·cases h1;obtain⟨hn2,_⟩:=hold h2;rw[(he _ hn2).1];intro hc;have:=(S.oat _ _ h2 g hc).2.2;have:=(hg g hg1).1;omega
  ·cases h2;obtain⟨hn1,_⟩:=hold h1;rw[(he _ hn1).1]at hg1;intro hc;have:=(S.oat _ _ h1 g hg1).2.2;have:=(hg g hc).1;omega
  ·rw[(he _ (hold h1).1).1]at hg1;rw[(he _ (hold h2).1).1];exact S.inj _ _ _ _ h1 h2 hne g hg1
 ·simp only[Aea,List.nodup_cons];refine⟨fun hm=>?_,S.nod⟩;obtain⟨x,hx,he'⟩:=Ado.1 hm;exact(hold (k':=x.1) (o':=x.2) hx).1 he'
 ·intro b hb';rcases hb' with h|h
  ·exact Adt (S.xlt b h) hs.size
  ·exact h.2
 ·intro s e h;obtain⟨h1,h2,h3⟩:=S.tmp s e h;exact⟨h1,fun ho'=>(h2 ho').reenv hl he hy (hT s e h),h3⟩
 ·intro d hd;obtain⟨D,e,h1,h2,h3,h4⟩:=S.dfr d hd;have hD:=S.xlt D h2;refine⟨D,e,(hb D hD).trans h1,.inl h2,fun hm=>?_,?_⟩
  ·rcases hM' D hm with h5|h5
   ·exact h3 h5
   ·omega
  ·intro k' o' h;rcases Adq.1 h with h|h
   ·cases h;intro hc;have:=(hg D hc).1;omega
   ·rw[(he _ (hold h).1).1];exact h4 _ _ h
theorem Ak.forget (S:Ak P G st a w env M X) (k:Nat):Ak P G (st.forget k) a w env M X :=
 S.sub (fun _ hx=>(Adn.1 hx).1) (fun _ hx=>hx) S.nod rfl rfl
theorem HM {k:Nat} {s:Nat} {e:AE} (h:(s,e)∈(st.forget k).T):e.v.names k=false:=by
 have:=(Adn.1 h).2;simpa using this
theorem DC {l:List (Nat×Al)} {k:Nat} {o:Al} {k':Nat} {o':Al} (h:(k',o')∈Cd l k o):(k'=k/\o'=o/\∃o'',(k,o'')∈l)\/(k'≠k/\(k',o')∈l):=by
 obtain⟨⟨k2,o2⟩,hm,he⟩:=Ado.1 h;simp only[beq_iff_eq]at he;split at he
 ·rename_i hk;cases he;exact .inl ⟨rfl,rfl,o2,by rw[<- hk];exact hm⟩
 ·rename_i hk;cases he;exact .inr ⟨hk,hm⟩
theorem Jw (l:List (Nat×Al)) (k:Nat) (o:Al):(Cd l k o).map (·.1)=l.map (·.1):=by
 induction l with
 |nil=>rfl
 |cons x l ih =>
   simp only[Cd,Aea]at ih ⊢;rw[ih];congr 1;split
   ·rename_i h;simp at h;exact h.symm
   ·rfl
theorem Ak.write (hG:Bp G) (S:Ak P G st a w env M X) {k g:Nat} {o0 o:Al} (hk:(k,o0)∈st.own) (hat:env.at_ k=some g) {w':World}
  (hs:Same (fun b=>b=g) w w') (hsz:w'.heap.size=w.heap.size) (ho:B3 P M w' env k o):Ak P G { st with own:=Cd st.own k o } a w' env M X:=by
 obtain⟨hXg,hMg,hgl⟩:=S.oat _ _ hk g hat;have hl:Bg M M w w':=⟨hs.size,fun b hb=>hs.block b (S.mlt b hb) (fun e=>hMg (e ▸ hb)),fun b hb=>hb⟩;have hb:∀b,b<w.heap.size->b≠g->w'.heap[b]? = w.heap[b]?:=fun b h1 h2=>hs.block b h1 h2;refine⟨⟨hG _ _ _ _ _ S.gam.1 ⟨hs.os,hs.tape,hs.output,hs.drawn,hs.size,fun b hb hx=>hs.block b hb (fun e=>hx (e ▸ hXg))⟩ (fun b h=>h) (fun b h=>.inl h),S.gam.2⟩,S.mx,?_,?_,?_,by simp only[Jw];exact S.nod,by rw[hsz];exact S.mlt,by rw[hsz];exact S.xlt,S.siz,?_,S.grd,?_,S.dno⟩
 ·intro k' o' h;rcases DC h with ⟨rfl,rfl,_⟩|⟨hne,h⟩
  ·exact ho
  ·have h1:=S.own _ _ h;have h2:=S.oat _ _ h;have hng:∀g',env.at_ k'=some g'->g'≠g:=fun g' hg' e=>S.inj _ _ _ _ h hk hne g' hg' (e ▸ hat);exact h1.move hl rfl rfl (fun g' ha=>hb g' (h2 g' ha).2.2 (hng g' ha)) (fun _ _=>⟨rfl,rfl⟩)
 ·intro k' o' h g' hg';rw[hsz];rcases DC h with ⟨rfl,rfl,o'',h''⟩|⟨hne,h⟩
  ·exact S.oat _ _ h'' g' hg'
  ·exact S.oat _ _ h g' hg'
 ·intro k1 o1 k2 o2 h1 h2 hne g' hg1;have e1:∃o,(k1,o)∈st.own:=by rcases DC h1 with ⟨rfl,_,o'',h''⟩|⟨_,h⟩;exact⟨_,h''⟩;exact⟨_,h⟩
  have e2:∃o,(k2,o)∈st.own:=by rcases DC h2 with ⟨rfl,_,o'',h''⟩|⟨_,h⟩;exact⟨_,h''⟩;exact⟨_,h⟩
  obtain⟨_,e1⟩:=e1;obtain⟨_,e2⟩:=e2;exact S.inj _ _ _ _ e1 e2 hne g' hg1
 ·intro s e h;obtain⟨h1,h2,h3⟩:=S.tmp s e h;exact⟨h1,fun ho'=>(h2 ho').later hl,h3⟩
 ·intro d hd;obtain⟨D,e,h1,h2,h3,h4⟩:=S.dfr d hd;refine⟨D,e,(hb D (S.xlt D h2) (fun e'=>h4 _ _ hk (e' ▸ hat))).trans h1,h2,h3,?_⟩;intro k' o' h;rcases DC h with ⟨rfl,_,o'',h''⟩|⟨_,h⟩
  ·exact h4 _ _ h''
  ·exact h4 _ _ h
end
section
def W (ro:Option Nat):Fence:={ Fence.wide with round:=ro }
theorem Ow {ro:Option Nat} {n:Nat} {P:Program} {f:Nat} {args:Array Value} {w:World} {R:Ending->World->Prop} (h:CallsIn Fence.wide 0 P f args w R):CallsIn (W ro) n P f args w R :=
 (callsIn_wide (n:=n)).2 (callsIn_wide.1 h)
section
variable {ro:Option Nat} {n:Nat} {P:Program} {ops:Array Oper} {Q:Exit->Act->World->Prop} {rest:List Oper} {o:Oper} {a:Act} {w w':World} {u:Value}
theorem iJ (hw:Region.wanted o (yielded ops a.tmps)=true) (ho:∀c,o.op ≠ .defer c) (hr:(execOp a.eval o).run P w=.ok (.value u) w') (k:wpListIn (W ro) n P ops Q rest (a.put o.dst u) w') :
  wpListIn (W ro) n P ops Q (o::rest) a w:=by
 unfold wpListIn;rw[if_pos hw];refine⟨fun f _=>trivial,?_⟩;rw[Oper.semAt_eq _ _ _ ho,hr];exact k
theorem iL (hw:Region.wanted o (yielded ops a.tmps)=true) (ho:∀c,o.op ≠ .defer c) (hr:(execOp a.eval o).run P w=.ok .skip w') (k:wpListIn (W ro) n P ops Q rest (a.put o.dst undef) w') :
  wpListIn (W ro) n P ops Q (o::rest) a w:=by
 unfold wpListIn;rw[if_pos hw];refine⟨fun f _=>trivial,?_⟩;rw[Oper.semAt_eq _ _ _ ho,hr];exact k
theorem iM (hw:Region.wanted o (yielded ops a.tmps)=true) (ho:∀c,o.op ≠ .defer c) {f:Nat} {args:Array Value} (hr:(execOp a.eval o).run P w=.ok (.enter f args) w')
  (k:CallsIn Fence.wide 0 P f args w' (fun e w''=>∃v,e=.returned v/\wpListIn (W ro) n P ops Q rest (a.put o.dst v) w'')):wpListIn (W ro) n P ops Q (o::rest) a w:=by
 unfold wpListIn;rw[if_pos hw];refine⟨fun f _=>trivial,?_⟩;rw[Oper.semAt_eq _ _ _ ho,hr];refine⟨fun h=>by simp[W,Fence.wide]at h,?_⟩;refine Ow (callsIn_wide.2 (Calls.mono (callsIn_wide.1 k) ?_));rintro e w'' ⟨v,rfl,h⟩;exact h
theorem iN (hw:¬ Region.wanted o (yielded ops a.tmps)=true) (k:wpListIn (W ro) n P ops Q rest (a.put o.dst undef) w):wpListIn (W ro) n P ops Q (o::rest) a w:=by
 unfold wpListIn;rw[if_neg hw];exact⟨fun f _=>trivial,k⟩
end
variable {P:Program} {M:Nat->Prop} {w:World} {G:Bn} {st:St} {a:Act} {env:As} {X:Nat->Prop}
def Gx (P:Program) (a:Act) (o:Oper) (w:World) (N:Act->World->Prop):Prop :=
 (∀c,o.op ≠ .defer c)/\((∃u w',(execOp a.eval o).run P w=.ok (.value u) w'/\N (a.put o.dst u) w')\/(∃w',(execOp a.eval o).run P w=.ok .skip w'/\N (a.put o.dst undef) w') \/
  (∃f args w',(execOp a.eval o).run P w=.ok (.enter f args) w'/\CallsIn Fence.wide 0 P f args w' (fun e w''=>∃v,e=.returned v/\N (a.put o.dst v) w'')) \/
  ∃l f tmps assign body w',(execOp a.eval o).run P w=.ok (.round l f tmps assign body) w'/\RoundIn Fence.wide 0 P l f tmps assign body w' (fun e w''=>∃v,e=.returned v/\N (a.put o.dst v) w''))
theorem R0 {ro:Option Nat} {n:Nat} {P:Program} {l f:Nat} {tmps:Array Value} {assign body:Code} {w:World} {R:Ending->World->Prop} (h:RoundIn Fence.wide 0 P l f tmps assign body w R):RoundIn (W ro) n P l f tmps assign body w R :=
 ⟨trivial,fun c cs _=>h.2 c cs (by simp[Fence.room,Fence.wide])⟩
theorem Jx {P:Program} {l f:Nat} {tmps:Array Value} {assign body:Code} {w:World} {R R':Ending->World->Prop} (h:RoundIn Fence.wide 0 P l f tmps assign body w R) (k:∀e w',R e w'->R' e w'):RoundIn Fence.wide 0 P l f tmps assign body w R':=by
 refine⟨h.1,fun c cs hr=>?_⟩;obtain⟨e,w',hR,hc⟩:=h.2 c cs hr;exact⟨e,w',k e w' hR,hc⟩
theorem iO {ro:Option Nat} {n:Nat} {ops:Array Oper} {Q:Exit->Act->World->Prop} {rest:List Oper} {o:Oper} (hw:Region.wanted o (yielded ops a.tmps)=true)
  (h:Gx P a o w (wpListIn (W ro) n P ops Q rest)):wpListIn (W ro) n P ops Q (o::rest) a w:=by
 obtain⟨ho,⟨u,w',hr,hk⟩|⟨w',hr,hk⟩|⟨f,args,w',hr,hk⟩|⟨l,f,tmps,assign,body,w',hr,hk⟩⟩:=h
 ·exact iJ hw ho hr hk
 ·exact iL hw ho hr hk
 ·exact iM hw ho hr hk
 ·unfold wpListIn;rw[if_pos hw];refine⟨fun f _=>trivial,?_⟩;rw[Oper.semAt_eq _ _ _ ho,hr];refine⟨fun h=>by simp[W,Fence.wide]at h,?_⟩;refine R0 (Jx hk ?_);rintro e w'' ⟨v,rfl,h⟩;exact h
theorem Ak.put0 (S:Ak P G st a w env M X) {d:Option Nat} {e:EV} {v:Value} (hd:∀t,d=some t->t<st.nt) (he:Am P M w env e v):Ak P G (st.put d ⟨none,e⟩) (a.put d v) w env M X :=
 S.put hd (fun _=>he) (fun h=>absurd trivial h) (fun q c x hq=>by simp at hq)
theorem Ak.putG (S:Ak P G st a w env M X) {gd:Option (Nat×Bool×Bool)} (hgd:Eo a gd) {d:Option Nat} {e:EV} {v:Value} (hd:∀t,d=some t->t<st.nt) (hq:∀q c x,gd=some (q,c,x)->d≠some q)
  (he:Co gd->Am P M w env e v) (hu:¬ Co gd->v=undef):Ak P G (st.put d ⟨gd,e⟩) (a.put d v) w env M X :=
 S.put hd (fun h=>he (iE h)) (fun h=>hu (fun h'=>h (GK h'))) (fun q c x hx=>⟨hq q c x hx,hgd q c x hx⟩)
def As.set (env:As) (k g:Nat) (v:Value):As:={ env with at_:=fun j=>if j=k then some g else env.at_ j,rv:=fun j=>if j=k then v else env.rv j }
theorem As.set_at (env:As) (k g:Nat) (v:Value):(env.set k g v).at_ k=some g:=by simp[As.set]
theorem As.set_rv (env:As) (k g:Nat) (v:Value):(env.set k g v).rv k=v:=by simp[As.set]
theorem As.set_other (env:As) (k g:Nat) (v:Value) (j:Nat) (h:j≠k):(env.set k g v).at_ j=env.at_ j/\(env.set k g v).rv j=env.rv j:=by simp[As.set,h]
theorem R1 (hG:Bp G) (S:Ak P G st a w env M X) {d:Nat} (hdn:d<st.nt) (hn:(st.forget d).noName d=true) {cs:List EV} {vs:List Value} (hl:vs.length=cs.length)
  (hd:∀i,i<cs.length->Am P M w env (EV.at cs i) (vs.getD i undef)) (h1:∀v,v∈vs->v.oneCell'=true) (hcn:∀i,i<cs.length->(EV.at cs i).names d=false) (t:TypeId) :
  ∃env' X',Ak P G { st.forget d with own:=(d,.blk t cs)::st.own } a (w.alloc (.cells vs.toArray t)) env' M X'/\env'.at_ d=some w.heap.size:=by
 have hs:=I9 w (.cells vs.toArray t);have hl':Bg M M w (w.alloc (.cells vs.toArray t)):=⟨by simp,fun b hb=>hs.block b (S.mlt b hb) id,fun b hb=>hb⟩;obtain⟨X',h⟩:=(S.forget d).newOwn hG hdn hn (fun s e h=>HM h) hs (env':=env.set d w.heap.size undef) (As.set_other env d _ _) rfl
  (fun g hg=>by rw[As.set_at]at hg;cases hg;simp) (M':=M) (fun b h=>h) (fun b h=>.inl h) (fun b h=>by have:=S.mlt b h;simp;omega)
  (o:=.blk t cs) ⟨w.heap.size,vs.toArray,As.set_at _ _ _ _,AdI,by simpa using hl,fun i hi=>by
   have hlt:i<vs.length:=by omega
   have he:(vs.toArray.getD i undef)=vs.getD i undef:=by simp[LS,AS]
   rw[he];refine⟨by rw[AS,rH hlt];exact h1 _ (AdC hlt),(hd i hi).reenv hl' (As.set_other env d _ _) rfl (hcn i hi)⟩⟩
 exact⟨_,X',h,As.set_at _ _ _ _⟩
theorem iP {cs:List EV} {d:Nat} (h:(!(cs.any (·.names d)))=true):∀i,i<cs.length->(EV.at cs i).names d=false:=fun i hi=>by
 simp only[Bool.not_eq_true',List.any_eq_false]at h;have:=h cs[i] (AdC hi);simpa[EV.at,AS,hi]using this
theorem Mg {cs:List EV} (h:cs.all CD=true) {vs:List Value} (hl:vs.length=cs.length) (hd:∀i,i<cs.length->Am P M w env (EV.at cs i) (vs.getD i undef)):∀v,v∈vs->v.oneCell'=true:=fun v hv=>by
 obtain⟨i,hi,rfl⟩:=AdM hv;have hi':i<cs.length:=by omega
 have h1:CD cs[i]=true:=Ad0.1 h _ (AdC hi');have h2:=hd i hi';rw[show EV.at cs i=cs[i]by simp[EV.at,AS,hi']]at h2;rw[show vs.getD i undef=vs[i]by simp[AS,hi]]at h2;exact iI h1 h2
theorem R2 (hG:Bp G) (S:Ak P G st a w env M X) {C:Aj} {t:TypeId} {cs:List EV} {d:Nat} {gd:Option (Nat×Bool×Bool)} (hgd:Eo a gd) (hh:Co gd) (hdn:d<st.nt) (hq:∀q c x,gd=some (q,c,x)->(some d:Option Nat)≠some q) {K:St->Prop} (h:newVar C t cs st d gd K)
  {vs:List Value} (hl:vs.length=cs.length) (hd:∀i,i<cs.length->Am P M w env (EV.at cs i) (vs.getD i undef)) :
  ∃st',K st'/\AI P G st' (a.put (some d) (.pointer (some ⟨w.heap.size,0,none⟩))) (w.alloc (.cells vs.toArray t)):=by
 unfold newVar at h;split at h
 ·rename_i hone;have h1:=Mg hone hl hd;split at h
  ·split at h
   ·split at h
    ·rename_i hc;simp only[pR]at hc;obtain⟨env',X',h2,h3⟩:=R1 hG S hdn hc.1 hl hd h1 (iP hc.2) t;exact⟨_,h,env',M,X',h2.put0 (by intro t' ht;cases ht;exact hdn) (.loc h3)⟩
    ·exact h.elim
   ·exact h.elim
  ·split at h
   ·rename_i ss hss;obtain⟨M',X',h2,h3,_⟩:=S.newRef hG (I2 hss hl hd) h1 t;exact⟨_,h,env,M',X',h2.putG hgd (by intro t' ht;cases ht;exact hdn) hq (fun _=>.p h3) (fun hn=>absurd hh hn)⟩
   ·exact h.elim
 ·exact h.elim
end
section
variable {P:Program} {M:Nat->Prop} {w:World} {G:Bn} {st:St} {a:Act} {env:As} {X:Nat->Prop}
theorem KQ {s:Sem Unit} {w':World} (h:s.run P w=.ok () w'):(do s;pure Next.skip:Sem Next).run P w=.ok .skip w':=by simp[h]
theorem Fr {s:Sem Value} {v:Value} {w':World} (h:s.run P w=.ok v w'):(do pure (Next.value (<- s)):Sem Next).run P w=.ok (.value v) w':=by simp[h]
theorem Ox:∀(l:List EV) (cs:List EV) (off:Nat),(En cs off l).length=cs.length
 |[],cs,off=>rfl
 |e::l,cs,off=>by rw[En,Ox l];simp
theorem R3 (cs:List EV) (i:Nat) (h:i<cs.length):EV.at cs i=cs[i]:=by simp[EV.at,AS,h]
theorem R4:∀(l:List EV) (cs:List EV) (off i:Nat),off+l.length<=cs.length->i<cs.length->EV.at (En cs off l) i=if off<=i/\i<off+l.length then EV.at l (i-off)else EV.at cs i
 |[],cs,off,i,_,_=>by rw[En,if_neg (by simp)]
 |e::l,cs,off,i,h,hi=>by
   simp only[Aeg]at h;rw[En,R4 l (cs.set off e) (off+1) i (by simp;omega) (by simpa using hi)]
   by_cases h1:off=i
   ·subst h1;rw[if_neg (by omega),if_pos (by simp)];simp[EV.at,AS,hi]
   ·by_cases h2:off+1<=i/\i<off+1+l.length
    ·rw[if_pos h2,if_pos (by simp;omega)];have:i-off=(i-(off+1))+1:=by omega
     rw[this];simp[EV.at,AS]
    ·rw[if_neg h2,if_neg (by simp;omega)];simp[EV.at,AS,h1]
theorem Mh:∀(l:List SV) (cs:List SV) (off:Nat),(Gs cs off l).length=cs.length
 |[],cs,off=>rfl
 |e::l,cs,off=>by rw[Gs,Mh l];simp
theorem R5:∀(l:List SV) (cs:List SV) (off i:Nat),off+l.length<=cs.length->i<cs.length->SV.at (Gs cs off l) i=if off<=i/\i<off+l.length then SV.at l (i-off)else SV.at cs i
 |[],cs,off,i,_,_=>by rw[Gs,if_neg (by simp)]
 |e::l,cs,off,i,h,hi=>by
   simp only[Aeg]at h;rw[Gs,R5 l (cs.set off e) (off+1) i (by simp;omega) (by simpa using hi)]
   by_cases h1:off=i
   ·subst h1;rw[if_neg (by omega),if_pos (by simp)];simp[SV.at,AS,hi]
   ·by_cases h2:off+1<=i/\i<off+1+l.length
    ·rw[if_pos h2,if_pos (by simp;omega)];have:i-off=(i-(off+1))+1:=by omega
     rw[this];simp[SV.at,AS]
    ·rw[if_neg h2,if_neg (by simp;omega)];simp[SV.at,AS,h1]
theorem IA (cur:Array Value) (o:Nat) (vs:List Value) (h:o+vs.length<=cur.size) (i:Nat) (hi:i<cur.size) :
  (cur.toList.take o++vs++cur.toList.drop (o+vs.length)).toArray.getD i undef=if o<=i/\i<o+vs.length then vs.getD (i-o) undef else cur.getD i undef:=by
 simp only[LS,Ae5,AS]
 by_cases h1:i<o
 ·rw[List.append_assoc,Ad7 (by simp;omega),if_neg (by omega),Aeq h1];simp
 ·by_cases h2:i<o+vs.length
  ·rw[if_pos (by omega),Ad7 (by simp;omega),Ad8 (by simp;omega)];simp[Nat.min_eq_left (by omega:o<=cur.size)]
  ·rw[if_neg (by omega),Ad8 (by simp;omega),AeB];simp only[List.length_append,List.length_take,Array.length_toList,Nat.min_eq_left (by omega:o<=cur.size)];rw[show o+vs.length+(i-(o+vs.length))=i by omega];simp
theorem IB {g:Nat} (new:Array Value):Same (fun b=>b=g) w (w.setRow g new)/\(w.setRow g new).heap.size=w.heap.size:=by
 have hsz:(w.setRow g new).heap.size=w.heap.size:=by simp[World.setRow]
 refine⟨⟨rfl,rfl,rfl,Adp _,by omega,fun b hb hne=>?_⟩,hsz⟩;simp only[World.setRow,Array.getElem?_modify];rw[if_neg (by omega)]
theorem Mi {t:TypeId} {y:Ty} (hy:Bf P t=some y) {g o:Nat} {e:TypeId} {cur:Array Value} (hh:w.heap[g]? = some (.cells cur e (0,0))) {v:Value} (hl:v.cells.size=y.size) (hle:o+y.size<=cur.size)
  (h1:∀u,u∈v.cells.toList->u.oneCell'=true):(Instr.storeAt t (.pointer (some ⟨g,o,none⟩)) v).run P w=.ok () (w.setRow g (cur.toList.take o++v.cells.toList++cur.toList.drop (o+v.cells.toList.length)).toArray):=by
 obtain⟨i,hi,hz,hs,hb,hu⟩:=C5 hy;have:=run_storeCells_at (P:=P) g o e v.cells.toList 0 cur w hh (by simp;omega) h1;simp only[AeH]at this;simp[Instr.storeAt,Instr.sureAddr,storeVar,E3 hi,hs,hl,this]
theorem Oy (hG:Bp G) (S:Ak P G st a w env M X) {t:TypeId} {y:Ty} (hy:Bf P t=some y) {p e:EV} {ps:List Prop} {st':St} (h:Hl st y p e=some (ps,st')) (hp:all ps)
  {u v:Value} (hu:Am P M w env p u) (hv:Am P M w env e v):∃w',(Instr.storeAt t u v).run P w=.ok () w'/\Ak P G st' a w' env M X:=by
 cases p with
 |loc b off =>
   cases hu with
   |@loc _ _ g hg =>
   simp only[Hl]at h;split at h
   ·rename_i t' cs hl;split at h
    ·rename_i hc;obtain⟨hc1,hc2,hc3⟩:=hc;cases h;obtain⟨hcl,hcd⟩:=LV hv hc3;have h1:=Mg hc3 hcl hcd;obtain⟨g',vs,hg',hh,hz,hd⟩:=S.own _ _ (Bq hl);rw[hg]at hg';cases hg';have hsz:v.cells.size=y.size:=by rw[<- hc1,<- hcl];simp
     have hglt:=(S.oat _ _ (Bq hl) g hg).2.2;refine⟨_,Mi hy hh hsz (by omega) h1,?_⟩;obtain⟨hs,hss⟩:=IB (w:=w) (g:=g) (vs.toList.take off++v.cells.toList++vs.toList.drop (off+v.cells.toList.length)).toArray;have hl':Bg M M w (w.setRow g (vs.toList.take off++v.cells.toList++vs.toList.drop (off+v.cells.toList.length)).toArray):=
      ⟨by omega,fun b hb=>hs.block b (S.mlt b hb) (fun e=>(S.oat _ _ (Bq hl) g hg).2.1 (e ▸ hb)),fun b hb=>hb⟩
     refine S.write hG (Bq hl) hg hs hss ?_;refine⟨g,_,hg,setRow_heap w g vs _ _ _ hh,?_,?_⟩
     ·rw[Ox];simp;omega
     ·rw[Ox];intro i hi;rw[IA vs off _ (by simp;omega) i (by omega),R4 _ _ _ _ (by omega) hi]
      by_cases hr:off<=i/\i<off+(BG e).length
      ·rw[if_pos hr,if_pos (by omega)];have hlt:i-off<(BG e).length:=by omega
       have:=hcd _ hlt;refine⟨?_,this.later hl'⟩;rw[AS,rH (by omega)];exact h1 _ (AdC _)
      ·rw[if_neg hr,if_neg (by omega)];exact⟨(hd i hi).1,(hd i hi).2.later hl'⟩
    ·cases h
   ·cases h
 |rptr r sz i off =>
   cases hu with
   |@rptr _ _ _ _ g hg =>
   simp only[Hl]at h;split at h
   ·rename_i t' sz' n get s hl;split at h
    ·rename_i hc;obtain⟨rfl,hc1,hc2,hc3⟩:=hc;cases h;have hin:i<n:=Ay hp;rcases hv with ⟨hv⟩;obtain⟨hcl,hcd⟩:=LP hv;have h1:∀u,u∈v.cells.toList->u.oneCell'=true:=fun u hu=>by
      obtain⟨j,hj,rfl⟩:=AdM hu;have hj':j<(cellsOf s).length:=by omega
      have h1:CD (.p (cellsOf s)[j])=true:=Ad0.1 hc3 _ (AdC hj');have h2:=hcd j hj';rw[show SV.at (cellsOf s) j=(cellsOf s)[j]by simp[SV.at,AS,hj']]at h2;rw[AS,rH hj,AdU]at h2;exact KP h1 h2
     obtain⟨hm,hgl,hO⟩:=S.own _ _ (Bq hl);rcases hO with ⟨hn,_⟩|⟨g',cap,cur,hg',hrv,hh,hnc,hcm,hcs,hd⟩
     ·rw[hn]at hg;cases hg
     rw[hg]at hg';cases hg';have hsz:v.cells.size=y.size:=by rw[<- hc1,<- hcl];simp
     have hglt:=(S.oat _ _ (Bq hl) g hg).2.2;have hcap:i*sz'+sz'<=cap*sz':=by
      have:=Ad5 sz' (show i+1<=cap by omega);rwa[AdK,Nat.one_mul]at this
     refine⟨_,Mi hy hh hsz (by omega) h1,?_⟩;obtain⟨hs,hss⟩:=IB (w:=w) (g:=g) (cur.toList.take (i*sz'+off)++v.cells.toList++cur.toList.drop (i*sz'+off+v.cells.toList.length)).toArray;have hl':Bg M M w (w.setRow g (cur.toList.take (i*sz'+off)++v.cells.toList++cur.toList.drop (i*sz'+off+v.cells.toList.length)).toArray):=
      ⟨by omega,fun b hb=>hs.block b (S.mlt b hb) (fun e=>(S.oat _ _ (Bq hl) g hg).2.1 (e ▸ hb)),fun b hb=>hb⟩
     refine S.write hG (Bq hl) hg hs hss ?_;refine⟨hm,fun j hj=>?_,.inr ⟨g,cap,_,hg,hrv,setRow_heap w g cur _ _ _ hh,hnc,hcm,by simp;omega,fun j hj k hk=>?_⟩⟩
     ·unfold setRow;split
      ·rw[Mh];exact hgl j hj
      ·exact hgl j hj
     ·have hjc : j*sz'+sz'<=cap*sz' :=by
       have:=Ad5 sz' (show j+1<=cap by omega);rwa[AdK,Nat.one_mul]at this
      rw[IA cur _ _ (by simp;omega) _ (by omega)];unfold setRow
      by_cases hji:j=i
      ·subst hji;rw[if_pos rfl,R5 _ _ _ _ (by rw[hgl j hin];omega) (by rw[hgl j hin];exact hk)]
       by_cases hr:off<=k/\k<off+(cellsOf s).length
       ·rw[if_pos (by omega),if_pos hr];have hlt:k-off<(cellsOf s).length:=by omega
        rw[show j*sz'+k-(j*sz'+off)=k-off by omega];refine⟨?_,(hcd _ hlt).later hl'⟩;rw[AS,rH (by omega)];exact h1 _ (AdC _)
       ·rw[if_neg (by omega),if_neg hr];exact⟨(hd j hin k hk).1,(hd j hin k hk).2.later hl'⟩
      ·rw[if_neg hji];have hne:¬ (i*sz'+off<=j*sz'+k/\j*sz'+k<i*sz'+off+(cellsOf s).length):=by
        intro hx;rcases Nat.lt_or_ge j i with h5|h5
        ·have:=Ad5 sz' (show j+1<=i by omega);rw[AdK]at this;omega
        ·have:=Ad5 sz' (show i+1<=j by omega);rw[AdK]at this;omega
       rw[if_neg (by rw[hcl];exact hne)];exact⟨(hd j hj k hk).1,(hd j hj k hk).2.later hl'⟩
    ·split at h
     ·rename_i hc;obtain⟨rfl,rfl,rfl,rfl,hcn,hyn,hc3⟩:=hc;cases h;rcases hv with ⟨hv⟩;obtain⟨hcl,hcd⟩:=LP hv;have h1:∀u,u∈v.cells.toList->u.oneCell'=true:=fun u hu=>by
       obtain⟨j,hj,rfl⟩:=AdM hu;have hj':j<(cellsOf s).length:=by omega
       have h1:CD (.p (cellsOf s)[j])=true:=Ad0.1 hc3 _ (AdC hj');have h2:=hcd j hj';rw[show SV.at (cellsOf s) j=(cellsOf s)[j]by simp[SV.at,AS,hj']]at h2;rw[AS,rH hj,AdU]at h2;exact KP h1 h2
      obtain⟨hm,hgl,hO⟩:=S.own _ _ (Bq hl);rcases hO with ⟨hn,_⟩|⟨g',cap,cur,hg',hrv,hh,hnc,hcm,hcs,hd⟩
      ·rw[hn]at hg;cases hg
      rw[hg]at hg';cases hg';have hsz:v.cells.size=y.size:=by rw[hyn,<- hcn,<- hcl];simp
      refine⟨_,Mi hy hh hsz (by omega) h1,?_⟩;obtain⟨hs,hss⟩:=IB (w:=w) (g:=g) (cur.toList.take (0*1+0)++v.cells.toList++cur.toList.drop (0*1+0+v.cells.toList.length)).toArray;have hl':Bg M M w (w.setRow g (cur.toList.take (0*1+0)++v.cells.toList++cur.toList.drop (0*1+0+v.cells.toList.length)).toArray):=
       ⟨by omega,fun b hb=>hs.block b (S.mlt b hb) (fun e=>(S.oat _ _ (Bq hl) g hg).2.1 (e ▸ hb)),fun b hb=>hb⟩
      refine S.write hG (Bq hl) hg hs hss ?_;refine⟨hm,fun j hj=>rfl,.inr ⟨g,cap,_,hg,hrv,setRow_heap w g cur _ _ _ hh,hnc,hcm,by simp;omega,fun j hj k hk=>?_⟩⟩;obtain rfl:k=0:=by omega
      rw[IA cur _ _ (by simp;omega) _ (by omega),if_pos (by omega)];have hlt:j<(cellsOf s).length:=by omega
      rw[show j*1+0-(0*1+0)=j by omega];refine⟨?_,?_⟩
      ·rw[AS,rH (by omega)];exact h1 _ (AdC _)
      ·show Av M _ (K5 (cellsOf s) j) _;rw[Rf hlt];exact(hcd _ hlt).later hl'
     ·cases h
   ·cases h
 |_=>simp[Hl]at h
end
section
variable {P:Program} {M:Nat->Prop} {w:World} {G:Bn} {st:St} {a:Act} {env:As} {X:Nat->Prop}
theorem Oz {t:TypeId} {y:Ty} (hy:Bf P t=some y):(Instr.alloc t true (.tuple #[])).run P w=.ok (.pointer (some ⟨w.heap.size,0,none⟩)) (w.alloc (.cells y.zero.cells t)):=by
 obtain⟨i,hi,hz,_⟩:=C5 hy;simp[Instr.alloc,zeroValue,typeInfo,hi,hz,Go.newVar,newRow]
theorem R6 (t:TypeId) (v:Value):(Instr.box t v).run P w=.ok (.pointer (some ⟨w.heap.size,0,none⟩)) (w.alloc (.cells v.cells t)):=by
 simp[Instr.box,Go.newVar,newRow]
theorem R7 {t e:TypeId} {y:Ty} (hu:P.underlying t=some (.slice e)) (hy:Bf P e=some y) {len:Nat} (hle:len*y.size<=16777216) (hz:y.zero.cells.size=y.size) {parts:Array (Nat×Value)} {cells:List Value}
  (hf:Instr.fill (fun i=>some (i*y.size,y.size)) ((Adu (len*y.size)).map fun k=>y.zero.cells.getD (k % y.size) undef).toArray parts.toList=some cells.toArray) :
  (Instr.buildSlice t len parts).run P w=.ok (.slice (some ⟨w.heap.size,0,none⟩) len len) (w.alloc (.cells cells.toArray e)):=by
 obtain⟨i,hi,hzz,hs,hb,_⟩:=C5 hy;have h1:¬ (16777216<len*y.size):=by omega
 have hm:∀z:Array Value,z.size=y.size->0<y.size->(Array.range (len*y.size)).map (fun x=>z[x % z.size]!)=((Adu (len*y.size)).map fun k=>z.getD (k % y.size) undef).toArray:=by
  intro z hzs hpos;apply AdJ;simp only[Array.toList_map,Array.toList_range];apply AeI;intro k _;rw[hzs];have:k % y.size<z.size:=by rw[hzs];exact Nat.mod_lt _ hpos
  simp[LS,this]
 by_cases h0:len*y.size=0
 ·have hf':Instr.fill (fun i=>some (i*y.size,y.size)) #[] parts.toList=some cells.toArray:=by simpa[h0]using hf
  simp[Instr.buildSlice,run_underlying hu,E3 hi,hs,h0,hf',newRow,Array.range_zero']
 ·have hpos:0<y.size:=Nat.pos_of_ne_zero (fun e=>h0 (by simp[e]));have hm':=hm y.zero.cells hz hpos;simp only[Instr.buildSlice,Sem.run_bind,run_underlying hu,Result.andThen_ok,E3 hi,hs];rw[if_neg (by simpa using h1)];simp only[Sem.run_pure,Sem.run_bind,Result.andThen_ok,if_neg h0,zeroValue,typeInfo,run_program,hi,hzz];rw[hm',hf];simp[newRow]
theorem R8 {l:List SV} {sz len:Nat} (h:l.length=len*sz) (i:Nat) (hi:i<len):(Bb l sz i).length=sz:=by
 unfold Bb;have:=Ad5 sz (show i+1<=len by omega);rw[AdK]at this;rw[FQ];omega
theorem R9 (l:List SV) (sz i j:Nat) (hj:j<sz):SV.at (Bb l sz i) j=SV.at l (i*sz+j):=K6 _ _ _ _ hj
theorem Cj {i j sz len:Nat} (hi:i<len) (hj:j<sz):i*sz+j<len*sz:=by
 have:=Ad5 sz (show i+1<=len by omega);rw[AdK]at this;omega
theorem iQ {M':Nat->Prop} {w':World} {g:Nat} (hg:M' g) {e:TypeId} {cells:List Value} (hh:w'.heap[g]? = some (.cells cells.toArray e (0,0))) {cs:List SV} (hd:Bm M' w' cs cells) (h1:∀v,v∈cells->v.oneCell'=true)
  {len sz:Nat} (hl:cs.length=len*sz) (hm:len<=maxLen):Av M' w' (.sl sz len (Bb cs sz)) (.slice (some ⟨g,0,none⟩) len len):=by
 have hcl:=hd.1;refine .sl sz len _ _ len (fun i j=>cells.getD (i*sz+j) undef) (Adp _) hm (fun _=>⟨_,rfl,hg,fun i hi j hj=>?_⟩) (fun i hi=>R8 hl i hi) (fun i hi j hj=>?_) (fun i hi j hj=>?_)
 ·have:=Cj hi hj;rw[CB,AdE,E4 hh (by simp;omega)];simp[LS,AS]
 ·have:=Cj hi hj;rw[AS,rH (by omega)];exact h1 _ (AdC _)
 ·have:=Cj hi hj;rw[R9 _ _ _ _ hj];exact hd.2 _ (by omega)
theorem Av.congr_sl {M':Nat->Prop} {w':World} {sz n:Nat} {get get':Nat->List SV} {v:Value} (h:Av M' w' (.sl sz n get) v) (he:∀i,i<n->get' i=get i):Av M' w' (.sl sz n get') v:=by
 cases h with
 |sl _ _ _ A cap vs hcap hm hA hg ho hd =>
   exact .sl _ _ _ A cap vs hcap hm hA (fun i hi=>by rw[he i hi];exact hg i hi) ho (fun i hi j hj=>by rw[he i hi];exact hd i hi j hj)
theorem Mj {n b:Nat} (hb:0<b) (h:n*b<=140737488355328):n<=maxLen:=by
 have:n<=n*b:=Nat.le_mul_of_pos_right n hb;unfold maxLen;omega
theorem RA (hG:Bp G) (S:Ak P G st a w env M X) {e:TypeId} {cs:List SV} {cells:List Value} (hd:Bm M w cs cells) (h1:∀v,v∈cells->v.oneCell'=true) {len sz:Nat} (hl:cs.length=len*sz) (hm:len<=maxLen) :
  ∃M' X',Ak P G st a (w.alloc (.cells cells.toArray e)) env M' X'/\Av M' (w.alloc (.cells cells.toArray e)) (.sl sz len (Bb cs sz)) (.slice (some ⟨w.heap.size,0,none⟩) len len):=by
 have hs:=I9 w (.cells cells.toArray e);have hl':Bg M (fun b=>M b\/b=w.heap.size) w (w.alloc (.cells cells.toArray e)):=⟨by simp,fun b hb=>hs.block b (S.mlt b hb) id,fun b hb=>.inl hb⟩;refine⟨fun b=>M b\/b=w.heap.size,_,S.grow hG hs (M':=fun b=>M b\/b=w.heap.size) (fun b h=>.inl h) (fun b h=>by rcases h with h|h;exact .inl h;exact .inr (by omega)) (fun b h=>by
  rcases h with h|h
  ·have:=S.mlt b h;simp;omega
  ·subst h;simp),?_⟩
 exact iQ (.inr rfl) AdI (hd.later hl') h1 hl hm
theorem Ml (hG:Bp G) (S:Ak P G st a w env M X) {d:Nat} (hdn:d<st.nt) (hn:(st.forget d).noName d=true) {e:TypeId} {cur:Array Value} {n cap sz:Nat} {get:Nat->List SV} (hcs:cur.size=cap*sz) (hnc:n<=cap) (hcm:cap<=maxLen)
  (hgl:∀i,i<n->(get i).length=sz) (hd:∀i,i<n->∀j,j<sz->(cur.getD (i*sz+j) undef).oneCell'=true/\Av M w (SV.at (get i) j) (cur.getD (i*sz+j) undef)) :
  ∃env' X',Ak P G { st.forget d with own:=(d,.row e sz n get)::(st.forget d).own } a (w.alloc (.cells cur e)) env' M X'/\env'.rv d=.slice (some ⟨w.heap.size,0,none⟩) n cap:=by
 have hs:=I9 w (.cells cur e);have hl':Bg M M w (w.alloc (.cells cur e)):=⟨by simp,fun b hb=>hs.block b (S.mlt b hb) id,fun b hb=>hb⟩;obtain⟨X',h⟩:=(S.forget d).newOwn hG hdn hn (fun s e h=>HM h) hs (env':=env.set d w.heap.size (.slice (some ⟨w.heap.size,0,none⟩) n cap)) (As.set_other env d _ _) rfl
  (fun g hg=>by rw[As.set_at]at hg;cases hg;simp) (M':=M) (fun b h=>h) (fun b h=>.inl h) (fun b h=>by have:=S.mlt b h;simp;omega)
  (o:=.row e sz n get) ⟨by omega,hgl,.inr ⟨w.heap.size,cap,cur,As.set_at _ _ _ _,As.set_rv _ _ _ _,AdI,hnc,hcm,hcs,fun i hi j hj=>⟨(hd i hi j hj).1,(hd i hi j hj).2.later hl'⟩⟩⟩
 exact⟨_,X',h,As.set_rv _ _ _ _⟩
theorem Mm (S:Ak P G st a w env M X) (k:Nat):Ak P G (st.scrub k) a w env M X:=by
 have hmem:∀{k' o'},(k',o')∈(st.scrub k).own->∃o,(k',o)∈st.own/\((∃t cs,o=.blk t cs/\o'=.blk t (cs.map fun e=>if e.names k then .any else e))\/(o'=o/\∀t cs,o ≠ .blk t cs)):=by
  intro k' o' h;obtain⟨⟨k2,o2⟩,hm,he⟩:=Ado.1 h;have hm:=(Adn.1 hm).1;cases o2 with
  |blk t cs=>cases he;exact⟨_,hm,.inl ⟨t,cs,rfl,rfl⟩⟩
  |_=>cases he;exact⟨_,hm,.inr ⟨rfl,fun _ _ h=>by cases h⟩⟩
 have hkeys:(st.scrub k).own.map (·.1)=(st.own.filter fun x=>!(x.2.hard k)).map (·.1):=by
  simp only[St.scrub,List.map_map];apply AeI;rintro⟨k',o'⟩ _;cases o'<;>rfl
 have hnod:((st.scrub k).own.map (·.1)).Nodup:=by
  rw[hkeys];exact S.nod.sublist (List.filter_sublist.map _)
 refine⟨S.gam,S.mx,?_,?_,?_,hnod,S.mlt,S.xlt,S.siz,fun s e h=>S.tmp s e (Adn.1 h).1,fun s e h=>S.grd s e (Adn.1 h).1,?_,S.dno⟩
 ·intro k' o' h;obtain⟨o,ho,⟨t,cs,rfl,rfl⟩|⟨rfl,_⟩⟩:=hmem h
  ·obtain⟨g,vs,ha,hh,hz,hd⟩:=S.own _ _ ho;refine⟨g,vs,ha,hh,by simpa using hz,fun i hi=>?_⟩;simp only[AdW]at hi;refine⟨(hd i hi).1,?_⟩;have:EV.at (cs.map fun e=>if e.names k then .any else e) i=if (EV.at cs i).names k then .any else EV.at cs i:=by
    simp[EV.at,AS,hi]
   rw[this];split
   ·exact .any
   ·exact(hd i hi).2
  ·exact S.own _ _ ho
 ·intro k' o' h;obtain⟨o,ho,_⟩:=hmem h;exact S.oat _ _ ho
 ·intro k1 o1 k2 o2 h1 h2;obtain⟨_,e1,_⟩:=hmem h1;obtain⟨_,e2,_⟩:=hmem h2;exact S.inj _ _ _ _ e1 e2
 ·intro d hd;obtain⟨D,e,h1,h2,h3,h4⟩:=S.dfr d hd;exact⟨D,e,h1,h2,h3,fun k' o' h=>by obtain⟨_,ho,_⟩:=hmem h;exact h4 _ _ ho⟩
theorem Mn {k s:Nat} {e:AE} (h:(s,e)∈(st.scrub k).T):e.v.names k=false:=by
 have:=(Adn.1 h).2;simpa using this
theorem RB (k:Nat):∀(cs:List EV),EV.names.namesL k (cs.map fun e=>if e.names k then .any else e)=false
 |[]=>rfl
 |e::cs=>by
   simp only[Aea,EV.names.namesL,RB k cs,Bool.or_false];split
   ·rfl
   ·rename_i h;simpa using h
theorem Mo {k k':Nat} {o:Al} (h:(k',o)∈(st.scrub k).own):o.names k=false:=by
 obtain⟨⟨k2,o2⟩,hm,he⟩:=Ado.1 h;have hm:=(Adn.1 hm).2;cases o2 with
 |blk t cs=>cases he;exact RB k cs
 |oblk b t cs=>cases he;simpa[Al.hard,Al.names]using hm
 |prow e n bs=>cases he;simpa[Al.hard,Al.names]using hm
 |_=>cases he;rfl
theorem Ak.rerow (hG:Bp G) (S:Ak P G st a w env M X) {k:Nat} (hkn:k<st.nt) {o0 o:Al} (hk:(k,o0)∈st.own) (hT:∀s e,(s,e)∈st.T->e.v.names k=false) (hO:∀k' o',(k',o')∈st.own->o'.names k=false) {w':World} {env':As}
  (hs:Same (fun b=>env.at_ k=some b) w w') (he:∀j,j≠k->env'.at_ j=env.at_ j/\env'.rv j=env.rv j) (hy:env'.yl=env.yl) (hg:∀g,env'.at_ k=some g->(env.at_ k=some g\/w.heap.size<=g)/\g<w'.heap.size)
  (ho:B3 P M w' env' k o):∃X',Ak P G { st with own:=Cd st.own k o } a w' env' M X':=by
 have hMk:∀b,M b->env.at_ k≠some b:=fun b hb e=>(S.oat _ _ hk b e).2.1 hb;have hl:Bg M M w w':=⟨hs.size,fun b hb=>hs.block b (S.mlt b hb) (hMk b hb),fun b hb=>hb⟩;refine⟨fun b=>X b\/(w.heap.size<=b/\b<w'.heap.size),?_⟩;refine⟨⟨hG _ _ _ _ _ S.gam.1 ⟨hs.os,hs.tape,hs.output,hs.drawn,hs.size,fun b hb hx=>hs.block b hb (fun e=>hx (S.oat _ _ hk b e).1)⟩ (fun b h=>.inl h) (fun b h=>by rcases h with h|h;exact .inl h;exact .inr h.1),S.gam.2.but hkn he⟩,fun b hb=>(S.mx b hb).imp id .inl,?_,?_,?_,by simp only[Jw];exact S.nod,
  fun b hb=>Adt (S.mlt b hb) hs.size,?_,S.siz,?_,S.grd,?_,S.dno⟩
 ·intro k' o' h;rcases DC h with ⟨rfl,rfl,_⟩|⟨hne,h⟩
  ·exact ho
  ·have h1:=S.own _ _ h;have h2:=S.oat _ _ h;have hng:∀g',env.at_ k'=some g'->env.at_ k≠some g':=fun g' hg'=>S.inj _ _ _ _ h hk hne g' hg';exact h1.move hl (he _ hne).1 (he _ hne).2 (fun g' ha=>hs.block g' (h2 g' ha).2.2 (hng g' ha)) (fun j hj=>he j (fun e=>by rw[e,hO _ _ h]at hj;cases hj))
 ·intro k' o' h g' hg';rcases DC h with ⟨rfl,rfl,o'',h''⟩|⟨hne,h⟩
  ·obtain⟨h1,h2⟩:=hg g' hg';rcases h1 with h1|h1
   ·obtain⟨h3,h4,_⟩:=S.oat _ _ h'' g' h1;exact⟨.inl h3,h4,h2⟩
   ·exact⟨.inr ⟨h1,h2⟩,fun hm=>by have:=S.mlt _ hm;omega,h2⟩
  ·rw[(he _ hne).1]at hg';obtain⟨h1,h2,h3⟩:=S.oat _ _ h g' hg';exact⟨.inl h1,h2,Adt h3 hs.size⟩
 ·intro k1 o1 k2 o2 h1 h2 hne g' hg1;rcases DC h1 with ⟨rfl,_,o1',h1'⟩|⟨hn1,h1'⟩<;>rcases DC h2 with ⟨rfl,_,o2',h2'⟩|⟨hn2,h2'⟩
  ·exact absurd rfl hne
  ·rw[(he _ hn2).1];intro hc;rcases(hg g' hg1).1 with h5|h5
   ·exact S.inj _ _ _ _ h1' h2' hne g' h5 hc
   ·have:=(S.oat _ _ h2' g' hc).2.2;omega
  ·rw[(he _ hn1).1]at hg1;intro hc;rcases(hg g' hc).1 with h5|h5
   ·exact S.inj _ _ _ _ h1' h2' hne g' hg1 h5
   ·have:=(S.oat _ _ h1' g' hg1).2.2;omega
  ·rw[(he _ hn1).1]at hg1;rw[(he _ hn2).1];exact S.inj _ _ _ _ h1' h2' hne g' hg1
 ·intro b hb';rcases hb' with h|h
  ·exact Adt (S.xlt b h) hs.size
  ·exact h.2
 ·intro s e h;obtain⟨h1,h2,h3⟩:=S.tmp s e h;exact⟨h1,fun ho'=>(h2 ho').reenv hl he hy (hT s e h),h3⟩
 ·intro d hd;obtain⟨D,e,h1,h2,h3,h4⟩:=S.dfr d hd;have hD:=S.xlt D h2;refine⟨D,e,(hs.block D hD (h4 _ _ hk)).trans h1,.inl h2,h3,?_⟩;intro k' o' h;rcases DC h with ⟨rfl,_,o'',h''⟩|⟨hne,h⟩
  ·intro hc;rcases(hg D hc).1 with h5|h5
   ·exact h4 _ _ h'' h5
   ·omega
  ·rw[(he _ hne).1];exact h4 _ _ h
end
end Go.SE
