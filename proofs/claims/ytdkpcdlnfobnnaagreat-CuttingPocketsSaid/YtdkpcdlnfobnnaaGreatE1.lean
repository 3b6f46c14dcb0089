/- Parts of the proof that the text of the row joins: a symbolic walk over the model. -/
import Derived.WalkKit
import Derived.CallsIn
import Derived.Below
import Derived.Laws.AppendOwn
import Derived.WalkSpells
import Derived.WalkLawsBesides
import Derived.Laws.StructEq
import Derived.MapKept
import Derived.TacticsIn
import Derived.Maps.AppendAt
import Derived.Laws.CopyRow
open List renaming getD_eq_getElem?_getD->AS,mem_filter->rK,getElem?_eq_getElem->Ahz,mem_map->Ah2,mem_cons->Ah4,range->Ah5,mem_singleton->Ah9,contains_iff_mem->AhA,all_eq_true->AhC,getElem?_append_left->AhP,getElem_of_mem->AhR,getElem?_append_right->AhT,getElem_mem->AhX,length_map->Aih,length_cons->Aim,getElem?_eq_some_iff->AiC,getElem?_toArray->AiG,eq_nil_of_length_eq_zero->AiS
open Array renaming getD_eq_getD_getElem?->LS,ext'->AhY
open Bool renaming and_eq_true->pR
open Nat renaming le_refl->Ah0,lt_of_lt_of_le->Ah3,mul_le_mul_right->AhI,zero_add->AhO,add_mul->Aia,le_trans->Aig
open Option renaming map_eq_some_iff->Ah8,getD_some->Aix
namespace Go.SE
open Go.RowKit
abbrev gdT:=Option (Nat×Bool×Bool)
inductive SV where
 |int (k:IntKind) (n:Int)
 |bool (b:Bool)
 |agg (cs:List SV)
 |tup (vs:List SV)
 |sl (sz n:Nat) (get:Nat->List SV)
 |ref (cs:List SV) (off:Nat)
 |clo (f:Nat) (caps:List SV)
 |raw (v:Value)
def SV.at (l:List SV) (i:Nat):SV:=l.getD i (.raw undef)
inductive Ax (M:Nat->Prop) (w:World):SV->Value->Prop
 |int (k n):Ax M w (.int k n) (.int k n)
 |bool (b):Ax M w (.bool b) (.bool b)
 |raw (v):Ax M w (.raw v) v
 |agg (cs:List SV) (vs:List Value) (hl:vs.length=cs.length) (h:∀i,i<cs.length->Ax M w (SV.at cs i) (vs.getD i undef)):Ax M w (.agg cs) (.agg vs.toArray)
 |tup (cs:List SV) (vs:List Value) (hl:vs.length=cs.length) (h:∀i,i<cs.length->Ax M w (SV.at cs i) (vs.getD i undef)):Ax M w (.tup cs) (.tuple vs.toArray)
 |clo (f:Nat) (cs:List SV) (vs:List Value) (hl:vs.length=cs.length) (h:∀i,i<cs.length->Ax M w (SV.at cs i) (vs.getD i undef)):Ax M w (.clo f cs) (.func (.func f) #[] vs.toArray)
 |ref (cs : List SV) (off:Nat) (vs : Nat->Value) (ad : Addr) (hM : M ad.block) (hc : ∀j, j<cs.length->w.cell? (ad.add j)= some (vs j))
  (ho:∀j,j<cs.length->(vs j).oneCell'=true) (hd:∀j,j<cs.length->Ax M w (SV.at cs j) (vs j)):Ax M w (.ref cs off) (.pointer (some (ad.add off)))
 |sl (sz n:Nat) (get : Nat->List SV) (A : Option Addr) (cap:Nat) (vs : Nat->Nat->Value) (hcap : n<=cap) (hm : n<=maxLen)
  (hA:0<n->∃ad,A=some ad/\M ad.block/\∀i,i<n->∀j,j<sz->w.cell? (ad.add (i*sz+j))=some (vs i j))
  (hg:∀i,i<n->(get i).length=sz) (ho:∀i,i<n->∀j,j<sz->(vs i j).oneCell'=true) (hd:∀i,i<n->∀j,j<sz->Ax M w (SV.at (get i) j) (vs i j)):Ax M w (.sl sz n get) (.slice A n cap)
theorem Sn {w w':World} {p:Addr} (h:w'.heap[p.block]? = w.heap[p.block]?):w'.cell? p=w.cell? p:=World.cell?_of_block (w:=w) h
theorem JO (a:Addr) (n:Nat):(a.add n).block=a.block:=by unfold Addr.add;split<;>rfl
theorem Hk (a:Addr) (m n:Nat):(a.add m).add n=a.add (m+n):=by
 unfold Addr.add;grind
theorem Ax.mono {M M':Nat->Prop} {w w':World} (hs:∀b,M b->w'.heap[b]? = w.heap[b]?) (hM:∀b,M b->M' b) {s:SV} {v:Value} (h:Ax M w s v):Ax M' w' s v:=by
 induction h with
 |int k n=>exact .int k n
 |bool b=>exact .bool b
 |raw v=>exact .raw v
 |agg cs vs hl _ ih=>exact .agg cs vs hl ih
 |tup cs vs hl _ ih=>exact .tup cs vs hl ih
 |clo f cs vs hl _ ih=>exact .clo f cs vs hl ih
 |ref cs off vs ad hb hc ho _ ih =>
   exact .ref cs off vs ad (hM _ hb) (fun j hj=>(Sn (by grind [JO])).trans (hc j hj)) ho ih
 |sl sz n get A cap vs hcap hm hA hg ho _ ih =>
   refine .sl sz n get A cap vs hcap hm (fun hn=>?_) hg ho ih;grind [Sn,JO]
theorem Ax.still {M':Nat->Prop} {w w':World} {s:SV} {v:Value} (h:Ax (fun _=>False) w s v):Ax M' w' s v:=h.mono (fun _ h=>h.elim) (fun _ h=>h.elim)
theorem Ax.weak {M M':Nat->Prop} {w:World} (hM:∀b,M b->M' b) {s:SV} {v:Value} (h:Ax M w s v):Ax M' w s v:=h.mono (fun _ _=>rfl) hM
structure BN where
 pre:List SV->Prop
 res:List SV->SV
inductive EV where
 |p (s:SV)
 |loc (b off:Nat)
 |row (r:Nat)
 |mapv (r:Nat)
 |rsub (r sz lo n:Nat)
 |rptr (r sz i off:Nat)
 |rpre (r n:Nat)
 |fptr (bs:List Nat) (i:Nat)
 |cl (f:Nat) (caps:List EV)
 |ag (q:Bool) (cs:List EV)
 |fn (sp:BN)
 |yield (l:Nat)
 |any
 |full (q:Bool) (sz n:Nat) (get:Nat->List SV)
 |rrow (k i b n c:Nat)
 |rrptr (k i j b:Nat)
structure Ar where
 at_:Nat->Option Nat
 rv:Nat->Value
 yl:Nat
def By (M:Nat->Prop) (w:World) (cs:List SV) (vs:List Value):Prop:=vs.length=cs.length/\∀i,i<cs.length->Ax M w (SV.at cs i) (vs.getD i undef)
def Be (M M':Nat->Prop) (w w':World):Prop:=w.heap.size<=w'.heap.size/\(∀b,M b->w'.heap[b]? = w.heap[b]?)/\∀b,M b->M' b
theorem Be.refl (M:Nat->Prop) (w:World):Be M M w w:=⟨Ah0 _,fun _ _=>rfl,fun _ h=>h⟩
theorem Be.trans {M M' M'':Nat->Prop} {w w' w'':World} (h:Be M M' w w') (k:Be M' M'' w' w''):Be M M'' w w'' :=
 ⟨Aig h.1 k.1,fun b hb=>(k.2.1 b (h.2.2 b hb)).trans (h.2.1 b hb),fun b hb=>k.2.2 b (h.2.2 b hb)⟩
theorem Ax.later {M M':Nat->Prop} {w w':World} (h:Be M M' w w') {s:SV} {v:Value} (hd:Ax M w s v):Ax M' w' s v:=hd.mono h.2.1 h.2.2
theorem By.later {M M':Nat->Prop} {w w':World} (h:Be M M' w w') {cs:List SV} {vs:List Value} (hd:By M w cs vs):By M' w' cs vs:=⟨hd.1,fun i hi=>(hd.2 i hi).later h⟩
structure Bl (B:Nat) (w w':World):Prop where
 os:w'.os=w.os
 tape:w'.tape=w.tape
 output:w'.output=w.output
 drawn:w.drawn<=w'.drawn
 size:w.heap.size<=w'.heap.size
 block:∀k,k<B->w'.heap[k]? = w.heap[k]?
theorem Bl.refl (B:Nat) (w:World):Bl B w w:=⟨rfl,rfl,rfl,Ah0 _,Ah0 _,fun _ _=>rfl⟩
theorem Bl.trans {B:Nat} {a b c:World} (h:Bl B a b) (k:Bl B b c):Bl B a c :=
 ⟨k.os.trans h.os,k.tape.trans h.tape,k.output.trans h.output,Aig h.drawn k.drawn,Aig h.size k.size,fun i hi=>(k.block i hi).trans (h.block i hi)⟩
theorem Bl.bel {B:Nat} {w w':World} (h:Bl B w w'):Below B w w':=⟨h.os,h.tape,h.output,h.size,h.block⟩
def Ig (M:Nat->Prop) (w:World) (r:SV) (e:Ending) (w':World):Prop :=
 ∃v M',e=.returned v/\Bl w.heap.size w w'/\(∀b,M b->M' b)/\(∀b,M' b->M b\/w.heap.size<=b)/\(∀b,M' b->b<w'.heap.size)/\Ax M' w' r v
def An (P:Program) (f:Nat):Prop:=∀args w,(callFunc f args).run P w=.ok (.enter f args) w
def JP (P:Program) (M:Nat->Prop) (w:World) (sp:BN) (v:Value):Prop :=
 ∃f first caps,v=.func (.func f) first caps/\An P f/\∀(M':Nat->Prop) (w':World),Be M M' w w'->(∀b,M' b->b<w'.heap.size)->∀args vals,By M' w' args vals->sp.pre args ->
   CallsIn Fence.wide 0 P f (first++vals.toArray++caps) w' (Ig M' w' (sp.res args))
theorem JP.later {P:Program} {M M':Nat->Prop} {w w':World} {sp:BN} {v:Value} (h:JP P M w sp v) (hl:Be M M' w w'):JP P M' w' sp v:=by
 obtain⟨f,first,caps,e,hn,hc⟩:=h;exact⟨f,first,caps,e,hn,fun M'' w'' hl' hlt args vals hd hp=>hc M'' w'' (hl.trans hl') hlt args vals hd hp⟩
def EV.at (l:List EV) (i:Nat):EV:=l.getD i (.p (.raw undef))
inductive Ap (P:Program) (M:Nat->Prop) (w:World) (env:Ar):EV->Value->Prop
 |p {s v} (h:Ax M w s v):Ap P M w env (.p s) v
 |loc {b off g} (h:env.at_ b=some g):Ap P M w env (.loc b off) (.pointer (some ⟨g,off,none⟩))
 |row {r A n c} (h:env.rv r=.slice A n c):Ap P M w env (.row r) (.slice A n c)
 |mapv {r g} (h:env.at_ r=some g):Ap P M w env (.mapv r) (.map (some g))
 |rsub {r sz lo n:Nat} (A:Option Addr) (cap:Nat) (hc:n<=cap) (hm:n<=maxLen) (hA:0<n->∃g,env.at_ r=some g/\A=some ⟨g,lo*sz,none⟩):Ap P M w env (.rsub r sz lo n) (.slice A n cap)
 |rptr {r sz i off g} (h:env.at_ r=some g):Ap P M w env (.rptr r sz i off) (.pointer (some ⟨g,i*sz+off,none⟩))
 |rpre {r n N cap:Nat} {g} (h:env.rv r=.slice (some ⟨g,0,none⟩) N cap) (hn:n<=N):Ap P M w env (.rpre r n) (.slice (some ⟨g,0,none⟩) n cap)
 |fptr {bs i v} (hi:2*i<bs.length) (h:v=.pointer ((env.at_ (bs.getD (2*i) 0)).map fun a=>⟨a,0,none⟩)):Ap P M w env (.fptr bs i) v
 |cl (f:Nat) (cs:List EV) (vs:List Value) (hl:vs.length=cs.length) (h:∀i,i<cs.length->Ap P M w env (EV.at cs i) (vs.getD i undef)):Ap P M w env (.cl f cs) (.func (.func f) #[] vs.toArray)
 |ag (q:Bool) (cs:List EV) (vs:List Value) (hl:vs.length=cs.length) (h:∀i,i<cs.length->Ap P M w env (EV.at cs i) (vs.getD i undef)):Ap P M w env (.ag q cs) (bif q then .tuple vs.toArray else .agg vs.toArray)
 |fn {sp v} (h:JP P M w sp v):Ap P M w env (.fn sp) v
 |yield {l}:Ap P M w env (.yield l) (.func (.yield l) #[] #[])
 |any {v}:Ap P M w env .any v
 |rrow {k i b n c:Nat}:Ap P M w env (.rrow k i b n c) (.slice (some ⟨b,0,none⟩) n c)
 |rrptr {k i j b:Nat}:Ap P M w env (.rrptr k i j b) (.pointer (some ⟨b,j,none⟩))
 |full {q sz n get A c} (h:Ax M w (.sl sz n get) (.slice A n c)) (hq:(q=true->c=n)/\(q=false->n=0->A=none/\c=0)):Ap P M w env (.full q sz n get) (.slice A n c)
def EV.names (k:Nat):EV->Bool
 | .loc b _=>b == k
 | .row r | .rsub r _ _ _ | .rptr r _ _ _ | .mapv r | .rpre r _=>r == k
 | .fptr bs _=>bs.contains k
 | .cl _ cs=>namesL k cs
 | .ag _ cs=>namesL k cs
 |_=>false
where namesL (k:Nat):List EV->Bool
 |[]=>false
 |e::l=>e.names k||namesL k l
theorem MJ {k:Nat}:∀{l:List EV},EV.names.namesL k l=false->∀i,i<l.length->(EV.at l i).names k=false
 |[],_,i,hi=>by simp at hi
 |e::l,h,i,hi=>by
   simp only[EV.names.namesL,Bool.or_eq_false_iff]at h;cases i with
   |zero=>simpa[EV.at]using h.1
   |succ i=>simpa[EV.at]using MJ h.2 i (by grind)
theorem Lf {bs:List Nat} {j:Nat} (h:j<bs.length):bs.getD j 0∈bs:=by
 grind
theorem Ap.go {P:Program} {M M':Nat->Prop} {w w':World} {env env':Ar} (hl:Be M M' w w')
  {e:EV} {v:Value} (h:Ap P M w env e v) (he:∀k,e.names k=true->env'.at_ k=env.at_ k/\env'.rv k=env.rv k):Ap P M' w' env' e v:=by
 induction h with
 |p h=>exact .p (h.later hl)
 |@loc b off g h=>exact .loc (by rw[(he b (by simp[EV.names])).1];exact h)
 |@mapv r g h=>exact .mapv (by rw[(he r (by simp[EV.names])).1];exact h)
 |@row r A n c h=>exact .row (by rw[(he r (by simp[EV.names])).2];exact h)
 |@rsub r sz lo n A cap hc hm hA=>exact .rsub A cap hc hm (fun hn=>by obtain⟨g,hg,e⟩:=hA hn;exact⟨g,by rw[(he r (by simp[EV.names])).1];exact hg,e⟩)
 |@rptr r sz i off g h=>exact .rptr (by rw[(he r (by simp[EV.names])).1];exact h)
 |@rpre r n N cap g h hn=>exact .rpre (by rw[(he r (by simp[EV.names])).2];exact h) hn
 |@fptr bs i v hi h=>exact .fptr hi (by rw[(he _ (by unfold EV.names;rw[AhA];exact Lf hi)).1];exact h)
 |cl f cs vs hlen _ ih =>
   refine .cl f cs vs hlen (fun i hi=>ih i hi (fun k hk=>he k ?_));simp only[EV.names];cases hx:EV.names.namesL k cs with
   |true=>rfl
   |false=>rw[MJ hx i hi]at hk;cases hk
 |ag q cs vs hlen _ ih =>
   refine .ag q cs vs hlen (fun i hi=>ih i hi (fun k hk=>he k ?_));simp only[EV.names];cases hx:EV.names.namesL k cs with
   |true=>rfl
   |false=>rw[MJ hx i hi]at hk;cases hk
 |fn h=>exact .fn (h.later hl)
 |yield=>exact .yield
 |any=>exact .any
 |rrow=>exact .rrow
 |rrptr=>exact .rrptr
 |full h hq=>exact .full (h.later hl) hq
theorem Ap.mono {P:Program} {M M':Nat->Prop} {w w':World} {env env':Ar} (hl:Be M M' w w')
 {e:EV} {v:Value} (h:Ap P M w env e v) (he:∀k,e.names k=true->env'.at_ k=env.at_ k/\env'.rv k=env.rv k) (_hy:env'.yl=env.yl):Ap P M' w' env' e v:=h.go hl he
theorem Ap.later {P:Program} {M M':Nat->Prop} {w w':World} {env:Ar} (hl:Be M M' w w') {e:EV} {v:Value} (h:Ap P M w env e v):Ap P M' w' env e v :=
 h.mono hl (by grind) rfl
def D6:SV->Bool
 | .int .. | .bool _ | .raw _=>true
 | .agg l | .tup l=>noMems l
 |_=>false
where noMems:List SV->Bool
 |[]=>true
 |s::l=>D6 s&&noMems l
inductive Ah where
 |blk (t:TypeId) (cs:List EV)
 |row (e:TypeId) (sz n:Nat) (get:Nat->List SV)
 |mp (kt:TypeId) (n:Nat) (get:Nat->List SV)
 |mq (kt vt:TypeId) (dom:Int->Bool) (val:Int->SV)
 |oblk (b:Bool) (t:TypeId) (cs:List EV)
 |omq (b:Bool) (kt vt:TypeId) (val:Int->SV)
 |ms (kt vt:TypeId) (ok:Int->Int->Prop)
 |prow (e:TypeId) (n:Nat) (bs:List Nat)
 |rr (e e2:TypeId) (sz n:Nat) (bl cp len:Nat->Nat) (get:Nat->Nat->List SV)
structure AK where
 g:gdT
 v:EV
def AK.ok (e:AK):Prop:=match e.g with|none=>True|some (_,_,b)=>b=true
structure St where
 T:List (Nat×AK)
 own:List (Nat×Ah)
 yk:Nat
 stop:Bool
 nt:Nat
def GG (l:List (Nat×AK)) (t:Nat):Option AK:=match l with
 |[]=>none
 |(s,e)::l=>if s == t then some e else GG l t
def BL (l:List (Nat×Ah)) (t:Nat):Option Ah:=match l with
 |[]=>none
 |(s,e)::l=>if s == t then some e else BL l t
theorem HE {l:List (Nat×AK)} {t:Nat} {e:AK} (h:GG l t=some e):(t,e)∈l:=by
 induction l with
 |nil=>simp[GG]at h
 |cons x l ih =>
   obtain⟨s,e'⟩:=x;simp only[GG]at h;grind
theorem Bp {l:List (Nat×Ah)} {t:Nat} {e:Ah} (h:BL l t=some e):(t,e)∈l:=by
 induction l with
 |nil=>simp[BL]at h
 |cons x l ih =>
   obtain⟨s,e'⟩:=x;simp only[BL]at h;grind
structure Bw where
 g:Nat->(Nat->Prop)->World->Prop
 m0:Nat->Prop
 pin:Nat->Prop:=fun _=>False
 pe:Ar:={ at_:=fun _=>none,rv:=fun _=>undef,yl:=0 }
structure Same (X:Nat->Prop) (w w':World):Prop where
 os:w'.os=w.os
 tape:w'.tape=w.tape
 output:w'.output=w.output
 drawn:w.drawn<=w'.drawn
 size:w.heap.size<=w'.heap.size
 block:∀b,b<w.heap.size->¬ X b->w'.heap[b]? = w.heap[b]?
def Br (G:Bw):Prop:=∀k X w X' w',G.g k X w->Same X w w'->(∀b,X b->X' b)->(∀b,X' b->X b\/w.heap.size<=b)->G.g k X' w'
abbrev Gr (M:Nat->Prop) (w:World) (env:Ar) (k:Nat) (dom:Int->Bool) (val:Int->SV):Prop :=
 ∃g es clock,env.at_ k=some g/\w.heap[g]? = some (.map es clock)/\(∀key,dom key=true->∃i,i<es.size/\(es.getD i default).key=.int .i64 key)/\∀i,i<es.size->∃key,(es.getD i default).key=.int .i64 key/\dom key=true/\Ax M w (val key) (es.getD i default).val
abbrev EH (P:Program) (M:Nat->Prop) (w:World) (env:Ar) (k:Nat) (t:TypeId) (cs:List EV):Prop :=
 ∃g vs,env.at_ k=some g/\w.heap[g]? = some (.cells vs t (0,0))/\vs.size=cs.length/\∀i,i<cs.length->(vs.getD i undef).oneCell'=true/\Ap P M w env (EV.at cs i) (vs.getD i undef)
abbrev oK (w:World) (env:Ar) (k:Nat) (ok:Int->Int->Prop):Prop :=
 ∃g es clock,env.at_ k=some g/\w.heap[g]? = some (.map es clock)/\∀i,i<es.size->∃a b,(es.getD i default).key=.agg #[.int .i64 a,.int .i64 b]/\ok a b/\(es.getD i default).val=.bool true
structure MK (M:Nat->Prop) (w:World) (e2:TypeId) (sz b cp len:Nat) (get:Nat->List SV) (v:Value):Prop where
 v:v=.slice (some ⟨b,0,none⟩) len cp
 le:len<=cp/\cp<=maxLen
 gl:∀j,j<len->(get j).length=sz
 c:∃cur,w.heap[b]? = some (.cells cur e2 (0,0))/\cur.size=cp*sz/\∀j,j<len->∀u,u<sz->(cur.getD (j*sz+u) undef).oneCell'=true/\Ax M w (SV.at (get j) u) (cur.getD (j*sz+u) undef)
theorem MK.move {M M':Nat->Prop} {w w':World} {e2:TypeId} {sz b cp len:Nat} {get:Nat->List SV} {v:Value} (h:MK M w e2 sz b cp len get v) (hl:Be M M' w w') (hb:w'.heap[b]? = w.heap[b]?):MK M' w' e2 sz b cp len get v:=by
 obtain⟨h1,h2,h3,cur,h4,h5,h6⟩:=h;exact⟨h1,h2,h3,cur,hb.trans h4,h5,fun j hj u hu=>⟨(h6 j hj u hu).1,(h6 j hj u hu).2.later hl⟩⟩
def B8 (P:Program) (M:Nat->Prop) (w:World) (env:Ar) (k:Nat):Ah->Prop
 | .rr e e2 sz n bl cp len get =>n<=maxLen/\(∀i j, i<n->j<n->bl i = bl j->i = j)/\(∀i, i<n->env.at_ k≠some (bl i))/\((env.at_ k = none/\env.rv k = .slice none 0 0/\n = 0) \/
  ∃g cap cur,env.at_ k=some g/\env.rv k=.slice (some ⟨g,0,none⟩) n cap/\w.heap[g]? = some (.cells cur e (0,0))/\n<=cap/\cap<=maxLen/\cur.size=cap /\
    ∀i,i<n->MK M w e2 sz (bl i) (cp i) (len i) (get i) (cur.getD i undef))
 | .oblk b t cs=>(b=true->EH P M w env k t cs)/\(b=false->env.at_ k=none)
 | .omq b _ _ val=>(b=true->∃dom,Gr M w env k dom val)/\(b=false->env.at_ k=none)
 | .prow e n bs =>n<=maxLen/\2*n<=bs.length/\∃g cap cur, env.at_ k = some g/\env.rv k = .slice (some ⟨g, 0, none⟩) n cap/\w.heap[g]? = some (.cells cur e (0, 0))/\n<=cap/\cap<=maxLen/\cur.size = cap /\
  ∀i,i<n->cur.getD i undef=.pointer ((env.at_ (bs.getD (2*i) 0)).map fun a=>⟨a,0,none⟩)
 | .mp _ n get=>∃g es clock,env.at_ k=some g/\w.heap[g]? = some (.map es clock)/\es.size=n/\∀i,i<n->D6.noMems (get i)=true/\Ax (fun _=>False) w (.agg (get i)) (es.getD i default).key
 | .mq _ _ dom val=>Gr M w env k dom val
 | .ms _ _ ok=>oK w env k ok
 | .blk t cs=>EH P M w env k t cs
 | .row e sz n get =>n<=maxLen/\(∀i, i<n->(get i).length = sz)/\((env.at_ k = none/\env.rv k = .slice none 0 0/\n = 0) \/
  ∃g cap cur,env.at_ k=some g/\env.rv k=.slice (some ⟨g,0,none⟩) n cap/\w.heap[g]? = some (.cells cur e (0,0))/\n<=cap/\cap<=maxLen/\cur.size=cap*sz /\
    ∀i,i<n->∀j,j<sz->(cur.getD (i*sz+j) undef).oneCell'=true/\Ax M w (SV.at (get i) j) (cur.getD (i*sz+j) undef))
def Ah.names (k:Nat):Ah->Bool
 | .blk _ cs=>EV.names.namesL k cs
 | .row ..=>false
 | .mp ..=>false
 | .mq ..=>false
 | .oblk _ _ cs=>EV.names.namesL k cs
 | .omq ..=>false
 | .ms ..=>false
 | .prow _ _ bs=>bs.contains k
 | .rr ..=>false
def Ah.sub:Ah->Nat->Prop
 | .rr _ _ _ n bl _ _ _,g=>∃i,i<n/\bl i=g
 |_,_=>False
def Ah.has (env:Ar) (k:Nat) (o:Ah) (g:Nat):Prop:=env.at_ k=some g\/o.sub g
theorem B8.move {P:Program} {M M':Nat->Prop} {w w':World} {env env':Ar} {k:Nat} {o:Ah} (h:B8 P M w env k o) (hl:Be M M' w w') (ha:env'.at_ k=env.at_ k) (hr:env'.rv k=env.rv k)
  (hb0:∀g,o.has env k g->w'.heap[g]? = w.heap[g]?) (he:∀j,o.names j=true->env'.at_ j=env.at_ j/\env'.rv j=env.rv j):B8 P M' w' env' k o:=by
 have hb:∀g,env.at_ k=some g->w'.heap[g]? = w.heap[g]?:=fun g hg=>hb0 g (.inl hg);have mq:∀{dom val},Gr M w env k dom val->Gr M' w' env' k dom val:=fun {dom val} ⟨g,es,clock,h1,hh,hz,hd⟩=>
  ⟨g,es,clock,ha.trans h1,(hb g h1).trans hh,hz,fun i hi=>by obtain⟨key,q1,q2,q3⟩:=hd i hi;exact⟨key,q1,q2,q3.later hl⟩⟩
 have blk:∀{t cs},(∀j,EV.names.namesL j cs=true->env'.at_ j=env.at_ j/\env'.rv j=env.rv j)->EH P M w env k t cs->EH P M' w' env' k t cs:=fun {t cs} hn ⟨g,vs,h1,hh,hz,hd⟩=>
  ⟨g,vs,ha.trans h1,(hb g h1).trans hh,hz,fun i hi=>⟨(hd i hi).1,(hd i hi).2.go hl (fun j hj=>hn j (by
   cases hx:EV.names.namesL j cs with
   |true=>rfl
   |false=>rw[MJ hx i hi]at hj;cases hj))⟩⟩
 cases o with
 |mp kt n get =>
   obtain⟨g,es,clock,h1,hh,hz,hd⟩:=h;exact⟨g,es,clock,ha.trans h1,(hb g h1).trans hh,hz,fun i hi=>⟨(hd i hi).1,(hd i hi).2.still⟩⟩
 |mq kt vt dom val=>exact mq h
 |ms kt vt ok =>
   obtain⟨g,es,clock,h1,hh,hd⟩:=h;exact⟨g,es,clock,ha.trans h1,(hb g h1).trans hh,hd⟩
 |omq b kt vt val=>exact⟨fun e=>by obtain⟨dom,h1⟩:=h.1 e;exact⟨dom,mq h1⟩,fun e=>ha.trans (h.2 e)⟩
 |blk t cs=>exact blk he h
 |oblk b t cs=>exact⟨fun e=>blk he (h.1 e),fun e=>ha.trans (h.2 e)⟩
 |rr e e2 sz n bl cp len get =>
   obtain⟨h1,h2,h3,h4⟩:=h;refine⟨h1,h2,fun i hi=>by rw[ha];exact h3 i hi,?_⟩;rw[ha,hr];rcases h4 with h4|⟨g,cap,cur,q1,q2,hh,q3,q4,q5,q6⟩
   ·exact .inl h4
   ·exact .inr ⟨g,cap,cur,q1,q2,(hb g q1).trans hh,q3,q4,q5,fun i hi=>(q6 i hi).move hl (hb0 _ (.inr ⟨i,hi,rfl⟩))⟩
 |prow e n bs =>
   obtain⟨hm,hn,g,cap,cur,h1,h2,hh,h3,h4,h5,h6⟩:=h;exact⟨hm,hn,g,cap,cur,ha.trans h1,hr.trans h2,(hb g h1).trans hh,h3,h4,h5,fun i hi=>by
    rw[(he (bs.getD (2*i) 0) (by unfold Ah.names;rw[AhA];exact Lf (by omega))).1];exact h6 i hi⟩
 |row e sz n get =>
   obtain⟨hm,hgl,h1⟩:=h;refine⟨hm,hgl,?_⟩;rw[ha,hr];rcases h1 with h1|⟨g,cap,cur,h1,h2,hh,h3,h4,h5,h6⟩
   ·exact .inl h1
   ·exact .inr ⟨g,cap,cur,h1,h2,(hb g h1).trans hh,h3,h4,h5,fun i hi j hj=>⟨(h6 i hi j hj).1,(h6 i hi j hj).2.later hl⟩⟩
theorem Ah.has_env {env env':Ar} {k:Nat} {o:Ah} {g:Nat} (h:env'.at_ k=env.at_ k):o.has env' k g=o.has env k g:=by unfold Ah.has;rw[h]
def Ih (G:Bw) (env:Ar) (nt:Nat):Prop:=∀k,G.pin k->nt<=k/\env.at_ k=G.pe.at_ k/\env.rv k=G.pe.rv k
structure Al (P:Program) (G:Bw) (st:St) (a:Act) (w:World) (env:Ar) (M X:Nat->Prop):Prop where
 gam:G.g st.yk X w/\Ih G env st.nt
 mx:∀b,M b->G.m0 b\/X b
 own:∀k o,(k,o)∈st.own->B8 P M w env k o
 oat:∀k o,(k,o)∈st.own->∀g,o.has env k g->X g/\¬ M g/\g<w.heap.size
 inj:∀k o k' o',(k,o)∈st.own->(k',o')∈st.own->k≠k'->∀g,o.has env k g->¬ o'.has env k' g
 nod:(st.own.map (·.1)).Nodup
 mlt:∀b,M b->b<w.heap.size
 xlt:∀b,X b->b<w.heap.size
 siz:a.tmps.size=st.nt
 tmp:∀s e,(s,e)∈st.T->s<st.nt/\(e.ok->Ap P M w env e.v (a.eval (.tmp s)))/\(¬ e.ok->a.eval (.tmp s)=undef)
 grd:∀s e,(s,e)∈st.T->∀q c v,e.g=some (q,c,v)->(v=true↔a.eval (.tmp q)=.bool c)
 dfr:∀d,d∈a.defers->∃D,d = { target:=.collected D,args:=#[] }/\w.heap[D]? = some (.deferred (some []))/\X D/\¬ M D/\∀k o,(k,o)∈st.own->¬ o.has env k D
 dno:a.defers.Nodup
def AO (P:Program) (G:Bw) (st:St) (a:Act) (w:World):Prop:=∃env M X,Al P G st a w env M X
theorem Al.step {P:Program} {G:Bw} {st:St} {a:Act} {w w':World} {env:Ar} {M X M' X':Nat->Prop} (hG:Br G) (h:Al P G st a w env M X)
  (hs:Same (fun _=>False) w w') (hM:∀b,M b->M' b) (hM':∀b,M' b->M b\/w.heap.size<=b) (hMl:∀b,M' b->b<w'.heap.size) (hMX:∀b,M' b->M b\/X' b)
  (hX:∀b,X b->X' b) (hX':∀b,X' b->X b\/w.heap.size<=b) (hXl:∀b,X' b->b<w'.heap.size):Al P G st a w' env M' X':=by
 have hl:Be M M' w w':=⟨hs.size,fun b hb=>hs.block b (h.mlt b hb) (fun f=>f),hM⟩;have hb:∀g,g<w.heap.size->w'.heap[g]? = w.heap[g]?:=fun g hg=>hs.block g hg (fun f=>f);refine⟨⟨hG _ _ _ _ _ h.gam.1 ⟨hs.os,hs.tape,hs.output,hs.drawn,hs.size,(by grind)⟩ hX hX',h.gam.2⟩,fun b hb=>by rcases hMX b hb with hb|hb;exact(h.mx b hb).imp id (hX b);exact .inr hb,?_,?_,h.inj,h.nod,hMl,hXl,h.siz,?_,h.grd,?_,h.dno⟩
 ·intro k o ho;exact(h.own k o ho).move hl rfl rfl (fun g hg=>hb g (h.oat k o ho g hg).2.2) (by grind)
 ·intro k o ho g hg;obtain⟨h1,h2,h3⟩:=h.oat k o ho g hg;grind
 ·intro s e hse;exact⟨(h.tmp s e hse).1,fun he=>((h.tmp s e hse).2.1 he).later hl,(h.tmp s e hse).2.2⟩
 ·intro d hd;obtain⟨D,e,h1,h2,h3,h4⟩:=h.dfr d hd;grind
theorem Al.sub {P:Program} {G:Bw} {st st':St} {a:Act} {w:World} {env:Ar} {M X:Nat->Prop} (h:Al P G st a w env M X)
  (hT:∀x,x∈st'.T->x∈st.T) (hO:∀x,x∈st'.own->x∈st.own) (hn:(st'.own.map (·.1)).Nodup) (hy:st'.yk=st.yk) (ht:st'.nt=st.nt):Al P G st' a w env M X :=
 ⟨by rw[hy,ht];exact h.gam,h.mx,fun k o ho=>h.own k o (hO _ ho),fun k o ho=>h.oat k o (hO _ ho),fun k o k' o' ho ho'=>h.inj k o k' o' (hO _ ho) (hO _ ho'),hn,h.mlt,h.xlt,
  by rw[ht];exact h.siz,fun s e hs=>by rw[ht];exact h.tmp s e (hT _ hs),fun s e hs=>h.grd s e (hT _ hs),fun d hd=>by obtain⟨D,e,h1,h2,h3,h4⟩:=h.dfr d hd;grind,h.dno⟩
def AK.by (e:AK) (d:Nat):Bool:=match e.g with|some (q,_,_)=>q == d|none=>false
def St.put (st:St) (d:Option Nat) (e:AK):St:=match d with
 |none=>st
 |some d=>{ st with T:=(d,e)::st.T.filter (fun x=>!(x.1 == d) && !(x.2.by d)) }
theorem So {a:Act} {d:Nat} {v:Value} (h:d<a.tmps.size):(a.put (some d) v).eval (.tmp d)=v:=by
 simp[Act.put,Act.eval,h]
theorem ML {a:Act} {d s:Nat} {v:Value} (h:s≠d):(a.put (some d) v).eval (.tmp s)=a.eval (.tmp s):=by
 simp only[Act.put,Act.eval,LS,Array.getElem?_setIfInBounds];grind
theorem oL {a:Act} {d:Option Nat} {v:Value}:(a.put d v).tmps.size=a.tmps.size:=by cases d<;>simp[Act.put]
theorem Sp {a:Act} {d:Option Nat} {v:Value}:(a.put d v).defers=a.defers:=by cases d<;>simp[Act.put]
theorem Al.put {P:Program} {G:Bw} {st:St} {a:Act} {w:World} {env:Ar} {M X:Nat->Prop} (h:Al P G st a w env M X) {d:Option Nat} {e:AK} {v:Value}
  (hd:∀t,d=some t->t<st.nt) (he:e.ok->Ap P M w env e.v v) (hu:¬ e.ok->v=undef)
  (hg:∀q c x,e.g=some (q,c,x)->d≠some q/\(x=true↔a.eval (.tmp q)=.bool c)):Al P G (st.put d e) (a.put d v) w env M X:=by
 cases d with
 |none=>exact h
 |some t =>
   refine⟨h.gam,h.mx,h.own,h.oat,h.inj,h.nod,h.mlt,h.xlt,oL.trans h.siz,?_,?_,by rw[Sp];exact h.dfr,by rw[Sp];exact h.dno⟩
   ·intro s e' hs;simp only[St.put,Ah4,rK,Prod.mk.injEq]at hs;rcases hs with ⟨rfl,rfl⟩|⟨hs,hne⟩
    ·have hlt:=hd _ rfl;refine⟨hlt,fun ho=>?_,fun ho=>?_⟩
     ·rw[So (by rw[h.siz];exact hlt)];exact he ho
     ·rw[So (by rw[h.siz];exact hlt)];exact hu ho
    ·have hne':s≠t:=by grind
     obtain⟨h1,h2,h3⟩:=h.tmp s e' hs;exact⟨h1,fun ho=>by grind [ML],fun ho=>by grind [ML]⟩
   ·intro s e' hs q c x hq;simp only[St.put,Ah4,rK,Prod.mk.injEq]at hs;rcases hs with ⟨rfl,rfl⟩|⟨hs,hne⟩
    ·grind [ML]
    ·have hqt:q≠t:=by simp[AK.by,hq]at hne;exact hne.2
     rw[ML hqt];exact h.grd s e' hs q c x hq
structure Ty where
 desc:TypeDesc
 zero:Value
 size:Nat
 bytes:Nat
def Bg (P:Program) (t:TypeId):Option Ty:=match P.info? t,P.underlying t with
 |some i,some d=>match i.zero with|some z=>some ⟨d,z,i.size,i.bytes⟩|none=>none
 |_,_=>none
theorem CV {P:Program} {t:TypeId} {y:Ty} (h:Bg P t=some y) :
  ∃i,P.info? t=some i/\i.zero=some y.zero/\i.size=y.size/\i.bytes=y.bytes/\P.underlying t=some y.desc:=by
 unfold Bg at h;grind
def Eb:TypeDesc->Bool
 | .struct _ | .array _ _=>true
 |_=>false
theorem Lg {P:Program} {t:TypeId} {d:TypeDesc} (h:P.underlying t=some d) (w:World):(isAgg t).run P w=.ok (Eb d) w:=by
 cases d<;>simp[isAgg,run_underlying h,Eb]
theorem EY {P:Program} {t:TypeId} {i:TypeInfo} (h:P.info? t=some i) (w:World):(sizeOf t).run P w=.ok i.size w:=by
 simp[sizeOf,typeInfo,h]
def Ab (k:IntKind) (n:Int):Prop:=match k with
 | .i64=>-9223372036854775808<=n/\n<=9223372036854775807
 |k=>k.wrap n=n
theorem Ab.wrap {k:IntKind} {n:Int} (h:Ab k n):k.wrap n=n:=by
 cases k<;>first|exact h|exact IntWalk.i64_in n h
abbrev Ii:=Option (List Prop×EV)
def all (ps:List Prop):Prop:=∀p,p∈ps->p
theorem Lh:all []:=fun p h=>by cases h
def Fm (y:Ty) (cs:List SV) (off:Nat):Option SV :=
 if Eb y.desc then(if off+y.size<=cs.length then some (.agg ((cs.drop off).take y.size))else none)else cs[off]?
def Li (P:Program) (eq:TypeId->SV->SV->Option Bool):List Field->List SV->List SV->Option Bool
 |[],_,_=>some true
 | f :: l,xs,ys=>if f.name = "_" then none else match Bg P f.type with
   |none=>none
   |some y=>match Fm y xs f.offset,Fm y ys f.offset with
     |some a,some b=>match eq f.type a b with
       |none=>none
       |some e=>match Li P eq l xs ys with
         |none=>none
         |some r=>some (match l with|[]=>e|_::_=>e&&r)
     |_,_=>none
def Ja (P:Program):Nat->TypeId->SV->SV->Option Bool
 |0,_,_,_=>none
 |d+1,t,x,y=>match P.underlying t,x,y with
   |some .bool,.bool a,.bool b=>some (a == b)
   |some (.int _),.int k a,.int k' b=>if k=k' then some (decide (a=b))else none
   |some (.struct fs),.agg xs,.agg ys=>if P.stoodInHeld t then none else Li P (Ja P d) fs.toList xs ys
   |_,_,_=>none
def EI (a b:Int):Int:=IntKind.i64.wrap ((BitVec.ofInt 64 a &&& BitVec.ofInt 64 b).toNat:Int)
def Gs (a b:Int):Int:=IntKind.i64.wrap ((BitVec.ofInt 64 a ||| BitVec.ofInt 64 b).toNat:Int)
def DG (a b:Int):Int:=IntKind.i64.wrap ((BitVec.ofInt 64 a &&& ~~~BitVec.ofInt 64 b).toNat:Int)
def D7 (a b:Int):Int:=a*2 ^ min b.toNat 64
def Gt (a b:Int):Int:=a.fdiv (2 ^ min b.toNat 64)
def OM (P:Program) (op:BinOp) (t:TypeId) (x y:SV):Option (List Prop×SV):=match x,y with
 | .int k a, .int k' b =>if k = k' then match op with
   | .add=>some ([Ab k (a+b)],.int k (a+b))
   | .sub=>some ([Ab k (a-b)],.int k (a-b))
   | .mul=>some ([Ab k (a*b)],.int k (a*b))
   | .quo=>some ([b≠0,Ab k (a.tdiv b)],.int k (a.tdiv b))
   | .rem=>some ([b≠0],.int k (a.tmod b))
   | .lss=>some ([],.bool (decide (a<b)))
   | .leq=>some ([],.bool (decide (a<=b)))
   | .gtr=>some ([],.bool (decide (b<a)))
   | .geq=>some ([],.bool (decide (b<=a)))
   | .eql=>some ([],.bool (decide (a=b)))
   | .neq=>some ([],.bool (!decide (a=b)))
   | .and=>if k=.i64 then some ([],.int k (EI a b))else none
   | .or=>if k=.i64 then some ([],.int k (Gs a b))else none
   | .andNot=>if k=.i64 then some ([],.int k (DG a b))else none
   | .shl=>if k=.i64 then some ([0<=b,Ab k (D7 a b)],.int k (D7 a b))else none
   | .shr=>if k=.i64 then some ([0<=b],.int k (Gt a b))else none
   |_=>none
  else none
 | .bool a, .bool b =>match P.underlying t, op with
  |some .bool,.eql=>some ([],.bool (a == b))
  |some .bool,.neq=>some ([],.bool (!(a == b)))
  |_,_=>none
 | .agg xs, .agg ys =>if P.eqGuardType P.depth t then none else match op with
  | .eql=>(Ja P 9 t (.agg xs) (.agg ys)).map fun b=>([],.bool b)
  | .neq=>(Ja P 9 t (.agg xs) (.agg ys)).map fun b=>([],.bool (!b))
  |_=>none
 |_,_=>none
def Dc:List EV->Option (List SV)
 |[]=>some []
 | .p s::l=>(Dc l).map (s :: ·)
 |_::_=>none
def ON (l:List Int) (j:Nat):Int:=l.getD j 0
def Lj (k:IntKind):List SV->Option (List Int)
 |[]=>some []
 | .int k' n::l=>if k'=k then(Lj k l).map (n :: ·)else none
 |_=>none
def Lk (c:List SV) (j:Nat):SV:=match c with
 | .int k _::_=>match Lj k c with
   |some l=>.int k (ON l j)
   |none=>SV.at c j
 |_=>SV.at c j
theorem Sr {k:IntKind}:∀{c:List SV} {l:List Int},Lj k c=some l->∀j,j<c.length->SV.at c j=.int k (ON l j)
 |[],_,_,j,hj=>by simp at hj
 |s::c,l,h,j,hj=>by
   cases s with
   |int k' n =>
     simp only[Lj]at h;split at h
     ·rename_i hk;subst hk;simp only[Ah8]at h;obtain⟨l',h1,rfl⟩:=h;cases j with
      |zero=>rfl
      |succ j=>simpa[SV.at,ON]using Sr h1 j (by grind)
     ·cases h
   |_=>simp[Lj]at h
theorem Ss {c:List SV} {j:Nat} (hj:j<c.length):Lk c j=SV.at c j:=by
 unfold Lk;grind [Sr]
def FZ (own:List (Nat×Ah)) (y:Ty):EV->Ii
 | .p (.ref cs off)=>(Fm y cs off).map fun s=>([],.p s)
 | .loc b off=>match BL own b with
   |some (.blk _ cs)=>if Eb y.desc then(if off+y.size<=cs.length then(Dc ((cs.drop off).take y.size)).map fun l=>([],.p (.agg l))else none)else cs[off]?.map fun e=>([],e)
   |_=>none
 | .rptr r sz i off=>match BL own r with
   |some (.row _ sz' n get)=>if sz' = sz/\off+y.size<=sz then
     (if Eb y.desc then some ([i<n],.p (.agg (((get i).drop off).take y.size)))else if y.size=1 then some ([i<n],.p (SV.at (get i) off))else none)
    else if sz'=1/\sz=1/\i=0/\off=0/\y.size=n/\Eb y.desc=true then some ([],.p (.agg ((Ah5 n).map fun j=>SV.at (get j) 0)))else none
   |some (.prow _ n bs)=>if sz=1/\off=0/\y.size=1/\Eb y.desc=false then some ([i<n],.fptr bs i)else none
   |some (.rr _ _ _ n bl cp len _)=>if sz=1/\off=0/\y.size=1/\Eb y.desc=false then some ([i<n],.rrow r i (bl i) (len i) (cp i))else none
   |_=>none
 | .rrptr k i j b=>match BL own k with
   |some (.rr _ _ sz n bl _ len get)=>if sz=1/\y.size=1/\Eb y.desc=false then some ([b=bl i/\i<n/\j<len i],.p (SV.at (get i j) 0))else none
   |_=>none
 |_=>none
def Gu (fo:Nat):EV->Ii
 | .p (.ref cs off)=>some ([],.p (.ref cs (off+fo)))
 | .loc b off=>some ([],.loc b (off+fo))
 | .rptr r sz i off=>some ([],.rptr r sz i (off+fo))
 |_=>none
section
variable {P:Program} {M:Nat->Prop} {w:World}
theorem Ll (cs:List SV) (off n i:Nat) (hi:i<n):SV.at ((cs.drop off).take n) i=SV.at cs (off+i):=by
 simp only[SV.at,AS];grind
theorem oM (vs:List Value) (off n i:Nat) (hi:i<n):((vs.drop off).take n).getD i undef=vs.getD (off+i) undef:=by
 grind
theorem Ij {α:Type} (vs:List α) (off n:Nat) (h:off+n<=vs.length):((vs.drop off).take n).length=n:=by
 simp;omega
theorem JQ {y:Ty} {t:TypeId} {cs:List SV} {off:Nat} {s:SV} {vs:List Value} (hy:Bg P t=some y) (hl:vs.length=cs.length) (h:Fm y cs off=some s)
  (hd:∀i,i<cs.length->Ax M w (SV.at cs i) (vs.getD i undef)):∃v,(∀w,(part t vs.toArray off).run P w=.ok v w)/\Ax M w s v:=by
 obtain⟨i,hi,hz,hs,hb,hu⟩:=CV hy;unfold Fm at h
 by_cases ha:Eb y.desc=true
 ·rw[if_pos ha]at h;split at h
  ·rename_i hle;cases h;refine⟨.agg ((vs.drop off).take y.size).toArray,fun w=>?_,.agg _ _ ?_ ?_⟩
   ·simp only[part,Sem.run_bind,Lg hu,ha,Result.andThen_ok,if_true,EY hi,hs,Sem.run_pure,List.extract_toArray,List.extract_eq_take_drop,Nat.add_sub_cancel_left]
   ·grind
   grind [Ij,Ll,oM]
  ·cases h
 ·rw[if_neg ha]at h;simp only[Bool.not_eq_true]at ha;have hlt:off<cs.length:=(by grind);refine⟨vs.getD off undef,fun w=>?_,?_⟩
  ·have hv:vs[off]? = some (vs.getD off undef):=by grind
   simp only[part,Sem.run_bind,Lg hu,ha,Result.andThen_ok,Bool.false_eq_true,if_false,AiG];rw[hv];rfl
  ·have:=hd off hlt;rwa[show SV.at cs off=s by simp[SV.at,AS,h]]at this
theorem FI {y:Ty} {t:TypeId} (hy:Bg P t=some y) (a:Addr) (f:Nat->Value) (h:∀j,j<(if Eb y.desc then y.size else 1)->w.cell? (a.add j)=some (f j)) :
  (loadVar t a).run P w=.ok (if Eb y.desc then .agg ((Ah5 y.size).map f).toArray else f 0) w:=by
 obtain⟨i,hi,hz,hs,hb,hu⟩:=CV hy
 by_cases ha:Eb y.desc=true
 ·rw[if_pos ha]at h ⊢;have:=run_loadCells (P:=P) w a y.size f h;simp[loadVar,Lg hu,ha,EY hi,hs,this]
 ·rw[if_neg ha]at h ⊢;have h0:=h 0 (by omega);simp only[Bool.not_eq_true]at ha;rw[show a.add 0=a from rfl]at h0;simp[loadVar,Lg hu,ha,h0]
theorem FJ {t:TypeId} {a:Addr} {u:Value} (h:(loadVar t a).run P w=.ok u w):(Instr.loadAt t (.pointer (some a))).run P w=.ok u w:=by
 simpa[Instr.loadAt,Instr.sureAddr]using h
theorem JR (f:Nat->Value) (n i:Nat) (hi:i<n):((Ah5 n).map f).getD i undef=f i:=by
 grind
theorem oN {y:Ty} {t:TypeId} (hy:Bg P t=some y) {cs:List SV} {off:Nat} {s:SV} (h:Fm y cs off=some s) {v:Value} (hv:Ax M w (.ref cs off) v) :
  ∃u,(Instr.loadAt t v).run P w=.ok u w/\Ax M w s u:=by
 cases hv with
 |ref _ _ vs ad hM hc ho hd =>
   unfold Fm at h
   by_cases ha:Eb y.desc=true
   ·rw[if_pos ha]at h;split at h
    ·rename_i hle;cases h;have:=FI (w:=w) hy (ad.add off) (fun j=>vs (off+j)) (by rw[if_pos ha];grind [Hk]);rw[if_pos ha]at this;refine⟨_,FJ this,.agg _ _ ?_ ?_⟩
     ·grind
     grind [Ij,Ll,JR]
    ·cases h
   ·rw[if_neg ha]at h;have hlt:off<cs.length:=(by grind);have:=FI (w:=w) hy (ad.add off) (fun j=>vs (off+j)) (by rw[if_neg ha];grind [Hk]);rw[if_neg ha]at this;refine⟨_,FJ this,?_⟩;have:=hd off hlt;rwa[show SV.at cs off=s by simp[SV.at,AS,h]]at this
theorem HF:∀{l:List EV} {cs:List SV},Dc l=some cs->l=cs.map .p
 |[],cs,h=>by simp[Dc]at h;subst h;rfl
 | .p s::l,cs,h=>by
   simp only[Dc,Ah8]at h;obtain⟨c,hc,rfl⟩:=h;rw[HF hc];rfl
 | .loc _ _::_,_,h | .row _::_,_,h | .rsub .. :: _,_,h | .rptr .. :: _,_,h | .cl .. :: _,_,h | .ag .. :: _,_,h | .fn _::_,_,h | .yield _::_,_,h | .any::_,_,h=>by simp[Dc]at h
theorem Cw (g o j:Nat):((⟨g,o,none⟩:Addr)).add j=⟨g,o+j,none⟩:=by unfold Addr.add;grind
theorem oO {g j:Nat} {vs:Array Value} {t:TypeId} {fr:Nat×Nat} (h:w.heap[g]? = some (.cells vs t fr)):w.cell? ⟨g,j,none⟩=vs[j]?:=by simp[World.cell?,h]
theorem Ec {g j:Nat} {vs:Array Value} {t:TypeId} {fr:Nat×Nat} (h:w.heap[g]? = some (.cells vs t fr)) (hj:j<vs.size):w.cell? ⟨g,j,none⟩=some (vs.getD j undef):=by
 rw[oO h];simp[LS,hj]
theorem Gv (cs:List SV) (i:Nat) (h:i<cs.length):EV.at (cs.map .p) i=.p (SV.at cs i):=by
 simp[EV.at,SV.at,AS,h]
theorem OO {G:Bw} {st:St} {a:Act} {env:Ar} {X:Nat->Prop} (S:Al P G st a w env M X) {y:Ty} {t:TypeId} (hy:Bg P t=some y) {e r:EV} {ps:List Prop}
  (h:FZ st.own y e=some (ps,r)) (hp:all ps) {v:Value} (hv:Ap P M w env e v):∃u,(Instr.loadAt t v).run P w=.ok u w/\Ap P M w env r u:=by
 cases e with
 |p s =>
   cases s<;>simp only[FZ,Ah8,reduceCtorEq]at h;rename_i cs off;obtain⟨s,hs,he⟩:=h;cases he;cases hv with
   |p hv =>
     obtain⟨u,h1,h2⟩:=oN hy hs hv;exact⟨u,h1,.p h2⟩
 |loc b off =>
   cases hv with
   |@loc _ _ g hg =>
   simp only[FZ]at h;split at h
   ·rename_i t' cs hl;obtain⟨g',vs,hg',hh,hz,hd⟩:=S.own _ _ (Bp hl);rw[hg]at hg';cases hg'
    by_cases ha:Eb y.desc=true
    ·rw[if_pos ha]at h;split at h
     ·rename_i hle;simp only[Ah8]at h;obtain⟨l,hl',he⟩:=h;cases he;have hl':=HF hl';have hll:l.length=y.size:=by have:=congrArg List.length hl';rw[Ij _ _ _ hle]at this;simpa using this.symm
      have:=FI (P:=P) (w:=w) hy (⟨g,off,none⟩) (fun j=>vs.getD (off+j) undef) (by rw[if_pos ha];intro j hj;rw[Cw];exact Ec hh (by omega));rw[if_pos ha]at this;refine⟨_,FJ this,.p (.agg _ _ (by simp[hll]) ?_)⟩;intro j hj;rw[hll]at hj;rw[JR _ _ _ hj];have h1:=(hd (off+j) (by omega)).2;have h2:EV.at cs (off+j)=.p (SV.at l j):=by
       rw[<- Gv l j (by omega),<- hl'];simp only[EV.at,AS];rw[List.getElem?_take_of_lt hj,List.getElem?_drop]
      rw[h2]at h1;cases h1 with|p h1=>exact h1
     ·cases h
    ·rw[if_neg ha]at h;simp only[Ah8]at h;obtain⟨e,he,h'⟩:=h;obtain⟨rfl,rfl⟩:ps = []/\e=r:=by simpa[eq_comm]using h'
     have hlt:off<cs.length:=(AiC.1 he).1;have:=FI (P:=P) (w:=w) hy (⟨g,off,none⟩) (fun j=>vs.getD (off+j) undef) (by rw[if_neg ha];intro j hj;rw[Cw];exact Ec hh (by omega));rw[if_neg ha]at this;refine⟨_,FJ this,?_⟩;have:=(hd off hlt).2;rwa[show EV.at cs off=e by simp[EV.at,AS,he]]at this
   ·cases h
 |rptr r' sz i off =>
   cases hv with
   |@rptr _ _ _ _ g hg =>
   simp only[FZ]at h;split at h
   ·rename_i e' sz' n get hl;split at h
    ·rename_i hc;obtain⟨rfl,hoff⟩:=hc;obtain⟨hm,hgl,ho⟩:=S.own _ _ (Bp hl);rcases ho with ⟨hn,_⟩|⟨g',cap,cur,hg',hrv,hh,hnc,hcm,hcs,hd⟩
     ·rw[hn]at hg;cases hg
     rw[hg]at hg';cases hg';have hin:i<n:=by
      by_cases ha:Eb y.desc=true
      ·rw[if_pos ha]at h;cases h;exact hp _ (Ah9.2 rfl)
      ·rw[if_neg ha]at h;split at h
       ·cases h;exact hp _ (Ah9.2 rfl)
       ·cases h
     have hcur:∀j,off+j<sz'->i*sz'+off+j<cur.size:=fun j hj=>by
      have:(i+1)*sz'<=cap*sz':=AhI _ (by omega);rw[Aia]at this;omega
     by_cases ha:Eb y.desc=true
     ·rw[if_pos ha]at h;cases h;have:=FI (P:=P) (w:=w) hy (⟨g,i*sz'+off,none⟩) (fun j=>cur.getD (i*sz'+off+j) undef) (by rw[if_pos ha];intro j hj;rw[Cw];exact Ec hh (hcur j (by omega)));rw[if_pos ha]at this;refine⟨_,FJ this,.p (.agg _ _ ?_ ?_)⟩
      ·rw[Ij _ _ _ (by rw[hgl i hin];omega)];simp
      ·rw[Ij _ _ _ (by rw[hgl i hin];omega)];intro j hj;rw[Ll _ _ _ _ hj,JR _ _ _ hj,Nat.add_assoc];have hj':off+j<sz':=by omega
       exact(hd i hin _ hj').2
     ·rw[if_neg ha]at h;split at h
      ·rename_i h1;cases h;have:=FI (P:=P) (w:=w) hy (⟨g,i*sz'+off,none⟩) (fun j=>cur.getD (i*sz'+off+j) undef) (by rw[if_neg ha];intro j hj;rw[Cw];exact Ec hh (hcur j (by omega)));rw[if_neg ha]at this;refine⟨_,FJ this,.p ?_⟩;exact(hd i hin off (by omega)).2
      ·cases h
    ·split at h
     ·rename_i hc;obtain⟨rfl,rfl,rfl,rfl,hyn,ha⟩:=hc;cases h;obtain⟨hm,hgl,ho⟩:=S.own _ _ (Bp hl);rcases ho with ⟨hn,_⟩|⟨g',cap,cur,hg',hrv,hh,hnc,hcm,hcs,hd⟩
      ·rw[hn]at hg;cases hg
      rw[hg]at hg';cases hg';have:=FI (P:=P) (w:=w) hy (⟨g,0*1+0,none⟩) (fun j=>cur.getD (0*1+0+j) undef) (by rw[if_pos ha];intro j hj;rw[Cw];exact Ec hh (by omega));rw[if_pos ha]at this;refine⟨_,FJ this,.p (.agg _ _ ?_ ?_)⟩
      ·simp[hyn]
      ·simp only[Aih,List.length_range];intro j hj;rw[JR _ _ _ (by omega),show SV.at ((Ah5 n).map fun j=>SV.at (get j) 0) j=SV.at (get j) 0 by simp[SV.at,AS,hj]];have:=(hd j hj 0 (by omega)).2;rwa[show j*1+0=0*1+0+j by omega]at this
     ·cases h
   ·rename_i e' n bs hl;split at h
    ·rename_i hc;obtain⟨rfl,rfl,hys,ha⟩:=hc;cases h;have hin:i<n:=hp _ (Ah9.2 rfl);obtain⟨hm,hbs,g',cap,cur,hg',hrv,hh,hnc,hcm,hcs,hd⟩:=S.own _ _ (Bp hl);rw[hg]at hg';cases hg';have:=FI (P:=P) (w:=w) hy (⟨g,i*1+0,none⟩) (fun j=>cur.getD (i*1+0+j) undef) (by rw[if_neg (by rw[ha];decide)];intro j hj;rw[Cw];exact Ec hh (by omega));rw[if_neg (by rw[ha];decide)]at this;refine⟨_,FJ this,.fptr (by omega) ?_⟩;rw[show i*1+0+0=i by omega];exact hd i hin
    ·cases h
   ·rename_i e1 e2 sz2 n bl cp len get hl;split at h
    ·rename_i hc;obtain⟨rfl,rfl,hys,ha⟩:=hc;cases h;have hin:i<n:=hp _ (Ah9.2 rfl);obtain⟨hm,_,_,hO⟩:=S.own _ _ (Bp hl);rcases hO with ⟨hn,_⟩|⟨g',cap,cur,hg',hrv,hh,hnc,hcm,hcs,hd⟩
     ·rw[hn]at hg;cases hg
     rw[hg]at hg';cases hg';have:=FI (P:=P) (w:=w) hy (⟨g,i*1+0,none⟩) (fun j=>cur.getD (i*1+0+j) undef) (by rw[if_neg (by rw[ha];decide)];intro j hj;rw[Cw];exact Ec hh (by omega));rw[if_neg (by rw[ha];decide)]at this;refine⟨_,FJ this,?_⟩;rw[show i*1+0+0=i by omega,(hd i hin).v];exact .rrow
    ·cases h
   ·cases h
 |rrptr k i j b =>
   cases hv;simp only[FZ]at h;split at h
   ·rename_i e1 e2 sz n bl cp len get hl;split at h
    ·rename_i hc;obtain⟨rfl,hys,ha⟩:=hc;cases h;obtain⟨rfl,hin,hj⟩:=hp _ (Ah9.2 rfl);obtain⟨hm,_,_,hO⟩:=S.own _ _ (Bp hl);rcases hO with ⟨_,_,hn⟩|⟨g',cap,cur,hg',hrv,hh,hnc,hcm,hcs,hd⟩
     ·omega
     obtain⟨h1,h2,h3,c,h4,h5,h6⟩:=hd i hin;have:=FI (P:=P) (w:=w) hy (⟨bl i,j,none⟩) (fun u=>c.getD (j+u) undef) (by rw[if_neg (by rw[ha];decide)];intro u hu;rw[Cw];exact Ec h4 (by omega));rw[if_neg (by rw[ha];decide)]at this;refine⟨_,FJ this,.p ?_⟩;have:=(h6 j hj 0 (by omega)).2;rwa[show j*1+0=j+0 by omega]at this
    ·cases h
   ·cases h
 |rrow _ _ _ _ _|rpre _ _|fptr _ _|row _|mapv _|rsub _ _ _ _|cl _ _|ag _|fn _|yield|any|full _ _=>simp[FZ]at h
end
def cellsOf:SV->List SV
 | .agg cs=>cs
 | .raw (.agg vs)=>vs.toList.map .raw
 |s=>[s]
def GH:List SV->Nat->List SV->List SV
 |cs,_,[]=>cs
 |cs,off,c::l=>GH (cs.set off c) (off+1) l
def FK (place:Nat->Option (Nat×Nat)):List SV->List (Nat×SV)->Option (List SV)
 |cs,[]=>some cs
 |cs,(i,s)::l=>match place i with
   |none=>none
   |some (off,sz)=>let c:=cellsOf s
     if c.length=sz/\off+sz<=cs.length then FK place (GH cs off c) l else none
def Cx:Value->SV
 | .int k n=>.int k n
 | .bool b=>.bool b
 |v=>.raw v
def JS (P:Program):TypeDesc->Option (Nat->Option (Nat×Nat))
 | .struct fs=>(fs.toList.mapM (fun f=>(P.info? f.type).map fun i=>(f.offset,i.size))).map fun places=>fun i=>places.toArray[i]?
 | .array _ e=>(P.info? e).map fun ie=>fun i=>some (i*ie.size,ie.size)
 |_=>none
def CW:EV->Bool
 | .p (.agg _) | .p (.tup _)=>false
 | .p (.raw v)=>v.oneCell'
 | .any=>false
 | .ag ..=>false
 |_=>true
def BS:EV->List EV
 | .p s=>(cellsOf s).map .p
 | .ag false cs=>cs
 |e=>[e]
def EJ (cs:List EV) (off:Nat):List EV->List EV
 |[]=>cs
 |e::l=>EJ (cs.set off e) (off+1) l
def Lm (f:Operand->Option EV):List (Nat×Operand)->Option (List (Nat×EV))
 |[]=>some []
 |(i,x)::l=>match f x with|some e=>(Lm f l).map ((i,e) :: ·)|none=>none
def Ln (place:Nat->Option (Nat×Nat)):List EV->List (Nat×EV)->Option (List EV)
 |cs,[]=>some cs
 |cs,(i,e)::l=>match place i with
   |none=>none
   |some (off,sz)=>if (BS e).all CW=true/\(BS e).length=sz/\off+sz<=cs.length then Ln place (EJ cs off (BS e)) l else none
def Ik (f:Operand->Option EV):List (Nat×Operand)->Option (List (Nat×SV))
 |[]=>some []
 |(i,x)::l=>match f x with|some (.p s)=>(Ik f l).map ((i,s) :: ·)|_=>none
def Jb (f:Operand->Option EV):List Operand->Option (List EV)
 |[]=>some []
 |x::l=>match f x with|some e=>(Jb f l).map (e :: ·)|_=>none
def GI:Option EV->Option Int
 |some (.p (.int _ n))=>some n
 |_=>none
def Jc (lo hi:Option Operand) (ρ:Operand->Option EV) (n:Nat):Option (Int×Int):=
 match lo,hi with
 |none,none=>some (0,n)
 |some l,none=>(GI (ρ l)).map fun a=>(a,n)
 |none,some h=>(GI (ρ h)).map fun b=>(0,b)
 |some l,some h=>match GI (ρ l),GI (ρ h)with|some a,some b=>some (a,b)|_,_=>none
def OP:List SV->Option SV
 |[.int k a,.int k' b]=>if k=k' then some (.int k (min a b))else none
 |[.int k a,.int k' b,.int k'' c]=>if k=k'/\k=k'' then some (.int k (min (min a b) c))else none
 |_=>none
def OQ:List SV->Option SV
 |[.int k a,.int k' b]=>if k=k' then some (.int k (max a b))else none
 |[.int k a,.int k' b,.int k'' c]=>if k=k'/\k=k'' then some (.int k (max (max a b) c))else none
 |_=>none
def Il (P:Program) (own:List (Nat×Ah)) (ρ:Operand->Option EV):Op->Ii
 | .move x | .assign x=>(ρ x).map fun e=>([],e)
 | .load t x=>match Bg P t,ρ x with
   |some y,some e=>FZ own y e
   |_,_=>none
 | .fieldAddr t x i=>match P.underlying t,ρ x with
   |some (.struct fs),some e=>match fs.toList[i]? with
     |some f=>match Bg P f.type with
       |some y=>if y.size=0 then none else Gu f.offset e
       |none=>none
     |none=>none
   |_,_=>none
 | .indexAddr t x i=>match P.underlying t,ρ x,ρ i with
   |some (.slice e),some (.p (.sl sz n get)),some (.p (.int _ z))=>match Bg P e with
     |some y=>if y.size=sz then some ([0<=z/\z<(n:Int)],.p (.ref (get z.toNat) 0))else none
     |none=>none
   |some (.slice e),some (.row r),some (.p (.int _ z))=>match Bg P e,BL own r with
     |some y,some (.row _ sz n _)=>if y.size=sz then some ([0<=z/\z<(n:Int)],.rptr r sz z.toNat 0)else none
     |some y,some (.prow _ n _)=>if y.size=1 then some ([0<=z/\z<(n:Int)],.rptr r 1 z.toNat 0)else none
     |some y,some (.rr _ _ _ n _ _ _ _)=>if y.size=1 then some ([0<=z/\z<(n:Int)],.rptr r 1 z.toNat 0)else none
     |_,_=>none
   |some (.slice e),some (.rrow k i b n _),some (.p (.int _ z))=>match Bg P e with
     |some y=>if y.size=1 then some ([0<=z/\z<(n:Int)],.rrptr k i z.toNat b)else none
     |none=>none
   |some (.slice e),some (.rsub r sz lo n),some (.p (.int _ z))=>match Bg P e with
     |some y=>if y.size=sz then some ([0<=z/\z<(n:Int)],.rptr r sz (lo+z.toNat) 0)else none
     |none=>none
   |some (.array n e),some (.p (.ref cs off)),some (.p (.int _ z))=>match Bg P e with
     |some y=>if 1<n then some ([0<=z/\z<(n:Int)],.p (.ref cs (off+z.toNat*y.size)))else none
     |none=>none
   |some (.array n e),some (.loc b off),some (.p (.int _ z))=>match Bg P e with
     |some y=>if 1<n then some ([0<=z/\z<(n:Int)],.loc b (off+z.toNat*y.size))else none
     |none=>none
   |some (.array n e),some (.rptr r sz i 0),some (.p (.int _ z))=>match Bg P e with
     |some y=>if 1<n/\sz=y.size then some ([0<=z/\z<(n:Int)],.rptr r sz (i+z.toNat) 0)else none
     |none=>none
   |_,_,_=>none
 | .field t x i=>match P.underlying t,ρ x with
   |some (.struct fs),some (.p (.agg cs))=>match fs.toList[i]? with
     |some f=>match Bg P f.type with
       |some y=>(Fm y cs f.offset).map fun s=>([],.p s)
       |none=>none
     |none=>none
   |_,_=>none
 | .index t x i=>match P.underlying t,ρ x,ρ i with
   |some (.array n e),some (.p (.agg cs)),some (.p (.int _ z))=>match Bg P e with
     |some y =>if Eb y.desc then(Fm y cs (z.toNat*y.size)).map fun s =>([0<=z/\z<(n:Int)], .p s)
      else if y.size=1/\n<=cs.length then some ([0<=z/\z<(n:Int)],.p (Lk cs z.toNat))else none
     |none=>none
   |_,_,_=>none
 | .binOp op t x y _=>match ρ x,ρ y with
   |some (.p a),some (.p b)=>(OM P op t a b).map fun r=>(r.1,.p r.2)
   |_,_=>none
 | .unOp op _ x=>match op,ρ x with
   | .not,some (.p (.bool b))=>some ([],.p (.bool (!b)))
   | .neg,some (.p (.int k n))=>some ([Ab k (0-n)],.p (.int k (0-n)))
   |_,_=>none
 | .convert src dst x=>match ρ x with
   |some (.p (.int _ n))=>match P.underlying src,P.underlying dst with
     |some (.int _),some (.int k)=>some ([Ab k n],.p (.int k n))
     |_,_=>none
   |_=>none
 | .makeFunc (.func f) first caps =>if first.size = 0 then(Jb ρ caps.toList).map fun l =>match Dc l with
  |some ss=>([],.p (.clo f ss))
  |none=>([],.cl f l)else none
 | .extract x i=>match ρ x with
   |some (.p (.tup vs))=>vs[i]?.map fun s=>([],.p s)
   |some (.ag true es)=>es[i]?.map fun e=>([],e)
   |_=>none
 | .nilCheck x=>match ρ x with
   |some (.p (.ref cs off))=>some ([],.p (.ref cs off))
   |some (.loc b off)=>some ([],.loc b off)
   |some (.rptr r sz i off)=>some ([],.rptr r sz i off)
   |_=>none
 | .build t parts=>match Bg P t,Ik ρ parts.toList with
   |some y,some l=>match JS P y.desc with
     |some pl=>(FK pl (y.zero.cells.toList.map Cx) l).map fun cs=>([],.p (.agg cs))
     |none=>none
   |some y,none=>match JS P y.desc,Lm ρ parts.toList with
     |some pl,some l=>(Ln pl (y.zero.cells.toList.map fun v=>.p (Cx v)) l).map fun cs=>([],.ag false cs)
     |_,_=>none
   |_,_=>none
 | .slice t x lo hi none=>match P.underlying t,ρ x with
   |some (.slice e),some (.p (.sl sz n get))=>match Bg P e,Jc lo hi ρ n with
     |some y,some (l,h)=>if y.size=sz then some ([0<=l/\l<=h/\h<=(n:Int)],.p (.sl sz (h-l).toNat (fun i=>get (l.toNat+i))))else none
     |_,_=>none
   |some (.slice e),some (.row r)=>match Bg P e,BL own r with
     |some y,some (.row _ sz n _)=>match Jc lo hi ρ n with
       |some (l,h)=>if y.size=sz then some ([0<=l/\l<=h/\h<=(n:Int)],.rsub r sz l.toNat (h-l).toNat)else none
       |none=>none
     |_,_=>none
   |some (.slice e),some (.p (.raw (.slice none 0 0)))=>match Bg P e,Jc lo hi ρ 0 with
     |some _,some (l,h)=>some ([0<=l/\l<=h/\h<=0],.p (.raw (.slice none 0 0)))
     |_,_=>none
   |_,_=>none
 | .slice t x none (some hi) (some mx)=>match P.underlying t,ρ x,GI (ρ hi),GI (ρ mx)with
   |some (.slice e),some (.p (.sl sz n get)),some h,some m=>match Bg P e with
     |some _=>some ([0<=h/\h<=(n:Int)/\h=m],.full true sz h.toNat get)
     |none=>none
   |_,_,_,_=>none
 | .call { callee:=.builtin .cap,args:=args,argTypes:=ts }=>match args.toList,ts.toList with
   |[x],[t]=>match P.underlying t,ρ x with
     |some (.slice _),some (.p (.raw (.slice _ _ c)))=>some ([],.p (.int .i64 c))
     |_,_=>none
   |_,_=>none
 | .call { callee:=.builtin .len,args:=args,argTypes:=ts }=>match args.toList,ts.toList with
   |[x],[t]=>match P.underlying t,ρ x with
     |some (.slice _),some (.p (.sl _ n _))=>some ([],.p (.int .i64 n))
     |some (.slice _),some (.p (.raw (.slice _ n _)))=>some ([],.p (.int .i64 n))
     |some (.slice _),some (.row r)=>match BL own r with|some (.row _ _ n _)=>some ([],.p (.int .i64 n))|_=>none
     |some (.slice _),some (.rsub _ _ _ n)=>some ([],.p (.int .i64 n))
     |some (.slice _),some (.full _ _ n _)=>some ([],.p (.int .i64 n))
     |some (.array n _),some _=>some ([],.p (.int .i64 n))
     |some (.map _ _),some (.mapv r)=>match BL own r with|some (.mp _ n _)=>some ([],.p (.int .i64 n))|_=>none
     |_,_=>none
   |_,_=>none
 | .call { callee:=.builtin .min,args:=args,argTypes:=_ }=>match Jb ρ args.toList with
   |some l=>match Dc l with|some ss=>(OP ss).map fun s=>([],.p s)|none=>none
   |none=>none
 | .call { callee:=.builtin .max,args:=args,argTypes:=_ }=>match Jb ρ args.toList with
   |some l=>match Dc l with|some ss=>(OQ ss).map fun s=>([],.p s)|none=>none
   |none=>none
 |_=>none
section
variable {P:Program} {M:Nat->Prop} {w:World}
theorem HG:By M w [] []:=⟨rfl,fun i hi=>by simp at hi⟩
theorem Hl {c:SV} {cs:List SV} {v:Value} {vs:List Value} (h:Ax M w c v) (k:By M w cs vs):By M w (c::cs) (v::vs):=
 ⟨by simp[k.1],fun i hi=>by cases i with|zero=>simpa[SV.at]using h|succ i=>simpa[SV.at]using k.2 i (by grind)⟩
theorem By.agg {cs:List SV} {vs:List Value} (h:By M w cs vs):Ax M w (.agg cs) (.agg vs.toArray):=.agg _ _ h.1 h.2
theorem oP {cs:List SV} {vs:List Value} (h:By M w cs vs) (n:Nat) {c:SV} {v:Value} (hc:Ax M w c v):By M w (cs.set n c) (vs.set n v):=by
 refine⟨by simp[h.1],fun i hi=>?_⟩;simp only[List.length_set]at hi;have:=h.2 i hi;simp only[SV.at,AS,List.getElem?_set]at this ⊢
 by_cases he:n=i
 ·subst he;simp[hi,h.1,hc]
 grind
theorem Su {cs ds:List SV} {vs us:List Value} (h:By M w cs vs) (k:By M w ds us):By M w (cs++ds) (vs++us):=by
 refine⟨by simp[h.1,k.1],fun i hi=>?_⟩;simp only[SV.at,AS]
 by_cases hi':i<cs.length
 ·rw[AhP hi',AhP (by rw[h.1];exact hi')];have:=h.2 i hi';simpa[SV.at,AS]using this
 ·rw[AhT (by omega),AhT (by rw[h.1];omega),h.1];have:=k.2 (i-cs.length) (by grind);simpa[SV.at,AS]using this
theorem Lo (v:Value):Ax M w (Cx v) v:=by
 cases v<;>first|exact .int _ _|exact .bool _|exact .raw _
theorem Gw:∀(vs:List Value),By M w (vs.map Cx) vs
 |[]=>HG
 |v::vs=>Hl (Lo v) (Gw vs)
theorem Sv:∀(vs:List Value),By M w (vs.map .raw) vs
 |[]=>HG
 |v::vs=>Hl (.raw v) (Sv vs)
theorem Lp {s:SV} {v:Value} (h:Ax M w s v):By M w (cellsOf s) v.cells.toList:=by
 cases h with
 |agg cs vs hl h=>exact⟨by simpa[Value.cells,cellsOf]using hl,by simpa[Value.cells,cellsOf]using h⟩
 |raw v =>
   cases v with
   |agg vs=>simpa[cellsOf,Value.cells]using Sv (M:=M) (w:=w) vs.toList
   |_=>exact Hl (.raw _) HG
 |int k n=>exact Hl (.int k n) HG
 |bool b=>exact Hl (.bool b) HG
 |tup cs vs hl h=>exact Hl (.tup cs vs hl h) HG
 |clo f cs vs hl h=>exact Hl (.clo f cs vs hl h) HG
 |ref cs off vs ad h1 h2 h3 h4=>exact Hl (.ref cs off vs ad h1 h2 h3 h4) HG
 |sl sz n get A cap vs h1 h2 h3 h4 h5 h6=>exact Hl (.sl sz n get A cap vs h1 h2 h3 h4 h5 h6) HG
theorem Sw:∀(us:List Value) (ds:List SV),By M w ds us->∀(off k:Nat) (cs:List SV) (vs:List Value),By M w cs vs ->
  ∃vs',(us.zipIdx k).foldl (fun cs (x:Value×Nat)=>cs.setIfInBounds (off+x.2) x.1) vs.toArray=vs'.toArray/\By M w (GH cs (off+k) ds) vs'
 |[],ds,h,off,k,cs,vs,hv=>by
   have:ds = []:=AiS (by simpa using h.1.symm);subst this;exact⟨vs,rfl,hv⟩
 |u::us,[],h,_,_,_,_,_=>by simp[By]at h
 |u::us,d::ds,h,off,k,cs,vs,hv=>by
   have hd:Ax M w d u:=by simpa[SV.at]using h.2 0 (by simp)
   have ht:By M w ds us:=⟨by simpa using h.1,fun i hi=>by simpa[SV.at]using h.2 (i+1) (by grind)⟩;obtain⟨vs',h1,h2⟩:=Sw us ds ht off (k+1) (cs.set (off+k) d) (vs.set (off+k) u) (oP hv _ hd);refine⟨vs',?_,?_⟩
   ·grind [List.zipIdx_cons]
   ·rw[GH];exact h2
theorem Lq (place:Nat->Option (Nat×Nat)):∀(ps:List (Nat×SV)) (us:List (Nat×Value)),us.length=ps.length ->
  (∀i (hi:i<ps.length) (hj:i<us.length),us[i].1=ps[i].1/\Ax M w ps[i].2 us[i].2) ->
  ∀(cs cs':List SV) (vs:List Value),By M w cs vs->FK place cs ps=some cs'->∃vs',Instr.fill place vs.toArray us=some vs'.toArray/\By M w cs' vs'
 |[],[],_,_,cs,cs',vs,hv,h=>by simp[FK]at h;subst h;exact⟨vs,rfl,hv⟩
 |[],u::us,hl,_,_,_,_,_,_=>by simp at hl
 |p::ps,[],hl,_,_,_,_,_,_=>by simp at hl
 |(i,s)::ps,(i',v)::us,hl,hd,cs,cs',vs,hv,h=>by
   obtain⟨h0,hs⟩:=hd 0 (by simp) (by simp);simp only[List.getElem_cons_zero]at h0 hs;subst h0;simp only[FK]at h;cases hp:place i' with
   |none=>grind
   |some q =>
     obtain⟨off,sz⟩:=q;simp only[hp]at h;split at h
     ·rename_i hc;obtain⟨hc1,hc2⟩:=hc;have hcell:=Lp hs;have hsz:v.cells.size=sz:=by have:=hcell.1;grind
      obtain⟨vs1,e1,d1⟩:=Sw v.cells.toList (cellsOf s) hcell off 0 cs vs hv;obtain⟨vs',e2,d2⟩:=Lq place ps us (by grind) (fun j hj hj'=>hd (j+1) (by simpa using hj) (by simpa using hj')) _ cs' vs1 d1 h;refine⟨vs',?_,d2⟩;simp only[Instr.fill,hp];have hvl:=hv.1;rw[if_neg (by simp[hsz,hvl];omega)];grind [Array.toList_zipIdx]
     ·cases h
theorem MM {ρ:Operand->Option EV} {env:Ar} {a:Act} (hρ:∀x e,ρ x=some e->Ap P M w env e (a.eval x)):∀(l:List (Nat×Operand)) (ss:List (Nat×SV)),Ik ρ l=some ss ->
  (l.map fun x=>(x.1,a.eval x.2)).length=ss.length/\∀i (hi:i<ss.length) (hj:i<(l.map fun x=>(x.1,a.eval x.2)).length),(l.map fun x=>(x.1,a.eval x.2))[i].1=ss[i].1/\Ax M w ss[i].2 (l.map fun x=>(x.1,a.eval x.2))[i].2
 |[],ss,h=>by simp[Ik]at h;grind
 |(i,x)::l,ss,h=>by
   simp only[Ik]at h;split at h
   ·rename_i s hs;simp only[Ah8]at h;obtain⟨ss',h1,rfl⟩:=h;obtain⟨h2,h3⟩:=MM hρ l ss' h1;refine⟨by grind,fun j hj hj'=>?_⟩;cases j with
    |zero =>
      have:=hρ _ _ hs;cases this with|p this=>grind
    |succ j=>grind
   ·cases h
theorem MN {ρ:Operand->Option EV} {env:Ar} {a:Act} (hρ:∀x e,ρ x=some e->Ap P M w env e (a.eval x)):∀(l:List Operand) (es:List EV),Jb ρ l=some es ->
  (l.map a.eval).length=es.length/\∀i,i<es.length->Ap P M w env (EV.at es i) ((l.map a.eval).getD i undef)
 |[],es,h=>by simp[Jb]at h;grind
 |x::l,es,h=>by
   simp only[Jb]at h;split at h
   ·rename_i e he;simp only[Ah8]at h;obtain⟨es',h1,rfl⟩:=h;obtain⟨h2,h3⟩:=MN hρ l es' h1;refine⟨by grind,fun j hj=>?_⟩;cases j with
    |zero=>simpa[EV.at]using hρ _ _ he
    |succ j=>simpa[EV.at]using h3 j (by grind)
   ·cases h
theorem Jd {env:Ar} {es:List EV} {ss:List SV} {vs:List Value} (h:Dc es=some ss) (hl:vs.length=es.length) (hd:∀i,i<es.length->Ap P M w env (EV.at es i) (vs.getD i undef)):By M w ss vs:=by
 have:=HF h;subst this;simp only[Aih]at hl hd;refine⟨hl,fun i hi=>?_⟩;have:=hd i hi;rw[Gv _ _ hi]at this;cases this with|p this=>exact this
theorem OR:∀(d:Nat) (t:TypeId) (x y:SV) (b:Bool),Ja P d t x y=some b->∀(u v:Value),Ax M w x u->Ax M w y v->∀D w',d<=D->(Op.equalIn D t u v).run P w'=.ok b w':=by
 intro d
 induction d with
 |zero=>intro t x y b h;simp[Ja]at h
 |succ d ih =>
   intro t x y b h u v hu hv D w' hD;obtain⟨D,rfl⟩:∃D',D=D'+1:=⟨D-1,by omega⟩;simp only[Ja]at h;split at h
   ·rename_i a b' hty;cases h;cases hu with|bool=>cases hv with|bool=>grind [run_equalIn_bool]
   ·rename_i k a k' b' hty;split at h
    ·rename_i hk;subst hk;cases h;cases hu with|int=>cases hv with|int=>grind [run_equalIn_int]
    ·cases h
   ·rename_i fs xs ys hty;split at h
    ·cases h
    ·rename_i hst;cases hu with
     |agg _ us hul hud =>
     cases hv with
     |agg _ vs hvl hvd =>
     have hfo:P.fieldsOf t=fs:=by simp[Program.fieldsOf,hty]
     rw[run_equalIn_struct w' D t _ _ (by grind) (by grind),hfo];clear hfo hty;generalize fs.toList=l at h
     induction l generalizing b with
     |nil=>simp[Li]at h;subst h;simp[Op.eqFields]
     |cons f l ihl =>
       simp only[Li]at h;split at h
       ·cases h
       rename_i hname;split at h
       ·cases h
       rename_i y hy;split at h
       ·rename_i a' b' ha hb;split at h
        ·cases h
        rename_i e he;split at h
        ·cases h
        rename_i r hr;obtain⟨va,ra,da⟩:=JQ (M:=M) (w:=w) hy hul ha hud;obtain⟨vb,rb,db⟩:=JQ (M:=M) (w:=w) hy hvl hb hvd;have h1:=ih f.type a' b' e he va vb da db D w' (by omega);have h2:=ihl r hr;cases h;simp only[Op.eqFields,ne_eq,hname,not_false_eq_true,if_true,Sem.run_bind,ra,rb,Result.andThen_ok,h1];cases e
        ·simp;grind
        ·simp only[Bool.not_true,Bool.false_eq_true,if_false,h2];cases l
         ·simp[Li]at hr;subst hr;rfl
         ·simp
       ·cases h
   ·cases h
section
variable {P:Program} {env:Ar}
theorem Je {ss:List SV} {vs:List Value} (h:By M w ss vs):∀i,i<(ss.map EV.p).length->Ap P M w env (EV.at (ss.map .p) i) (vs.getD i undef):=fun i hi=>by
 simp only[Aih]at hi;rw[Gv _ _ hi];exact .p (h.2 i hi)
theorem MO {e:EV} {v:Value} (h:Ap P M w env e v) (ho:(BS e).all CW=true):v.cells.toList.length=(BS e).length/\∀i,i<(BS e).length->Ap P M w env (EV.at (BS e) i) (v.cells.toList.getD i undef):=by
 cases h with
 |p h =>
   have:=Lp h;exact⟨by simpa[BS]using this.1,by simpa[BS]using Je this⟩
 |fn h =>
   have h0:=h;obtain⟨f,first,caps,rfl,_⟩:=h0;refine⟨rfl,fun i hi=>?_⟩;simp[BS]at hi;subst hi;exact .fn h
 |any=>simp[BS,CW]at ho
 |loc hg=>exact⟨rfl,fun i hi=>by simp[BS]at hi;subst hi;exact .loc hg⟩
 |row hg=>exact⟨rfl,fun i hi=>by simp[BS]at hi;subst hi;exact .row hg⟩
 |mapv hg=>exact⟨rfl,fun i hi=>by simp[BS]at hi;subst hi;exact .mapv hg⟩
 |rsub A cap hc hm hA=>exact⟨rfl,fun i hi=>by simp[BS]at hi;subst hi;exact .rsub A cap hc hm hA⟩
 |rptr hg=>exact⟨rfl,fun i hi=>by simp[BS]at hi;subst hi;exact .rptr hg⟩
 |rpre hg hn=>exact⟨rfl,fun i hi=>by simp[BS]at hi;subst hi;exact .rpre hg hn⟩
 |fptr hi h=>subst h;exact⟨rfl,fun i hi'=>by simp[BS]at hi';subst hi';exact .fptr hi rfl⟩
 |ag q cs vs hl hd=>cases q with
   |true=>exact absurd ho (by simp[BS,CW])
   |false=>exact⟨by simpa[BS,Value.cells]using hl,by simpa[BS,Value.cells]using hd⟩
 |cl f cs vs hl hd=>exact⟨rfl,fun i hi=>by simp[BS]at hi;subst hi;exact .cl f cs vs hl hd⟩
 |yield=>exact⟨rfl,fun i hi=>by simp[BS]at hi;subst hi;exact .yield⟩
 |rrow=>exact⟨rfl,fun i hi=>by simp[BS]at hi;subst hi;exact .rrow⟩
 |rrptr=>exact⟨rfl,fun i hi=>by simp[BS]at hi;subst hi;exact .rrptr⟩
 |full hg hq=>exact⟨rfl,fun i hi=>by simp[BS]at hi;subst hi;exact .full hg hq⟩
def Hm (P:Program) (M:Nat->Prop) (w:World) (env:Ar) (cs:List EV) (vs:List Value):Prop:=vs.length=cs.length/\∀i,i<cs.length->Ap P M w env (EV.at cs i) (vs.getD i undef)
theorem oQ {cs:List EV} {vs:List Value} (h:Hm P M w env cs vs) (n:Nat) {c:EV} {v:Value} (hc:Ap P M w env c v):Hm P M w env (cs.set n c) (vs.set n v):=by
 refine⟨by simp[h.1],fun i hi=>?_⟩;simp only[List.length_set]at hi;have:=h.2 i hi;simp only[EV.at,AS,List.getElem?_set]at this ⊢
 by_cases he:n=i
 ·subst he;simp[hi,h.1,hc]
 grind
theorem Sx:∀(us:List Value) (ds:List EV),Hm P M w env ds us->∀(off k:Nat) (cs:List EV) (vs:List Value),Hm P M w env cs vs ->
  ∃vs',(us.zipIdx k).foldl (fun cs (x:Value×Nat)=>cs.setIfInBounds (off+x.2) x.1) vs.toArray=vs'.toArray/\Hm P M w env (EJ cs (off+k) ds) vs'
 |[],ds,h,off,k,cs,vs,hv=>by
   have:ds = []:=AiS (by simpa using h.1.symm);subst this;exact⟨vs,rfl,hv⟩
 |u::us,[],h,_,_,_,_,_=>by simp[Hm]at h
 |u::us,d::ds,h,off,k,cs,vs,hv=>by
   have hd:Ap P M w env d u:=by simpa[EV.at]using h.2 0 (by simp)
   have ht:Hm P M w env ds us:=⟨by simpa using h.1,fun i hi=>by simpa[EV.at]using h.2 (i+1) (by grind)⟩;obtain⟨vs',h1,h2⟩:=Sx us ds ht off (k+1) (cs.set (off+k) d) (vs.set (off+k) u) (oQ hv _ hd);refine⟨vs',?_,?_⟩
   ·grind [List.zipIdx_cons]
   ·rw[EJ];exact h2
theorem Sy (place:Nat->Option (Nat×Nat)):∀(ps:List (Nat×EV)) (us:List (Nat×Value)),us.length=ps.length ->
  (∀i (hi:i<ps.length) (hj:i<us.length),us[i].1=ps[i].1/\Ap P M w env ps[i].2 us[i].2) ->
  ∀(cs cs':List EV) (vs:List Value),Hm P M w env cs vs->Ln place cs ps=some cs'->∃vs',Instr.fill place vs.toArray us=some vs'.toArray/\Hm P M w env cs' vs'
 |[],[],_,_,cs,cs',vs,hv,h=>by simp[Ln]at h;subst h;exact⟨vs,rfl,hv⟩
 |[],u::us,hl,_,_,_,_,_,_=>by simp at hl
 |p::ps,[],hl,_,_,_,_,_,_=>by simp at hl
 |(i,s)::ps,(i',v)::us,hl,hd,cs,cs',vs,hv,h=>by
   obtain⟨h0,hs⟩:=hd 0 (by simp) (by simp);simp only[List.getElem_cons_zero]at h0 hs;subst h0;simp only[Ln]at h;cases hp:place i' with
   |none=>grind
   |some q =>
     obtain⟨off,sz⟩:=q;simp only[hp]at h;split at h
     ·rename_i hc;obtain⟨hc0,hc1,hc2⟩:=hc;have hcell:=MO hs hc0;have hsz:v.cells.size=sz:=by grind
      obtain⟨vs1,e1,d1⟩:=Sx v.cells.toList (BS s) hcell off 0 cs vs hv;obtain⟨vs',e2,d2⟩:=Sy place ps us (by grind) (fun j hj hj'=>hd (j+1) (by simpa using hj) (by simpa using hj')) _ cs' vs1 d1 h;refine⟨vs',?_,d2⟩;simp only[Instr.fill,hp];have hvl:=hv.1;rw[if_neg (by simp[hsz,hvl];omega)];grind [Array.toList_zipIdx]
     ·cases h
theorem Sz {ρ:Operand->Option EV} {a:Act} (hρ:∀x e,ρ x=some e->Ap P M w env e (a.eval x)):∀(l:List (Nat×Operand)) (ss:List (Nat×EV)),Lm ρ l=some ss ->
  (l.map fun x=>(x.1,a.eval x.2)).length=ss.length/\∀i (hi:i<ss.length) (hj:i<(l.map fun x=>(x.1,a.eval x.2)).length),(l.map fun x=>(x.1,a.eval x.2))[i].1=ss[i].1/\Ap P M w env ss[i].2 (l.map fun x=>(x.1,a.eval x.2))[i].2
 |[],ss,h=>by simp[Lm]at h;grind
 |(i,x)::l,ss,h=>by
   simp only[Lm]at h;split at h
   ·rename_i e he;simp only[Ah8]at h;obtain⟨ss',h1,rfl⟩:=h;obtain⟨h2,h3⟩:=Sz hρ l ss' h1;grind
   ·cases h
end
end
section
variable {P:Program} {M:Nat->Prop} {w:World} {G:Bw} {st:St} {a:Act} {env:Ar} {X:Nat->Prop}
theorem oR {t:TypeId} {fs:Array Field} {f:Field} {y:Ty} {i:Nat} (hu:P.underlying t=some (.struct fs)) (hf:fs.toList[i]? = some f) (hy:Bg P f.type=some y) (hz:¬ y.size=0)
  {e r:EV} {ps:List Prop} (h:Gu f.offset e=some (ps,r)) {v:Value} (hv:Ap P M w env e v):∃u,(Instr.fieldAt t v i).run P w=.ok u w/\Ap P M w env r u:=by
 obtain⟨j,hi,_,hs,_,_⟩:=CV hy;have hf':fs[i]? = some f:=by grind
 have key:∀ad:Addr,(Instr.fieldAt t (.pointer (some ad)) i).run P w=.ok (.pointer (some (ad.add f.offset))) w:=fun ad=>by
  have hj:¬ j.size=0:=by grind
  simp[Instr.fieldAt,run_underlying hu,hf',Instr.sureAddr,fieldPlace,EY hi,hj]
 cases e with
 |p s =>
   cases s<;>simp only[Gu,reduceCtorEq]at h;cases h;cases hv with
   |p hv =>
   cases hv with
   |ref cs off vs ad hM hc ho hd =>
     exact⟨_,key _,by rw[Hk];exact .p (.ref _ _ vs ad hM hc ho hd)⟩
 |loc b off =>
   simp only[Gu]at h;cases h;cases hv with
   |loc hg=>exact⟨_,key _,by rw[Cw];exact .loc hg⟩
 |rptr r' sz i' off =>
   simp only[Gu]at h;cases h;cases hv with
   |rptr hg=>exact⟨_,key _,by rw[Cw,Nat.add_assoc];exact .rptr hg⟩
 |_=>simp[Gu]at h
theorem JT {t e:TypeId} {y:Ty} (hu:P.underlying t=some (.slice e)) (hy:Bg P e=some y) (ad:Addr) (n cap:Nat) (k:IntKind) (z:Int) (h0:0<=z) (h1:z<(n:Int)) :
  (Instr.indexAt t (.slice (some ad) n cap) (.int k z)).run P w=.ok (.pointer (some (ad.add (z.toNat*y.size)))) w:=by
 obtain⟨j,hi,_,hs,_,_⟩:=CV hy;simp[Instr.indexAt,asIntOf,run_underlying hu,h0,h1,EY hi,hs]
theorem OS {t e:TypeId} {y:Ty} {n:Nat} (hu:P.underlying t=some (.array n e)) (hy:Bg P e=some y) (ad:Addr) (k:IntKind) (z:Int) (h0:0<=z) (h1:z<(n:Int)) :
  (Instr.indexAt t (.pointer (some ad)) (.int k z)).run P w=.ok (.pointer (some (ad.add (z.toNat*y.size)))) w:=by
 obtain⟨j,hi,_,hs,_,_⟩:=CV hy;simp[Instr.indexAt,asIntOf,run_underlying hu,Instr.sureAddr,h0,h1,EY hi,hs]
theorem AC {p:Prop} (h:all [p]):p:=h p (by simp)
theorem oS {t e:TypeId} {y:Ty} {sz n:Nat} {get:Nat->List SV} {z:Int} {k:IntKind} {v:Value} (hu:P.underlying t=some (.slice e)) (hy:Bg P e=some y) (hsz:y.size=sz)
  (hv:Ax M w (.sl sz n get) v) (h0:0<=z) (h1:z<(n:Int)):∃u,(Instr.indexAt t v (.int k z)).run P w=.ok u w/\Ax M w (.ref (get z.toNat) 0) u:=by
 cases hv with
 |sl _ _ _ A cap vs hcap hm hA hg ho' hd =>
   obtain⟨ad,rfl,hM,hc⟩:=hA (by omega);have hz:z.toNat<n:=by omega
   refine⟨_,JT hu hy ad n cap k z h0 h1,?_⟩;subst hsz;have:=Ax.ref (w:=w) (get z.toNat) 0 (vs z.toNat) (ad.add (z.toNat*y.size)) (by grind [JO]) (fun j hj=>by grind [Hk]) (by grind) (fun j hj=>hd _ hz j (by rw[<- hg _ hz];exact hj));exact this
theorem JU {x:Option EV} {n:Int} (h:GI x=some n):∃k,x=some (.p (.int k n)):=by
 unfold GI at h;grind
theorem JV {ρ:Operand->Option EV} (hρ:∀x e,ρ x=some e->Ap P M w env e (a.eval x)) {t e:TypeId} {y:Ty} (hu:P.underlying t=some (.slice e)) (hy:Bg P e=some y)
  {lo hi:Option Operand} {n:Nat} {l h:Int} (hb:Jc lo hi ρ n=some (l,h)) (A:Option Addr) (cap:Nat) (hcap:n<=cap) (h0:0<=l) (h1:l<=h) (h2:h<=(n:Int)) :
  (Instr.sliceAt t (.slice A n cap) (lo.map a.eval) (hi.map a.eval) none).run P w=.ok (.slice (if cap=l.toNat then A else A.map (·.add (l.toNat*y.size))) (h.toNat-l.toNat) (cap-l.toNat)) w:=by
 obtain⟨j,hi',_,hs,_,_⟩:=CV hy;have hsb:∀(k:IntKind) (x:Int) (b:Nat) (c:BoundsCode),0<=x->x<=(b:Int)->(Instr.sliceBound (.int k x) b c).run P w=.ok x.toNat w:=fun k x b c p q=>by
  simp[Instr.sliceBound,asIntOf,p,q]
 have key:(Instr.sliceBounds true n cap (lo.map a.eval) (hi.map a.eval) none).run P w=.ok (l.toNat,h.toNat,cap) w:=by
  unfold Jc at hb;split at hb
  ·cases hb;simp[Instr.sliceBounds]
  ·rename_i lo';simp only[Ah8]at hb;obtain⟨a',ha,hb⟩:=hb;cases hb;obtain⟨k,hk⟩:=JU ha;have:=hρ _ _ hk;rcases this with ⟨h⟩;generalize hev:a.eval lo'=q at h;cases h;simp[Instr.sliceBounds,hev,hsb k l n _ h0 h1]
  ·rename_i hi'';simp only[Ah8]at hb;obtain⟨a',ha,hb⟩:=hb;cases hb;obtain⟨k,hk⟩:=JU ha;have:=hρ _ _ hk;rcases this with ⟨h'⟩;generalize hev:a.eval hi''=q at h';cases h';simp[Instr.sliceBounds,hev,hsb k h cap _ h1 (by omega)]
  ·rename_i lo' hi'';split at hb
   ·rename_i a' b' ha hb';cases hb;obtain⟨k,hk⟩:=JU ha;obtain⟨k',hk'⟩:=JU hb';have e1:=hρ _ _ hk;have e2:=hρ _ _ hk';rcases e1 with ⟨e1⟩;rcases e2 with ⟨e2⟩;generalize hev:a.eval lo'=q at e1;generalize hev':a.eval hi''=q' at e2;cases e1;cases e2;simp[Instr.sliceBounds,hev,hev',hsb k' h cap _ (by omega) (by omega),hsb k l h.toNat _ h0 (by omega)]
   ·cases hb
 simp[Instr.sliceAt,Instr.slice,run_underlying hu,key,EY hi',hs]
theorem oT {ρ:Operand->Option EV} (hρ:∀x e,ρ x=some e->Ap P M w env e (a.eval x)) {t e:TypeId} {y:Ty} (hu:P.underlying t=some (.slice e)) (hy:Bg P e=some y)
  {hi mx:Operand} {n:Nat} {h:Int} (hh:GI (ρ hi)=some h) (hm:GI (ρ mx)=some h) (A:Option Addr) (cap:Nat) (hcap:h<=(cap:Int)) (h0:0<=h) :
  (Instr.sliceAt t (.slice A n cap) none (some (a.eval hi)) (some (a.eval mx))).run P w=.ok (.slice A h.toNat h.toNat) w:=by
 obtain⟨j,hi',_,hs,_,_⟩:=CV hy;have hsb:∀(k:IntKind) (x:Int) (b:Nat) (c:BoundsCode),0<=x->x<=(b:Int)->(Instr.sliceBound (.int k x) b c).run P w=.ok x.toNat w:=fun k x b c p q=>by
  simp[Instr.sliceBound,asIntOf,p,q]
 obtain⟨k,hk⟩:=JU hh;obtain⟨k',hk'⟩:=JU hm;have e1:=hρ _ _ hk;have e2:=hρ _ _ hk';rcases e1 with ⟨e1⟩;rcases e2 with ⟨e2⟩;generalize hev:a.eval hi=q at e1;generalize hev':a.eval mx=q' at e2;cases e1;cases e2;have key:(Instr.sliceBounds true n cap none (some (.int k h)) (some (.int k' h))).run P w=.ok (0,h.toNat,h.toNat) w:=by
  simp[Instr.sliceBounds,hsb k h h.toNat _ h0 (by omega),hsb k' h cap _ h0 hcap]
 have e3:∀x:Nat,(if h.toNat=0 then A else A.map (·.add (0*x)))=A:=fun x=>by
  split
  ·rfl
  ·cases A<;>simp[Addr.add]
 simp[Instr.sliceAt,Instr.slice,run_underlying hu,key,EY hi',hs]
 try (cases A<;>simp[Addr.add])
theorem oU {ss:List SV} {s:SV} (h:OP ss=some s) {vs:List Value} (hd:By M w ss vs) (ts:Array TypeId) (t:TypeId):∃u,(Builtin.min_ ts t vs.toArray).run P w=.ok u w/\Ax M w s u:=by
 obtain⟨hl,hd⟩:=hd;unfold OP at h;split at h
 ·rename_i k a' k' b';split at h
  ·rename_i hk;subst hk;cases h
   match vs,hl with
   |[x,y],_ =>
     have h0:=hd 0 (by simp);have h1:=hd 1 (by simp);simp[SV.at]at h0 h1;cases h0;cases h1;refine⟨.int k (min a' b'),?_,.int _ _⟩;simp only[Builtin.min_,List.foldlM,Builtin.min2,Sem.run_pure,Sem.run_bind,Result.andThen_ok];grind
  ·cases h
 ·rename_i k a' k' b' k'' c';split at h
  ·rename_i hk;obtain⟨rfl,rfl⟩:=hk;cases h
   match vs,hl with
   |[x,y,z],_ =>
     have h0:=hd 0 (by simp);have h1:=hd 1 (by simp);have h2:=hd 2 (by simp);simp[SV.at]at h0 h1 h2;cases h0;cases h1;cases h2;refine⟨.int k (min (min a' b') c'),?_,.int _ _⟩;simp only[Builtin.min_,List.foldlM,Builtin.min2,Sem.run_pure,Sem.run_bind,Result.andThen_ok];grind
  ·cases h
 ·cases h
theorem oV {ss:List SV} {s:SV} (h:OQ ss=some s) {vs:List Value} (hd:By M w ss vs) (ts:Array TypeId) (t:TypeId):∃u,(Builtin.max_ ts t vs.toArray).run P w=.ok u w/\Ax M w s u:=by
 obtain⟨hl,hd⟩:=hd;unfold OQ at h;split at h
 ·rename_i k a' k' b';split at h
  ·rename_i hk;subst hk;cases h
   match vs,hl with
   |[x,y],_ =>
     have h0:=hd 0 (by simp);have h1:=hd 1 (by simp);simp[SV.at]at h0 h1;cases h0;cases h1;refine⟨.int k (max a' b'),?_,.int _ _⟩;simp only[Builtin.max_,List.foldlM,Builtin.max2,Sem.run_pure,Sem.run_bind,Result.andThen_ok];grind
  ·cases h
 ·rename_i k a' k' b' k'' c';split at h
  ·rename_i hk;obtain⟨rfl,rfl⟩:=hk;cases h
   match vs,hl with
   |[x,y,z],_ =>
     have h0:=hd 0 (by simp);have h1:=hd 1 (by simp);have h2:=hd 2 (by simp);simp[SV.at]at h0 h1 h2;cases h0;cases h1;cases h2;refine⟨.int k (max (max a' b') c'),?_,.int _ _⟩;simp only[Builtin.max_,List.foldlM,Builtin.max2,Sem.run_pure,Sem.run_bind,Result.andThen_ok];grind
  ·cases h
 ·cases h
theorem oW {t:TypeId} {n m:Int} (h0:0<=m) (h1:Ab .i64 (D7 n m)):∃r,((do pure ();binOp .shl t (.int .i64 n) (.int .i64 m)):Sem Value).run P w=.ok r w/\Ax M w (.int .i64 (D7 n m)) r:=by
 refine⟨.int .i64 (D7 n m),?_,.int _ _⟩;have e:IntKind.i64.wrap (n*2 ^ min m.toNat 64)=D7 n m:=h1.wrap;simp[binOp,Op.shift,Int.not_lt.2 h0];exact e
theorem oX {t:TypeId} {n m:Int} (h0:0<=m):∃r,((do pure ();binOp .shr t (.int .i64 n) (.int .i64 m)):Sem Value).run P w=.ok r w/\Ax M w (.int .i64 (Gt n m)) r:=by
 refine⟨.int .i64 (Gt n m),?_,.int _ _⟩;simp[binOp,Op.shift,Int.not_lt.2 h0];rfl
theorem oY {op:BinOp} {t:TypeId} {x y s:SV} {ps:List Prop} (h:OM P op t x y=some (ps,s)) (hp:all ps) {u v:Value} (hu:Ax M w x u) (hv:Ax M w y v) (X Y:Operand) :
  ∃r,((do eqGuard op t X Y u v;binOp op t u v):Sem Value).run P w=.ok r w/\Ax M w s r:=by
 unfold OM at h;split at h
 ·rename_i k n k' m;split at h
  ·rename_i hk;subst hk;cases hu;cases hv;rw[eqGuard_at_int];cases op<;>simp only[reduceCtorEq]at h
   case add=>cases h;refine⟨_,?_,.int _ _⟩;simp[binOp,Op.intArith,(hp _ (Ah9.2 rfl)).wrap]
   case sub=>cases h;refine⟨_,?_,.int _ _⟩;simp[binOp,Op.intArith,(hp _ (Ah9.2 rfl)).wrap]
   case mul=>cases h;refine⟨_,?_,.int _ _⟩;simp[binOp,Op.intArith,(hp _ (Ah9.2 rfl)).wrap]
   case quo =>
    cases h;have h0:m≠0:=hp _ (by simp);have h1:Ab k (n.tdiv m):=hp _ (by simp);refine⟨_,?_,.int _ _⟩;simp[binOp,Op.intDiv,h0,h1.wrap]
   case rem =>
    cases h;have h0:m≠0:=hp _ (by simp);refine⟨_,?_,.int _ _⟩;simp[binOp,Op.intDiv,h0]
   case and =>
    split at h
    ·rename_i hk;subst hk;cases h;exact⟨_,by simp[binOp,Op.intBits,EI];rfl,.int _ _⟩
    ·cases h
   case or =>
    split at h
    ·rename_i hk;subst hk;cases h;exact⟨_,by simp[binOp,Op.intBits,Gs];rfl,.int _ _⟩
    ·cases h
   case andNot =>
    split at h
    ·rename_i hk;subst hk;cases h;exact⟨_,by simp[binOp,Op.intBits,DG];rfl,.int _ _⟩
    ·cases h
   case shl =>
    split at h
    ·rename_i hk;subst hk;cases h;exact oW (t:=t) (hp _ (by simp)) (hp _ (by simp))
    ·cases h
   case shr =>
    split at h
    ·rename_i hk;subst hk;cases h;exact oX (t:=t) (hp _ (by simp))
    ·cases h
   case eql=>cases h;refine⟨.bool (decide (n=m)),?_,.bool _⟩;simp[binOp,Op.intCmp];rfl
   case neq=>cases h;refine⟨.bool (!decide (n=m)),?_,.bool _⟩;simp[binOp,Op.intCmp];rfl
   all_goals (cases h;refine⟨_,?_,.bool _⟩;simp[binOp,Op.intCmp])
  ·cases h
 ·rename_i b c;split at h
  ·rename_i hty;cases h;cases hu;cases hv;refine⟨.bool (b == c),?_,.bool _⟩;rw[eqGuard_at_bool];simp[binOp,Op.equal,Op.maxDepth,run_equalIn_bool w 9999 t _ _ hty]
  ·rename_i hty;cases h;cases hu;cases hv;refine⟨.bool (!(b == c)),?_,.bool _⟩;rw[eqGuard_at_bool];simp[binOp,Op.equal,Op.maxDepth,run_equalIn_bool w 9999 t _ _ hty]
  ·cases h
 ·rename_i xs ys;split at h
  ·cases h
  rename_i hg;have hg:P.eqGuardType P.depth t=false:=by grind
  have hu':=hu;have hv':=hv;cases hu with|agg _ us _ _=>cases hv with|agg _ vs _ _ =>
  have hgr:=fun op=>run_eqGuard_agg (P:=P) w op t X Y us.toArray vs.toArray hg;split at h
  ·simp only[Ah8]at h;obtain⟨b,hb,he⟩:=h;cases he;have:=OR 9 t _ _ b hb _ _ hu' hv' 10000 w (by omega);refine⟨_,?_,.bool _⟩;simp only[Sem.run_bind,hgr,Result.andThen_ok,binOp,Op.equal,Op.maxDepth,this,Sem.run_pure]
  ·simp only[Ah8]at h;obtain⟨b,hb,he⟩:=h;cases he;have:=OR 9 t _ _ b hb _ _ hu' hv' 10000 w (by omega);refine⟨_,?_,.bool _⟩;simp only[Sem.run_bind,hgr,Result.andThen_ok,binOp,Op.equal,Op.maxDepth,this,Sem.run_pure]
  ·cases h
 ·cases h
theorem S5 {t:TypeId} {y:Ty} (hy:Bg P t=some y) {pl:Nat->Option (Nat×Nat)} (h:JS P y.desc=some pl) (parts:List (Nat×Value)):P.built t parts=Instr.fill pl y.zero.cells parts:=by
 obtain⟨i,hi,hz,hs,hb,hu⟩:=CV hy;generalize y.desc=d at h hu;cases d with
 |struct fs =>
   simp only[JS,Ah8]at h;obtain⟨places,hp,rfl⟩:=h;simp only[Program.built,hi,hu,hz,hp]
 |array n e =>
   simp only[JS,Ah8]at h;obtain⟨ie,hp,rfl⟩:=h;simp only[Program.built,hi,hu,hz,hp]
 |_=>simp[JS]at h
theorem Dj {s:Sem Value} {v:Value} (h:s.run P w=.ok v w):(do pure (Next.value (<- s)):Sem Next).run P w=.ok (.value v) w:=by simp[h]
theorem oZ (S:Al P G st a w env M X) {ρ:Operand->Option EV} (hρ:∀x e,ρ x=some e->Ap P M w env e (a.eval x)) {op:Op} {ps:List Prop} {r:EV}
  (h:Il P st.own ρ op=some (ps,r)) (hp:all ps) (o:Oper) (ho:o.op=op):∃u,(execOp a.eval o).run P w=.ok (.value u) w/\Ap P M w env r u:=by
 unfold Il at h;split at h
 ·simp only[Ah8]at h;obtain⟨e,he,h⟩:=h;cases h;exact⟨_,by simp[execOp,ho],hρ _ _ he⟩
 ·simp only[Ah8]at h;obtain⟨e,he,h⟩:=h;cases h;exact⟨_,by simp[execOp,ho],hρ _ _ he⟩
 ·split at h
  ·rename_i y e hy he;obtain⟨u,h1,h2⟩:=OO S hy h hp (hρ _ _ he);exact⟨u,by simp only[execOp,ho];exact Dj h1,h2⟩
  ·cases h
 ·split at h
  ·rename_i fs e hu he;split at h
   ·rename_i f hf;split at h
    ·rename_i y hy;split at h
     ·cases h
     ·rename_i hz;obtain⟨u,h1,h2⟩:=oR (w:=w) hu hf hy hz h (hρ _ _ he);exact⟨u,by simp only[execOp,ho];exact Dj h1,h2⟩
    ·cases h
   ·cases h
  ·cases h
 ·-- indexAddr
  rename_i t x i;split at h
  ·rename_i e sz n get k z hu hx hi;split at h
   ·rename_i y hy;split at h
    ·rename_i hsz;cases h;obtain⟨h0,h1⟩:=AC hp;have e1:=hρ _ _ hx;have e2:=hρ _ _ hi;rcases e1 with ⟨e1⟩;rcases e2 with ⟨e2⟩;generalize hev:a.eval i=q at e2;cases e2;obtain⟨u,r1,r2⟩:=oS (k:=k) hu hy hsz e1 h0 h1;exact⟨u,by simp only[execOp,ho,hev];exact Dj r1,.p r2⟩
    ·cases h
   ·cases h
  ·rename_i e r' k z hu hx hi;split at h
   ·rename_i y e' sz n get hy hl;split at h
    ·rename_i hsz;cases h;obtain⟨h0,h1⟩:=AC hp;have e1:=hρ _ _ hx;have e2:=hρ _ _ hi;rcases e2 with ⟨e2⟩;generalize hev:a.eval i=q at e2;cases e2;obtain⟨hm,hgl,hO⟩:=S.own _ _ (Bp hl);generalize hev':a.eval x=q' at e1;cases e1 with
     |@row _ A' n' c' hrow =>
     rcases hO with ⟨_,_,hn⟩|⟨g,cap,cur,hg,hrv,_⟩
     ·omega
     ·rw[hrv]at hrow;cases hrow;have:=JT (P:=P) (w:=w) hu hy ⟨g,0,none⟩ n c' k z h0 h1;rw[Cw,AhO,hsz]at this;exact⟨_,by simp only[execOp,ho,hev,hev'];exact Dj this,.rptr hg⟩
    ·cases h
   ·rename_i y e' n bs hy hl;split at h
    ·rename_i hsz;cases h;obtain⟨h0,h1⟩:=AC hp;have e1:=hρ _ _ hx;have e2:=hρ _ _ hi;rcases e2 with ⟨e2⟩;generalize hev:a.eval i=q at e2;cases e2;obtain⟨hm,hbs,g,cap,cur,hg,hrv,_⟩:=S.own _ _ (Bp hl);generalize hev':a.eval x=q' at e1;cases e1 with
     |@row _ A' n' c' hrow =>
     rw[hrv]at hrow;cases hrow;have:=JT (P:=P) (w:=w) hu hy ⟨g,0,none⟩ n cap k z h0 h1;rw[Cw,AhO,hsz]at this;exact⟨_,by simp only[execOp,ho,hev,hev'];exact Dj this,.rptr hg⟩
    ·cases h
   ·rename_i y e3 e4 sz4 n bl cp len get hy hl;split at h
    ·rename_i hsz;cases h;obtain⟨h0,h1⟩:=AC hp;have e1:=hρ _ _ hx;have e2:=hρ _ _ hi;rcases e2 with ⟨e2⟩;generalize hev:a.eval i=q at e2;cases e2;obtain⟨hm,_,_,hO⟩:=S.own _ _ (Bp hl);generalize hev':a.eval x=q' at e1;cases e1 with
     |@row _ A' n' c' hrow =>
     rcases hO with ⟨_,_,hn⟩|⟨g,cap,cur,hg,hrv,_⟩
     ·omega
     ·rw[hrv]at hrow;cases hrow;have:=JT (P:=P) (w:=w) hu hy ⟨g,0,none⟩ n c' k z h0 h1;rw[Cw,AhO,hsz]at this;exact⟨_,by simp only[execOp,ho,hev,hev'];exact Dj this,.rptr hg⟩
    ·cases h
   ·cases h
  ·rename_i e k0 i0 b0 n0 c0 k z hu hx hi;split at h
   ·rename_i y hy;split at h
    ·rename_i hsz;cases h;obtain⟨h0,h1⟩:=AC hp;have e1:=hρ _ _ hx;have e2:=hρ _ _ hi;rcases e2 with ⟨e2⟩;generalize hev:a.eval i=q at e2;cases e2;generalize hev':a.eval x=q' at e1;cases e1;have:=JT (P:=P) (w:=w) hu hy ⟨b0,0,none⟩ n0 c0 k z h0 h1;rw[Cw,AhO,hsz,Nat.mul_one]at this;exact⟨_,by simp only[execOp,ho,hev,hev'];exact Dj this,.rrptr⟩
    ·cases h
   ·cases h
  ·rename_i e r' sz lo n k z hu hx hi;split at h
   ·rename_i y hy;split at h
    ·rename_i hsz;cases h;obtain⟨h0,h1⟩:=AC hp;have e1:=hρ _ _ hx;have e2:=hρ _ _ hi;rcases e2 with ⟨e2⟩;generalize hev:a.eval i=q at e2;cases e2;generalize hev':a.eval x=q' at e1;cases e1 with
     |rsub A c' _ _ hA =>
     obtain⟨g,hg,rfl⟩:=hA (by omega);have:=JT (P:=P) (w:=w) hu hy ⟨g,lo*sz,none⟩ n c' k z h0 h1;rw[Cw,hsz,<- Aia]at this;refine⟨_,by simp only[execOp,ho,hev,hev'];exact Dj this,?_⟩;have:=@Ap.rptr P M w env r' sz (lo+z.toNat) 0 g hg;rwa[Nat.add_zero]at this
    ·cases h
   ·cases h
  ·rename_i n e cs off k z hu hx hi;split at h
   ·rename_i y hy;split at h
    ·cases h;obtain⟨h0,h1⟩:=AC hp;have e1:=hρ _ _ hx;have e2:=hρ _ _ hi;rcases e1 with ⟨e1⟩;rcases e2 with ⟨e2⟩;generalize hev:a.eval i=q at e2;cases e2;generalize hev':a.eval x=q' at e1;cases e1 with
     |ref _ _ vs ad hM hc ho' hd =>
     have:=OS (P:=P) (w:=w) hu hy (ad.add off) k z h0 h1;rw[Hk]at this;exact⟨_,by simp only[execOp,ho,hev,hev'];exact Dj this,.p (.ref _ _ vs ad hM hc ho' hd)⟩
    ·cases h
   ·cases h
  ·rename_i n e b off k z hu hx hi;split at h
   ·rename_i y hy;split at h
    ·cases h;obtain⟨h0,h1⟩:=AC hp;have e1:=hρ _ _ hx;have e2:=hρ _ _ hi;rcases e2 with ⟨e2⟩;generalize hev:a.eval i=q at e2;cases e2;generalize hev':a.eval x=q' at e1;cases e1 with
     |@loc _ _ g hg =>
     have:=OS (P:=P) (w:=w) hu hy ⟨g,off,none⟩ k z h0 h1;rw[Cw]at this;exact⟨_,by simp only[execOp,ho,hev,hev'];exact Dj this,.loc hg⟩
    ·cases h
   ·cases h
  ·rename_i n e r' sz i' k z hu hx hi;split at h
   ·rename_i y hy;split at h
    ·rename_i hc;obtain⟨_,hsz⟩:=hc;cases h;obtain⟨h0,h1⟩:=AC hp;have e1:=hρ _ _ hx;have e2:=hρ _ _ hi;rcases e2 with ⟨e2⟩;generalize hev:a.eval i=q at e2;cases e2;generalize hev':a.eval x=q' at e1;cases e1 with
     |@rptr _ _ _ _ g hg =>
     have:=OS (P:=P) (w:=w) hu hy ⟨g,i'*sz+0,none⟩ k z h0 h1;rw[Cw,<- hsz,Nat.add_zero,<- Aia]at this;exact⟨_,by simp only[execOp,ho,hev,hev',Nat.add_zero];exact Dj this,.rptr hg⟩
    ·cases h
   ·cases h
  ·cases h
 ·-- field
  rename_i t x i;split at h
  ·rename_i fs cs hu hx;split at h
   ·rename_i f hf;split at h
    ·rename_i y hy;simp only[Ah8]at h;obtain⟨s,hs,h⟩:=h;cases h;have e1:=hρ _ _ hx;rcases e1 with ⟨e1⟩;generalize hev:a.eval x=q at e1;cases e1 with
     |agg _ vs hl hd =>
     obtain⟨u,h1,h2⟩:=JQ hy hl hs hd;refine⟨u,?_,.p h2⟩;simp only[execOp,ho,hev];refine Dj ?_;have hf':fs[i]? = some f:=by simpa using hf
     simp[Instr.field,run_underlying hu,hf',asAgg,h1]
    ·cases h
   ·cases h
  ·cases h
 ·-- index
  rename_i t x i;split at h
  ·rename_i n e cs k z hu hx hi;split at h
   ·rename_i y hy;have e1:=hρ _ _ hx;have e2:=hρ _ _ hi;rcases e1 with ⟨e1⟩;rcases e2 with ⟨e2⟩;generalize hev:a.eval i=q at e2;cases e2;generalize hev':a.eval x=q' at e1;cases e1 with
    |agg _ vs hl hd =>
    obtain⟨j,hi',_,hs,_,hu'⟩:=CV hy
    by_cases ha:Eb y.desc=true
    ·rw[if_pos ha]at h;simp only[Ah8]at h;obtain⟨s,hs',h⟩:=h;cases h;obtain⟨h0,h1⟩:=AC hp;obtain⟨u,r1,r2⟩:=JQ hy hl hs' hd;refine⟨u,?_,.p r2⟩;simp only[execOp,ho,hev,hev'];refine Dj ?_;simp[Instr.index,asIntOf,run_underlying hu,h0,h1,EY hi',hs,r1]
    ·rw[if_neg ha]at h;split at h
     ·rename_i hc;obtain⟨hc1,hc2⟩:=hc;cases h;obtain⟨h0,h1⟩:=AC hp;have hlt:z.toNat<cs.length:=by omega
      obtain⟨u,r1,r2⟩:=JQ (M:=M) (w:=w) hy hl (s:=SV.at cs z.toNat) (off:=z.toNat) (by unfold Fm;rw[if_neg ha];simp[SV.at,AS,Ahz hlt]) hd;refine⟨u,?_,.p (by rw[Ss hlt];exact r2)⟩;simp only[execOp,ho,hev,hev'];refine Dj ?_;simp[Instr.index,asIntOf,run_underlying hu,h0,h1,EY hi',hs,hc1,r1]
     ·cases h
   ·cases h
  ·cases h
 ·-- binOp
  split at h
  ·rename_i x y hx hy;simp only[Ah8]at h;obtain⟨⟨ps',s⟩,hs,h⟩:=h;cases h;have e1:=hρ _ _ hx;have e2:=hρ _ _ hy;rcases e1 with ⟨e1⟩;rcases e2 with ⟨e2⟩;obtain⟨u,h1,h2⟩:=oY hs hp e1 e2 _ _;exact⟨u,by simp only[execOp,ho];exact Dj h1,.p h2⟩
  ·cases h
 ·-- unOp
  split at h
  ·rename_i b hx;cases h;have e1:=hρ _ _ hx;rcases e1 with ⟨e1⟩;generalize hev:a.eval _=q at e1;cases e1;exact⟨_,by simp only[execOp,ho,hev];exact Dj (by simp[Op.unary]),.p (.bool _)⟩
  ·rename_i k n hx;cases h;have e1:=hρ _ _ hx;rcases e1 with ⟨e1⟩;generalize hev:a.eval _=q at e1;cases e1;have:=(AC hp).wrap;exact⟨_,by simp only[execOp,ho,hev];exact Dj (by simp only[Op.unary,Op.intArith,this];rfl),.p (.int _ _)⟩
  ·cases h
 ·-- convert
  split at h
  ·rename_i k n hx;split at h
   ·rename_i k1 k2 h1 h2;cases h;have e1:=hρ _ _ hx;rcases e1 with ⟨e1⟩;generalize hev:a.eval _=q at e1;cases e1;have:=(AC hp).wrap;exact⟨_,by simp only[execOp,ho,hev];exact Dj (by simp[convert,run_underlying h1,run_underlying h2,Conv.intToInt,this]),.p (.int _ _)⟩
   ·cases h
  ·cases h
 ·-- makeFunc
  rename_i f first caps;split at h
  ·rename_i hf;simp only[Ah8]at h;obtain⟨es,hes,h⟩:=h;have hf':first = #[]:=Array.eq_empty_of_size_eq_zero hf;subst hf';obtain⟨h1,h2⟩:=MN hρ _ _ hes;have hrun:(execOp a.eval o).run P w=.ok (.value (.func (.func f) #[] (caps.toList.map a.eval).toArray)) w:=by
    simp only[execOp,ho];refine Dj ?_;simp only[Instr.makeFunc,Sem.run_pure,Array.map_empty];congr 3;apply AhY;simp
   split at h
   ·rename_i ss hss;cases h;have:=Jd hss h1 h2;exact⟨_,hrun,.p (.clo f ss _ this.1 this.2)⟩
   ·cases h;exact⟨_,hrun,.cl f es _ h1 h2⟩
  ·cases h
 ·-- extract
  rename_i x ix;split at h
  ·rename_i vs hx;simp only[Ah8]at h;obtain⟨s,hs,h⟩:=h;cases h;have e1:=hρ _ _ hx;rcases e1 with ⟨e1⟩;generalize hev:a.eval _=q at e1;cases e1 with
   |tup _ us hl hd =>
   have hlt:=(AiC.1 hs).1;have hu:us[ix]? = some (us.getD ix undef):=by rw[AS,Ahz (by omega)];rfl
   refine⟨_,by simp only[execOp,ho,hev];exact Dj (by simp only[Instr.extract,AiG];rw[hu];rfl),.p ?_⟩;have:=hd _ hlt;rwa[show SV.at vs ix=s by simp[SV.at,AS,hs]]at this
  ·rename_i es hx;simp only[Ah8]at h;obtain⟨e,he,h⟩:=h;cases h;have e1:=hρ _ _ hx;generalize hev:a.eval _=q at e1;cases e1 with
   |ag _ _ us hl hd =>
   have hlt:=(AiC.1 he).1;have hu:us[ix]? = some (us.getD ix undef):=by rw[AS,Ahz (by omega)];rfl
   refine⟨_,by simp only[execOp,ho,hev,cond_true];exact Dj (by simp only[Instr.extract,AiG];rw[hu];rfl),?_⟩;have:=hd _ hlt;have he2:EV.at es ix=r:=by simp[EV.at,AS,he]
   rwa[he2]at this
  ·cases h
 ·-- nilCheck
  split at h
  ·rename_i hx;cases h;have e1:=hρ _ _ hx;have e0:=e1;rcases e1 with ⟨e1⟩;generalize hev:a.eval _=q at e1 e0;cases e1;exact⟨_,by simp[execOp,ho,hev],e0⟩
  ·rename_i hx;cases h;have e1:=hρ _ _ hx;have e0:=e1;generalize hev:a.eval _=q at e1 e0;cases e1;exact⟨_,by simp[execOp,ho,hev],e0⟩
  ·rename_i hx;cases h;have e1:=hρ _ _ hx;have e0:=e1;generalize hev:a.eval _=q at e1 e0;cases e1;exact⟨_,by simp[execOp,ho,hev],e0⟩
  ·cases h
 ·-- build
  rename_i t parts;split at h
  ·rename_i y l hy hl;split at h
   ·rename_i pl hpl;simp only[Ah8]at h;obtain⟨cs,hcs,h⟩:=h;cases h;obtain⟨h1,h2⟩:=MM hρ _ _ hl;obtain⟨vs',r1,r2⟩:=Lq pl l _ h1 h2 _ _ y.zero.cells.toList (Gw _) hcs;refine⟨.agg vs'.toArray,?_,.p r2.agg⟩;simp only[execOp,ho];refine Dj (run_build w t _ _ ?_);rw[S5 hy hpl,<- r1];simp
   ·cases h
  ·rename_i y hy hl;split at h
   ·rename_i pl l hpl hl;simp only[Ah8]at h;obtain⟨cs,hcs,h⟩:=h;cases h;obtain⟨h1,h2⟩:=Sz hρ _ _ hl;have hz:Hm P M w env (y.zero.cells.toList.map fun v=>.p (Cx v)) y.zero.cells.toList:=by
     have:=Gw (M:=M) (w:=w) y.zero.cells.toList;refine⟨by simp,fun i hi=>?_⟩;have e:(y.zero.cells.toList.map fun v=>EV.p (Cx v))=(y.zero.cells.toList.map Cx).map .p:=by simp
     rw[e]at hi ⊢;exact Je this i hi
    obtain⟨vs',r1,r2⟩:=Sy pl l _ h1 h2 _ _ y.zero.cells.toList hz hcs;refine⟨.agg vs'.toArray,?_,.ag false cs vs' r2.1 r2.2⟩;simp only[execOp,ho];refine Dj (run_build w t _ _ ?_);rw[S5 hy hpl,<- r1];simp
   ·cases h
  ·cases h
 ·-- slice
  rename_i t x lo hi;split at h
  ·rename_i e sz n get hu hx;split at h
   ·rename_i y l h' hy hb;split at h
    ·rename_i hsz;cases h;obtain⟨h0,h1,h2⟩:=AC hp;have e1:=hρ _ _ hx;rcases e1 with ⟨e1⟩;generalize hev:a.eval x=q at e1;cases e1 with
     |sl _ _ _ A cap vs hcap hm hA hg ho' hd =>
     refine⟨_,by simp only[execOp,ho,hev];exact Dj (JV hρ hu hy hb A cap hcap h0 h1 h2),.p ?_⟩;have hn:h'.toNat-l.toNat=(h'-l).toNat:=by omega
     rw[hn];refine .sl _ _ _ _ _ (fun i j=>vs (l.toNat+i) j) (by omega) (by omega) (fun hpos=>?_) (fun i hi=>hg _ (by omega)) (fun i hi j hj=>ho' _ (by omega) j hj) (fun i hi j hj=>hd _ (by omega) j hj);obtain⟨ad,rfl,hM,hc⟩:=hA (by omega);rw[if_neg (by omega)];refine⟨_,rfl,by rw[JO];exact hM,fun i hi j hj=>?_⟩;rw[Hk,hsz];have:=hc (l.toNat+i) (by omega) j hj;rwa[Aia,Nat.add_assoc]at this
    ·cases h
   ·cases h
  ·rename_i e r' hu hx;split at h
   ·rename_i y e' sz n get hy hl;split at h
    ·rename_i l h' hb;split at h
     ·rename_i hsz;cases h;obtain⟨h0,h1,h2⟩:=AC hp;have e1:=hρ _ _ hx;generalize hev:a.eval x=q at e1;rcases e1 with _|_|⟨hrow⟩;obtain⟨hm,hgl,hO⟩:=S.own _ _ (Bp hl);have hn:h'.toNat-l.toNat=(h'-l).toNat:=by omega
      rcases hO with ⟨_,hrv,hn0⟩|⟨g,cap,cur,hg,hrv,hh,hnc,_⟩
      ·subst hn0;rw[hrv]at hrow;cases hrow;refine⟨_,by simp only[execOp,ho,hev];exact Dj (JV hρ hu hy hb none 0 (Ah0 _) h0 h1 h2),?_⟩;rw[hn];exact .rsub _ _ (by omega) (by omega) (fun hpos=>by omega)
      ·rw[hrv]at hrow;cases hrow;refine⟨_,by simp only[execOp,ho,hev];exact Dj (JV hρ hu hy hb _ _ hnc h0 h1 h2),?_⟩;rw[hn];refine .rsub _ _ (by omega) (by omega) (fun hpos=>⟨g,hg,?_⟩);rw[if_neg (by omega)];simp only[Option.map_some,Cw,AhO,hsz]
     ·cases h
    ·cases h
   ·cases h
  ·rename_i e hu hx;split at h
   ·rename_i y l h' hy hb;cases h;obtain⟨h0,h1,h2⟩:=AC hp;have e1:=hρ _ _ hx;rcases e1 with ⟨e1⟩;generalize hev:a.eval x=q at e1;cases e1;refine⟨_,by simp only[execOp,ho,hev];exact Dj (JV hρ hu hy hb none 0 (Ah0 _) h0 h1 h2),?_⟩;rw[show h'.toNat-l.toNat=0 by omega,show 0-l.toNat=0 by omega];have:∀f:Addr->Addr,(if 0=l.toNat then(none:Option Addr)else Option.map f none)=none:=fun f=>by split<;>rfl
    rw[this];exact .p (.raw _)
   ·cases h
  ·cases h
 ·-- a slice with a bound
  rename_i t x hi mx;split at h
  ·rename_i e sz n get h' m hu hx hh hm;split at h
   ·rename_i y hy;cases h;obtain⟨h0,h1,h2⟩:=AC hp;subst h2;have e1:=hρ _ _ hx;rcases e1 with ⟨e1⟩;generalize hev:a.eval x=q at e1;cases e1 with
    |sl _ _ _ A cap vs hcap hmx hA hg ho' hd =>
    have r:=oT (P:=P) (w:=w) (n:=n) hρ hu hy hh hm A cap (by omega) h0;refine⟨_,by simp only[execOp,ho,hev];exact Dj r,.full ?_ ⟨fun _=>rfl,fun hf=>by cases hf⟩⟩;exact .sl _ _ _ _ _ (fun i j=>vs i j) (Ah0 _) (by omega) (fun hpos=>by
     obtain⟨ad,e,hM,hc⟩:=hA (by omega);exact⟨ad,e,hM,fun i hi j hj=>hc i (by omega) j hj⟩) (fun i hi=>hg _ (by omega)) (fun i hi j hj=>ho' _ (by omega) j hj) (fun i hi j hj=>hd _ (by omega) j hj)
   ·cases h
  ·cases h
 ·-- cap
  rename_i args ts;split at h
  ·rename_i x t hx ht;have hargs:args = #[x]:=by apply AhY;simpa using hx
   have hts:ts = #[t]:=by apply AhY;simpa using ht
   subst hargs hts;split at h
   ·rename_i e A n cap hu hx;cases h;have e1:=hρ _ _ hx;rcases e1 with ⟨e1⟩;generalize hev:a.eval x=q at e1;cases e1;refine⟨_,?_,.p (.int _ _)⟩;simp[execOp,ho,resolve,invoke,builtin,hev,Builtin.cap_,run_underlying hu,goInt]
   ·cases h
  ·cases h
 ·-- len
  rename_i args ts;split at h
  ·rename_i x t hx ht;have hargs:args = #[x]:=by apply AhY;simpa using hx
   have hts:ts = #[t]:=by apply AhY;simpa using ht
   subst hargs hts;have hrun:∀u:Value,(Builtin.len_ #[t] o.type #[a.eval x]).run P w=.ok u w->(execOp a.eval o).run P w=.ok (.value u) w:=fun u hu=>by
    simp[execOp,ho,resolve,invoke,builtin,hu]
   split at h
   ·rename_i e sz n get hu hx;cases h;have e1:=hρ _ _ hx;rcases e1 with ⟨e1⟩;generalize hev:a.eval x=q at e1 hrun;cases e1;exact⟨_,hrun _ (by simp[Builtin.len_,run_underlying hu,goInt]),.p (.int _ _)⟩
   ·rename_i e A n cap hu hx;cases h;have e1:=hρ _ _ hx;rcases e1 with ⟨e1⟩;generalize hev:a.eval x=q at e1 hrun;cases e1;exact⟨_,hrun _ (by simp[Builtin.len_,run_underlying hu,goInt]),.p (.int _ _)⟩
   ·rename_i e r' hu hx;split at h
    ·rename_i e' sz n get hl;cases h;have e1:=hρ _ _ hx;generalize hev:a.eval x=q at e1 hrun;rcases e1 with _|_|⟨hrow⟩;obtain⟨hm,hgl,hO⟩:=S.own _ _ (Bp hl);rcases hO with ⟨_,hrv,hn0⟩|⟨g,cap,cur,hg,hrv,_⟩
     ·subst hn0;rw[hrv]at hrow;cases hrow;exact⟨_,hrun _ (by simp[Builtin.len_,run_underlying hu,goInt]),.p (.int _ _)⟩
     ·rw[hrv]at hrow;cases hrow;exact⟨_,hrun _ (by simp[Builtin.len_,run_underlying hu,goInt]),.p (.int _ _)⟩
    ·cases h
   ·rename_i e r' sz lo n hu hx;cases h;have e1:=hρ _ _ hx;generalize hev:a.eval x=q at e1 hrun;cases e1;exact⟨_,hrun _ (by simp[Builtin.len_,run_underlying hu,goInt]),.p (.int _ _)⟩
   ·rename_i e q' sz n get hu hx;cases h;have e1:=hρ _ _ hx;generalize hev:a.eval x=q at e1 hrun;cases e1;exact⟨_,hrun _ (by simp[Builtin.len_,run_underlying hu,goInt]),.p (.int _ _)⟩
   ·rename_i n e ev hu hx;cases h;exact⟨_,hrun _ (by simp[Builtin.len_,run_underlying hu,goInt]),.p (.int _ _)⟩
   ·rename_i kt e r' hu hx;split at h
    ·rename_i kt' n get hl;cases h;have e1:=hρ _ _ hx;generalize hev:a.eval x=q at e1 hrun;cases e1 with
     |mapv hg =>
     obtain⟨g,es,clock,ha,hh,hz,_⟩:=S.own _ _ (Bp hl);rw[hg]at ha;cases ha;exact⟨_,hrun _ (by simp[Builtin.len_,run_underlying hu,goInt,MapKept.run_getObj_map hh,hz]),.p (.int _ _)⟩
    ·cases h
   ·cases h
  ·cases h
 ·-- min
  rename_i args ts;split at h
  ·rename_i es hes;split at h
   ·rename_i ss hss;simp only[Ah8]at h;obtain⟨s,hs,h⟩:=h;cases h;obtain⟨h1,h2⟩:=MN hρ _ _ hes;obtain⟨u,r1,r2⟩:=oU (P:=P) hs (Jd hss h1 h2) ts o.type;refine⟨u,?_,.p r2⟩;have:args.map a.eval=(args.toList.map a.eval).toArray:=by apply AhY;simp
    simp[execOp,ho,resolve,invoke,builtin,this,r1]
   ·cases h
  ·cases h
 ·-- max
  rename_i args ts;split at h
  ·rename_i es hes;split at h
   ·rename_i ss hss;simp only[Ah8]at h;obtain⟨s,hs,h⟩:=h;cases h;obtain⟨h1,h2⟩:=MN hρ _ _ hes;obtain⟨u,r1,r2⟩:=oV (P:=P) hs (Jd hss h1 h2) ts o.type;refine⟨u,?_,.p r2⟩;have:args.map a.eval=(args.toList.map a.eval).toArray:=by apply AhY;simp
    simp[execOp,ho,resolve,invoke,builtin,this,r1]
   ·cases h
  ·cases h
 ·cases h
end
inductive Spec where
 |fn (pre:List EV->Prop) (res:List EV->SV)
 |rel (T:Type) (t0:T) (pre:List EV->Prop) (post:List EV->T->Prop) (res:List EV->T->SV)
 |fresh (T:Type) (t0:T) (pre:List EV->Prop) (post:List EV->T->Prop) (e:TypeId) (sz:Nat) (n:List EV->T->Nat) (get:List EV->T->Nat->List SV)
def GJ:Ar:={ at_:=fun _=>none,rv:=fun _=>undef,yl:=0 }
def Lr:EV->Bool
 | .p _ | .fn _=>true
 |_=>false
def FL (P:Program) (M:Nat->Prop) (w:World) (args:List EV) (vals:List Value):Prop :=
 vals.length=args.length/\∀i,i<args.length->Lr (EV.at args i)=true/\Ap P M w GJ (EV.at args i) (vals.getD i undef)
def Az (P:Program) (f:Nat):Spec->Prop
 | .fn pre res=>∀(M:Nat->Prop) (w:World) args vals,(∀b,M b->b<w.heap.size)->FL P M w args vals->pre args->CallsIn Fence.wide 0 P f vals.toArray w (Ig M w (res args))
 | .rel T _ pre post res =>∀(M : Nat->Prop) (w : World) args vals, (∀b, M b->b<w.heap.size)->FL P M w args vals->pre args ->
  CallsIn Fence.wide 0 P f vals.toArray w (fun e w'=>∃t:T,post args t/\Ig M w (res args t) e w')
 | .fresh T _ pre post e sz n get =>∀(M : Nat->Prop) (w : World) args vals, (∀b, M b->b<w.heap.size)->FL P M w args vals->pre args ->
  CallsIn Fence.wide 0 P f vals.toArray w (fun en w'=>∃t:T,post args t/\∃env v,en=.returned v/\Bl w.heap.size w w'/\B8 P (fun b=>M b\/(w.heap.size<=b/\b<w'.heap.size/\env.at_ 0≠some b)) w' env 0 (.row e sz (n args t) (get args t))/\env.rv 0=v /\
   (∀g,env.at_ 0=some g->w.heap.size<=g/\g<w'.heap.size))
structure EZ where
 T:Type
 keep:List Nat
 keepO:List Nat
 chg:T->List (Nat×EV)
 own:T->List (Nat×Ah)
 inv:T->Prop
 mu:T->Nat
 yk:Option (T->Nat):=none
 tie:T->List (Nat×SV):=fun _=>[]
def EV.ren (f:Nat->Nat):EV->EV
 | .loc b off=>.loc (f b) off
 | .row r=>.row (f r)
 | .mapv r=>.mapv (f r)
 | .rsub r sz lo n=>.rsub (f r) sz lo n
 | .rptr r sz i off=>.rptr (f r) sz i off
 | .rpre r n=>.rpre (f r) n
 | .fptr bs i=>.fptr (bs.map f) i
 | .rrow k i b n c=>.rrow (f k) i b n c
 | .rrptr k i j b=>.rrptr (f k) i j b
 | .cl g caps=>.cl g (renL f caps)
 | .ag q cs=>.ag q (renL f cs)
 |e=>e
where renL (f:Nat->Nat):List EV->List EV
 |[]=>[]
 |e::l=>e.ren f::renL f l
def Ah.ren (f:Nat->Nat):Ah->Ah
 | .blk t cs=>.blk t (EV.ren.renL f cs)
 | .row e sz n get=>.row e sz n get
 | .mp kt n get=>.mp kt n get
 | .mq kt vt dom val=>.mq kt vt dom val
 | .oblk b t cs=>.oblk b t (EV.ren.renL f cs)
 | .omq b kt vt val=>.omq b kt vt val
 | .ms kt vt ok=>.ms kt vt ok
 | .prow e n bs=>.prow e n (bs.map f)
 | .rr e e2 sz n bl cp len get=>.rr e e2 sz n bl cp len get
def Cy (f:Nat->Nat):List (Nat×Ah)->List (Nat×Ah)
 |[]=>[]
 |(k,o)::l=>(f k,o.ren f)::Cy f l
def Bq (l:List (Nat×Ah)):List Nat:=l.map (·.1)
structure Tr where
 T:Type
 U:Type
 args:T->List EV
 own:T->List (Nat×Ah)
 pre:T->Prop
 post:T->U->Prop
 own':T->U->List (Nat×Ah)
 res:T->U->EV
def EV.within (ks:List Nat):EV->Bool
 | .loc b _=>ks.contains b
 | .row r | .rsub r _ _ _ | .rptr r _ _ _ | .mapv r | .rpre r _=>ks.contains r
 | .fptr bs _=>bs.all ks.contains
 | .cl _ cs=>withinL ks cs
 | .ag _ cs=>withinL ks cs
 |_=>true
where withinL (ks:List Nat):List EV->Bool
 |[]=>true
 |e::l=>e.within ks&&withinL ks l
def Ah.within (ks:List Nat):Ah->Bool
 | .blk _ cs=>EV.within.withinL ks cs
 | .row ..=>true
 | .mp ..=>true
 | .mq ..=>true
 | .oblk _ _ cs=>EV.within.withinL ks cs
 | .omq ..=>true
 | .ms ..=>true
 | .prow _ _ bs=>bs.all ks.contains
 | .rr ..=>true
structure Mk where
 T:Type
 U:Type
 args:T->List EV
 lkeys:List Nat
 keys:List Nat
 lent:T->List (Nat×Ah)
 pre:T->Prop
 post:T->U->Prop
 lent':T->U->List (Nat×Ah)
 own:T->U->List (Nat×Ah)
 res:T->U->EV
 mv:Option (Nat×Nat):=none
 nilr:List (Nat×Nat×TypeId×Nat):=[]
def C5 (mv:Option (Nat×Nat)):List Nat:=match mv with
 |some (k,_)=>[k]
 |none=>[]
def E8 (mv:Option (Nat×Nat)):Nat->Nat:=match mv with
 |some (k,s)=>fun j=>if j=k then s else j
 |none=>fun j=>j
structure FM where
 T:Type
 args:T->List SV
 t:TypeId
 kt:TypeId
 vt:TypeId
 head:T->List SV
 val:T->Int->SV
 pre:T->Prop
 res:T->SV
structure JW where
 bs:List Nat
 t:TypeId
 kt:TypeId
 vt:TypeId
 head:Nat->List SV
 val:Nat->Int->SV
structure Ga where
 pre:List SV->Prop
 cnt:List SV->Nat
 item:List SV->Nat->List SV
structure Dz where
 T:Type
 keep:List Nat
 keepO:List Nat
 own:Nat->T->List (Nat×Ah)
 inv:Nat->T->Prop
 tie:T->List (Nat×SV):=fun _=>[]
structure pA where
 l:Nat
 cnt:Nat
 item:Nat->List SV
structure Aj where
 muts:List Nat
 frz:Nat->List Nat
 specs:Nat->Option Spec
 loops:Nat->Option EZ
 iters:Nat->Option Ga
 rfs:Nat->Option Dz
 yld:Option pA:=none
 nils:Nat->List (Nat×Nat×TypeId×Nat):=fun _=>[]
 nilsL:Nat->List (Nat×Nat×TypeId×Nat):=fun _=>[]
 rek:Nat->List (Nat×Nat):=fun _=>[]
 mqs:Nat->Option (Int->SV):=fun _=>none
 mss:Nat->Option (Int->Int->Prop):=fun _=>none
 trs:Nat->Option Tr:=fun _=>none
 mks:Nat->Option Mk:=fun _=>none
 ren:Nat->Nat:=fun k=>k
 cuts:List Nat:=[]
 arrs:List Nat:=[]
 raws:List Nat:=[]
 anys:List Nat:=[]
 pres:List Nat:=[]
 prows:Nat->Option JW:=fun _=>none
 fams:Nat->Option FM:=fun _=>none
 joins:Nat->Option EZ:=fun _=>none
 cast:Nat->List (Nat×SV):=fun _=>[]
 castL:Nat->List (Nat×SV):=fun _=>[]
def BC:List Prop->Prop->Prop
 |[],K=>K
 |p::ps,K=>p/\BC ps K
theorem BD:∀{ps:List Prop} {K:Prop},BC ps K->all ps/\K
 |[],_,h=>⟨Lh,h⟩
 | p :: ps, K, h => ⟨fun q hq => by
     rcases Ah4.1 hq with rfl|hq
     ·exact h.1
     ·exact(BD h.2).1 q hq,(BD h.2).2⟩
def St.ent (st:St):Operand->Option AK
 | .tmp t=>GG st.T t
 | .const (.int k n)=>some ⟨none,.p (.int k n)⟩
 | .const (.bool b)=>some ⟨none,.p (.bool b)⟩
 | .const v=>some ⟨none,.p (.raw v)⟩
 | .func f=>some ⟨none,.p (.clo f [])⟩
 | .global _=>none
def free (gd g:gdT):Bool:=match g,gd with
 |none,_=>true
 |some (s,b,_),some (s',b',_)=>s == s'&&b == b'
 |some _,none=>false
def St.rho (st:St) (gd:gdT) (x:Operand):Option EV:=match st.ent x with
 |some e=>if free gd e.g then some e.v else none
 |none=>none
def CB:gdT->Prop
 |none=>True
 |some (_,_,b)=>b=true
def Ls (want b:Bool):gdT->Bool
 |none=>if want then b else !b
 |some (_,_,b0)=>b0&&(if want then b else !b)
def Im (ops:Array Oper) (st:St) (o:Oper):Option (gdT):=match o.guard with
 |none=>some none
 |some (j,want)=>match ops.toList[j]? with
   |some oj=>match oj.dst with
     |some d=>match GG st.T d with
       |some ⟨g,.p (.bool b)⟩=>some (some (d,want,Ls want b g))
       |_=>none
     |none=>none
   |none=>none
def wrapG (gd:gdT) (ps:List Prop):List Prop:=match gd with
 |none=>ps
 |some (_,_,b)=>ps.map fun p=>b=true->p
def OT (c:Bool):SV->SV->Option SV
 | .bool x,.bool y=>some (.bool (bif c then x else y))
 | .int k n,.int k' m=>if k=k' then some (.int k (bif c then n else m))else none
 |_,_=>none
def MP (cs:Nat) (c:Bool) (gd g:gdT) (want:Bool):Option (List Prop):=
 if free gd g then some []else match g with
 |none=>some []
 |some (s,w,b)=>if s == cs&&w == want then some []else some [c=want->b=true]
def OU (st:St) (gd:gdT) (c x y:Operand):Ii:=match c with
 | .tmp t=>match st.rho gd (.tmp t),st.ent x,st.ent y with
   |some (.p (.bool b)),some ⟨gx,.p sx⟩,some ⟨gy,.p sy⟩=>match OT b sx sy,MP t b gd gx true,MP t b gd gy false with
     |some s,some p1,some p2=>some (p1++p2,.p s)
     |_,_,_=>none
   |_,_,_=>none
 |_=>none
def Gb (P:Program) (st:St) (gd:gdT) (op:Op):Ii:=match op with
 | .pick c x y=>OU st gd c x y
 |op=>Il P st.own (st.rho gd) op
def St.forget (st:St) (k:Nat):St:={ st with T:=st.T.filter (fun x=>!(x.2.v.names k)) }
def St.noName (st:St) (k:Nat):Bool:=st.own.all fun x=>!(x.1 == k) && !(x.2.names k)
def newVar (C:Aj) (t:TypeId) (cs:List EV) (st:St) (d:Nat) (gd:gdT) (K:St->Prop):Prop :=
 if cs.all CW then
  if C.muts.contains d then(match gd with
   |none=>if (st.forget d).noName d && !(cs.any (·.names d))then K ({ st.forget d with own:=(d,.blk t cs)::st.own }.put (some d) ⟨none,.loc d 0⟩)else False
   |some _=>False)
  else match Dc cs with
   |some ss=>K (st.put (some d) ⟨gd,.p (.ref ss 0)⟩)
   |none=>False
 else False
def Lt (k:IntKind):List Value->Bool
 |[]=>true
 | .int k' z::l=>decide (k'=k)&&decide (z=0)&&Lt k l
 |_=>false
def MQ (P:Program) (t:TypeId) (y:Ty) (st:St) (d:Nat) (gd:gdT) (K:St->Prop):Prop:=match gd,P.underlying t with
 |none,some (.array n e)=>match P.underlying e with
   |some (.int k)=>if (y.zero.cells.size = n/\n<=16777216/\Lt k y.zero.cells.toList = true)/\(st.forget d).noName d = true then
    K ({ st.forget d with own:=(d,.row t 1 n (fun _=>[.int k 0]))::(st.forget d).own }.put (some d) ⟨none,.rptr d 1 0 0⟩)else False
   |_=>False
 |_,_=>False
def Cl (l:List (Nat×Ah)) (k:Nat) (o:Ah):List (Nat×Ah):=l.map fun x=>if x.1 == k then(k,o)else x
def setRow (get:Nat->List SV) (i off:Nat) (l:List SV):Nat->List SV:=fun j=>if j=i then GH (get j) off l else get j
def GK (get:Nat->Nat->List SV) (i j:Nat) (l:List SV):Nat->Nat->List SV:=fun i' j'=>if i'=i then(if j'=j then l else get i' j')else get i' j'
def Hn (st:St) (y:Ty) (p:EV) (e:EV):Option (List Prop×St):=match p with
 | .loc b off=>match BL st.own b with
   |some (.blk t cs)=>let c:=BS e
     if c.length=y.size/\off+y.size<=cs.length/\c.all CW then some ([],{ st with own:=Cl st.own b (.blk t (EJ cs off c)) })else none
   |_=>none
 | .rptr r sz i off=>match BL st.own r,e with
   |some (.row t sz' n get),.p s=>let c:=cellsOf s
     if sz'=sz/\c.length=y.size/\off+y.size<=sz/\c.all (fun s=>CW (.p s))then some ([i<n],{ st with own:=Cl st.own r (.row t sz n (setRow get i off c)) })
     else if sz'=1/\sz=1/\i=0/\off=0/\c.length=n/\y.size=n/\c.all (fun s=>CW (.p s))then some ([],{ st with own:=Cl st.own r (.row t 1 n (fun j=>[Lk c j])) })else none
   |_,_=>none
 | .rrptr k i j b=>match BL st.own k,e with
   |some (.rr e1 e2 sz n bl cp len get),.p s=>let c:=cellsOf s
     if sz=1/\y.size=1/\c.length=1/\c.all (fun s=>CW (.p s))then some ([b=bl i/\i<n/\j<len i],{ st with own:=Cl st.own k (.rr e1 e2 sz n bl cp len (GK get i j c)) })else none
   |_,_=>none
 |_=>none
def pB:Option TypeDesc->Bool
 |some (.func ..)=>true
 |_=>false
def S6 (P:Program) (t:TypeId):Option Ty:=match P.underlying t with
 |some (.slice e)=>Bg P e
 |_=>none
def S7:List SV->Bool
 |[]=>false
 | .raw (.slice none 0 0)::_=>true
 |_::l=>S7 l
def Lu (P:Program):List Field->List SV->List SV
 |[],cs=>cs
 |f::l,cs=>match cs[f.offset]?,S6 P f.type with
   |some (.raw (.slice none 0 0)),some y=>Lu P l (cs.set f.offset (.sl y.size 0 (fun _=>[])))
   |_,_=>Lu P l cs
def MR (P:Program) (C:Aj) (st:St) (t:TypeId):EV->Option (List Prop×EV×List Nat)
 | .p (.clo f caps)=>if pB (P.underlying t)then(match C.specs f with
  |some (.fn pre res)=>some ([],.fn ⟨fun as=>pre (as.map .p++caps.map .p),fun as=>res (as.map .p++caps.map .p)⟩,[])
  |_=>none)else some ([],.p (.clo f caps),[])
 | .p (.raw v)=>match v,S6 P t with
   | .slice none 0 0,some y=>some ([],.p (.sl y.size 0 (fun _=>[])),[])
   |_,_=>some ([],.p (.raw v),[])
 | .p (.agg cs)=>match S7 cs,P.underlying t with
   |true,some (.struct fs)=>some ([],.p (.agg (Lu P fs.toList cs)),[])
   |_,_=>some ([],.p (.agg cs),[])
 | .p s=>some ([],.p s,[])
 | .fn sp=>some ([],.fn sp,[])
 | .full _ sz n get=>some ([],.p (.sl sz n get),[])
 | .row r=>match BL st.own r with
   |some (.row _ sz n get)=>some ([],.p (.sl sz n get),[r])
   |_=>none
 | .rsub r sz lo n=>match BL st.own r with
   |some (.row _ sz' n' get)=>if sz=sz' then some ([lo+n<=n'],.p (.sl sz n (fun i=>get (lo+i))),[r])else none
   |_=>none
 | .rpre r n=>match BL st.own r with
   |some (.row _ sz n' get)=>some ([n<=n'],.p (.sl sz n get),[r])
   |_=>none
 |_=>none
def Gc (P:Program) (C:Aj) (st:St) (ρ:Operand->Option EV):List Operand->List TypeId->Option (List Prop×List EV×List Nat)
 |[],_=>some ([],[],[])
 |x::xs,ts=>match ρ x with
   |some e=>match MR P C st (ts.headD 0) e,Gc P C st ρ xs (ts.drop 1)with
     |some (p,a,l),some (ps,as,ls)=>some (p++ps,a::as,l++ls)
     |_,_=>none
   |none=>none
def pC (C:Aj) (f:Operand) (ts:List TypeId):List TypeId:=match f with
 | .func g=>if C.raws.contains g then []else ts
 |_=>ts
def Jf (P:Program) (C:Aj) (st:St) (gd:gdT) (f:Operand) (args:List Operand) (ts:List TypeId):Option (List Prop×List EV×List Nat):=match st.rho gd f with
 |some (.p (.clo g _))=>match C.specs g with
   |none=>some ([],[],[])
   |some _=>Gc P C st (st.rho gd) args ts
 |_=>Gc P C st (st.rho gd) args ts
theorem pD {P:Program} {C:Aj} {st:St} {gd:gdT} {f:Operand} {args:List Operand} {ts:List TypeId} {g:Nat} {caps:List SV} {sp:Spec} (hf:st.rho gd f=some (.p (.clo g caps))) (hs:C.specs g=some sp) :
 Jf P C st gd f args ts=Gc P C st (st.rho gd) args ts:=by unfold Jf;grind
theorem pE {P:Program} {C:Aj} {st:St} {gd:gdT} {f:Operand} {args:List Operand} {ts:List TypeId} {sp:BN} (hf:st.rho gd f=some (.fn sp)) :
 Jf P C st gd f args ts=Gc P C st (st.rho gd) args ts:=by unfold Jf;rw[hf]
theorem pF {P:Program} {C:Aj} {st:St} {gd:gdT} {f:Operand} {args:List Operand} {ts:List TypeId} {l:Nat} (hf:st.rho gd f=some (.yield l)) :
 Jf P C st gd f args ts=Gc P C st (st.rho gd) args ts:=by unfold Jf;rw[hf]
def JX (gd:gdT) (p:Prop):Prop:=match gd with
 |none=>p
 |some (_,_,b)=>b=true->p
def AH (n:Nat) (get get2:Nat->List SV):Nat->List SV:=fun i=>if i<n then get i else get2 (i-n)
def Gd (C:Aj) (st:St) (gd:gdT) (dst:Option Nat) (sides:List Prop) (args:List EV) (lent:List Nat) (sp:Spec) (K:St->Prop):Prop:=match sp with
 | .fn pre res=>BC (wrapG gd (sides ++ [pre args])) (if lent.isEmpty||D6 (res args)then K (st.put dst ⟨gd,.p (res args)⟩)else False)
 | .rel T _ pre post res=>BC (wrapG gd (sides ++ [pre args])) (∀t:T,JX gd (post args t)->if lent.isEmpty||D6 (res args t)then K (st.put dst ⟨gd,.p (res args t)⟩)else False)
 | .fresh T _ pre post e sz n get =>BC (wrapG gd (sides ++ [pre args])) (∀t : T, JX gd (post args t)->BC (if lent.isEmpty then []else [∀i, i<n args t->D6.noMems (get args t i)= true]) (
  match dst with
  |none=>K st
  |some d =>if C.muts.contains d then(match gd with
    |none=>if (st.forget d).noName d then K ({ st.forget d with own:=(d,.row e sz (n args t) (get args t))::st.own }.put (some d) ⟨none,.row d⟩)else False
    |some _=>False)
   else K (st.put (some d) ⟨gd,.p (.sl sz (n args t) (get args t))⟩)))
def E9 (st:St) (sz:Nat):EV->Option (List Prop×Nat×(Nat->List SV))
 | .p (.sl sz' m get)=>if sz'=sz then some ([],m,get)else none
 | .p (.raw (.slice none 0 0))=>some ([],0,fun _=>[])
 | .full _ sz' m get=>if sz'=sz then some ([],m,get)else none
 | .row r=>match BL st.own r with|some (.row _ sz' m get)=>if sz'=sz then some ([],m,get)else none|_=>none
 | .rsub r sz1 lo m=>match BL st.own r with|some (.row _ sz' n' get)=>if sz1=sz'/\sz'=sz then some ([lo+m<=n'],m,fun i=>get (lo+i))else none|_=>none
 |_=>none
def Ah.hard (k:Nat):Ah->Bool
 | .oblk _ _ cs=>EV.names.namesL k cs
 | .prow _ _ bs=>bs.contains k
 |_=>false
def St.scrub (st:St) (k:Nat):St:={ st with T:=st.T.filter (fun x=>!(x.2.v.names k)),own:=(st.own.filter fun x=>!(x.2.hard k)).map fun x=>match x.2 with | .blk t cs=>(x.1,.blk t (cs.map fun e=>if e.names k then .any else e))|o=>(x.1,o) }
def OV (P:Program) (st:St) (t:TypeId) (d:Nat) (s x:EV) (K:St->Prop):Prop:=match P.underlying t with
 |some (.slice e)=>match Bg P e with
  |some y=>match E9 st y.size x with
   |some (sides, m, get2)=>if 0<y.bytes/\0<y.size/\y.zero.cells.size = y.size then match s with
     | .row r=>match BL st.own r with
       |some (.row e' sz n get)=>if e' = e/\sz = y.size /\ !(x.names r)/\r<st.nt then
        BC (sides ++ [(n+m)*y.bytes<=140737488355328]) (K ({ (st.scrub r)with own:=Cl (st.scrub r).own r (.row e sz (n+m) (AH n get get2)) }.put (some d) ⟨none,.row r⟩))else False
       |_=>False
     | .p (.raw (.slice none 0 0))=>if (st.forget d).noName d then
      BC (sides ++ [m*y.bytes<=140737488355328]) (K ({ st.forget d with own:=(d,.row e y.size m get2)::st.own }.put (some d) ⟨none,.row d⟩))else False
     | .rpre r n=>match BL st.own r with
       |some (.row e' sz N get)=>if e' = e/\sz = y.size /\ !(x.names r)then
        BC (sides ++ [0<m/\n+m<=N]) (K ({ st with own:=Cl st.own r (.row e sz N (fun i=>if n<=i/\i<n+m then get2 (i-n)else get i)) }.put (some d) ⟨none,.rpre r (n+m)⟩))else False
       |_=>False
     | .full true sz n get=>if sz=y.size then BC (sides ++ [0<m/\(n+m)*y.bytes<=140737488355328]) (K (st.put (some d) ⟨none,.p (.sl sz (n+m) (AH n get get2))⟩))else False
     |_=>False
    else False
   |_=>False
  |_=>False
 |_=>False
def S8:SV->Bool
 | .clo _ []=>true
 |s=>D6 s
def S9:EV->Bool
 | .p s=>S8 s
 | .yield _=>true
 | .any=>true
 |_=>false
def St.bare (st:St):St:={ st with T:=st.T.filter fun x=>S9 x.2.v,own:=[] }
def SA (pre:List EV->Prop) (res:List EV->SV) (ss:List SV):BN:=⟨fun xs=>pre (ss.map .p++xs.map .p),fun xs=>res (ss.map .p++xs.map .p)⟩
def OW (P:Program) (st:St) (t t':TypeId) (d:Nat) (s x:EV) (K:St->Prop):Prop:=match P.underlying t,P.underlying t',s,x with
 |some (.slice e),some (.int _),.p (.raw (.slice none 0 0)),.p (.int _ n)=>match Bg P e with
   |some y =>if (0<y.bytes/\0<y.size/\y.zero.cells.size = y.size/\y.zero.cells.all (·.oneCell')= true)/\(st.forget d).noName d = true then
    BC [0<n/\n*(y.bytes:Int)<=140737488355328] (K ({ st.forget d with own:=(d,.row e y.size n.toNat (fun _=>y.zero.cells.toList.map Cx))::st.own }.put (some d) ⟨none,.row d⟩))else False
   |none=>False
 |_,_,_,_=>False
def Lv (ρ:Operand->Option EV):List Operand->Option (List SV)
 |[]=>some []
 |x::l=>match ρ x,Lv ρ l with
   |some (.p s),some ss=>some (s::ss)
   |_,_=>none
def SB (v:Value):SV->List Prop
 | .raw v'=>[v=v']
 | .sl sz n get=>match v with
   | .slice none 0 0=>[n=0]
   |v=>[SV.raw v=.sl sz n get]
 |t=>[SV.raw v=t]
def HH:SV->SV->List Prop
 | .int k n,.int k' m=>if k=k' then [n=m]else [False]
 | .bool a,.bool b=>[a=b]
 | .sl sz n get,.sl sz' n' get'=>if sz=sz' then [n=n'/\∀i,i<n->get i=get' i]else [False]
 | .raw v,t=>SB v t
 |s,t=>[s=t]
def SC (s:SV) (q:Bool) (sz n:Nat) (get:Nat->List SV):List Prop:=match q with
 |true=>[False]
 |false=>match s with
   | .sl sz' n' get'=>if sz'=sz then [n'=n/\0<n'/\∀i,i<n'->get' i=get i]else [False]
   | .raw v=>match v with
     | .slice none 0 0=>[n=0]
     |_=>[False]
   |_=>[False]
def fitE:EV->EV->List Prop
 | .p s,.p t=>HH s t
 | .loc b off,.loc b' off'=>if b == b' then [off=off']else [False]
 | .row r,.row r'=>if r == r' then []else [False]
 | .mapv r,.mapv r'=>if r == r' then []else [False]
 | .rptr r sz i off,.rptr r' sz' i' off'=>if r == r'&&sz == sz' then [i=i'/\off=off']else [False]
 | .rpre r n,.rpre r' n'=>if r == r' then [n=n']else [False]
 | .fptr bs i,.fptr bs' i'=>if bs == bs' then [i=i']else [False]
 | .rsub r sz lo n,.rsub r' sz' lo' n'=>if r == r'&&sz == sz' then [lo=lo'/\n=n']else [False]
 | .cl f cs,.cl f' cs'=>[EV.cl f cs=EV.cl f' cs']
 | .fn sp,.fn sp'=>[sp=sp']
 | .yield l,.yield l'=>[l=l']
 | .p s,.full q sz n get=>SC s q sz n get
 | .full q sz n get,.full q' sz' n' get'=>if q=q'/\sz=sz' then [n=n'/\∀i,i<n->get i=get' i]else [False]
 | .full _ sz n get,.p t=>HH (.sl sz n get) t
 |_,.any=>[]
 |_,_=>[False]
def HI:List EV->List EV->List Prop
 |[],[]=>[]
 |a::l,b::m=>fitE a b++HI l m
 |_,_=>[False]
def JY:Ah->Ah->List Prop
 | .blk t cs,.blk t' cs'=>if t == t' then HI cs cs' else [False]
 | .row e sz n get,.row e' sz' n' get'=>if e == e'&&sz == sz' then [n=n'/\∀i,i<n->get i=get' i]else [False]
 | .mp e n get,.mp e' n' get'=>if e == e' then [n=n'/\∀i,i<n->get i=get' i]else [False]
 | .mq kt vt dom val,.mq kt' vt' dom' val'=>if kt == kt'&&vt == vt' then [∀x,dom x=dom' x,∀x,dom x=true->val x=val' x]else [False]
 | .oblk b t cs,.oblk b' t' cs'=>if t == t' then [b=b']++HI cs cs' else [False]
 | .omq b kt vt val,.omq b' kt' vt' val'=>if kt == kt'&&vt == vt' then [b=b',∀x,val x=val' x]else [False]
 | .ms kt vt ok,.ms kt' vt' ok'=>if kt == kt'&&vt == vt' then [∀a b,ok a b->ok' a b]else [False]
 | .prow e n bs,.prow e' n' bs'=>if e == e'&&bs == bs' then [n=n']else [False]
 | .rr e e2 sz n bl cp len get,.rr e' e2' sz' n' bl' cp' len' get'=>if e == e'&&e2 == e2'&&sz == sz' then [n=n'/\∀i,i<n->bl i=bl' i/\cp i=cp' i/\len i=len' i/\∀j,j<len i->get i j=get' i j]else [False]
 | .row e sz n _,.rr e' _ _ n' _ _ _ _=>if e == e'&&sz == 1 then [n=0/\n'=0]else [False]
 |_,_=>[False]
def Eu (own:List (Nat×Ah)):List (Nat×Ah)->List Prop
 |[]=>[]
 |(k,o)::l=>(match BL own k with
   |some o'=>JY o' o
   |none=>[False])++Eu own l
def Dk:List Nat->Bool
 |[]=>true
 |k::ks=>!(ks.contains k)&&Dk ks
def EK (own:List (Nat×Ah)):List (Nat×Ah)->List (Nat×Ah)
 |[]=>own
 |(k,o)::l=>EK (Cl own k o) l
def Jg (ρ:Operand->Option EV):List Operand->Option (List EV)
 |[]=>some []
 |x::xs=>match ρ x,Jg ρ xs with
   |some e,some l=>some (e::l)
   |_,_=>none
def Ah.plain:Ah->Bool
 | .rr ..=>false
 |_=>true
def GL:List (Nat×Ah)->Bool
 |[]=>true
 |(_,o)::l=>o.plain&&GL l
def OX (C:Aj) (st:St) (dst:Option Nat) (as:List EV) (tr:Tr) (K:St->Prop):Prop :=
 ∃t:tr.T,if GL (tr.own t)&&Dk (Bq (Cy C.ren (tr.own t)))then BC (HI as (EV.ren.renL C.ren (tr.args t))++Eu st.own (Cy C.ren (tr.own t))) (tr.pre t/\∀u:tr.U,tr.post t u->if GL (tr.own' t u)then K ({ st with own:=EK st.own (Cy C.ren (tr.own' t u)) }.put dst ⟨none,(tr.res t u).ren C.ren⟩)else False)else False
def JZ (st:St) (k:Nat):Bool:=st.noName k&&st.T.all (fun x=>!x.2.v.names k)&&decide (k<st.nt)
def St.mvd (st:St) (f:Nat->Nat) (mv:Option (Nat×Nat)):St:=match mv with
 |some (k,_)=>st.scrub (f k)
 |none=>st
def OY (st:St) (f:Nat->Nat) (mv:Option (Nat×Nat)) (ks:List Nat):Bool:=match mv with
 |some (k,_)=>decide (f k<st.nt)&&ks.all fun j=>(BL st.own j).isSome
 |none=>true
def OZ (C:Aj) (st:St) (dst:Option Nat) (as:List EV) (mk:Mk) (K:St->Prop):Prop :=
 ∃t:mk.T,if GL (mk.lent t)&&(Dk (Bq (Cy C.ren (mk.lent t)))&&Dk (mk.keys.map C.ren))then BC (HI as (EV.ren.renL C.ren (mk.args t))++Eu st.own (Cy C.ren (mk.lent t))) (mk.pre t/\∀u:mk.U,mk.post t u ->
   if (GL (mk.own t u)&&GL (mk.lent' t u))&&OY (st.mvd C.ren mk.mv) C.ren mk.mv (mk.lkeys.map C.ren)&&(mk.keys.map C.ren).all (JZ { st.mvd C.ren mk.mv with own:=EK (st.mvd C.ren mk.mv).own (Cy C.ren (mk.lent' t u)) })then K ({ st.mvd C.ren mk.mv with own:=Cy C.ren (mk.own t u)++EK (st.mvd C.ren mk.mv).own (Cy C.ren (mk.lent' t u)) }.put dst ⟨none,(mk.res t u).ren C.ren⟩)else False)else False
def F5 (a b k:Nat):Nat:=if k=a then b else k
def St.rekey (st:St) (a b:Nat):St:=if JZ st b then { st with T:=st.T.map fun x=>(x.1,{ x.2 with v:=x.2.v.ren (F5 a b) }),own:=Cy (F5 a b) st.own }else st
def St.rekeys (st:St):List (Nat×Nat)->St
 |[]=>st
 |(a,b)::l=>(st.rekey a b).rekeys l
def SD:List (Nat×(Int->Int->Prop))->Nat->Option (Int->Int->Prop)
 |[],_=>none
 |(k,v)::l,j=>if k == j then some v else SD l j
def Pa:List (Nat×List (Nat×SV))->Nat->List (Nat×SV)
 |[],_=>[]
 |(k,v)::l,j=>if k == j then v else Pa l j
def Lw:List (Nat×List (Nat×Nat))->Nat->List (Nat×Nat)
 |[],_=>[]
 |(k,v)::l,j=>if k == j then v else Lw l j
def Lx (st:St) (gd:gdT) (dst:Option Nat) (p:Prop) (K:St->Prop):Prop:=match gd with
 |none=>p
 |some (q,c,b)=>(b=true->p)/\(b=false->K (st.put dst ⟨some (q,c,b),.p (.bool false)⟩))
def Pb (C:Aj) (o:Oper) (gd:gdT):Option (Nat×TypeId×Operand×Operand):=match o.op,o.dst,gd with
 | .slice t x none (some hi) none,some d,none=>if C.cuts.contains d then some (d,t,x,hi)else none
 |_,_,_=>none
def Pc (P:Program) (st:St) (d:Nat) (t:TypeId) (x hi:Operand) (K:St->Prop):Prop:=match P.underlying t,st.rho none x,GI (st.rho none hi)with
 |some (.slice e),some (.row r),some h=>match BL st.own r,Bg P e with
   |some (.row e' sz n get),some _=>if r<st.nt then BC [0<=h/\h<=(n:Int)] (K ({ (st.scrub r)with own:=Cl (st.scrub r).own r (.row e' sz h.toNat get) }.put (some d) ⟨none,.row r⟩))else False
   |_,_=>False
 |_,_,_=>False
def AD (l:List SV) (sz:Nat):Nat->List SV:=fun i=>(l.drop (i*sz)).take sz
def FN:List SV->Bool
 |[]=>true
 | .int _ _::l=>FN l
 | .bool _::l=>FN l
 |_=>false
def MS:SV->SV->Bool
 | .int k a,.int k' b=>if k=k' then decide (a=b)else false
 | .bool a,.bool b=>a == b
 |_,_=>false
def GM:List SV->List SV->Bool
 |[],[]=>true
 |s::l,t::m=>match l,m with
   |[],[]=>MS s t
   |_,_=>MS s t&&GM l m
 |_,_=>false
def MT (P:Program) (cs:List SV):List Field->Bool
 |[]=>true
 |f::l=>(match Bg P f.type,P.underlying f.type with
   |some y,some (.int _)=>(Fm y cs f.offset).isSome
   |some y,some .bool=>(Fm y cs f.offset).isSome
   |_,_=>false)&&MT P cs l
def Pd (P:Program) (kt:TypeId) (cs ds:List SV):Prop:=match Ja P 3 kt (.agg cs) (.agg ds)with
 |some b=>b=GM cs ds
 |none=>False
def Pe (P:Program) (st:St) (t:TypeId) (m k:EV) (K:St->Prop):Prop:=match P.underlying t,m,k with
 |some (.map kt _),.mapv r,.p (.agg cs)=>match BL st.own r,P.underlying kt with
   |some (.mp kt' n get), some (.struct fs)=>if kt' = kt/\FN cs = true/\MT P cs fs.toList = true then
     (∀i,i<n->Pd P kt cs (get i))/\((∃i,i<n/\GM cs (get i)=true)->K st)/\((∀i,i<n->GM cs (get i)=false)->K { st with own:=Cl st.own r (.mp kt (n+1) (AH n get (fun _=>cs))) })
    else False
   |_,_=>False
 |_,_,_=>False
def EV.frz (k:Nat) (o:Ah):EV->EV
 | .loc b off=>if b == k then(match o with
   | .blk _ cs=>match Dc cs with
     |some ss=>.p (.ref ss off)
     |none=>.any
   |_=>.any)else .loc b off
 | .mapv r=>if r == k then .any else .mapv r
 | .row r=>if r == k then(match o with
   | .row _ sz n get=>.p (.sl sz n get)
   | .rr _ _ sz n _ _ len get=>.p (.sl 1 n (fun i=>[.sl sz (len i) (get i)]))
   |_=>.any)else .row r
 | .rsub r sz lo n=>if r == k then .any else .rsub r sz lo n
 | .rptr r sz i off=>if r == k then .any else .rptr r sz i off
 | .rpre r n=>if r == k then .any else .rpre r n
 | .fptr bs i=>.fptr bs i
 | .rrow k i b n c=>.rrow k i b n c
 | .rrptr k i j b=>.rrptr k i j b
 | .cl f caps=>match Dc (frzL k o caps)with
   |some ss=>.p (.clo f ss)
   |none=>.cl f (frzL k o caps)
 | .ag q cs=>.ag q (frzL k o cs)
 | .p s=>.p s
 | .fn sp=>.fn sp
 | .yield l=>.yield l
 | .any=>.any
 | .full q sz n get=>.full q sz n get
where frzL (k:Nat) (o:Ah):List EV->List EV
 |[]=>[]
 |e::l=>e.frz k o::frzL k o l
def Ah.frz (k:Nat) (o:Ah):Ah->Ah
 | .blk t cs=>.blk t (cs.map (EV.frz k o))
 | .row e sz n get=>.row e sz n get
 | .mp kt n get=>.mp kt n get
 | .mq kt vt dom val=>.mq kt vt dom val
 | .oblk b t cs=>.oblk b t (cs.map (EV.frz k o))
 | .omq b kt vt val=>.omq b kt vt val
 | .ms kt vt ok=>.ms kt vt ok
 | .prow e n bs=>.prow e n bs
 | .rr e e2 sz n bl cp len get=>.rr e e2 sz n bl cp len get
def SF:Ah->Bool
 | .blk _ cs=>(Dc cs).isSome
 | .row ..=>true
 | .rr ..=>true
 |_=>false
def St.frz (st:St) (k:Nat):St:=match BL st.own k with
 |some o=>if SF o then { st with T:=st.T.map fun x=>(x.1,{ x.2 with v:=x.2.v.frz k o }),own:=(st.own.filter fun x=>!(x.1 == k)).map fun x=>(x.1,Ah.frz k o x.2) }else st
 |none=>st
def St.frzs (st:St):List Nat->St
 |[]=>st
 |k::ks=>(st.frz k).frzs ks
def Ly (st:St):EV->St
 | .row r=>st.frz r
 |_=>st
def Pf (q:Option (Int->SV)) (q2:Option (Int->Int->Prop)) (kt vt:TypeId):Ah:=match q2 with
 |some ok=>.ms kt vt ok
 |none=>match q with
   |none=>.mp kt 0 (fun _=>[])
   |some val=>.mq kt vt (fun _=>false) val
def SG (st:St):EV->Bool
 | .mapv r=>match BL st.own r with
   |some (.ms ..)=>true
   |_=>false
 |_=>false
def In (P:Program) (kt:TypeId):Bool:=match P.underlying kt with
 |some (.array 2 el)=>match P.underlying el,Bg P el with
   |some (.int .i64),some y=>decide (y.size=1)
   |_,_=>false
 |_=>false
def Pg (P:Program) (st:St) (t:TypeId) (m k v:EV) (K:St->Prop):Prop:=match P.underlying t,m,k with
 |some (.map kt _),.mapv r,.p (.agg [.int .i64 a,.int .i64 b])=>match BL st.own r,v with
   |some (.ms _ _ ok),.p (.bool x)=>if In P kt then BC [x=true,ok a b] (K st)else False
   |_,_=>False
 |_,_,_=>False
def Ph (P:Program) (st:St) (t:TypeId) (d:Nat) (m k:EV) (co:Bool) (K:St->Prop):Prop:=match P.underlying t,m,k with
 |some (.map kt vt),.mapv r,.p (.agg [.int .i64 a,.int .i64 b])=>match BL st.own r,Bg P vt with
   |some (.ms _ _ ok), some y =>if In P kt then
    (ok a b->K (st.put (some d) ⟨none,.p (if co then .tup [.bool true,.bool true]else .bool true)⟩)) /\
    K (st.put (some d) ⟨none,.p (if co then .tup [Cx y.zero,.bool false]else Cx y.zero)⟩)else False
   |_,_=>False
 |_,_,_=>False
def pG (st:St):EV->Bool
 | .mapv r=>match BL st.own r with
   |some (.mq ..)=>true
   |_=>false
 |_=>false
def Pi (P:Program) (st:St) (t:TypeId) (m k v:EV) (K:St->Prop):Prop:=match P.underlying t,m,k with
 |some (.map kt _),.mapv r,.p (.int .i64 key)=>match BL st.own r,P.underlying kt with
   |some (.mq kt' vt' dom val),some (.int .i64)=>BC (fitE v (.p (val key))) (K { st with own:=Cl st.own r (.mq kt' vt' (fun x=>decide (x=key)||dom x) val) })
   |_,_=>False
 |_,_,_=>False
def Pj (P:Program) (st:St) (t:TypeId) (d:Nat) (m k:EV) (co:Bool) (K:St->Prop):Prop:=match P.underlying t,m,k with
 |some (.map kt vt),.mapv r,.p (.int .i64 key)=>match BL st.own r,P.underlying kt,Bg P vt with
   |some (.mq _ _ dom val), some (.int .i64), some y =>
    (dom key=true->K (st.put (some d) ⟨none,.p (if co then .tup [val key,.bool true]else val key)⟩)) /\
    (dom key=false->K (st.put (some d) ⟨none,.p (if co then .tup [Cx y.zero,.bool false]else Cx y.zero)⟩))
   |_,_,_=>False
 |_,_,_=>False
def Jh (lo n:Nat) (z:List SV) (get:Nat->List SV):Nat->List SV:=fun i=>if lo<=i/\i<lo+n then z else get i
def Pk (P:Program) (st:St) (t:TypeId) (e:EV) (K:St->Prop):Prop:=match P.underlying t,e with
 |some (.slice el),.rsub r sz lo n=>match Bg P el,BL st.own r with
   |some y, some (.row e' sz' n' get)=>if sz' = sz/\sz = y.size/\0<y.size/\y.zero.cells.size = y.size/\y.zero.cells.all (·.oneCell')= true then
    BC [lo+n<=n'] (K { st with own:=Cl st.own r (.row e' sz' n' (Jh lo n (y.zero.cells.toList.map Cx) get)) })else False
   |_,_=>False
 |_,_=>False
def Lz (lo m:Nat) (get2 get:Nat->List SV):Nat->List SV:=fun i=>if lo<=i/\i<lo+m then get2 (i-lo)else get i
def Ji (st:St):EV->Option (Nat×Nat×Nat×Nat)
 | .rsub r sz lo n=>some (r,sz,lo,n)
 | .row r=>match BL st.own r with
   |some (.row _ sz n _)=>some (r,sz,0,n)
   |_=>none
 |_=>none
def Pl (P:Program) (st:St) (t:TypeId) (d:Nat) (e x:EV) (K:St->Prop):Prop:=match P.underlying t with
 |some (.slice el)=>match Bg P el with
   |some y=>match E9 st y.size x,Ji st e with
     |some (sides,m,get2),some (r,sz,lo,n)=>match BL st.own r with
       |some (.row e' sz' n' get)=>if sz' = sz/\sz = y.size/\0<y.size/\x.names r = false then
        BC (sides ++ [lo+n<=n',m<=n]) (K ({ st with own:=Cl st.own r (.row e' sz' n' (Lz lo m get2 get)) }.put (some d) ⟨none,.p (.int .i64 m)⟩))else False
       |_=>False
     |_,_=>False
   |none=>False
 |_=>False
def MU (P:Program) (st:St) (d:Nat) (t:TypeId) (neg:Bool) (x y:EV) (K:St->Prop):Prop:=match P.underlying t,x,y with
 |some (.slice _),.p (.sl _ n _),.p (.raw (.slice none 0 0))=>∀b:Bool,(b=(!neg)->n=0)->K (st.put (some d) ⟨none,.p (.bool b)⟩)
 |some (.slice _),.full false _ n _,.p (.raw (.slice none 0 0))=>K (st.put (some d) ⟨none,.p (.bool (bif neg then !(decide (n=0))else decide (n=0)))⟩)
 |_,_,_=>False
def pH (st:St):EV->Bool
 | .row r=>match BL st.own r with
   |some (.rr ..)=>true
   |_=>false
 |_=>false
def St.drop (st:St) (k:Nat):St:={ st with T:=st.T.filter (fun x=>!(x.2.v.names k)),own:=st.own.filter fun x=>!(x.1 == k) }
def Pm (P:Program) (st:St) (t:TypeId) (len q d:Nat) (K:St->Prop):Prop:=match P.underlying t,BL st.own q with
 |some (.slice e),some (.row e2 sz n get)=>match Bg P e with
   |some y =>if (len = 1/\y.size = 1/\y.zero.cells.size = 1/\q<st.nt)/\((((st.drop q).forget d).noName d = true/\(st.drop q).own.all (fun x => !(x.2.names q))= true)/\q≠d)then
    BC [0<n] (∀b c:Nat,n<=c->K ({ (st.drop q).forget d with own:=(d,.rr e e2 sz 1 (fun _=>b) (fun _=>c) (fun _=>n) (fun _=>get))::(st.drop q).own }.put (some d) ⟨none,.row d⟩))else False
   |none=>False
 |_,_=>False
def CQ (n:Nat) (f g:Nat->Nat):Nat->Nat:=fun i=>if i<n then f i else g (i-n)
def Io (n:Nat) (f g:Nat->Nat->List SV):Nat->Nat->List SV:=fun i=>if i<n then f i else g (i-n)
def Pn (P:Program) (st:St) (t:TypeId) (d:Nat) (s x:EV) (K:St->Prop):Prop:=match P.underlying t,s,x with
 |some (.slice e),.row r,.row q=>match Bg P e,BL st.own r,BL st.own q with
   |some y,some (.rr e1 e2 sz n bl cp len get),some (.rr e1' e2' sz' m bl' cp' len' get')=>
     if ((0<y.bytes/\y.size=1/\y.zero.cells.size=1)/\(e1=e/\e1'=e/\e2'=e2/\sz'=sz)/\r<st.nt/\q<st.nt/\q≠r)/\(((st.drop q).scrub r).own.all (fun x=>!(x.2.names q))=true)then
      BC [(n+m)*y.bytes<=140737488355328] (K ({ (st.drop q).scrub r with own:=Cl ((st.drop q).scrub r).own r (.rr e e2 sz (n+m) (CQ n bl bl') (CQ n cp cp') (CQ n len len') (Io n get get')) }.put (some d) ⟨none,.row r⟩))else False
   |_,_,_=>False
 |_,_,_=>False
def L0 (P:Program) (C:Aj) (st:St) (gd:gdT) (o:Oper) (K:St->Prop):Prop:=match o.op,o.dst with
 | .alloc t,some d=>match Bg P t with
   |some y=>if C.arrs.contains d then MQ P t y st d gd K else newVar { C with muts:=[d] } t (y.zero.cells.toList.map fun v=>.p (Cx v)) st d gd K
   |none=>False
 | .box t x,some d=>match st.rho gd x with
   |some e=>newVar C t (BS e) st d gd K
   |none=>False
 | .store t p x,none=>match gd,Bg P t,st.rho none p,st.rho none x with
   |none,some y,some ep,some ex=>match Hn st y ep ex with
     |some (ps,st')=>BC ps (K st')
     |none=>False
   |_,_,_,_=>False
 | .buildSlice t len parts,some d=>match P.underlying t,Ik (st.rho gd) parts.toList with
   |some (.slice e),some l=>match Bg P e with
     |some y=>match FK (fun i=>some (i*y.size,y.size)) ((Ah5 (len*y.size)).map fun k=>Cx (y.zero.cells.getD (k % y.size) undef)) l with
       |some cs =>if len*y.size<=16777216/\0<y.size/\y.zero.cells.size = y.size/\cs.all (fun s =>CW (.p s))then
        (if C.muts.contains d then(match gd with
         |none=>if (st.forget d).noName d then K ({ st.forget d with own:=(d,.row e y.size len (AD cs y.size))::st.own }.put (some d) ⟨none,.row d⟩)else False
         |some _=>False)
        else K (st.put (some d) ⟨gd,.p (.sl y.size len (if len=1 then fun _=>cs else AD cs y.size))⟩))else False
       |none=>False
     |none=>False
   |_,none=>match gd,parts.toList with
     |none,[(0,x)]=>match st.rho none x with
       |some (.row q)=>Pm P st t len q d K
       |_=>False
     |_,_=>False
   |_,_=>False
 | .makeSlice t l c,some d=>match gd,P.underlying t,st.rho none l,st.rho none c with
   |none,some (.slice e),some (.p (.int _ n)),some (.p (.int _ m))=>match Bg P e with
     |some y =>if 0<y.size/\y.zero.cells.size = y.size/\0<y.bytes/\y.zero.cells.all (·.oneCell')/\(st.forget d).noName d then
      BC [0<=n/\n<=m/\m*(y.bytes:Int)<=140737488355328] (K ({ st.forget d with own:=(d,.row e y.size n.toNat (fun _=>y.zero.cells.toList.map Cx))::(st.forget d).own }.put (some d) ⟨none,.row d⟩))else False
     |none=>False
   |_,_,_,_=>False
 | .makeMap t none,some d=>match gd,P.underlying t with
   |none,some (.map kt vt)=>if (st.forget d).noName d then K ({ st.forget d with own:=(d,Pf (C.mqs d) (C.mss d) kt vt)::(st.forget d).own }.put (some d) ⟨none,.mapv d⟩)else False
   |_,_=>False
 | .mapUpdate t m k v,none=>match gd,st.rho none m,st.rho none k with
   |none,some em,some ek=>if pG st em then(match st.rho none v with
     |some ev=>(match (Ly st ev).rho none m,(Ly st ev).rho none k,(Ly st ev).rho none v with
       |some em,some ek,some ev'=>Pi P (Ly st ev) t em ek ev' K
       |_,_,_=>False)
     |none=>False)else if SG st em then(match st.rho none v with
     |some ev=>Pg P st t em ek ev K
     |none=>False)else Pe P st t em ek K
   |_,_,_=>False
 | .lookup t m k co,some d=>match gd,st.rho none m,st.rho none k with
   |none,some em,some ek=>if SG st em then Ph P st t d em ek co K else Pj P st t d em ek co K
   |_,_,_=>False
 | .call { callee:=.builtin .append,args:=args,argTypes:=ts },some d=>match gd,args.toList,ts.toList with
   |none,[s,x],[t,t']=>if t=t' then(match st.rho none s,st.rho none x with
     |some es,some ex=>if pH st es then Pn P st t d es ex K else OV P st t d es ex K
     |_,_=>False)else(match st.rho none s,st.rho none x with
     |some es,some ex=>OW P st t t' d es ex K
     |_,_=>False)
   |_,_,_=>False
 | .call { callee:=.builtin .clear,args:=args,argTypes:=ts },none=>match gd,args.toList,ts.toList with
   |none,[x],[t]=>match st.rho none x with
     |some ex=>Pk P st t ex K
     |none=>False
   |_,_,_=>False
 | .call { callee:=.builtin .copy,args:=args,argTypes:=ts },some d=>match gd,args.toList,ts.toList with
   |none,[s,x],[t,_]=>match st.rho none s,st.rho none x with
     |some es,some ex=>Pl P st t d es ex K
     |_,_=>False
   |_,_,_=>False
 | .binOp .eql t x y _,some d=>match gd,st.rho none x,st.rho none y with
   |none,some ex,some ey=>MU P st d t false ex ey K
   |_,_,_=>False
 | .binOp .neq t x y _,some d=>match gd,st.rho none x,st.rho none y with
   |none,some ex,some ey=>MU P st d t true ex ey K
   |_,_,_=>False
 | .makeFunc (.func f) first caps,some d=>match gd,C.specs f,Lv (st.rho none) first.toList with
   |none,some (.fn pre res),some ss=>if caps.size=0 then K (st.put (some d) ⟨none,.fn (SA pre res ss)⟩)else False
   |_,_,_=>False
 | .call { callee:=.value f,args:=args,argTypes:=ts },dst=>match st.rho gd f,Jf P C st gd f args.toList (pC C f ts.toList)with
   |some (.p (.clo g caps)),some (ps,as,lent)=>match C.specs g with
     |some sp=>Gd C st gd dst ps (as++caps.map .p) lent sp K
     |none=>match C.trs g,Jg (st.rho gd) args.toList with
       |some tr,some as=>Lx st gd dst (OX C st dst (as++caps.map .p) tr K) K
       |none,some as=>match C.mks g with
         |some mk=>Lx st gd dst (OZ C st dst (as++caps.map .p) mk K) K
         |none=>False
       |_,_=>False
   |some (.cl g caps),_=>match C.trs g,Jg (st.rho gd) args.toList with
     |some tr,some as=>Lx st gd dst (OX C st dst (as++caps) tr K) K
     |none,some as=>match C.mks g with
       |some mk=>Lx st gd dst (OZ C st dst (as++caps) mk K) K
       |none=>False
     |_,_=>False
   |some (.fn sp),some (ps,as,lent)=>match Dc as with
     |some _=>Gd C st gd dst ps as lent (.fn (fun as=>match Dc as with|some ss=>sp.pre ss|none=>False) (fun as=>match Dc as with|some ss=>sp.res ss|none=>.raw undef)) K
     |none=>False
   |some (.yield l),some (ps,as,lent)=>match gd,C.yld,Dc as with
     |none,some y,some ss=>if lent.isEmpty&&D6.noMems ss then BC (ps ++ [l=y.l,st.yk<y.cnt,ss=y.item st.yk]) (K ({ st with yk:=st.yk+1 }.put dst ⟨none,.p (.bool true)⟩)/\K ({ st.bare with yk:=y.cnt+1 }.put dst ⟨none,.p (.bool false)⟩))else False
     |_,_,_=>False
   |_,_=>False
 |_,_=>False
def EA (st:St) (dst:Option Nat) (gd:gdT):Bool:=match dst,gd with
 |some d,some (q,_,_)=>decide (d<st.nt) && !(d == q)
 |some d,none=>decide (d<st.nt)
 |none,_=>true
structure F6 where
 a:Nat
 b:Nat
 x:Bool
 t:TypeId
 cs:List EV
 y:Bool
 kt:TypeId
 vt:TypeId
 val:Int->SV
def Jj (own:List (Nat×Ah)):List Nat->Option (List F6)
 |[]=>some []
 |[_]=>none
 |a::b::l=>match BL own a,BL own b,Jj own l with
   |some (.oblk x t cs),some (.omq y kt vt val),some fs=>some (⟨a,b,x,t,cs,y,kt,vt,val⟩::fs)
   |_,_,_=>none
def Gx:List EV->Option (Nat×List SV)
 |[.mapv b]=>some (b,[])
 | .p s::l=>(Gx l).map fun x=>(x.1,s::x.2)
 |_=>none
def L1:List SV->List SV->List Prop
 |[],[]=>[]
 |s::l,t::m=>HH s t++L1 l m
 |_,_=>[False]
def Po:List Prop->Prop
 |[]=>True
 |[p]=>p
 |p::ps=>p/\Po ps
def MV (c:FM) (t:c.T) (i:Nat):Nat->List F6->List Prop
 |_,[]=>[]
 |j,f::l=>(match Gx f.cs with
   |some (b',hs)=>if b' == f.b&&f.t == c.t&&f.kt == c.kt&&f.vt == c.vt then [i=j->f.x=true/\f.y=true/\hs=c.head t/\∀x,f.val x=c.val t x]else [False]
   |none=>[False])++MV c t i (j+1) l
def L2 (st:St) (gd:gdT) (dst:Option Nat) (bs:List Nat) (i:Nat) (as:List EV) (c:FM) (K:St->Prop):Prop:=match Jj st.own bs with
 |some fs=>∃t:c.T,BC (wrapG gd ([i<fs.length]++MV c t i 0 fs++HI as ((c.args t).map .p) ++ [c.pre t])) (K (st.put dst ⟨gd,.p (c.res t)⟩))
 |none=>False
def MW (i:Nat) (tA kt vt:TypeId) (hs:List SV) (dom:Int->Bool) (val:Int->SV):Nat->List F6->List Prop
 |_,[]=>[]
 |j,f::l=>(match Gx f.cs with
   |some (b',hs')=>if b' == f.b&&f.t == tA&&f.kt == kt&&f.vt == vt then [i=j->f.x=false/\f.y=false/\(∀x,dom x=true->val x=f.val x)/\Po (L1 hs hs')]else [False]
   |none=>[False])++MW i tA kt vt hs dom val (j+1) l
def Ip (i:Nat):Nat->List F6->List (Nat×Ah)->List (Nat×Ah)
 |_,[],own=>own
 |j,f::l,own=>Ip i (j+1) l (Cl (Cl own f.a (.oblk (f.x||decide (i=j)) f.t f.cs)) f.b (.omq (f.y||decide (i=j)) f.kt f.vt f.val))
def Pp (P:Program) (st:St) (t:TypeId) (r i A:Nat) (K:St->Prop):Prop:=match BL st.own r,BL st.own A with
 |some (.prow _ n bs),some (.blk tA csA)=>match Jj st.own bs,Gx csA with
   |some fs,some (B,hs)=>match BL st.own B,Bg P t with
     |some (.mq kt vt dom val), some y =>if (y.size = 1/\r≠A/\r≠B/\A≠B)/\(Dk bs&&bs.all (fun b =>decide (b<st.nt)) && !(bs.contains A) && !(bs.contains B) && !(bs.contains r)&&((st.forget A).forget B).T.all (fun x =>bs.all fun b => !(x.2.v.names b)) &&
       st.own.all (fun x=>x.1 == r||bs.contains x.1||bs.all fun b=>!(x.2.names b)))=true then
      BC ([i<n]++MW i tA kt vt hs dom val 0 fs) (K { (st.forget A).forget B with own:=Ip i 0 fs (st.own.filter fun x=>!(x.1 == A) && !(x.1 == B)) })else False
     |_,_=>False
   |_,_=>False
 |_,_=>False
def Ho (F:JW):Nat->List Nat->List (Nat×Ah)
 |j,a::b::l=>(a,.oblk false F.t ((F.head j).map .p ++ [.mapv b]))::(b,.omq false F.kt F.vt (F.val j))::Ho F (j+1) l
 |_,_=>[]
def Pq (P:Program) (C:Aj) (st:St) (d:Nat) (t:TypeId) (l c:Operand) (K:St->Prop):Prop:=match P.underlying t,st.rho none l,st.rho none c with
 |some (.slice e),some (.p (.int _ n)),some (.p (.int _ m))=>match Bg P e with
   |some y =>if 0<y.size/\y.zero.cells.size = y.size/\0<y.bytes/\y.zero.cells.all (·.oneCell')/\(st.forget d).noName d then
     match C.prows d with
     |none=>BC [0<=n/\n<=m/\m*(y.bytes:Int)<=140737488355328] (K ({ st.forget d with own:=(d,.row e y.size m.toNat (fun _=>y.zero.cells.toList.map Cx))::(st.forget d).own }.put (some d) ⟨none,.rpre d n.toNat⟩))
     |some F=>match y.zero.cells.toList with
       |[.pointer none]=>if Dk F.bs && !(F.bs.contains d)&&F.bs.all (JZ (st.forget d))then
        BC [0<=n/\n<=m/\m*(y.bytes:Int)<=140737488355328,2*n.toNat<=F.bs.length] (K ({ st.forget d with own:=(d,.prow e n.toNat F.bs)::(Ho F 0 F.bs++(st.forget d).own) }.put (some d) ⟨none,.row d⟩))else False
       |_=>False
    else False
   |none=>False
 |_,_,_=>False
def pI (C:Aj) (st:St) (gd:gdT) (o:Oper):Bool:=match o.op,o.dst,gd with
 | .makeSlice _ _ _,some d,none=>C.pres.contains d||(C.prows d).isSome
 | .store _ p _,none,none=>match st.rho none p with
   |some (.rptr r _ _ _)=>(match BL st.own r with
     |some (.prow ..)=>true
     |_=>false)
   |_=>false
 | .call { callee:=.value f,.. },_,gd=>match st.rho gd f with
   |some (.p (.clo g _))=>(C.fams g).isSome
   |_=>false
 |_,_,_=>false
def L3 (P:Program) (C:Aj) (st:St) (gd:gdT) (o:Oper) (K:St->Prop):Prop:=match o.op,o.dst,gd with
 | .makeSlice t l c,some d,none=>Pq P C st d t l c K
 | .store t p x,none,none=>match st.rho none p,st.rho none x with
   |some (.rptr r 1 i 0),some (.loc A 0)=>Pp P st t r i A K
   |_,_=>False
 | .call { callee:=.value f,args:=args,.. },dst,gd=>match st.rho gd f,Jg (st.rho gd) args.toList with
   |some (.p (.clo g [])),some (.fptr bs i::as)=>match C.fams g with
     |some c=>L2 st gd dst bs i as c K
     |none=>False
   |_,_=>False
 |_,_,_=>False
def Fa (P:Program) (C:Aj) (ops:Array Oper):List Oper->St->(St->Prop)->Prop
 |[],st,K=>K st
 |o::rest,st,K=>match Im ops st o with
   |none=>False
   |some gd=>if EA st o.dst gd then(match Pb C o gd with
     |some (d,t,x,hi)=>Pc P st d t x hi (fun st'=>Fa P C ops rest st' K)
     |none=>if pI C st gd o then L3 P C st gd o (fun st'=>Fa P C ops rest st' K)else match Gb P st gd o.op with
       |some (ps,e)=>BC (wrapG gd ps) (Fa P C ops rest (st.put o.dst ⟨gd,e⟩) K)
       |none=>L0 P C st gd o (fun st'=>Fa P C ops rest st' K))else False
section
variable {P:Program} {M:Nat->Prop} {w:World} {G:Bw} {st:St} {a:Act} {env:Ar} {X:Nat->Prop}
theorem Pr (S:Al P G st a w env M X) {x:Operand} {e:AK} (h:st.ent x=some e) :
  (e.ok->Ap P M w env e.v (a.eval x))/\(∀q c v,e.g=some (q,c,v)->(v=true↔a.eval (.tmp q)=.bool c)):=by
 cases x with
 |tmp t=>exact⟨fun ho=>(S.tmp _ _ (HE h)).2.1 ho,fun q c v hq=>S.grd _ _ (HE h) q c v hq⟩
 |const v =>
   cases v<;>simp only[St.ent,Option.some.injEq]at h<;>subst h<;>refine⟨fun _=>?_,(by grind)⟩ <;>
    first|exact .p (.int _ _)|exact .p (.bool _)|exact .p (.raw _)
 |func f =>
   simp only[St.ent,Option.some.injEq]at h;subst h;exact⟨fun _=>.p (.clo f [] [] rfl (by grind)),(by grind)⟩
 |global g=>simp[St.ent]at h
def EL (a:Act) (gd:gdT):Prop:=∀q c v,gd=some (q,c,v)->(v=true↔a.eval (.tmp q)=.bool c)
theorem SH {gd g:gdT} (hgd:EL a gd) (hh:CB gd) (hg:∀q c v,g=some (q,c,v)->(v=true↔a.eval (.tmp q)=.bool c)) (h:free gd g=true):CB g:=by
 cases g with
 |none=>trivial
 |some g =>
   obtain⟨s,b,v⟩:=g;cases gd with
   |none=>simp[free]at h
   |some gd =>
     obtain⟨s',b',v'⟩:=gd;simp only[free,pR,beq_iff_eq]at h;obtain⟨rfl,rfl⟩:=h;exact(hg _ _ _ rfl).2 ((hgd _ _ _ rfl).1 hh)
theorem Hp {e:AK} (h:CB e.g):e.ok:=by
 unfold AK.ok;unfold CB at h;grind
theorem pJ {e:AK} (h:e.ok):CB e.g:=by
 unfold AK.ok at h;unfold CB;grind
theorem Bc (S:Al P G st a w env M X) {gd:gdT} (hgd:EL a gd) (hh:CB gd) {x:Operand} {e:EV} (h:st.rho gd x=some e):Ap P M w env e (a.eval x):=by
 unfold St.rho at h;split at h
 ·rename_i en hen;split at h
  ·rename_i hf;cases h;obtain⟨h1,h2⟩:=Pr S hen;grind [Hp,SH]
  ·cases h
 ·cases h
theorem SI (want b:Bool):((if want then b else !b)=true)↔b=want:=by grind
theorem pK (c:Bool):undef≠Value.bool c:=by intro h;unfold undef at h;cases h
theorem L4 (S:Al P G st a w env M X) {ops:Array Oper} {o:Oper} {gd:gdT} (h:Im ops st o=some gd) :
  EL a gd/\(Region.wanted o (yielded ops a.tmps)=true↔CB gd):=by
 unfold Im at h;split at h
 ·rename_i hg;cases h;exact⟨fun q c v hq=>by simp at hq,by simp[Region.wanted,hg,CB]⟩
 ·rename_i j want hg;split at h
  ·rename_i oj hj;split at h
   ·rename_i d hd;split at h
    ·rename_i g b hl;cases h;have hm:=HE hl;obtain⟨hlt,h1,h2⟩:=S.tmp _ _ hm;have hj':ops[j]? = some oj:=by grind
     have hev:a.tmps[d]? = some (a.eval (.tmp d)):=by simp[Act.eval,LS,S.siz,hlt]
     have hy:yielded ops a.tmps j=match a.eval (.tmp d)with | .bool b=>some b|_=>none:=by
      unfold yielded;grind
     have key:Ls want b g=true↔a.eval (.tmp d)=.bool want:=by
      clear hl hm hy hev;revert h1 h2;generalize a.eval (.tmp d)=q;intro h1 h2;cases g with
      |none =>
        have hd:=h1 trivial;rcases hd with ⟨hd⟩;cases hd;simp only[Ls,SI];grind
      |some g =>
        obtain⟨s,b',b0⟩:=g;cases b0 with
        |false =>
          have hu:=h2 (by simp[AK.ok]);rw[hu];simp[Ls,pK]
        |true =>
          have hd:=h1 rfl;rcases hd with ⟨hd⟩;cases hd;simp only[Ls,Bool.true_and,SI];grind
     refine⟨fun q c v hq=>by cases hq;exact key,?_⟩;simp only[Region.wanted,hg,CB,hy];grind
    ·cases h
   ·cases h
  ·cases h
theorem Ge {gd:gdT} {ps:List Prop} (h:all (wrapG gd ps)) (hh:CB gd):all ps:=by
 cases gd with
 |none=>exact h
 |some gd=>obtain⟨q,c,b⟩:=gd;intro p hp;exact h (b=true->p) (by simp only[wrapG,Ah2];grind) hh
theorem pL {c:Bool} {s t r:SV} (h:OT c s t=some r) {u v:Value} (hu:c=true->Ax M w s u) (hv:c=false->Ax M w t v):Ax M w r (if c then u else v):=by
 unfold OT at h;grind
theorem pM (S:Al P G st a w env M X) {gd:gdT} (hgd:EL a gd) (hh:CB gd) {c x y:Operand} {ps:List Prop} {r:EV}
  (h:OU st gd c x y=some (ps,r)) (hp:all ps) (o:Oper) (ho:o.op=.pick c x y):∃u,(execOp a.eval o).run P w=.ok (.value u) w/\Ap P M w env r u:=by
 unfold OU at h;split at h
 ·rename_i t;split at h
  ·rename_i b gx sx gy sy hc hx hy;split at h
   ·rename_i s p1 p2 hs h1 h2;cases h;have hcd:=Bc S hgd hh hc;rcases hcd with ⟨hcd⟩;generalize hev:a.eval (.tmp t)=q at hcd;cases hcd;have hx':=Pr S hx;have hy':=Pr S hy;have part:∀(g:gdT) (want:Bool) (p:List Prop),MP t b gd g want=some p->all p->(∀q c v,g=some (q,c,v)->(v=true↔a.eval (.tmp q)=.bool c))->b=want->CB g:=by
     intro g want p hpk hall hgr hb;unfold MP at hpk;split at hpk
     ·grind [SH]
     ·split at hpk
      ·trivial
      ·rename_i s' w' b';split at hpk
       ·rename_i hsw;simp only[pR,beq_iff_eq]at hsw;obtain⟨rfl,rfl⟩:=hsw;exact(hgr _ _ _ rfl).2 (by rw[hev,hb])
       ·cases hpk;exact AC hall hb
    have hres :=pL (M :=M) (w :=w) (u :=a.eval x) (v :=a.eval y) hs (fun hb =>by
      have:=hx'.1 (Hp (part gx true p1 h1 (fun p hp'=>hp p (by simp[hp'])) hx'.2 hb));rcases this with ⟨this⟩;exact this)
     (fun hb=>by
      have:=hy'.1 (Hp (part gy false p2 h2 (fun p hp'=>hp p (by simp[hp'])) hy'.2 hb));rcases this with ⟨this⟩;exact this)
    refine⟨_,?_,.p hres⟩;simp[execOp,ho,hev,asBool]
   ·cases h
  ·cases h
 ·cases h
theorem L5 (S:Al P G st a w env M X) {gd:gdT} (hgd:EL a gd) (hh:CB gd) {op:Op} {ps:List Prop} {r:EV}
  (h:Gb P st gd op=some (ps,r)) (hp:all ps) (o:Oper) (ho:o.op=op):∃u,(execOp a.eval o).run P w=.ok (.value u) w/\Ap P M w env r u:=by
 unfold Gb at h;grind [pM,oZ,Bc]
end
section
variable {P:Program} {M:Nat->Prop} {w:World} {G:Bw} {st:St} {a:Act} {env:Ar} {X:Nat->Prop}
theorem Iq (w:World) (o:Obj):Same (fun _=>False) w (w.alloc o):=⟨rfl,rfl,rfl,Ah0 _,by simp,fun b hb _=>Below.heap_alloc w o b hb⟩
theorem L6 {w w':World} (h:Bl w.heap.size w w'):Same (fun _=>False) w w':=⟨h.os,h.tape,h.output,h.drawn,h.size,fun b hb _=>h.block b hb⟩
theorem SJ (w:World):Same (fun _=>False) w w.drew:=⟨rfl,rfl,rfl,Nat.le_succ _,Ah0 _,fun _ _ _=>rfl⟩
theorem Al.grow (hG:Br G) (S:Al P G st a w env M X) {w':World} (hs:Same (fun _=>False) w w') {M':Nat->Prop} (hM:∀b,M b->M' b) (hM':∀b,M' b->M b\/w.heap.size<=b) (hMl:∀b,M' b->b<w'.heap.size) :
  Al P G st a w' env M' (fun b=>X b\/(w.heap.size<=b/\b<w'.heap.size)):=
 S.step hG hs hM hM' hMl (by grind) (fun b h=>.inl h) (by grind) (fun b h=>by
  rcases h with h|h
  ·exact Ah3 (S.xlt b h) hs.size
  ·exact h.2)
theorem Ka {s:SV} (h:CW (.p s)=true) {v:Value} (hd:Ax M w s v):v.oneCell'=true:=by
 cases hd with
 |agg|tup=>simp[CW]at h
 |raw v=>simpa[CW]using h
 |_=>rfl
theorem pN {e:EV} (h:CW e=true) {v:Value} (hd:Ap P M w env e v):v.oneCell'=true:=by
 cases hd with
 |p h'=>exact Ka h h'
 |fn h'=>obtain⟨f,first,caps,rfl,_⟩:=h';rfl
 |any=>simp[CW]at h
 |ag=>simp[CW]at h
 |fptr _ h'=>rw[h'];rfl
 |_=>rfl
theorem Al.newRef (hG:Br G) (S:Al P G st a w env M X) {ss:List SV} {vs:List Value} (hd:By M w ss vs) (h1:∀v,v∈vs->v.oneCell'=true) (t:TypeId) :
  ∃M' X',Al P G st a (w.alloc (.cells vs.toArray t)) env M' X'/\Ax M' (w.alloc (.cells vs.toArray t)) (.ref ss 0) (.pointer (some ⟨w.heap.size,0,none⟩))/\Be M M' w (w.alloc (.cells vs.toArray t)):=by
 have hs:=Iq w (.cells vs.toArray t);have hl:Be M (fun b=>M b\/b=w.heap.size) w (w.alloc (.cells vs.toArray t)):=⟨by simp,fun b hb=>hs.block b (S.mlt b hb) id,fun b hb=>.inl hb⟩;refine⟨fun b=>M b\/b=w.heap.size,_,S.grow hG hs (M':=fun b=>M b\/b=w.heap.size) (fun b h=>.inl h) (by grind) (fun b h=>by
  rcases h with h|h
  ·have:=S.mlt b h;simp;omega
  ·subst h;simp),?_,hl⟩
 refine .ref ss 0 (fun j=>vs.getD j undef) ⟨w.heap.size,0,none⟩ (.inr rfl) (fun j hj=>?_) (fun j hj=>?_) (fun j hj=>(hd.2 j hj).later hl)
 ·rw[Cw,AhO,World.cell?_alloc_new];have:j<vs.length:=by rw[hd.1];exact hj
  grind
 ·have:j<vs.length:=by rw[hd.1];exact hj
  grind
theorem Hq {k:Nat} (h:st.noName k=true) {k':Nat} {o:Ah} (ho:(k',o)∈st.own):k'≠k/\o.names k=false:=by
 have:=AhC.1 h _ ho;grind
theorem Ap.reenv {w':World} {M':Nat->Prop} {env':Ar} {k:Nat} (hl:Be M M' w w') (he:∀j,j≠k->env'.at_ j=env.at_ j/\env'.rv j=env.rv j) (hy:env'.yl=env.yl) {e:EV} {v:Value}
  (hn:e.names k=false) (h:Ap P M w env e v):Ap P M' w' env' e v :=
 h.mono hl (by grind) hy
theorem Ih.but {env':Ar} {nt k:Nat} (h:Ih G env nt) (hk:k<nt) (he:∀j,j≠k->env'.at_ j=env.at_ j/\env'.rv j=env.rv j):Ih G env' nt:=fun j hj=>by
 obtain⟨h1,h2,h3⟩:=h j hj;grind
theorem Al.newOwnX (hG:Br G) (S:Al P G st a w env M X) {k:Nat} (hkn:k<st.nt) (hk:st.noName k=true) (hT:∀s e,(s,e)∈st.T->e.v.names k=false) {w':World} (hs:Same (fun _=>False) w w') {env':Ar}
  (he:∀j,j≠k->env'.at_ j=env.at_ j/\env'.rv j=env.rv j) (hy:env'.yl=env.yl) {o:Ah} (hg:∀g,o.has env' k g->w.heap.size<=g/\g<w'.heap.size) {M':Nat->Prop}
  (hM:∀b,M b->M' b) (hM':∀b,M' b->M b\/(w.heap.size<=b/\¬ o.has env' k b)) (hMl:∀b,M' b->b<w'.heap.size)
  (ho:B8 P M' w' env' k o):∃X',Al P G { st with own:=(k,o)::st.own } a w' env' M' X':=by
 have hl:Be M M' w w':=⟨hs.size,fun b hb=>hs.block b (S.mlt b hb) id,hM⟩;have hb:∀g,g<w.heap.size->w'.heap[g]? = w.heap[g]?:=fun g hg=>hs.block g hg id;have hold:∀{k' o'},(k',o')∈st.own->k'≠k/\o'.names k=false:=fun h=>Hq hk h;refine⟨fun b=>X b\/(w.heap.size<=b/\b<w'.heap.size),?_⟩;refine⟨⟨hG _ _ _ _ _ S.gam.1 ⟨hs.os,hs.tape,hs.output,hs.drawn,hs.size,fun b hb _=>hs.block b hb id⟩ (fun b h=>.inl h) (fun b h=>by rcases h with h|h;exact .inl h;exact .inr h.1),S.gam.2.but hkn he⟩,fun b hb=>by rcases hM' b hb with h'|h';exact(S.mx b h').imp id .inl;exact .inr (.inr ⟨h'.1,hMl b hb⟩),?_,?_,?_,?_,hMl,?_,S.siz,?_,S.grd,?_,S.dno⟩
 ·intro k' o' h;rcases Ah4.1 h with h|h
  ·cases h;exact ho
  ·obtain⟨hne,hnn⟩:=hold h;have h1:=S.own _ _ h;have h2:=S.oat _ _ h;exact h1.move hl (he _ hne).1 (he _ hne).2 (fun g ha=>hb g (h2 g ha).2.2) (fun j hj=>he j (fun e=>by rw[e,hnn]at hj;cases hj))
 ·intro k' o' h g hg';rcases Ah4.1 h with h|h
  ·cases h;obtain⟨h1,h2⟩:=hg g hg';refine⟨.inr ⟨h1,h2⟩,fun hm=>?_,h2⟩;rcases hM' g hm with h3|h3
   ·have:=S.mlt g h3;omega
   ·exact h3.2 hg'
  ·obtain⟨hne,_⟩:=hold h;rw[Ah.has_env (he _ hne).1]at hg';obtain⟨h1,h2,h3⟩:=S.oat _ _ h g hg';refine⟨.inl h1,fun hm=>?_,Ah3 h3 hs.size⟩;rcases hM' g hm with h4|h4
   ·exact h2 h4
   ·omega
 ·intro k1 o1 k2 o2 h1 h2 hne g hg1;rcases Ah4.1 h1 with h1|h1<;>rcases Ah4.1 h2 with h2|h2
  ·cases h1;cases h2;exact absurd rfl hne
  ·cases h1;obtain⟨hn2,_⟩:=hold h2;rw[Ah.has_env (he _ hn2).1];intro hc;have:=(S.oat _ _ h2 g hc).2.2;have:=(hg g hg1).1;omega
  ·cases h2;obtain⟨hn1,_⟩:=hold h1;rw[Ah.has_env (he _ hn1).1]at hg1;intro hc;have:=(S.oat _ _ h1 g hg1).2.2;have:=(hg g hc).1;omega
  ·rw[Ah.has_env (he _ (hold h1).1).1]at hg1;rw[Ah.has_env (he _ (hold h2).1).1];exact S.inj _ _ _ _ h1 h2 hne g hg1
 ·simp only[List.map_cons,List.nodup_cons];refine⟨fun hm=>?_,S.nod⟩;obtain⟨x,hx,he'⟩:=Ah2.1 hm;exact(hold (k':=x.1) (o':=x.2) hx).1 he'
 ·intro b hb';rcases hb' with h|h
  ·exact Ah3 (S.xlt b h) hs.size
  ·exact h.2
 ·intro s e h;obtain⟨h1,h2,h3⟩:=S.tmp s e h;exact⟨h1,fun ho'=>(h2 ho').reenv hl he hy (hT s e h),h3⟩
 ·intro d hd;obtain⟨D,e,h1,h2,h3,h4⟩:=S.dfr d hd;have hD:=S.xlt D h2;refine⟨D,e,(hb D hD).trans h1,.inl h2,fun hm=>?_,?_⟩
  ·rcases hM' D hm with h5|h5
   ·exact h3 h5
   ·omega
  ·intro k' o' h;rcases Ah4.1 h with h|h
   ·cases h;intro hc;have:=(hg D hc).1;omega
   ·rw[Ah.has_env (he _ (hold h).1).1];exact h4 _ _ h
theorem Al.newOwn (hG:Br G) (S:Al P G st a w env M X) {k:Nat} (hkn:k<st.nt) (hk:st.noName k=true) (hT:∀s e,(s,e)∈st.T->e.v.names k=false) {w':World} (hs:Same (fun _=>False) w w') {env':Ar}
  (he:∀j,j≠k->env'.at_ j=env.at_ j/\env'.rv j=env.rv j) (hy:env'.yl=env.yl) (hg:∀g,env'.at_ k=some g->w.heap.size<=g/\g<w'.heap.size) {M':Nat->Prop}
  (hM:∀b,M b->M' b) (hM':∀b,M' b->M b\/(w.heap.size<=b/\env'.at_ k≠some b)) (hMl:∀b,M' b->b<w'.heap.size)
  {o:Ah} (ho:B8 P M' w' env' k o) (hso:∀g,¬ o.sub g:=by exact fun _ h=>h):∃X',Al P G { st with own:=(k,o)::st.own } a w' env' M' X' :=
 S.newOwnX hG hkn hk hT hs he hy (fun g h=>h.elim (hg g) (fun h=>(hso g h).elim)) hM (fun b hb=>(hM' b hb).imp id (fun h=>⟨h.1,fun h2=>h2.elim h.2 (hso b)⟩)) hMl ho
theorem Al.forget (S:Al P G st a w env M X) (k:Nat):Al P G (st.forget k) a w env M X :=
 S.sub (fun _ hx=>(rK.1 hx).1) (fun _ hx=>hx) S.nod rfl rfl
theorem Ir {k:Nat} {s:Nat} {e:AK} (h:(s,e)∈(st.forget k).T):e.v.names k=false:=by
 have:=(rK.1 h).2;grind
theorem EM {l:List (Nat×Ah)} {k:Nat} {o:Ah} {k':Nat} {o':Ah} (h:(k',o')∈Cl l k o):(k'=k/\o'=o/\∃o'',(k,o'')∈l)\/(k'≠k/\(k',o')∈l):=by
 obtain⟨⟨k2,o2⟩,hm,he⟩:=Ah2.1 h;grind
theorem Jk (l:List (Nat×Ah)) (k:Nat) (o:Ah):(Cl l k o).map (·.1)=l.map (·.1):=by
 induction l with
 |nil=>rfl
 |cons x l ih =>
   simp only[Cl,List.map_cons]at ih ⊢;grind
theorem Al.writeX (hG:Br G) (S:Al P G st a w env M X) {k g:Nat} {o0 o:Ah} (hk:(k,o0)∈st.own) (hat:o0.has env k g) {w':World}
  (hs:Same (fun b=>b=g) w w') (hsz:w'.heap.size=w.heap.size) (ho:B8 P M w' env k o) (hso:∀g,o.sub g->o0.sub g):Al P G { st with own:=Cl st.own k o } a w' env M X:=by
 obtain⟨hXg,hMg,hgl⟩:=S.oat _ _ hk g hat;have hl:Be M M w w':=⟨hs.size,fun b hb=>hs.block b (S.mlt b hb) (fun e=>hMg (e ▸ hb)),fun b hb=>hb⟩;have hb:∀b,b<w.heap.size->b≠g->w'.heap[b]? = w.heap[b]?:=fun b h1 h2=>hs.block b h1 h2;refine⟨⟨hG _ _ _ _ _ S.gam.1 ⟨hs.os,hs.tape,hs.output,hs.drawn,hs.size,fun b hb hx=>hs.block b hb (fun e=>hx (e ▸ hXg))⟩ (fun b h=>h) (fun b h=>.inl h),S.gam.2⟩,S.mx,?_,?_,?_,by simp only[Jk];exact S.nod,by rw[hsz];exact S.mlt,by rw[hsz];exact S.xlt,S.siz,?_,S.grd,?_,S.dno⟩
 ·intro k' o' h;rcases EM h with ⟨rfl,rfl,_⟩|⟨hne,h⟩
  ·exact ho
  ·have h1:=S.own _ _ h;have h2:=S.oat _ _ h;have hng:∀g',o'.has env k' g'->g'≠g:=fun g' hg' e=>S.inj _ _ _ _ h hk hne g' hg' (e ▸ hat);exact h1.move hl rfl rfl (fun g' ha=>hb g' (h2 g' ha).2.2 (hng g' ha)) (fun _ _=>⟨rfl,rfl⟩)
 ·intro k' o' h g' hg';rw[hsz];rcases EM h with ⟨rfl,rfl,o'',h''⟩|⟨hne,h⟩
  ·exact S.oat _ _ hk g' (hg'.imp id (hso g'))
  ·exact S.oat _ _ h g' hg'
 ·intro k1 o1 k2 o2 h1 h2 hne g' hg1;have old:∀{k' o'},(k',o')∈Cl st.own k o->∃q,(k',q)∈st.own/\∀g,o'.has env k' g->q.has env k' g:=fun h=>by
   rcases EM h with ⟨rfl,rfl,_⟩|⟨_,h⟩
   ·exact⟨o0,hk,fun g hg=>hg.imp id (hso g)⟩
   ·exact⟨_,h,fun _ h=>h⟩
  obtain⟨q1,e1,f1⟩:=old h1;obtain⟨q2,e2,f2⟩:=old h2;exact fun hc=>S.inj _ _ _ _ e1 e2 hne g' (f1 _ hg1) (f2 _ hc)
 ·intro s e h;obtain⟨h1,h2,h3⟩:=S.tmp s e h;exact⟨h1,fun ho'=>(h2 ho').later hl,h3⟩
 ·intro d hd;obtain⟨D,e,h1,h2,h3,h4⟩:=S.dfr d hd;refine⟨D,e,(hb D (S.xlt D h2) (fun e'=>h4 _ _ hk (e' ▸ hat))).trans h1,h2,h3,?_⟩;intro k' o' h;rcases EM h with ⟨rfl,rfl,_⟩|⟨_,h⟩
  ·exact fun hc=>h4 _ _ hk (hc.imp id (hso D))
  ·exact h4 _ _ h
theorem Al.write (hG:Br G) (S:Al P G st a w env M X) {k g:Nat} {o0 o:Ah} (hk:(k,o0)∈st.own) (hat:env.at_ k=some g) {w':World}
  (hs:Same (fun b=>b=g) w w') (hsz:w'.heap.size=w.heap.size) (ho:B8 P M w' env k o) (hso:∀g,¬ o.sub g:=by exact fun _ h=>h):Al P G { st with own:=Cl st.own k o } a w' env M X :=
 S.writeX hG hk (.inl hat) hs hsz ho (fun g h=>(hso g h).elim)
end
section
def W (ro:Option Nat):Fence:={ Fence.wide with round:=ro }
theorem Ps {ro:Option Nat} {n:Nat} {P:Program} {f:Nat} {args:Array Value} {w:World} {R:Ending->World->Prop} (h:CallsIn Fence.wide 0 P f args w R):CallsIn (W ro) n P f args w R :=
 (callsIn_wide (n:=n)).2 (callsIn_wide.1 h)
section
variable {ro:Option Nat} {n:Nat} {P:Program} {ops:Array Oper} {Q:Exit->Act->World->Prop} {rest:List Oper} {o:Oper} {a:Act} {w w':World} {u:Value}
theorem pO (hw:Region.wanted o (yielded ops a.tmps)=true) (ho:∀c,o.op ≠ .defer c) (hr:(execOp a.eval o).run P w=.ok (.value u) w') (k:wpListIn (W ro) n P ops Q rest (a.put o.dst u) w') :
  wpListIn (W ro) n P ops Q (o::rest) a w:=by
 unfold wpListIn;rw[if_pos hw];refine⟨fun f _=>trivial,?_⟩;rw[Oper.semAt_eq _ _ _ ho,hr];exact k
theorem pP (hw:Region.wanted o (yielded ops a.tmps)=true) (ho:∀c,o.op ≠ .defer c) (hr:(execOp a.eval o).run P w=.ok .skip w') (k:wpListIn (W ro) n P ops Q rest (a.put o.dst undef) w') :
  wpListIn (W ro) n P ops Q (o::rest) a w:=by
 unfold wpListIn;rw[if_pos hw];refine⟨fun f _=>trivial,?_⟩;rw[Oper.semAt_eq _ _ _ ho,hr];exact k
theorem pQ (hw:Region.wanted o (yielded ops a.tmps)=true) (ho:∀c,o.op ≠ .defer c) {f:Nat} {args:Array Value} (hr:(execOp a.eval o).run P w=.ok (.enter f args) w')
  (k:CallsIn Fence.wide 0 P f args w' (fun e w''=>∃v,e=.returned v/\wpListIn (W ro) n P ops Q rest (a.put o.dst v) w'')):wpListIn (W ro) n P ops Q (o::rest) a w:=by
 unfold wpListIn;rw[if_pos hw];refine⟨fun f _=>trivial,?_⟩;rw[Oper.semAt_eq _ _ _ ho,hr];refine⟨fun h=>by simp[W,Fence.wide]at h,?_⟩;grind [Ps,callsIn_wide,Calls.mono]
theorem pS (hw:¬ Region.wanted o (yielded ops a.tmps)=true) (k:wpListIn (W ro) n P ops Q rest (a.put o.dst undef) w):wpListIn (W ro) n P ops Q (o::rest) a w:=by
 unfold wpListIn;rw[if_neg hw];exact⟨fun f _=>trivial,k⟩
end
variable {P:Program} {M:Nat->Prop} {w:World} {G:Bw} {st:St} {a:Act} {env:Ar} {X:Nat->Prop}
def GN (P:Program) (a:Act) (o:Oper) (w:World) (N:Act->World->Prop):Prop :=
 (∀c,o.op ≠ .defer c)/\((∃u w',(execOp a.eval o).run P w=.ok (.value u) w'/\N (a.put o.dst u) w')\/(∃w',(execOp a.eval o).run P w=.ok .skip w'/\N (a.put o.dst undef) w') \/
  (∃f args w',(execOp a.eval o).run P w=.ok (.enter f args) w'/\CallsIn Fence.wide 0 P f args w' (fun e w''=>∃v,e=.returned v/\N (a.put o.dst v) w'')) \/
  ∃l f tmps assign body w',(execOp a.eval o).run P w=.ok (.round l f tmps assign body) w'/\RoundIn Fence.wide 0 P l f tmps assign body w' (fun e w''=>∃v,e=.returned v/\N (a.put o.dst v) w''))
theorem SK {ro:Option Nat} {n:Nat} {P:Program} {l f:Nat} {tmps:Array Value} {assign body:Code} {w:World} {R:Ending->World->Prop} (h:RoundIn Fence.wide 0 P l f tmps assign body w R):RoundIn (W ro) n P l f tmps assign body w R :=
 ⟨trivial,fun c cs _=>h.2 c cs (by simp[Fence.room,Fence.wide])⟩
theorem Kb {P:Program} {l f:Nat} {tmps:Array Value} {assign body:Code} {w:World} {R R':Ending->World->Prop} (h:RoundIn Fence.wide 0 P l f tmps assign body w R) (k:∀e w',R e w'->R' e w'):RoundIn Fence.wide 0 P l f tmps assign body w R':=by
 refine⟨h.1,fun c cs hr=>?_⟩;obtain⟨e,w',hR,hc⟩:=h.2 c cs hr;grind
theorem pT {ro:Option Nat} {n:Nat} {ops:Array Oper} {Q:Exit->Act->World->Prop} {rest:List Oper} {o:Oper} (hw:Region.wanted o (yielded ops a.tmps)=true)
  (h:GN P a o w (wpListIn (W ro) n P ops Q rest)):wpListIn (W ro) n P ops Q (o::rest) a w:=by
 obtain⟨ho,⟨u,w',hr,hk⟩|⟨w',hr,hk⟩|⟨f,args,w',hr,hk⟩|⟨l,f,tmps,assign,body,w',hr,hk⟩⟩:=h
 ·grind [pO]
 ·grind [pP]
 ·grind [pQ]
 ·unfold wpListIn;rw[if_pos hw];refine⟨fun f _=>trivial,?_⟩;rw[Oper.semAt_eq _ _ _ ho,hr];refine⟨fun h=>by simp[W,Fence.wide]at h,?_⟩;grind [SK,Kb]
theorem Al.put0 (S:Al P G st a w env M X) {d:Option Nat} {e:EV} {v:Value} (hd:∀t,d=some t->t<st.nt) (he:Ap P M w env e v):Al P G (st.put d ⟨none,e⟩) (a.put d v) w env M X :=
 S.put hd (fun _=>he) (fun h=>absurd trivial h) (by grind)
theorem Al.putG (S:Al P G st a w env M X) {gd:gdT} (hgd:EL a gd) {d:Option Nat} {e:EV} {v:Value} (hd:∀t,d=some t->t<st.nt) (hq:∀q c x,gd=some (q,c,x)->d≠some q)
  (he:CB gd->Ap P M w env e v) (hu:¬ CB gd->v=undef):Al P G (st.put d ⟨gd,e⟩) (a.put d v) w env M X :=
 S.put hd (fun h=>he (pJ h)) (fun h=>hu (fun h'=>h (Hp h'))) (fun q c x hx=>⟨hq q c x hx,hgd q c x hx⟩)
def Ar.set (env:Ar) (k g:Nat) (v:Value):Ar:={ env with at_:=fun j=>if j=k then some g else env.at_ j,rv:=fun j=>if j=k then v else env.rv j }
theorem Ar.set_at (env:Ar) (k g:Nat) (v:Value):(env.set k g v).at_ k=some g:=by simp[Ar.set]
theorem Ar.set_rv (env:Ar) (k g:Nat) (v:Value):(env.set k g v).rv k=v:=by simp[Ar.set]
theorem Ar.set_other (env:Ar) (k g:Nat) (v:Value) (j:Nat) (h:j≠k):(env.set k g v).at_ j=env.at_ j/\(env.set k g v).rv j=env.rv j:=by simp[Ar.set,h]
theorem SM (hG:Br G) (S:Al P G st a w env M X) {d:Nat} (hdn:d<st.nt) (hn:(st.forget d).noName d=true) {cs:List EV} {vs:List Value} (hl:vs.length=cs.length)
  (hd:∀i,i<cs.length->Ap P M w env (EV.at cs i) (vs.getD i undef)) (h1:∀v,v∈vs->v.oneCell'=true) (hcn:∀i,i<cs.length->(EV.at cs i).names d=false) (t:TypeId) :
  ∃env' X',Al P G { st.forget d with own:=(d,.blk t cs)::st.own } a (w.alloc (.cells vs.toArray t)) env' M X'/\env'.at_ d=some w.heap.size:=by
 have hs:=Iq w (.cells vs.toArray t);have hl':Be M M w (w.alloc (.cells vs.toArray t)):=⟨by simp,fun b hb=>hs.block b (S.mlt b hb) id,fun b hb=>hb⟩;obtain⟨X',h⟩:=(S.forget d).newOwn hG hdn hn (fun s e h=>Ir h) hs (env':=env.set d w.heap.size undef) (Ar.set_other env d _ _) rfl
  (fun g hg=>by rw[Ar.set_at]at hg;cases hg;simp) (M':=M) (fun b h=>h) (fun b h=>.inl h) (fun b h=>by have:=S.mlt b h;simp;omega)
  (o:=.blk t cs) ⟨w.heap.size,vs.toArray,Ar.set_at _ _ _ _,Array.getElem?_push_size,by grind,fun i hi=>by
   have hlt:i<vs.length:=by omega
   have he:(vs.toArray.getD i undef)=vs.getD i undef:=by simp[LS,AS]
   rw[he];refine⟨by grind,(hd i hi).reenv hl' (Ar.set_other env d _ _) rfl (hcn i hi)⟩⟩
 exact⟨_,X',h,Ar.set_at _ _ _ _⟩
theorem pU {cs:List EV} {d:Nat} (h:(!(cs.any (·.names d)))=true):∀i,i<cs.length->(EV.at cs i).names d=false:=fun i hi=>by
 simp only[Bool.not_eq_true',List.any_eq_false]at h;have:=h cs[i] (AhX hi);simpa[EV.at,AS,hi]using this
theorem MX {cs:List EV} (h:cs.all CW=true) {vs:List Value} (hl:vs.length=cs.length) (hd:∀i,i<cs.length->Ap P M w env (EV.at cs i) (vs.getD i undef)):∀v,v∈vs->v.oneCell'=true:=fun v hv=>by
 obtain⟨i,hi,rfl⟩:=AhR hv;have hi':i<cs.length:=by omega
 have h1:CW cs[i]=true:=(by grind);have h2:=hd i hi';rw[show EV.at cs i=cs[i]by simp[EV.at,AS,hi']]at h2;grind [pN]
theorem SN (hG:Br G) (S:Al P G st a w env M X) {C:Aj} {t:TypeId} {cs:List EV} {d:Nat} {gd:gdT} (hgd:EL a gd) (hh:CB gd) (hdn:d<st.nt) (hq:∀q c x,gd=some (q,c,x)->(some d:Option Nat)≠some q) {K:St->Prop} (h:newVar C t cs st d gd K)
  {vs:List Value} (hl:vs.length=cs.length) (hd:∀i,i<cs.length->Ap P M w env (EV.at cs i) (vs.getD i undef)) :
  ∃st',K st'/\AO P G st' (a.put (some d) (.pointer (some ⟨w.heap.size,0,none⟩))) (w.alloc (.cells vs.toArray t)):=by
 unfold newVar at h;split at h
 ·rename_i hone;have h1:=MX hone hl hd;split at h
  ·split at h
   ·split at h
    ·rename_i hc;simp only[pR]at hc;obtain⟨env',X',h2,h3⟩:=SM hG S hdn hc.1 hl hd h1 (pU hc.2) t;exact⟨_,h,env',M,X',h2.put0 (by intro t' ht;cases ht;exact hdn) (.loc h3)⟩
    grind
   grind
  ·split at h
   ·rename_i ss hss;obtain⟨M',X',h2,h3,_⟩:=S.newRef hG (Jd hss hl hd) h1 t;exact⟨_,h,env,M',X',h2.putG hgd (by grind) hq (fun _=>.p h3) (by grind)⟩
   grind
 grind
end
section
variable {P:Program} {M:Nat->Prop} {w:World} {G:Bw} {st:St} {a:Act} {env:Ar} {X:Nat->Prop}
theorem L7 {s:Sem Unit} {w':World} (h:s.run P w=.ok () w'):(do s;pure Next.skip:Sem Next).run P w=.ok .skip w':=by simp[h]
theorem F7 {s:Sem Value} {v:Value} {w':World} (h:s.run P w=.ok v w'):(do pure (Next.value (<- s)):Sem Next).run P w=.ok (.value v) w':=by simp[h]
theorem Pu:∀(l:List EV) (cs:List EV) (off:Nat),(EJ cs off l).length=cs.length
 |[],cs,off=>rfl
 |e::l,cs,off=>by rw[EJ,Pu l];simp
theorem SO (cs:List EV) (i:Nat) (h:i<cs.length):EV.at cs i=cs[i]:=by simp[EV.at,AS,h]
theorem SP:∀(l:List EV) (cs:List EV) (off i:Nat),off+l.length<=cs.length->i<cs.length->EV.at (EJ cs off l) i=if off<=i/\i<off+l.length then EV.at l (i-off)else EV.at cs i
 |[],cs,off,i,_,_=>by rw[EJ,if_neg (by simp)]
 |e::l,cs,off,i,h,hi=>by
   simp only[Aim]at h;rw[EJ,SP l (cs.set off e) (off+1) i (by simp;omega) (by grind)]
   by_cases h1:off=i
   ·subst h1;rw[if_neg (by omega),if_pos (by simp)];simp[EV.at,AS,hi]
   ·by_cases h2:off+1<=i/\i<off+1+l.length
    ·rw[if_pos h2,if_pos (by simp;omega)];have:i-off=(i-(off+1))+1:=by omega
     rw[this];simp[EV.at,AS]
    ·rw[if_neg h2,if_neg (by simp;omega)];simp[EV.at,AS,h1]
theorem MY:∀(l:List SV) (cs:List SV) (off:Nat),(GH cs off l).length=cs.length
 |[],cs,off=>rfl
 |e::l,cs,off=>by rw[GH,MY l];simp
theorem SQ:∀(l:List SV) (cs:List SV) (off i:Nat),off+l.length<=cs.length->i<cs.length->SV.at (GH cs off l) i=if off<=i/\i<off+l.length then SV.at l (i-off)else SV.at cs i
 |[],cs,off,i,_,_=>by rw[GH,if_neg (by simp)]
 |e::l,cs,off,i,h,hi=>by
   simp only[Aim]at h;rw[GH,SQ l (cs.set off e) (off+1) i (by simp;omega) (by grind)]
   by_cases h1:off=i
   ·subst h1;rw[if_neg (by omega),if_pos (by simp)];simp[SV.at,AS,hi]
   ·by_cases h2:off+1<=i/\i<off+1+l.length
    ·rw[if_pos h2,if_pos (by simp;omega)];have:i-off=(i-(off+1))+1:=by omega
     rw[this];simp[SV.at,AS]
    ·rw[if_neg h2,if_neg (by simp;omega)];simp[SV.at,AS,h1]
theorem Is (cur:Array Value) (o:Nat) (vs:List Value) (h:o+vs.length<=cur.size) (i:Nat) (hi:i<cur.size) :
  (cur.toList.take o++vs++cur.toList.drop (o+vs.length)).toArray.getD i undef=if o<=i/\i<o+vs.length then vs.getD (i-o) undef else cur.getD i undef:=by
 simp only[LS,AiG,AS];grind
theorem It {g:Nat} (new:Array Value):Same (fun b=>b=g) w (w.setRow g new)/\(w.setRow g new).heap.size=w.heap.size:=by
 have hsz:(w.setRow g new).heap.size=w.heap.size:=by simp[World.setRow]
 refine⟨⟨rfl,rfl,rfl,Ah0 _,by omega,fun b hb hne=>?_⟩,hsz⟩;simp only[World.setRow,Array.getElem?_modify];grind
theorem L8 {t:TypeId} {y:Ty} (hy:Bg P t=some y) {g o:Nat} {e:TypeId} {cur:Array Value} (hh:w.heap[g]? = some (.cells cur e (0,0))) {v:Value} (hl:v.cells.size=y.size) (hle:o+y.size<=cur.size)
  (h1:∀u,u∈v.cells.toList->u.oneCell'=true):(Instr.storeAt t (.pointer (some ⟨g,o,none⟩)) v).run P w=.ok () (w.setRow g (cur.toList.take o++v.cells.toList++cur.toList.drop (o+v.cells.toList.length)).toArray):=by
 obtain⟨i,hi,hz,hs,hb,hu⟩:=CV hy;have:=run_storeCells_at (P:=P) g o e v.cells.toList 0 cur w hh (by simp;omega) h1;simp only[Nat.add_zero]at this;simp[Instr.storeAt,Instr.sureAddr,storeVar,EY hi,hs,hl,this]
theorem Pv (hG:Br G) (S:Al P G st a w env M X) {t:TypeId} {y:Ty} (hy:Bg P t=some y) {p e:EV} {ps:List Prop} {st':St} (h:Hn st y p e=some (ps,st')) (hp:all ps)
  {u v:Value} (hu:Ap P M w env p u) (hv:Ap P M w env e v):∃w',(Instr.storeAt t u v).run P w=.ok () w'/\Al P G st' a w' env M X:=by
 cases p with
 |loc b off =>
   cases hu with
   |@loc _ _ g hg =>
   simp only[Hn]at h;split at h
   ·rename_i t' cs hl;split at h
    ·rename_i hc;obtain⟨hc1,hc2,hc3⟩:=hc;cases h;obtain⟨hcl,hcd⟩:=MO hv hc3;have h1:=MX hc3 hcl hcd;obtain⟨g',vs,hg',hh,hz,hd⟩:=S.own _ _ (Bp hl);rw[hg]at hg';cases hg';have hsz:v.cells.size=y.size:=by rw[<- hc1,<- hcl];simp
     have hglt:=(S.oat _ _ (Bp hl) g (.inl hg)).2.2;refine⟨_,L8 hy hh hsz (by omega) h1,?_⟩;obtain⟨hs,hss⟩:=It (w:=w) (g:=g) (vs.toList.take off++v.cells.toList++vs.toList.drop (off+v.cells.toList.length)).toArray;have hl':Be M M w (w.setRow g (vs.toList.take off++v.cells.toList++vs.toList.drop (off+v.cells.toList.length)).toArray):=
      ⟨by omega,fun b hb=>hs.block b (S.mlt b hb) (fun e=>(S.oat _ _ (Bp hl) g (.inl hg)).2.1 (e ▸ hb)),fun b hb=>hb⟩
     refine S.write hG (Bp hl) hg hs hss ?_;refine⟨g,_,hg,setRow_heap w g vs _ _ _ hh,?_,?_⟩
     ·rw[Pu];simp;omega
     ·rw[Pu];intro i hi;rw[Is vs off _ (by simp;omega) i (by omega),SP _ _ _ _ (by omega) hi]
      by_cases hr:off<=i/\i<off+(BS e).length
      ·rw[if_pos hr,if_pos (by omega)];have hlt:i-off<(BS e).length:=by omega
       have:=hcd _ hlt;refine⟨?_,this.later hl'⟩;rw[AS,Ahz (by omega)];exact h1 _ (AhX _)
      ·rw[if_neg hr,if_neg (by omega)];exact⟨(hd i hi).1,(hd i hi).2.later hl'⟩
    ·cases h
   ·cases h
 |rptr r sz i off =>
   cases hu with
   |@rptr _ _ _ _ g hg =>
   simp only[Hn]at h;split at h
   ·rename_i t' sz' n get s hl;split at h
    ·rename_i hc;obtain⟨rfl,hc1,hc2,hc3⟩:=hc;cases h;have hin:i<n:=AC hp;rcases hv with ⟨hv⟩;obtain⟨hcl,hcd⟩:=Lp hv;have h1:∀u,u∈v.cells.toList->u.oneCell'=true:=fun u hu=>by
      obtain⟨j,hj,rfl⟩:=AhR hu;have hj':j<(cellsOf s).length:=by omega
      have h1:CW (.p (cellsOf s)[j])=true:=AhC.1 hc3 _ (AhX hj');have h2:=hcd j hj';rw[show SV.at (cellsOf s) j=(cellsOf s)[j]by simp[SV.at,AS,hj']]at h2;rw[AS,Ahz hj,Aix]at h2;exact Ka h1 h2
     obtain⟨hm,hgl,hO⟩:=S.own _ _ (Bp hl);rcases hO with ⟨hn,_⟩|⟨g',cap,cur,hg',hrv,hh,hnc,hcm,hcs,hd⟩
     ·rw[hn]at hg;cases hg
     rw[hg]at hg';cases hg';have hsz:v.cells.size=y.size:=by rw[<- hc1,<- hcl];simp
     have hglt:=(S.oat _ _ (Bp hl) g (.inl hg)).2.2;have hcap:i*sz'+sz'<=cap*sz':=by
      have:=AhI sz' (show i+1<=cap by omega);rwa[Aia,Nat.one_mul]at this
     refine⟨_,L8 hy hh hsz (by omega) h1,?_⟩;obtain⟨hs,hss⟩:=It (w:=w) (g:=g) (cur.toList.take (i*sz'+off)++v.cells.toList++cur.toList.drop (i*sz'+off+v.cells.toList.length)).toArray;have hl':Be M M w (w.setRow g (cur.toList.take (i*sz'+off)++v.cells.toList++cur.toList.drop (i*sz'+off+v.cells.toList.length)).toArray):=
      ⟨by omega,fun b hb=>hs.block b (S.mlt b hb) (fun e=>(S.oat _ _ (Bp hl) g (.inl hg)).2.1 (e ▸ hb)),fun b hb=>hb⟩
     refine S.write hG (Bp hl) hg hs hss ?_;refine⟨hm,fun j hj=>?_,.inr ⟨g,cap,_,hg,hrv,setRow_heap w g cur _ _ _ hh,hnc,hcm,by simp;omega,fun j hj k hk=>?_⟩⟩
     ·unfold setRow;split
      ·rw[MY];exact hgl j hj
      ·exact hgl j hj
     ·have hjc : j*sz'+sz'<=cap*sz' :=by
       have:=AhI sz' (show j+1<=cap by omega);rwa[Aia,Nat.one_mul]at this
      rw[Is cur _ _ (by simp;omega) _ (by omega)];unfold setRow
      by_cases hji:j=i
      ·subst hji;rw[if_pos rfl,SQ _ _ _ _ (by rw[hgl j hin];omega) (by rw[hgl j hin];exact hk)]
       by_cases hr:off<=k/\k<off+(cellsOf s).length
       ·rw[if_pos (by omega),if_pos hr];have hlt:k-off<(cellsOf s).length:=by omega
        rw[show j*sz'+k-(j*sz'+off)=k-off by omega];refine⟨?_,(hcd _ hlt).later hl'⟩;rw[AS,Ahz (by omega)];exact h1 _ (AhX _)
       ·rw[if_neg (by omega),if_neg hr];exact⟨(hd j hin k hk).1,(hd j hin k hk).2.later hl'⟩
      ·rw[if_neg hji];have hne:¬ (i*sz'+off<=j*sz'+k/\j*sz'+k<i*sz'+off+(cellsOf s).length):=by
        intro hx;rcases Nat.lt_or_ge j i with h5|h5
        ·have:=AhI sz' (show j+1<=i by omega);rw[Aia]at this;omega
        ·have:=AhI sz' (show i+1<=j by omega);rw[Aia]at this;omega
       rw[if_neg (by rw[hcl];exact hne)];exact⟨(hd j hj k hk).1,(hd j hj k hk).2.later hl'⟩
    ·split at h
     ·rename_i hc;obtain⟨rfl,rfl,rfl,rfl,hcn,hyn,hc3⟩:=hc;cases h;rcases hv with ⟨hv⟩;obtain⟨hcl,hcd⟩:=Lp hv;have h1:∀u,u∈v.cells.toList->u.oneCell'=true:=fun u hu=>by
       obtain⟨j,hj,rfl⟩:=AhR hu;have hj':j<(cellsOf s).length:=by omega
       have h1:CW (.p (cellsOf s)[j])=true:=AhC.1 hc3 _ (AhX hj');have h2:=hcd j hj';rw[show SV.at (cellsOf s) j=(cellsOf s)[j]by simp[SV.at,AS,hj']]at h2;rw[AS,Ahz hj,Aix]at h2;exact Ka h1 h2
      obtain⟨hm,hgl,hO⟩:=S.own _ _ (Bp hl);rcases hO with ⟨hn,_⟩|⟨g',cap,cur,hg',hrv,hh,hnc,hcm,hcs,hd⟩
      ·rw[hn]at hg;cases hg
      rw[hg]at hg';cases hg';have hsz:v.cells.size=y.size:=by rw[hyn,<- hcn,<- hcl];simp
      refine⟨_,L8 hy hh hsz (by omega) h1,?_⟩;obtain⟨hs,hss⟩:=It (w:=w) (g:=g) (cur.toList.take (0*1+0)++v.cells.toList++cur.toList.drop (0*1+0+v.cells.toList.length)).toArray;have hl':Be M M w (w.setRow g (cur.toList.take (0*1+0)++v.cells.toList++cur.toList.drop (0*1+0+v.cells.toList.length)).toArray):=
       ⟨by omega,fun b hb=>hs.block b (S.mlt b hb) (fun e=>(S.oat _ _ (Bp hl) g (.inl hg)).2.1 (e ▸ hb)),fun b hb=>hb⟩
      refine S.write hG (Bp hl) hg hs hss ?_;refine⟨hm,fun j hj=>rfl,.inr ⟨g,cap,_,hg,hrv,setRow_heap w g cur _ _ _ hh,hnc,hcm,by simp;omega,fun j hj k hk=>?_⟩⟩;obtain rfl:k=0:=by omega
      rw[Is cur _ _ (by simp;omega) _ (by omega),if_pos (by omega)];have hlt:j<(cellsOf s).length:=by omega
      rw[show j*1+0-(0*1+0)=j by omega];refine⟨?_,?_⟩
      ·rw[AS,Ahz (by omega)];exact h1 _ (AhX _)
      ·show Ax M _ (Lk (cellsOf s) j) _;rw[Ss hlt];exact(hcd _ hlt).later hl'
     ·cases h
   ·cases h
 |rrptr k i j b =>
   cases hu;simp only[Hn]at h;split at h
   ·rename_i e1 e2 sz n bl cp len get s hl;split at h
    ·rename_i hc;obtain⟨rfl,hys,hc1,hc3⟩:=hc;cases h;obtain⟨rfl,hin,hjn⟩:=hp _ (Ah9.2 rfl);rcases hv with ⟨hv⟩;obtain⟨hcl,hcd⟩:=Lp hv;have h1:∀u,u∈v.cells.toList->u.oneCell'=true:=fun u hu=>by
      obtain⟨j,hj,rfl⟩:=AhR hu;have hj':j<(cellsOf s).length:=by omega
      have h1:CW (.p (cellsOf s)[j])=true:=AhC.1 hc3 _ (AhX hj');have h2:=hcd j hj';rw[show SV.at (cellsOf s) j=(cellsOf s)[j]by simp[SV.at,AS,hj']]at h2;rw[AS,Ahz hj,Aix]at h2;exact Ka h1 h2
     have hmem:=Bp hl;obtain⟨hm,hbi,hbg,hO⟩:=S.own _ _ hmem;rcases hO with ⟨_,_,hn⟩|⟨g',cap,cur,hg',hrv,hh,hnc,hcm,hcs,hd⟩
     ·omega
     have hhas:(Ah.rr e1 e2 1 n bl cp len get).has env k (bl i):=.inr ⟨i,hin,rfl⟩;obtain⟨x1,x2,x3⟩:=S.oat _ _ hmem _ hhas;have hR:=hd i hin;obtain⟨r1,r2,r3,c,r4,r5,r6⟩:=hR;have hsz:v.cells.size=y.size:=by rw[hys,<- hc1,<- hcl];simp
     refine⟨_,L8 hy r4 hsz (by omega) h1,?_⟩;obtain⟨hs,hss⟩:=It (w:=w) (g:=bl i) (c.toList.take j++v.cells.toList++c.toList.drop (j+v.cells.toList.length)).toArray;have hl':Be M M w (w.setRow (bl i) (c.toList.take j++v.cells.toList++c.toList.drop (j+v.cells.toList.length)).toArray):=
      ⟨by omega,fun b hb=>hs.block b (S.mlt b hb) (fun e=>x2 (e ▸ hb)),fun b hb=>hb⟩
     have hne:g'≠bl i:=fun e=>hbg i hin (e ▸ hg');have hlt:∀i',i'<n->bl i'<w.heap.size:=fun i' hi'=>(S.oat _ _ hmem _ (.inr ⟨i',hi',rfl⟩)).2.2;have hg'l:=(S.oat _ _ hmem _ (.inl hg')).2.2;refine S.writeX hG hmem hhas hs hss ⟨hm,hbi,hbg,.inr ⟨g',cap,cur,hg',hrv,(hs.block g' hg'l hne).trans hh,hnc,hcm,hcs,fun i' hi'=>?_⟩⟩ (fun _ h=>h)
     by_cases hii:i'=i
     ·subst hii;refine⟨r1,r2,fun j' hj'=>?_,_,setRow_heap w _ c _ _ _ r4,by simp;omega,fun j' hj' u hu=>?_⟩
      ·unfold GK;rw[if_pos rfl];split
       ·exact hc1
       ·exact r3 j' hj'
      ·obtain rfl:u=0:=by omega
       rw[Is c _ _ (by simp;omega) _ (by omega)];unfold GK;rw[if_pos rfl]
       by_cases hjj:j'=j
       ·subst hjj;rw[if_pos rfl,if_pos (by omega),show j'*1+0-j'=0 by omega];refine⟨?_,(hcd 0 (by omega)).later hl'⟩;rw[AS,Ahz (by omega)];exact h1 _ (AhX _)
       ·rw[if_neg hjj,if_neg (by omega)];exact⟨(r6 j' hj' 0 (by omega)).1,(r6 j' hj' 0 (by omega)).2.later hl'⟩
     ·have:=(hd i' hi').move hl' (hs.block _ (hlt i' hi') (fun e=>hii (hbi i' i hi' hin e)));obtain⟨q1,q2,q3,cc,q4,q5,q6⟩:=this;have e:GK get i j (cellsOf s) i'=get i':=by funext j';unfold GK;rw[if_neg hii]
      rw[e];exact⟨q1,q2,q3,cc,q4,q5,q6⟩
    ·cases h
   ·cases h
 |_=>simp[Hn]at h
end
end Go.SE
