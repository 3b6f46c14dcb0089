/- A symbolic walk over the model, and what it shows of functions of the program: parts of the proof that the text of the row joins. -/
import Derived.Test.YtijidjjfkahojaaGreatE4
import Derived.Shelf.SlSortCmp.NoneTotal
import Derived.ScopeJumps
import Derived.Laws.IdiomCopy
import Derived.Lib.SliceRun
import Derived.WalkKit
import Derived.Deep.RegionLaw
import Derived.Lib.Walk
import Derived.Shelf.RegionOpenPlain
open List renaming getD_eq_getElem?_getD->AS,getElem?_eq_getElem->oE,mem_cons->Afk,range->Afm,mem_singleton->Afr,mem_cons_self->Afs,getElem?_map->Agu,not_mem_nil->Agz
open Array renaming getD_eq_getD_getElem?->LS,getElem?_eq_getElem->rN,getElem?_append_left->Agc,getElem?_modify->Agj
open Nat renaming not_lt_zero->Rc,le_refl->Afo,mul_comm->Agh
open Prod.mk renaming injEq->Afx
open Option renaming getD_some->AfJ,map_some->AfX
set_option linter.unusedSectionVars false
namespace Go.SE
open Go.Proofs Go.Shelf Go.RowKit Go.Lib Go.Sort
section
variable {P:Program} {A:Type} [Inhabited A]
def CT (enc:A->List Int) (a:A):List Value:=(enc a).map (Value.int .i64)
def CK (enc:A->List Int) (a:A):List SV:=(enc a).map (SV.int .i64)
theorem oW {M:Nat->Prop} {w:World} (enc:A->List Int) (a:A):Bk M w (CK enc a) (CT enc a):=by
 refine⟨by simp[CK,CT],fun i hi=>?_⟩;simp only[CK,List.length_map]at hi;simp only[CK,CT,SV.at,AS,Agu,oE hi,AfX,AfJ];exact .int _ _
theorem oX (enc:A->List Int) (a:A):∀v,v∈CT enc a->v.oneCell'=true:=fun v hv=>by
 simp only[CT,List.mem_map]at hv;obtain⟨n,_,rfl⟩:=hv;rfl
theorem oY {W w':World} (h:Bl W.heap.size W w'):∃q os,w'=grow (W.drewN q) os:=by
 refine⟨w'.drawn-W.drawn,w'.heap.extract W.heap.size w'.heap.size,?_⟩;obtain⟨heap,tape,drawn,os,output⟩:=w';obtain⟨h1,h2,h3,h4,h5,h6⟩:=h;simp only at h1 h2 h3 h4 h5 h6;subst h1 h2 h3;have e1:W.drawn+(drawn-W.drawn)=drawn:=by omega
 have e2:W.heap++heap.extract W.heap.size heap.size=heap:=by
  apply Array.ext_getElem?;intro i
  by_cases hi:i<W.heap.size
  ·rw[Agc hi,h6 i hi]
  ·rw[Array.getElem?_append_right (by omega),Array.getElem?_extract]
   by_cases h7:i<heap.size
   ·rw[if_pos (by omega),show W.heap.size+(i-W.heap.size)=i by omega]
   ·rw[if_neg (by omega),Array.getElem?_eq_none (by omega)]
 show World.mk _ _ _ _ _=World.mk (W.heap++heap.extract W.heap.size heap.size) W.tape (W.drawn+(drawn-W.drawn)) W.os W.output;rw[e1,e2]
theorem oZ {g:Nat} {enc:A->List Int} {k:Nat} {cf:A->A->Int} {pre:List EV->Prop} {res:List EV->SV} (hs:Av P g (.fn pre res))
  (hp:∀x y,pre [.p (.agg (CK enc x)),.p (.agg (CK enc y))]) (hr:∀x y,res [.p (.agg (CK enc x)),.p (.agg (CK enc y))]=.int .i64 (cf x y)) (blk off size:Nat) (w:World) :
  CmpLays P g #[] (CT enc) k cf blk off size w:=by
 intro m os dk _ x y;have hx:∀a:A,Au (fun _=>False) (sortWorldK (CT enc) k w blk off m dk os) (.agg (CK enc a)) (.agg (CT enc a).toArray):=fun a=>by
  have h:=oW (M:=fun _=>False) (w:=sortWorldK (CT enc) k w blk off m dk os) enc a;exact .agg _ _ h.1 h.2
 have:=hs (fun _=>False) (sortWorldK (CT enc) k w blk off m dk os) [.p (.agg (CK enc x)),.p (.agg (CK enc y))] [.agg (CT enc x).toArray,.agg (CT enc y).toArray] (fun b h=>h.elim)
  ⟨rfl,fun i hi=>by
   match i,hi with
   |0,_=>exact⟨rfl,.p (hx x)⟩
   |1,_=>exact⟨rfl,.p (hx y)⟩⟩ (hp x y)
 refine(callsIn_wide (n:=0)).1 (FW this fun e w' hg=>?_);obtain⟨v,M',rfl,hb,_,_,_,hd⟩:=hg;rw[hr]at hd;cases hd;exact⟨rfl,oY hb⟩
def Im (n:Nat) (f:Nat->A):Array A:=((Afm n).map f).toArray
theorem T6 (n:Nat) (f:Nat->A):(Im n f).size=n:=by simp[Im]
theorem T7 {n:Nat} {f:Nat->A} {i:Nat} (h:i<n):(Im n f)[i]! = f i:=by
 rw[getElem!_pos _ i (by rw[T6];exact h)];simp[Im]
structure Dw (cf:A->A->Int) (n:Nat) (f u:Nat->A):Prop where
 perm:((Afm n).map u).Perm ((Afm n).map f)
 asc:∀i j,i<j->j<n->¬ cf (u j) (u i)<0
theorem pA {M:Nat->Prop} {w:World} {enc:A->List Int} {a:A} {j:Nat} (hj:j<(enc a).length) {v:Value} (h:Au M w (SV.at (CK enc a) j) v):v=(CT enc a)[j]!:=by
 have e1:SV.at (CK enc a) j=.int .i64 ((enc a)[j]'hj):=by
  simp[CK,SV.at,AS,Agu,oE hj]
 have e2:(CT enc a)[j]! = .int .i64 ((enc a)[j]'hj):=by
  simp[CT,List.getElem!_eq_getElem?_getD,Agu,oE hj]
 rw[e1]at h;cases h;exact e2.symm
theorem getD_get! {c:Array Value} {i:Nat} (h:i<c.size):c.getD i undef=c[i]'h:=by
 rw[LS,rN h];rfl
theorem pC {ρ:Ren} (L:SlLaysF0.n6 P ρ) {k:Nat} (hk0:0<k) (aE:∀w,(isAgg (ρ.t 24)).run P w=.ok true w) (zE:∀w,(Go.sizeOf (ρ.t 24)).run P w=.ok k w) {enc:A->List Int} (hk:∀x,(enc x).length=k)
  {cf:A->A->Int} (hO:SWO (ltOf cf)) {g:Nat} {pre:List EV->Prop} {res:List EV->SV} (hs:Av P g (.fn pre res)) (he:Ao P g)
  (hp:∀x y,pre [.p (.agg (CK enc x)),.p (.agg (CK enc y))]) (hr:∀x y,res [.p (.agg (CK enc x)),.p (.agg (CK enc y))]=.int .i64 (cf x y))
  {M:Nat->Prop} {w:World} {env:As} {key:Nat} {e:TypeId} {n:Nat} {f:Nat->A} (hn:n<4611686018427387904) (hown:B8 P M w env key (.row e k n (fun i=>CK enc (f i))))
  (hat:∀b,env.at_ key=some b->¬ M b/\b<w.heap.size) :
  Calls P (ρ.f 6) #[env.rv key,.func (.func g) #[] #[]] w (fun en w'=>∃u:Nat->A,Dw cf n f u/\en=.returned (.tuple #[])/\Same (fun b=>env.at_ key=some b) w w'/\B8 P M w' env key (.row e k n (fun i=>CK enc (u i)))):=by
 obtain⟨hm,hgl,hcase⟩:=hown;rcases hcase with ⟨h1,h2,h3⟩|⟨b,cap,cur,hb,hrv,hh,hnc,hcm,hcs,hd⟩
 ·subst h3;rw[h2];refine(AnyF.slices_SortFunc_none L none 0 _ w).mono ?_;rintro en w' ⟨rfl,rfl⟩;exact⟨f,⟨List.Perm.refl _,fun i j _ hj=>absurd hj (Rc _)⟩,rfl,⟨rfl,rfl,rfl,Afo _,Afo _,fun _ _ _=>rfl⟩,hm,hgl,.inl ⟨h1,h2,rfl⟩⟩
 ·rw[hrv];have hds:=T6 n f;have hkV:∀x,(CT enc x).length=k:=fun x=>by simp[CT,hk]
  have hnk:n*k<=cur.size:=by rw[hcs];exact Nat.mul_le_mul_right _ hnc
  have hH:HoldsK (CT enc) k w b 0 (Im n f):=by
   intro j hj;rw[size_flatK,hds]at hj;have hjc:j<cur.size:=by omega
   have hi:j / k<n:=Nat.div_lt_of_lt_mul (by rw[Agh];exact hj);have hr2:j % k<k:=Nat.mod_lt _ hk0;have h1:=(hd (j / k) hi (j % k) hr2).2;have e0:j / k*k+j % k=j:=by rw[Agh];exact Nat.div_add_mod j k
   rw[e0,getD_get! hjc]at h1;have h2:=pA (by rw[hk];exact hr2) h1;constructor
   ·rw[get_flatK _ _ _ _ (by rw[hds];exact hj),T7 hi,<- h2];simp only[World.cell?,hh,Nat.zero_add,id];rw[rN hjc];rfl
   ·simp[World.frozen?,hh]
  have hc:=AnyQ.slices_SortFunc L k aE zE (CT enc) hkV (oX enc) cf hO g #[] b 0 cap (Im n f) w he (oZ hs hp hr b 0 _ w) hH (hat b hb).2 (by rw[hds];exact hn);rw[hds]at hc;refine hc.mono ?_;rintro en w' ⟨rfl,d',m,os,⟨hsz,_,hperm⟩,hasc,rfl⟩;rw[hds]at hsz;have hheap:(sortWorldK (CT enc) k w b 0 m d' os).heap=w.heap.modify b (onCells (putCells id 0 (flatK (CT enc) k d')))++os:=rfl;have hbl:=(hat b hb).2;have hd'l:∀d0:Array A,d0.size=n->(Afm n).map (fun i=>d0[i]!)=(d0.extract 0 n).toList:=fun d0 h0=>by
   apply List.ext_getElem?;intro i
   by_cases hi:i<n
   ·rw[Agu,List.getElem?_range hi];simp only[AfX,Array.getElem?_toList,Array.getElem?_extract];rw[if_pos (by omega),Nat.zero_add,rN (by omega),getElem!_pos d0 i (by omega)]
   ·rw[List.getElem?_eq_none (by simp;omega),List.getElem?_eq_none (by simp;omega)]
  refine⟨fun i=>d'[i]!,⟨?_,fun i j hij hj=>?_⟩,rfl,⟨rfl,rfl,rfl,?_,?_,fun c hc hne=>?_⟩,hm,fun i _=>by simp[CK,hk],.inr ⟨b,cap,putCells id 0 (flatK (CT enc) k d') cur,hb,hrv,?_,hnc,hcm,by simp[putCells,hcs],fun i hi j hj=>?_⟩⟩
  ·rw[hd'l d' hsz];refine hperm.trans ?_;rw[<- hd'l (Im n f) hds];have:(Afm n).map (fun i=>(Im n f)[i]!)=(Afm n).map f:=List.map_congr_left (fun i hi=>T7 (List.mem_range.1 hi));rw[this]
  ·have:=hasc i j (Nat.zero_le _) hij (by omega);exact of_decide_eq_false this
  ·show w.drawn<=w.drawn+m;omega
  ·rw[hheap];simp
  ·have hne:¬ b=c:=fun e=>hne (e ▸ hb);rw[hheap,Agc (by simpa using hc),Agj,if_neg hne]
  ·rw[hheap,Agc (by simpa using hbl),Agj,if_pos rfl,hh];rfl
  ·have hlt:i*k+j<n*k:=Ct hi hj;have hlc:i*k+j<cur.size:=by omega
   have e1:(putCells id 0 (flatK (CT enc) k d') cur).getD (i*k+j) undef=(CT enc d'[i]!)[j]!:=by
    rw[LS];simp only[putCells,Array.getElem?_mapIdx,rN hlc,AfX,AfJ];rw[if_pos ⟨Nat.zero_le _,by rw[size_flatK,hsz];omega⟩,Nat.sub_zero,get_flatK _ _ _ _ (by rw[hsz];exact hlt)];have h1:(i*k+j) / k=i:=by rw[Agh,Nat.mul_add_div hk0,Nat.div_eq_of_lt hj,Nat.add_zero]
    have h2:(i*k+j) % k=j:=by rw[Agh,Nat.mul_add_mod,Nat.mod_eq_of_lt hj]
    rw[h1,h2];rfl
   rw[e1];have hj2:j<(enc d'[i]!).length:=by rw[hk];exact hj
   have e2:(CT enc d'[i]!)[j]! = .int .i64 ((enc d'[i]!)[j]'hj2):=by
    simp[CT,List.getElem!_eq_getElem?_getD,Agu,oE hj2]
   have e3:SV.at (CK enc d'[i]!) j=.int .i64 ((enc d'[i]!)[j]'hj2):=by
    simp[CK,SV.at,AS,Agu,oE hj2]
   show((CT enc d'[i]!)[j]!).oneCell'=true/\Au M _ (SV.at (CK enc d'[i]!) j) ((CT enc d'[i]!)[j]!);rw[e2,e3];exact⟨rfl,.int _ _⟩
def Nd (e:TypeId) (k g key:Nat) (enc:A->List Int) (cf:A->A->Int):Tr where
 T:=Nat×(Nat->A)
 U:=Nat->A
 args:=fun _=>[.row key,.p (.clo g [])]
 own:=fun t=>[(key,.row e k t.1 (fun i=>CK enc (t.2 i)))]
 pre:=fun t=>t.1<=1000000
 post:=fun t u=>Dw cf t.1 t.2 u
 own':=fun t u=>[(key,.row e k t.1 (fun i=>CK enc (u i)))]
 res:=fun _ _=>.p (.tup [])
theorem Pr {ρ:Ren} (L:SlLaysF0.n6 P ρ) {k:Nat} (hk0:0<k) (aE:∀w,(isAgg (ρ.t 24)).run P w=.ok true w) (zE:∀w,(Go.sizeOf (ρ.t 24)).run P w=.ok k w) {enc:A->List Int} (hk:∀x,(enc x).length=k)
  {cf:A->A->Int} (hO:SWO (ltOf cf)) {g:Nat} {pre:List EV->Prop} {res:List EV->SV} (hs:Av P g (.fn pre res)) (he:Ao P g)
  (hp:∀x y,pre [.p (.agg (CK enc x)),.p (.agg (CK enc y))]) (hr:∀x y,res [.p (.agg (CK enc x)),.p (.agg (CK enc y))]=.int .i64 (cf x y)) (e:TypeId) (key:Nat):Gn P (ρ.f 6) (Nd e k g key enc cf):=by
 refine⟨fun _ _=>rfl,fun t hpre M w env vals hM hown hat _ hl hv=>?_⟩;obtain⟨n,f⟩:=t;have hpre:n<=1000000:=hpre;have ho:=hown key _ (Afr.2 rfl);have ha:=hat key _ (Afr.2 rfl);have hl:vals.length=2:=hl
 match vals,hl with
 |[v0,v1],_ =>
   have h0:Ar P M w env (.row key) v0:=hv 0 (by show 0<2;omega);have h1:Ar P M w env (.p (.clo g [])) v1:=hv 1 (by show 1<2;omega);rcases h1 with ⟨h1⟩;cases h1 with
   |clo _ _ vs hvl _ =>
   have hvs:vs = []:=List.eq_nil_of_length_eq_zero hvl;subst hvs;have e0:v0=env.rv key:=by cases h0 with|row h=>exact h.symm
   subst e0;refine callsIn_wide.2 ((pC L hk0 aE zE hk hO hs he hp hr (by omega) ho ha).mono ?_);rintro en w' ⟨u,hu,rfl,hsame,hown'⟩;refine⟨u,.tuple #[],M,hu,rfl,?_,fun _ h=>h,fun _ h=>.inl h,fun b hb=>Nat.lt_of_lt_of_le (hM b hb) hsame.size,fun k' o' h'=>?_,.p (.tup [] [] rfl (fun i hi=>absurd hi (Rc _)))⟩
   ·exact⟨hsame.os,hsame.tape,hsame.output,hsame.drawn,hsame.size,fun c hc hne=>hsame.block c hc (fun e=>hne ⟨key,_,Afr.2 rfl,e⟩)⟩
   ·obtain⟨rfl,rfl⟩:=Prod.mk.inj (Afr.1 h');exact hown'
end
section
open Go.RowKit
variable {P:Program}
section
variable {G:Bn}
end
end
section
open Go.RowKit
variable {P:Program}
end
section
open Go.RowKit
variable {P:Program}
end
section
open Go.RowKit
variable {P:Program}
theorem Ps (f:Nat->Nat) (k:Nat):∀(hs:List SV),EV.ren.renL f (hs.map EV.p ++ [.mapv k])=hs.map EV.p ++ [.mapv (f k)]
 |[]=>rfl
 |s::l=>by simp only[List.map_cons,List.cons_append,EV.ren.renL,Ps f k l];rfl
theorem pD {f:Nat} {mk:Mk} {c:F9} (k0 k1:Nat) (h01:k0≠k1) (hM:Dq P f mk) (φ:c.T->(Int->Bool)->mk.T) (δ:c.T->(Int->Bool)->mk.U->Int->Bool) (hmv:mk.mv=none) (hks:mk.keys = []) (hlk:mk.lkeys = [k0,k1])
  (ha:∀t d,mk.args (φ t d)=.loc k0 0::(c.args t).map .p) (hl:∀t d,mk.lent (φ t d)= [(k0,.blk c.t ((c.head t).map .p ++ [.mapv k1])),(k1,.mq c.kt c.vt d (c.val t))])
  (hl':∀t d u,mk.lent' (φ t d) u = [(k0,.blk c.t ((c.head t).map .p ++ [.mapv k1])),(k1,.mq c.kt c.vt (δ t d u) (c.val t))]) (hp:∀t d,c.pre t->mk.pre (φ t d)) (hr:∀t d u,mk.res (φ t d) u=.p (c.res t)):IQ P f c:=by
 intro t hpre M w env a b vals hMw e0 e1 hab hMa hMb hb hblk ⟨dom,hmq⟩ hargs;have hsz:a<w.heap.size:=by
  obtain⟨g,vs,h1,h2,_⟩:=hblk;rw[e0]at h1;cases h1;exact(Array.getElem?_eq_some_iff.1 h2).1
 let g:Nat->Nat:=fun k=>if k=k0 then 0 else 1;have g0:g k0=0:=if_pos rfl;have g1:g k1=1:=if_neg (fun e=>h01 e.symm);have at0:(env.via g).at_ k0=some a:=by show env.at_ (g k0)=_;rw[g0];exact e0
 have at1:(env.via g).at_ k1=some b:=by show env.at_ (g k1)=_;rw[g1];exact e1
 have hb0:B8 P M w (env.via g) k0 (.blk c.t ((c.head t).map .p ++ [.mapv k1])):=JE (by
  show Eu P M w env (g k0) c.t (EV.ren.renL g _);rw[Ps,g0,g1];exact hblk)
 have hb1:B8 P M w (env.via g) k1 (.mq c.kt c.vt dom (c.val t)):=JE (by
  show Gk M w env (g k1) dom (c.val t);rw[g1];exact hmq)
 refine FW (hM.2 (φ t dom) (hp t dom hpre) M w (env.via g) (Value.pointer (some ⟨a,0,none⟩)::vals) hMw (fun k o hk=>?_) (fun k o hk x hx=>?_) (fun k o k' o' hk hk' hne x hx=>?_) (by rw[ha];simp[hargs.1]) (fun i hi=>?_)) ?_
 ·rw[hl]at hk;simp only[Afk,Afx,Agz,or_false]at hk;rcases hk with ⟨rfl,rfl⟩|⟨rfl,rfl⟩
  ·exact hb0
  ·exact hb1
 ·rw[hl]at hk;simp only[Afk,Afx,Agz,or_false]at hk;rcases hk with ⟨rfl,rfl⟩|⟨rfl,rfl⟩
  ·rw[at0]at hx;cases hx;exact⟨hMa,hsz⟩
  ·rw[at1]at hx;cases hx;exact⟨hMb,hb⟩
 ·rw[hl]at hk hk';simp only[Afk,Afx,Agz,or_false]at hk hk';rcases hk with ⟨rfl,rfl⟩|⟨rfl,rfl⟩<;>rcases hk' with ⟨rfl,rfl⟩|⟨rfl,rfl⟩
  ·exact absurd rfl hne
  ·rw[at0]at hx;cases hx;rw[at1];exact fun e=>hab (by cases e;rfl)
  ·rw[at1]at hx;cases hx;rw[at0];exact fun e=>hab (by cases e;rfl)
  ·exact absurd rfl hne
 ·rw[ha]at hi ⊢;cases i with
  |zero=>exact .loc at0
  |succ i=>exact IG hargs i (by simpa using hi)
 ·rintro e w' ⟨u,v,env',M',_,rfl,hs,hM1,hM2,hM3,hpin,_,_,_,ho,_,hres⟩;rw[hmv]at hM2 hpin;rw[hks]at hM2;rw[hlk]at hpin;rw[hr]at hres;have ho:∀k o,(k,o)∈mk.lent' (φ t dom) u->B8 P M' w' (env.via g) k o:=fun k o hk=>by
   have h1:=ho k o hk;rw[hl']at hk;have hag:∀j,j=k0\/j=k1->(env.via g).at_ j=env'.at_ j/\(env.via g).rv j=env'.rv j:=fun j hj=>by
    obtain⟨p1,p2⟩:=hpin j (by simpa using hj) (by simp[Cs]);exact⟨p1.symm,p2.symm⟩
   simp only[Afk,Afx,Agz,or_false]at hk;have hkk:k=k0\/k=k1:=hk.imp (·.1) (·.1);refine h1.move ⟨Afo _,fun _ _=>rfl,fun _ h=>h⟩ (hag k hkk).1 (hag k hkk).2 (fun _ _=>rfl) (fun j hj=>hag j ?_);rcases hk with ⟨rfl,rfl⟩|⟨rfl,rfl⟩
   ·right;have:EV.names.namesL j ((c.head t).map .p ++ [.mapv k1])=true:=hj;have hn:∀(l:List SV),EV.names.namesL j (l.map EV.p ++ [.mapv k1])=(j == k1)\/EV.names.namesL j (l.map EV.p ++ [.mapv k1])=(k1 == j):=fun l=>by
     induction l with
     |nil=>simp[EV.names.namesL,EV.names]
     |cons s l ih=>simpa[EV.names.namesL,EV.names]using ih
    rcases hn (c.head t)with h|h<;>rw[h]at this<;>simp at this
    ·exact this
    ·exact this.symm
   ·cases hj
  refine⟨v,M',rfl,⟨hs.os,hs.tape,hs.output,hs.drawn,hs.size,fun x hx hn=>hs.block x hx (fun⟨k,o,hk,hx2⟩=>hn ?_)⟩,hM1,fun x hx=>?_,hM3,?_,⟨δ t dom u,?_⟩,by cases hres with|p h=>exact h⟩
  ·rw[hl]at hk;simp only[Afk,Afx,Agz,or_false]at hk;rcases hk with ⟨rfl,rfl⟩|⟨rfl,rfl⟩
   ·rw[at0]at hx2;cases hx2;exact .inl rfl
   ·rw[at1]at hx2;cases hx2;exact .inr rfl
  ·rcases hM2 x hx with h|h|⟨k,h,_⟩
   ·exact .inl h
   ·exact .inr h.1
   ·cases h
  ·have h1:=JD (f:=g) (ho k0 _ (by rw[hl'];exact Afs));have h2:Eu P M' w' env (g k0) c.t (EV.ren.renL g ((c.head t).map .p ++ [.mapv k1])):=h1;rw[Ps,g0,g1]at h2;exact h2
  ·have h1:=JD (f:=g) (ho k1 _ (by rw[hl'];exact List.mem_cons_of_mem _ Afs));have h2:Gk M' w' env (g k1) (δ t dom u) (c.val t):=h1;rw[g1]at h2;exact h2
end
end Go.SE
