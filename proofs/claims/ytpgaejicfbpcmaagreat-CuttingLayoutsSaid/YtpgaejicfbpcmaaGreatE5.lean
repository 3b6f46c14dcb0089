/- A symbolic walk over the model, and what it shows of functions of the program: parts of the proof that the text of the row joins. -/
import Derived.Test.YtpgaejicfbpcmaaGreatE4
import Derived.ScopeJumps
import Derived.Laws.IdiomCopy
import Derived.Lib.SliceRun
import Derived.WalkKit
import Derived.Deep.RegionLaw
import Derived.Lib.Walk
import Derived.Shelf.RegionOpenPlain
namespace Go.SE
open Go.RowKit
variable {P:Program}
section
variable {G:Ctx}
end
end Go.SE
namespace Go.SE
open Go.RowKit
variable {P:Program}
end Go.SE
namespace Go.SE
open Go.RowKit
variable {P:Program}
end Go.SE
namespace Go.SE
open Go.RowKit
variable {P:Program}
theorem renL_heads (f:Nat->Nat) (k:Nat):∀ (hs:List SV),EV.ren.renL f (hs.map EV.p ++ [.mapv k])=hs.map EV.p ++ [.mapv (f k)]
 | []=>rfl
 | s :: l=>by simp only [List.map_cons,List.cons_append,EV.ren.renL,renL_heads f k l];rfl
theorem fam_of_mk {f:Nat} {mk:Mk} {c:FamC} (k0 k1:Nat) (h01:k0 ≠ k1) (hM:MkOk P f mk) (φ:c.T->(Int->Bool)->mk.T) (δ:c.T->(Int->Bool)->mk.U->Int->Bool) (hmv:mk.mv=none) (hks:mk.keys = []) (hlk:mk.lkeys = [k0,k1])
  (ha:∀ t d,mk.args (φ t d)=.loc k0 0 :: (c.args t).map .p) (hl:∀ t d,mk.lent (φ t d) = [(k0,.blk c.t ((c.head t).map .p ++ [.mapv k1])),(k1,.mq c.kt c.vt d (c.val t))])
  (hl':∀ t d u,mk.lent' (φ t d) u = [(k0,.blk c.t ((c.head t).map .p ++ [.mapv k1])),(k1,.mq c.kt c.vt (δ t d u) (c.val t))]) (hp:∀ t d,c.pre t->mk.pre (φ t d)) (hr:∀ t d u,mk.res (φ t d) u=.p (c.res t)):FamCOk P f c:=by
 intro t hpre M w env a b vals hMw e0 e1 hab hMa hMb hb hblk ⟨dom,hmq⟩ hargs
 have hsz:a<w.heap.size:=by
  obtain ⟨g,vs,h1,h2,_⟩:=hblk
  rw [e0] at h1;cases h1
  exact (Array.getElem?_eq_some_iff.1 h2).1
 let g:Nat->Nat:=fun k=>if k=k0 then 0 else 1
 have g0:g k0=0:=if_pos rfl
 have g1:g k1=1:=if_neg (fun e=>h01 e.symm)
 have at0:(env.via g).at_ k0=some a:=by show env.at_ (g k0)=_;rw [g0];exact e0
 have at1:(env.via g).at_ k1=some b:=by show env.at_ (g k1)=_;rw [g1];exact e1
 have hb0:OwnOk P M w (env.via g) k0 (.blk c.t ((c.head t).map .p ++ [.mapv k1])):=own_ren (by
  show BlkOk P M w env (g k0) c.t (EV.ren.renL g _)
  rw [renL_heads,g0,g1];exact hblk)
 have hb1:OwnOk P M w (env.via g) k1 (.mq c.kt c.vt dom (c.val t)):=own_ren (by
  show MqOk M w env (g k1) dom (c.val t)
  rw [g1];exact hmq)
 refine callsIn_mono (hM.2 (φ t dom) (hp t dom hpre) M w (env.via g) (Value.pointer (some ⟨a,0,none⟩) :: vals) hMw (fun k o hk=>?_) (fun k o hk x hx=>?_) (fun k o k' o' hk hk' hne x hx=>?_) (by rw [ha];simp [hargs.1]) (fun i hi=>?_)) ?_
 ·rw [hl] at hk
  simp only [List.mem_cons,Prod.mk.injEq,List.not_mem_nil,or_false] at hk
  rcases hk with ⟨rfl,rfl⟩ | ⟨rfl,rfl⟩
  ·exact hb0
  ·exact hb1
 ·rw [hl] at hk
  simp only [List.mem_cons,Prod.mk.injEq,List.not_mem_nil,or_false] at hk
  rcases hk with ⟨rfl,rfl⟩ | ⟨rfl,rfl⟩
  ·rw [at0] at hx;cases hx;exact ⟨hMa,hsz⟩
  ·rw [at1] at hx;cases hx;exact ⟨hMb,hb⟩
 ·rw [hl] at hk hk'
  simp only [List.mem_cons,Prod.mk.injEq,List.not_mem_nil,or_false] at hk hk'
  rcases hk with ⟨rfl,rfl⟩ | ⟨rfl,rfl⟩ <;> rcases hk' with ⟨rfl,rfl⟩ | ⟨rfl,rfl⟩
  ·exact absurd rfl hne
  ·rw [at0] at hx;cases hx;rw [at1];exact fun e=>hab (by cases e;rfl)
  ·rw [at1] at hx;cases hx;rw [at0];exact fun e=>hab (by cases e;rfl)
  ·exact absurd rfl hne
 ·rw [ha] at hi ⊢
  cases i with
  | zero=>exact .loc at0
  | succ i=>exact denEL_p hargs i (by simpa using hi)
 ·rintro e w' ⟨u,v,env',M',_,rfl,hs,hM1,hM2,hM3,hpin,_,_,_,ho,_,hres⟩
  rw [hmv] at hM2 hpin
  rw [hks] at hM2
  rw [hlk] at hpin
  rw [hr] at hres
  have ho:∀ k o,(k,o) ∈ mk.lent' (φ t dom) u->OwnOk P M' w' (env.via g) k o:=fun k o hk=>by
   have h1:=ho k o hk
   rw [hl'] at hk
   have hag:∀ j,j=k0\/j=k1->(env.via g).at_ j=env'.at_ j/\(env.via g).rv j=env'.rv j:=fun j hj=>by
    obtain ⟨p1,p2⟩:=hpin j (by simpa using hj) (by simp [mvk])
    exact ⟨p1.symm,p2.symm⟩
   simp only [List.mem_cons,Prod.mk.injEq,List.not_mem_nil,or_false] at hk
   have hkk:k=k0\/k=k1:=hk.imp (·.1) (·.1)
   refine h1.move ⟨Nat.le_refl _,fun _ _=>rfl,fun _ h=>h⟩ (hag k hkk).1 (hag k hkk).2 (fun _ _=>rfl) (fun j hj=>hag j ?_)
   rcases hk with ⟨rfl,rfl⟩ | ⟨rfl,rfl⟩
   ·right
    have:EV.names.namesL j ((c.head t).map .p ++ [.mapv k1])=true:=hj
    have hn:∀ (l:List SV),EV.names.namesL j (l.map EV.p ++ [.mapv k1])=(j == k1)\/EV.names.namesL j (l.map EV.p ++ [.mapv k1])=(k1 == j):=fun l=>by
     induction l with
     | nil=>simp [EV.names.namesL,EV.names]
     | cons s l ih=>simpa [EV.names.namesL,EV.names] using ih
    rcases hn (c.head t) with h | h <;> rw [h] at this <;> simp at this
    ·exact this
    ·exact this.symm
   ·cases hj
  refine ⟨v,M',rfl,⟨hs.os,hs.tape,hs.output,hs.drawn,hs.size,fun x hx hn=>hs.block x hx (fun ⟨k,o,hk,hx2⟩=>hn ?_)⟩,hM1,fun x hx=>?_,hM3,?_,⟨δ t dom u,?_⟩,by cases hres with | p h=>exact h⟩
  ·rw [hl] at hk
   simp only [List.mem_cons,Prod.mk.injEq,List.not_mem_nil,or_false] at hk
   rcases hk with ⟨rfl,rfl⟩ | ⟨rfl,rfl⟩
   ·rw [at0] at hx2;cases hx2;exact .inl rfl
   ·rw [at1] at hx2;cases hx2;exact .inr rfl
  ·rcases hM2 x hx with h | h | ⟨k,h,_⟩
   ·exact .inl h
   ·exact .inr h.1
   ·cases h
  ·have h1:=ren_own (f:=g) (ho k0 _ (by rw [hl'];exact List.mem_cons_self))
   have h2:BlkOk P M' w' env (g k0) c.t (EV.ren.renL g ((c.head t).map .p ++ [.mapv k1])):=h1
   rw [renL_heads,g0,g1] at h2
   exact h2
  ·have h1:=ren_own (f:=g) (ho k1 _ (by rw [hl'];exact List.mem_cons_of_mem _ List.mem_cons_self))
   have h2:MqOk M' w' env (g k1) (δ t dom u) (c.val t):=h1
   rw [g1] at h2
   exact h2
end Go.SE
