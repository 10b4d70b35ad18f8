/- Part 3 of the proof. Conditions: none. -/
import Derived.Test.YtlofmibkljoapaaDoorN2
import Derived.Orders
import Derived.Test.YtlofmibkljoapaaDoorN0
set_option linter.all false
set_option linter.unusedVariables false
set_option linter.unusedSimpArgs false
section
namespace Go.Proofs.YtlofmibkljoapaaDoor.Vm
open Go.RowKit
set_option maxRecDepth 100000
set_option maxHeartbeats 4000000
section
def a6o:Op->Bool
 | .alloc _=>false
 | .box _ _=>false
 | .store _ _ _=>false
 | .buildSlice _ 0 _=>false
 | .call ⟨.builtin .append,_,_⟩=>false
 | .makeSlice _ _ _=>false
 | .makeMap _ _=>false
 | .mapUpdate _ _ _ _=>false
 | _=>true
theorem E8 {a:Ar} {s:S} {dst:Option Nat} {K:S->Prop} {op:Op} (h:a6o op=true):step a false s dst K op=stepC a s.get s.o (λv=>K (s.put dst v)) op:=by
 unfold step
 split <;> first|rfl|cases h
def Pt (T:(V->Prop)->Prop):Prop:=∀K,T K->∃v,K v/\∀K',K' v->T K'
section
variable {os:List O} {t i:Nat} {x y z:V}
theorem a0H:Pt λK=>C1 a7 os K t x:=by
 intro K h;simp only[C1] at h ⊢
 repeat' split at h
 all_goals first|exact h.elim|exact⟨_,h,λK' hk=>by simp only[*]⟩
theorem b4c:Pt λK=>b0J K x y z:=by
 intro K h;simp only[b0J] at h ⊢
 repeat' split at h
 all_goals first|exact h.elim|exact⟨_,h,λK' hk=>by simp only[*]⟩
theorem b1e:Pt λK=>N4 K t i x:=by
 intro K h;simp only[N4] at h ⊢
 repeat' split at h
 all_goals first|exact h.elim|exact⟨_,h,λK' hk=>by simp only[*]⟩
theorem b4d:Pt λK=>b0I K t i x:=by
 intro K h;simp only[b0I] at h ⊢
 repeat' split at h
 all_goals first|exact h.elim|exact⟨_,h,λK' hk=>by simp only[*]⟩
theorem a4J:Pt λK=>r6 a7 os K t x y:=by
 intro K h;simp only[r6,W6] at h ⊢
 repeat' split at h
 all_goals first|exact h.elim|exact⟨_,h,λK' hk=>by simp only[*]⟩
theorem b4e:Pt λK=>a26 a7 K t x y:=by
 intro K h;simp only[a26] at h ⊢
 repeat' split at h
 all_goals first|exact h.elim|exact⟨_,h,λK' hk=>by simp only[*]⟩
theorem c0X {op:BinOp} {x y:Value}:Pt λK=>a10 a7 op x y K:=by
 intro K h;simp only[a10] at h ⊢
 split at h <;> try exact h.elim
 ·split at h
  ·rename_i hb;unfold c0G at h ⊢
   split at h <;> try exact h.elim
   rename_i hr;exact⟨_,h,λK' hk=>by first|exact hk|(rw[hb,hr];exact hk)⟩
  split at h <;> try exact h.elim
  rename_i hk;simp only[binInt] at h ⊢
  split at h <;> first|exact h.elim|exact⟨_,h,λK' hk'=>by simp only[*]⟩|exact⟨_,h.2,λK' hk'=>by first|exact⟨h.1,hk'⟩|(simp only[hk];exact⟨h.1,hk'⟩)|(rw[hk];exact⟨h.1,hk'⟩)|(split <;> simp_all)⟩
 ·simp only[binStr] at h ⊢
  split at h <;> first|exact h.elim|exact⟨_,h,λK' hk'=>by simp only[*]⟩|exact⟨_,h.2,λK' hk'=>⟨h.1,hk'⟩⟩
theorem W9 {b:Bool} {op:BinOp}:Pt λK=>a23 b K op:=by
 intro K h;simp only[a23] at h ⊢
 split at h <;> first|exact h.elim|exact⟨_,h,λK' hk'=>hk'⟩
theorem c0Y {op:BinOp}:Pt λK=>a8x a7 op t x y K:=by
 intro K h;simp only[a8x] at h ⊢
 split at h <;> try exact h.elim
 ·split at h
  ·split at h <;> try exact h.elim
   exact W9 _ h
  ·split at h <;> try exact h.elim
   exact W9 _ h
  ·exact c0X _ h
 ·split at h <;> try exact h.elim
  split at h <;> try exact h.elim
  exact W9 _ h
 ·split at h <;> try exact h.elim
  split at h <;> try exact h.elim
  exact W9 _ h
 ·split at h <;> try exact h.elim
  obtain⟨h1,h2⟩:=h;obtain⟨v,h3,h4⟩:=W9 _ h2;exact⟨v,h3,λK' hk=>⟨h1,h4 _ hk⟩⟩
 ·split at h <;> try exact h.elim
  exact W9 _ h
 ·split at h <;> try exact h.elim
  split at h <;> try exact h.elim
  split at h <;> try exact h.elim
  exact W9 _ h
theorem b4f {ok:Bool}:Pt λK=>a6i a7 os K t ok x y:=by
 intro K h;simp only[a6i] at h ⊢
 repeat' split at h
 all_goals first|exact h.elim|skip
 all_goals simp only[b0L,a92] at h ⊢
 all_goals repeat' split at h
 all_goals first|exact h.elim|exact⟨_,h,λK' hk=>by simp only[*]⟩
theorem a9N {mx:Bool} {l:List V}:Pt λK=>a93 a7 K mx l:=by
 intro K h;simp only[a93] at h ⊢
 repeat' split at h
 all_goals first|exact h.elim|exact⟨_,h,λK' hk=>by simp only[*]⟩
theorem c0v:Pt λK=>nnV K x:=by
 intro K h;simp only[nnV] at h ⊢
 split at h <;> first|exact h.elim|exact⟨_,h,λK' hk'=>hk'⟩
theorem c0w {op:UnOp}:Pt λK=>unV a7 op x K:=by
 intro K h;simp only[unV] at h ⊢
 split at h <;> first|exact h.elim|exact⟨_,h,λK' hk'=>hk'⟩
theorem b4g {k0 k:TK}:Pt λK=>a6h a7 K k0 k x:=by
 intro K h;simp only[a6h,b3G,b3H,b3I,c0H] at h ⊢
 repeat' split at h
 all_goals first|exact h.elim|exact⟨_,h,λK' hk=>by simp only[*]⟩
theorem a7n:Pt λK=>a27 K i x:=by
 intro K h;simp only[a27] at h ⊢
 repeat' split at h
 all_goals first|exact h.elim|exact⟨_,h,λK' hk=>by simp only[*]⟩
theorem b7k {k:TK}:Pt λK=>lenV a7 os K k x:=by
 intro K h;simp only[lenV,b5t,b5u] at h ⊢
 repeat' split at h
 all_goals first|exact h.elim|exact⟨_,h,λK' hk=>by simp only[*]⟩
theorem b1f {g:Operand->V} {ps:List (Nat×Operand)}:Pt λK=>a1W g K t ps:=by
 intro K h;simp only[a1W] at h ⊢
 repeat' split at h
 all_goals first|exact h.elim|exact⟨_,h,λK' hk=>by simp only[*]⟩
theorem a0o {g:Operand->V} {n:Nat} {ps:List (Nat×Operand)}:Pt λK=>C2 g os K t n ps:=by
 intro K h;simp only[C2] at h ⊢
 repeat' split at h
 all_goals first|exact h.elim|exact⟨_,h,λK' hk=>by simp only[*]⟩
theorem b1g {lo hi:Option V}:Pt λK=>a25 a7 os K t x lo hi:=by
 intro K h;simp only[a25] at h ⊢
 repeat' split at h
 all_goals first|exact h.elim|exact⟨_,h,λK' hk=>by simp only[*]⟩
theorem b4h {f:Nat} {vs:List V}:Pt λK=>callV a7 os K f vs:=by
 intro K h;simp only[callV] at h ⊢
 split at h
 ·obtain⟨q,h1,h2⟩:=h;exact⟨_,h2,λK' hk=>⟨q,h1,hk⟩⟩
 ·obtain⟨q,h1,h2⟩:=h;exact⟨_,h2,λK' hk=>⟨q,h1,hk⟩⟩
theorem b7l {vs:List V}:Pt λK=>a5x a7 os K x vs:=by
 intro K h;simp only[a5x] at h ⊢
 split at h <;> try exact h.elim
 exact b4h K h
theorem a1D {g:Operand->V} {op:Op}:Pt λK=>stepC a7 g os K op:=by
 intro K h;simp only[stepC] at h ⊢
 split at h <;> try exact h.elim
 ·exact⟨_,h,λK' hk=>hk⟩
 ·exact⟨_,h,λK' hk=>hk⟩
 ·exact b4c K h
 ·exact a0H K h
 ·exact b1e K h
 ·exact b4d K h
 ·exact a4J K h
 ·exact b4e K h
 ·exact c0Y K h
 ·exact c0w K h
 ·exact b4g K h
 ·exact b1f K h
 ·exact a0o K h
 ·exact a7n K h
 ·exact b1g K h
 ·exact b7k K h
 ·exact b4h K h
 ·exact b4f K h
 ·exact a9N K h
 ·exact a9N K h
 ·exact c0v K h
 ·split at h <;> try exact h.elim
  exact⟨_,h,λK' hk=>by simp only[*]⟩
 ·exact b7l K h
end
theorem T9 {g g':Operand->V}:∀ {l:List Operand},(∀x∈l,g x=g' x)->J7 g l=J7 g' l
 | [],_=>rfl
 | x::l,h=>by rw[J7,J7,h x (c38 ..),T9 λy hy=>h y (c36 _ hy)]
theorem a2L {g g':Operand->V} {place:List (Nat×Nat)}:∀ {ps:List (Nat×Operand)} {l:List V},(∀p∈ps,g p.2=g' p.2)->W5 g place ps l=W5 g' place ps l
 | [],_,_=>rfl
 | (i,x)::ps,l,h=>by
  rw[W5,W5,h (i,x) (c38 ..)];have ih:=λl=>a2L (place:=place) (l:=l) λp hp=>h p (c36 _ hp)
  simp only[ih]
theorem a1t {a:Ar} {g g':Operand->V} {os:List O} {K:V->Prop} {op:Op} (h:∀x∈op.operands,g x=g' x):stepC a g os K op=stepC a g' os K op:=by
 have hm:∀l:List Operand,(∀x∈l,x∈op.operands)->∀x∈l,g x=g' x:=λl hl x hx=>h x (hl x hx)
 unfold stepC
 split
 ·rw[h _ (by simp[Op.operands])]
 ·rw[h _ (by simp[Op.operands])]
 ·rw[h _ (by simp[Op.operands]),h _ (by simp[Op.operands]),h _ (by simp[Op.operands])]
 ·rw[h _ (by simp[Op.operands])]
 ·rw[h _ (by simp[Op.operands])]
 ·rw[h _ (by simp[Op.operands])]
 ·rw[h _ (by simp[Op.operands]),h _ (by simp[Op.operands])]
 ·rw[h _ (by simp[Op.operands]),h _ (by simp[Op.operands])]
 ·rw[h _ (by simp[Op.operands]),h _ (by simp[Op.operands])]
 ·rw[h _ (by simp[Op.operands])]
 ·rw[h _ (by simp[Op.operands])]
 ·rename_i t ps;simp only[a1W];have e:∀pl l,W5 g pl ps.toList l=W5 g' pl ps.toList l:=λpl l=>a2L λp hp=>h p.2 (by simp only[Op.operands];simp;exact⟨p.1,by simpa using hp⟩)
  simp only[e]
 ·rename_i t n ps;simp only[C2];have e:∀pl l,W5 g pl ps.toList l=W5 g' pl ps.toList l:=λpl l=>a2L λp hp=>h p.2 (by simp only[Op.operands];simp;exact⟨p.1,by simpa using hp⟩)
  simp only[e]
 ·rw[h _ (by simp[Op.operands])]
 ·rename_i t x lo hi;rw[h x (by simp[Op.operands])]
  have e1:Q9 g lo=Q9 g' lo:=by cases lo with
   | none=>rfl
   | some y=>rw[Q9,Q9,h y (by simp[Op.operands])]
  have e2:Q9 g hi=Q9 g' hi:=by cases hi with
   | none=>rfl
   | some y=>rw[Q9,Q9,h y (by simp[Op.operands])]
  rw[e1,e2]
 ·rw[h _ (by simp[Op.operands,Call.operands])]
 ·rename_i f args ts;rw[T9 λx hx=>h x (by simp[Op.operands,Call.operands];right;simpa using hx)]
 ·rw[h _ (by simp[Op.operands]),h _ (by simp[Op.operands])]
 ·rename_i args ts;rw[T9 λx hx=>h x (by simp[Op.operands,Call.operands];simpa using hx)]
 ·rename_i args ts;rw[T9 λx hx=>h x (by simp[Op.operands,Call.operands];simpa using hx)]
 ·rw[h _ (by simp[Op.operands])]
 ·rename_i f cs;rw[T9 λx hx=>h x (by simp[Op.operands];simpa using hx)]
 ·rename_i i args ts;rw[T9 λx hx=>h x (by simp[Op.operands,Call.operands];right;simpa using hx),h (.tmp i) (by simp[Op.operands,Call.operands])]
 ·rfl
theorem a7o:∀ {l:List Operand} {t:Nat},Operand.tmp t∈l->t∈tmps l
 | [],t,h=>by simp at h
 | x::l,t,h=>by
  rcases c3F.1 h with rfl|h
  ·simp[tmps]
  ·have h2:=a7o h;cases x <;> simp[tmps,h2]
def j9 (a:Ar) (dsts:List (Option Nat)) (o:Oper) (s:S) (K:S->Prop):Prop:=run a false dsts [o] s K
theorem a1E {l:List V} {i j:Nat} {v:V} (h:i≠j):m5 (G5 l i v) j=m5 l j:=by
 rw[Q5]
 rcases a2A l j with h1|⟨h1,h2⟩
 ·rcases a2A (l.set i v) j with h3|⟨h3,h4⟩
  ·rw[c3O h,h1] at h3;injection h3 with h3;exact h3.symm
  ·rw[c3N] at h3;have:=(c35.1 h1).1;omega
 ·rcases a2A (l.set i v) j with h3|⟨h3,h4⟩
  ·rw[c3O h] at h3;have:=(c35.1 h3).1;omega
  ·rw[h4,h2]
theorem a2M {s:S} {d e:Option Nat} {u v:V} (h:∀x,d=some x->e≠some x):(s.put d u).put e v=(s.put e v).put d u:=by
 cases d with
 | none=>rfl
 | some x =>
  cases e with
  | none=>rfl
  | some y =>
   have hne:x≠y:=λe=>h x rfl (by rw[e])
   simp only[S.put,Q5]
   congr 1
   exact List.set_comm _ _ hne
def a1F (l:List Nat) (s s':S):Prop:=s'.o=s.o/\∀t∈l,m5 s'.t t=m5 s.t t
theorem K3 {l:List Nat} {s:S} {d:Option Nat} {v:V} (h:∀x,d=some x->x∉l):a1F l s (s.put d v):=by
 cases d with
 | none=>exact⟨rfl,λ_ _=>rfl⟩
 | some x=>exact⟨rfl,λt ht=>a1E λe=>h x rfl (e ▸ ht)⟩
theorem a1F.symm {l:List Nat} {s s':S} (h:a1F l s s'):a1F l s' s:=⟨h.1.symm,λt ht=>(h.2 t ht).symm⟩
theorem a1F.ops {l:List Nat} {s s':S} (h:a1F l s s') {xs:List Operand} (hx:∀t∈tmps xs,t∈l):∀x∈xs,s'.get x=s.get x:=λx hxm=>by
 cases x with
 | tmp t=>exact h.2 t (hx t (a7o hxm))
 | const v=>rfl
 | global g=>rfl
 | func f=>rfl
theorem a7p {dsts:List (Option Nat)} {s s':S} {j:Nat} {K:Option Bool->Prop} (h:∀d,getD dsts j=some d->m5 s'.t d=m5 s.t d):guard s' dsts j K=guard s dsts j K:=by
 unfold guard;cases hd:getD dsts j with
 | none=>rfl
 | some d=>simp only[h d hd]
theorem L9 {dsts:List (Option Nat)} {s:S} {j:Nat} {K:Option Bool->Prop} (h:guard s dsts j K):∃c,K c/\∀K',K' c->guard s dsts j K':=by
 unfold guard at h ⊢
 repeat' split at h
 all_goals first|exact h.elim|exact⟨_,h,λK' hk=>by simp only[*]⟩
theorem a7q {dsts:List (Option Nat)} {o:Oper} (hc:a6o o.op=true) {s:S} {K:S->Prop} (h:j9 a7 dsts o s K):∃v,K (s.put o.dst v)/\∀s' K',a1F (looks dsts o) s s'->K' (s'.put o.dst v)->j9 a7 dsts o s' K':=by
 obtain⟨dst,op,type,pos,after,gd⟩:=o
 have hst:∀ {s s':S} {K:S->Prop} {l:List Nat},(∀t∈tmps op.operands.toList,t∈l)->a1F l s s'->step a7 false s dst K op->∃v,K (s.put dst v)/\∀K',K' (s'.put dst v)->step a7 false s' dst K' op:=λ{s s' K l} hl hs h=>by
  rw[E8 hc] at h;obtain⟨v,h1,h2⟩:=a1D _ h;refine⟨v,h1,λK' hk=>?_⟩;rw[E8 hc,hs.1];have e:=a1t (a:=a7) (os:=s.o) (K:=λv=>K' (s'.put dst v)) (op:=op) (g:=s.get) (g':=s'.get) λx hx=>((hs.ops (xs:=op.operands.toList) hl) x (by simpa using hx)).symm
  rw[<-e];exact h2 _ hk
 cases gd with
 | none =>
  have hl:∀t∈tmps op.operands.toList,t∈looks dsts ⟨dst,op,type,pos,after,none⟩:=λt ht=>by simp[looks,ht]
  have h':step a7 false s dst K op:=h;rw[E8 hc] at h';obtain⟨v,h1,h2⟩:=a1D _ h';refine⟨v,h1,λs' K' hs hk=>?_⟩;show step a7 false s' dst K' op;rw[E8 hc,hs.1];have e:=a1t (a:=a7) (os:=s.o) (K:=λv=>K' (s'.put dst v)) (op:=op) (g:=s.get) (g':=s'.get) λx hx=>((hs.ops (xs:=op.operands.toList) hl) x (by simpa using hx)).symm
  rw[<-e];exact h2 _ hk
 | some jb =>
  obtain⟨j,b⟩:=jb;have hl:∀t∈tmps op.operands.toList,t∈looks dsts ⟨dst,op,type,pos,after,some (j,b)⟩:=λt ht=>by simp[looks,ht]
  have hg:∀s',a1F (looks dsts ⟨dst,op,type,pos,after,some (j,b)⟩) s s'->∀d,getD dsts j=some d->m5 s'.t d=m5 s.t d:=λs' hs d hd=>hs.2 d (by simp[looks,hd])
  have h':guard s dsts j (fun
   | some c=>match bEq c b with
    | true=>step a7 false s dst K op
    | false=>K (s.put dst Y9)
   | none=>K (s.put dst Y9)):=h
  have a1q:∀(c:Option Bool) {s':S} {K':S->Prop},(∀K',K' c->guard s dsts j K')->a1F (looks dsts ⟨dst,op,type,pos,after,some (j,b)⟩) s s'->(match c with
   | some c=>match bEq c b with
    | true=>step a7 false s' dst K' op
    | false=>K' (s'.put dst Y9)
   | none=>K' (s'.put dst Y9))->j9 a7 dsts ⟨dst,op,type,pos,after,some (j,b)⟩ s' K':=λc {s' K'} h2 hs hx=>by
   show guard s' dsts j (fun
    | some c=>match bEq c b with
     | true=>step a7 false s' dst K' op
     | false=>K' (s'.put dst Y9)
    | none=>K' (s'.put dst Y9))
   rw[a7p (hg s' hs)];exact h2 _ hx
  obtain⟨c,h1,h2⟩:=L9 h';cases c with
  | none=>exact⟨Y9,h1,λs' K' hs hk=>a1q none h2 hs hk⟩
  | some c =>
   cases hb:bEq c b with
   | false =>
    simp only[hb] at h1;exact⟨Y9,h1,λs' K' hs hk=>a1q (some c) h2 hs (by simp only[hb];exact hk)⟩
   | true =>
    simp only[hb] at h1;rw[E8 hc] at h1;obtain⟨v,h3,h4⟩:=a1D _ h1;refine⟨v,h3,λs' K' hs hk=>a1q (some c) h2 hs ?_⟩;simp only[hb];rw[E8 hc,hs.1];have e:=a1t (a:=a7) (os:=s.o) (K:=λv=>K' (s'.put dst v)) (op:=op) (g:=s.get) (g':=s'.get) λx hx=>((hs.ops (xs:=op.operands.toList) hl) x (by simpa using hx)).symm
    rw[<-e];exact h4 _ hk
theorem b1h {a:Ar} {g:Operand->V} {os os':List O} {K:V->Prop} {op:Op} (h:a5E op=true):stepC a g os K op=stepC a g os' K op:=by
 unfold stepC
 split <;> first|rfl|cases h
theorem a7r {op:Op} (h:a5E op=true):a6o op=true:=by
 cases op <;> first|rfl|cases h
def b1i (l:List Nat) (s s':S):Prop:=∀t∈l,m5 s'.t t=m5 s.t t
theorem a0p (t:List V) (o o':List O) (d:Option Nat) (v:V):(⟨(S.put ⟨t,o⟩ d v).t,o'⟩:S)=S.put ⟨t,o'⟩ d v:=by cases d <;> rfl
theorem b56 {dsts:List (Option Nat)} {x:Oper} (hb:a5E x.op=true) {t:List V} {o o':List O} {K:S->Prop} (h:j9 a7 dsts x ⟨t,o⟩ (λr=>K ⟨r.t,o'⟩)):j9 a7 dsts x ⟨t,o'⟩ K:=by
 obtain⟨dst,op,type,pos,after,gd⟩:=x
 have hst:step a7 false ⟨t,o⟩ dst (λr=>K ⟨r.t,o'⟩) op->step a7 false ⟨t,o'⟩ dst K op:=λh=>by
  rw[E8 (a7r hb)] at h ⊢;simp only[a0p] at h;rw[b1h (os':=o') hb] at h;exact h
 cases gd with
 | none=>exact hst h
 | some jb =>
  obtain⟨j,b⟩:=jb
  have h':guard ⟨t,o⟩ dsts j (fun
   | some c=>match bEq c b with
    | true=>step a7 false ⟨t,o⟩ dst (λr=>K ⟨r.t,o'⟩) op
    | false=>K ⟨(S.put ⟨t,o⟩ dst Y9).t,o'⟩
   | none=>K ⟨(S.put ⟨t,o⟩ dst Y9).t,o'⟩):=h
  show guard ⟨t,o'⟩ dsts j (fun
   | some c=>match bEq c b with
    | true=>step a7 false ⟨t,o'⟩ dst K op
    | false=>K (S.put ⟨t,o'⟩ dst Y9)
   | none=>K (S.put ⟨t,o'⟩ dst Y9))
  obtain⟨c,h1,h2⟩:=L9 h';refine(a7p (s:=⟨t,o⟩) (s':=⟨t,o'⟩) λd _=>rfl).mpr (h2 _ ?_);cases c with
  | none=>rw[a0p] at h1;exact h1
  | some c =>
   cases hb:bEq c b with
   | true=>simp only[hb] at h1 ⊢;exact hst h1
   | false=>simp only[hb,a0p] at h1 ⊢;exact h1
theorem a7s {dsts:List (Option Nat)} {x:Oper} (hb:a5E x.op=true) {s:S} {K:S->Prop} (h:j9 a7 dsts x s K):∃v,K (s.put x.dst v)/\∀s' K',b1i (looks dsts x) s s'->K' (s'.put x.dst v)->j9 a7 dsts x s' K':=by
 obtain⟨v,h1,h2⟩:=a7q (a7r hb) h;refine⟨v,h1,λs' K' hs hk=>?_⟩;exact b56 hb (t:=s'.t) (o:=s.o) (o':=s'.o) (h2 ⟨s'.t,s.o⟩ _ ⟨rfl,hs⟩ (by rw[a0p];exact hk))
theorem a3z {s:S} {K:S->Prop} {t:Nat} {y x:V} (h:F4 a7 s K t y x):∃o',K ⟨s.t,o'⟩/\∀(t':List V) (K':S->Prop),K' ⟨t',o'⟩->F4 a7 ⟨t',s.o⟩ K' t y x:=by
 simp only[F4] at h ⊢
 repeat' split at h
 all_goals first|exact h.elim|exact⟨_,h,λt' K' hk=>by simp only[*]⟩
def b29:Op->Bool
 | .store _ _ _=>true
 | _=>false
theorem b1j {dsts:List (Option Nat)} {y:Oper} (hb:(b29 y.op && y.guard.isNone && y.dst.isNone)=true) {s:S} {K:S->Prop} (h:j9 a7 dsts y s K):∃o',K ⟨s.t,o'⟩/\∀s' K',s'.o=s.o->b1i (looks dsts y) s s'->K' ⟨s'.t,o'⟩->j9 a7 dsts y s' K':=by
 obtain⟨dst,op,type,pos,after,gd⟩:=y;cases gd <;> cases dst <;> cases op <;> first|(simp[b29] at hb;done)|skip
 rename_i t x z;have h':F4 a7 s K t (s.get z) (s.get x):=h;obtain⟨o',h1,h2⟩:=a3z h';refine⟨o',h1,λs' K' ho hs hk=>?_⟩;show F4 a7 s' K' t (s'.get z) (s'.get x);have hS:a1F (looks dsts ⟨none,.store t x z,type,pos,after,none⟩) s ⟨s'.t,s.o⟩:=⟨rfl,hs⟩;have hg:∀y∈(Op.store t x z).operands.toList,(⟨s'.t,s.o⟩:S).get y=s.get y:=hS.ops λu hu=>by simp[looks,hu]
 have e1:s'.get z=s.get z:=by
  have:=hg z (by simp[Op.operands]);cases z <;> first|rfl|exact this
 have e2:s'.get x=s.get x:=by
  have:=hg x (by simp[Op.operands]);cases x <;> first|rfl|exact this
 rw[e1,e2];have:=h2 s'.t K' hk;rw[<-ho] at this;exact this
def b2A (dsts:List (Option Nat)) (x y:Oper):Bool:=a6o x.op && a6o y.op && L7 x.dst (looks dsts y) && L7 y.dst (looks dsts x) && (x.dst.isNone || x.dst != y.dst)
theorem I3 {d:Option Nat} {l:List Nat} (h:L7 d l=true):∀x,d=some x->x∉l:=λx e=>by
 subst e
 simpa [L7] using h
theorem c2d {dsts:List (Option Nat)} {x y:Oper} (h:b2A dsts x y=true) {s:S} {K:S->Prop} (hx:j9 a7 dsts x s λs=>j9 a7 dsts y s K):j9 a7 dsts y s λs=>j9 a7 dsts x s K:=by
 simp only[b2A,c3D,c45,bne_iff_ne,ne_eq] at h;obtain⟨⟨⟨⟨c1,c2⟩,n1⟩,n2⟩,n3⟩:=h;obtain⟨v1,h1,h2⟩:=a7q c1 hx;obtain⟨v2,h3,h4⟩:=a7q c2 h1;refine h4 s _ (K3 (I3 n1)).symm (h2 _ _ (K3 (I3 n2)) ?_);rw[a2M λz hz e=>?_]
 ·exact h3
 ·rcases n3 with n3|n3
  ·rw[Option.isNone_iff_eq_none] at n3;rw[n3] at e;cases e
  ·exact n3 (by rw[e,hz])
def c0Z (o:Oper):Bool:=b29 o.op && o.guard.isNone && o.dst.isNone
def a30 (dsts:List (Option Nat)) (x y:Oper):Bool:=a5E x.op && c0Z y && L7 x.dst (looks dsts y)
def a8G:Op->Bool
 | .call ⟨.builtin .append,⟨[_,_]⟩,⟨[_,_]⟩⟩=>true
 | _=>false
def b7m:Op->Bool
 | .move _=>true
 | .nilCheck _=>true
 | .fieldAddr _ _ _=>true
 | _=>false
def b9r:Op->Bool
 | .alloc _=>true
 | _=>false
def c0x:Op->Bool
 | .move _=>true
 | .assign _=>true
 | .pick _ _ _=>true
 | .load _ _=>true
 | .fieldAddr _ _ _=>true
 | .field _ _ _=>true
 | .indexAddr _ _ _=>true
 | .index _ _ _=>true
 | .binOp _ _ _ _ _=>true
 | .unOp _ _ _=>true
 | .convert _ _ _=>true
 | .build _ _=>true
 | .extract _ _=>true
 | .nilCheck _=>true
 | _=>false
def b7n:Op->Bool
 | .buildSlice _ 0 ⟨[]⟩=>true
 | _=>false
def a9O:Op->Bool
 | .load t _=>(ty t).agg
 | .build _ _=>true
 | .buildSlice _ (_+1) _=>true
 | _=>false
def a9P (dsts:List (Option Nat)) (x y:Oper):Bool:=(a8G x.op || b7n x.op) && x.guard.isNone && x.dst.isSome && (b7m y.op || a9O y.op) && y.guard.isNone && L7 x.dst (looks dsts y) && L7 y.dst (looks dsts x) && (y.dst.isNone || x.dst != y.dst)
def b2B (dsts:List (Option Nat)) (x y:Oper):Bool:=c0x x.op && x.guard.isNone && b9r y.op && y.guard.isNone && L7 y.dst (looks dsts x) && (x.dst.isNone || x.dst != y.dst)
def c1a:Op->Bool
 | .move _=>true
 | _=>false
def b2C (dsts:List (Option Nat)) (x y:Oper):Bool:=c1a x.op && x.guard.isNone && a8G y.op && y.guard.isNone && y.dst.isSome && L7 x.dst (looks dsts y) && L7 y.dst (looks dsts x) && (x.dst.isNone || x.dst != y.dst)
def b4i (dsts:List (Option Nat)) (x y:Oper):Bool:=b2A dsts x y || a30 dsts x y || a30 dsts y x || a9P dsts x y || b2B dsts x y || b2C dsts x y
def klT:Option Nat->List V->List V
 | none,t=>t
 | some k,t=>F3 k t
def klV:Option Nat->V->V
 | none,v=>v
 | some k,v=>C9 k v
theorem a7t (k:Nat):∀l:List O,j6 (x7 k l)=j6 l:=λl=>by rw[l9,l9,G8]
theorem a4K {o:O}:∀ {l:List O} {k:Nat},k≠j6 l->m7 (o9 l o) k=m7 l k
 | [],0,h=>absurd rfl h
 | [],k+1,_=>rfl
 | _::_,0,_=>rfl
 | _::l,k+1,h=>a4K (l:=l) λe=>h (by rw[j6,e])
theorem a3O {o:O}:∀ {l:List O},m7 (o9 l o) (j6 l)=o
 | []=>rfl
 | _::l=>a3O (l:=l)
def a4e (k:Nat) (os o':List O):Prop:=(∀j,j≠k->m7 o' j=m7 (x7 k os) j)/\∀cs,m7 o' k≠.box cs
theorem a6p {os:List O} {z:Bool} {e:Nat} {r:List (List D)}:a4e (j6 os) os (o9 (x7 (j6 os) os) (.row z e r)) :=
 ⟨λj hj=>a4K (by rw[a7t];exact hj),λcs h=>by
  have h1:m7 (o9 (x7 (j6 os) os) (.row z e r)) (j6 (x7 (j6 os) os))=_:=a3O;rw[a7t,h] at h1
  cases h1⟩
theorem a4L {o:O}:∀ {l:List O} {m j:Nat},j≠m->m7 (B5 l m o) j=m7 l j
 | [],m,j,_=>rfl
 | _::_,0,0,h=>absurd rfl h
 | _::_,0,_+1,_=>rfl
 | _::_,_+1,0,_=>rfl
 | _::l,m+1,j+1,h=>a4L (l:=l) λe=>h (by rw[e])
theorem a4M {o:O}:∀ {l:List O} {m:Nat},m7 (B5 l m o) m=o\/m7 (B5 l m o) m=.dead
 | [],m=>.inr (by cases m <;> rfl)
 | _::_,0=>.inl rfl
 | _::l,m+1=>a4M (l:=l)
theorem b2D {k:Nat} {os:List O} {z:Bool} {e:Nat} {r:List (List D)}:a4e k os (B5 (x7 k os) k (.row z e r)) :=
 ⟨λj hj=>a4L hj,λcs h=>by
  rcases a4M (l:=x7 k os) (m:=k) (o:=.row z e r) with h1|h1 <;> rw[h1] at h <;> cases h⟩
theorem a7u {s:S} {d:Nat} {K:S->Prop} {t:Nat} {x y:V} (h:B9 a7 false s (some d) K t x y):∃(k:Nat) (o':List O),a4e k s.o o'/\K (S.put ⟨F3 k s.t,o'⟩ (some d) (.own k))/\∀(t':List V) (K':S->Prop),K' (S.put ⟨F3 k t',o'⟩ (some d) (.own k))->B9 a7 false ⟨t',s.o⟩ (some d) K' t x y:=by
 unfold B9 at h
 repeat' split at h
 all_goals first|exact h.elim|skip
 ·rename_i e he _ sz ys hys _ hsz _;obtain⟨h1,z,h2⟩:=h;refine⟨j6 s.o,o9 (x7 (j6 s.o) s.o) (.row z e ys),a6p,h2,λt' K' hk=>?_⟩;unfold B9;simp only[he,hys,hsz];exact⟨h1,z,hk⟩
 ·rename_i e he _ sz ys hys _ hsz _ k _ z e' xs hok _ hee;obtain⟨h1,h2⟩:=h;refine⟨k,_,b2D,h2,λt' K' hk=>?_⟩;unfold B9;simp only[he,hys,hsz,hok,hee];exact⟨h1,hk⟩
theorem a8I {s:S} {d:Nat} {K:S->Prop} {t:Nat} {x y:V} (h:B9 a7 false s (some d) K t x y):∃(kk:Option Nat) (o':List O) (k':Nat),K (S.put ⟨klT kk s.t,o'⟩ (some d) (.own k'))/\∀(t':List V) (K':S->Prop),K' (S.put ⟨klT kk t',o'⟩ (some d) (.own k'))->B9 a7 false ⟨t',s.o⟩ (some d) K' t x y:=by
 obtain⟨k,o',_,h1,h2⟩:=a7u h;exact⟨some k,o',k,h1,h2⟩
theorem c1b {s:S} {d:Nat} {K:S->Prop} {op:Op} (hb:(a8G op || b7n op)=true) (h:step a7 false s (some d) K op):∃(k:Nat) (o':List O),a4e k s.o o'/\K (S.put ⟨F3 k s.t,o'⟩ (some d) (.own k))/\∀(t':List V) (K':S->Prop),(∀z∈op.operands,S.get ⟨t',s.o⟩ z=s.get z)->K' (S.put ⟨F3 k t',o'⟩ (some d) (.own k))->step a7 false ⟨t',s.o⟩ (some d) K' op:=by
 cases ha:a8G op with
 | true =>
  unfold a8G at ha
  split at ha
  ·rename_i p q t t';have h':B9 a7 false s (some d) K t (s.get p) (s.get q):=h;obtain⟨k,o',h1,h2,h3⟩:=a7u h';refine⟨k,o',h1,h2,λt2 K' hz hk=>?_⟩;show B9 a7 false ⟨t2,s.o⟩ (some d) K' t (S.get ⟨t2,s.o⟩ p) (S.get ⟨t2,s.o⟩ q);rw[hz p (by simp[Op.operands,Call.operands]),hz q (by simp[Op.operands,Call.operands])];exact h3 _ _ hk
  ·cases ha
 | false =>
  rw[ha,Bool.false_or] at hb;unfold b7n at hb
  split at hb
  ·rename_i t;have h':(match (ty t).elem with|some e=>a7.new e λz=>K ((s.fresh false (.row z e [])).put (some d) (.own (j6 s.o)))|none=>False):=h;cases he:(ty t).elem with
   | none=>rw[he] at h';exact h'.elim
   | some e =>
    rw[he] at h';obtain⟨z,h'⟩:=h';refine⟨j6 s.o,_,a6p,h',λt2 K' _ hk=>?_⟩;show (match (ty t).elem with|some e=>a7.new e λz=>K' ((S.fresh false ⟨t2,s.o⟩ (.row z e [])).put (some d) (.own (j6 s.o)))|none=>False);rw[he];exact⟨z,hk⟩
  ·cases hb
theorem a7v {k:Nat}:∀(n:Nat) (l:List V),L5 n (w9 k l)=w9 k (L5 n l)
 | 0,l=>rfl
 | n+1,[]=>rfl
 | n+1,x::l=>a7v n l
theorem a7w {k:Nat}:∀ {n:Nat} {l l':List V},H8 n (w9 k l)=some l'->∃m,H8 n l=some m/\l'=w9 k m
 | 0,l,l',h=>by
  have h:some []=some l':=by cases l <;> exact h
  injection h with h;exact⟨[],by cases l <;> rfl,h.symm⟩
 | n+1,[],l',h=>by cases h
 | n+1,x::l,l',h=>by
  rw[w9,H8] at h;cases e:H8 n (w9 k l) with
  | none=>rw[e] at h;cases h
  | some m' =>
   rw[e] at h;injection h with h;obtain⟨m,h1,h2⟩:=a7w e;exact⟨x::m,by rw[H8,h1],by rw[<-h,h2];rfl⟩
theorem a5F {k:Nat}:∀l:List D,w9 k (ofD l)=ofD l
 | []=>rfl
 | x::l=>by rw[ofD,w9,a5F l];rfl
theorem a0I {k:Nat}:∀l:List Value,w9 k (B6 l)=B6 l
 | []=>rfl
 | v::l=>by
  rw[B6,w9,a0I l]
  congr 1
  unfold a5v
  split <;> rfl
theorem a8J {k:Nat}:∀l m:List V,w9 k (l++m)=w9 k l++w9 k m
 | [],m=>rfl
 | x::l,m=>by rw[c4r,w9,a8J l m];rfl
theorem a6q {k:Nat} (z:List Value):∀(n:Nat) (acc:List V),w9 k (a24 (B6 z) n acc)=a24 (B6 z) n (w9 k acc)
 | 0,acc=>rfl
 | n+1,acc=>by rw[a24,a6q z n,a8J,a0I];rfl
theorem a3P {k:Nat}:∀ {l:List O} {j:Nat} {cs:List V},m7 (x7 k l) j=.box cs->∃ds,m7 l j=.box ds/\cs=w9 k ds
 | [],j,cs,h=>by cases j <;> cases h
 | x::l,0,cs,h=>by
  cases x <;> rw[x7] at h <;> first|(cases h;done)|skip
  ·rename_i ds;injection h with h;exact⟨ds,rfl,h.symm⟩
 | x::l,j+1,cs,h=>by
  have h:m7 (x7 k l) j=.box cs:=by cases x <;> exact h
  exact a3P (l:=l) h
theorem a13 {k:Nat}:∀ {l:List O} {j:Nat} {z:Bool} {e:Nat} {r:List (List D)},m7 (x7 k l) j=.row z e r->m7 l j=.row z e r
 | [],j,z,e,r,h=>by cases j <;> cases h
 | x::l,0,z,e,r,h=>by
  cases x <;> first|(cases h;done)|exact h
 | x::l,j+1,z,e,r,h=>by
  have h:m7 (x7 k l) j=.row z e r:=by cases x <;> exact h
  exact a13 (l:=l) h
theorem b57 {k:Nat} {x:V} (h:b5s (a6H k x)=true):b5s x=true:=by
 cases x <;> first|rfl|exact h
theorem a8K {k:Nat}:∀ {l:List V},a21 (w9 k l)=true->a21 l=true
 | [],_=>rfl
 | x::l,h=>by
  rw[w9,a21] at h;rw[a21];cases e:b5s (a6H k x) with
  | false=>rw[e] at h;cases h
  | true=>rw[e] at h;rw[b57 e];exact a8K h
theorem b2E {k:Nat} {v:V} {cs:List V} (h:a0S (C9 k v)=some cs):∃ds,a0S v=some ds/\cs=w9 k ds:=by
 cases v with
 | ag l =>
  have h:(match a21 (w9 k l) with|true=>some (w9 k l)|false=>none)=some cs:=h;cases e:a21 (w9 k l) with
  | false=>rw[e] at h;cases h
  | true =>
   rw[e] at h;injection h with h;exact⟨l,by rw[a0S,a8K e],h.symm⟩
 | tu l=>cases l <;> cases h
 | own j =>
  have h:a0S (match H5 j k with|true=>.jk|false=>.own j)=some cs:=h;refine⟨[.own j],rfl,?_⟩;show cs=[match H5 j k with|true=>.jk|false=>.own j];cases e:H5 j k with
  | true=>rw[e] at h;cases h
  | false=>rw[e] at h;injection h with h;exact h.symm
 | el j i z o =>
  have h:a0S (match H5 j k with|true=>.jk|false=>.el j i z o)=some cs:=h;refine⟨[.el j i z o],rfl,?_⟩;show cs=[match H5 j k with|true=>.jk|false=>.el j i z o];cases e:H5 j k with
  | true=>rw[e] at h;cases h
  | false=>rw[e] at h;injection h with h;exact h.symm
 | jk=>cases h
 | _=>exact⟨_,rfl,by injection h with h;exact h.symm⟩
theorem a8L {k:Nat}:∀l:List V,n7 (w9 k l)=n7 l
 | []=>rfl
 | x::l=>by rw[w9,n7,a8L l,n7]
theorem a2N {k:Nat}:∀ {l:List V} {n:Nat} {ys l':List V},splice (w9 k l) n (w9 k ys)=some l'->∃m,splice l n ys=some m/\l'=w9 k m
 | l,0,[],l',h=>by
  have h:some (w9 k l)=some l':=by cases l <;> exact h
  injection h with h;exact⟨l,by cases l <;> rfl,h.symm⟩
 | x::l,0,y::ys,l',h=>by
  rw[w9,w9,splice] at h;cases e:splice (w9 k l) 0 (w9 k ys) with
  | none=>rw[e] at h;cases h
  | some m' =>
   rw[e] at h;injection h with h;obtain⟨m,h1,h2⟩:=a2N e;exact⟨y::m,by rw[splice,h1],by rw[<-h,h2];rfl⟩
 | x::l,n+1,ys,l',h=>by
  have h:(match splice (w9 k l) n (w9 k ys) with|some t=>some (a6H k x::t)|none=>none)=some l':=by rw[<-h,w9,splice];cases splice (w9 k l) n (w9 k ys) <;> rfl
  cases e:splice (w9 k l) n (w9 k ys) with
  | none=>rw[e] at h;cases h
  | some m' =>
   rw[e] at h;injection h with h;obtain⟨m,h1,h2⟩:=a2N e;refine⟨x::m,?_,by rw[<-h,h2];rfl⟩;have h3:splice (x::l) (n+1) ys=(match splice l n ys with|some t=>some (x::t)|none=>none):=by rw[splice];cases splice l n ys <;> rfl
   rw[h3,h1]
 | [],n+1,ys,l',h=>by cases ys <;> cases h
 | [],0,y::ys,l',h=>by cases h
theorem a2f {k:Nat} {g g':Operand->V} {place:List (Nat×Nat)}:∀ {ps:List (Nat×Operand)} {l l':List V},(∀p∈ps,g' p.2=C9 k (g p.2))->W5 g' place ps (w9 k l)=some l'->∃m,W5 g place ps l=some m/\l'=w9 k m
 | [],l,l',_,h=>⟨l,rfl,by injection h with h;exact h.symm⟩
 | (i,x)::ps,l,l',hg,h=>by
  rw[W5] at h ⊢
  split at h <;> try (cases h;done)
  rename_i off sz hp;rw[hg _ (c38 ..)] at h
  split at h <;> try (cases h;done)
  rename_i cs hc;obtain⟨ds,h1,rfl⟩:=b2E hc;rw[a8L] at h;simp only[hp,h1]
  split at h <;> try (cases h;done)
  rename_i hl
  split at h <;> try (cases h;done)
  rename_i l2 h2;obtain⟨m2,h3,rfl⟩:=a2N h2;simp only[hl,h3];exact a2f (λp hp=>hg p (c36 _ hp)) h
theorem b7o {k:Nat} {os o':List O} (hB:a4e k os o') {x:V} {y:D} (h:toD o' (a6H k x)=some y):toD os x=some y:=by
 cases x with
 | own j =>
  have h:toD o' (match H5 j k with|true=>.jk|false=>.own j)=some y:=h;cases e:H5 j k with
  | true=>rw[e] at h;cases h
  | false =>
   rw[e] at h;have h:(match m7 o' j with|.row true e rows=>some (D.sl (ty e).sz rows)|_=>none)=some y:=h;rw[hB.1 j (a0V.1 e)] at h;show (match m7 os j with|.row true e rows=>some (D.sl (ty e).sz rows)|_=>none)=some y
   split at h
   ·rename_i e2 rows h2;rw[a13 h2];exact h
   ·cases h
 | el j i z o =>
  have h:toD o' (match H5 j k with|true=>.jk|false=>.el j i z o)=some y:=h;cases e:H5 j k <;> rw[e] at h <;> cases h
 | cl f ks=>cases ks <;> exact h
 | _=>exact h
theorem a8M {k:Nat} {os o':List O} (hB:a4e k os o'):∀ {l:List V} {ds:List D},a3Z o' (w9 k l)=some ds->a3Z os l=some ds
 | [],ds,h=>h
 | x::l,ds,h=>by
  rw[w9,a3Z] at h;rw[a3Z]
  split at h <;> try (cases h;done)
  rename_i y hy
  split at h <;> try (cases h;done)
  rename_i ys hys;rw[b7o hB hy,a8M hB hys];exact h
theorem a8N {k:Nat} {v:V}:∀ {l:List V} {i:Nat},F3 k (G5 l i v)=G5 (F3 k l) i (C9 k v)
 | [],i=>rfl
 | _::_,0=>rfl
 | x::l,i+1=>by rw[G5,F3,a8N (l:=l),F3,G5]
theorem a1G {k:Nat}:∀ {l:List V} {i:Nat},m5 (F3 k l) i=C9 k (m5 l i)
 | [],i=>rfl
 | _::_,0=>rfl
 | x::l,i+1=>by rw[F3,m5,m5,a1G (l:=l)]
theorem b9s {kk:Option Nat} {v:V} {l:List V} {i:Nat}:klT kk (G5 l i v)=G5 (klT kk l) i (klV kk v):=by cases kk <;> first|rfl|exact a8N
theorem b4j {kk:Option Nat} {s:S} {d:Option Nat} {v:V} {o:List O}:(⟨klT kk (s.put d v).t,o⟩:S)=S.put ⟨klT kk s.t,o⟩ d (klV kk v):=by
 cases d with
 | none=>rfl
 | some d=>simp only[S.put,b9s]
theorem b4k {kk:Option Nat} {s:S} {o:List O} (x:Operand):(⟨klT kk s.t,o⟩:S).get x=klV kk (s.get x):=by
 cases kk with
 | none=>cases x <;> rfl
 | some k =>
  cases x with
  | tmp i=>exact a1G
  | const v=>cases v <;> first|rfl|(simp only[S.get,klV];unfold a5v;split <;> rfl)
  | global g=>rfl
  | func f=>rfl
theorem b9t {kk:Option Nat} {g g':Operand->V} {os os':List O} {op:Op} (hb:b7m op=true) (hg:∀x∈op.operands,g' x=klV kk (g x)) {K:V->Prop} (h:stepC a7 g' os' K op):∃v,K (klV kk v)/\∀K',K' v->stepC a7 g os K' op:=by
 have keep:∀ {v w:V},klV kk v=w->((∃k o,w=.ptr k o)\/(∃f ks,w=.cl f ks)\/(∃k i z o,w=.el k i z o)\/∃cs o,w=.ro cs o)->v=w:=λ{v w} e hw=>by
  cases kk with
  | none=>exact e
  | some k =>
   have e:C9 k v=w:=e;cases v with
   | ag cs=>subst e;simp[C9] at hw
   | tu cs=>subst e;cases cs <;> simp[C9] at hw
   | own j =>
    subst e;have e2:C9 k (.own j)=match H5 j k with|true=>.jk|false=>.own j:=rfl
    rw[e2] at hw;cases he:H5 j k <;> rw[he] at hw <;> simp at hw
   | el j i z o =>
    subst e;have e2:C9 k (.el j i z o)=match H5 j k with|true=>.jk|false=>.el j i z o:=rfl
    rw[e2] at hw ⊢;cases he:H5 j k <;> rw[he] at hw <;> simp at hw ⊢
   | _=>exact e
 cases op <;> first|cases hb;done|skip
 ·rename_i x;rw[show stepC a7 g' os' K (.move x)=K (g' x) from rfl,hg x (by simp[Op.operands])] at h;exact⟨_,h,λK' hk=>hk⟩
 ·rename_i x;rw[show stepC a7 g' os' K (.nilCheck x)=nnV K (g' x) from rfl] at h;have e:=hg x (by simp[Op.operands]);generalize g' x=w at h e;unfold nnV at h
  split at h <;> try exact h.elim
  all_goals
   have e':=keep e.symm (by simp);refine⟨g x,by rw[<-e];exact h,λK' hk=>?_⟩;show nnV K' (g x);rw[e'] at hk ⊢;exact hk
 ·rename_i t x i;rw[show stepC a7 g' os' K (.fieldAddr t x i)=N4 K t i (g' x) from rfl] at h;have e:=hg x (by simp[Op.operands]);generalize g' x=w at h e;unfold N4 at h
  split at h <;> try exact h.elim
  rename_i off sz hf
  split at h <;> try exact h.elim
  ·rename_i k o;have e':=keep e.symm (by simp);refine⟨.ptr k (o+off),by cases kk <;> exact h,λK' hk=>?_⟩;show N4 K' t i (g x);unfold N4;rw[hf,e'];exact hk
  ·rename_i cs o;have e':=keep e.symm (by simp);refine⟨.ro cs (o+off),by cases kk <;> exact h,λK' hk=>?_⟩;show N4 K' t i (g x);unfold N4;rw[hf,e'];exact hk
  ·rename_i k i' z o;have e':=keep e.symm (by simp)
   have e3:klV kk (.el k i' z (o+off))=.el k i' z (o+off):=by
    rw[e'] at e;cases kk with
    | none=>rfl
    | some j =>
     have e4:(V.el k i' z o)=match H5 k j with|true=>V.jk|false=>V.el k i' z o:=e
     show (match H5 k j with|true=>V.jk|false=>V.el k i' z (o+off))=_;cases he:H5 k j with
     | true=>rw[he] at e4;cases e4
     | false=>rfl
   refine⟨.el k i' z (o+off),by rw[e3];exact h,λK' hk=>?_⟩;show N4 K' t i (g x);unfold N4;rw[hf,e'];exact hk
theorem b9u {k:Nat} {g g':Operand->V} {os o':List O} {op:Op} (hb:a9O op=true) (hB:a4e k os o') (hg:∀x∈op.operands,g' x=C9 k (g x)) {K:V->Prop} (h:stepC a7 g' o' K op):∃v,K (C9 k v)/\∀K',K' v->stepC a7 g os K' op:=by
 unfold a9O at hb
 split at hb
 ·rename_i t x;rw[show stepC a7 g' o' K (.load t x)=C1 a7 o' K t (g' x) from rfl,hg x (by simp[Op.operands])] at h;have goal:∀ {v:V} {K':V->Prop},C1 a7 os K' t (g x)->stepC a7 g os K' (.load t x):=λh=>h
  show ∃v,K (C9 k v)/\∀K',K' v->C1 a7 os K' t (g x);generalize g x=u at h;have fin:∀ {l:List V} {K:V->Prop},(match a18 (ty t).agg (w9 k l) with|some x=>K x|none=>False)->K (C9 k (.ag l)):=λh=>by rw[hb] at h;exact h
  cases u with
  | ptr j off =>
   have h:(match m7 o' j with|.box cs=>(match H8 (ty t).sz (L5 off cs) with|some l=>(match a18 (ty t).agg l with|some x=>K x|none=>False)|none=>False)|_=>False):=h;show ∃v,K (C9 k v)/\∀K':V->Prop,K' v->(match m7 os j with|.box cs=>(match H8 (ty t).sz (L5 off cs) with|some l=>(match a18 (ty t).agg l with|some x=>K' x|none=>False)|none=>False)|_=>False)
   split at h <;> try exact h.elim
   rename_i cs hc;have hj:j≠k:=λe=>hB.2 cs (by rw[<-e];exact hc)
   rw[hB.1 j hj] at hc;obtain⟨ds,h1,rfl⟩:=a3P hc;rw[a7v] at h
   split at h <;> try exact h.elim
   rename_i l' hl;obtain⟨m,h2,rfl⟩:=a7w hl;refine⟨.ag m,fin h,λK' hk=>?_⟩;rw[h1];simp only[h2,hb];exact hk
  | ro cs off =>
   have h:(match H8 (ty t).sz (L5 off cs) with|some l=>(match a18 (ty t).agg (ofD l) with|some x=>K x|none=>False)|none=>False):=h;show ∃v,K (C9 k v)/\∀K':V->Prop,K' v->(match H8 (ty t).sz (L5 off cs) with|some l=>(match a18 (ty t).agg (ofD l) with|some x=>K' x|none=>False)|none=>False)
   split at h <;> try exact h.elim
   rename_i l hl;rw[<-a5F (k:=k)] at h;exact⟨.ag (ofD l),fin h,λK' hk=>by simp only[hb];exact hk⟩
  | el j i z off =>
   have h:C1 a7 o' K t (match H5 j k with|true=>.jk|false=>.el j i z off):=h;cases e:H5 j k with
   | true=>rw[e] at h;exact h.elim
   | false =>
    rw[e] at h;have h:(match m7 o' j with|.row _ e rows=>(match H5 (ty e).sz z with|true=>(match a7.get rows i with|some row=>(match H8 (ty t).sz (L5 off row) with|some l=>(match a18 (ty t).agg (ofD l) with|some x=>K x|none=>False)|none=>False)|none=>False)|false=>False)|_=>False):=h;show ∃v,K (C9 k v)/\∀K':V->Prop,K' v->(match m7 os j with|.row _ e rows=>(match H5 (ty e).sz z with|true=>(match a7.get rows i with|some row=>(match H8 (ty t).sz (L5 off row) with|some l=>(match a18 (ty t).agg (ofD l) with|some x=>K' x|none=>False)|none=>False)|none=>False)|false=>False)|_=>False);rw[hB.1 j (a0V.1 e)] at h
    split at h <;> try exact h.elim
    rename_i e' rows hr;rw[a13 hr];simp only
    split at h <;> try exact h.elim
    rename_i hz
    split at h <;> try exact h.elim
    rename_i row hrow
    split at h <;> try exact h.elim
    rename_i l hl;rw[<-a5F (k:=k)] at h;exact⟨.ag (ofD l),fin h,λK' hk=>by simp only[hz,hrow,hl,hb];exact hk⟩
  | own j =>
   have h:C1 a7 o' K t (match H5 j k with|true=>.jk|false=>.own j):=h;cases e:H5 j k <;> rw[e] at h <;> exact h.elim
  | tu l=>cases l <;> exact h.elim
  | _=>exact h.elim
 ·rename_i t ps;have h:a1W g' K t ps.toList:=h;have hg':∀p∈ps.toList,g' p.2=C9 k (g p.2):=λp hp=>hg _ (by simp[Op.operands];exact⟨p.1,by simpa using hp⟩)
  show ∃v,K (C9 k v)/\∀K',K' v->a1W g K' t ps.toList;unfold a1W at h ⊢;cases hk:(ty t).kind <;> simp only[hk] at h <;> first|exact h.elim|simp only[]
  ·rw[<-a0I (k:=k)] at h
   split at h <;> try exact h.elim
   rename_i l' hl;obtain⟨m,h1,rfl⟩:=a2f hg' hl;exact⟨.ag m,h,λK' hk=>by rw[h1];exact hk⟩
  ·split at h <;> try exact h.elim
   rename_i e he
   try simp only[he]
   rw[<-a0I (k:=k)] at h
   split at h <;> try exact h.elim
   rename_i l' hl;obtain⟨m,h1,rfl⟩:=a2f hg' hl;exact⟨.ag m,h,λK' hk=>by rw[h1];exact hk⟩
 ·rename_i t n ps;have h:C2 g' o' K t (n+1) ps.toList:=h;have hg':∀p∈ps.toList,g' p.2=C9 k (g p.2):=λp hp=>hg _ (by simp[Op.operands];exact⟨p.1,by simpa using hp⟩)
  show ∃v,K (C9 k v)/\∀K',K' v->C2 g os K' t (n+1) ps.toList;unfold C2 at h ⊢
  split at h <;> try exact h.elim
  rename_i e he;simp only[he];simp only at h;rw[show a24 (B6 (ty e).zero) (n+1) []=w9 k (a24 (B6 (ty e).zero) (n+1) []) from(a6q (k:=k) (ty e).zero (n+1) []).symm] at h
  split at h <;> try exact h.elim
  rename_i l' hl;obtain⟨m,h1,rfl⟩:=a2f hg' hl
  split at h <;> try exact h.elim
  rename_i ds hds
  split at h <;> try exact h.elim
  rename_i rows hrows;exact⟨.d (.sl (ty e).sz rows),h,λK' hk=>by simp only[h1,a8M hB hds,hrows];exact hk⟩
 ·cases hb
theorem a8O {o:O}:∀ {l:List O} {k:Nat},m7 l k≠.dead->m7 (o9 l o) k=m7 l k
 | [],k,h=>absurd rfl h
 | _::_,0,_=>rfl
 | x::l,k+1,h=>by rw[o9,m7,m7];rw[m7] at h;exact a8O h
theorem a2O {o:O} {l:List O} {k:Nat} {x:O} (h:m7 l k=x) (hd:x≠.dead):m7 (o9 l o) k=x:=by rw[a8O (by rw[h];exact hd),h]
theorem b58 {o:O} {os:List O} {x:V} {r:Option Nat×List (List D)} (h:J6 os x=some r):J6 (o9 os o) x=some r:=by
 unfold J6 at h ⊢
 split at h
 ·exact h
 ·exact h
 ·split at h
  ·rename_i hok;rw[a2O hok (by simp)];exact h
  ·cases h
 ·cases h
theorem b7p {o:O} {os:List O} {x:V} {r:Nat×Nat×List (List D)} (h:a61 os x=some r):a61 (o9 os o) x=some r:=by
 unfold a61 at h ⊢
 split at h
 ·split at h
  ·rename_i hok;simp only[a2O hok (by simp)];exact h
  ·cases h
 ·cases h
theorem b59 {g:Operand->V} {os:List O} {o:O} {K:V->Prop} {op:Op} (hb:c0x op=true) (h:stepC a7 g os K op):stepC a7 g (o9 os o) K op:=by
 cases op <;> first|cases hb;done|exact h|skip
 ·rename_i t x;have h:C1 a7 os K t (g x):=h;show C1 a7 (o9 os o) K t (g x);generalize g x=v at h;unfold C1 at h ⊢
  split at h <;> try exact h.elim
  ·split at h <;> try exact h.elim
   rename_i hok;simp only[a2O hok (by simp)];exact h
  ·exact h
  ·split at h <;> try exact h.elim
   rename_i hok;simp only[a2O hok (by simp)];exact h
 ·rename_i t x i;have h:r6 a7 os K t (g x) (g i):=h;show r6 a7 (o9 os o) K t (g x) (g i);generalize g x=v at h;generalize g i=u at h;unfold r6 at h ⊢
  split at h <;> try exact h.elim
  split at h
  ·exact h
  ·split at h <;> try exact h.elim
   split at h
   ·exact h
   split at h
   ·rename_i hraw;rw[b7p hraw];exact h
   ·rename_i hraw
    split at h <;> try exact h.elim
    rename_i hrows
    have e:a61 (o9 os o) v=none:=by
     unfold a61
     split
     ·rename_i k;unfold J6 at hrows;simp only at hrows
      split at hrows
      ·rename_i hok;rw[a2O hok (by simp)]
      ·cases hrows
     ·rfl
    rw[e,b58 hrows];exact h
theorem a3Q (s:S) (d:Option Nat) (v:V):(s.put d v).o=s.o:=by cases d <;> rfl
theorem a5G {l:List Nat} {s:S} {d:Option Nat} {v:V} (h:L7 d l=true):b1i l s (s.put d v):=(K3 (I3 h)).2
theorem c2e {dsts:List (Option Nat)} {x y:Oper} (h:a30 dsts x y=true) {s:S} {K:S->Prop} (hx:j9 a7 dsts x s λs=>j9 a7 dsts y s K):j9 a7 dsts y s λs=>j9 a7 dsts x s K:=by
 simp only[a30,c3D] at h;obtain⟨v,h1,h2⟩:=a7s h.1.1 hx;obtain⟨o',h3,h4⟩:=b1j (by simpa [c0Z] using h.1.2) h1;refine h4 s _ (a3Q ..).symm (λt ht=>(a5G h.2 t ht).symm) (h2 _ _ (λ_ _=>rfl) ?_);rw[<-a0p s.t s.o o'];exact h3
theorem c2f {dsts:List (Option Nat)} {x y:Oper} (h:a30 dsts x y=true) {s:S} {K:S->Prop} (hy:j9 a7 dsts y s λs=>j9 a7 dsts x s K):j9 a7 dsts x s λs=>j9 a7 dsts y s K:=by
 simp only[a30,c3D] at h;obtain⟨o',h1,h2⟩:=b1j (by simpa [c0Z] using h.1.2) hy;obtain⟨v,h3,h4⟩:=a7s h.1.1 h1;refine h4 s _ (λ_ _=>rfl) (h2 _ _ (a3Q ..) (a5G h.2) ?_);rw[<-a0p s.t s.o o'] at h3;exact h3
theorem c2g {dsts:List (Option Nat)} {x y:Oper} (h:a9P dsts x y=true) {s:S} {K:S->Prop} (hx:j9 a7 dsts x s λs=>j9 a7 dsts y s K):j9 a7 dsts y s λs=>j9 a7 dsts x s K:=by
 obtain⟨xd,xop,xty,xpos,xaf,xg⟩:=x;obtain⟨yd,yop,yty,ypos,yaf,yg⟩:=y;simp only[a9P,c3D] at h;obtain⟨⟨⟨⟨⟨⟨⟨h1,h2⟩,h3⟩,h4⟩,h5⟩,h6⟩,h7⟩,h8⟩:=h;cases xg with
 | some g=>cases h2
 | none =>
  cases yg with
  | some g=>cases h5
  | none =>
   cases xd with
   | none=>cases h3
   | some d =>
    have hx':step a7 false s (some d) (λs=>j9 a7 dsts ⟨yd,yop,yty,ypos,yaf,none⟩ s K) xop:=hx;obtain⟨k,o',hB,h9,h10⟩:=c1b h1 hx';have h9:step a7 false (S.put ⟨F3 k s.t,o'⟩ (some d) (.own k)) yd K yop:=h9
    have hcalm:a6o yop=true:=by
     rcases Bool.or_eq_true_iff.1 h4 with h4|h4
     ·cases yop <;> first|rfl|cases h4
     ·unfold a9O at h4
      split at h4 <;> first|rfl|cases h4
    rw[E8 hcalm] at h9;have hl:∀t∈Vm.tmps yop.operands.toList,t∈looks dsts ⟨yd,yop,yty,ypos,yaf,none⟩:=λt ht=>by simp[looks,ht]
    have hgz:∀z∈yop.operands,(S.put ⟨F3 k s.t,o'⟩ (some d) (.own k)).get z=C9 k (s.get z):=λz hz=>by
     have hs:a1F (looks dsts ⟨yd,yop,yty,ypos,yaf,none⟩) (⟨F3 k s.t,o'⟩:S) (S.put ⟨F3 k s.t,o'⟩ (some d) (.own k)):=K3 (I3 h6);rw[(hs.ops (xs:=yop.operands.toList) hl) z (by simpa using hz)];exact b4k (kk:=some k) z
    obtain⟨v,h11,h12⟩:∃v,K (S.put (S.put ⟨F3 k s.t,o'⟩ (some d) (.own k)) yd (C9 k v))/\∀K',K' v->stepC a7 s.get s.o K' yop:=by
     rcases Bool.or_eq_true_iff.1 h4 with h4|h4
     ·exact b9t (kk:=some k) (g:=s.get) (os:=s.o) h4 hgz h9
     ·exact b9u h4 hB hgz h9
    show step a7 false s yd (λs=>j9 a7 dsts ⟨some d,xop,xty,xpos,xaf,none⟩ s K) yop;rw[E8 hcalm];refine h12 _ ?_;show step a7 false (s.put yd v) (some d) K xop;have hs2:a1F (looks dsts ⟨some d,xop,xty,xpos,xaf,none⟩) s (s.put yd v):=K3 (I3 h7);have hlx:∀t∈Vm.tmps xop.operands.toList,t∈looks dsts ⟨some d,xop,xty,xpos,xaf,none⟩:=λt ht=>by simp[looks,ht]
    have e:s.put yd v=⟨(s.put yd v).t,s.o⟩:=by cases yd <;> rfl
    rw[e];refine h10 _ _ (λz hz=>?_) ?_
    ·rw[<-e];exact hs2.ops hlx z (by simpa using hz)
    have hne:∀z,yd=some z->some d≠some z:=λz hz hz'=>by
     subst hz;rw[hz'] at h8
     simp at h8
    have e2:(⟨F3 k (s.put yd v).t,o'⟩:S)=S.put ⟨F3 k s.t,o'⟩ yd (C9 k v):=b4j (kk:=some k);rw[e2,a2M hne];exact h11
theorem c2h {dsts:List (Option Nat)} {x y:Oper} (h:b2B dsts x y=true) {s:S} {K:S->Prop} (hx:j9 a7 dsts x s λs=>j9 a7 dsts y s K):j9 a7 dsts y s λs=>j9 a7 dsts x s K:=by
 obtain⟨xd,xop,xty,xpos,xaf,xg⟩:=x;obtain⟨yd,yop,yty,ypos,yaf,yg⟩:=y;simp only[b2B,c3D] at h;obtain⟨⟨⟨⟨⟨h1,h2⟩,h3⟩,h4⟩,h5⟩,h6⟩:=h;cases xg with
 | some g=>cases h2
 | none =>
  cases yg with
  | some g=>cases h4
  | none =>
   cases yop <;> first|cases h3;done|skip
   rename_i e;have hcalm:a6o xop=true:=by cases xop <;> first|rfl|cases h1
   have hx':step a7 false s xd (λs=>j9 a7 dsts ⟨yd,.alloc e,yty,ypos,yaf,none⟩ s K) xop:=hx;rw[E8 hcalm] at hx';obtain⟨v,h7,h8⟩:=a1D _ hx';have h7:(match a21 (B6 (ty e).zero) with|true=>K (((s.put xd v).obj (a62 e)).put yd (.ptr (j6 (s.put xd v).o) 0))|false=>False):=h7;show (match a21 (B6 (ty e).zero) with|true=>j9 a7 dsts ⟨xd,xop,xty,xpos,xaf,none⟩ ((s.obj (a62 e)).put yd (.ptr (j6 s.o) 0)) K|false=>False);cases hon:a21 (B6 (ty e).zero) with
   | false=>rw[hon] at h7;exact h7.elim
   | true =>
    rw[hon] at h7;simp only at h7 ⊢;show step a7 false ((s.obj (a62 e)).put yd (.ptr (j6 s.o) 0)) xd K xop;rw[E8 hcalm,a3Q];have hl:∀t∈Vm.tmps xop.operands.toList,t∈looks dsts ⟨xd,xop,xty,xpos,xaf,none⟩:=λt ht=>by simp[looks,ht]
    have hs:a1F (looks dsts ⟨xd,xop,xty,xpos,xaf,none⟩) (s.obj (a62 e)) ((s.obj (a62 e)).put yd (.ptr (j6 s.o) 0)):=K3 (I3 h5);have hops:=hs.ops (xs:=xop.operands.toList) hl;rw[a1t (g':=(s.obj (a62 e)).get) λz hz=>hops z (by simpa using hz)]
    have h9:=h8 (λw=>K (S.put ((s.obj (a62 e)).put yd (.ptr (j6 s.o) 0)) xd w)) (by
     have e1:j6 (s.put xd v).o=j6 s.o:=by rw[a3Q]
     rw[e1] at h7;have e2:(s.put xd v).obj (a62 e)=(s.obj (a62 e)).put xd v:=by cases xd <;> rfl
     rw[e2] at h7
     have hne:∀z,yd=some z->xd≠some z:=λz hz hz'=>by
      subst hz;subst hz'
      simp at h6
     rw[a2M hne]
     exact h7)
    exact b59 (g:=(s.obj (a62 e)).get) h1 h9
theorem c2i {dsts:List (Option Nat)} {x y:Oper} (h:b2C dsts x y=true) {s:S} {K:S->Prop} (hx:j9 a7 dsts x s λs=>j9 a7 dsts y s K):j9 a7 dsts y s λs=>j9 a7 dsts x s K:=by
 obtain⟨xd,xop,xty,xpos,xaf,xg⟩:=x;obtain⟨yd,yop,yty,ypos,yaf,yg⟩:=y;simp only[b2C,c3D] at h;obtain⟨⟨⟨⟨⟨⟨⟨h1,h2⟩,h3⟩,h4⟩,h5⟩,h6⟩,h7⟩,h8⟩:=h;cases xg with
 | some g=>cases h2
 | none =>
  cases yg with
  | some g=>cases h4
  | none =>
   cases yd with
   | none=>cases h5
   | some d =>
    cases xop <;> first|cases h1;done|skip
    rename_i r;unfold a8G at h3
    split at h3
    ·rename_i p q t t';have hx':B9 a7 false (s.put xd (s.get r)) (some d) K t ((s.put xd (s.get r)).get p) ((s.put xd (s.get r)).get q):=hx;have hs2:a1F (looks dsts ⟨some d,.call ⟨.builtin .append,⟨[p,q]⟩,⟨[t,t']⟩⟩,yty,ypos,yaf,none⟩) s (s.put xd (s.get r)):=K3 (I3 h6);have hops:=hs2.ops (xs:=[p,q]) λt ht=>by simp[looks,Op.operands,Call.operands];simpa using ht
     rw[hops p (by simp),hops q (by simp)] at hx';obtain⟨kk,o',k',h9,h10⟩:=a8I hx';have e:s=⟨s.t,(s.put xd (s.get r)).o⟩:=by cases xd <;> rfl
     show B9 a7 false s (some d) (λs=>j9 a7 dsts ⟨xd,.move r,xty,xpos,xaf,none⟩ s K) t (s.get p) (s.get q)
     have h11:=h10 s.t (λs=>j9 a7 dsts ⟨xd,.move r,xty,xpos,xaf,none⟩ s K) (by
      show K (S.put (S.put ⟨klT kk s.t,o'⟩ (some d) (.own k')) xd ((S.put ⟨klT kk s.t,o'⟩ (some d) (.own k')).get r));have hs:a1F (looks dsts ⟨xd,.move r,xty,xpos,xaf,none⟩) (⟨klT kk s.t,o'⟩:S) (S.put ⟨klT kk s.t,o'⟩ (some d) (.own k')):=K3 (I3 h7);rw[hs.ops (xs:=[r]) (λt ht=>by simp[looks,Op.operands];simpa using ht) r (by simp),b4k r];rw[b4j] at h9
      have hne:∀z,(some d:Option Nat)=some z->xd≠some z:=λz hz hz'=>by
       subst hz';rw[<-hz] at h8
       simp at h8
      rw[a2M hne]
      exact h9)
     rw[<-e] at h11;exact h11
    ·cases h3
theorem c0y {dsts:List (Option Nat)} {x y:Oper} (h:b4i dsts x y=true) {s:S} {K:S->Prop} (hx:j9 a7 dsts x s λs=>j9 a7 dsts y s K):j9 a7 dsts y s λs=>j9 a7 dsts x s K:=by
 simp only[b4i,c45] at h
 rcases h with ((((h|h)|h)|h)|h)|h
 ·exact c2d h hx
 ·exact c2e h hx
 ·exact c2f h hx
 ·exact c2g h hx
 ·exact c2h h hx
 ·exact c2i h hx
theorem a8P (v:V):F6 .jk v=true:=by cases v <;> rfl
theorem b5A (u:V):F6 u .jk=true:=by cases u <;> rfl
theorem a7x (k:Nat) (w:V):C9 k w=.jk\/((∀v,F6 w v=true->F6 (C9 k w) v=true)/\∀u,F6 u w=true->F6 u (C9 k w)=true):=by
 cases w with
 | own j =>
  have e2:C9 k (.own j)=match H5 j k with|true=>V.jk|false=>.own j:=rfl
  rw[e2];cases H5 j k
  ·exact .inr ⟨λ_ h=>h,λ_ h=>h⟩
  ·exact .inl rfl
 | el j i z o =>
  have e2:C9 k (.el j i z o)=match H5 j k with|true=>V.jk|false=>.el j i z o:=rfl
  rw[e2];cases H5 j k
  ·exact .inr ⟨λ_ h=>h,λ_ h=>h⟩
  ·exact .inl rfl
 | ag cs=>exact .inr ⟨λv _=>by cases v <;> rfl,λu _=>by cases u <;> rfl⟩
 | tu l =>
  cases l with
  | nil=>exact .inr ⟨λ_ h=>h,λ_ h=>h⟩
  | cons x l=>exact .inl rfl
 | _=>exact .inr ⟨λ_ h=>h,λ_ h=>h⟩
theorem b1k {kk:Option Nat} {u v:V} (h:F6 u v=true):F6 (klV kk u) (klV kk v)=true:=by
 cases kk with
 | none=>exact h
 | some k =>
  show F6 (C9 k u) (C9 k v)=true
  rcases a7x k u with e|h1
  ·rw[e];exact a8P _
  ·rcases a7x k v with e|h2
   ·rw[e];exact b5A _
   ·exact h1.1 _ (h2.2 _ h)
def PP (prs:List (Nat×Nat)) (s:S):Prop:=∀p∈prs,F6 (m5 s.t p.1) (m5 s.t p.2)=true
theorem c0z:∀ {prs:List (Nat×Nat)} {s:S},b1a prs s.t=true->PP prs s
 | [],s,_,p,hp=>by simp at hp
 | (i,k)::l,s,h,p,hp=>by
  rw[b1a] at h
  split at h
  ·rename_i h1
   rcases c3F.1 hp with rfl|hp
   ·exact h1
   ·exact c0z (prs:=l) h p hp
  ·cases h
def b7q (prs:List (Nat×Nat)) (d:Option Nat):Prop:=∀p∈prs,d≠some p.1/\d≠some p.2
theorem b4l {kk:Option Nat} {l:List V} {i:Nat}:m5 (klT kk l) i=klV kk (m5 l i):=by
 cases kk with
 | none=>rfl
 | some k=>exact a1G
theorem PP.next {prs:List (Nat×Nat)} {s:S} (h:PP prs s) {kk:Option Nat} {d:Option Nat} {v:V} {o':List O} (hf:b7q prs d):PP prs (S.put ⟨klT kk s.t,o'⟩ d v):=λp hp=>by
 have key:∀i,d≠some i->m5 (S.put ⟨klT kk s.t,o'⟩ d v).t i=klV kk (m5 s.t i):=λi hi=>by
  cases d with
  | none=>exact b4l
  | some x =>
   show m5 (G5 (klT kk s.t) x v) i=_;rw[a1E (λe=>hi (by rw[e])),b4l]
 rw[key _ (hf p hp).1,key _ (hf p hp).2];exact b1k (h p hp)
theorem a7y {s:S} {dst:Option Nat} {K:S->Prop} {op:Op} (hx:step a7 false s dst K op):step a7 false s dst (λs'=>(∃kk v o',s'=S.put ⟨klT kk s.t,o'⟩ dst v)/\K s') op:=by
 have hC:∀ {v:V},∃kk u o',s.put dst v=S.put ⟨klT kk s.t,o'⟩ dst u:=λ{v}=>⟨none,v,s.o,rfl⟩
 have hO:∀ {o:O} {v:V},∃kk u o',(s.obj o).put dst v=S.put ⟨klT kk s.t,o'⟩ dst u:=λ{o v}=>⟨none,v,o9 s.o o,rfl⟩
 have hF:∀ {z:Bool} {e:Nat} {r:List (List D)} {v:V},∃kk u o',(s.fresh false (.row z e r)).put dst v=S.put ⟨klT kk s.t,o'⟩ dst u:=λ{z e r v}=>⟨some (j6 s.o),v,_,rfl⟩
 have calm:∀ {op:Op},stepC a7 s.get s.o (λv=>K (s.put dst v)) op->stepC a7 s.get s.o (λv=>(∃kk u o',s.put dst v=S.put ⟨klT kk s.t,o'⟩ dst u)/\K (s.put dst v)) op:=λh=>by
  obtain⟨v,h1,h2⟩:=a1D _ h;exact h2 _ ⟨hC,h1⟩
 unfold step at hx ⊢
 split at hx
 ·split at hx
  ·exact⟨hO,hx⟩
  ·exact hx.elim
 ·split at hx
  ·exact⟨hO,hx⟩
  ·exact hx.elim
 ·split at hx
  ·obtain⟨o',h1,h2⟩:=a3z hx;exact h2 _ _ ⟨⟨none,.jk,o',rfl⟩,h1⟩
  ·exact hx.elim
 ·unfold N9 at hx ⊢
  repeat' split at hx
  all_goals first|exact hx.elim|skip
  obtain⟨h1,z,h2⟩:=hx;exact⟨h1,z,hO,h2⟩
 ·split at hx
  ·split at hx
   ·exact⟨hO,hx⟩
   ·exact hx.elim
  ·exact hx.elim
 ·split at hx
  ·unfold a94 at hx ⊢
   repeat' split at hx
   all_goals first|exact hx.elim|exact⟨⟨none,.jk,_,rfl⟩,hx⟩
  ·exact hx.elim
 ·split at hx
  ·obtain⟨z,hx⟩:=hx;exact⟨z,hF,hx⟩
  ·exact hx.elim
 ·cases dst with
  | none =>
   unfold B9 at hx ⊢
   repeat' split at hx
   all_goals first|exact hx.elim|skip
   ·obtain⟨h1,z,h2⟩:=hx;exact⟨h1,z,hF,h2⟩
   ·obtain⟨h1,h2⟩:=hx;exact⟨h1,⟨some _,.jk,_,rfl⟩,h2⟩
  | some d =>
   obtain⟨kk,o',k',h1,h2⟩:=a8I hx;exact h2 s.t _ ⟨⟨kk,_,o',rfl⟩,h1⟩
 ·exact calm hx
 ·exact calm hx
 ·exact calm hx
 ·exact calm hx
theorem a0b {s:S} {dst:Option Nat} {K K':S->Prop} {op:Op} (hK:∀s,K s->K' s) (hx:step a7 false s dst K op):step a7 false s dst K' op:=by
 have calm:∀ {op:Op},stepC a7 s.get s.o (λv=>K (s.put dst v)) op->stepC a7 s.get s.o (λv=>K' (s.put dst v)) op:=λh=>by
  obtain⟨v,h1,h2⟩:=a1D _ h;exact h2 _ (hK _ h1)
 unfold step at hx ⊢
 split at hx
 ·split at hx
  ·exact hK _ hx
  ·exact hx.elim
 ·split at hx
  ·exact hK _ hx
  ·exact hx.elim
 ·split at hx
  ·obtain⟨o',h1,h2⟩:=a3z hx;exact h2 _ _ (hK _ h1)
  ·exact hx.elim
 ·unfold N9 at hx ⊢
  repeat' split at hx
  all_goals first|exact hx.elim|skip
  obtain⟨h1,z,h2⟩:=hx;exact⟨h1,z,hK _ h2⟩
 ·split at hx
  ·split at hx
   ·exact hK _ hx
   ·exact hx.elim
  ·exact hx.elim
 ·split at hx
  ·unfold a94 at hx ⊢
   repeat' split at hx
   all_goals first|exact hx.elim|exact hK _ hx
  ·exact hx.elim
 ·split at hx
  ·obtain⟨z,hx⟩:=hx;exact⟨z,hK _ hx⟩
  ·exact hx.elim
 ·unfold B9 at hx ⊢
  repeat' split at hx
  all_goals first|exact hx.elim|skip
  ·obtain⟨h1,z,h2⟩:=hx;exact⟨h1,z,hK _ h2⟩
  ·obtain⟨h1,h2⟩:=hx;exact⟨h1,hK _ h2⟩
 ·exact calm hx
 ·exact calm hx
 ·exact calm hx
 ·exact calm hx
theorem b2F {dsts:List (Option Nat)} {prs:List (Nat×Nat)} {o:Oper} {s:S} {K:S->Prop} (hP:PP prs s) (hf:b7q prs o.dst) (h:j9 a7 dsts o s K):j9 a7 dsts o s (λs'=>PP prs s'/\K s'):=by
 obtain⟨dst,op,type,pos,after,gd⟩:=o
 have hst:∀ {K:S->Prop},step a7 false s dst K op->step a7 false s dst (λs'=>PP prs s'/\K s') op:=λ{K} h=>by
  have h1:=a7y h;exact a0b (λs' ⟨⟨kk,v,o',e⟩,hk⟩=>⟨by rw[e];exact hP.next hf,hk⟩) h1
 cases gd with
 | none=>exact hst h
 | some jb =>
  obtain⟨j,b⟩:=jb
  have h':guard s dsts j (fun
   | some c=>match bEq c b with
    | true=>step a7 false s dst K op
    | false=>K (s.put dst Y9)
   | none=>K (s.put dst Y9)):=h
  obtain⟨c,h1,h2⟩:=L9 h';have hv:PP prs (s.put dst Y9):=hP.next (kk:=none) (o':=s.o) hf
  show guard s dsts j (fun
   | some c=>match bEq c b with
    | true=>step a7 false s dst (λs'=>PP prs s'/\K s') op
    | false=>PP prs (s.put dst Y9)/\K (s.put dst Y9)
   | none=>PP prs (s.put dst Y9)/\K (s.put dst Y9))
  refine h2 _ ?_;cases c with
  | none=>exact⟨hv,h1⟩
  | some c =>
   simp only at h1 ⊢;cases hb:bEq c b with
   | true=>rw[hb] at h1;exact hst h1
   | false=>rw[hb] at h1;exact⟨hv,h1⟩
def a7z (prs:List (Nat×Nat)) (o:Oper):Prop:=∀p∈prs,o.dst≠some p.2/\(o.dst=some p.1->∃j,N1 o.op=some j/\(j,p.2)∈prs)
theorem b7r {prs:List (Nat×Nat)} {o:Oper} (h:b3Y prs o=true):a7z prs o:=λp hp=>by
 unfold b3Y at h;cases hd:o.dst with
 | none=>exact⟨by simp,λe=>by cases e⟩
 | some d =>
  rw[hd] at h;have h1:=c4g.1 h p hp;rw[c3D,c45,a2c,a2c] at h1;refine⟨λe=>?_,λe=>?_⟩
  ·have e:=Option.some.inj e;rw[y9.2 e] at h1;exact absurd h1.1 (by simp)
  ·have e:=Option.some.inj e
   rcases h1.2 with h2|h2
   ·rw[y9.2 e] at h2;exact absurd h2 (by simp)
   ·split at h2
    ·rename_i j hj;exact⟨j,hj,by simpa using h2⟩
    ·cases h2
theorem b5B {s:S} {dst:Option Nat} {K:S->Prop} {op:Op} {j:Nat} (ha:N1 op=some j) (h:step a7 false s dst K op):∃v,K (s.put dst v)/\(∀u,F6 (m5 s.t j) u=true->F6 v u=true)/\∀K':S->Prop,K' (s.put dst v)->step a7 false s dst K' op:=by
 have hc:a6o op=true:=by
  unfold N1 at ha
  split at ha <;> first|rfl|cases ha
 rw[E8 hc] at h;have hs:∀ {K':S->Prop} {v:V},stepC a7 s.get s.o (λv=>K' (s.put dst v)) op->step a7 false s dst K' op:=λ{K' v} hk=>by rw[E8 hc];exact hk
 unfold N1 at ha
 split at ha <;> try cases ha
 ·have h:K (s.put dst (m5 s.t j)):=h;exact⟨_,h,λu hu=>hu,λK' hk=>hs (v:=.jk) (show K' (s.put dst (m5 s.t j)) from hk)⟩
 ·have h:nnV (λv=>K (s.put dst v)) (m5 s.t j):=h;refine⟨m5 s.t j,?_,λu hu=>hu,λK' hk=>hs (v:=.jk) ?_⟩
  ·revert h;cases m5 s.t j <;> intro h <;> first|exact h|exact h.elim
  ·show nnV (λv=>K' (s.put dst v)) (m5 s.t j);revert h hk;cases m5 s.t j <;> intro h hk <;> first|exact hk|exact h.elim
 ·rename_i _ t i;have h:N4 (λv=>K (s.put dst v)) t i (m5 s.t j):=h
  have key:∃v,K (s.put dst v)/\(∀u,F6 (m5 s.t j) u=true->F6 v u=true)/\∀K':S->Prop,K' (s.put dst v)->N4 (λv=>K' (s.put dst v)) t i (m5 s.t j):=by
   generalize m5 s.t j=x at *;simp only[N4] at h ⊢
   split at h <;> try exact h.elim
   rename_i hf;cases x <;> try exact h.elim
   ·exact⟨_,h,λu hu=>by cases u <;> first|rfl|exact hu,λK' hk=>hk⟩
   ·exact⟨_,h,λu hu=>by cases u <;> first|rfl|exact hu,λK' hk=>hk⟩
   ·exact⟨_,h,λu hu=>by cases u <;> first|rfl|exact hu,λK' hk=>hk⟩
  obtain⟨v,h1,h2,h3⟩:=key;exact⟨v,h1,h2,λK' hk=>hs (v:=.jk) (h3 K' hk)⟩
 ·rename_i _ t i;have h:r6 a7 s.o (λv=>K (s.put dst v)) t (m5 s.t j) (s.get i):=h
  have key:∃v,K (s.put dst v)/\(∀u,F6 (m5 s.t j) u=true->F6 v u=true)/\∀K':S->Prop,K' (s.put dst v)->r6 a7 s.o (λv=>K' (s.put dst v)) t (m5 s.t j) (s.get i):=by
   generalize m5 s.t j=x at *;generalize s.get i=y at *;simp only[r6] at h ⊢
   split at h <;> try exact h.elim
   split at h
   ·split at h <;> try exact h.elim
    split at h <;> try exact h.elim
    cases x <;> try exact h.elim
    ·exact⟨_,h,λu hu=>by cases u <;> first|rfl|exact hu,λK' hk=>by first|(simp only[*,W6];done)|(simp only[*,W6];exact hk)⟩
    ·exact⟨_,h,λu hu=>by cases u <;> first|rfl|exact hu,λK' hk=>by first|(simp only[*,W6];done)|(simp only[*,W6];exact hk)⟩
    ·exact⟨_,h,λu hu=>by cases u <;> first|rfl|exact hu,λK' hk=>by first|(simp only[*,W6];done)|(simp only[*,W6];exact hk)⟩
   ·split at h <;> try exact h.elim
    rename_i e he
    split at h
    ·rename_i k m hb
     split at h <;> try exact h.elim
     rename_i j' hj
     obtain⟨k',n',rfl⟩:∃k' n',x=.bs k' n':=by
      cases x <;> first|exact⟨_,_,rfl⟩|cases hb
     cases hb;exact⟨_,h,λu hu=>by cases u <;> first|rfl|exact hu,λK' hk=>by first|(simp only[*,bsV];done)|(simp only[*,bsV];exact hk)⟩
    ·rename_i hb
     split at h
     ·rename_i k e' rows hr
      split at h <;> try exact h.elim
      rename_i he'
      split at h <;> try exact h.elim
      rename_i row hrow
      obtain rfl:x=.own k:=by
       unfold a61 at hr
       split at hr
       ·split at hr
        ·cases hr;rfl
        ·cases hr
       ·cases hr
      exact⟨_,h,λu hu=>by cases u <;> first|rfl|exact hu,λK' hk=>by first|(simp only[*];done)|(simp only[*];exact hk)⟩
     ·rename_i hr
      split at h <;> try exact h.elim
      rename_i sz rows hrw
      split at h <;> try exact h.elim
      rename_i hsz
      split at h <;> try exact h.elim
      rename_i row hrow;exact⟨_,h,λu hu=>rfl,λK' hk=>by first|(simp only[*];done)|(simp only[*];exact hk)⟩
  obtain⟨v,h1,h2,h3⟩:=key;exact⟨v,h1,h2,λK' hk=>hs (v:=.jk) (h3 K' hk)⟩
theorem a3R {v:V}:∀ {l:List V} {i:Nat},m5 (G5 l i v) i=v\/m5 (G5 l i v) i=.jk
 | [],i=>.inr rfl
 | x::l,0=>.inl rfl
 | x::l,i+1=>by rw[G5,m5];exact a3R
theorem PP.chain {prs:List (Nat×Nat)} {s:S} (h:PP prs s) {d:Option Nat} {v:V} (hv:∀p∈prs,d≠some p.2/\(d=some p.1->F6 v (m5 s.t p.2)=true)):PP prs (s.put d v):=λp hp=>by
 have key:∀i,d≠some i->m5 (s.put d v).t i=m5 s.t i:=λi hi=>by
  cases d with
  | none=>rfl
  | some x =>
   show m5 (G5 s.t x v) i=_;rw[a1E (λe=>hi (by rw[e]))]
 obtain⟨h1,h2⟩:=hv p hp;rw[key _ h1]
 by_cases e:d=some p.1
 ·have h3:=h2 e;subst e;show F6 (m5 (G5 s.t p.1 v) p.1) _=true
  rcases a3R (v:=v) (l:=s.t) (i:=p.1) with h4|h4
  ·rw[h4];exact h3
  ·rw[h4];exact a8P _
 ·rw[key _ e];exact h p hp
theorem a4N {prs:List (Nat×Nat)} {o:Oper} (h:a7z prs o) (hn:N1 o.op=none):b7q prs o.dst:=λp hp=>by
 obtain⟨h1,h2⟩:=h p hp;refine⟨λe=>?_,h1⟩;obtain⟨j,hj,_⟩:=h2 e;rw[hn] at hj;cases hj
theorem b5C {prs:List (Nat×Nat)} {s:S} {dst:Option Nat} {K:S->Prop} {op:Op} {j:Nat} (ha:N1 op=some j) (hP:PP prs s) (hk:∀p∈prs,dst≠some p.2/\(dst=some p.1->∃j,N1 op=some j/\(j,p.2)∈prs)) (h:step a7 false s dst K op):step a7 false s dst (λs'=>PP prs s'/\K s') op:=by
 obtain⟨v,h1,h2,h3⟩:=b5B ha h;refine h3 _ ⟨hP.chain λp hp=>⟨(hk p hp).1,λe=>?_⟩,h1⟩;obtain⟨j',hj,hm⟩:=(hk p hp).2 e;rw[ha] at hj;cases hj;exact h2 _ (hP _ hm)
theorem b7s {prs:List (Nat×Nat)} {s:S} {dst:Option Nat} {op:Op} (hP:PP prs s) (hk:∀p∈prs,dst≠some p.2/\(dst=some p.1->∃j,N1 op=some j/\(j,p.2)∈prs)):PP prs (s.put dst Y9):=hP.chain λp hp=>⟨(hk p hp).1,λ_=>rfl⟩
theorem a2P {dsts:List (Option Nat)} {prs:List (Nat×Nat)} {o:Oper} {s:S} {K:S->Prop} (hP:PP prs s) (hk:a7z prs o) (h:j9 a7 dsts o s K):j9 a7 dsts o s (λs'=>PP prs s'/\K s'):=by
 cases ha:N1 o.op with
 | none=>exact b2F hP (a4N hk ha) h
 | some j =>
  obtain⟨dst,op,type,pos,after,gd⟩:=o;simp only at ha;have hst:∀ {K:S->Prop},step a7 false s dst K op->step a7 false s dst (λs'=>PP prs s'/\K s') op:=λ{K} h=>b5C ha hP hk h
  cases gd with
  | none=>exact hst h
  | some jb =>
   obtain⟨j,b⟩:=jb
   have h':guard s dsts j (fun
    | some c=>match bEq c b with
     | true=>step a7 false s dst K op
     | false=>K (s.put dst Y9)
    | none=>K (s.put dst Y9)):=h
   obtain⟨c,h1,h2⟩:=L9 h';have hv:PP prs (s.put dst Y9):=b7s (op:=op) hP hk
   show guard s dsts j (fun
    | some c=>match bEq c b with
     | true=>step a7 false s dst (λs'=>PP prs s'/\K s') op
     | false=>PP prs (s.put dst Y9)/\K (s.put dst Y9)
    | none=>PP prs (s.put dst Y9)/\K (s.put dst Y9))
   refine h2 _ ?_;cases c with
   | none=>exact⟨hv,h1⟩
   | some c =>
    simp only at h1 ⊢;cases hb:bEq c b with
    | true=>rw[hb] at h1;exact hst h1
    | false=>rw[hb] at h1;exact⟨hv,h1⟩
def a5H (dsts:List (Option Nat)) (prs:List (Nat×Nat)) (x y:Oper):Bool:=match a9K x,a7k dsts y with
 | some i,some k=>prs.contains (i,k) && L7 x.dst (looks dsts y)
 | _,_=>false
theorem a8Q {x:Oper} {i:Nat} (h:a9K x=some i):∃d t ty p a,x=⟨d,.load t (.tmp i),ty,p,a,none⟩:=by
 unfold a9K at h
 split at h
 ·have h:=Option.some.inj h;subst h;exact⟨_,_,_,_,_,rfl⟩
 ·cases h
theorem a31 {dsts:List (Option Nat)} {y:Oper} {k:Nat} (h:a7k dsts y=some k):∃t z ty p a,y=⟨none,.store t (.tmp k) z,ty,p,a,none⟩:=by
 unfold a7k at h
 split at h
 ·split at h
  ·cases h
  ·have h:=Option.some.inj h;subst h;exact⟨_,_,_,_,_,rfl⟩
 ·cases h
theorem a2Q {o:O}:∀ {l:List O} {m j:Nat},j≠m->m7 (B5 l m o) j=m7 l j
 | [],m,j,_=>rfl
 | x::l,0,0,h=>absurd rfl h
 | x::l,0,j+1,_=>rfl
 | x::l,m+1,0,_=>rfl
 | x::l,m+1,j+1,h=>by rw[B5,m7,m7,a2Q (λe=>h (by rw[e]))]
theorem a0q {o:O}:∀ {l:List O} {m:Nat},m7 l m≠.dead->m7 (B5 l m o) m=o
 | [],m,h=>absurd rfl h
 | x::l,0,_=>rfl
 | x::l,m+1,h=>by rw[B5,m7];rw[m7] at h;exact a0q h
theorem a1u {s:S} {K:S->Prop} {t:Nat} {y x:V} (h:F4 a7 s K t y x):∃m b,((∃off cs cs',x=.ptr m off/\m7 s.o m=.box cs/\b=.box cs')\/(∃i z off e rows rows',x=.el m i z off/\m7 s.o m=.row false e rows/\b=.row false e rows'))/\K ⟨s.t,B5 s.o m b⟩/\∀(t':List V) (K':S->Prop),K' ⟨t',B5 s.o m b⟩->F4 a7 ⟨t',s.o⟩ K' t y x:=by
 unfold F4 at h
 split at h <;> try exact h.elim
 ·rename_i k off
  split at h <;> try exact h.elim
  rename_i cs hok
  split at h <;> try exact h.elim
  rename_i l hl
  split at h <;> try exact h.elim
  rename_i hsz
  split at h <;> try exact h.elim
  rename_i cs' hcs;refine⟨k,_,.inl ⟨off,cs,cs',rfl,hok,rfl⟩,h,λt' K' hk=>?_⟩;unfold F4;simp only[hok,hl,hsz,hcs];exact hk
 ·rename_i k i sz off
  split at h <;> try exact h.elim
  rename_i e rows hok
  split at h <;> try exact h.elim
  rename_i hsz
  split at h <;> try exact h.elim
  rename_i row hrow
  split at h <;> try exact h.elim
  rename_i l hl
  split at h <;> try exact h.elim
  rename_i ds hds
  split at h <;> try exact h.elim
  rename_i hlen
  split at h <;> try exact h.elim
  rename_i row' hrow';refine⟨k,_,.inr ⟨i,sz,off,e,rows,_,rfl,hok,rfl⟩,h,λt' K' hk=>?_⟩;unfold F4;simp only[hok,hsz,hrow,hl,hds,hlen,hrow'];exact hk
theorem a70 {os os':List O} {K:V->Prop} {t:Nat} {x:V} (hx:∀j,((∃o,x=.ptr j o)\/∃i z o,x=.el j i z o)->m7 os' j=m7 os j):C1 a7 os K t x=C1 a7 os' K t x:=by
 cases x <;> try rfl
 case ptr k off=>simp only[C1,hx k (.inl ⟨off,rfl⟩)]
 case el k i z off=>simp only[C1,hx k (.inr ⟨i,z,off,rfl⟩)]
theorem a8R {os:List O} {K:V->Prop} {t:Nat} {x:V} (h:C1 a7 os K t x):(∀j o,x=.ptr j o->∃cs,m7 os j=.box cs)/\∀j i z o,x=.el j i z o->∃zz e rows,m7 os j=.row zz e rows:=by
 refine⟨λj o e=>?_,λj i z o e=>?_⟩
 ·subst e;simp only[C1] at h
  split at h <;> first|exact⟨_,by assumption⟩|exact h.elim
 ·subst e;simp only[C1] at h
  split at h <;> first|exact⟨_,_,_,by assumption⟩|exact h.elim
theorem c2j {dsts:List (Option Nat)} {prs:List (Nat×Nat)} {x y:Oper} (h:a5H dsts prs x y=true) {s:S} (hP:PP prs s) {K:S->Prop} (hx:j9 a7 dsts x s λs=>j9 a7 dsts y s K):j9 a7 dsts y s λs=>j9 a7 dsts x s K:=by
 unfold a5H at h
 split at h <;> try cases h
 rename_i i k hi hk;obtain⟨d,t,ty1,p1,a1,rfl⟩:=a8Q hi;obtain⟨t2,z,ty2,p2,a2,rfl⟩:=a31 hk;simp only[c3D,c4A] at h;have hd:=hP _ h.1;have hx':C1 a7 s.o (λv=>j9 a7 dsts ⟨none,.store t2 (.tmp k) z,ty2,p2,a2,none⟩ (s.put d v) K) t (m5 s.t i):=hx;have hlive:=a8R hx';obtain⟨v,h1,h2⟩:=a0H _ hx';have hs:a1F (looks dsts ⟨none,.store t2 (.tmp k) z,ty2,p2,a2,none⟩) s (s.put d v):=K3 (I3 h.2);have hops:=hs.ops (xs:=[.tmp k,z]) λt ht=>by simp[looks,Op.operands];simpa using ht
 have h3:F4 a7 (s.put d v) K t2 ((s.put d v).get z) ((s.put d v).get (.tmp k)):=h1;rw[hops z (by simp),hops (.tmp k) (by simp)] at h3;obtain⟨m,b,hsh,h4,h5⟩:=a1u h3;rw[a3Q] at h4 h5 hsh;have e0:s=⟨s.t,s.o⟩:=rfl;show F4 a7 s (λs=>j9 a7 dsts ⟨d,.load t (.tmp i),ty1,p1,a1,none⟩ s K) t2 (s.get z) (s.get (.tmp k));rw[e0];have h5:=h5 s.t (λs=>j9 a7 dsts ⟨d,.load t (.tmp i),ty1,p1,a1,none⟩ s K) ?_
 ·have e1:(⟨s.t,(s.put d v).o⟩:S)=s:=by rw[a3Q]
  exact e1 ▸ h5
 show C1 a7 (B5 s.o m b) (λv=>K (S.put ⟨s.t,B5 s.o m b⟩ d v)) t (m5 s.t i);rw[<-a70 (os:=s.o) (λj hj=>?_)]
 ·refine h2 _ ?_;rw[<-a0p s.t s.o];exact h4
 ·refine a2Q λe=>?_
  subst e;have hd':F6 (m5 s.t i) (s.get (.tmp k))=true:=hd
  rcases hsh with⟨off,cs,cs',hy,ho,_⟩|⟨i',z',off,e,rows,rows',hy,ho,_⟩
  ·rw[hy] at hd'
   rcases hj with⟨o,hj⟩|⟨i2,z2,o,hj⟩
   ·rw[hj] at hd';simp only[F6] at hd';rw[y9.2 rfl] at hd';cases hd'
   ·obtain⟨zz,e',rows,he⟩:=hlive.2 _ _ _ _ hj;rw[ho] at he;cases he
  ·rw[hy] at hd'
   rcases hj with⟨o,hj⟩|⟨i2,z2,o,hj⟩
   ·obtain⟨cs,he⟩:=hlive.1 _ _ hj;rw[ho] at he;cases he
   ·rw[hj] at hd';simp only[F6] at hd';rw[y9.2 rfl] at hd';cases hd'
theorem c2k {dsts:List (Option Nat)} {prs:List (Nat×Nat)} {x y:Oper} (h:a5H dsts prs x y=true) {s:S} (hP:PP prs s) {K:S->Prop} (hy:j9 a7 dsts y s λs=>j9 a7 dsts x s K):j9 a7 dsts x s λs=>j9 a7 dsts y s K:=by
 unfold a5H at h
 split at h <;> try cases h
 rename_i i k hi hk;obtain⟨d,t,ty1,p1,a1,rfl⟩:=a8Q hi;obtain⟨t2,z,ty2,p2,a2,rfl⟩:=a31 hk;simp only[c3D,c4A] at h;have hd:F6 (m5 s.t i) (s.get (.tmp k))=true:=hP _ h.1;have hy':F4 a7 s (λs=>j9 a7 dsts ⟨d,.load t (.tmp i),ty1,p1,a1,none⟩ s K) t2 (s.get z) (s.get (.tmp k)):=hy;obtain⟨m,b,hsh,h4,h5⟩:=a1u hy';have h4:C1 a7 (B5 s.o m b) (λv=>K (S.put ⟨s.t,B5 s.o m b⟩ d v)) t (m5 s.t i):=h4;have hlive:=a8R h4;rw[<-a70 (os:=s.o) (λj hj=>?_)] at h4
 ·obtain⟨v,h6,h7⟩:=a0H _ h4;show C1 a7 s.o (λv=>j9 a7 dsts ⟨none,.store t2 (.tmp k) z,ty2,p2,a2,none⟩ (s.put d v) K) t (m5 s.t i);refine h7 _ ?_;have hs:a1F (looks dsts ⟨none,.store t2 (.tmp k) z,ty2,p2,a2,none⟩) s (s.put d v):=K3 (I3 h.2);have hops:=hs.ops (xs:=[.tmp k,z]) λt ht=>by simp[looks,Op.operands];simpa using ht
  show F4 a7 (s.put d v) K t2 ((s.put d v).get z) ((s.put d v).get (.tmp k));rw[hops z (by simp),hops (.tmp k) (by simp)];have e1:s.put d v=⟨(s.put d v).t,s.o⟩:=by cases d <;> rfl
  rw[e1];refine h5 _ _ ?_;rw[<-a0p s.t s.o] at h6;exact h6
 ·refine a2Q λe=>?_
  subst e
  rcases hsh with⟨off,cs,cs',hy,ho,hb⟩|⟨i',z',off,e,rows,rows',hy,ho,hb⟩
  ·rw[hy] at hd
   rcases hj with⟨o,hj⟩|⟨i2,z2,o,hj⟩
   ·rw[hj] at hd;simp only[F6] at hd;rw[y9.2 rfl] at hd;cases hd
   ·obtain⟨zz,e',rows,he⟩:=hlive.2 _ _ _ _ hj;rw[a0q (by rw[ho];simp),hb] at he;cases he
  ·rw[hy] at hd
   rcases hj with⟨o,hj⟩|⟨i2,z2,o,hj⟩
   ·obtain⟨cs,he⟩:=hlive.1 _ _ hj;rw[a0q (by rw[ho];simp),hb] at he;cases he
   ·rw[hj] at hd;simp only[F6] at hd;rw[y9.2 rfl] at hd;cases hd
def b2G:Oper->Option Nat
 | ⟨_,.indexAddr _ (.tmp i) _,_,_,_,none⟩=>some i
 | _=>none
theorem a8S {x:Oper} {i:Nat} (h:b2G x=some i):∃d t y ty p a,x=⟨d,.indexAddr t (.tmp i) y,ty,p,a,none⟩:=by
 unfold b2G at h
 split at h
 ·have h:=Option.some.inj h;subst h;exact⟨_,_,_,_,_,_,rfl⟩
 ·cases h
def a5I (dsts:List (Option Nat)) (prs:List (Nat×Nat)) (x y:Oper):Bool:=match b2G x,a7k dsts y with
 | some i,some k=>prs.contains (i,k) && L7 x.dst (looks dsts y)
 | _,_=>false
theorem b7t {os os':List O} {K:V->Prop} {t:Nat} {x y:V} (hx:∀j,x=.own j->m7 os' j=m7 os j):r6 a7 os K t x y=r6 a7 os' K t x y:=by
 have e1:a61 os' x=a61 os x:=by cases x <;> first|rfl|simp only[a61,hx _ rfl]
 have e2:J6 os' x=J6 os x:=by cases x with|d x=>cases x <;> rfl|own j=>simp only[J6,hx j rfl]|_=>rfl
 unfold r6;rw[e1,e2]
theorem b4m {os:List O} {K:V->Prop} {t:Nat} {x y:V} (h:r6 a7 os K t x y):∀j,x=.own j->∃zz e rows,m7 os j=.row zz e rows:=by
 intro j e;subst e;cases ho:m7 os j with
 | row z e rows=>exact⟨_,_,_,rfl⟩
 | _ =>
  exfalso;simp only[r6,W6,bsV,a61,J6,ho] at h
  repeat' split at h
  all_goals first|exact h|skip
theorem c2l {dsts:List (Option Nat)} {prs:List (Nat×Nat)} {x y:Oper} (h:a5I dsts prs x y=true) {s:S} (hP:PP prs s) {K:S->Prop} (hx:j9 a7 dsts x s λs=>j9 a7 dsts y s K):j9 a7 dsts y s λs=>j9 a7 dsts x s K:=by
 unfold a5I at h
 split at h <;> try cases h
 rename_i i k hi hk;obtain⟨d,t,zi,ty1,p1,a1,rfl⟩:=a8S hi;obtain⟨t2,z,ty2,p2,a2,rfl⟩:=a31 hk;simp only[c3D,c4A] at h;have hd:=hP _ h.1;have hx':r6 a7 s.o (λv=>j9 a7 dsts ⟨none,.store t2 (.tmp k) z,ty2,p2,a2,none⟩ (s.put d v) K) t (m5 s.t i) (s.get zi):=hx;have hlive:=b4m hx';obtain⟨v,h1,h2⟩:=a4J _ hx';have hs:a1F (looks dsts ⟨none,.store t2 (.tmp k) z,ty2,p2,a2,none⟩) s (s.put d v):=K3 (I3 h.2);have hops:=hs.ops (xs:=[.tmp k,z]) λt ht=>by simp[looks,Op.operands];simpa using ht
 have h3:F4 a7 (s.put d v) K t2 ((s.put d v).get z) ((s.put d v).get (.tmp k)):=h1;rw[hops z (by simp),hops (.tmp k) (by simp)] at h3;obtain⟨m,b,hsh,h4,h5⟩:=a1u h3;rw[a3Q] at h4 h5 hsh;have e0:s=⟨s.t,s.o⟩:=rfl;show F4 a7 s (λs=>j9 a7 dsts ⟨d,.indexAddr t (.tmp i) zi,ty1,p1,a1,none⟩ s K) t2 (s.get z) (s.get (.tmp k));rw[e0];have h5:=h5 s.t (λs=>j9 a7 dsts ⟨d,.indexAddr t (.tmp i) zi,ty1,p1,a1,none⟩ s K) ?_
 ·have e1:(⟨s.t,(s.put d v).o⟩:S)=s:=by rw[a3Q]
  exact e1 ▸ h5
 show r6 a7 (B5 s.o m b) (λv=>K (S.put ⟨s.t,B5 s.o m b⟩ d v)) t (m5 s.t i) (S.get ⟨s.t,B5 s.o m b⟩ zi);rw[show S.get ⟨s.t,B5 s.o m b⟩ zi=s.get zi by cases zi <;> rfl,<-b7t (os:=s.o) (λj hj=>?_)]
 ·refine h2 _ ?_;rw[<-a0p s.t s.o];exact h4
 ·refine a2Q λe=>?_
  subst e;have hd':F6 (m5 s.t i) (s.get (.tmp k))=true:=hd;obtain⟨zz,e',rows,he⟩:=hlive _ hj
  rcases hsh with⟨off,cs,cs',hy,ho,_⟩|⟨i',z',off,e,rows,rows',hy,ho,_⟩
  ·rw[ho] at he;cases he
  ·rw[hy,hj] at hd';simp only[F6] at hd';rw[y9.2 rfl] at hd';cases hd'
theorem c2m {dsts:List (Option Nat)} {prs:List (Nat×Nat)} {x y:Oper} (h:a5I dsts prs x y=true) {s:S} (hP:PP prs s) {K:S->Prop} (hy:j9 a7 dsts y s λs=>j9 a7 dsts x s K):j9 a7 dsts x s λs=>j9 a7 dsts y s K:=by
 unfold a5I at h
 split at h <;> try cases h
 rename_i i k hi hk;obtain⟨d,t,zi,ty1,p1,a1,rfl⟩:=a8S hi;obtain⟨t2,z,ty2,p2,a2,rfl⟩:=a31 hk;simp only[c3D,c4A] at h;have hd:F6 (m5 s.t i) (s.get (.tmp k))=true:=hP _ h.1;have hy':F4 a7 s (λs=>j9 a7 dsts ⟨d,.indexAddr t (.tmp i) zi,ty1,p1,a1,none⟩ s K) t2 (s.get z) (s.get (.tmp k)):=hy;obtain⟨m,b,hsh,h4,h5⟩:=a1u hy';have h4:r6 a7 (B5 s.o m b) (λv=>K (S.put ⟨s.t,B5 s.o m b⟩ d v)) t (m5 s.t i) (S.get ⟨s.t,B5 s.o m b⟩ zi):=h4;rw[show S.get ⟨s.t,B5 s.o m b⟩ zi=s.get zi by cases zi <;> rfl] at h4;have hlive:=b4m h4;rw[<-b7t (os:=s.o) (λj hj=>?_)] at h4
 ·obtain⟨v,h6,h7⟩:=a4J _ h4;show r6 a7 s.o (λv=>j9 a7 dsts ⟨none,.store t2 (.tmp k) z,ty2,p2,a2,none⟩ (s.put d v) K) t (m5 s.t i) (s.get zi);refine h7 _ ?_;have hs:a1F (looks dsts ⟨none,.store t2 (.tmp k) z,ty2,p2,a2,none⟩) s (s.put d v):=K3 (I3 h.2);have hops:=hs.ops (xs:=[.tmp k,z]) λt ht=>by simp[looks,Op.operands];simpa using ht
  show F4 a7 (s.put d v) K t2 ((s.put d v).get z) ((s.put d v).get (.tmp k));rw[hops z (by simp),hops (.tmp k) (by simp)];have e1:s.put d v=⟨(s.put d v).t,s.o⟩:=by cases d <;> rfl
  rw[e1];refine h5 _ _ ?_;rw[<-a0p s.t s.o] at h6;exact h6
 ·refine a2Q λe=>?_
  subst e;obtain⟨zz,e',rows,he⟩:=hlive _ hj
  rcases hsh with⟨off,cs,cs',hy,ho,hb⟩|⟨i',z',off,e,rows,rows',hy,ho,hb⟩
  ·rw[a0q (by rw[ho];simp),hb] at he;cases he
  ·rw[hy,hj] at hd;simp only[F6] at hd;rw[y9.2 rfl] at hd;cases hd
def a4f (dsts:List (Option Nat)) (prs:List (Nat×Nat)) (x y:Oper):Bool:=b4i dsts x y || a5H dsts prs x y || a5H dsts prs y x || a5I dsts prs x y || a5I dsts prs y x
theorem c00 {dsts:List (Option Nat)} {prs:List (Nat×Nat)} {x y:Oper} (h:a4f dsts prs x y=true) {s:S} (hP:PP prs s) {K:S->Prop} (hx:j9 a7 dsts x s λs=>j9 a7 dsts y s K):j9 a7 dsts y s λs=>j9 a7 dsts x s K:=by
 simp only[a4f,c45] at h
 rcases h with (((h|h)|h)|h)|h
 ·exact c0y h hx
 ·exact c2j h hP hx
 ·exact c2k h hP hx
 ·exact c2l h hP hx
 ·exact c2m h hP hx
theorem U0 {dsts:List (Option Nat)} {o:Oper} {s:S} {K K':S->Prop} (hK:∀s,K s->K' s) (h:j9 a7 dsts o s K):j9 a7 dsts o s K':=by
 obtain⟨dst,op,type,pos,after,gd⟩:=o;cases gd with
 | none=>exact a0b hK h
 | some jb =>
  obtain⟨j,b⟩:=jb
  have h':guard s dsts j (fun
   | some c=>match bEq c b with
    | true=>step a7 false s dst K op
    | false=>K (s.put dst Y9)
   | none=>K (s.put dst Y9)):=h
  obtain⟨c,h1,h2⟩:=L9 h'
  show guard s dsts j (fun
   | some c=>match bEq c b with
    | true=>step a7 false s dst K' op
    | false=>K' (s.put dst Y9)
   | none=>K' (s.put dst Y9))
  refine h2 _ ?_;cases c with
  | none=>exact hK _ h1
  | some c =>
   simp only at h1 ⊢;cases hb:bEq c b with
   | true=>rw[hb] at h1;exact a0b hK h1
   | false=>rw[hb] at h1;exact hK _ h1
def a71 (all:List Oper) (i:Nat):Prop:=a6n all i=false/\a2e all i=none
theorem a1H {dsts:List (Option Nat)} {all:List Oper} {i:Nat} (h:a71 all i) (o:Oper) (s:S) (K:S->Prop):L8 a7 dsts all i o s K=j9 a7 dsts o s K:=by
 have hst:∀(s:S) (dst:Option Nat) (K:S->Prop) (op:Op),stepD a7 all i s dst K op=step a7 false s dst K op:=λs dst K op=>by
  unfold stepD
  split
  ·split
   ·rw[h.1,h.2]
   ·rfl
  ·rfl
 obtain⟨dst,op,type,pos,after,gd⟩:=o;cases gd with
 | none=>exact hst s dst K op
 | some jb =>
  obtain⟨j,b⟩:=jb;unfold L8;simp only[hst];rfl
def a09 (dsts:List (Option Nat)) (all:List Oper):List Nat->S->(S->Prop)->Prop
 | [],s,K=>K s
 | i::l,s,K=>match all[i]? with
  | some o=>L8 a7 dsts all i o s (λs=>a09 dsts all l s K)
  | none=>a09 dsts all l s K
theorem a4O {dsts:List (Option Nat)} {all:List Oper}:∀(l:List Oper) (i:Nat) (s:S) (K:S->Prop),all.drop i=l->a63 a7 dsts all i l s K->a09 dsts all (List.range' i l.length) s K
 | [],i,s,K,_,h=>h
 | o::l,i,s,K,hl,h=>by
  have hi:i<all.length:=by
   rcases c4q i all.length with h1|h1
   ·exact h1
   ·rw[c4m h1] at hl;cases hl
  rw[c3U hi] at hl;injection hl with h1 h2;rw[c3C,List.range'_succ,a09,c39 hi,h1];simp only;rw[a63] at h;refine execD_mono (λs hs=>?_) h;exact a4O l (i+1) s K h2 hs
where
 execD_mono {dsts:List (Option Nat)} {all:List Oper} {i:Nat} {o:Oper} {s:S} {K K':S->Prop} (hK:∀s,K s->K' s) (h:L8 a7 dsts all i o s K):L8 a7 dsts all i o s K':=by
  have hst:∀ {s:S} {dst:Option Nat} {op:Op},stepD a7 all i s dst K op->stepD a7 all i s dst K' op:=λ{s dst op} h=>by
   unfold stepD at h ⊢
   split at h
   ·split at h
    ·split at h
     ·exact Z9.mono h λv o' ks hk=>hK _ hk
     ·split at h
      ·exact a2a.mono h λv o' hk=>⟨hk.1,hK _ hk.2⟩
      ·exact a0b hK h
    ·exact a0b hK h
   ·exact a0b hK h
  obtain⟨dst,op,type,pos,after,gd⟩:=o;cases gd with
  | none=>exact hst h
  | some jb =>
   obtain⟨j,b⟩:=jb
   have h':guard s dsts j (fun
    | some c=>match bEq c b with
     | true=>stepD a7 all i s dst K op
     | false=>K (s.put dst Y9)
    | none=>K (s.put dst Y9)):=h
   obtain⟨c,h1,h2⟩:=L9 h'
   show guard s dsts j (fun
    | some c=>match bEq c b with
     | true=>stepD a7 all i s dst K' op
     | false=>K' (s.put dst Y9)
    | none=>K' (s.put dst Y9))
   refine h2 _ ?_;cases c with
   | none=>exact hK _ h1
   | some c =>
    simp only at h1 ⊢;cases hb:bEq c b with
    | true=>rw[hb] at h1;exact hst h1
    | false=>rw[hb] at h1;exact hK _ h1
theorem b5D {ks:List Nat}:∀ {t:List V} {i j:Nat},F6 (m5 t i) (m5 t j)=true->F6 (m5 (A7 ks t) i) (m5 (A7 ks t) j)=true:=by
 induction ks with
 | nil=>intro t i j h;exact h
 | cons k ks ih =>
  intro t i j h;rw[A7];refine ih ?_;rw[a1G,a1G];exact b1k (kk:=some k) h
theorem PP.called {prs:List (Nat×Nat)} {s:S} (h:PP prs s) {ks:List Nat} {d:Option Nat} {v:V} {o':List O} (hf:b7q prs d):PP prs (S.put ⟨A7 ks s.t,o'⟩ d v):=λp hp=>by
 have key:∀i,d≠some i->m5 (S.put ⟨A7 ks s.t,o'⟩ d v).t i=m5 (A7 ks s.t) i:=λi hi=>by
  cases d with
  | none=>rfl
  | some x =>
   show m5 (G5 (A7 ks s.t) x v) i=_;rw[a1E (λe=>hi (by rw[e]))]
 rw[key _ (hf p hp).1,key _ (hf p hp).2];exact b5D (h p hp)
theorem b2H {dsts:List (Option Nat)} {prs:List (Nat×Nat)} {all:List Oper} {i:Nat} {o:Oper} {s:S} {K:S->Prop} (hP:PP prs s) (hf:b7q prs o.dst) (h:L8 a7 dsts all i o s K):L8 a7 dsts all i o s (λs'=>PP prs s'/\K s'):=by
 obtain⟨dst,op,type,pos,after,gd⟩:=o
 have hst:∀ {K:S->Prop},stepD a7 all i s dst K op->stepD a7 all i s dst (λs'=>PP prs s'/\K s') op:=λ{K} h=>by
  have h0:∀ {K:S->Prop} {op:Op},step a7 false s dst K op->step a7 false s dst (λs'=>PP prs s'/\K s') op:=λ{K op} h=>a0b (λs' ⟨⟨kk,v,o',e⟩,hk⟩=>⟨by rw[e];exact hP.next hf,hk⟩) (a7y h)
  unfold stepD at h ⊢
  split at h
  ·split at h
   ·split at h
    ·exact Z9.mono h λv o' ks hk=>⟨hP.called hf,hk⟩
    ·split at h
     ·exact a2a.mono h λv o' hk=>⟨hk.1,hP.called (ks:=[]) hf,hk.2⟩
     ·exact h0 h
   ·exact h0 h
  ·exact h0 h
 cases gd with
 | none=>exact hst h
 | some jb =>
  obtain⟨j,b⟩:=jb
  have h':guard s dsts j (fun
   | some c=>match bEq c b with
    | true=>stepD a7 all i s dst K op
    | false=>K (s.put dst Y9)
   | none=>K (s.put dst Y9)):=h
  obtain⟨c,h1,h2⟩:=L9 h';have hv:PP prs (s.put dst Y9):=hP.next (kk:=none) (o':=s.o) hf
  show guard s dsts j (fun
   | some c=>match bEq c b with
    | true=>stepD a7 all i s dst (λs'=>PP prs s'/\K s') op
    | false=>PP prs (s.put dst Y9)/\K (s.put dst Y9)
   | none=>PP prs (s.put dst Y9)/\K (s.put dst Y9))
  refine h2 _ ?_;cases c with
  | none=>exact⟨hv,h1⟩
  | some c =>
   simp only at h1 ⊢;cases hb:bEq c b with
   | true=>rw[hb] at h1;exact hst h1
   | false=>rw[hb] at h1;exact⟨hv,h1⟩
theorem b1l {dsts:List (Option Nat)} {prs:List (Nat×Nat)} {all:List Oper} {i:Nat} {o:Oper} {s:S} {K:S->Prop} (hP:PP prs s) (hk:a7z prs o) (h:L8 a7 dsts all i o s K):L8 a7 dsts all i o s (λs'=>PP prs s'/\K s'):=by
 cases ha:N1 o.op with
 | none=>exact b2H hP (a4N hk ha) h
 | some j =>
  have e:∀K:S->Prop,L8 a7 dsts all i o s K=j9 a7 dsts o s K:=λK=>by
   obtain⟨dst,op,type,pos,after,gd⟩:=o;simp only at ha
   have e1:∀(s:S) (K:S->Prop),stepD a7 all i s dst K op=step a7 false s dst K op:=λs K=>by
    unfold N1 at ha
    split at ha <;> first|rfl|cases ha
   cases gd with
   | none=>exact e1 s K
   | some jb =>
    obtain⟨j,b⟩:=jb;unfold L8;simp only[e1];rfl
  rw[e] at h ⊢;exact a2P hP hk h
theorem a5J {dsts:List (Option Nat)} {prs:List (Nat×Nat)} {all:List Oper} {y:Nat} {oy:Oper} (hoy:all[y]?=some oy) (hty:a71 all y):∀ {pre post:List Nat} {s:S} {K:S->Prop},(∀x∈pre,a71 all x/\∀ox,all[x]?=some ox->a4f dsts prs ox oy=true/\a7z prs ox)->PP prs s->a09 dsts all (pre++y::post) s K->a09 dsts all (y::(pre++post)) s K
 | [],post,s,K,_,_,h=>h
 | x::pre,post,s,K,ha,hP,h=>by
  rw[c4r,a09] at h;obtain⟨hx,hxx⟩:=ha x (c38 ..);cases hox:all[x]? with
  | none =>
   rw[hox] at h;have h1:=a5J hoy hty (λz hz=>ha z (c36 _ hz)) hP h;rw[a09,hoy] at h1 ⊢;simp only at h1 ⊢;refine a4O.execD_mono (λs hs=>?_) h1;rw[c4r,a09,hox];exact hs
  | some ox =>
   rw[hox] at h;simp only at h;obtain⟨hap,hf⟩:=hxx ox hox;rw[a1H hx] at h
   have h2:j9 a7 dsts ox s λs=>j9 a7 dsts oy s λs=>a09 dsts all (pre++post) s K:=U0 (λs hs=>by
    have:=a5J hoy hty (λz hz=>ha z (c36 _ hz)) hs.1 hs.2;rw[a09,hoy] at this;simp only at this;rw[a1H hty] at this
    exact this) (a2P hP hf h)
   rw[a09,hoy];simp only;rw[a1H hty];have h3:=c00 hap hP h2;refine U0 (λs hs=>?_) h3;rw[c4r,a09,hox];simp only;rw[a1H hx];exact hs
theorem getD_none {l:List (List Nat)} {i:Nat} (h:l[i]?=none):l.getD i []=[]:=by rw[c3T,h];rfl
theorem a4g {dsts:List (Option Nat)} {an:List (List Nat)} {i:Nat} {oi:Oper}:∀ {l:List Oper} {j:Nat} {r:List Nat},Q7 dsts an i oi j l=some r->∀(m:Nat) (o:Oper),l[m]?=some o->j+m≠i ->
  (j+m<i->(an.getD i []).contains (j+m)=true\/((L7 o.dst (looks dsts oi) && L7 oi.dst (looks dsts o) && (o.dst.isNone || o.dst != oi.dst))=true/\∃ks,a1c dsts o=some ks/\∀k∈ks,k∈r))/\(i<j+m->(an.getD (j+m) []).contains i=true)
 | [],j,r,h,m,o,hm,_=>by simp at hm
 | x::l,j,r,h,m,o,hm,hne=>by
  rw[Q7] at h;cases m with
  | zero =>
   simp at hm
   subst hm;rw[c4F] at hne ⊢;rw[show Nat.beq j i=false by rw[<-c5L,Nat.beq_eq];exact hne] at h;simp only at h
   split at h
   ·rename_i hlt;rw[c42] at hlt;refine⟨λ_=>?_,λh'=>by omega⟩
    split at h
    ·exact .inl (by assumption)
    ·split at h
     ·rename_i hn
      split at h
      ·rename_i ks hks
       split at h
       ·rename_i ms hms;have h:=Option.some.inj h;exact .inr ⟨hn,ks,hks,λk hk=>by rw[<-h];exact c48 _ hk⟩
       ·cases h
      ·cases h
     ·cases h
   ·rename_i hlt;have hlt:¬j<i:=λh=>by rw[<-c42] at h;rw[h] at hlt;cases hlt
    refine⟨λh'=>absurd h' hlt,λ_=>?_⟩
    split at h
    ·assumption
    ·cases h
  | succ m =>
   have hm:l[m]?=some o:=by simpa using hm
   have e:j+(m+1)=j+1+m:=by omega
   rw[e] at hne ⊢
   have fin:∀ {r':List Nat},Q7 dsts an i oi (j+1) l=some r'->(∀k∈r',k∈r)->_:=λ{r'} h' hr=>by
    obtain⟨h1,h2⟩:=a4g h' m o hm hne;exact(⟨λhl=>(h1 hl).imp id λ⟨h3,ks,h4,h5⟩=>⟨h3,ks,h4,λk hk=>hr k (h5 k hk)⟩,h2⟩:(j+1+m<i->(an.getD i []).contains (j+1+m)=true\/((L7 o.dst (looks dsts oi) && L7 oi.dst (looks dsts o) && (o.dst.isNone || o.dst != oi.dst))=true/\∃ks,a1c dsts o=some ks/\∀k∈ks,k∈r))/\(i<j+1+m->(an.getD (j+1+m) []).contains i=true))
   split at h
   ·exact fin h λ_ hk=>hk
   ·split at h
    ·split at h
     ·exact fin h λ_ hk=>hk
     ·split at h
      ·split at h
       ·split at h
        ·rename_i ms hms;have h:=Option.some.inj h;exact fin hms λk hk=>by rw[<-h];exact c4U _ hk
        ·cases h
       ·cases h
      ·cases h
    ·split at h
     ·exact fin h λ_ hk=>hk
     ·cases h
theorem a32 {all:List Oper} {i:Nat} {l:List Nat} (h:a2e all i=some l):∃dst x args ts ty p a,all[i]?=some ⟨dst,.call ⟨.value x,args,ts⟩,ty,p,a,none⟩/\Q7 (l8 all) (H1 all []) i ⟨dst,.call ⟨.value x,args,ts⟩,ty,p,a,none⟩ 0 all=some l:=by
 unfold a2e at h
 split at h
 ·rename_i oi hoi;have h1:=a1B hoi
  split at h
  ·rename_i hc;rw[c3D] at hc;obtain⟨dst,op,ty,p,a,g⟩:=oi;obtain⟨hc1,hc2⟩:=hc;simp only at hc1 hc2;obtain rfl:g=none:=Option.isNone_iff_eq_none.1 hc2;unfold a69 at hc1
   split at hc1
   ·exact⟨_,_,_,_,_,_,_,h1,h⟩
   ·cases hc1
  ·cases h
 ·cases h
theorem b1m:∀ {l:List Oper} {o:Oper},o∈l->o.dst∈l8 l
 | [],o,h=>by simp at h
 | x::l,o,h=>by
  rw[l8]
  rcases c3F.1 h with rfl|h
  ·exact c38 ..
  ·exact c36 _ (b1m h)
theorem a9Q:∀ {l:List (Option Nat)} {i:Nat},some i∈l->inD l i=true
 | [],i,h=>by simp at h
 | none::l,i,h=>by rw[inD];exact a9Q (by simpa using h)
 | some x::l,i,h=>by
  rw[inD]
  split
  ·rfl
  ·rename_i hx
   rcases c3F.1 h with h|h
   ·have h:=Option.some.inj h;rw[y9.2 h.symm] at hx;cases hx
   ·exact a9Q h
theorem Y0 {dsts:List (Option Nat)} {an:List (List Nat)} {i:Nat} {oi:Oper}:∀ {l:List Oper} {j:Nat} {r:List Nat},Q7 dsts an i oi j l=some r->∀k∈r,inD dsts k=false
 | [],j,r,h,k,hk=>by rw[Q7] at h;have h:=Option.some.inj h;subst h;simp at hk
 | x::l,j,r,h,k,hk=>by
  rw[Q7] at h
  split at h
  ·exact Y0 h k hk
  ·split at h
   ·split at h
    ·exact Y0 h k hk
    ·split at h
     ·split at h
      ·rename_i ks hks
       split at h
       ·rename_i ms hms;have h:=Option.some.inj h;subst h
        rcases c4b.1 hk with hk|hk
        ·unfold a1c at hks
         split at hks
         ·split at hks
          ·cases hks
          ·rename_i hin;have hks:=Option.some.inj hks;subst hks;rw[c5x.1 hk];exact hin
         ·split at hks
          ·have hks:=Option.some.inj hks;subst hks
           simp at hk
          ·cases hks
        ·exact Y0 hms k hk
       ·cases h
      ·cases h
     ·cases h
   ·split at h
    ·exact Y0 h k hk
    ·cases h
theorem c2n {all:List Oper} {prs:List (Nat×Nat)} {y:Nat} {oy ox:Oper} {l ks:List Nat} (hoy:all[y]?=some oy) (hty:a6n all y=false) (hby:a2e all y=some l) (hn:(L7 ox.dst (looks (l8 all) oy) && L7 oy.dst (looks (l8 all) ox) && (ox.dst.isNone || ox.dst != oy.dst))=true) (hk:a1c (l8 all) ox=some ks) (hkl:∀k∈ks,k∈l) (hap:a4f (l8 all) prs ox oy=true) (hxm:ox∈all)
  {s:S} (hP:PP prs s) {R:S->Prop} (h:j9 a7 (l8 all) ox s λs=>L8 a7 (l8 all) all y oy s R):L8 a7 (l8 all) all y oy s λs=>j9 a7 (l8 all) ox s R:=by
 obtain⟨dst,x,args,ts,ty,p,a,hoy',_⟩:=a32 hby
 rw[hoy] at hoy';have hoy':=Option.some.inj hoy';subst hoy';simp only[c3D] at hn;obtain⟨⟨hn1,hn2⟩,hn3⟩:=hn
 have pt:∃v,L8 a7 (l8 all) all y ⟨dst,.call ⟨.value x,args,ts⟩,ty,p,a,none⟩ (s.put ox.dst v) R/\∀(s':S) (K':S->Prop),b1i (looks (l8 all) ox) s s'->a57 l s.t s.o s'.o->K' (s'.put ox.dst v)->j9 a7 (l8 all) ox s' K':=by
  unfold a1c at hk
  split at hk
  ·rename_i d t k ty' p' a'
   split at hk
   ·cases hk
   have hk:=Option.some.inj hk;subst hk;obtain⟨v,h1,h2⟩:=a0H _ (show C1 a7 s.o (λv=>L8 a7 (l8 all) all y ⟨dst,.call ⟨.value x,args,ts⟩,ty,p,a,none⟩ (s.put d v) R) t (m5 s.t k) from h);refine⟨v,h1,λs' K' hs hkp hk'=>?_⟩;show C1 a7 s'.o (λv=>K' (s'.put d v)) t (m5 s'.t k);have hsl:m5 s'.t k=m5 s.t k:=hs k (by simp[looks,Op.operands,tmps]);rw[hsl,<-a70 (os:=s.o) (λj hj=>?_)]
   ·exact h2 _ hk'
   ·exact hkp k (hkl k (by simp)) j (by rcases hj with⟨o,e⟩|⟨i,z,o,e⟩ <;> rw[e] <;> rfl)
  ·split at hk
   ·rename_i hb;obtain⟨v,h1,h2⟩:=a7s hb h;exact⟨v,h1,λs' K' hs _ hk'=>h2 s' K' hs hk'⟩
   ·cases hk
 obtain⟨v,h1,h2⟩:=pt;have hsT:b1i (looks (l8 all) ⟨dst,.call ⟨.value x,args,ts⟩,ty,p,a,none⟩) s (s.put ox.dst v):=a5G hn1
 have hops:∀z∈(Op.call ⟨.value x,args,ts⟩).operands.toList,(s.put ox.dst v).get z=s.get z:=λz hz=>by
  cases z with
  | tmp i =>
   show m5 (s.put ox.dst v).t i=m5 s.t i;exact hsT i (by unfold looks;exact c4U _ (a7o hz))
  | _=>rfl
 have hget:(s.put ox.dst v).get x=s.get x:=hops x (by simp[Op.operands,Call.operands])
 have hgets:∀l:List Operand,(∀z∈l,z∈(Op.call ⟨.value x,args,ts⟩).operands.toList)->J7 (s.put ox.dst v).get l=J7 s.get l:=by
  intro l
  induction l with
  | nil=>intro _;rfl
  | cons z l ih=>intro hz;rw[J7,J7,hops z (hz z (c38 ..)),ih λz' h'=>hz z' (c36 _ h')]
 have hargs:J7 (s.put ox.dst v).get args.toList=J7 s.get args.toList:=hgets _ λz hz=>by
  have hz:z∈args:=by simpa using hz
  simp[Op.operands,Call.operands,hz]
 have ho:(s.put ox.dst v).o=s.o:=a3Q ..
 have hturn:a4H (a8E all y) (s.put ox.dst v) x args.toList=a4H (a8E all y) s x args.toList:=by
  unfold a4H;rw[hget,hargs,ho]
 have e0:∀(s:S) (R:S->Prop),L8 a7 (l8 all) all y ⟨dst,.call ⟨.value x,args,ts⟩,ty,p,a,none⟩ s R=match a4H (a8E all y) s x args.toList with
   | some (f,vs)=>a7.callx f vs l s (λv s'=>R (s'.put dst v))
   | none=>j9 a7 (l8 all) ⟨dst,.call ⟨.value x,args,ts⟩,ty,p,a,none⟩ s R:=λs R=>by
  show stepD a7 all y s dst R (.call ⟨.value x,args,ts⟩)=_;rw[stepD];cases a4H (a8E all y) s x args.toList with
  | none=>rfl
  | some fv=>obtain⟨f,vs⟩:=fv;simp only[hty,hby]
 rw[e0] at h1 ⊢;rw[hturn] at h1;cases hT:a4H (a8E all y) s x args.toList with
 | none =>
  rw[hT] at h1;simp only at h1 ⊢;refine c00 hap hP ?_;exact h2 s (λs=>j9 a7 (l8 all) ⟨dst,.call ⟨.value x,args,ts⟩,ty,p,a,none⟩ s R) (λ_ _=>rfl) (λ_ _ _ _=>rfl) h1
 | some fv =>
  obtain⟨f,vs⟩:=fv;rw[hT] at h1;simp only at h1 ⊢;have h1:a2a f vs (s.put ox.dst v).o λu o'=>a57 l (s.put ox.dst v).t (s.put ox.dst v).o o'/\R (S.put ⟨(s.put ox.dst v).t,o'⟩ dst u):=h1
  rw[ho] at h1;refine a2a.mono h1 λu o' ⟨hkp,hR⟩=>?_
  have hkp':a57 l s.t s.o o':=λi hi k hik=>by
   by_cases hd:ox.dst=some i
   ·-- a loaded variable's slot is not filled here
    exfalso
    obtain⟨_,_,_,_,_,_,_,_,hbl⟩:=a32 hby
    have h5:=Y0 hbl i hi;rw[a9Q (by rw[<-hd];exact b1m hxm)] at h5;cases h5
   ·refine hkp i hi k ?_
    rw[show m5 (s.put ox.dst v).t i=m5 s.t i by
     cases hxd:ox.dst with
     | none=>rfl
     | some d=>exact a1E λe=>hd (by rw[hxd,e])]
    exact hik
  refine⟨hkp',h2 _ R (λt ht=>?_) (by rw[a3Q];exact hkp') ?_⟩
  ·cases hd:dst with
   | none=>rfl
   | some d=>exact a1E λe=>by subst e;exact I3 hn2 _ hd ht
  ·have hcm:(S.put ⟨s.t,o'⟩ dst u).put ox.dst v=S.put ⟨(s.put ox.dst v).t,o'⟩ dst u:=by
    rw[a2M (λz hz hz'=>by
     rw[c45] at hn3
     rcases hn3 with h|h
     ·rw[hz'] at h;cases h
     ·rw[hz',hz] at h;simp at h)]
    cases ox.dst <;> rfl
   rw[hcm];exact hR
theorem a4h {prs:List (Nat×Nat)} {all:List Oper} {y:Nat} {oy:Oper} {l:List Nat} (hoy:all[y]?=some oy) (hty:a6n all y=false) (hby:a2e all y=some l):∀ {pre post:List Nat} {s:S} {K:S->Prop},(∀x∈pre,a71 all x/\∀ox,all[x]?=some ox->a4f (l8 all) prs ox oy=true/\a7z prs ox/\(L7 ox.dst (looks (l8 all) oy) && L7 oy.dst (looks (l8 all) ox) && (ox.dst.isNone || ox.dst != oy.dst))=true/\∃ks,a1c (l8 all) ox=some ks/\∀k∈ks,k∈l)->PP prs s->a09 (l8 all) all (pre++y::post) s K->a09 (l8 all) all (y::(pre++post)) s K
 | [],post,s,K,_,_,h=>h
 | x::pre,post,s,K,ha,hP,h=>by
  rw[c4r,a09] at h;obtain⟨hx,hxx⟩:=ha x (c38 ..);cases hox:all[x]? with
  | none =>
   rw[hox] at h;have h1:=a4h hoy hty hby (λz hz=>ha z (c36 _ hz)) hP h;rw[a09,hoy] at h1 ⊢;simp only at h1 ⊢;refine a4O.execD_mono (λs hs=>?_) h1;rw[c4r,a09,hox];exact hs
  | some ox =>
   rw[hox] at h;simp only at h;obtain⟨hap,hf,hn,ks,hks,hkl⟩:=hxx ox hox;rw[a1H hx] at h
   have h2:j9 a7 (l8 all) ox s λs=>L8 a7 (l8 all) all y oy s λs=>a09 (l8 all) all (pre++post) s K:=U0 (λs hs=>by
    have:=a4h hoy hty hby (λz hz=>ha z (c36 _ hz)) hs.1 hs.2;rw[a09,hoy] at this
    exact this) (a2P hP hf h)
   rw[a09,hoy];simp only;have h3:=c2n (prs:=prs) hoy hty hby hn hks hkl hap (c3J hox) hP h2;refine a4O.execD_mono (λs hs=>?_) h3;rw[c4r,a09,hox];simp only;rw[a1H hx];exact hs
def a72 (dsts:List (Option Nat)) (prs:List (Nat×Nat)) (ops:List Oper) (an:List (List Nat)) (j i:Nat):Bool:=(an.getD i []).contains j || match ops[j]?,ops[i]? with|some x,some y=>a4f dsts prs x y|_,_=>true
def a73 (ops:Array Oper):Bool :=
 let l:=ops.toList
 let an:=H1 l []
 let d:=l8 l
 l.all (b3Y (Q6 l)) && (List.range l.length).all λi=>(an.getD i []).all (λj=>Nat.blt j i) && (List.range i).all λj=>a72 d (Q6 l) l an j i
theorem a74:∀(l:List Oper) (acc:List (List Nat)) (i:Nat),i<acc.length->(H1 l acc)[i]?=acc[i]?
 | [],acc,i,_=>rfl
 | o::l,acc,i,h=>by rw[H1,a74 l _ i (by simp;omega),c3S h]
theorem b4n:∀(l:List Oper) (acc:List (List Nat)) (i:Nat) (o:Oper),l[i]?=some o->(H1 l acc)[acc.length+i]?=some ((a2d o).flatMap λj=>j::(if j<acc.length+i then (H1 l acc).getD j [] else []))
 | [],acc,i,o,h=>by simp at h
 | x::l,acc,0,o,h=>by
  simp at h
  subst h;rw[H1,c4F,a74 l _ _ (by simp),c3Q (c3A _)];simp only[c5g,List.getElem?_cons_zero,Option.some.injEq]
  congr 1
  funext j
  congr 1
  split
  ·rename_i hj;rw[c3T,c3T,a74 l _ j (by simp;omega),c3S hj]
  ·rename_i hj;rw[c3T,c4u (by omega)];rfl
 | x::l,acc,i+1,o,h=>by
  have:=b4n l (acc++[(a2d x).flatMap λj=>j::acc.getD j []]) i o (by simpa using h);rw[H1];have e:(acc++[(a2d x).flatMap λj=>j::acc.getD j []]).length+i=acc.length+(i+1):=by simp;omega
  rw[e] at this;exact this
section
variable {I0:Nat->Nat->Prop} {X:Nat->Prop} {w0:W0} {s:S} {a:Act} {w:World}
theorem c2o {ro:Option Nat} {n:Nat} {ops:Array Oper} {Q:Exit->Act->World->Prop} {o:Oper} (hop:Z0 Tryd.prog o.op=true) (h:Z4 I0 X w0 s a w) {K1:S->Prop} {ix:Nat} (hx:L8 a7 (l8 ops.toList) ops.toList ix o s K1) {Kw:Act->World->Prop} (hKw:∀s' a' w',Z4 I0 X w0 s' a' w'->K1 s'->Kw a' w'):if Region.wanted o (yielded ops a.tmps) then o.wpIn (FW ro) n Tryd.prog a w Kw Q else (∀f,o.about Tryd.prog w a.eval=some f->(FW ro).fn f)/\Kw (a.put o.dst undef) w:=by
 obtain⟨dst,op,type,pos,after,gd⟩:=o
 have hstep:stepD a7 ops.toList ix s dst K1 op->Oper.wpIn (FW ro) n Tryd.prog ⟨dst,op,type,pos,after,gd⟩ a w Kw Q:=λhs=>by
  obtain⟨I,g,h⟩:=h;have h0:step a7 false s dst K1 op->Oper.wpIn (FW ro) n Tryd.prog ⟨dst,op,type,pos,after,gd⟩ a w Kw Q:=λhs=>b1c (λc hc=>a2K hop c hc) (Oper.wp_mono (λa' w' ⟨s',h1,h2⟩=>hKw s' a' w' h1 h2) (b3X h (o:=⟨dst,op,type,pos,after,gd⟩) (Q:=Q) hop hs))
  unfold stepD at hs
  split at hs
  ·rename_i x args ts
   split at hs
   ·rename_i f vs hf
    split at hs
    ·unfold a4H at hf
     split at hf <;> try cases hf
     rename_i f' ks hfn
     replace hf:some (f',a1X (J7 s.get args.toList) (a6K ks))=some (f,vs):=by
      split at hf
      ·exact hf
      ·split at hf
       ·cases hf
       ·exact hf
     injection hf with hf;injection hf with e1 e2;subst e1;obtain⟨cs,hc1,hc2⟩:=b7d h hfn;refine b1c (λc hc=>a2K hop c hc) (Oper.wp_mono (λa' w' ⟨s',h1,h2⟩=>hKw s' a' w' h1 h2) (a7j h (o:=⟨dst,.call ⟨.value x,args,ts⟩,type,pos,after,gd⟩) (λhf=>a0L (cs:=cs) rfl hc1 hf) ?_ hs));rw[<-e2,W8];exact(h.gets args.toList).append hc2
    ·split at hs
     ·unfold a4H at hf
      split at hf <;> try cases hf
      rename_i f' ks hfn
      replace hf:some (f',a1X (J7 s.get args.toList) (a6K ks))=some (f,vs):=by
       split at hf
       ·exact hf
       ·split at hf
        ·cases hf
        ·exact hf
      injection hf with hf;injection hf with e1 e2;subst e1;obtain⟨cs,hc1,hc2⟩:=b7d h hfn;refine b1c (λc hc=>a2K hop c hc) (Oper.wp_mono (λa' w' ⟨s',h1,h2⟩=>hKw s' a' w' h1 h2) (b7b h (o:=⟨dst,.call ⟨.value x,args,ts⟩,type,pos,after,gd⟩) (λhf=>a0L (cs:=cs) rfl hc1 hf) ?_ hs));rw[<-e2,W8];exact(h.gets args.toList).append hc2
     ·exact h0 hs
   ·exact h0 hs
  ·exact h0 hs
 have hskip:K1 (s.put dst Y9)->Kw (a.put dst undef) w:=λhs=>by
  obtain⟨I,g,h⟩:=h;exact hKw _ _ w ⟨I,g,h.put (x:=Y9) (.tu [] [] rfl (λi u c hu _=>by simp at hu)) dst⟩ hs
 cases gd with
 | none =>
  rw[c3E (by rfl)];exact hstep hx
 | some jb =>
  obtain⟨j,b⟩:=jb
  have hx':guard s (l8 ops.toList) j (fun
   | some c=>match bEq c b with
    | true=>stepD a7 ops.toList ix s dst K1 op
    | false=>K1 (s.put dst Y9)
   | none=>K1 (s.put dst Y9)):=hx
  obtain⟨c,hc,hK⟩:=a7m h hx';have hw:Region.wanted ⟨dst,op,type,pos,after,some (j,b)⟩ (yielded ops a.tmps)=(c == some b):=by simp[Region.wanted,hc]
  rw[hw];cases c with
  | none =>
   rw[c3G (by simp)];exact⟨λ_ _=>trivial,hskip hK⟩
  | some c =>
   simp only at hK
   split at hK
   ·rename_i hb;rw[a08] at hb;rw[c3E (by simpa using hb)];exact hstep hK
   ·rename_i hb;rw[a08] at hb;rw[c3G (by simpa using hb)];exact⟨λ_ _=>trivial,hskip hK⟩
theorem b4o {ops:Array Oper} {i:Nat} {o:Oper} (h:ops[i]?=some o) (hlt:∀j∈(H1 ops.toList []).getD i [],j<i):(H1 ops.toList []).getD i []=(a2d o).flatMap λj=>j::(H1 ops.toList []).getD j []:=by
 have h1:=b4n ops.toList [] i o (by simpa using h);simp only[c3H,c4z] at h1
 have h2:(H1 ops.toList []).getD i []=(a2d o).flatMap λj=>j::(if j<i then (H1 ops.toList []).getD j [] else []):=by
  rw[c3T,h1];rfl
 have h3:∀j∈a2d o,j<i:=λj hj=>hlt j (by rw[h2];exact c4a.2 ⟨j,hj,c38 ..⟩)
 rw[h2,List.flatMap_def,List.flatMap_def]
 congr 1
 exact c4s λj hj=>by rw[c3E (h3 j hj)]
theorem a75 {o:Oper} {e:Edge} (he:e∈o.after) (hb:Region.binds .any e=true):e.on∈a2d o:=c4o.2 ⟨e,c5b.2 ⟨by simpa using he,hb⟩,rfl⟩
theorem b9v {ro:Option Nat} {n:Nat} {ops:Array Oper} {Q:Exit->Act->World->Prop} {K:S->Prop} (hQ:∀s' a' w',Z4 I0 X w0 s' a' w'->K s'->Q .normal a' w') (hok:b3Z Tryd.prog ops.toList=true) (hd:a73 ops=true) (hfree:∀o∈ops.toList,a7z (Q6 ops.toList) o):∀(fuel:Nat) (l:List Nat) (listed:Array Bool) (s:S) (a:Act) (w:World),l.length=fuel->listed.size=ops.size->l.Pairwise (·<·)->(∀i,i∈l↔i<ops.size/\listed.getD i true=false)->(∀i,i<ops.size->listed.getD i false=true->∀j∈(H1 ops.toList []).getD i [],listed.getD j false=true)->Z4 I0 X w0 s a w->PP (Q6 ops.toList) s->a09 (l8 ops.toList) ops.toList l s K->wpAnyIn (FW ro) n Tryd.prog .any ops Q fuel listed a w:=by
 have hd':∀i,i<ops.size->(∀j∈(H1 ops.toList []).getD i [],j<i)/\∀j,j<i->a72 (l8 ops.toList) (Q6 ops.toList) ops.toList (H1 ops.toList []) j i=true:=λi hi=>by
  have h1:=c4g.1 (c53.1 hd).2 i (by simpa using hi);rw[c3D] at h1;exact⟨λj hj=>by simpa [c42] using c4g.1 h1.1 j hj,λj hj=>c4g.1 h1.2 j (by simpa using hj)⟩
 intro fuel
 induction fuel with
 | zero =>
  intro l listed s a w hl hsz hp hmem hcl hrel hPP hK;obtain rfl:=c5F.1 hl;refine⟨?_,hQ _ _ _ hrel hK⟩;cases hr:Region.ready .any ops listed with
  | nil=>rfl
  | cons x xs =>
   obtain⟨h1,o,h2,_⟩:=mem_ready.1 (show x∈Region.ready .any ops listed by rw[hr];exact c38 ..);have:=(hmem x).2 ⟨(c3L.1 h2).1,h1⟩
   simp at this
 | succ fuel ih =>
  intro l listed s a w hl hsz hp hmem hcl hrel hPP hK
  have un:∀j,j∈l->listed.getD j false=true->False:=λj hj h=>by
   obtain⟨h1,h2⟩:=(hmem j).1 hj
   simp[hsz,h1] at h h2
   rw[h2] at h;cases h
  refine⟨λhr=>?_,λi hi=>?_⟩
  ·exfalso;cases l with
   | nil=>simp at hl
   | cons i0 rest =>
    obtain⟨h1,h2⟩:=(hmem i0).1 (c38 ..);obtain⟨o,ho⟩:∃o,ops[i0]?=some o:=⟨_,c4S h1⟩
    have:i0∈Region.ready .any ops listed:=mem_ready.2 ⟨h2,o,ho,λe he hb=>by
     have h3:e.on∈(H1 ops.toList []).getD i0 []:=by
      rw[b4o ho (hd' i0 h1).1];exact c4a.2 ⟨e.on,a75 he hb,c38 ..⟩
     have h4:=(hd' i0 h1).1 _ h3
     have h5:¬(e.on∈i0::rest):=λhm=>by
      rcases c3F.1 hm with hm|hm
      ·omega
      ·have:=(c4n.1 hp).1 _ hm;omega
     have h6:listed.getD e.on true=true:=by
      cases hx:listed.getD e.on true with
      | true=>rfl
      | false=>exact absurd ((hmem e.on).2 ⟨by omega,hx⟩) h5
     have hlt:e.on<listed.size:=by omega
     simpa [hlt] using h6⟩
    rw[hr] at this
    simp at this
  ·obtain⟨h1,o,ho,hall⟩:=mem_ready.1 hi;have hlt:=(c3L.1 ho).1;have hil:i∈l:=(hmem i).2 ⟨hlt,h1⟩
   have han:∀j∈(H1 ops.toList []).getD i [],listed.getD j false=true:=λj hj=>by
    rw[b4o ho (hd' i hlt).1] at hj;obtain⟨k,hk,hj⟩:=c4a.1 hj;obtain⟨e,he,hek⟩:=c4o.1 hk;obtain⟨he1,he2⟩:=c5b.1 he;subst hek;have h3:=hall e (by simpa using he1) he2
    rcases c3F.1 hj with rfl|hj
    ·exact h3
    ·have:e.on<ops.size:=by
      rcases c4q e.on listed.size with h'|h'
      ·omega
      ·simp[c4Q h'] at h3
     exact hcl _ this h3 j hj
   obtain⟨pre,post,rfl⟩:=List.append_of_mem hil;have hpp:=c5R.1 hp;have hot:ops.toList[i]?=some o:=by rw[c4w];exact ho
   have hpre:∀j∈pre,j<i/\j∉(H1 ops.toList []).getD i []:=λj hj=>⟨hpp.2.2 j hj i (c38 ..),λhm=>un j (c48 _ hj) (han j hm)⟩
   have tot:∀k,a6n ops.toList k=true->k<ops.size->∀j,j<ops.size->j≠k->(j<k->j∈(H1 ops.toList []).getD k [])/\(k<j->k∈(H1 ops.toList []).getD j []):=λk hk hks j hj hjk=>by
    have h3:=c4g.1 hk j (by simpa using hj);simp only[c45,c3D,Nat.beq_eq,c42,c4A] at h3
    rcases h3 with (h3|h3)|h3
    ·exact absurd h3 hjk
    ·exact⟨λ_=>h3.2,λh=>by omega⟩
    ·exact⟨λh=>by omega,λ_=>h3.2⟩
   have hf:a09 (l8 ops.toList) ops.toList (i::(pre++post)) s K:=by
    cases hti:a6n ops.toList i with
    | true =>
     have:pre=[]:=by
      cases pre with
      | nil=>rfl
      | cons j pre =>
       obtain⟨h3,h4⟩:=hpre j (c38 ..);exact absurd ((tot i hti hlt j (by omega) (by omega)).1 h3) h4
     subst this;exact hK
    | false =>
     have hpl:∀j∈pre,a71 ops.toList j:=λj hj=>by
      obtain⟨hji,hja⟩:=hpre j hj;refine⟨?_,?_⟩
      ·cases htj:a6n ops.toList j with
       | false=>rfl
       | true=>exact absurd ((tot j htj (by omega) i hlt (by omega)).2 hji) hja
      ·cases hbj:a2e ops.toList j with
       | none=>rfl
       | some r =>
        exfalso;obtain⟨_,_,_,_,_,_,_,_,hbl⟩:=a32 hbj;have h4:=(a4g hbl i o hot (by omega)).2 (by omega);rw[c4z] at h4;exact hja (by simpa using h4)
     have hap:∀j∈pre,∀ox,ops.toList[j]?=some ox->a4f (l8 ops.toList) (Q6 ops.toList) ox o=true:=λj hj ox hox=>by
      obtain⟨hji,hja⟩:=hpre j hj;have h3:=(hd' i hlt).2 j hji;rw[a72,c45] at h3
      rcases h3 with h3|h3
      ·exact absurd (by simpa using h3) hja
      ·rw[hox,hot] at h3;exact h3
     cases hbi:a2e ops.toList i with
     | none=>exact a5J (prs:=Q6 ops.toList) hot ⟨hti,hbi⟩ (λj hj=>⟨hpl j hj,λox hox=>⟨hap j hj ox hox,hfree ox (c3J hox)⟩⟩) hPP hK
     | some r =>
      refine a4h (prs:=Q6 ops.toList) hot hti hbi (λj hj=>⟨hpl j hj,λox hox=>⟨hap j hj ox hox,hfree ox (c3J hox),?_⟩⟩) hPP hK;obtain⟨hji,hja⟩:=hpre j hj;obtain⟨_,_,_,_,_,_,_,hoi,hbl⟩:=a32 hbi;rw[hot] at hoi;have hoi:=Option.some.inj hoi;subst hoi;have h4:=(a4g hbl j ox hox (by omega)).1 (by omega);rw[c4z] at h4
      rcases h4 with h4|⟨h5,ks,h6,h7⟩
      ·exact absurd (by simpa using h4) hja
      ·exact⟨h5,ks,h6,h7⟩
   rw[a09,hot] at hf;simp only at hf;have hom:o∈ops.toList:=c3J hot;have hf:=b1l hPP (hfree o hom) hf
   have key:=c2o (ro:=ro) (n:=n) (Q:=Q) (c4g.1 hok o (c3J (by rw[c4w];exact ho))) hrel hf (Kw:=wpAnyIn (FW ro) n Tryd.prog .any ops Q fuel (listed.setIfInBounds i true)) (λs' a' w' hrel' hK'=>by
    refine ih (pre++post) _ s' a' w' (by simp at hl ⊢;omega) (by simpa using hsz) ?_ (λk=>?_) (λk hk hkl j hj=>?_) hrel' hK'.1 hK'.2
    ·exact c5R.2 ⟨hpp.1,(c4n.1 hpp.2.1).2,λx hx y hy=>hpp.2.2 x hx y (c36 _ hy)⟩
    ·by_cases hik:i=k
     ·subst hik;refine⟨λhm=>?_,λhm=>?_⟩
      ·rcases c4b.1 hm with hm|hm
       ·have:=hpp.2.2 _ hm i (c38 ..);omega
       ·have:=(c4n.1 hpp.2.1).1 _ hm;omega
      ·have h6:=hm.2;have hlt':i<listed.size:=by omega
       simp[hlt'] at h6
     ·rw[getD_set_ne true hik,<-hmem k];simp only[c4b,c3F];exact⟨λh=>h.imp id .inr,λh=>h.imp id λh=>h.resolve_left λe=>hik e.symm⟩
    ·by_cases hik:i=k
     ·subst hik;exact getD_set_true (han j hj)
     ·rw[getD_set_ne false hik] at hkl
      exact getD_set_true (hcl k hk hkl j hj))
   unfold wpOpIn;rw[ho];simp only
   split at key
   ·rename_i hw;rw[c3E hw];exact key
   ·rename_i hw;rw[c3G hw];exact key
theorem b9w {ro:Option Nat} {n:Nat} {ops:Array Oper} {Q:Exit->Act->World->Prop} {K:S->Prop} (hQ:∀s' a' w',Z4 I0 X w0 s' a' w'->K s'->Q .normal a' w') (hok:b3Z Tryd.prog ops.toList=true) (hd:a73 ops=true) (h:Z4 I0 X w0 s a w) (hpre:b1a (Q6 ops.toList) s.t=true) (hK:a63 a7 (l8 ops.toList) ops.toList 0 ops.toList s K):wpAnyIn (FW ro) n Tryd.prog .any ops Q ops.size (Array.replicate ops.size false) a w:=by
 refine b9v hQ hok hd (λo ho=>b7r (c4g.1 (c53.1 hd).1 o ho)) ops.size (List.range ops.size) _ s a w (by simp) (by simp) List.pairwise_lt_range (λi=>?_) (λi hi h=>?_) h (c0z hpre) ?_
 ·rw[List.mem_range];exact⟨λhi=>⟨hi,by simp[hi]⟩,λh=>h.1⟩
 ·simp[hi] at h
 ·have h3:=a4O ops.toList 0 s K (by simp) hK;rw[<-List.range_eq_range'] at h3
  simpa using h3
end
end
end Go.Proofs.YtlofmibkljoapaaDoor.Vm
end
