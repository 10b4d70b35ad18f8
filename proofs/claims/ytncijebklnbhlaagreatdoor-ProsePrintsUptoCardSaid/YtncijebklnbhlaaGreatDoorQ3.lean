/- Part 3 of the proof. Conditions: none. -/
import Derived.Test.YtncijebklnbhlaaGreatDoorQ2
import Derived.Orders
set_option linter.all false
set_option linter.unusedVariables false
set_option linter.unusedSimpArgs false
section
namespace Go.Proofs.YtncijebklnbhlaaGreatDoor.Vm
open Go.RowKit
set_option maxRecDepth 100000
set_option maxHeartbeats 4000000
section
def a38:Op->Bool
 | .alloc _=>false
 | .box _ _=>false
 | .store _ _ _=>false
 | .buildSlice _ 0 _=>false
 | .call ⟨.builtin .append,_,_⟩=>false
 | .makeSlice _ _ _=>false
 | .makeMap _ _=>false
 | .mapUpdate _ _ _ _=>false
 | _=>true
theorem F5 {a:Ar} {s:S} {dst:Option Nat} {K:S->Prop} {op:Op} (h:a38 op=true):B6 a false s dst K op=E6 a s.get s.o (λv=>K (s.put dst v)) op:=by
 unfold B6
 split <;> first|rfl|cases h
def Pt (T:(V->Prop)->Prop):Prop:=∀K,T K->∃v,K v/\∀K',K' v->T K'
section
variable {os:List O} {t i:Nat} {x y z:V}
theorem a5p:Pt λK=>E0 j1 os K t x:=by
 intro K h;simp only[E0] at h ⊢
 repeat' split at h
 all_goals first|exact h.elim|exact⟨_,h,λK' hk=>by simp only[*]⟩
theorem b6H:Pt λK=>a9r K x y z:=by
 intro K h;simp only[a9r] at h ⊢
 repeat' split at h
 all_goals first|exact h.elim|exact⟨_,h,λK' hk=>by simp only[*]⟩
theorem b4M:Pt λK=>N1 K t i x:=by
 intro K h;simp only[N1] at h ⊢
 repeat' split at h
 all_goals first|exact h.elim|exact⟨_,h,λK' hk=>by simp only[*]⟩
theorem b6I:Pt λK=>a9q K t i x:=by
 intro K h;simp only[a9q] at h ⊢
 repeat' split at h
 all_goals first|exact h.elim|exact⟨_,h,λK' hk=>by simp only[*]⟩
theorem a6a:Pt λK=>s9 j1 os K t x y:=by
 intro K h;simp only[s9,T3] at h ⊢
 repeat' split at h
 all_goals first|exact h.elim|exact⟨_,h,λK' hk=>by simp only[*]⟩
theorem b6J:Pt λK=>a1I j1 K t x y:=by
 intro K h;simp only[a1I] at h ⊢
 repeat' split at h
 all_goals first|exact h.elim|exact⟨_,h,λK' hk=>by simp only[*]⟩
theorem b8J {op:BinOp} {x y:Value}:Pt λK=>a50 j1 op x y K:=by
 intro K h;simp only[a50] at h ⊢
 split at h <;> try exact h.elim
 ·split at h
  ·rename_i hb;unfold c0c at h ⊢
   split at h <;> try exact h.elim
   rename_i hr;exact⟨_,h,λK' hk=>by first|exact hk|(rw[hb,hr];exact hk)⟩
  split at h <;> try exact h.elim
  rename_i hk;simp only[b0I] at h ⊢
  split at h <;> first|exact h.elim|exact⟨_,h,λK' hk'=>by simp only[*]⟩|exact⟨_,h.2,λK' hk'=>by first|exact⟨h.1,hk'⟩|(simp only[hk];exact⟨h.1,hk'⟩)|(rw[hk];exact⟨h.1,hk'⟩)|(split <;> simp_all)⟩
 ·simp only[b0J] at h ⊢
  split at h <;> first|exact h.elim|exact⟨_,h,λK' hk'=>by simp only[*]⟩|exact⟨_,h.2,λK' hk'=>⟨h.1,hk'⟩⟩
theorem a2Z {b:Bool} {op:BinOp}:Pt λK=>a1G b K op:=by
 intro K h;simp only[a1G] at h ⊢
 split at h <;> first|exact h.elim|exact⟨_,h,λK' hk'=>hk'⟩
theorem b8K {op:BinOp}:Pt λK=>b4i j1 op t x y K:=by
 intro K h;simp only[b4i] at h ⊢
 split at h <;> try exact h.elim
 ·split at h
  ·split at h <;> try exact h.elim
   exact a2Z _ h
  ·split at h <;> try exact h.elim
   exact a2Z _ h
  ·exact b8J _ h
 ·split at h <;> try exact h.elim
  split at h <;> try exact h.elim
  exact a2Z _ h
 ·split at h <;> try exact h.elim
  split at h <;> try exact h.elim
  exact a2Z _ h
 ·split at h <;> try exact h.elim
  obtain⟨h1,h2⟩:=h;obtain⟨v,h3,h4⟩:=a2Z _ h2;exact⟨v,h3,λK' hk=>⟨h1,h4 _ hk⟩⟩
 ·split at h <;> try exact h.elim
  exact a2Z _ h
 ·split at h <;> try exact h.elim
  split at h <;> try exact h.elim
  split at h <;> try exact h.elim
  exact a2Z _ h
theorem b6K {ok:Bool}:Pt λK=>a9u j1 os K t ok x y:=by
 intro K h;simp only[a9u] at h ⊢
 repeat' split at h
 all_goals first|exact h.elim|skip
 all_goals simp only[a9t,a8k] at h ⊢
 all_goals repeat' split at h
 all_goals first|exact h.elim|exact⟨_,h,λK' hk=>by simp only[*]⟩
theorem b4N {mx:Bool} {l:List V}:Pt λK=>a8l j1 K mx l:=by
 intro K h;simp only[a8l] at h ⊢
 repeat' split at h
 all_goals first|exact h.elim|exact⟨_,h,λK' hk=>by simp only[*]⟩
theorem c0m:Pt λK=>nnV K x:=by
 intro K h;simp only[nnV] at h ⊢
 split at h <;> first|exact h.elim|exact⟨_,h,λK' hk'=>hk'⟩
theorem c0n {op:UnOp}:Pt λK=>unV j1 op x K:=by
 intro K h;simp only[unV] at h ⊢
 split at h <;> first|exact h.elim|exact⟨_,h,λK' hk'=>hk'⟩
theorem b6L {k0 k:TK}:Pt λK=>a9p j1 K k0 k x:=by
 intro K h;simp only[a9p,b4j,b4k,b4l,b8z] at h ⊢
 repeat' split at h
 all_goals first|exact h.elim|exact⟨_,h,λK' hk=>by simp only[*]⟩
theorem b0W:Pt λK=>a1J K i x:=by
 intro K h;simp only[a1J] at h ⊢
 repeat' split at h
 all_goals first|exact h.elim|exact⟨_,h,λK' hk=>by simp only[*]⟩
theorem b8L {k:TK}:Pt λK=>b4m j1 os K k x:=by
 intro K h;simp only[b4m,b80,b81] at h ⊢
 repeat' split at h
 all_goals first|exact h.elim|exact⟨_,h,λK' hk=>by simp only[*]⟩
theorem b4O {g:Operand->V} {ps:List (Nat×Operand)}:Pt λK=>a1j g K t ps:=by
 intro K h;simp only[a1j] at h ⊢
 repeat' split at h
 all_goals first|exact h.elim|exact⟨_,h,λK' hk=>by simp only[*]⟩
theorem a7e {g:Operand->V} {n:Nat} {ps:List (Nat×Operand)}:Pt λK=>C9 g os K t n ps:=by
 intro K h;simp only[C9] at h ⊢
 repeat' split at h
 all_goals first|exact h.elim|exact⟨_,h,λK' hk=>by simp only[*]⟩
theorem b4P {lo hi:Option V}:Pt λK=>a1H j1 os K t x lo hi:=by
 intro K h;simp only[a1H] at h ⊢
 repeat' split at h
 all_goals first|exact h.elim|exact⟨_,h,λK' hk=>by simp only[*]⟩
theorem b2q {f:Nat} {vs:List V}:Pt λK=>a7n j1 os K f vs:=by
 intro K h;simp only[a7n] at h ⊢
 split at h
 ·obtain⟨q,h1,h2⟩:=h;exact⟨_,h2,λK' hk=>⟨q,h1,hk⟩⟩
 ·obtain⟨q,h1,h2⟩:=h;exact⟨_,h2,λK' hk=>⟨q,h1,hk⟩⟩
theorem b4Q {vs:List V}:Pt λK=>a8m j1 os K x vs:=by
 intro K h;simp only[a8m] at h ⊢
 split at h <;> try exact h.elim
 exact b2q K h
theorem a0W {g:Operand->V} {op:Op}:Pt λK=>E6 j1 g os K op:=by
 intro K h;simp only[E6] at h ⊢
 split at h <;> try exact h.elim
 ·exact⟨_,h,λK' hk=>hk⟩
 ·exact⟨_,h,λK' hk=>hk⟩
 ·exact b6H K h
 ·exact a5p K h
 ·exact b4M K h
 ·exact b6I K h
 ·exact a6a K h
 ·exact b6J K h
 ·exact b8K K h
 ·exact c0n K h
 ·exact b6L K h
 ·exact b4O K h
 ·exact a7e K h
 ·exact b0W K h
 ·exact b4P K h
 ·exact b8L K h
 ·exact b2q K h
 ·exact b6K K h
 ·exact b4N K h
 ·exact b4N K h
 ·exact c0m K h
 ·split at h <;> try exact h.elim
  exact⟨_,h,λK' hk=>by simp only[*]⟩
 ·exact b4Q K h
end
theorem Q6 {g g':Operand->V}:∀ {l:List Operand},(∀x∈l,g x=g' x)->G3 g l=G3 g' l
 | [],_=>rfl
 | x::l,h=>by rw[G3,G3,h x (List.mem_cons_self ..),Q6 λy hy=>h y (List.mem_cons_of_mem _ hy)]
theorem a1U {g g':Operand->V} {place:List (Nat×Nat)}:∀ {ps:List (Nat×Operand)} {l:List V},(∀p∈ps,g p.2=g' p.2)->U3 g place ps l=U3 g' place ps l
 | [],_,_=>rfl
 | (i,x)::ps,l,h=>by
  rw[U3,U3,h (i,x) (List.mem_cons_self ..)];have ih:=λl=>a1U (place:=place) (l:=l) λp hp=>h p (List.mem_cons_of_mem _ hp)
  simp only[ih]
theorem a09 {a:Ar} {g g':Operand->V} {os:List O} {K:V->Prop} {op:Op} (h:∀x∈op.operands,g x=g' x):E6 a g os K op=E6 a g' os K op:=by
 have hm:∀l:List Operand,(∀x∈l,x∈op.operands)->∀x∈l,g x=g' x:=λl hl x hx=>h x (hl x hx)
 unfold E6
 split
 ·rw[h _ (by simp[Op.operands])]
 ·rw[h _ (by simp[Op.operands])]
 ·rw[h _ (by simp[Op.operands]),h _ (by simp[Op.operands]),h _ (by simp[Op.operands])]
 ·rw[h _ (by simp[Op.operands])]
 ·rw[h _ (by simp[Op.operands])]
 ·rw[h _ (by simp[Op.operands])]
 ·rw[h _ (by simp[Op.operands]),h _ (by simp[Op.operands])]
 ·rw[h _ (by simp[Op.operands]),h _ (by simp[Op.operands])]
 ·rw[h _ (by simp[Op.operands]),h _ (by simp[Op.operands])]
 ·rw[h _ (by simp[Op.operands])]
 ·rw[h _ (by simp[Op.operands])]
 ·rename_i t ps;simp only[a1j];have e:∀pl l,U3 g pl ps.toList l=U3 g' pl ps.toList l:=λpl l=>a1U λp hp=>h p.2 (by simp only[Op.operands];simp;exact⟨p.1,by simpa using hp⟩)
  simp only[e]
 ·rename_i t n ps;simp only[C9];have e:∀pl l,U3 g pl ps.toList l=U3 g' pl ps.toList l:=λpl l=>a1U λp hp=>h p.2 (by simp only[Op.operands];simp;exact⟨p.1,by simpa using hp⟩)
  simp only[e]
 ·rw[h _ (by simp[Op.operands])]
 ·rename_i t x lo hi;rw[h x (by simp[Op.operands])]
  have e1:P4 g lo=P4 g' lo:=by cases lo with
   | none=>rfl
   | some y=>rw[P4,P4,h y (by simp[Op.operands])]
  have e2:P4 g hi=P4 g' hi:=by cases hi with
   | none=>rfl
   | some y=>rw[P4,P4,h y (by simp[Op.operands])]
  rw[e1,e2]
 ·rw[h _ (by simp[Op.operands,Call.operands])]
 ·rename_i f args ts;rw[Q6 λx hx=>h x (by simp[Op.operands,Call.operands];right;simpa using hx)]
 ·rw[h _ (by simp[Op.operands]),h _ (by simp[Op.operands])]
 ·rename_i args ts;rw[Q6 λx hx=>h x (by simp[Op.operands,Call.operands];simpa using hx)]
 ·rename_i args ts;rw[Q6 λx hx=>h x (by simp[Op.operands,Call.operands];simpa using hx)]
 ·rw[h _ (by simp[Op.operands])]
 ·rename_i f cs;rw[Q6 λx hx=>h x (by simp[Op.operands];simpa using hx)]
 ·rename_i i args ts;rw[Q6 λx hx=>h x (by simp[Op.operands,Call.operands];right;simpa using hx),h (.tmp i) (by simp[Op.operands,Call.operands])]
 ·rfl
theorem a39:∀ {l:List Operand} {t:Nat},Operand.tmp t∈l->t∈tmps l
 | [],t,h=>by simp at h
 | x::l,t,h=>by
  rcases List.mem_cons.1 h with rfl|h
  ·simp[tmps]
  ·have h2:=a39 h;cases x <;> simp[tmps,h2]
def m9 (a:Ar) (dsts:List (Option Nat)) (o:Oper) (s:S) (K:S->Prop):Prop:=run a false dsts [o] s K
theorem a0X {l:List V} {i j:Nat} {v:V} (h:i≠j):o6 (I4 l i v) j=o6 l j:=by
 rw[a07]
 rcases a1M l j with h1|⟨h1,h2⟩
 ·rcases a1M (l.set i v) j with h3|⟨h3,h4⟩
  ·rw[List.getElem?_set_ne h,h1] at h3;injection h3 with h3;exact h3.symm
  ·rw[List.length_set] at h3;have:=(List.getElem?_eq_some_iff.1 h1).1;omega
 ·rcases a1M (l.set i v) j with h3|⟨h3,h4⟩
  ·rw[List.getElem?_set_ne h] at h3;have:=(List.getElem?_eq_some_iff.1 h3).1;omega
  ·rw[h4,h2]
theorem a0Y {s:S} {d e:Option Nat} {u v:V} (h:∀x,d=some x->e≠some x):(s.put d u).put e v=(s.put e v).put d u:=by
 cases d with
 | none=>rfl
 | some x =>
  cases e with
  | none=>rfl
  | some y =>
   have hne:x≠y:=λe=>h x rfl (by rw[e])
   simp only[S.put,a07]
   congr 1
   exact List.set_comm _ _ hne
def a03 (l:List Nat) (s s':S):Prop:=s'.o=s.o/\∀t∈l,o6 s'.t t=o6 s.t t
theorem H8 {l:List Nat} {s:S} {d:Option Nat} {v:V} (h:∀x,d=some x->x∉l):a03 l s (s.put d v):=by
 cases d with
 | none=>exact⟨rfl,λ_ _=>rfl⟩
 | some x=>exact⟨rfl,λt ht=>a0X λe=>h x rfl (e ▸ ht)⟩
theorem a03.symm {l:List Nat} {s s':S} (h:a03 l s s'):a03 l s' s:=⟨h.1.symm,λt ht=>(h.2 t ht).symm⟩
theorem a03.ops {l:List Nat} {s s':S} (h:a03 l s s') {xs:List Operand} (hx:∀t∈tmps xs,t∈l):∀x∈xs,s'.get x=s.get x:=λx hxm=>by
 cases x with
 | tmp t=>exact h.2 t (hx t (a39 hxm))
 | const v=>rfl
 | global g=>rfl
 | func f=>rfl
theorem a6b {dsts:List (Option Nat)} {s s':S} {j:Nat} {K:Option Bool->Prop} (h:∀d,getD dsts j=some d->o6 s'.t d=o6 s.t d):guard s' dsts j K=guard s dsts j K:=by
 unfold guard;cases hd:getD dsts j with
 | none=>rfl
 | some d=>simp only[h d hd]
theorem a0z {dsts:List (Option Nat)} {s:S} {j:Nat} {K:Option Bool->Prop} (h:guard s dsts j K):∃c,K c/\∀K',K' c->guard s dsts j K':=by
 unfold guard at h ⊢
 repeat' split at h
 all_goals first|exact h.elim|exact⟨_,h,λK' hk=>by simp only[*]⟩
theorem a3A {dsts:List (Option Nat)} {o:Oper} (hc:a38 o.op=true) {s:S} {K:S->Prop} (h:m9 j1 dsts o s K):∃v,K (s.put o.dst v)/\∀s' K',a03 (looks dsts o) s s'->K' (s'.put o.dst v)->m9 j1 dsts o s' K':=by
 obtain⟨dst,op,type,pos,after,gd⟩:=o
 have hst:∀ {s s':S} {K:S->Prop} {l:List Nat},(∀t∈tmps op.operands.toList,t∈l)->a03 l s s'->B6 j1 false s dst K op->∃v,K (s.put dst v)/\∀K',K' (s'.put dst v)->B6 j1 false s' dst K' op:=λ{s s' K l} hl hs h=>by
  rw[F5 hc] at h;obtain⟨v,h1,h2⟩:=a0W _ h;refine⟨v,h1,λK' hk=>?_⟩;rw[F5 hc,hs.1];have e:=a09 (a:=j1) (os:=s.o) (K:=λv=>K' (s'.put dst v)) (op:=op) (g:=s.get) (g':=s'.get) λx hx=>((hs.ops (xs:=op.operands.toList) hl) x (by simpa using hx)).symm
  rw[<-e];exact h2 _ hk
 cases gd with
 | none =>
  have hl:∀t∈tmps op.operands.toList,t∈looks dsts ⟨dst,op,type,pos,after,none⟩:=λt ht=>by simp[looks,ht]
  have h':B6 j1 false s dst K op:=h;rw[F5 hc] at h';obtain⟨v,h1,h2⟩:=a0W _ h';refine⟨v,h1,λs' K' hs hk=>?_⟩;show B6 j1 false s' dst K' op;rw[F5 hc,hs.1];have e:=a09 (a:=j1) (os:=s.o) (K:=λv=>K' (s'.put dst v)) (op:=op) (g:=s.get) (g':=s'.get) λx hx=>((hs.ops (xs:=op.operands.toList) hl) x (by simpa using hx)).symm
  rw[<-e];exact h2 _ hk
 | some jb =>
  obtain⟨j,b⟩:=jb;have hl:∀t∈tmps op.operands.toList,t∈looks dsts ⟨dst,op,type,pos,after,some (j,b)⟩:=λt ht=>by simp[looks,ht]
  have hg:∀s',a03 (looks dsts ⟨dst,op,type,pos,after,some (j,b)⟩) s s'->∀d,getD dsts j=some d->o6 s'.t d=o6 s.t d:=λs' hs d hd=>hs.2 d (by simp[looks,hd])
  have h':guard s dsts j (fun
   | some c=>match bEq c b with
    | true=>B6 j1 false s dst K op
    | false=>K (s.put dst T1)
   | none=>K (s.put dst T1)):=h
  have a0t:∀(c:Option Bool) {s':S} {K':S->Prop},(∀K',K' c->guard s dsts j K')->a03 (looks dsts ⟨dst,op,type,pos,after,some (j,b)⟩) s s'->(match c with
   | some c=>match bEq c b with
    | true=>B6 j1 false s' dst K' op
    | false=>K' (s'.put dst T1)
   | none=>K' (s'.put dst T1))->m9 j1 dsts ⟨dst,op,type,pos,after,some (j,b)⟩ s' K':=λc {s' K'} h2 hs hx=>by
   show guard s' dsts j (fun
    | some c=>match bEq c b with
     | true=>B6 j1 false s' dst K' op
     | false=>K' (s'.put dst T1)
    | none=>K' (s'.put dst T1))
   rw[a6b (hg s' hs)];exact h2 _ hx
  obtain⟨c,h1,h2⟩:=a0z h';cases c with
  | none=>exact⟨T1,h1,λs' K' hs hk=>a0t none h2 hs hk⟩
  | some c =>
   cases hb:bEq c b with
   | false =>
    simp only[hb] at h1;exact⟨T1,h1,λs' K' hs hk=>a0t (some c) h2 hs (by simp only[hb];exact hk)⟩
   | true =>
    simp only[hb] at h1;rw[F5 hc] at h1;obtain⟨v,h3,h4⟩:=a0W _ h1;refine⟨v,h3,λs' K' hs hk=>a0t (some c) h2 hs ?_⟩;simp only[hb];rw[F5 hc,hs.1];have e:=a09 (a:=j1) (os:=s.o) (K:=λv=>K' (s'.put dst v)) (op:=op) (g:=s.get) (g':=s'.get) λx hx=>((hs.ops (xs:=op.operands.toList) hl) x (by simpa using hx)).symm
    rw[<-e];exact h4 _ hk
theorem a9B {a:Ar} {g:Operand->V} {os os':List O} {K:V->Prop} {op:Op} (h:a2Y op=true):E6 a g os K op=E6 a g os' K op:=by
 unfold E6
 split <;> first|rfl|cases h
theorem a6c {op:Op} (h:a2Y op=true):a38 op=true:=by
 cases op <;> first|rfl|cases h
def a6d (l:List Nat) (s s':S):Prop:=∀t∈l,o6 s'.t t=o6 s.t t
theorem Y7 (t:List V) (o o':List O) (d:Option Nat) (v:V):(⟨(S.put ⟨t,o⟩ d v).t,o'⟩:S)=S.put ⟨t,o'⟩ d v:=by cases d <;> rfl
theorem b3r {dsts:List (Option Nat)} {x:Oper} (hb:a2Y x.op=true) {t:List V} {o o':List O} {K:S->Prop} (h:m9 j1 dsts x ⟨t,o⟩ (λr=>K ⟨r.t,o'⟩)):m9 j1 dsts x ⟨t,o'⟩ K:=by
 obtain⟨dst,op,type,pos,after,gd⟩:=x
 have hst:B6 j1 false ⟨t,o⟩ dst (λr=>K ⟨r.t,o'⟩) op->B6 j1 false ⟨t,o'⟩ dst K op:=λh=>by
  rw[F5 (a6c hb)] at h ⊢;simp only[Y7] at h;rw[a9B (os':=o') hb] at h;exact h
 cases gd with
 | none=>exact hst h
 | some jb =>
  obtain⟨j,b⟩:=jb
  have h':guard ⟨t,o⟩ dsts j (fun
   | some c=>match bEq c b with
    | true=>B6 j1 false ⟨t,o⟩ dst (λr=>K ⟨r.t,o'⟩) op
    | false=>K ⟨(S.put ⟨t,o⟩ dst T1).t,o'⟩
   | none=>K ⟨(S.put ⟨t,o⟩ dst T1).t,o'⟩):=h
  show guard ⟨t,o'⟩ dsts j (fun
   | some c=>match bEq c b with
    | true=>B6 j1 false ⟨t,o'⟩ dst K op
    | false=>K (S.put ⟨t,o'⟩ dst T1)
   | none=>K (S.put ⟨t,o'⟩ dst T1))
  obtain⟨c,h1,h2⟩:=a0z h';refine(a6b (s:=⟨t,o⟩) (s':=⟨t,o'⟩) λd _=>rfl).mpr (h2 _ ?_);cases c with
  | none=>rw[Y7] at h1;exact h1
  | some c =>
   cases hb:bEq c b with
   | true=>simp only[hb] at h1 ⊢;exact hst h1
   | false=>simp only[hb,Y7] at h1 ⊢;exact h1
theorem a3B {dsts:List (Option Nat)} {x:Oper} (hb:a2Y x.op=true) {s:S} {K:S->Prop} (h:m9 j1 dsts x s K):∃v,K (s.put x.dst v)/\∀s' K',a6d (looks dsts x) s s'->K' (s'.put x.dst v)->m9 j1 dsts x s' K':=by
 obtain⟨v,h1,h2⟩:=a3A (a6c hb) h;refine⟨v,h1,λs' K' hs hk=>?_⟩;exact b3r hb (t:=s'.t) (o:=s.o) (o':=s'.o) (h2 ⟨s'.t,s.o⟩ _ ⟨rfl,hs⟩ (by rw[Y7];exact hk))
theorem a4v {s:S} {K:S->Prop} {t:Nat} {y x:V} (h:F7 j1 s K t y x):∃o',K ⟨s.t,o'⟩/\∀(t':List V) (K':S->Prop),K' ⟨t',o'⟩->F7 j1 ⟨t',s.o⟩ K' t y x:=by
 simp only[F7] at h ⊢
 repeat' split at h
 all_goals first|exact h.elim|exact⟨_,h,λt' K' hk=>by simp only[*]⟩
def b0X:Op->Bool
 | .store _ _ _=>true
 | _=>false
theorem a6e {dsts:List (Option Nat)} {y:Oper} (hb:(b0X y.op && y.guard.isNone && y.dst.isNone)=true) {s:S} {K:S->Prop} (h:m9 j1 dsts y s K):∃o',K ⟨s.t,o'⟩/\∀s' K',s'.o=s.o->a6d (looks dsts y) s s'->K' ⟨s'.t,o'⟩->m9 j1 dsts y s' K':=by
 obtain⟨dst,op,type,pos,after,gd⟩:=y;cases gd <;> cases dst <;> cases op <;> first|(simp[b0X] at hb;done)|skip
 rename_i t x z;have h':F7 j1 s K t (s.get z) (s.get x):=h;obtain⟨o',h1,h2⟩:=a4v h';refine⟨o',h1,λs' K' ho hs hk=>?_⟩;show F7 j1 s' K' t (s'.get z) (s'.get x);have hS:a03 (looks dsts ⟨none,.store t x z,type,pos,after,none⟩) s ⟨s'.t,s.o⟩:=⟨rfl,hs⟩;have hg:∀y∈(Op.store t x z).operands.toList,(⟨s'.t,s.o⟩:S).get y=s.get y:=hS.ops λu hu=>by simp[looks,hu]
 have e1:s'.get z=s.get z:=by
  have:=hg z (by simp[Op.operands]);cases z <;> first|rfl|exact this
 have e2:s'.get x=s.get x:=by
  have:=hg x (by simp[Op.operands]);cases x <;> first|rfl|exact this
 rw[e1,e2];have:=h2 s'.t K' hk;rw[<-ho] at this;exact this
def b0Y (dsts:List (Option Nat)) (x y:Oper):Bool:=a38 x.op && a38 y.op && I5 x.dst (looks dsts y) && I5 y.dst (looks dsts x) && (x.dst.isNone || x.dst != y.dst)
theorem G9 {d:Option Nat} {l:List Nat} (h:I5 d l=true):∀x,d=some x->x∉l:=λx e=>by
 subst e
 simpa [I5] using h
theorem c0o {dsts:List (Option Nat)} {x y:Oper} (h:b0Y dsts x y=true) {s:S} {K:S->Prop} (hx:m9 j1 dsts x s λs=>m9 j1 dsts y s K):m9 j1 dsts y s λs=>m9 j1 dsts x s K:=by
 simp only[b0Y,Bool.and_eq_true,Bool.or_eq_true,bne_iff_ne,ne_eq] at h;obtain⟨⟨⟨⟨c1,c2⟩,n1⟩,n2⟩,n3⟩:=h;obtain⟨v1,h1,h2⟩:=a3A c1 hx;obtain⟨v2,h3,h4⟩:=a3A c2 h1;refine h4 s _ (H8 (G9 n1)).symm (h2 _ _ (H8 (G9 n2)) ?_);rw[a0Y λz hz e=>?_]
 ·exact h3
 ·rcases n3 with n3|n3
  ·rw[Option.isNone_iff_eq_none] at n3;rw[n3] at e;cases e
  ·exact n3 (by rw[e,hz])
theorem a03.refl (l:List Nat) (s:S):a03 l s s:=⟨rfl,λ_ _=>rfl⟩
def a9C (o:Oper):Bool:=b0X o.op && o.guard.isNone && o.dst.isNone
def a2z (dsts:List (Option Nat)) (x y:Oper):Bool:=a2Y x.op && a9C y && I5 x.dst (looks dsts y)
def a73:Op->Bool
 | .call ⟨.builtin .append,⟨[_,_]⟩,⟨[_,_]⟩⟩=>true
 | _=>false
def b4R:Op->Bool
 | .move _=>true
 | .nilCheck _=>true
 | .fieldAddr _ _ _=>true
 | _=>false
def b6M:Op->Bool
 | .alloc _=>true
 | _=>false
def b8i:Op->Bool
 | .move _=>true
 | .assign _=>true
 | .pick _ _ _=>true
 | .load _ _=>true
 | .fieldAddr _ _ _=>true
 | .field _ _ _=>true
 | .indexAddr _ _ _=>true
 | .index _ _ _=>true
 | .binOp _ _ _ _ _=>true
 | .unOp _ _ _=>true
 | .convert _ _ _=>true
 | .build _ _=>true
 | .extract _ _=>true
 | .nilCheck _=>true
 | _=>false
def b4S:Op->Bool
 | .buildSlice _ 0 ⟨[]⟩=>true
 | _=>false
def a87:Op->Bool
 | .load t _=>(ty t).agg
 | .build _ _=>true
 | .buildSlice _ (_+1) _=>true
 | _=>false
def a88 (dsts:List (Option Nat)) (x y:Oper):Bool:=(a73 x.op || b4S x.op) && x.guard.isNone && x.dst.isSome && (b4R y.op || a87 y.op) && y.guard.isNone && I5 x.dst (looks dsts y) && I5 y.dst (looks dsts x) && (y.dst.isNone || x.dst != y.dst)
def b0Z (dsts:List (Option Nat)) (x y:Oper):Bool:=b8i x.op && x.guard.isNone && b6M y.op && y.guard.isNone && I5 y.dst (looks dsts x) && (x.dst.isNone || x.dst != y.dst)
def b8M:Op->Bool
 | .move _=>true
 | _=>false
def b1a (dsts:List (Option Nat)) (x y:Oper):Bool:=b8M x.op && x.guard.isNone && a73 y.op && y.guard.isNone && y.dst.isSome && I5 x.dst (looks dsts y) && I5 y.dst (looks dsts x) && (x.dst.isNone || x.dst != y.dst)
def b4T (dsts:List (Option Nat)) (x y:Oper):Bool:=b0Y dsts x y || a2z dsts x y || a2z dsts y x || a88 dsts x y || b0Z dsts x y || b1a dsts x y
def klT:Option Nat->List V->List V
 | none,t=>t
 | some k,t=>E5 k t
def klV:Option Nat->V->V
 | none,v=>v
 | some k,v=>C8 k v
theorem a6f (k:Nat):∀l:List O,o7 (A6 k l)=o7 l:=λl=>by rw[r6,r6,G8]
theorem a3C {o:O}:∀ {l:List O} {k:Nat},k≠o7 l->y5 (y8 l o) k=y5 l k
 | [],0,h=>absurd rfl h
 | [],k+1,_=>rfl
 | _::_,0,_=>rfl
 | _::l,k+1,h=>a3C (l:=l) λe=>h (by rw[o7,e])
theorem a2K {o:O}:∀ {l:List O},y5 (y8 l o) (o7 l)=o
 | []=>rfl
 | _::l=>a2K (l:=l)
def a3a (k:Nat) (os o':List O):Prop:=(∀j,j≠k->y5 o' j=y5 (A6 k os) j)/\∀cs,y5 o' k≠.box cs
theorem a4R {os:List O} {z:Bool} {e:Nat} {r:List (List D)}:a3a (o7 os) os (y8 (A6 (o7 os) os) (.row z e r)) :=
 ⟨λj hj=>a3C (by rw[a6f];exact hj),λcs h=>by
  have h1:y5 (y8 (A6 (o7 os) os) (.row z e r)) (o7 (A6 (o7 os) os))=_:=a2K;rw[a6f,h] at h1
  cases h1⟩
theorem a3D {o:O}:∀ {l:List O} {m j:Nat},j≠m->y5 (J8 l m o) j=y5 l j
 | [],m,j,_=>rfl
 | _::_,0,0,h=>absurd rfl h
 | _::_,0,_+1,_=>rfl
 | _::_,_+1,0,_=>rfl
 | _::l,m+1,j+1,h=>a3D (l:=l) λe=>h (by rw[e])
theorem a3E {o:O}:∀ {l:List O} {m:Nat},y5 (J8 l m o) m=o\/y5 (J8 l m o) m=.dead
 | [],m=>.inr (by cases m <;> rfl)
 | _::_,0=>.inl rfl
 | _::l,m+1=>a3E (l:=l)
theorem b1b {k:Nat} {os:List O} {z:Bool} {e:Nat} {r:List (List D)}:a3a k os (J8 (A6 k os) k (.row z e r)) :=
 ⟨λj hj=>a3D hj,λcs h=>by
  rcases a3E (l:=A6 k os) (m:=k) (o:=.row z e r) with h1|h1 <;> rw[h1] at h <;> cases h⟩
theorem a6g {s:S} {d:Nat} {K:S->Prop} {t:Nat} {x y:V} (h:H4 j1 false s (some d) K t x y):∃(k:Nat) (o':List O),a3a k s.o o'/\K (S.put ⟨E5 k s.t,o'⟩ (some d) (.own k))/\∀(t':List V) (K':S->Prop),K' (S.put ⟨E5 k t',o'⟩ (some d) (.own k))->H4 j1 false ⟨t',s.o⟩ (some d) K' t x y:=by
 unfold H4 at h
 repeat' split at h
 all_goals first|exact h.elim|skip
 ·rename_i e he _ sz ys hys _ hsz _;obtain⟨h1,z,h2⟩:=h;refine⟨o7 s.o,y8 (A6 (o7 s.o) s.o) (.row z e ys),a4R,h2,λt' K' hk=>?_⟩;unfold H4;simp only[he,hys,hsz];exact⟨h1,z,hk⟩
 ·rename_i e he _ sz ys hys _ hsz _ k _ z e' xs hok _ hee;obtain⟨h1,h2⟩:=h;refine⟨k,_,b1b,h2,λt' K' hk=>?_⟩;unfold H4;simp only[he,hys,hsz,hok,hee];exact⟨h1,hk⟩
theorem a77 {s:S} {d:Nat} {K:S->Prop} {t:Nat} {x y:V} (h:H4 j1 false s (some d) K t x y):∃(kk:Option Nat) (o':List O) (k':Nat),K (S.put ⟨klT kk s.t,o'⟩ (some d) (.own k'))/\∀(t':List V) (K':S->Prop),K' (S.put ⟨klT kk t',o'⟩ (some d) (.own k'))->H4 j1 false ⟨t',s.o⟩ (some d) K' t x y:=by
 obtain⟨k,o',_,h1,h2⟩:=a6g h;exact⟨some k,o',k,h1,h2⟩
theorem b8N {s:S} {d:Nat} {K:S->Prop} {op:Op} (hb:(a73 op || b4S op)=true) (h:B6 j1 false s (some d) K op):∃(k:Nat) (o':List O),a3a k s.o o'/\K (S.put ⟨E5 k s.t,o'⟩ (some d) (.own k))/\∀(t':List V) (K':S->Prop),(∀z∈op.operands,S.get ⟨t',s.o⟩ z=s.get z)->K' (S.put ⟨E5 k t',o'⟩ (some d) (.own k))->B6 j1 false ⟨t',s.o⟩ (some d) K' op:=by
 cases ha:a73 op with
 | true =>
  unfold a73 at ha
  split at ha
  ·rename_i p q t t';have h':H4 j1 false s (some d) K t (s.get p) (s.get q):=h;obtain⟨k,o',h1,h2,h3⟩:=a6g h';refine⟨k,o',h1,h2,λt2 K' hz hk=>?_⟩;show H4 j1 false ⟨t2,s.o⟩ (some d) K' t (S.get ⟨t2,s.o⟩ p) (S.get ⟨t2,s.o⟩ q);rw[hz p (by simp[Op.operands,Call.operands]),hz q (by simp[Op.operands,Call.operands])];exact h3 _ _ hk
  ·cases ha
 | false =>
  rw[ha,Bool.false_or] at hb;unfold b4S at hb
  split at hb
  ·rename_i t;have h':(match (ty t).elem with|some e=>j1.new e λz=>K ((s.fresh false (.row z e [])).put (some d) (.own (o7 s.o)))|none=>False):=h;cases he:(ty t).elem with
   | none=>rw[he] at h';exact h'.elim
   | some e =>
    rw[he] at h';obtain⟨z,h'⟩:=h';refine⟨o7 s.o,_,a4R,h',λt2 K' _ hk=>?_⟩;show (match (ty t).elem with|some e=>j1.new e λz=>K' ((S.fresh false ⟨t2,s.o⟩ (.row z e [])).put (some d) (.own (o7 s.o)))|none=>False);rw[he];exact⟨z,hk⟩
  ·cases hb
theorem a6h {k:Nat}:∀(n:Nat) (l:List V),K9 n (A0 k l)=A0 k (K9 n l)
 | 0,l=>rfl
 | n+1,[]=>rfl
 | n+1,x::l=>a6h n l
theorem a6i {k:Nat}:∀ {n:Nat} {l l':List V},H6 n (A0 k l)=some l'->∃m,H6 n l=some m/\l'=A0 k m
 | 0,l,l',h=>by
  have h:some []=some l':=by cases l <;> exact h
  injection h with h;exact⟨[],by cases l <;> rfl,h.symm⟩
 | n+1,[],l',h=>by cases h
 | n+1,x::l,l',h=>by
  rw[A0,H6] at h;cases e:H6 n (A0 k l) with
  | none=>rw[e] at h;cases h
  | some m' =>
   rw[e] at h;injection h with h;obtain⟨m,h1,h2⟩:=a6i e;exact⟨x::m,by rw[H6,h1],by rw[<-h,h2];rfl⟩
theorem a4w {k:Nat}:∀l:List D,A0 k (ofD l)=ofD l
 | []=>rfl
 | x::l=>by rw[ofD,A0,a4w l];rfl
theorem a0j {k:Nat}:∀l:List Value,A0 k (C6 l)=C6 l
 | []=>rfl
 | v::l=>by
  rw[C6,A0,a0j l]
  congr 1
  unfold a4d
  split <;> rfl
theorem a78 {k:Nat}:∀l m:List V,A0 k (l++m)=A0 k l++A0 k m
 | [],m=>rfl
 | x::l,m=>by rw[List.cons_append,A0,a78 l m];rfl
theorem a4S {k:Nat} (z:List Value):∀(n:Nat) (acc:List V),A0 k (a2G (C6 z) n acc)=a2G (C6 z) n (A0 k acc)
 | 0,acc=>rfl
 | n+1,acc=>by rw[a2G,a4S z n,a78,a0j];rfl
theorem a2L {k:Nat}:∀ {l:List O} {j:Nat} {cs:List V},y5 (A6 k l) j=.box cs->∃ds,y5 l j=.box ds/\cs=A0 k ds
 | [],j,cs,h=>by cases j <;> cases h
 | x::l,0,cs,h=>by
  cases x <;> rw[A6] at h <;> first|(cases h;done)|skip
  ·rename_i ds;injection h with h;exact⟨ds,rfl,h.symm⟩
 | x::l,j+1,cs,h=>by
  have h:y5 (A6 k l) j=.box cs:=by cases x <;> exact h
  exact a2L (l:=l) h
theorem a0J {k:Nat}:∀ {l:List O} {j:Nat} {z:Bool} {e:Nat} {r:List (List D)},y5 (A6 k l) j=.row z e r->y5 l j=.row z e r
 | [],j,z,e,r,h=>by cases j <;> cases h
 | x::l,0,z,e,r,h=>by
  cases x <;> first|(cases h;done)|exact h
 | x::l,j+1,z,e,r,h=>by
  have h:y5 (A6 k l) j=.row z e r:=by cases x <;> exact h
  exact a0J (l:=l) h
theorem b3s {k:Nat} {x:V} (h:b3f (a5y k x)=true):b3f x=true:=by
 cases x <;> first|rfl|exact h
theorem a79 {k:Nat}:∀ {l:List V},a1F (A0 k l)=true->a1F l=true
 | [],_=>rfl
 | x::l,h=>by
  rw[A0,a1F] at h;rw[a1F];cases e:b3f (a5y k x) with
  | false=>rw[e] at h;cases h
  | true=>rw[e] at h;rw[b3s e];exact a79 h
theorem b1c {k:Nat} {v:V} {cs:List V} (h:a0r (C8 k v)=some cs):∃ds,a0r v=some ds/\cs=A0 k ds:=by
 cases v with
 | ag l =>
  have h:(match a1F (A0 k l) with|true=>some (A0 k l)|false=>none)=some cs:=h;cases e:a1F (A0 k l) with
  | false=>rw[e] at h;cases h
  | true =>
   rw[e] at h;injection h with h;exact⟨l,by rw[a0r,a79 e],h.symm⟩
 | tu l=>cases l <;> cases h
 | own j =>
  have h:a0r (match K7 j k with|true=>.jk|false=>.own j)=some cs:=h;refine⟨[.own j],rfl,?_⟩;show cs=[match K7 j k with|true=>.jk|false=>.own j];cases e:K7 j k with
  | true=>rw[e] at h;cases h
  | false=>rw[e] at h;injection h with h;exact h.symm
 | el j i z o =>
  have h:a0r (match K7 j k with|true=>.jk|false=>.el j i z o)=some cs:=h;refine⟨[.el j i z o],rfl,?_⟩;show cs=[match K7 j k with|true=>.jk|false=>.el j i z o];cases e:K7 j k with
  | true=>rw[e] at h;cases h
  | false=>rw[e] at h;injection h with h;exact h.symm
 | jk=>cases h
 | _=>exact⟨_,rfl,by injection h with h;exact h.symm⟩
theorem a7A {k:Nat}:∀l:List V,G5 (A0 k l)=G5 l
 | []=>rfl
 | x::l=>by rw[A0,G5,a7A l,G5]
theorem a1V {k:Nat}:∀ {l:List V} {n:Nat} {ys l':List V},splice (A0 k l) n (A0 k ys)=some l'->∃m,splice l n ys=some m/\l'=A0 k m
 | l,0,[],l',h=>by
  have h:some (A0 k l)=some l':=by cases l <;> exact h
  injection h with h;exact⟨l,by cases l <;> rfl,h.symm⟩
 | x::l,0,y::ys,l',h=>by
  rw[A0,A0,splice] at h;cases e:splice (A0 k l) 0 (A0 k ys) with
  | none=>rw[e] at h;cases h
  | some m' =>
   rw[e] at h;injection h with h;obtain⟨m,h1,h2⟩:=a1V e;exact⟨y::m,by rw[splice,h1],by rw[<-h,h2];rfl⟩
 | x::l,n+1,ys,l',h=>by
  have h:(match splice (A0 k l) n (A0 k ys) with|some t=>some (a5y k x::t)|none=>none)=some l':=by rw[<-h,A0,splice];cases splice (A0 k l) n (A0 k ys) <;> rfl
  cases e:splice (A0 k l) n (A0 k ys) with
  | none=>rw[e] at h;cases h
  | some m' =>
   rw[e] at h;injection h with h;obtain⟨m,h1,h2⟩:=a1V e;refine⟨x::m,?_,by rw[<-h,h2];rfl⟩;have h3:splice (x::l) (n+1) ys=(match splice l n ys with|some t=>some (x::t)|none=>none):=by rw[splice];cases splice l n ys <;> rfl
   rw[h3,h1]
 | [],n+1,ys,l',h=>by cases ys <;> cases h
 | [],0,y::ys,l',h=>by cases h
theorem a1u {k:Nat} {g g':Operand->V} {place:List (Nat×Nat)}:∀ {ps:List (Nat×Operand)} {l l':List V},(∀p∈ps,g' p.2=C8 k (g p.2))->U3 g' place ps (A0 k l)=some l'->∃m,U3 g place ps l=some m/\l'=A0 k m
 | [],l,l',_,h=>⟨l,rfl,by injection h with h;exact h.symm⟩
 | (i,x)::ps,l,l',hg,h=>by
  rw[U3] at h ⊢
  split at h <;> try (cases h;done)
  rename_i off sz hp;rw[hg _ (List.mem_cons_self ..)] at h
  split at h <;> try (cases h;done)
  rename_i cs hc;obtain⟨ds,h1,rfl⟩:=b1c hc;rw[a7A] at h;simp only[hp,h1]
  split at h <;> try (cases h;done)
  rename_i hl
  split at h <;> try (cases h;done)
  rename_i l2 h2;obtain⟨m2,h3,rfl⟩:=a1V h2;simp only[hl,h3];exact a1u (λp hp=>hg p (List.mem_cons_of_mem _ hp)) h
theorem b4U {k:Nat} {os o':List O} (hB:a3a k os o') {x:V} {y:D} (h:toD o' (a5y k x)=some y):toD os x=some y:=by
 cases x with
 | own j =>
  have h:toD o' (match K7 j k with|true=>.jk|false=>.own j)=some y:=h;cases e:K7 j k with
  | true=>rw[e] at h;cases h
  | false =>
   rw[e] at h;have h:(match y5 o' j with|.row true e rows=>some (D.sl (ty e).sz rows)|_=>none)=some y:=h;rw[hB.1 j (a1l.1 e)] at h;show (match y5 os j with|.row true e rows=>some (D.sl (ty e).sz rows)|_=>none)=some y
   split at h
   ·rename_i e2 rows h2;rw[a0J h2];exact h
   ·cases h
 | el j i z o =>
  have h:toD o' (match K7 j k with|true=>.jk|false=>.el j i z o)=some y:=h;cases e:K7 j k <;> rw[e] at h <;> cases h
 | cl f ks=>cases ks <;> exact h
 | _=>exact h
theorem a7B {k:Nat} {os o':List O} (hB:a3a k os o'):∀ {l:List V} {ds:List D},a2U o' (A0 k l)=some ds->a2U os l=some ds
 | [],ds,h=>h
 | x::l,ds,h=>by
  rw[A0,a2U] at h;rw[a2U]
  split at h <;> try (cases h;done)
  rename_i y hy
  split at h <;> try (cases h;done)
  rename_i ys hys;rw[b4U hB hy,a7B hB hys];exact h
theorem a4x {k:Nat} {v:V}:∀ {l:List V} {i:Nat},E5 k (I4 l i v)=I4 (E5 k l) i (C8 k v)
 | [],i=>rfl
 | _::_,0=>rfl
 | x::l,i+1=>by rw[I4,E5,a4x (l:=l),E5,I4]
theorem a0m {k:Nat}:∀ {l:List V} {i:Nat},o6 (E5 k l) i=C8 k (o6 l i)
 | [],i=>rfl
 | _::_,0=>rfl
 | x::l,i+1=>by rw[E5,o6,o6,a0m (l:=l)]
theorem b6N {kk:Option Nat} {v:V} {l:List V} {i:Nat}:klT kk (I4 l i v)=I4 (klT kk l) i (klV kk v):=by cases kk <;> first|rfl|exact a4x
theorem b2r {kk:Option Nat} {s:S} {d:Option Nat} {v:V} {o:List O}:(⟨klT kk (s.put d v).t,o⟩:S)=S.put ⟨klT kk s.t,o⟩ d (klV kk v):=by
 cases d with
 | none=>rfl
 | some d=>simp only[S.put,b6N]
theorem b2s {kk:Option Nat} {s:S} {o:List O} (x:Operand):(⟨klT kk s.t,o⟩:S).get x=klV kk (s.get x):=by
 cases kk with
 | none=>cases x <;> rfl
 | some k =>
  cases x with
  | tmp i=>exact a0m
  | const v=>cases v <;> first|rfl|(simp only[S.get,klV];unfold a4d;split <;> rfl)
  | global g=>rfl
  | func f=>rfl
theorem b6O {kk:Option Nat} {g g':Operand->V} {os os':List O} {op:Op} (hb:b4R op=true) (hg:∀x∈op.operands,g' x=klV kk (g x)) {K:V->Prop} (h:E6 j1 g' os' K op):∃v,K (klV kk v)/\∀K',K' v->E6 j1 g os K' op:=by
 have keep:∀ {v w:V},klV kk v=w->((∃k o,w=.ptr k o)\/(∃f ks,w=.cl f ks)\/(∃k i z o,w=.el k i z o)\/∃cs o,w=.ro cs o)->v=w:=λ{v w} e hw=>by
  cases kk with
  | none=>exact e
  | some k =>
   have e:C8 k v=w:=e;cases v with
   | ag cs=>subst e;simp[C8] at hw
   | tu cs=>subst e;cases cs <;> simp[C8] at hw
   | own j =>
    subst e;have e2:C8 k (.own j)=match K7 j k with|true=>.jk|false=>.own j:=rfl
    rw[e2] at hw;cases he:K7 j k <;> rw[he] at hw <;> simp at hw
   | el j i z o =>
    subst e;have e2:C8 k (.el j i z o)=match K7 j k with|true=>.jk|false=>.el j i z o:=rfl
    rw[e2] at hw ⊢;cases he:K7 j k <;> rw[he] at hw <;> simp at hw ⊢
   | _=>exact e
 cases op <;> first|cases hb;done|skip
 ·rename_i x;rw[show E6 j1 g' os' K (.move x)=K (g' x) from rfl,hg x (by simp[Op.operands])] at h;exact⟨_,h,λK' hk=>hk⟩
 ·rename_i x;rw[show E6 j1 g' os' K (.nilCheck x)=nnV K (g' x) from rfl] at h;have e:=hg x (by simp[Op.operands]);generalize g' x=w at h e;unfold nnV at h
  split at h <;> try exact h.elim
  all_goals
   have e':=keep e.symm (by simp);refine⟨g x,by rw[<-e];exact h,λK' hk=>?_⟩;show nnV K' (g x);rw[e'] at hk ⊢;exact hk
 ·rename_i t x i;rw[show E6 j1 g' os' K (.fieldAddr t x i)=N1 K t i (g' x) from rfl] at h;have e:=hg x (by simp[Op.operands]);generalize g' x=w at h e;unfold N1 at h
  split at h <;> try exact h.elim
  rename_i off sz hf
  split at h <;> try exact h.elim
  ·rename_i k o;have e':=keep e.symm (by simp);refine⟨.ptr k (o+off),by cases kk <;> exact h,λK' hk=>?_⟩;show N1 K' t i (g x);unfold N1;rw[hf,e'];exact hk
  ·rename_i cs o;have e':=keep e.symm (by simp);refine⟨.ro cs (o+off),by cases kk <;> exact h,λK' hk=>?_⟩;show N1 K' t i (g x);unfold N1;rw[hf,e'];exact hk
  ·rename_i k i' z o;have e':=keep e.symm (by simp)
   have e3:klV kk (.el k i' z (o+off))=.el k i' z (o+off):=by
    rw[e'] at e;cases kk with
    | none=>rfl
    | some j =>
     have e4:(V.el k i' z o)=match K7 k j with|true=>V.jk|false=>V.el k i' z o:=e
     show (match K7 k j with|true=>V.jk|false=>V.el k i' z (o+off))=_;cases he:K7 k j with
     | true=>rw[he] at e4;cases e4
     | false=>rfl
   refine⟨.el k i' z (o+off),by rw[e3];exact h,λK' hk=>?_⟩;show N1 K' t i (g x);unfold N1;rw[hf,e'];exact hk
theorem b6P {k:Nat} {g g':Operand->V} {os o':List O} {op:Op} (hb:a87 op=true) (hB:a3a k os o') (hg:∀x∈op.operands,g' x=C8 k (g x)) {K:V->Prop} (h:E6 j1 g' o' K op):∃v,K (C8 k v)/\∀K',K' v->E6 j1 g os K' op:=by
 unfold a87 at hb
 split at hb
 ·rename_i t x;rw[show E6 j1 g' o' K (.load t x)=E0 j1 o' K t (g' x) from rfl,hg x (by simp[Op.operands])] at h;have goal:∀ {v:V} {K':V->Prop},E0 j1 os K' t (g x)->E6 j1 g os K' (.load t x):=λh=>h
  show ∃v,K (C8 k v)/\∀K',K' v->E0 j1 os K' t (g x);generalize g x=u at h;have fin:∀ {l:List V} {K:V->Prop},(match a0O (ty t).agg (A0 k l) with|some x=>K x|none=>False)->K (C8 k (.ag l)):=λh=>by rw[hb] at h;exact h
  cases u with
  | ptr j off =>
   have h:(match y5 o' j with|.box cs=>(match H6 (ty t).sz (K9 off cs) with|some l=>(match a0O (ty t).agg l with|some x=>K x|none=>False)|none=>False)|_=>False):=h;show ∃v,K (C8 k v)/\∀K':V->Prop,K' v->(match y5 os j with|.box cs=>(match H6 (ty t).sz (K9 off cs) with|some l=>(match a0O (ty t).agg l with|some x=>K' x|none=>False)|none=>False)|_=>False)
   split at h <;> try exact h.elim
   rename_i cs hc;have hj:j≠k:=λe=>hB.2 cs (by rw[<-e];exact hc)
   rw[hB.1 j hj] at hc;obtain⟨ds,h1,rfl⟩:=a2L hc;rw[a6h] at h
   split at h <;> try exact h.elim
   rename_i l' hl;obtain⟨m,h2,rfl⟩:=a6i hl;refine⟨.ag m,fin h,λK' hk=>?_⟩;rw[h1];simp only[h2,hb];exact hk
  | ro cs off =>
   have h:(match H6 (ty t).sz (K9 off cs) with|some l=>(match a0O (ty t).agg (ofD l) with|some x=>K x|none=>False)|none=>False):=h;show ∃v,K (C8 k v)/\∀K':V->Prop,K' v->(match H6 (ty t).sz (K9 off cs) with|some l=>(match a0O (ty t).agg (ofD l) with|some x=>K' x|none=>False)|none=>False)
   split at h <;> try exact h.elim
   rename_i l hl;rw[<-a4w (k:=k)] at h;exact⟨.ag (ofD l),fin h,λK' hk=>by simp only[hb];exact hk⟩
  | el j i z off =>
   have h:E0 j1 o' K t (match K7 j k with|true=>.jk|false=>.el j i z off):=h;cases e:K7 j k with
   | true=>rw[e] at h;exact h.elim
   | false =>
    rw[e] at h;have h:(match y5 o' j with|.row _ e rows=>(match K7 (ty e).sz z with|true=>(match j1.get rows i with|some row=>(match H6 (ty t).sz (K9 off row) with|some l=>(match a0O (ty t).agg (ofD l) with|some x=>K x|none=>False)|none=>False)|none=>False)|false=>False)|_=>False):=h;show ∃v,K (C8 k v)/\∀K':V->Prop,K' v->(match y5 os j with|.row _ e rows=>(match K7 (ty e).sz z with|true=>(match j1.get rows i with|some row=>(match H6 (ty t).sz (K9 off row) with|some l=>(match a0O (ty t).agg (ofD l) with|some x=>K' x|none=>False)|none=>False)|none=>False)|false=>False)|_=>False);rw[hB.1 j (a1l.1 e)] at h
    split at h <;> try exact h.elim
    rename_i e' rows hr;rw[a0J hr];simp only
    split at h <;> try exact h.elim
    rename_i hz
    split at h <;> try exact h.elim
    rename_i row hrow
    split at h <;> try exact h.elim
    rename_i l hl;rw[<-a4w (k:=k)] at h;exact⟨.ag (ofD l),fin h,λK' hk=>by simp only[hz,hrow,hl,hb];exact hk⟩
  | own j =>
   have h:E0 j1 o' K t (match K7 j k with|true=>.jk|false=>.own j):=h;cases e:K7 j k <;> rw[e] at h <;> exact h.elim
  | tu l=>cases l <;> exact h.elim
  | _=>exact h.elim
 ·rename_i t ps;have h:a1j g' K t ps.toList:=h;have hg':∀p∈ps.toList,g' p.2=C8 k (g p.2):=λp hp=>hg _ (by simp[Op.operands];exact⟨p.1,by simpa using hp⟩)
  show ∃v,K (C8 k v)/\∀K',K' v->a1j g K' t ps.toList;unfold a1j at h ⊢;cases hk:(ty t).kind <;> simp only[hk] at h <;> first|exact h.elim|simp only[]
  ·rw[<-a0j (k:=k)] at h
   split at h <;> try exact h.elim
   rename_i l' hl;obtain⟨m,h1,rfl⟩:=a1u hg' hl;exact⟨.ag m,h,λK' hk=>by rw[h1];exact hk⟩
  ·split at h <;> try exact h.elim
   rename_i e he
   try simp only[he]
   rw[<-a0j (k:=k)] at h
   split at h <;> try exact h.elim
   rename_i l' hl;obtain⟨m,h1,rfl⟩:=a1u hg' hl;exact⟨.ag m,h,λK' hk=>by rw[h1];exact hk⟩
 ·rename_i t n ps;have h:C9 g' o' K t (n+1) ps.toList:=h;have hg':∀p∈ps.toList,g' p.2=C8 k (g p.2):=λp hp=>hg _ (by simp[Op.operands];exact⟨p.1,by simpa using hp⟩)
  show ∃v,K (C8 k v)/\∀K',K' v->C9 g os K' t (n+1) ps.toList;unfold C9 at h ⊢
  split at h <;> try exact h.elim
  rename_i e he;simp only[he];simp only at h;rw[show a2G (C6 (ty e).zero) (n+1) []=A0 k (a2G (C6 (ty e).zero) (n+1) []) from(a4S (k:=k) (ty e).zero (n+1) []).symm] at h
  split at h <;> try exact h.elim
  rename_i l' hl;obtain⟨m,h1,rfl⟩:=a1u hg' hl
  split at h <;> try exact h.elim
  rename_i ds hds
  split at h <;> try exact h.elim
  rename_i rows hrows;exact⟨.d (.sl (ty e).sz rows),h,λK' hk=>by simp only[h1,a7B hB hds,hrows];exact hk⟩
 ·cases hb
theorem a7C {o:O}:∀ {l:List O} {k:Nat},y5 l k≠.dead->y5 (y8 l o) k=y5 l k
 | [],k,h=>absurd rfl h
 | _::_,0,_=>rfl
 | x::l,k+1,h=>by rw[y8,y5,y5];rw[y5] at h;exact a7C h
theorem a1W {o:O} {l:List O} {k:Nat} {x:O} (h:y5 l k=x) (hd:x≠.dead):y5 (y8 l o) k=x:=by rw[a7C (by rw[h];exact hd),h]
theorem b3t {o:O} {os:List O} {x:V} {r:Option Nat×List (List D)} (h:J9 os x=some r):J9 (y8 os o) x=some r:=by
 unfold J9 at h ⊢
 split at h
 ·exact h
 ·exact h
 ·split at h
  ·rename_i hok;rw[a1W hok (by simp)];exact h
  ·cases h
 ·cases h
theorem b4V {o:O} {os:List O} {x:V} {r:Nat×Nat×List (List D)} (h:a5d os x=some r):a5d (y8 os o) x=some r:=by
 unfold a5d at h ⊢
 split at h
 ·split at h
  ·rename_i hok;simp only[a1W hok (by simp)];exact h
  ·cases h
 ·cases h
theorem b3u {g:Operand->V} {os:List O} {o:O} {K:V->Prop} {op:Op} (hb:b8i op=true) (h:E6 j1 g os K op):E6 j1 g (y8 os o) K op:=by
 cases op <;> first|cases hb;done|exact h|skip
 ·rename_i t x;have h:E0 j1 os K t (g x):=h;show E0 j1 (y8 os o) K t (g x);generalize g x=v at h;unfold E0 at h ⊢
  split at h <;> try exact h.elim
  ·split at h <;> try exact h.elim
   rename_i hok;simp only[a1W hok (by simp)];exact h
  ·exact h
  ·split at h <;> try exact h.elim
   rename_i hok;simp only[a1W hok (by simp)];exact h
 ·rename_i t x i;have h:s9 j1 os K t (g x) (g i):=h;show s9 j1 (y8 os o) K t (g x) (g i);generalize g x=v at h;generalize g i=u at h;unfold s9 at h ⊢
  split at h <;> try exact h.elim
  split at h
  ·exact h
  ·split at h <;> try exact h.elim
   split at h
   ·exact h
   split at h
   ·rename_i hraw;rw[b4V hraw];exact h
   ·rename_i hraw
    split at h <;> try exact h.elim
    rename_i hrows
    have e:a5d (y8 os o) v=none:=by
     unfold a5d
     split
     ·rename_i k;unfold J9 at hrows;simp only at hrows
      split at hrows
      ·rename_i hok;rw[a1W hok (by simp)]
      ·cases hrows
     ·rfl
    rw[e,b3t hrows];exact h
theorem a2M (s:S) (d:Option Nat) (v:V):(s.put d v).o=s.o:=by cases d <;> rfl
theorem a0n {l:List Nat} {s:S} {d:Option Nat} {v:V} (h:I5 d l=true):a6d l s (s.put d v):=(H8 (G9 h)).2
theorem c0p {dsts:List (Option Nat)} {x y:Oper} (h:a2z dsts x y=true) {s:S} {K:S->Prop} (hx:m9 j1 dsts x s λs=>m9 j1 dsts y s K):m9 j1 dsts y s λs=>m9 j1 dsts x s K:=by
 simp only[a2z,Bool.and_eq_true] at h;obtain⟨v,h1,h2⟩:=a3B h.1.1 hx;obtain⟨o',h3,h4⟩:=a6e (by simpa [a9C] using h.1.2) h1;refine h4 s _ (a2M ..).symm (λt ht=>(a0n h.2 t ht).symm) (h2 _ _ (λ_ _=>rfl) ?_);rw[<-Y7 s.t s.o o'];exact h3
theorem c0q {dsts:List (Option Nat)} {x y:Oper} (h:a2z dsts x y=true) {s:S} {K:S->Prop} (hy:m9 j1 dsts y s λs=>m9 j1 dsts x s K):m9 j1 dsts x s λs=>m9 j1 dsts y s K:=by
 simp only[a2z,Bool.and_eq_true] at h;obtain⟨o',h1,h2⟩:=a6e (by simpa [a9C] using h.1.2) hy;obtain⟨v,h3,h4⟩:=a3B h.1.1 h1;refine h4 s _ (λ_ _=>rfl) (h2 _ _ (a2M ..) (a0n h.2) ?_);rw[<-Y7 s.t s.o o'] at h3;exact h3
theorem c0r {dsts:List (Option Nat)} {x y:Oper} (h:a88 dsts x y=true) {s:S} {K:S->Prop} (hx:m9 j1 dsts x s λs=>m9 j1 dsts y s K):m9 j1 dsts y s λs=>m9 j1 dsts x s K:=by
 obtain⟨xd,xop,xty,xpos,xaf,xg⟩:=x;obtain⟨yd,yop,yty,ypos,yaf,yg⟩:=y;simp only[a88,Bool.and_eq_true] at h;obtain⟨⟨⟨⟨⟨⟨⟨h1,h2⟩,h3⟩,h4⟩,h5⟩,h6⟩,h7⟩,h8⟩:=h;cases xg with
 | some g=>cases h2
 | none =>
  cases yg with
  | some g=>cases h5
  | none =>
   cases xd with
   | none=>cases h3
   | some d =>
    have hx':B6 j1 false s (some d) (λs=>m9 j1 dsts ⟨yd,yop,yty,ypos,yaf,none⟩ s K) xop:=hx;obtain⟨k,o',hB,h9,h10⟩:=b8N h1 hx';have h9:B6 j1 false (S.put ⟨E5 k s.t,o'⟩ (some d) (.own k)) yd K yop:=h9
    have hcalm:a38 yop=true:=by
     rcases Bool.or_eq_true_iff.1 h4 with h4|h4
     ·cases yop <;> first|rfl|cases h4
     ·unfold a87 at h4
      split at h4 <;> first|rfl|cases h4
    rw[F5 hcalm] at h9;have hl:∀t∈Vm.tmps yop.operands.toList,t∈looks dsts ⟨yd,yop,yty,ypos,yaf,none⟩:=λt ht=>by simp[looks,ht]
    have hgz:∀z∈yop.operands,(S.put ⟨E5 k s.t,o'⟩ (some d) (.own k)).get z=C8 k (s.get z):=λz hz=>by
     have hs:a03 (looks dsts ⟨yd,yop,yty,ypos,yaf,none⟩) (⟨E5 k s.t,o'⟩:S) (S.put ⟨E5 k s.t,o'⟩ (some d) (.own k)):=H8 (G9 h6);rw[(hs.ops (xs:=yop.operands.toList) hl) z (by simpa using hz)];exact b2s (kk:=some k) z
    obtain⟨v,h11,h12⟩:∃v,K (S.put (S.put ⟨E5 k s.t,o'⟩ (some d) (.own k)) yd (C8 k v))/\∀K',K' v->E6 j1 s.get s.o K' yop:=by
     rcases Bool.or_eq_true_iff.1 h4 with h4|h4
     ·exact b6O (kk:=some k) (g:=s.get) (os:=s.o) h4 hgz h9
     ·exact b6P h4 hB hgz h9
    show B6 j1 false s yd (λs=>m9 j1 dsts ⟨some d,xop,xty,xpos,xaf,none⟩ s K) yop;rw[F5 hcalm];refine h12 _ ?_;show B6 j1 false (s.put yd v) (some d) K xop;have hs2:a03 (looks dsts ⟨some d,xop,xty,xpos,xaf,none⟩) s (s.put yd v):=H8 (G9 h7);have hlx:∀t∈Vm.tmps xop.operands.toList,t∈looks dsts ⟨some d,xop,xty,xpos,xaf,none⟩:=λt ht=>by simp[looks,ht]
    have e:s.put yd v=⟨(s.put yd v).t,s.o⟩:=by cases yd <;> rfl
    rw[e];refine h10 _ _ (λz hz=>?_) ?_
    ·rw[<-e];exact hs2.ops hlx z (by simpa using hz)
    have hne:∀z,yd=some z->some d≠some z:=λz hz hz'=>by
     subst hz;rw[hz'] at h8
     simp at h8
    have e2:(⟨E5 k (s.put yd v).t,o'⟩:S)=S.put ⟨E5 k s.t,o'⟩ yd (C8 k v):=b2r (kk:=some k);rw[e2,a0Y hne];exact h11
theorem c0s {dsts:List (Option Nat)} {x y:Oper} (h:b0Z dsts x y=true) {s:S} {K:S->Prop} (hx:m9 j1 dsts x s λs=>m9 j1 dsts y s K):m9 j1 dsts y s λs=>m9 j1 dsts x s K:=by
 obtain⟨xd,xop,xty,xpos,xaf,xg⟩:=x;obtain⟨yd,yop,yty,ypos,yaf,yg⟩:=y;simp only[b0Z,Bool.and_eq_true] at h;obtain⟨⟨⟨⟨⟨h1,h2⟩,h3⟩,h4⟩,h5⟩,h6⟩:=h;cases xg with
 | some g=>cases h2
 | none =>
  cases yg with
  | some g=>cases h4
  | none =>
   cases yop <;> first|cases h3;done|skip
   rename_i e;have hcalm:a38 xop=true:=by cases xop <;> first|rfl|cases h1
   have hx':B6 j1 false s xd (λs=>m9 j1 dsts ⟨yd,.alloc e,yty,ypos,yaf,none⟩ s K) xop:=hx;rw[F5 hcalm] at hx';obtain⟨v,h7,h8⟩:=a0W _ hx';have h7:(match a1F (C6 (ty e).zero) with|true=>K (((s.put xd v).obj (a4g e)).put yd (.ptr (o7 (s.put xd v).o) 0))|false=>False):=h7;show (match a1F (C6 (ty e).zero) with|true=>m9 j1 dsts ⟨xd,xop,xty,xpos,xaf,none⟩ ((s.obj (a4g e)).put yd (.ptr (o7 s.o) 0)) K|false=>False);cases hon:a1F (C6 (ty e).zero) with
   | false=>rw[hon] at h7;exact h7.elim
   | true =>
    rw[hon] at h7;simp only at h7 ⊢;show B6 j1 false ((s.obj (a4g e)).put yd (.ptr (o7 s.o) 0)) xd K xop;rw[F5 hcalm,a2M];have hl:∀t∈Vm.tmps xop.operands.toList,t∈looks dsts ⟨xd,xop,xty,xpos,xaf,none⟩:=λt ht=>by simp[looks,ht]
    have hs:a03 (looks dsts ⟨xd,xop,xty,xpos,xaf,none⟩) (s.obj (a4g e)) ((s.obj (a4g e)).put yd (.ptr (o7 s.o) 0)):=H8 (G9 h5);have hops:=hs.ops (xs:=xop.operands.toList) hl;rw[a09 (g':=(s.obj (a4g e)).get) λz hz=>hops z (by simpa using hz)]
    have h9:=h8 (λw=>K (S.put ((s.obj (a4g e)).put yd (.ptr (o7 s.o) 0)) xd w)) (by
     have e1:o7 (s.put xd v).o=o7 s.o:=by rw[a2M]
     rw[e1] at h7;have e2:(s.put xd v).obj (a4g e)=(s.obj (a4g e)).put xd v:=by cases xd <;> rfl
     rw[e2] at h7
     have hne:∀z,yd=some z->xd≠some z:=λz hz hz'=>by
      subst hz;subst hz'
      simp at h6
     rw[a0Y hne]
     exact h7)
    exact b3u (g:=(s.obj (a4g e)).get) h1 h9
theorem c0t {dsts:List (Option Nat)} {x y:Oper} (h:b1a dsts x y=true) {s:S} {K:S->Prop} (hx:m9 j1 dsts x s λs=>m9 j1 dsts y s K):m9 j1 dsts y s λs=>m9 j1 dsts x s K:=by
 obtain⟨xd,xop,xty,xpos,xaf,xg⟩:=x;obtain⟨yd,yop,yty,ypos,yaf,yg⟩:=y;simp only[b1a,Bool.and_eq_true] at h;obtain⟨⟨⟨⟨⟨⟨⟨h1,h2⟩,h3⟩,h4⟩,h5⟩,h6⟩,h7⟩,h8⟩:=h;cases xg with
 | some g=>cases h2
 | none =>
  cases yg with
  | some g=>cases h4
  | none =>
   cases yd with
   | none=>cases h5
   | some d =>
    cases xop <;> first|cases h1;done|skip
    rename_i r;unfold a73 at h3
    split at h3
    ·rename_i p q t t';have hx':H4 j1 false (s.put xd (s.get r)) (some d) K t ((s.put xd (s.get r)).get p) ((s.put xd (s.get r)).get q):=hx;have hs2:a03 (looks dsts ⟨some d,.call ⟨.builtin .append,⟨[p,q]⟩,⟨[t,t']⟩⟩,yty,ypos,yaf,none⟩) s (s.put xd (s.get r)):=H8 (G9 h6);have hops:=hs2.ops (xs:=[p,q]) λt ht=>by simp[looks,Op.operands,Call.operands];simpa using ht
     rw[hops p (by simp),hops q (by simp)] at hx';obtain⟨kk,o',k',h9,h10⟩:=a77 hx';have e:s=⟨s.t,(s.put xd (s.get r)).o⟩:=by cases xd <;> rfl
     show H4 j1 false s (some d) (λs=>m9 j1 dsts ⟨xd,.move r,xty,xpos,xaf,none⟩ s K) t (s.get p) (s.get q)
     have h11:=h10 s.t (λs=>m9 j1 dsts ⟨xd,.move r,xty,xpos,xaf,none⟩ s K) (by
      show K (S.put (S.put ⟨klT kk s.t,o'⟩ (some d) (.own k')) xd ((S.put ⟨klT kk s.t,o'⟩ (some d) (.own k')).get r));have hs:a03 (looks dsts ⟨xd,.move r,xty,xpos,xaf,none⟩) (⟨klT kk s.t,o'⟩:S) (S.put ⟨klT kk s.t,o'⟩ (some d) (.own k')):=H8 (G9 h7);rw[hs.ops (xs:=[r]) (λt ht=>by simp[looks,Op.operands];simpa using ht) r (by simp),b2s r];rw[b2r] at h9
      have hne:∀z,(some d:Option Nat)=some z->xd≠some z:=λz hz hz'=>by
       subst hz';rw[<-hz] at h8
       simp at h8
      rw[a0Y hne]
      exact h9)
     rw[<-e] at h11;exact h11
    ·cases h3
theorem c0u {dsts:List (Option Nat)} {x y:Oper} (h:b4T dsts x y=true) {s:S} {K:S->Prop} (hx:m9 j1 dsts x s λs=>m9 j1 dsts y s K):m9 j1 dsts y s λs=>m9 j1 dsts x s K:=by
 simp only[b4T,Bool.or_eq_true] at h
 rcases h with ((((h|h)|h)|h)|h)|h
 ·exact c0o h hx
 ·exact c0p h hx
 ·exact c0q h hx
 ·exact c0r h hx
 ·exact c0s h hx
 ·exact c0t h hx
theorem a7D (v:V):F8 .jk v=true:=by cases v <;> rfl
theorem b3v (u:V):F8 u .jk=true:=by cases u <;> rfl
theorem a6j (k:Nat) (w:V):C8 k w=.jk\/((∀v,F8 w v=true->F8 (C8 k w) v=true)/\∀u,F8 u w=true->F8 u (C8 k w)=true):=by
 cases w with
 | own j =>
  have e2:C8 k (.own j)=match K7 j k with|true=>V.jk|false=>.own j:=rfl
  rw[e2];cases K7 j k
  ·exact .inr ⟨λ_ h=>h,λ_ h=>h⟩
  ·exact .inl rfl
 | el j i z o =>
  have e2:C8 k (.el j i z o)=match K7 j k with|true=>V.jk|false=>.el j i z o:=rfl
  rw[e2];cases K7 j k
  ·exact .inr ⟨λ_ h=>h,λ_ h=>h⟩
  ·exact .inl rfl
 | ag cs=>exact .inr ⟨λv _=>by cases v <;> rfl,λu _=>by cases u <;> rfl⟩
 | tu l =>
  cases l with
  | nil=>exact .inr ⟨λ_ h=>h,λ_ h=>h⟩
  | cons x l=>exact .inl rfl
 | _=>exact .inr ⟨λ_ h=>h,λ_ h=>h⟩
theorem a9D {kk:Option Nat} {u v:V} (h:F8 u v=true):F8 (klV kk u) (klV kk v)=true:=by
 cases kk with
 | none=>exact h
 | some k =>
  show F8 (C8 k u) (C8 k v)=true
  rcases a6j k u with e|h1
  ·rw[e];exact a7D _
  ·rcases a6j k v with e|h2
   ·rw[e];exact b3v _
   ·exact h1.1 _ (h2.2 _ h)
def PP (prs:List (Nat×Nat)) (s:S):Prop:=∀p∈prs,F8 (o6 s.t p.1) (o6 s.t p.2)=true
theorem b8j:∀ {prs:List (Nat×Nat)} {s:S},a7y prs s.t=true->PP prs s
 | [],s,_,p,hp=>by simp at hp
 | (i,k)::l,s,h,p,hp=>by
  rw[a7y] at h
  split at h
  ·rename_i h1
   rcases List.mem_cons.1 hp with rfl|hp
   ·exact h1
   ·exact b8j (prs:=l) h p hp
  ·cases h
def b4W (prs:List (Nat×Nat)) (d:Option Nat):Prop:=∀p∈prs,d≠some p.1/\d≠some p.2
theorem b2t {kk:Option Nat} {l:List V} {i:Nat}:o6 (klT kk l) i=klV kk (o6 l i):=by
 cases kk with
 | none=>rfl
 | some k=>exact a0m
theorem PP.next {prs:List (Nat×Nat)} {s:S} (h:PP prs s) {kk:Option Nat} {d:Option Nat} {v:V} {o':List O} (hf:b4W prs d):PP prs (S.put ⟨klT kk s.t,o'⟩ d v):=λp hp=>by
 have key:∀i,d≠some i->o6 (S.put ⟨klT kk s.t,o'⟩ d v).t i=klV kk (o6 s.t i):=λi hi=>by
  cases d with
  | none=>exact b2t
  | some x =>
   show o6 (I4 (klT kk s.t) x v) i=_;rw[a0X (λe=>hi (by rw[e])),b2t]
 rw[key _ (hf p hp).1,key _ (hf p hp).2];exact a9D (h p hp)
theorem a6k {s:S} {dst:Option Nat} {K:S->Prop} {op:Op} (hx:B6 j1 false s dst K op):B6 j1 false s dst (λs'=>(∃kk v o',s'=S.put ⟨klT kk s.t,o'⟩ dst v)/\K s') op:=by
 have hC:∀ {v:V},∃kk u o',s.put dst v=S.put ⟨klT kk s.t,o'⟩ dst u:=λ{v}=>⟨none,v,s.o,rfl⟩
 have hO:∀ {o:O} {v:V},∃kk u o',(s.obj o).put dst v=S.put ⟨klT kk s.t,o'⟩ dst u:=λ{o v}=>⟨none,v,y8 s.o o,rfl⟩
 have hF:∀ {z:Bool} {e:Nat} {r:List (List D)} {v:V},∃kk u o',(s.fresh false (.row z e r)).put dst v=S.put ⟨klT kk s.t,o'⟩ dst u:=λ{z e r v}=>⟨some (o7 s.o),v,_,rfl⟩
 have calm:∀ {op:Op},E6 j1 s.get s.o (λv=>K (s.put dst v)) op->E6 j1 s.get s.o (λv=>(∃kk u o',s.put dst v=S.put ⟨klT kk s.t,o'⟩ dst u)/\K (s.put dst v)) op:=λh=>by
  obtain⟨v,h1,h2⟩:=a0W _ h;exact h2 _ ⟨hC,h1⟩
 unfold B6 at hx ⊢
 split at hx
 ·split at hx
  ·exact⟨hO,hx⟩
  ·exact hx.elim
 ·split at hx
  ·exact⟨hO,hx⟩
  ·exact hx.elim
 ·split at hx
  ·obtain⟨o',h1,h2⟩:=a4v hx;exact h2 _ _ ⟨⟨none,.jk,o',rfl⟩,h1⟩
  ·exact hx.elim
 ·unfold a1K at hx ⊢
  repeat' split at hx
  all_goals first|exact hx.elim|skip
  obtain⟨h1,z,h2⟩:=hx;exact⟨h1,z,hO,h2⟩
 ·split at hx
  ·split at hx
   ·exact⟨hO,hx⟩
   ·exact hx.elim
  ·exact hx.elim
 ·split at hx
  ·unfold a9v at hx ⊢
   repeat' split at hx
   all_goals first|exact hx.elim|exact⟨⟨none,.jk,_,rfl⟩,hx⟩
  ·exact hx.elim
 ·split at hx
  ·obtain⟨z,hx⟩:=hx;exact⟨z,hF,hx⟩
  ·exact hx.elim
 ·cases dst with
  | none =>
   unfold H4 at hx ⊢
   repeat' split at hx
   all_goals first|exact hx.elim|skip
   ·obtain⟨h1,z,h2⟩:=hx;exact⟨h1,z,hF,h2⟩
   ·obtain⟨h1,h2⟩:=hx;exact⟨h1,⟨some _,.jk,_,rfl⟩,h2⟩
  | some d =>
   obtain⟨kk,o',k',h1,h2⟩:=a77 hx;exact h2 s.t _ ⟨⟨kk,_,o',rfl⟩,h1⟩
 ·exact calm hx
 ·exact calm hx
 ·exact calm hx
 ·exact calm hx
theorem U9 {s:S} {dst:Option Nat} {K K':S->Prop} {op:Op} (hK:∀s,K s->K' s) (hx:B6 j1 false s dst K op):B6 j1 false s dst K' op:=by
 have calm:∀ {op:Op},E6 j1 s.get s.o (λv=>K (s.put dst v)) op->E6 j1 s.get s.o (λv=>K' (s.put dst v)) op:=λh=>by
  obtain⟨v,h1,h2⟩:=a0W _ h;exact h2 _ (hK _ h1)
 unfold B6 at hx ⊢
 split at hx
 ·split at hx
  ·exact hK _ hx
  ·exact hx.elim
 ·split at hx
  ·exact hK _ hx
  ·exact hx.elim
 ·split at hx
  ·obtain⟨o',h1,h2⟩:=a4v hx;exact h2 _ _ (hK _ h1)
  ·exact hx.elim
 ·unfold a1K at hx ⊢
  repeat' split at hx
  all_goals first|exact hx.elim|skip
  obtain⟨h1,z,h2⟩:=hx;exact⟨h1,z,hK _ h2⟩
 ·split at hx
  ·split at hx
   ·exact hK _ hx
   ·exact hx.elim
  ·exact hx.elim
 ·split at hx
  ·unfold a9v at hx ⊢
   repeat' split at hx
   all_goals first|exact hx.elim|exact hK _ hx
  ·exact hx.elim
 ·split at hx
  ·obtain⟨z,hx⟩:=hx;exact⟨z,hK _ hx⟩
  ·exact hx.elim
 ·unfold H4 at hx ⊢
  repeat' split at hx
  all_goals first|exact hx.elim|skip
  ·obtain⟨h1,z,h2⟩:=hx;exact⟨h1,z,hK _ h2⟩
  ·obtain⟨h1,h2⟩:=hx;exact⟨h1,hK _ h2⟩
 ·exact calm hx
 ·exact calm hx
 ·exact calm hx
 ·exact calm hx
theorem b1d {dsts:List (Option Nat)} {prs:List (Nat×Nat)} {o:Oper} {s:S} {K:S->Prop} (hP:PP prs s) (hf:b4W prs o.dst) (h:m9 j1 dsts o s K):m9 j1 dsts o s (λs'=>PP prs s'/\K s'):=by
 obtain⟨dst,op,type,pos,after,gd⟩:=o
 have hst:∀ {K:S->Prop},B6 j1 false s dst K op->B6 j1 false s dst (λs'=>PP prs s'/\K s') op:=λ{K} h=>by
  have h1:=a6k h;exact U9 (λs' ⟨⟨kk,v,o',e⟩,hk⟩=>⟨by rw[e];exact hP.next hf,hk⟩) h1
 cases gd with
 | none=>exact hst h
 | some jb =>
  obtain⟨j,b⟩:=jb
  have h':guard s dsts j (fun
   | some c=>match bEq c b with
    | true=>B6 j1 false s dst K op
    | false=>K (s.put dst T1)
   | none=>K (s.put dst T1)):=h
  obtain⟨c,h1,h2⟩:=a0z h';have hv:PP prs (s.put dst T1):=hP.next (kk:=none) (o':=s.o) hf
  show guard s dsts j (fun
   | some c=>match bEq c b with
    | true=>B6 j1 false s dst (λs'=>PP prs s'/\K s') op
    | false=>PP prs (s.put dst T1)/\K (s.put dst T1)
   | none=>PP prs (s.put dst T1)/\K (s.put dst T1))
  refine h2 _ ?_;cases c with
  | none=>exact⟨hv,h1⟩
  | some c =>
   simp only at h1 ⊢;cases hb:bEq c b with
   | true=>rw[hb] at h1;exact hst h1
   | false=>rw[hb] at h1;exact⟨hv,h1⟩
def a6l (prs:List (Nat×Nat)) (o:Oper):Prop:=∀p∈prs,o.dst≠some p.2/\(o.dst=some p.1->∃j,M4 o.op=some j/\(j,p.2)∈prs)
theorem b4X {prs:List (Nat×Nat)} {o:Oper} (h:b2m prs o=true):a6l prs o:=λp hp=>by
 unfold b2m at h;cases hd:o.dst with
 | none=>exact⟨by simp,λe=>by cases e⟩
 | some d =>
  rw[hd] at h;have h1:=List.all_eq_true.1 h p hp;rw[Bool.and_eq_true,Bool.or_eq_true,a1q,a1q] at h1;refine⟨λe=>?_,λe=>?_⟩
  ·have e:=Option.some.inj e;rw[B2.2 e] at h1;exact absurd h1.1 (by simp)
  ·have e:=Option.some.inj e
   rcases h1.2 with h2|h2
   ·rw[B2.2 e] at h2;exact absurd h2 (by simp)
   ·split at h2
    ·rename_i j hj;exact⟨j,hj,by simpa using h2⟩
    ·cases h2
theorem b3w {s:S} {dst:Option Nat} {K:S->Prop} {op:Op} {j:Nat} (ha:M4 op=some j) (h:B6 j1 false s dst K op):∃v,K (s.put dst v)/\(∀u,F8 (o6 s.t j) u=true->F8 v u=true)/\∀K':S->Prop,K' (s.put dst v)->B6 j1 false s dst K' op:=by
 have hc:a38 op=true:=by
  unfold M4 at ha
  split at ha <;> first|rfl|cases ha
 rw[F5 hc] at h;have hs:∀ {K':S->Prop} {v:V},E6 j1 s.get s.o (λv=>K' (s.put dst v)) op->B6 j1 false s dst K' op:=λ{K' v} hk=>by rw[F5 hc];exact hk
 unfold M4 at ha
 split at ha <;> try cases ha
 ·have h:K (s.put dst (o6 s.t j)):=h;exact⟨_,h,λu hu=>hu,λK' hk=>hs (v:=.jk) (show K' (s.put dst (o6 s.t j)) from hk)⟩
 ·have h:nnV (λv=>K (s.put dst v)) (o6 s.t j):=h;refine⟨o6 s.t j,?_,λu hu=>hu,λK' hk=>hs (v:=.jk) ?_⟩
  ·revert h;cases o6 s.t j <;> intro h <;> first|exact h|exact h.elim
  ·show nnV (λv=>K' (s.put dst v)) (o6 s.t j);revert h hk;cases o6 s.t j <;> intro h hk <;> first|exact hk|exact h.elim
 ·rename_i _ t i;have h:N1 (λv=>K (s.put dst v)) t i (o6 s.t j):=h
  have key:∃v,K (s.put dst v)/\(∀u,F8 (o6 s.t j) u=true->F8 v u=true)/\∀K':S->Prop,K' (s.put dst v)->N1 (λv=>K' (s.put dst v)) t i (o6 s.t j):=by
   generalize o6 s.t j=x at *;simp only[N1] at h ⊢
   split at h <;> try exact h.elim
   rename_i hf;cases x <;> try exact h.elim
   ·exact⟨_,h,λu hu=>by cases u <;> first|rfl|exact hu,λK' hk=>hk⟩
   ·exact⟨_,h,λu hu=>by cases u <;> first|rfl|exact hu,λK' hk=>hk⟩
   ·exact⟨_,h,λu hu=>by cases u <;> first|rfl|exact hu,λK' hk=>hk⟩
  obtain⟨v,h1,h2,h3⟩:=key;exact⟨v,h1,h2,λK' hk=>hs (v:=.jk) (h3 K' hk)⟩
 ·rename_i _ t i;have h:s9 j1 s.o (λv=>K (s.put dst v)) t (o6 s.t j) (s.get i):=h
  have key:∃v,K (s.put dst v)/\(∀u,F8 (o6 s.t j) u=true->F8 v u=true)/\∀K':S->Prop,K' (s.put dst v)->s9 j1 s.o (λv=>K' (s.put dst v)) t (o6 s.t j) (s.get i):=by
   generalize o6 s.t j=x at *;generalize s.get i=y at *;simp only[s9] at h ⊢
   split at h <;> try exact h.elim
   split at h
   ·split at h <;> try exact h.elim
    split at h <;> try exact h.elim
    cases x <;> try exact h.elim
    ·exact⟨_,h,λu hu=>by cases u <;> first|rfl|exact hu,λK' hk=>by first|(simp only[*,T3];done)|(simp only[*,T3];exact hk)⟩
    ·exact⟨_,h,λu hu=>by cases u <;> first|rfl|exact hu,λK' hk=>by first|(simp only[*,T3];done)|(simp only[*,T3];exact hk)⟩
    ·exact⟨_,h,λu hu=>by cases u <;> first|rfl|exact hu,λK' hk=>by first|(simp only[*,T3];done)|(simp only[*,T3];exact hk)⟩
   ·split at h <;> try exact h.elim
    rename_i e he
    split at h
    ·rename_i k m hb
     split at h <;> try exact h.elim
     rename_i j' hj
     obtain⟨k',n',rfl⟩:∃k' n',x=.bs k' n':=by
      cases x <;> first|exact⟨_,_,rfl⟩|cases hb
     cases hb;exact⟨_,h,λu hu=>by cases u <;> first|rfl|exact hu,λK' hk=>by first|(simp only[*,bsV];done)|(simp only[*,bsV];exact hk)⟩
    ·rename_i hb
     split at h
     ·rename_i k e' rows hr
      split at h <;> try exact h.elim
      rename_i he'
      split at h <;> try exact h.elim
      rename_i row hrow
      obtain rfl:x=.own k:=by
       unfold a5d at hr
       split at hr
       ·split at hr
        ·cases hr;rfl
        ·cases hr
       ·cases hr
      exact⟨_,h,λu hu=>by cases u <;> first|rfl|exact hu,λK' hk=>by first|(simp only[*];done)|(simp only[*];exact hk)⟩
     ·rename_i hr
      split at h <;> try exact h.elim
      rename_i sz rows hrw
      split at h <;> try exact h.elim
      rename_i hsz
      split at h <;> try exact h.elim
      rename_i row hrow;exact⟨_,h,λu hu=>rfl,λK' hk=>by first|(simp only[*];done)|(simp only[*];exact hk)⟩
  obtain⟨v,h1,h2,h3⟩:=key;exact⟨v,h1,h2,λK' hk=>hs (v:=.jk) (h3 K' hk)⟩
theorem a0K {v:V}:∀ {l:List V} {i:Nat},o6 (I4 l i v) i=v\/o6 (I4 l i v) i=.jk
 | [],i=>.inr rfl
 | x::l,0=>.inl rfl
 | x::l,i+1=>by rw[I4,o6];exact a0K
theorem PP.chain {prs:List (Nat×Nat)} {s:S} (h:PP prs s) {d:Option Nat} {v:V} (hv:∀p∈prs,d≠some p.2/\(d=some p.1->F8 v (o6 s.t p.2)=true)):PP prs (s.put d v):=λp hp=>by
 have key:∀i,d≠some i->o6 (s.put d v).t i=o6 s.t i:=λi hi=>by
  cases d with
  | none=>rfl
  | some x =>
   show o6 (I4 s.t x v) i=_;rw[a0X (λe=>hi (by rw[e]))]
 obtain⟨h1,h2⟩:=hv p hp;rw[key _ h1]
 by_cases e:d=some p.1
 ·have h3:=h2 e;subst e;show F8 (o6 (I4 s.t p.1 v) p.1) _=true
  rcases a0K (v:=v) (l:=s.t) (i:=p.1) with h4|h4
  ·rw[h4];exact h3
  ·rw[h4];exact a7D _
 ·rw[key _ e];exact h p hp
theorem a3F {prs:List (Nat×Nat)} {o:Oper} (h:a6l prs o) (hn:M4 o.op=none):b4W prs o.dst:=λp hp=>by
 obtain⟨h1,h2⟩:=h p hp;refine⟨λe=>?_,h1⟩;obtain⟨j,hj,_⟩:=h2 e;rw[hn] at hj;cases hj
theorem b3x {prs:List (Nat×Nat)} {s:S} {dst:Option Nat} {K:S->Prop} {op:Op} {j:Nat} (ha:M4 op=some j) (hP:PP prs s) (hk:∀p∈prs,dst≠some p.2/\(dst=some p.1->∃j,M4 op=some j/\(j,p.2)∈prs)) (h:B6 j1 false s dst K op):B6 j1 false s dst (λs'=>PP prs s'/\K s') op:=by
 obtain⟨v,h1,h2,h3⟩:=b3w ha h;refine h3 _ ⟨hP.chain λp hp=>⟨(hk p hp).1,λe=>?_⟩,h1⟩;obtain⟨j',hj,hm⟩:=(hk p hp).2 e;rw[ha] at hj;cases hj;exact h2 _ (hP _ hm)
theorem b4Y {prs:List (Nat×Nat)} {s:S} {dst:Option Nat} {op:Op} (hP:PP prs s) (hk:∀p∈prs,dst≠some p.2/\(dst=some p.1->∃j,M4 op=some j/\(j,p.2)∈prs)):PP prs (s.put dst T1):=hP.chain λp hp=>⟨(hk p hp).1,λ_=>rfl⟩
theorem a1X {dsts:List (Option Nat)} {prs:List (Nat×Nat)} {o:Oper} {s:S} {K:S->Prop} (hP:PP prs s) (hk:a6l prs o) (h:m9 j1 dsts o s K):m9 j1 dsts o s (λs'=>PP prs s'/\K s'):=by
 cases ha:M4 o.op with
 | none=>exact b1d hP (a3F hk ha) h
 | some j =>
  obtain⟨dst,op,type,pos,after,gd⟩:=o;simp only at ha;have hst:∀ {K:S->Prop},B6 j1 false s dst K op->B6 j1 false s dst (λs'=>PP prs s'/\K s') op:=λ{K} h=>b3x ha hP hk h
  cases gd with
  | none=>exact hst h
  | some jb =>
   obtain⟨j,b⟩:=jb
   have h':guard s dsts j (fun
    | some c=>match bEq c b with
     | true=>B6 j1 false s dst K op
     | false=>K (s.put dst T1)
    | none=>K (s.put dst T1)):=h
   obtain⟨c,h1,h2⟩:=a0z h';have hv:PP prs (s.put dst T1):=b4Y (op:=op) hP hk
   show guard s dsts j (fun
    | some c=>match bEq c b with
     | true=>B6 j1 false s dst (λs'=>PP prs s'/\K s') op
     | false=>PP prs (s.put dst T1)/\K (s.put dst T1)
    | none=>PP prs (s.put dst T1)/\K (s.put dst T1))
   refine h2 _ ?_;cases c with
   | none=>exact⟨hv,h1⟩
   | some c =>
    simp only at h1 ⊢;cases hb:bEq c b with
    | true=>rw[hb] at h1;exact hst h1
    | false=>rw[hb] at h1;exact⟨hv,h1⟩
def a4y (dsts:List (Option Nat)) (prs:List (Nat×Nat)) (x y:Oper):Bool:=match a84 x,a5X dsts y with
 | some i,some k=>prs.contains (i,k) && I5 x.dst (looks dsts y)
 | _,_=>false
theorem a7E {x:Oper} {i:Nat} (h:a84 x=some i):∃d t ty p a,x=⟨d,.load t (.tmp i),ty,p,a,none⟩:=by
 unfold a84 at h
 split at h
 ·have h:=Option.some.inj h;subst h;exact⟨_,_,_,_,_,rfl⟩
 ·cases h
theorem a21 {dsts:List (Option Nat)} {y:Oper} {k:Nat} (h:a5X dsts y=some k):∃t z ty p a,y=⟨none,.store t (.tmp k) z,ty,p,a,none⟩:=by
 unfold a5X at h
 split at h
 ·split at h
  ·cases h
  ·have h:=Option.some.inj h;subst h;exact⟨_,_,_,_,_,rfl⟩
 ·cases h
theorem a1Y {o:O}:∀ {l:List O} {m j:Nat},j≠m->y5 (J8 l m o) j=y5 l j
 | [],m,j,_=>rfl
 | x::l,0,0,h=>absurd rfl h
 | x::l,0,j+1,_=>rfl
 | x::l,m+1,0,_=>rfl
 | x::l,m+1,j+1,h=>by rw[J8,y5,y5,a1Y (λe=>h (by rw[e]))]
theorem Y8 {o:O}:∀ {l:List O} {m:Nat},y5 l m≠.dead->y5 (J8 l m o) m=o
 | [],m,h=>absurd rfl h
 | x::l,0,_=>rfl
 | x::l,m+1,h=>by rw[J8,y5];rw[y5] at h;exact Y8 h
theorem a0A {s:S} {K:S->Prop} {t:Nat} {y x:V} (h:F7 j1 s K t y x):∃m b,((∃off cs cs',x=.ptr m off/\y5 s.o m=.box cs/\b=.box cs')\/(∃i z off e rows rows',x=.el m i z off/\y5 s.o m=.row false e rows/\b=.row false e rows'))/\K ⟨s.t,J8 s.o m b⟩/\∀(t':List V) (K':S->Prop),K' ⟨t',J8 s.o m b⟩->F7 j1 ⟨t',s.o⟩ K' t y x:=by
 unfold F7 at h
 split at h <;> try exact h.elim
 ·rename_i k off
  split at h <;> try exact h.elim
  rename_i cs hok
  split at h <;> try exact h.elim
  rename_i l hl
  split at h <;> try exact h.elim
  rename_i hsz
  split at h <;> try exact h.elim
  rename_i cs' hcs;refine⟨k,_,.inl ⟨off,cs,cs',rfl,hok,rfl⟩,h,λt' K' hk=>?_⟩;unfold F7;simp only[hok,hl,hsz,hcs];exact hk
 ·rename_i k i sz off
  split at h <;> try exact h.elim
  rename_i e rows hok
  split at h <;> try exact h.elim
  rename_i hsz
  split at h <;> try exact h.elim
  rename_i row hrow
  split at h <;> try exact h.elim
  rename_i l hl
  split at h <;> try exact h.elim
  rename_i ds hds
  split at h <;> try exact h.elim
  rename_i hlen
  split at h <;> try exact h.elim
  rename_i row' hrow';refine⟨k,_,.inr ⟨i,sz,off,e,rows,_,rfl,hok,rfl⟩,h,λt' K' hk=>?_⟩;unfold F7;simp only[hok,hsz,hrow,hl,hds,hlen,hrow'];exact hk
theorem a6m {os os':List O} {K:V->Prop} {t:Nat} {x:V} (hx:∀j,((∃o,x=.ptr j o)\/∃i z o,x=.el j i z o)->y5 os' j=y5 os j):E0 j1 os K t x=E0 j1 os' K t x:=by
 cases x <;> try rfl
 case ptr k off=>simp only[E0,hx k (.inl ⟨off,rfl⟩)]
 case el k i z off=>simp only[E0,hx k (.inr ⟨i,z,off,rfl⟩)]
theorem a7F {os:List O} {K:V->Prop} {t:Nat} {x:V} (h:E0 j1 os K t x):(∀j o,x=.ptr j o->∃cs,y5 os j=.box cs)/\∀j i z o,x=.el j i z o->∃zz e rows,y5 os j=.row zz e rows:=by
 refine⟨λj o e=>?_,λj i z o e=>?_⟩
 ·subst e;simp only[E0] at h
  split at h <;> first|exact⟨_,by assumption⟩|exact h.elim
 ·subst e;simp only[E0] at h
  split at h <;> first|exact⟨_,_,_,by assumption⟩|exact h.elim
theorem c0v {dsts:List (Option Nat)} {prs:List (Nat×Nat)} {x y:Oper} (h:a4y dsts prs x y=true) {s:S} (hP:PP prs s) {K:S->Prop} (hx:m9 j1 dsts x s λs=>m9 j1 dsts y s K):m9 j1 dsts y s λs=>m9 j1 dsts x s K:=by
 unfold a4y at h
 split at h <;> try cases h
 rename_i i k hi hk;obtain⟨d,t,ty1,p1,a1,rfl⟩:=a7E hi;obtain⟨t2,z,ty2,p2,a2,rfl⟩:=a21 hk;simp only[Bool.and_eq_true,List.contains_iff_mem] at h;have hd:=hP _ h.1;have hx':E0 j1 s.o (λv=>m9 j1 dsts ⟨none,.store t2 (.tmp k) z,ty2,p2,a2,none⟩ (s.put d v) K) t (o6 s.t i):=hx;have hlive:=a7F hx';obtain⟨v,h1,h2⟩:=a5p _ hx';have hs:a03 (looks dsts ⟨none,.store t2 (.tmp k) z,ty2,p2,a2,none⟩) s (s.put d v):=H8 (G9 h.2);have hops:=hs.ops (xs:=[.tmp k,z]) λt ht=>by simp[looks,Op.operands];simpa using ht
 have h3:F7 j1 (s.put d v) K t2 ((s.put d v).get z) ((s.put d v).get (.tmp k)):=h1;rw[hops z (by simp),hops (.tmp k) (by simp)] at h3;obtain⟨m,b,hsh,h4,h5⟩:=a0A h3;rw[a2M] at h4 h5 hsh;have e0:s=⟨s.t,s.o⟩:=rfl;show F7 j1 s (λs=>m9 j1 dsts ⟨d,.load t (.tmp i),ty1,p1,a1,none⟩ s K) t2 (s.get z) (s.get (.tmp k));rw[e0];have h5:=h5 s.t (λs=>m9 j1 dsts ⟨d,.load t (.tmp i),ty1,p1,a1,none⟩ s K) ?_
 ·have e1:(⟨s.t,(s.put d v).o⟩:S)=s:=by rw[a2M]
  exact e1 ▸ h5
 show E0 j1 (J8 s.o m b) (λv=>K (S.put ⟨s.t,J8 s.o m b⟩ d v)) t (o6 s.t i);rw[<-a6m (os:=s.o) (λj hj=>?_)]
 ·refine h2 _ ?_;rw[<-Y7 s.t s.o];exact h4
 ·refine a1Y λe=>?_
  subst e;have hd':F8 (o6 s.t i) (s.get (.tmp k))=true:=hd
  rcases hsh with⟨off,cs,cs',hy,ho,_⟩|⟨i',z',off,e,rows,rows',hy,ho,_⟩
  ·rw[hy] at hd'
   rcases hj with⟨o,hj⟩|⟨i2,z2,o,hj⟩
   ·rw[hj] at hd';simp only[F8] at hd';rw[B2.2 rfl] at hd';cases hd'
   ·obtain⟨zz,e',rows,he⟩:=hlive.2 _ _ _ _ hj;rw[ho] at he;cases he
  ·rw[hy] at hd'
   rcases hj with⟨o,hj⟩|⟨i2,z2,o,hj⟩
   ·obtain⟨cs,he⟩:=hlive.1 _ _ hj;rw[ho] at he;cases he
   ·rw[hj] at hd';simp only[F8] at hd';rw[B2.2 rfl] at hd';cases hd'
theorem c0w {dsts:List (Option Nat)} {prs:List (Nat×Nat)} {x y:Oper} (h:a4y dsts prs x y=true) {s:S} (hP:PP prs s) {K:S->Prop} (hy:m9 j1 dsts y s λs=>m9 j1 dsts x s K):m9 j1 dsts x s λs=>m9 j1 dsts y s K:=by
 unfold a4y at h
 split at h <;> try cases h
 rename_i i k hi hk;obtain⟨d,t,ty1,p1,a1,rfl⟩:=a7E hi;obtain⟨t2,z,ty2,p2,a2,rfl⟩:=a21 hk;simp only[Bool.and_eq_true,List.contains_iff_mem] at h;have hd:F8 (o6 s.t i) (s.get (.tmp k))=true:=hP _ h.1;have hy':F7 j1 s (λs=>m9 j1 dsts ⟨d,.load t (.tmp i),ty1,p1,a1,none⟩ s K) t2 (s.get z) (s.get (.tmp k)):=hy;obtain⟨m,b,hsh,h4,h5⟩:=a0A hy';have h4:E0 j1 (J8 s.o m b) (λv=>K (S.put ⟨s.t,J8 s.o m b⟩ d v)) t (o6 s.t i):=h4;have hlive:=a7F h4;rw[<-a6m (os:=s.o) (λj hj=>?_)] at h4
 ·obtain⟨v,h6,h7⟩:=a5p _ h4;show E0 j1 s.o (λv=>m9 j1 dsts ⟨none,.store t2 (.tmp k) z,ty2,p2,a2,none⟩ (s.put d v) K) t (o6 s.t i);refine h7 _ ?_;have hs:a03 (looks dsts ⟨none,.store t2 (.tmp k) z,ty2,p2,a2,none⟩) s (s.put d v):=H8 (G9 h.2);have hops:=hs.ops (xs:=[.tmp k,z]) λt ht=>by simp[looks,Op.operands];simpa using ht
  show F7 j1 (s.put d v) K t2 ((s.put d v).get z) ((s.put d v).get (.tmp k));rw[hops z (by simp),hops (.tmp k) (by simp)];have e1:s.put d v=⟨(s.put d v).t,s.o⟩:=by cases d <;> rfl
  rw[e1];refine h5 _ _ ?_;rw[<-Y7 s.t s.o] at h6;exact h6
 ·refine a1Y λe=>?_
  subst e
  rcases hsh with⟨off,cs,cs',hy,ho,hb⟩|⟨i',z',off,e,rows,rows',hy,ho,hb⟩
  ·rw[hy] at hd
   rcases hj with⟨o,hj⟩|⟨i2,z2,o,hj⟩
   ·rw[hj] at hd;simp only[F8] at hd;rw[B2.2 rfl] at hd;cases hd
   ·obtain⟨zz,e',rows,he⟩:=hlive.2 _ _ _ _ hj;rw[Y8 (by rw[ho];simp),hb] at he;cases he
  ·rw[hy] at hd
   rcases hj with⟨o,hj⟩|⟨i2,z2,o,hj⟩
   ·obtain⟨cs,he⟩:=hlive.1 _ _ hj;rw[Y8 (by rw[ho];simp),hb] at he;cases he
   ·rw[hj] at hd;simp only[F8] at hd;rw[B2.2 rfl] at hd;cases hd
def b1e:Oper->Option Nat
 | ⟨_,.indexAddr _ (.tmp i) _,_,_,_,none⟩=>some i
 | _=>none
theorem a7G {x:Oper} {i:Nat} (h:b1e x=some i):∃d t y ty p a,x=⟨d,.indexAddr t (.tmp i) y,ty,p,a,none⟩:=by
 unfold b1e at h
 split at h
 ·have h:=Option.some.inj h;subst h;exact⟨_,_,_,_,_,_,rfl⟩
 ·cases h
def a4z (dsts:List (Option Nat)) (prs:List (Nat×Nat)) (x y:Oper):Bool:=match b1e x,a5X dsts y with
 | some i,some k=>prs.contains (i,k) && I5 x.dst (looks dsts y)
 | _,_=>false
theorem b4Z {os os':List O} {K:V->Prop} {t:Nat} {x y:V} (hx:∀j,x=.own j->y5 os' j=y5 os j):s9 j1 os K t x y=s9 j1 os' K t x y:=by
 have e1:a5d os' x=a5d os x:=by cases x <;> first|rfl|simp only[a5d,hx _ rfl]
 have e2:J9 os' x=J9 os x:=by cases x with|d x=>cases x <;> rfl|own j=>simp only[J9,hx j rfl]|_=>rfl
 unfold s9;rw[e1,e2]
theorem b2u {os:List O} {K:V->Prop} {t:Nat} {x y:V} (h:s9 j1 os K t x y):∀j,x=.own j->∃zz e rows,y5 os j=.row zz e rows:=by
 intro j e;subst e;cases ho:y5 os j with
 | row z e rows=>exact⟨_,_,_,rfl⟩
 | _ =>
  exfalso;simp only[s9,T3,bsV,a5d,J9,ho] at h
  repeat' split at h
  all_goals first|exact h|skip
theorem c0x {dsts:List (Option Nat)} {prs:List (Nat×Nat)} {x y:Oper} (h:a4z dsts prs x y=true) {s:S} (hP:PP prs s) {K:S->Prop} (hx:m9 j1 dsts x s λs=>m9 j1 dsts y s K):m9 j1 dsts y s λs=>m9 j1 dsts x s K:=by
 unfold a4z at h
 split at h <;> try cases h
 rename_i i k hi hk;obtain⟨d,t,zi,ty1,p1,a1,rfl⟩:=a7G hi;obtain⟨t2,z,ty2,p2,a2,rfl⟩:=a21 hk;simp only[Bool.and_eq_true,List.contains_iff_mem] at h;have hd:=hP _ h.1;have hx':s9 j1 s.o (λv=>m9 j1 dsts ⟨none,.store t2 (.tmp k) z,ty2,p2,a2,none⟩ (s.put d v) K) t (o6 s.t i) (s.get zi):=hx;have hlive:=b2u hx';obtain⟨v,h1,h2⟩:=a6a _ hx';have hs:a03 (looks dsts ⟨none,.store t2 (.tmp k) z,ty2,p2,a2,none⟩) s (s.put d v):=H8 (G9 h.2);have hops:=hs.ops (xs:=[.tmp k,z]) λt ht=>by simp[looks,Op.operands];simpa using ht
 have h3:F7 j1 (s.put d v) K t2 ((s.put d v).get z) ((s.put d v).get (.tmp k)):=h1;rw[hops z (by simp),hops (.tmp k) (by simp)] at h3;obtain⟨m,b,hsh,h4,h5⟩:=a0A h3;rw[a2M] at h4 h5 hsh;have e0:s=⟨s.t,s.o⟩:=rfl;show F7 j1 s (λs=>m9 j1 dsts ⟨d,.indexAddr t (.tmp i) zi,ty1,p1,a1,none⟩ s K) t2 (s.get z) (s.get (.tmp k));rw[e0];have h5:=h5 s.t (λs=>m9 j1 dsts ⟨d,.indexAddr t (.tmp i) zi,ty1,p1,a1,none⟩ s K) ?_
 ·have e1:(⟨s.t,(s.put d v).o⟩:S)=s:=by rw[a2M]
  exact e1 ▸ h5
 show s9 j1 (J8 s.o m b) (λv=>K (S.put ⟨s.t,J8 s.o m b⟩ d v)) t (o6 s.t i) (S.get ⟨s.t,J8 s.o m b⟩ zi);rw[show S.get ⟨s.t,J8 s.o m b⟩ zi=s.get zi by cases zi <;> rfl,<-b4Z (os:=s.o) (λj hj=>?_)]
 ·refine h2 _ ?_;rw[<-Y7 s.t s.o];exact h4
 ·refine a1Y λe=>?_
  subst e;have hd':F8 (o6 s.t i) (s.get (.tmp k))=true:=hd;obtain⟨zz,e',rows,he⟩:=hlive _ hj
  rcases hsh with⟨off,cs,cs',hy,ho,_⟩|⟨i',z',off,e,rows,rows',hy,ho,_⟩
  ·rw[ho] at he;cases he
  ·rw[hy,hj] at hd';simp only[F8] at hd';rw[B2.2 rfl] at hd';cases hd'
theorem c0y {dsts:List (Option Nat)} {prs:List (Nat×Nat)} {x y:Oper} (h:a4z dsts prs x y=true) {s:S} (hP:PP prs s) {K:S->Prop} (hy:m9 j1 dsts y s λs=>m9 j1 dsts x s K):m9 j1 dsts x s λs=>m9 j1 dsts y s K:=by
 unfold a4z at h
 split at h <;> try cases h
 rename_i i k hi hk;obtain⟨d,t,zi,ty1,p1,a1,rfl⟩:=a7G hi;obtain⟨t2,z,ty2,p2,a2,rfl⟩:=a21 hk;simp only[Bool.and_eq_true,List.contains_iff_mem] at h;have hd:F8 (o6 s.t i) (s.get (.tmp k))=true:=hP _ h.1;have hy':F7 j1 s (λs=>m9 j1 dsts ⟨d,.indexAddr t (.tmp i) zi,ty1,p1,a1,none⟩ s K) t2 (s.get z) (s.get (.tmp k)):=hy;obtain⟨m,b,hsh,h4,h5⟩:=a0A hy';have h4:s9 j1 (J8 s.o m b) (λv=>K (S.put ⟨s.t,J8 s.o m b⟩ d v)) t (o6 s.t i) (S.get ⟨s.t,J8 s.o m b⟩ zi):=h4;rw[show S.get ⟨s.t,J8 s.o m b⟩ zi=s.get zi by cases zi <;> rfl] at h4;have hlive:=b2u h4;rw[<-b4Z (os:=s.o) (λj hj=>?_)] at h4
 ·obtain⟨v,h6,h7⟩:=a6a _ h4;show s9 j1 s.o (λv=>m9 j1 dsts ⟨none,.store t2 (.tmp k) z,ty2,p2,a2,none⟩ (s.put d v) K) t (o6 s.t i) (s.get zi);refine h7 _ ?_;have hs:a03 (looks dsts ⟨none,.store t2 (.tmp k) z,ty2,p2,a2,none⟩) s (s.put d v):=H8 (G9 h.2);have hops:=hs.ops (xs:=[.tmp k,z]) λt ht=>by simp[looks,Op.operands];simpa using ht
  show F7 j1 (s.put d v) K t2 ((s.put d v).get z) ((s.put d v).get (.tmp k));rw[hops z (by simp),hops (.tmp k) (by simp)];have e1:s.put d v=⟨(s.put d v).t,s.o⟩:=by cases d <;> rfl
  rw[e1];refine h5 _ _ ?_;rw[<-Y7 s.t s.o] at h6;exact h6
 ·refine a1Y λe=>?_
  subst e;obtain⟨zz,e',rows,he⟩:=hlive _ hj
  rcases hsh with⟨off,cs,cs',hy,ho,hb⟩|⟨i',z',off,e,rows,rows',hy,ho,hb⟩
  ·rw[Y8 (by rw[ho];simp),hb] at he;cases he
  ·rw[hy,hj] at hd;simp only[F8] at hd;rw[B2.2 rfl] at hd;cases hd
def a3b (dsts:List (Option Nat)) (prs:List (Nat×Nat)) (x y:Oper):Bool:=b4T dsts x y || a4y dsts prs x y || a4y dsts prs y x || a4z dsts prs x y || a4z dsts prs y x
theorem b8k {dsts:List (Option Nat)} {prs:List (Nat×Nat)} {x y:Oper} (h:a3b dsts prs x y=true) {s:S} (hP:PP prs s) {K:S->Prop} (hx:m9 j1 dsts x s λs=>m9 j1 dsts y s K):m9 j1 dsts y s λs=>m9 j1 dsts x s K:=by
 simp only[a3b,Bool.or_eq_true] at h
 rcases h with (((h|h)|h)|h)|h
 ·exact c0u h hx
 ·exact c0v h hP hx
 ·exact c0w h hP hx
 ·exact c0x h hP hx
 ·exact c0y h hP hx
theorem Q7 {dsts:List (Option Nat)} {o:Oper} {s:S} {K K':S->Prop} (hK:∀s,K s->K' s) (h:m9 j1 dsts o s K):m9 j1 dsts o s K':=by
 obtain⟨dst,op,type,pos,after,gd⟩:=o;cases gd with
 | none=>exact U9 hK h
 | some jb =>
  obtain⟨j,b⟩:=jb
  have h':guard s dsts j (fun
   | some c=>match bEq c b with
    | true=>B6 j1 false s dst K op
    | false=>K (s.put dst T1)
   | none=>K (s.put dst T1)):=h
  obtain⟨c,h1,h2⟩:=a0z h'
  show guard s dsts j (fun
   | some c=>match bEq c b with
    | true=>B6 j1 false s dst K' op
    | false=>K' (s.put dst T1)
   | none=>K' (s.put dst T1))
  refine h2 _ ?_;cases c with
  | none=>exact hK _ h1
  | some c =>
   simp only at h1 ⊢;cases hb:bEq c b with
   | true=>rw[hb] at h1;exact U9 hK h1
   | false=>rw[hb] at h1;exact hK _ h1
def a6n (all:List Oper) (i:Nat):Prop:=a4P all i=false/\a1t all i=none
theorem a0Z {dsts:List (Option Nat)} {all:List Oper} {i:Nat} (h:a6n all i) (o:Oper) (s:S) (K:S->Prop):N7 j1 dsts all i o s K=m9 j1 dsts o s K:=by
 have hst:∀(s:S) (dst:Option Nat) (K:S->Prop) (op:Op),I6 j1 all i s dst K op=B6 j1 false s dst K op:=λs dst K op=>by
  unfold I6
  split
  ·split
   ·rw[h.1,h.2]
   ·rfl
  ·rfl
 obtain⟨dst,op,type,pos,after,gd⟩:=o;cases gd with
 | none=>exact hst s dst K op
 | some jb =>
  obtain⟨j,b⟩:=jb;unfold N7;simp only[hst];rfl
def a0i (dsts:List (Option Nat)) (all:List Oper):List Nat->S->(S->Prop)->Prop
 | [],s,K=>K s
 | i::l,s,K=>match all[i]? with
  | some o=>N7 j1 dsts all i o s (λs=>a0i dsts all l s K)
  | none=>a0i dsts all l s K
theorem a3G {dsts:List (Option Nat)} {all:List Oper}:∀(l:List Oper) (i:Nat) (s:S) (K:S->Prop),all.drop i=l->b0U j1 dsts all i l s K->a0i dsts all (List.range' i l.length) s K
 | [],i,s,K,_,h=>h
 | o::l,i,s,K,hl,h=>by
  have hi:i<all.length:=by
   rcases Nat.lt_or_ge i all.length with h1|h1
   ·exact h1
   ·rw[List.drop_eq_nil_of_le h1] at hl;cases hl
  rw[List.drop_eq_getElem_cons hi] at hl;injection hl with h1 h2;rw[List.length_cons,List.range'_succ,a0i,List.getElem?_eq_getElem hi,h1];simp only;rw[b0U] at h;refine execD_mono (λs hs=>?_) h;exact a3G l (i+1) s K h2 hs
where
 execD_mono {dsts:List (Option Nat)} {all:List Oper} {i:Nat} {o:Oper} {s:S} {K K':S->Prop} (hK:∀s,K s->K' s) (h:N7 j1 dsts all i o s K):N7 j1 dsts all i o s K':=by
  have hst:∀ {s:S} {dst:Option Nat} {op:Op},I6 j1 all i s dst K op->I6 j1 all i s dst K' op:=λ{s dst op} h=>by
   unfold I6 at h ⊢
   split at h
   ·split at h
    ·split at h
     ·exact N3.mono h λv o' ks hk=>hK _ hk
     ·split at h
      ·exact a0H.mono h λv o' hk=>⟨hk.1,hK _ hk.2⟩
      ·exact U9 hK h
    ·exact U9 hK h
   ·exact U9 hK h
  obtain⟨dst,op,type,pos,after,gd⟩:=o;cases gd with
  | none=>exact hst h
  | some jb =>
   obtain⟨j,b⟩:=jb
   have h':guard s dsts j (fun
    | some c=>match bEq c b with
     | true=>I6 j1 all i s dst K op
     | false=>K (s.put dst T1)
    | none=>K (s.put dst T1)):=h
   obtain⟨c,h1,h2⟩:=a0z h'
   show guard s dsts j (fun
    | some c=>match bEq c b with
     | true=>I6 j1 all i s dst K' op
     | false=>K' (s.put dst T1)
    | none=>K' (s.put dst T1))
   refine h2 _ ?_;cases c with
   | none=>exact hK _ h1
   | some c =>
    simp only at h1 ⊢;cases hb:bEq c b with
    | true=>rw[hb] at h1;exact hst h1
    | false=>rw[hb] at h1;exact hK _ h1
theorem b3y {ks:List Nat}:∀ {t:List V} {i j:Nat},F8 (o6 t i) (o6 t j)=true->F8 (o6 (A7 ks t) i) (o6 (A7 ks t) j)=true:=by
 induction ks with
 | nil=>intro t i j h;exact h
 | cons k ks ih =>
  intro t i j h;rw[A7];refine ih ?_;rw[a0m,a0m];exact a9D (kk:=some k) h
theorem PP.called {prs:List (Nat×Nat)} {s:S} (h:PP prs s) {ks:List Nat} {d:Option Nat} {v:V} {o':List O} (hf:b4W prs d):PP prs (S.put ⟨A7 ks s.t,o'⟩ d v):=λp hp=>by
 have key:∀i,d≠some i->o6 (S.put ⟨A7 ks s.t,o'⟩ d v).t i=o6 (A7 ks s.t) i:=λi hi=>by
  cases d with
  | none=>rfl
  | some x =>
   show o6 (I4 (A7 ks s.t) x v) i=_;rw[a0X (λe=>hi (by rw[e]))]
 rw[key _ (hf p hp).1,key _ (hf p hp).2];exact b3y (h p hp)
theorem b1f {dsts:List (Option Nat)} {prs:List (Nat×Nat)} {all:List Oper} {i:Nat} {o:Oper} {s:S} {K:S->Prop} (hP:PP prs s) (hf:b4W prs o.dst) (h:N7 j1 dsts all i o s K):N7 j1 dsts all i o s (λs'=>PP prs s'/\K s'):=by
 obtain⟨dst,op,type,pos,after,gd⟩:=o
 have hst:∀ {K:S->Prop},I6 j1 all i s dst K op->I6 j1 all i s dst (λs'=>PP prs s'/\K s') op:=λ{K} h=>by
  have h0:∀ {K:S->Prop} {op:Op},B6 j1 false s dst K op->B6 j1 false s dst (λs'=>PP prs s'/\K s') op:=λ{K op} h=>U9 (λs' ⟨⟨kk,v,o',e⟩,hk⟩=>⟨by rw[e];exact hP.next hf,hk⟩) (a6k h)
  unfold I6 at h ⊢
  split at h
  ·split at h
   ·split at h
    ·exact N3.mono h λv o' ks hk=>⟨hP.called hf,hk⟩
    ·split at h
     ·exact a0H.mono h λv o' hk=>⟨hk.1,hP.called (ks:=[]) hf,hk.2⟩
     ·exact h0 h
   ·exact h0 h
  ·exact h0 h
 cases gd with
 | none=>exact hst h
 | some jb =>
  obtain⟨j,b⟩:=jb
  have h':guard s dsts j (fun
   | some c=>match bEq c b with
    | true=>I6 j1 all i s dst K op
    | false=>K (s.put dst T1)
   | none=>K (s.put dst T1)):=h
  obtain⟨c,h1,h2⟩:=a0z h';have hv:PP prs (s.put dst T1):=hP.next (kk:=none) (o':=s.o) hf
  show guard s dsts j (fun
   | some c=>match bEq c b with
    | true=>I6 j1 all i s dst (λs'=>PP prs s'/\K s') op
    | false=>PP prs (s.put dst T1)/\K (s.put dst T1)
   | none=>PP prs (s.put dst T1)/\K (s.put dst T1))
  refine h2 _ ?_;cases c with
  | none=>exact⟨hv,h1⟩
  | some c =>
   simp only at h1 ⊢;cases hb:bEq c b with
   | true=>rw[hb] at h1;exact hst h1
   | false=>rw[hb] at h1;exact⟨hv,h1⟩
theorem a9E {dsts:List (Option Nat)} {prs:List (Nat×Nat)} {all:List Oper} {i:Nat} {o:Oper} {s:S} {K:S->Prop} (hP:PP prs s) (hk:a6l prs o) (h:N7 j1 dsts all i o s K):N7 j1 dsts all i o s (λs'=>PP prs s'/\K s'):=by
 cases ha:M4 o.op with
 | none=>exact b1f hP (a3F hk ha) h
 | some j =>
  have e:∀K:S->Prop,N7 j1 dsts all i o s K=m9 j1 dsts o s K:=λK=>by
   obtain⟨dst,op,type,pos,after,gd⟩:=o;simp only at ha
   have e1:∀(s:S) (K:S->Prop),I6 j1 all i s dst K op=B6 j1 false s dst K op:=λs K=>by
    unfold M4 at ha
    split at ha <;> first|rfl|cases ha
   cases gd with
   | none=>exact e1 s K
   | some jb =>
    obtain⟨j,b⟩:=jb;unfold N7;simp only[e1];rfl
  rw[e] at h ⊢;exact a1X hP hk h
theorem a40 {dsts:List (Option Nat)} {prs:List (Nat×Nat)} {all:List Oper} {y:Nat} {oy:Oper} (hoy:all[y]?=some oy) (hty:a6n all y):∀ {pre post:List Nat} {s:S} {K:S->Prop},(∀x∈pre,a6n all x/\∀ox,all[x]?=some ox->a3b dsts prs ox oy=true/\a6l prs ox)->PP prs s->a0i dsts all (pre++y::post) s K->a0i dsts all (y::(pre++post)) s K
 | [],post,s,K,_,_,h=>h
 | x::pre,post,s,K,ha,hP,h=>by
  rw[List.cons_append,a0i] at h;obtain⟨hx,hxx⟩:=ha x (List.mem_cons_self ..);cases hox:all[x]? with
  | none =>
   rw[hox] at h;have h1:=a40 hoy hty (λz hz=>ha z (List.mem_cons_of_mem _ hz)) hP h;rw[a0i,hoy] at h1 ⊢;simp only at h1 ⊢;refine a3G.execD_mono (λs hs=>?_) h1;rw[List.cons_append,a0i,hox];exact hs
  | some ox =>
   rw[hox] at h;simp only at h;obtain⟨hap,hf⟩:=hxx ox hox;rw[a0Z hx] at h
   have h2:m9 j1 dsts ox s λs=>m9 j1 dsts oy s λs=>a0i dsts all (pre++post) s K:=Q7 (λs hs=>by
    have:=a40 hoy hty (λz hz=>ha z (List.mem_cons_of_mem _ hz)) hs.1 hs.2;rw[a0i,hoy] at this;simp only at this;rw[a0Z hty] at this
    exact this) (a1X hP hf h)
   rw[a0i,hoy];simp only;rw[a0Z hty];have h3:=b8k hap hP h2;refine Q7 (λs hs=>?_) h3;rw[List.cons_append,a0i,hox];simp only;rw[a0Z hx];exact hs
theorem a3c {dsts:List (Option Nat)} {an:List (List Nat)} {i:Nat} {oi:Oper}:∀ {l:List Oper} {j:Nat} {r:List Nat},P3 dsts an i oi j l=some r->∀(m:Nat) (o:Oper),l[m]?=some o->j+m≠i ->
  (j+m<i->(an.getD i []).contains (j+m)=true\/((I5 o.dst (looks dsts oi) && I5 oi.dst (looks dsts o) && (o.dst.isNone || o.dst != oi.dst))=true/\∃ks,a0y dsts o=some ks/\∀k∈ks,k∈r))/\(i<j+m->(an.getD (j+m) []).contains i=true)
 | [],j,r,h,m,o,hm,_=>by simp at hm
 | x::l,j,r,h,m,o,hm,hne=>by
  rw[P3] at h;cases m with
  | zero =>
   simp at hm
   subst hm;rw[Nat.add_zero] at hne ⊢;rw[show Nat.beq j i=false by rw[<-Bool.not_eq_true,Nat.beq_eq];exact hne] at h;simp only at h
   split at h
   ·rename_i hlt;rw[Nat.blt_eq] at hlt;refine⟨λ_=>?_,λh'=>by omega⟩
    split at h
    ·exact .inl (by assumption)
    ·split at h
     ·rename_i hn
      split at h
      ·rename_i ks hks
       split at h
       ·rename_i ms hms;have h:=Option.some.inj h;exact .inr ⟨hn,ks,hks,λk hk=>by rw[<-h];exact List.mem_append_left _ hk⟩
       ·cases h
      ·cases h
     ·cases h
   ·rename_i hlt;have hlt:¬j<i:=λh=>by rw[<-Nat.blt_eq] at h;rw[h] at hlt;cases hlt
    refine⟨λh'=>absurd h' hlt,λ_=>?_⟩
    split at h
    ·assumption
    ·cases h
  | succ m =>
   have hm:l[m]?=some o:=by simpa using hm
   have e:j+(m+1)=j+1+m:=by omega
   rw[e] at hne ⊢
   have fin:∀ {r':List Nat},P3 dsts an i oi (j+1) l=some r'->(∀k∈r',k∈r)->_:=λ{r'} h' hr=>by
    obtain⟨h1,h2⟩:=a3c h' m o hm hne;exact(⟨λhl=>(h1 hl).imp id λ⟨h3,ks,h4,h5⟩=>⟨h3,ks,h4,λk hk=>hr k (h5 k hk)⟩,h2⟩:(j+1+m<i->(an.getD i []).contains (j+1+m)=true\/((I5 o.dst (looks dsts oi) && I5 oi.dst (looks dsts o) && (o.dst.isNone || o.dst != oi.dst))=true/\∃ks,a0y dsts o=some ks/\∀k∈ks,k∈r))/\(i<j+1+m->(an.getD (j+1+m) []).contains i=true))
   split at h
   ·exact fin h λ_ hk=>hk
   ·split at h
    ·split at h
     ·exact fin h λ_ hk=>hk
     ·split at h
      ·split at h
       ·split at h
        ·rename_i ms hms;have h:=Option.some.inj h;exact fin hms λk hk=>by rw[<-h];exact List.mem_append_right _ hk
        ·cases h
       ·cases h
      ·cases h
    ·split at h
     ·exact fin h λ_ hk=>hk
     ·cases h
theorem a22 {all:List Oper} {i:Nat} {l:List Nat} (h:a1t all i=some l):∃dst x args ts ty p a,all[i]?=some ⟨dst,.call ⟨.value x,args,ts⟩,ty,p,a,none⟩/\P3 (n5 all) (G6 all []) i ⟨dst,.call ⟨.value x,args,ts⟩,ty,p,a,none⟩ 0 all=some l:=by
 unfold a1t at h
 split at h
 ·rename_i oi hoi;have h1:=a0S hoi
  split at h
  ·rename_i hc;rw[Bool.and_eq_true] at hc;obtain⟨dst,op,ty,p,a,g⟩:=oi;obtain⟨hc1,hc2⟩:=hc;simp only at hc1 hc2;obtain rfl:g=none:=Option.isNone_iff_eq_none.1 hc2;unfold a5n at hc1
   split at hc1
   ·exact⟨_,_,_,_,_,_,_,h1,h⟩
   ·cases hc1
  ·cases h
 ·cases h
theorem a9F:∀ {l:List Oper} {o:Oper},o∈l->o.dst∈n5 l
 | [],o,h=>by simp at h
 | x::l,o,h=>by
  rw[n5]
  rcases List.mem_cons.1 h with rfl|h
  ·exact List.mem_cons_self ..
  ·exact List.mem_cons_of_mem _ (a9F h)
theorem a89:∀ {l:List (Option Nat)} {i:Nat},some i∈l->inD l i=true
 | [],i,h=>by simp at h
 | none::l,i,h=>by rw[inD];exact a89 (by simpa using h)
 | some x::l,i,h=>by
  rw[inD]
  split
  ·rfl
  ·rename_i hx
   rcases List.mem_cons.1 h with h|h
   ·have h:=Option.some.inj h;rw[B2.2 h.symm] at hx;cases hx
   ·exact a89 h
theorem T5 {dsts:List (Option Nat)} {an:List (List Nat)} {i:Nat} {oi:Oper}:∀ {l:List Oper} {j:Nat} {r:List Nat},P3 dsts an i oi j l=some r->∀k∈r,inD dsts k=false
 | [],j,r,h,k,hk=>by rw[P3] at h;have h:=Option.some.inj h;subst h;simp at hk
 | x::l,j,r,h,k,hk=>by
  rw[P3] at h
  split at h
  ·exact T5 h k hk
  ·split at h
   ·split at h
    ·exact T5 h k hk
    ·split at h
     ·split at h
      ·rename_i ks hks
       split at h
       ·rename_i ms hms;have h:=Option.some.inj h;subst h
        rcases List.mem_append.1 hk with hk|hk
        ·unfold a0y at hks
         split at hks
         ·split at hks
          ·cases hks
          ·rename_i hin;have hks:=Option.some.inj hks;subst hks;rw[List.mem_singleton.1 hk];exact hin
         ·split at hks
          ·have hks:=Option.some.inj hks;subst hks
           simp at hk
          ·cases hks
        ·exact T5 hms k hk
       ·cases h
      ·cases h
     ·cases h
   ·split at h
    ·exact T5 h k hk
    ·cases h
theorem c0z {all:List Oper} {prs:List (Nat×Nat)} {y:Nat} {oy ox:Oper} {l ks:List Nat} (hoy:all[y]?=some oy) (hty:a4P all y=false) (hby:a1t all y=some l) (hn:(I5 ox.dst (looks (n5 all) oy) && I5 oy.dst (looks (n5 all) ox) && (ox.dst.isNone || ox.dst != oy.dst))=true) (hk:a0y (n5 all) ox=some ks) (hkl:∀k∈ks,k∈l) (hap:a3b (n5 all) prs ox oy=true) (hxm:ox∈all)
  {s:S} (hP:PP prs s) {R:S->Prop} (h:m9 j1 (n5 all) ox s λs=>N7 j1 (n5 all) all y oy s R):N7 j1 (n5 all) all y oy s λs=>m9 j1 (n5 all) ox s R:=by
 obtain⟨dst,x,args,ts,ty,p,a,hoy',_⟩:=a22 hby
 rw[hoy] at hoy';have hoy':=Option.some.inj hoy';subst hoy';simp only[Bool.and_eq_true] at hn;obtain⟨⟨hn1,hn2⟩,hn3⟩:=hn
 have pt:∃v,N7 j1 (n5 all) all y ⟨dst,.call ⟨.value x,args,ts⟩,ty,p,a,none⟩ (s.put ox.dst v) R/\∀(s':S) (K':S->Prop),a6d (looks (n5 all) ox) s s'->a1n l s.t s.o s'.o->K' (s'.put ox.dst v)->m9 j1 (n5 all) ox s' K':=by
  unfold a0y at hk
  split at hk
  ·rename_i d t k ty' p' a'
   split at hk
   ·cases hk
   have hk:=Option.some.inj hk;subst hk;obtain⟨v,h1,h2⟩:=a5p _ (show E0 j1 s.o (λv=>N7 j1 (n5 all) all y ⟨dst,.call ⟨.value x,args,ts⟩,ty,p,a,none⟩ (s.put d v) R) t (o6 s.t k) from h);refine⟨v,h1,λs' K' hs hkp hk'=>?_⟩;show E0 j1 s'.o (λv=>K' (s'.put d v)) t (o6 s'.t k);have hsl:o6 s'.t k=o6 s.t k:=hs k (by simp[looks,Op.operands,tmps]);rw[hsl,<-a6m (os:=s.o) (λj hj=>?_)]
   ·exact h2 _ hk'
   ·exact hkp k (hkl k (by simp)) j (by rcases hj with⟨o,e⟩|⟨i,z,o,e⟩ <;> rw[e] <;> rfl)
  ·split at hk
   ·rename_i hb;obtain⟨v,h1,h2⟩:=a3B hb h;exact⟨v,h1,λs' K' hs _ hk'=>h2 s' K' hs hk'⟩
   ·cases hk
 obtain⟨v,h1,h2⟩:=pt;have hsT:a6d (looks (n5 all) ⟨dst,.call ⟨.value x,args,ts⟩,ty,p,a,none⟩) s (s.put ox.dst v):=a0n hn1
 have hops:∀z∈(Op.call ⟨.value x,args,ts⟩).operands.toList,(s.put ox.dst v).get z=s.get z:=λz hz=>by
  cases z with
  | tmp i =>
   show o6 (s.put ox.dst v).t i=o6 s.t i;exact hsT i (by unfold looks;exact List.mem_append_right _ (a39 hz))
  | _=>rfl
 have hget:(s.put ox.dst v).get x=s.get x:=hops x (by simp[Op.operands,Call.operands])
 have hgets:∀l:List Operand,(∀z∈l,z∈(Op.call ⟨.value x,args,ts⟩).operands.toList)->G3 (s.put ox.dst v).get l=G3 s.get l:=by
  intro l
  induction l with
  | nil=>intro _;rfl
  | cons z l ih=>intro hz;rw[G3,G3,hops z (hz z (List.mem_cons_self ..)),ih λz' h'=>hz z' (List.mem_cons_of_mem _ h')]
 have hargs:G3 (s.put ox.dst v).get args.toList=G3 s.get args.toList:=hgets _ λz hz=>by
  have hz:z∈args:=by simpa using hz
  simp[Op.operands,Call.operands,hz]
 have ho:(s.put ox.dst v).o=s.o:=a2M ..
 have hturn:a16 (a4Q all y) (s.put ox.dst v) x args.toList=a16 (a4Q all y) s x args.toList:=by
  unfold a16;rw[hget,hargs,ho]
 have e0:∀(s:S) (R:S->Prop),N7 j1 (n5 all) all y ⟨dst,.call ⟨.value x,args,ts⟩,ty,p,a,none⟩ s R=match a16 (a4Q all y) s x args.toList with
   | some (f,vs)=>j1.callx f vs l s (λv s'=>R (s'.put dst v))
   | none=>m9 j1 (n5 all) ⟨dst,.call ⟨.value x,args,ts⟩,ty,p,a,none⟩ s R:=λs R=>by
  show I6 j1 all y s dst R (.call ⟨.value x,args,ts⟩)=_;rw[I6];cases a16 (a4Q all y) s x args.toList with
  | none=>rfl
  | some fv=>obtain⟨f,vs⟩:=fv;simp only[hty,hby]
 rw[e0] at h1 ⊢;rw[hturn] at h1;cases hT:a16 (a4Q all y) s x args.toList with
 | none =>
  rw[hT] at h1;simp only at h1 ⊢;refine b8k hap hP ?_;exact h2 s (λs=>m9 j1 (n5 all) ⟨dst,.call ⟨.value x,args,ts⟩,ty,p,a,none⟩ s R) (λ_ _=>rfl) (λ_ _ _ _=>rfl) h1
 | some fv =>
  obtain⟨f,vs⟩:=fv;rw[hT] at h1;simp only at h1 ⊢;have h1:a0H f vs (s.put ox.dst v).o λu o'=>a1n l (s.put ox.dst v).t (s.put ox.dst v).o o'/\R (S.put ⟨(s.put ox.dst v).t,o'⟩ dst u):=h1
  rw[ho] at h1;refine a0H.mono h1 λu o' ⟨hkp,hR⟩=>?_
  have hkp':a1n l s.t s.o o':=λi hi k hik=>by
   by_cases hd:ox.dst=some i
   ·-- a loaded variable's slot is not filled here
    exfalso
    obtain⟨_,_,_,_,_,_,_,_,hbl⟩:=a22 hby
    have h5:=T5 hbl i hi;rw[a89 (by rw[<-hd];exact a9F hxm)] at h5;cases h5
   ·refine hkp i hi k ?_
    rw[show o6 (s.put ox.dst v).t i=o6 s.t i by
     cases hxd:ox.dst with
     | none=>rfl
     | some d=>exact a0X λe=>hd (by rw[hxd,e])]
    exact hik
  refine⟨hkp',h2 _ R (λt ht=>?_) (by rw[a2M];exact hkp') ?_⟩
  ·cases hd:dst with
   | none=>rfl
   | some d=>exact a0X λe=>by subst e;exact G9 hn2 _ hd ht
  ·have hcm:(S.put ⟨s.t,o'⟩ dst u).put ox.dst v=S.put ⟨(s.put ox.dst v).t,o'⟩ dst u:=by
    rw[a0Y (λz hz hz'=>by
     rw[Bool.or_eq_true] at hn3
     rcases hn3 with h|h
     ·rw[hz'] at h;cases h
     ·rw[hz',hz] at h;simp at h)]
    cases ox.dst <;> rfl
   rw[hcm];exact hR
theorem a3d {prs:List (Nat×Nat)} {all:List Oper} {y:Nat} {oy:Oper} {l:List Nat} (hoy:all[y]?=some oy) (hty:a4P all y=false) (hby:a1t all y=some l):∀ {pre post:List Nat} {s:S} {K:S->Prop},(∀x∈pre,a6n all x/\∀ox,all[x]?=some ox->a3b (n5 all) prs ox oy=true/\a6l prs ox/\(I5 ox.dst (looks (n5 all) oy) && I5 oy.dst (looks (n5 all) ox) && (ox.dst.isNone || ox.dst != oy.dst))=true/\∃ks,a0y (n5 all) ox=some ks/\∀k∈ks,k∈l)->PP prs s->a0i (n5 all) all (pre++y::post) s K->a0i (n5 all) all (y::(pre++post)) s K
 | [],post,s,K,_,_,h=>h
 | x::pre,post,s,K,ha,hP,h=>by
  rw[List.cons_append,a0i] at h;obtain⟨hx,hxx⟩:=ha x (List.mem_cons_self ..);cases hox:all[x]? with
  | none =>
   rw[hox] at h;have h1:=a3d hoy hty hby (λz hz=>ha z (List.mem_cons_of_mem _ hz)) hP h;rw[a0i,hoy] at h1 ⊢;simp only at h1 ⊢;refine a3G.execD_mono (λs hs=>?_) h1;rw[List.cons_append,a0i,hox];exact hs
  | some ox =>
   rw[hox] at h;simp only at h;obtain⟨hap,hf,hn,ks,hks,hkl⟩:=hxx ox hox;rw[a0Z hx] at h
   have h2:m9 j1 (n5 all) ox s λs=>N7 j1 (n5 all) all y oy s λs=>a0i (n5 all) all (pre++post) s K:=Q7 (λs hs=>by
    have:=a3d hoy hty hby (λz hz=>ha z (List.mem_cons_of_mem _ hz)) hs.1 hs.2;rw[a0i,hoy] at this
    exact this) (a1X hP hf h)
   rw[a0i,hoy];simp only;have h3:=c0z (prs:=prs) hoy hty hby hn hks hkl hap (List.mem_of_getElem? hox) hP h2;refine a3G.execD_mono (λs hs=>?_) h3;rw[List.cons_append,a0i,hox];simp only;rw[a0Z hx];exact hs
def a6o (dsts:List (Option Nat)) (prs:List (Nat×Nat)) (ops:List Oper) (an:List (List Nat)) (j i:Nat):Bool:=(an.getD i []).contains j || match ops[j]?,ops[i]? with|some x,some y=>a3b dsts prs x y|_,_=>true
def a6p (ops:Array Oper):Bool :=
 let l:=ops.toList
 let an:=G6 l []
 let d:=n5 l
 l.all (b2m (M5 l)) && (List.range l.length).all λi=>(an.getD i []).all (λj=>Nat.blt j i) && (List.range i).all λj=>a6o d (M5 l) l an j i
theorem a6q:∀(l:List Oper) (acc:List (List Nat)) (i:Nat),i<acc.length->(G6 l acc)[i]?=acc[i]?
 | [],acc,i,_=>rfl
 | o::l,acc,i,h=>by rw[G6,a6q l _ i (by simp;omega),List.getElem?_append_left h]
theorem b2v:∀(l:List Oper) (acc:List (List Nat)) (i:Nat) (o:Oper),l[i]?=some o->(G6 l acc)[acc.length+i]?=some ((a1s o).flatMap λj=>j::(if j<acc.length+i then (G6 l acc).getD j [] else []))
 | [],acc,i,o,h=>by simp at h
 | x::l,acc,0,o,h=>by
  simp at h
  subst h;rw[G6,Nat.add_zero,a6q l _ _ (by simp),List.getElem?_append_right (Nat.le_refl _)];simp only[Nat.sub_self,List.getElem?_cons_zero,Option.some.injEq]
  congr 1
  funext j
  congr 1
  split
  ·rename_i hj;rw[List.getD_eq_getElem?_getD,List.getD_eq_getElem?_getD,a6q l _ j (by simp;omega),List.getElem?_append_left hj]
  ·rename_i hj;rw[List.getD_eq_getElem?_getD,List.getElem?_eq_none (by omega)];rfl
 | x::l,acc,i+1,o,h=>by
  have:=b2v l (acc++[(a1s x).flatMap λj=>j::acc.getD j []]) i o (by simpa using h);rw[G6];have e:(acc++[(a1s x).flatMap λj=>j::acc.getD j []]).length+i=acc.length+(i+1):=by simp;omega
  rw[e] at this;exact this
section
variable {I0:Nat->Nat->Prop} {X:Nat->Prop} {w0:W0} {s:S} {a:Act} {w:World}
theorem c00 {ro:Option Nat} {n:Nat} {ops:Array Oper} {Q:Exit->Act->World->Prop} {o:Oper} (hop:Z8 Tryz.prog o.op=true) (h:Z3 I0 X w0 s a w) {K1:S->Prop} {ix:Nat} (hx:N7 j1 (n5 ops.toList) ops.toList ix o s K1) {Kw:Act->World->Prop} (hKw:∀s' a' w',Z3 I0 X w0 s' a' w'->K1 s'->Kw a' w'):if Region.wanted o (yielded ops a.tmps) then o.wpIn (FW ro) n Tryz.prog a w Kw Q else (∀f,o.about Tryz.prog w a.eval=some f->(FW ro).fn f)/\Kw (a.put o.dst undef) w:=by
 obtain⟨dst,op,type,pos,after,gd⟩:=o
 have hstep:I6 j1 ops.toList ix s dst K1 op->Oper.wpIn (FW ro) n Tryz.prog ⟨dst,op,type,pos,after,gd⟩ a w Kw Q:=λhs=>by
  obtain⟨I,g,h⟩:=h;have h0:B6 j1 false s dst K1 op->Oper.wpIn (FW ro) n Tryz.prog ⟨dst,op,type,pos,after,gd⟩ a w Kw Q:=λhs=>a71 (λc hc=>a0V hop c hc) (Oper.wp_mono (λa' w' ⟨s',h1,h2⟩=>hKw s' a' w' h1 h2) (a83 h (o:=⟨dst,op,type,pos,after,gd⟩) (Q:=Q) hop hs))
  unfold I6 at hs
  split at hs
  ·rename_i x args ts
   split at hs
   ·rename_i f vs hf
    split at hs
    ·unfold a16 at hf
     split at hf <;> try cases hf
     rename_i f' ks hfn
     replace hf:some (f',a2B (G3 s.get args.toList) (a54 ks))=some (f,vs):=by
      split at hf
      ·exact hf
      ·split at hf
       ·cases hf
       ·exact hf
     injection hf with hf;injection hf with e1 e2;subst e1;obtain⟨cs,hc1,hc2⟩:=b4E h hfn;refine a71 (λc hc=>a0V hop c hc) (Oper.wp_mono (λa' w' ⟨s',h1,h2⟩=>hKw s' a' w' h1 h2) (a5W h (o:=⟨dst,.call ⟨.value x,args,ts⟩,type,pos,after,gd⟩) (λhf=>a0l (cs:=cs) rfl hc1 hf) ?_ hs));rw[<-e2,a08];exact(h.gets args.toList).append hc2
    ·split at hs
     ·unfold a16 at hf
      split at hf <;> try cases hf
      rename_i f' ks hfn
      replace hf:some (f',a2B (G3 s.get args.toList) (a54 ks))=some (f,vs):=by
       split at hf
       ·exact hf
       ·split at hf
        ·cases hf
        ·exact hf
      injection hf with hf;injection hf with e1 e2;subst e1;obtain⟨cs,hc1,hc2⟩:=b4E h hfn;refine a71 (λc hc=>a0V hop c hc) (Oper.wp_mono (λa' w' ⟨s',h1,h2⟩=>hKw s' a' w' h1 h2) (b4C h (o:=⟨dst,.call ⟨.value x,args,ts⟩,type,pos,after,gd⟩) (λhf=>a0l (cs:=cs) rfl hc1 hf) ?_ hs));rw[<-e2,a08];exact(h.gets args.toList).append hc2
     ·exact h0 hs
   ·exact h0 hs
  ·exact h0 hs
 have hskip:K1 (s.put dst T1)->Kw (a.put dst undef) w:=λhs=>by
  obtain⟨I,g,h⟩:=h;exact hKw _ _ w ⟨I,g,h.put (x:=T1) (.tu [] [] rfl (λi u c hu _=>by simp at hu)) dst⟩ hs
 cases gd with
 | none =>
  rw[if_pos (by rfl)];exact hstep hx
 | some jb =>
  obtain⟨j,b⟩:=jb
  have hx':guard s (n5 ops.toList) j (fun
   | some c=>match bEq c b with
    | true=>I6 j1 ops.toList ix s dst K1 op
    | false=>K1 (s.put dst T1)
   | none=>K1 (s.put dst T1)):=hx
  obtain⟨c,hc,hK⟩:=a5Z h hx';have hw:Region.wanted ⟨dst,op,type,pos,after,some (j,b)⟩ (yielded ops a.tmps)=(c == some b):=by simp[Region.wanted,hc]
  rw[hw];cases c with
  | none =>
   rw[if_neg (by simp)];exact⟨λ_ _=>trivial,hskip hK⟩
  | some c =>
   simp only at hK
   split at hK
   ·rename_i hb;rw[a0I] at hb;rw[if_pos (by simpa using hb)];exact hstep hK
   ·rename_i hb;rw[a0I] at hb;rw[if_neg (by simpa using hb)];exact⟨λ_ _=>trivial,hskip hK⟩
theorem b2w {ops:Array Oper} {i:Nat} {o:Oper} (h:ops[i]?=some o) (hlt:∀j∈(G6 ops.toList []).getD i [],j<i):(G6 ops.toList []).getD i []=(a1s o).flatMap λj=>j::(G6 ops.toList []).getD j []:=by
 have h1:=b2v ops.toList [] i o (by simpa using h);simp only[List.length_nil,Nat.zero_add] at h1
 have h2:(G6 ops.toList []).getD i []=(a1s o).flatMap λj=>j::(if j<i then (G6 ops.toList []).getD j [] else []):=by
  rw[List.getD_eq_getElem?_getD,h1];rfl
 have h3:∀j∈a1s o,j<i:=λj hj=>hlt j (by rw[h2];exact List.mem_flatMap.2 ⟨j,hj,List.mem_cons_self ..⟩)
 rw[h2,List.flatMap_def,List.flatMap_def]
 congr 1
 exact List.map_congr_left λj hj=>by rw[if_pos (h3 j hj)]
theorem a6r {o:Oper} {e:Edge} (he:e∈o.after) (hb:Region.binds .any e=true):e.on∈a1s o:=List.mem_map.2 ⟨e,List.mem_filter.2 ⟨by simpa using he,hb⟩,rfl⟩
theorem b6Q {ro:Option Nat} {n:Nat} {ops:Array Oper} {Q:Exit->Act->World->Prop} {K:S->Prop} (hQ:∀s' a' w',Z3 I0 X w0 s' a' w'->K s'->Q .normal a' w') (hok:b2n Tryz.prog ops.toList=true) (hd:a6p ops=true) (hfree:∀o∈ops.toList,a6l (M5 ops.toList) o):∀(fuel:Nat) (l:List Nat) (listed:Array Bool) (s:S) (a:Act) (w:World),l.length=fuel->listed.size=ops.size->l.Pairwise (·<·)->(∀i,i∈l↔i<ops.size/\listed.getD i true=false)->(∀i,i<ops.size->listed.getD i false=true->∀j∈(G6 ops.toList []).getD i [],listed.getD j false=true)->Z3 I0 X w0 s a w->PP (M5 ops.toList) s->a0i (n5 ops.toList) ops.toList l s K->wpAnyIn (FW ro) n Tryz.prog .any ops Q fuel listed a w:=by
 have hd':∀i,i<ops.size->(∀j∈(G6 ops.toList []).getD i [],j<i)/\∀j,j<i->a6o (n5 ops.toList) (M5 ops.toList) ops.toList (G6 ops.toList []) j i=true:=λi hi=>by
  have h1:=List.all_eq_true.1 (Bool.and_eq_true_iff.1 hd).2 i (by simpa using hi);rw[Bool.and_eq_true] at h1;exact⟨λj hj=>by simpa [Nat.blt_eq] using List.all_eq_true.1 h1.1 j hj,λj hj=>List.all_eq_true.1 h1.2 j (by simpa using hj)⟩
 intro fuel
 induction fuel with
 | zero =>
  intro l listed s a w hl hsz hp hmem hcl hrel hPP hK;obtain rfl:=List.length_eq_zero_iff.1 hl;refine⟨?_,hQ _ _ _ hrel hK⟩;cases hr:Region.ready .any ops listed with
  | nil=>rfl
  | cons x xs =>
   obtain⟨h1,o,h2,_⟩:=mem_ready.1 (show x∈Region.ready .any ops listed by rw[hr];exact List.mem_cons_self ..);have:=(hmem x).2 ⟨(Array.getElem?_eq_some_iff.1 h2).1,h1⟩
   simp at this
 | succ fuel ih =>
  intro l listed s a w hl hsz hp hmem hcl hrel hPP hK
  have un:∀j,j∈l->listed.getD j false=true->False:=λj hj h=>by
   obtain⟨h1,h2⟩:=(hmem j).1 hj
   simp[hsz,h1] at h h2
   rw[h2] at h;cases h
  refine⟨λhr=>?_,λi hi=>?_⟩
  ·exfalso;cases l with
   | nil=>simp at hl
   | cons i0 rest =>
    obtain⟨h1,h2⟩:=(hmem i0).1 (List.mem_cons_self ..);obtain⟨o,ho⟩:∃o,ops[i0]?=some o:=⟨_,Array.getElem?_eq_getElem h1⟩
    have:i0∈Region.ready .any ops listed:=mem_ready.2 ⟨h2,o,ho,λe he hb=>by
     have h3:e.on∈(G6 ops.toList []).getD i0 []:=by
      rw[b2w ho (hd' i0 h1).1];exact List.mem_flatMap.2 ⟨e.on,a6r he hb,List.mem_cons_self ..⟩
     have h4:=(hd' i0 h1).1 _ h3
     have h5:¬(e.on∈i0::rest):=λhm=>by
      rcases List.mem_cons.1 hm with hm|hm
      ·omega
      ·have:=(List.pairwise_cons.1 hp).1 _ hm;omega
     have h6:listed.getD e.on true=true:=by
      cases hx:listed.getD e.on true with
      | true=>rfl
      | false=>exact absurd ((hmem e.on).2 ⟨by omega,hx⟩) h5
     have hlt:e.on<listed.size:=by omega
     simpa [hlt] using h6⟩
    rw[hr] at this
    simp at this
  ·obtain⟨h1,o,ho,hall⟩:=mem_ready.1 hi;have hlt:=(Array.getElem?_eq_some_iff.1 ho).1;have hil:i∈l:=(hmem i).2 ⟨hlt,h1⟩
   have han:∀j∈(G6 ops.toList []).getD i [],listed.getD j false=true:=λj hj=>by
    rw[b2w ho (hd' i hlt).1] at hj;obtain⟨k,hk,hj⟩:=List.mem_flatMap.1 hj;obtain⟨e,he,hek⟩:=List.mem_map.1 hk;obtain⟨he1,he2⟩:=List.mem_filter.1 he;subst hek;have h3:=hall e (by simpa using he1) he2
    rcases List.mem_cons.1 hj with rfl|hj
    ·exact h3
    ·have:e.on<ops.size:=by
      rcases Nat.lt_or_ge e.on listed.size with h'|h'
      ·omega
      ·simp[Array.getElem?_eq_none h'] at h3
     exact hcl _ this h3 j hj
   obtain⟨pre,post,rfl⟩:=List.append_of_mem hil;have hpp:=List.pairwise_append.1 hp;have hot:ops.toList[i]?=some o:=by rw[Array.getElem?_toList];exact ho
   have hpre:∀j∈pre,j<i/\j∉(G6 ops.toList []).getD i []:=λj hj=>⟨hpp.2.2 j hj i (List.mem_cons_self ..),λhm=>un j (List.mem_append_left _ hj) (han j hm)⟩
   have tot:∀k,a4P ops.toList k=true->k<ops.size->∀j,j<ops.size->j≠k->(j<k->j∈(G6 ops.toList []).getD k [])/\(k<j->k∈(G6 ops.toList []).getD j []):=λk hk hks j hj hjk=>by
    have h3:=List.all_eq_true.1 hk j (by simpa using hj);simp only[Bool.or_eq_true,Bool.and_eq_true,Nat.beq_eq,Nat.blt_eq,List.contains_iff_mem] at h3
    rcases h3 with (h3|h3)|h3
    ·exact absurd h3 hjk
    ·exact⟨λ_=>h3.2,λh=>by omega⟩
    ·exact⟨λh=>by omega,λ_=>h3.2⟩
   have hf:a0i (n5 ops.toList) ops.toList (i::(pre++post)) s K:=by
    cases hti:a4P ops.toList i with
    | true =>
     have:pre=[]:=by
      cases pre with
      | nil=>rfl
      | cons j pre =>
       obtain⟨h3,h4⟩:=hpre j (List.mem_cons_self ..);exact absurd ((tot i hti hlt j (by omega) (by omega)).1 h3) h4
     subst this;exact hK
    | false =>
     have hpl:∀j∈pre,a6n ops.toList j:=λj hj=>by
      obtain⟨hji,hja⟩:=hpre j hj;refine⟨?_,?_⟩
      ·cases htj:a4P ops.toList j with
       | false=>rfl
       | true=>exact absurd ((tot j htj (by omega) i hlt (by omega)).2 hji) hja
      ·cases hbj:a1t ops.toList j with
       | none=>rfl
       | some r =>
        exfalso;obtain⟨_,_,_,_,_,_,_,_,hbl⟩:=a22 hbj;have h4:=(a3c hbl i o hot (by omega)).2 (by omega);rw[Nat.zero_add] at h4;exact hja (by simpa using h4)
     have hap:∀j∈pre,∀ox,ops.toList[j]?=some ox->a3b (n5 ops.toList) (M5 ops.toList) ox o=true:=λj hj ox hox=>by
      obtain⟨hji,hja⟩:=hpre j hj;have h3:=(hd' i hlt).2 j hji;rw[a6o,Bool.or_eq_true] at h3
      rcases h3 with h3|h3
      ·exact absurd (by simpa using h3) hja
      ·rw[hox,hot] at h3;exact h3
     cases hbi:a1t ops.toList i with
     | none=>exact a40 (prs:=M5 ops.toList) hot ⟨hti,hbi⟩ (λj hj=>⟨hpl j hj,λox hox=>⟨hap j hj ox hox,hfree ox (List.mem_of_getElem? hox)⟩⟩) hPP hK
     | some r =>
      refine a3d (prs:=M5 ops.toList) hot hti hbi (λj hj=>⟨hpl j hj,λox hox=>⟨hap j hj ox hox,hfree ox (List.mem_of_getElem? hox),?_⟩⟩) hPP hK;obtain⟨hji,hja⟩:=hpre j hj;obtain⟨_,_,_,_,_,_,_,hoi,hbl⟩:=a22 hbi;rw[hot] at hoi;have hoi:=Option.some.inj hoi;subst hoi;have h4:=(a3c hbl j ox hox (by omega)).1 (by omega);rw[Nat.zero_add] at h4
      rcases h4 with h4|⟨h5,ks,h6,h7⟩
      ·exact absurd (by simpa using h4) hja
      ·exact⟨h5,ks,h6,h7⟩
   rw[a0i,hot] at hf;simp only at hf;have hom:o∈ops.toList:=List.mem_of_getElem? hot;have hf:=a9E hPP (hfree o hom) hf
   have key:=c00 (ro:=ro) (n:=n) (Q:=Q) (List.all_eq_true.1 hok o (List.mem_of_getElem? (by rw[Array.getElem?_toList];exact ho))) hrel hf (Kw:=wpAnyIn (FW ro) n Tryz.prog .any ops Q fuel (listed.setIfInBounds i true)) (λs' a' w' hrel' hK'=>by
    refine ih (pre++post) _ s' a' w' (by simp at hl ⊢;omega) (by simpa using hsz) ?_ (λk=>?_) (λk hk hkl j hj=>?_) hrel' hK'.1 hK'.2
    ·exact List.pairwise_append.2 ⟨hpp.1,(List.pairwise_cons.1 hpp.2.1).2,λx hx y hy=>hpp.2.2 x hx y (List.mem_cons_of_mem _ hy)⟩
    ·by_cases hik:i=k
     ·subst hik;refine⟨λhm=>?_,λhm=>?_⟩
      ·rcases List.mem_append.1 hm with hm|hm
       ·have:=hpp.2.2 _ hm i (List.mem_cons_self ..);omega
       ·have:=(List.pairwise_cons.1 hpp.2.1).1 _ hm;omega
      ·have h6:=hm.2;have hlt':i<listed.size:=by omega
       simp[hlt'] at h6
     ·rw[getD_set_ne true hik,<-hmem k];simp only[List.mem_append,List.mem_cons];exact⟨λh=>h.imp id .inr,λh=>h.imp id λh=>h.resolve_left λe=>hik e.symm⟩
    ·by_cases hik:i=k
     ·subst hik;exact getD_set_true (han j hj)
     ·rw[getD_set_ne false hik] at hkl
      exact getD_set_true (hcl k hk hkl j hj))
   unfold wpOpIn;rw[ho];simp only
   split at key
   ·rename_i hw;rw[if_pos hw];exact key
   ·rename_i hw;rw[if_neg hw];exact key
theorem b6R {ro:Option Nat} {n:Nat} {ops:Array Oper} {Q:Exit->Act->World->Prop} {K:S->Prop} (hQ:∀s' a' w',Z3 I0 X w0 s' a' w'->K s'->Q .normal a' w') (hok:b2n Tryz.prog ops.toList=true) (hd:a6p ops=true) (h:Z3 I0 X w0 s a w) (hpre:a7y (M5 ops.toList) s.t=true) (hK:b0U j1 (n5 ops.toList) ops.toList 0 ops.toList s K):wpAnyIn (FW ro) n Tryz.prog .any ops Q ops.size (Array.replicate ops.size false) a w:=by
 refine b6Q hQ hok hd (λo ho=>b4X (List.all_eq_true.1 (Bool.and_eq_true_iff.1 hd).1 o ho)) ops.size (List.range ops.size) _ s a w (by simp) (by simp) List.pairwise_lt_range (λi=>?_) (λi hi h=>?_) h (b8j hpre) ?_
 ·rw[List.mem_range];exact⟨λhi=>⟨hi,by simp[hi]⟩,λh=>h.1⟩
 ·simp[hi] at h
 ·have h3:=a3G ops.toList 0 s K (by simp) hK;rw[<-List.range_eq_range'] at h3
  simpa using h3
end
end
end Go.Proofs.YtncijebklnbhlaaGreatDoor.Vm
end
